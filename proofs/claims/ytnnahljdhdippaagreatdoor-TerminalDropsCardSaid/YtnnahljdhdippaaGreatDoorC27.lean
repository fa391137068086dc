/- Parts of a proof (RefC). No condition. -/
import Derived.Test.YtnnahljdhdippaaGreatDoorC25
import Derived.Test.YtnnahljdhdippaaGreatDoorC11
import Derived.Test.YtnnahljdhdippaaGreatDoorC26
namespace Go.Proofs.YtnnahljdhdippaaGreatDoor
set_option maxRecDepth 100000
set_option maxHeartbeats 6400000
open Go.RowKit
abbrev TAdrR:TypeId:=242
abbrev TCtlR:TypeId:=239
theorem ra_make (s t:Int) (c n:Bool) (w0 w:World) (R:HP) (h:St w0 w R) :
  Calls Tryz.prog 105 #[.int .i64 s,.int .i64 t,.bool c,.bool n] w fun e w'=>e=.returned (.agg #[.int .i64 s,.int .i64 t,.bool (c == n)])/\St w0 w' R:=by
 have h1:=h.alloc (.cells #[.int .i64 0,.int .i64 0,.bool false] TAdrR);obtain⟨z,hz⟩:∃ z,(c == n)=z:=⟨_,rfl⟩;rw[hz];have h9:=((h1.set 0 (.int .i64 s)).set 1 (.int .i64 t)).set 2 (.bool z);have c1:=h1.cell;have f1:=h1.free;cases c with
 | true =>
   cases n with
   | true =>
     obtain rfl:true=z:=hz;go_enter Tryz.func105,Tryz.ntmps105
     go_upto_region 1 with fail
     generalize w.alloc _=wa at *;generalize w.heap.size=ga at *;go_wp2;have cr:=h9.cell;refine bodyPost_ret (v:=.agg #[.int .i64 s,.int .i64 t,.bool true]) (by simp[results,Tryz.results105,go_sem,cr]) rfl ⟨rfl,h9.drop⟩
   | false =>
     obtain rfl:false=z:=hz;go_enter Tryz.func105,Tryz.ntmps105
     go_upto_region 1 with fail
     generalize w.alloc _=wa at *;generalize w.heap.size=ga at *;go_wp2;have cr:=h9.cell;refine bodyPost_ret (v:=.agg #[.int .i64 s,.int .i64 t,.bool false]) (by simp[results,Tryz.results105,go_sem,cr]) rfl ⟨rfl,h9.drop⟩
 | false =>
   cases n with
   | true =>
     obtain rfl:false=z:=hz;go_enter Tryz.func105,Tryz.ntmps105
     go_upto_region 1 with fail
     generalize w.alloc _=wa at *;generalize w.heap.size=ga at *;go_wp2;have cr:=h9.cell;refine bodyPost_ret (v:=.agg #[.int .i64 s,.int .i64 t,.bool false]) (by simp[results,Tryz.results105,go_sem,cr]) rfl ⟨rfl,h9.drop⟩
   | false =>
     obtain rfl:true=z:=hz;go_enter Tryz.func105,Tryz.ntmps105
     go_upto_region 1 with fail
     generalize w.alloc _=wa at *;generalize w.heap.size=ga at *;go_wp2;have cr:=h9.cell;refine bodyPost_ret (v:=.agg #[.int .i64 s,.int .i64 t,.bool true]) (by simp[results,Tryz.results105,go_sem,cr]) rfl ⟨rfl,h9.drop⟩
def adrD (s t:Int) (cr:Bool):ByteArray × Int:=if s<0\/63<s\/t<0\/127<t then (noStr,2) else (octets (adrO s t cr),0)
theorem ra_put (s t:Int) (cr:Bool) (w0 w:World) (R:HP) (h:St w0 w R) :
  Calls Tryz.prog 106 #[.agg #[.int .i64 s,.int .i64 t,.bool cr]] w fun e w'=>e=.returned (.tuple #[.string (adrD s t cr).1,.int .i64 (adrD s t cr).2])/\St w0 w' R:=by
 have h1:=h.alloc (.cells #[.int .i64 s,.int .i64 t,.bool cr] TAdrR);have c1:=h1.cell;unfold adrD;by_cases e1:s<0
 ·have d1:decide (s<0)=true:=by simp;omega
  rw[if_pos (by omega)];go_enter Tryz.func106,Tryz.ntmps106
  go_wp2;go_ret2
  exact⟨rfl,h1.drop⟩
 ·have d1:decide (s<0)=false:=by simp;omega
  by_cases e2:63<s
  ·have d2:decide (63<s)=true:=by simp;omega
   rw[if_pos (by omega)];go_enter Tryz.func106,Tryz.ntmps106
   go_wp2;go_ret2
   exact⟨rfl,h1.drop⟩
  ·have d2:decide (63<s)=false:=by simp;omega
   by_cases e3:t<0
   ·have d3:decide (t<0)=true:=by simp;omega
    rw[if_pos (by omega)];go_enter Tryz.func106,Tryz.ntmps106
    go_wp2;go_ret2
    exact⟨rfl,h1.drop⟩
   ·have d3:decide (t<0)=false:=by simp;omega
    by_cases e4:127<t
    ·have d4:decide (127<t)=true:=by simp;omega
     rw[if_pos (by omega)];go_enter Tryz.func106,Tryz.ntmps106
     go_wp2;go_ret2
     exact⟨rfl,h1.drop⟩
    ·have d4:decide (127<t)=false:=by simp;omega
     cases cr with
     | true =>
       rw[if_neg (by omega)];unfold adrO;obtain⟨x,hx⟩:∃ x,4*s+2=x:=⟨_,rfl⟩;obtain⟨y,hy⟩:∃ y,2*t+1=y:=⟨_,rfl⟩;have ex:2*bitI true+4*s=x:=by rw[show bitI true=1 from rfl];omega
       rw[ex,hy];have hp0:0<=x/\x<256:=by omega
       have hq0:0<=y/\y<256:=by omega
       have wp:IntKind.u8.wrap x=x:=by rw[IntKind.wrap_u8];omega
       have wq:IntKind.u8.wrap y=y:=by rw[IntKind.wrap_u8];omega
       clear ex;go_enter Tryz.func106,Tryz.ntmps106
       go_upto_region 1 with fail
       generalize w.alloc _=wa at *;generalize w.heap.size=ga at *;have hb:=run_octets (P:=Tryz.prog) (src:=121) (dst:=9) (e:=5) Tryz.underlying121 Tryz.underlying5 Tryz.underlying9 (wa.alloc (.cells #[.int .u8 x,.int .u8 y] 5)) ⟨wa.heap.size,0,none⟩ 2 [x,y] 2 rfl
        (by intro n hn;simp at hn;omega) (by intro j hj;rw[add_none];match j,hj with | 0,_=>simp | 1,_=>simp)
       go_wp2;go_ret2
       exact⟨rfl,(h1.alloc _).drop.drop⟩
     | false =>
       rw[if_neg (by omega)];unfold adrO;obtain⟨x,hx⟩:∃ x,4*s=x:=⟨_,rfl⟩;obtain⟨y,hy⟩:∃ y,2*t+1=y:=⟨_,rfl⟩;have ex:2*bitI false+4*s=x:=by rw[show bitI false=0 from rfl];omega
       rw[ex,hy];have hp0:0<=x/\x<256:=by omega
       have hq0:0<=y/\y<256:=by omega
       have wp:IntKind.u8.wrap x=x:=by rw[IntKind.wrap_u8];omega
       have wq:IntKind.u8.wrap y=y:=by rw[IntKind.wrap_u8];omega
       clear ex;go_enter Tryz.func106,Tryz.ntmps106
       go_upto_region 1 with fail
       generalize w.alloc _=wa at *;generalize w.heap.size=ga at *;have hb:=run_octets (P:=Tryz.prog) (src:=121) (dst:=9) (e:=5) Tryz.underlying121 Tryz.underlying5 Tryz.underlying9 (wa.alloc (.cells #[.int .u8 x,.int .u8 y] 5)) ⟨wa.heap.size,0,none⟩ 2 [x,y] 2 rfl
        (by intro n hn;simp at hn;omega) (by intro j hj;rw[add_none];match j,hj with | 0,_=>simp | 1,_=>simp)
       go_wp2;go_ret2
       exact⟨rfl,(h1.alloc _).drop.drop⟩
theorem ra_cmd (s t:Int) (c n:Bool) (w0 w:World) (R:HP) (h:St w0 w R) :
  Calls Tryz.prog 193 #[.agg #[.int .i64 s,.int .i64 t,.bool c],.bool n] w fun e w'=>e=.returned (.bool (c == n))/\St w0 w' R:=by
 have h2:=h.alloc (.cells #[.int .i64 s,.int .i64 t,.bool c] TAdrR);have c2:=h2.cell;cases c with
 | true =>
   cases n with
   | true =>
     go_enter Tryz.func193,Tryz.ntmps193
     go_wp2;go_ret
     exact⟨rfl,h2.drop⟩
   | false =>
     go_enter Tryz.func193,Tryz.ntmps193
     go_wp2;go_ret
     exact⟨rfl,h2.drop⟩
 | false =>
   cases n with
   | true =>
     go_enter Tryz.func193,Tryz.ntmps193
     go_wp2;go_ret
     exact⟨rfl,h2.drop⟩
   | false =>
     go_enter Tryz.func193,Tryz.ntmps193
     go_wp2;go_ret
     exact⟨rfl,h2.drop⟩
theorem ra_get (s:ByteArray) (w0 w:World) (R:HP) (h:St w0 w R) (hs:s.size<=1000000000) :
  Calls Tryz.prog 191 #[.string s] w fun e w'=>e=.returned (.tuple #[.agg (adrG s).1.cells.toArray,.int .i64 (adrG s).2])/\St w0 w' R:=by
 obtain⟨n,hn⟩:∃ n,s.size=n:=⟨_,rfl⟩;have h1:=h.alloc (.cells #[.int .i64 0,.int .i64 0,.bool false] TAdrR);unfold adrG;rw[hn] at hs ⊢;have c:=h1.cell;have f:=h1.free;by_cases h2:n<2
 ·rw[if_pos h2]
  have b2:decide ((n:Int)<2)=true:=by simp;omega
  go_enter Tryz.func191,Tryz.ntmps191
  go_upto_region 2 with fail
  generalize w.alloc _=wa at *;generalize w.heap.size=ga at *;have h9:=((h1.set 0 (.int .i64 0)).set 1 (.int .i64 0)).set 2 (.bool false);go_wp2;have cr:=h9.cell;refine bodyPost_ret (v:=.tuple #[.agg #[.int .i64 0,.int .i64 0,.bool false],.int .i64 3]) (by simp[results,Tryz.results191,go_sem,cr]) rfl ⟨rfl,h9.drop⟩
 ·rw[if_neg h2]
  have b2:decide ((n:Int)<2)=false:=by simp;omega
  have hx:∀ w,(Instr.index 9 (.string s) (.int .i64 0)).run Tryz.prog w=.ok (.int .u8 (byteAt s 0)) w:=str_at s 0 (by omega);have hy:∀ w,(Instr.index 9 (.string s) (.int .i64 1)).run Tryz.prog w=.ok (.int .u8 (byteAt s 1)) w:=str_at s 1 (by omega);obtain⟨x0,x1⟩:=byteAt_range s 0;obtain⟨y0,y1⟩:=byteAt_range s 1;generalize byteAt s 0=x at *;generalize byteAt s 1=y at *;have hxw:Int.tmod x 2=x % 2:=Int.tmod_eq_emod_of_nonneg x0;have hyw:Int.tmod y 2=y % 2:=Int.tmod_eq_emod_of_nonneg y0;by_cases e1:x % 2=0
  ·have q1:(x % 2 == 1)=false:=by simp[e1]
   by_cases e2:y % 2=0
   ·rw[if_pos (.inr e2)]
    have q2:(y % 2 == 0)=true:=by simp[e2]
    clear e1 e2;go_enter Tryz.func191,Tryz.ntmps191
    go_upto_region 6 with fail
    generalize w.alloc _=wa at *;generalize w.heap.size=ga at *;have h9:=((h1.set 0 (.int .i64 0)).set 1 (.int .i64 0)).set 2 (.bool false);go_wp2;have cr:=h9.cell;refine bodyPost_ret (v:=.tuple #[.agg #[.int .i64 0,.int .i64 0,.bool false],.int .i64 4]) (by simp[results,Tryz.results191,go_sem,cr]) rfl ⟨rfl,h9.drop⟩
   ·rw[if_neg (by rintro (h | h) <;> contradiction)]
    have q2:(y % 2 == 0)=false:=by simp[e2]
    have v1:Int.tdiv x 4=x / 4:=Int.tdiv_eq_ediv_of_nonneg x0;have v2:Int.tdiv y 2=y / 2:=Int.tdiv_eq_ediv_of_nonneg y0;have v3:Int.tdiv x 2=x / 2:=Int.tdiv_eq_ediv_of_nonneg x0;have v4:Int.tmod (x / 2) 2=x / 2 % 2:=Int.tmod_eq_emod_of_nonneg (by omega);have r1:0<=x / 2/\x / 2<128:=by omega
    have r2:0<=x / 4/\x / 4<64:=by omega
    have r3:0<=y / 2/\y / 2<128:=by omega
    clear e1 e2;obtain⟨z,hz⟩:∃ z,(x / 2 % 2 == 1)=z:=⟨_,rfl⟩;rw[hz];generalize x / 4=xs at *;generalize y / 2=yt at *;go_enter Tryz.func191,Tryz.ntmps191
    go_upto_region 7 with fail
    generalize w.alloc _=wa at *;generalize w.heap.size=ga at *;have h9:=((h1.set 0 (.int .i64 xs)).set 1 (.int .i64 yt)).set 2 (.bool z);go_wp2;have cr:=h9.cell;refine bodyPost_ret (v:=.tuple #[.agg #[.int .i64 xs,.int .i64 yt,.bool z],.int .i64 0]) (by simp[results,Tryz.results191,go_sem,cr]) rfl ⟨rfl,h9.drop⟩
  ·rw[if_pos (.inl e1)]
   have q1:(x % 2 == 1)=true:=by simp;omega
   clear e1;go_enter Tryz.func191,Tryz.ntmps191
   go_upto_region 6 with fail
   generalize w.alloc _=wa at *;generalize w.heap.size=ga at *;have h9:=((h1.set 0 (.int .i64 0)).set 1 (.int .i64 0)).set 2 (.bool false);go_wp2;have cr:=h9.cell;refine bodyPost_ret (v:=.tuple #[.agg #[.int .i64 0,.int .i64 0,.bool false],.int .i64 4]) (by simp[results,Tryz.results191,go_sem,cr]) rfl ⟨rfl,h9.drop⟩
theorem ro_octet (k:Nat) (hk:k<10) (w:World):Calls Tryz.prog 178 #[.int .i64 k] w fun e w'=>e=.returned (.int .i64 (firstK.getD k 0))/\w=w':=by
 match k,hk with
 | 0,_ =>
   show Calls Tryz.prog 178 #[.int .i64 0] w fun e w'=>e=.returned (.int .i64 (firstK.getD 0 0))/\w=w'
   go_enter Tryz.func178,Tryz.ntmps178
   go_wp2;go_ret
   exact⟨rfl,rfl⟩
 | 1,_ =>
   show Calls Tryz.prog 178 #[.int .i64 1] w fun e w'=>e=.returned (.int .i64 (firstK.getD 1 0))/\w=w'
   go_enter Tryz.func178,Tryz.ntmps178
   go_wp2;go_ret
   exact⟨rfl,rfl⟩
 | 2,_ =>
   show Calls Tryz.prog 178 #[.int .i64 2] w fun e w'=>e=.returned (.int .i64 (firstK.getD 2 0))/\w=w'
   go_enter Tryz.func178,Tryz.ntmps178
   go_wp2;go_ret
   exact⟨rfl,rfl⟩
 | 3,_ =>
   show Calls Tryz.prog 178 #[.int .i64 3] w fun e w'=>e=.returned (.int .i64 (firstK.getD 3 0))/\w=w'
   go_enter Tryz.func178,Tryz.ntmps178
   go_wp2;go_ret
   exact⟨rfl,rfl⟩
 | 4,_ =>
   show Calls Tryz.prog 178 #[.int .i64 4] w fun e w'=>e=.returned (.int .i64 (firstK.getD 4 0))/\w=w'
   go_enter Tryz.func178,Tryz.ntmps178
   go_wp2;go_ret
   exact⟨rfl,rfl⟩
 | 5,_ =>
   show Calls Tryz.prog 178 #[.int .i64 5] w fun e w'=>e=.returned (.int .i64 (firstK.getD 5 0))/\w=w'
   go_enter Tryz.func178,Tryz.ntmps178
   go_wp2;go_ret
   exact⟨rfl,rfl⟩
 | 6,_ =>
   show Calls Tryz.prog 178 #[.int .i64 6] w fun e w'=>e=.returned (.int .i64 (firstK.getD 6 0))/\w=w'
   go_enter Tryz.func178,Tryz.ntmps178
   go_wp2;go_ret
   exact⟨rfl,rfl⟩
 | 7,_ =>
   show Calls Tryz.prog 178 #[.int .i64 7] w fun e w'=>e=.returned (.int .i64 (firstK.getD 7 0))/\w=w'
   go_enter Tryz.func178,Tryz.ntmps178
   go_wp2;go_ret
   exact⟨rfl,rfl⟩
 | 8,_ =>
   show Calls Tryz.prog 178 #[.int .i64 8] w fun e w'=>e=.returned (.int .i64 (firstK.getD 8 0))/\w=w'
   go_enter Tryz.func178,Tryz.ntmps178
   go_wp2;go_ret
   exact⟨rfl,rfl⟩
 | 9,_ =>
   show Calls Tryz.prog 178 #[.int .i64 9] w fun e w'=>e=.returned (.int .i64 (firstK.getD 9 0))/\w=w'
   go_enter Tryz.func178,Tryz.ntmps178
   go_wp2;go_ret
   exact⟨rfl,rfl⟩
def ctlD (k:Int) (pf:Bool) (ns nr:Int):ByteArray × Int :=
 if k<0\/10<=k then (noStr,4)
 else if numb k=true/\(nr<0\/127<nr) then (noStr,2)
 else if k=0/\(ns<0\/127<ns) then (noStr,2)
 else (octets (ctlO k pf ns nr),0)
theorem ctl_un2:∀ (i:Fin 10) (b:Bool),numb ((i:Nat):Int)=false->bits .or .u8 (firstK.getD i 0) (16*bitI b)=firstK.getD i 0+16*bitI b/\0<=firstK.getD i 0/\firstK.getD i 0+16<256:=by decide +kernel
theorem firstK_range:∀ i:Fin 10,0<=firstK.getD i 0/\firstK.getD i 0<256:=by decide +kernel
theorem rc_put (k:Int) (pf:Bool) (ns nr:Int) (w0 w:World) (R:HP) (h:St w0 w R) :
  Calls Tryz.prog 103 #[.agg #[.int .i64 k,.bool pf,.int .i64 ns,.int .i64 nr]] w fun e w'=>e=.returned (.tuple #[.string (ctlD k pf ns nr).1,.int .i64 (ctlD k pf ns nr).2])/\St w0 w' R:=by
 have h1:=h.alloc (.cells #[.int .i64 k,.bool pf,.int .i64 ns,.int .i64 nr] TCtlR);have c1:=h1.cell;have hnu:=fun w=>t_numb k w
 have ho:∀ w:World,True:=fun _=>trivial
 unfold ctlD;by_cases e1:k<0
 ·rw[if_pos (.inl e1)]
  have d1:decide (k<0)=true:=by simp;omega
  go_enter Tryz.func103,Tryz.ntmps103
  go_wp2_with (first | (go_at_call 178;refine (ho _).mono ?_;rintro e w1 ⟨rfl,rfl⟩) | (go_at_call 179;refine (hnu _).mono ?_;rintro e w1 ⟨rfl,rfl⟩))
  go_ret2
  exact⟨rfl,h1.drop⟩
 ·have d1:decide (k<0)=false:=by simp;omega
  by_cases e2:10<=k
  ·rw[if_pos (.inr e2)]
   have d2:decide (10<=k)=true:=by simp;omega
   go_enter Tryz.func103,Tryz.ntmps103
   go_wp2_with (first | (go_at_call 178;refine (ho _).mono ?_;rintro e w1 ⟨rfl,rfl⟩) | (go_at_call 179;refine (hnu _).mono ?_;rintro e w1 ⟨rfl,rfl⟩))
   go_ret2
   exact⟨rfl,h1.drop⟩
  ·have d2:decide (10<=k)=false:=by simp;omega
   rw[if_neg (by omega)];clear ho;obtain⟨i,rfl⟩:∃ i:Nat,k=i:=⟨k.toNat,by omega⟩;have hi:i<10:=by omega
   have ho:=fun w=>ro_octet i hi w
   by_cases hn:numb (i:Int)=true
   ·have h4:i<4:=by unfold numb at hn;simp at hn;omega
    rw[hn] at hnu ⊢;by_cases e3:nr<0
    ·rw[if_pos ⟨rfl,.inl e3⟩]
     have d3:decide (nr<0)=true:=by simp;omega
     go_enter Tryz.func103,Tryz.ntmps103
     go_wp2_with (first | (go_at_call 178;refine (ho _).mono ?_;rintro e w1 ⟨rfl,rfl⟩) | (go_at_call 179;refine (hnu _).mono ?_;rintro e w1 ⟨rfl,rfl⟩))
     go_ret2
     exact⟨rfl,h1.drop⟩
    ·have d3:decide (nr<0)=false:=by simp;omega
     by_cases e4:127<nr
     ·rw[if_pos ⟨rfl,.inr e4⟩]
      have d4:decide (127<nr)=true:=by simp;omega
      go_enter Tryz.func103,Tryz.ntmps103
      go_wp2_with (first | (go_at_call 178;refine (ho _).mono ?_;rintro e w1 ⟨rfl,rfl⟩) | (go_at_call 179;refine (hnu _).mono ?_;rintro e w1 ⟨rfl,rfl⟩))
      go_ret2
      exact⟨rfl,h1.drop⟩
     ·have d4:decide (127<nr)=false:=by simp;omega
      rw[if_neg (by omega)];unfold ctlO;rw[if_pos hn];obtain⟨y,hy⟩:∃ y,2*nr+bitI pf=y:=⟨_,rfl⟩;rw[hy];have hp:bitI pf=0\/bitI pf=1:=by cases pf <;> simp[bitI]
      have hy0:0<=y/\y<256:=by omega
      obtain⟨f0,f1⟩:=firstK_range ⟨i,hi⟩;simp only[Int.toNat_natCast] at f0 f1 ⊢;by_cases i0:i=0
      ·subst i0
       have z0:((0:Nat):Int)=0:=rfl;rw[z0] at *;by_cases e5:ns<0
       ·rw[if_pos ⟨rfl,.inl e5⟩]
        have d5:decide (ns<0)=true:=by simp;omega
        clear hy hp z0 hn;go_enter Tryz.func103,Tryz.ntmps103
        go_wp2_with (first | (go_at_call 178;refine (ho _).mono ?_;rintro e w1 ⟨rfl,rfl⟩) | (go_at_call 179;refine (hnu _).mono ?_;rintro e w1 ⟨rfl,rfl⟩))
        go_ret2
        exact⟨rfl,h1.drop⟩
       ·have d5:decide (ns<0)=false:=by simp;omega
        by_cases e6:127<ns
        ·rw[if_pos ⟨rfl,.inr e6⟩]
         have d6:decide (127<ns)=true:=by simp;omega
         clear hy hp z0 hn;go_enter Tryz.func103,Tryz.ntmps103
         go_wp2_with (first | (go_at_call 178;refine (ho _).mono ?_;rintro e w1 ⟨rfl,rfl⟩) | (go_at_call 179;refine (hnu _).mono ?_;rintro e w1 ⟨rfl,rfl⟩))
         go_ret2
         exact⟨rfl,h1.drop⟩
        ·have d6:decide (127<ns)=false:=by simp;omega
         rw[if_neg (by omega),if_pos rfl];obtain⟨x,hx⟩:∃ x,2*ns=x:=⟨_,rfl⟩;rw[hx];have hx0:0<=x/\x<256:=by omega
         clear f0 f1 hp z0 hn hi h4;cases pf with
         | true =>
           replace hy:2*nr+1=y:=hy
           have wx:IntKind.u8.wrap x=x:=by rw[IntKind.wrap_u8];omega
           have wy:IntKind.u8.wrap y=y:=by rw[IntKind.wrap_u8];omega
           go_enter Tryz.func103,Tryz.ntmps103
           go_upto_region 1 with fail
           generalize w.alloc _=wa at *;generalize w.heap.size=ga at *;have hb:=run_octets (P:=Tryz.prog) (src:=121) (dst:=9) (e:=5) Tryz.underlying121 Tryz.underlying5 Tryz.underlying9 (wa.alloc (.cells #[.int .u8 x,.int .u8 y] 5)) ⟨wa.heap.size,0,none⟩ 2 [x,y] 2 rfl
            (by intro n hn;simp at hn;omega) (by intro j hj;rw[add_none];match j,hj with | 0,_=>simp | 1,_=>simp)
           go_wp2_with (first | (go_at_call 178;refine (ho _).mono ?_;rintro e w1 ⟨rfl,rfl⟩) | (go_at_call 179;refine (hnu _).mono ?_;rintro e w1 ⟨rfl,rfl⟩))
           go_ret2
           exact⟨rfl,(h1.alloc _).drop.drop⟩
         | false =>
           replace hy:2*nr=y:=by rw[← hy];show 2*nr=2*nr+0;omega
           have wx:IntKind.u8.wrap x=x:=by rw[IntKind.wrap_u8];omega
           have wy:IntKind.u8.wrap y=y:=by rw[IntKind.wrap_u8];omega
           go_enter Tryz.func103,Tryz.ntmps103
           go_upto_region 1 with fail
           generalize w.alloc _=wa at *;generalize w.heap.size=ga at *;have hb:=run_octets (P:=Tryz.prog) (src:=121) (dst:=9) (e:=5) Tryz.underlying121 Tryz.underlying5 Tryz.underlying9 (wa.alloc (.cells #[.int .u8 x,.int .u8 y] 5)) ⟨wa.heap.size,0,none⟩ 2 [x,y] 2 rfl
            (by intro n hn;simp at hn;omega) (by intro j hj;rw[add_none];match j,hj with | 0,_=>simp | 1,_=>simp)
           go_wp2_with (first | (go_at_call 178;refine (ho _).mono ?_;rintro e w1 ⟨rfl,rfl⟩) | (go_at_call 179;refine (hnu _).mono ?_;rintro e w1 ⟨rfl,rfl⟩))
           go_ret2
           exact⟨rfl,(h1.alloc _).drop.drop⟩
      ·have i1:¬ (i:Int)=0:=by omega
       have q0:((i:Int) == 0)=false:=beq_eq_false_iff_ne.2 i1;rw[if_neg (by omega),if_neg i1];generalize firstK.getD i 0=x at *;clear hp hn;cases pf with
       | true =>
         replace hy:2*nr+1=y:=hy
         have wx:IntKind.u8.wrap x=x:=by rw[IntKind.wrap_u8];omega
         have wy:IntKind.u8.wrap y=y:=by rw[IntKind.wrap_u8];omega
         go_enter Tryz.func103,Tryz.ntmps103
         go_upto_region 1 with fail
         generalize w.alloc _=wa at *;generalize w.heap.size=ga at *;have hb:=run_octets (P:=Tryz.prog) (src:=121) (dst:=9) (e:=5) Tryz.underlying121 Tryz.underlying5 Tryz.underlying9 (wa.alloc (.cells #[.int .u8 x,.int .u8 y] 5)) ⟨wa.heap.size,0,none⟩ 2 [x,y] 2 rfl
          (by intro n hn;simp at hn;omega) (by intro j hj;rw[add_none];match j,hj with | 0,_=>simp | 1,_=>simp)
         go_wp2_with (first | (go_at_call 178;refine (ho _).mono ?_;rintro e w1 ⟨rfl,rfl⟩) | (go_at_call 179;refine (hnu _).mono ?_;rintro e w1 ⟨rfl,rfl⟩))
         go_ret2
         exact⟨rfl,(h1.alloc _).drop.drop⟩
       | false =>
         replace hy:2*nr=y:=by rw[← hy];show 2*nr=2*nr+0;omega
         have wx:IntKind.u8.wrap x=x:=by rw[IntKind.wrap_u8];omega
         have wy:IntKind.u8.wrap y=y:=by rw[IntKind.wrap_u8];omega
         go_enter Tryz.func103,Tryz.ntmps103
         go_upto_region 1 with fail
         generalize w.alloc _=wa at *;generalize w.heap.size=ga at *;have hb:=run_octets (P:=Tryz.prog) (src:=121) (dst:=9) (e:=5) Tryz.underlying121 Tryz.underlying5 Tryz.underlying9 (wa.alloc (.cells #[.int .u8 x,.int .u8 y] 5)) ⟨wa.heap.size,0,none⟩ 2 [x,y] 2 rfl
          (by intro n hn;simp at hn;omega) (by intro j hj;rw[add_none];match j,hj with | 0,_=>simp | 1,_=>simp)
         go_wp2_with (first | (go_at_call 178;refine (ho _).mono ?_;rintro e w1 ⟨rfl,rfl⟩) | (go_at_call 179;refine (hnu _).mono ?_;rintro e w1 ⟨rfl,rfl⟩))
         go_ret2
         exact⟨rfl,(h1.alloc _).drop.drop⟩
   ·have hn':numb (i:Int)=false:=by simpa using hn
    have i1:¬ (i:Int)=0:=by
     intro e;rw[e] at hn';exact absurd hn' (by decide)
    obtain⟨g1,g2,g3⟩:=ctl_un2 ⟨i,hi⟩ pf hn';rw[hn'] at hnu ⊢;rw[if_neg (by rintro ⟨h,_⟩;exact absurd h (by decide)),if_neg (fun h=>i1 h.1)];unfold ctlO;rw[if_neg hn];simp only[Int.toNat_natCast] at g1 g2 g3 ⊢;rw[g1];clear g1 hn hn' i1;generalize firstK.getD i 0=a at *;obtain⟨x,hx⟩:∃ x,a+16*bitI pf=x:=⟨_,rfl⟩;rw[hx];have hp:bitI pf=0\/bitI pf=1:=by cases pf <;> simp[bitI]
    have hx0:0<=x/\x<256:=by omega
    clear hp;cases pf with
    | true =>
      replace hx:a+16=x:=hx
      have wx:IntKind.u8.wrap x=x:=by rw[IntKind.wrap_u8];omega
      go_enter Tryz.func103,Tryz.ntmps103
      go_upto_region 1 with fail
      generalize w.alloc _=wa at *;generalize w.heap.size=ga at *;have hb:=run_octets (P:=Tryz.prog) (src:=121) (dst:=9) (e:=5) Tryz.underlying121 Tryz.underlying5 Tryz.underlying9 (wa.alloc (.cells #[.int .u8 x] 5)) ⟨wa.heap.size,0,none⟩ 1 [x] 1 rfl
       (by intro n hn;simp at hn;omega) (by intro j hj;rw[add_none];match j,hj with | 0,_=>simp)
      go_wp2_with (first | (go_at_call 178;refine (ho _).mono ?_;rintro e w1 ⟨rfl,rfl⟩) | (go_at_call 179;refine (hnu _).mono ?_;rintro e w1 ⟨rfl,rfl⟩))
      go_ret2
      exact⟨rfl,(h1.alloc _).drop.drop⟩
    | false =>
      replace hx:x=a:=by rw[← hx];show a+16*0=a;omega
      subst hx;have wx:IntKind.u8.wrap x=x:=by rw[IntKind.wrap_u8];omega
      go_enter Tryz.func103,Tryz.ntmps103
      go_upto_region 1 with fail
      generalize w.alloc _=wa at *;generalize w.heap.size=ga at *;have hb:=run_octets (P:=Tryz.prog) (src:=121) (dst:=9) (e:=5) Tryz.underlying121 Tryz.underlying5 Tryz.underlying9 (wa.alloc (.cells #[.int .u8 x] 5)) ⟨wa.heap.size,0,none⟩ 1 [x] 1 rfl
       (by intro n hn;simp at hn;omega) (by intro j hj;rw[add_none];match j,hj with | 0,_=>simp)
      go_wp2_with (first | (go_at_call 178;refine (ho _).mono ?_;rintro e w1 ⟨rfl,rfl⟩) | (go_at_call 179;refine (hnu _).mono ?_;rintro e w1 ⟨rfl,rfl⟩))
      go_ret2
      exact⟨rfl,(h1.alloc _).drop.drop⟩
end Go.Proofs.YtnnahljdhdippaaGreatDoor
