/- Parts of a proof (RefD). No condition. -/
import Derived.Test.YtnnahljdhdippaaGreatDoorC27
namespace Go.Proofs.YtnnahljdhdippaaGreatDoor
set_option maxRecDepth 100000
set_option maxHeartbeats 6400000
open Go.RowKit
def hitK (i:Nat) (x:Int):Bool:=if numb (i:Int)=true then (if i=0 then x % 2 == 0 else x == firstK.getD i 0) else (x == firstK.getD i 0 || x == firstK.getD i 0+16)
theorem hit_nu:∀ (i:Fin 10) (x:Fin 256),hitK i ((x:Nat):Int)=true->(if ((x:Nat):Int) % 2=0 then 0 else kOf ((x:Nat):Int))=((i:Nat):Int) /\
  (((x:Nat):Int) % 2≠0->kOf ((x:Nat):Int)≠0/\(numb (kOf ((x:Nat):Int))=true->((x:Nat):Int)=firstK.getD (kOf ((x:Nat):Int)).toNat 0)) /\
  (numb ((i:Nat):Int)=false->(((x:Nat):Int) / 16 % 2 == 1)=(((x:Nat):Int) == firstK.getD i 0+16)):=by decide +kernel
theorem hit_no:∀ x:Fin 256,(∀ i:Fin 10,hitK i ((x:Nat):Int)=false)->((x:Nat):Int) % 2≠0/\(kOf ((x:Nat):Int)=0\/(numb (kOf ((x:Nat):Int))=true/\((x:Nat):Int)≠firstK.getD (kOf ((x:Nat):Int)).toNat 0)):=by decide +kernel
theorem ctlG_hit {s:ByteArray} {i:Nat} (hi:i<10) (hs:s.size≠0) (h:hitK i (byteAt s 0)=true) :
  ctlG s=if numb (i:Int)=true then (if s.size<2 then (.none,0,3) else (⟨i,byteAt s 1 % 2 == 1,if i=0 then byteAt s 0 / 2 else 0,byteAt s 1 / 2⟩,2,0)) else (⟨i,byteAt s 0 == firstK.getD i 0+16,0,0⟩,1,0):=by
 obtain⟨x0,x1⟩:=byteAt_range s 0;unfold ctlG;rw[if_neg hs];generalize byteAt s 0=x at *;obtain⟨y,rfl⟩:=oct_nat x0 x1;obtain⟨h1,h2,h3⟩:=hit_nu ⟨i,hi⟩ y h;dsimp only at h1 h2 h3 ⊢;rw[h1,if_neg (by
  rintro ⟨a,b | b⟩
  ·exact (h2 a).1 b
  ·exact b.2 ((h2 a).2 b.1))]
 by_cases hn:numb (i:Int)=true
 ·rw[if_neg (by rw[hn];decide),if_pos hn]
  have e:(i:Int)=0↔i=0:=by omega
  simp only[e]
 ·have hn':numb (i:Int)=false:=by simpa using hn
  rw[if_pos hn',if_neg hn,h3 hn']
theorem ctlG_no {s:ByteArray} (hs:s.size≠0) (h:∀ i,i<10->hitK i (byteAt s 0)=false):ctlG s=(.none,0,4):=by
 obtain⟨x0,x1⟩:=byteAt_range s 0;unfold ctlG;rw[if_neg hs];generalize byteAt s 0=x at *;obtain⟨y,rfl⟩:=oct_nat x0 x1;dsimp only;rw[if_pos (hit_no y fun i=>h i i.isLt)]
theorem rc_get (s:ByteArray) (w0 w:World) (R:HP) (h:St w0 w R) (hs:s.size<=1000000000) :
  Calls Tryz.prog 192 #[.string s] w fun e w'=>e=.returned (.tuple #[.agg (ctlG s).1.cells.toArray,.int .i64 (ctlG s).2.1,.int .i64 (ctlG s).2.2])/\St w0 w' R:=by
 obtain⟨G,hG⟩:∃ G,ctlG s=G:=⟨_,rfl⟩;rw[hG];obtain⟨n,hn⟩:∃ n,s.size=n:=⟨_,rfl⟩;rw[hn] at hs;have h1:=h.alloc (.cells #[.int .i64 0,.bool false,.int .i64 0,.int .i64 0] TCtlR);have c1:=h1.cell;have f1:=h1.free;by_cases hz:n=0
 ·have e1:G=(.none,0,3):=by rw[← hG];unfold ctlG;rw[if_pos (by omega)]
  subst e1;have b2:decide ((n:Int)=0)=true:=by simp;omega
  have b3:((n:Int) == 0)=true:=by simp;omega
  clear hG;go_enter Tryz.func192,Tryz.ntmps192
  go_upto_region 2 with fail
  generalize w.alloc _=wa at *;generalize w.heap.size=ga at *;have h9:=(((h1.set 0 (.int .i64 0)).set 1 (.bool false)).set 2 (.int .i64 0)).set 3 (.int .i64 0);go_wp2;have cr:=h9.cell;refine bodyPost_ret (v:=.tuple #[.agg #[.int .i64 0,.bool false,.int .i64 0,.int .i64 0],.int .i64 0,.int .i64 3]) (by simp[results,Tryz.results192,go_sem,cr]) rfl ⟨rfl,h9.drop⟩
 ·have HG:=Lib.hid hG
  have HN:=Lib.hid hn;have b2:decide ((n:Int)=0)=false:=by simp;omega
  have b3:((n:Int) == 0)=false:=by simp;omega
  have hx:∀ w,(Instr.index 9 (.string s) (.int .i64 0)).run Tryz.prog w=.ok (.int .u8 (byteAt s 0)) w:=str_at s 0 (by omega);obtain⟨x0,x1⟩:=byteAt_range s 0;obtain⟨x,hxx⟩:∃ x,byteAt s 0=x:=⟨_,rfl⟩;rw[hxx] at x0 x1 hx;have HX:=Lib.hid hxx;have v1:Int.tmod x 2=x % 2:=Int.tmod_eq_emod_of_nonneg x0;have v2:Int.tdiv x 2=x / 2:=Int.tdiv_eq_ediv_of_nonneg x0;have hit:=fun i hi hh=>@ctlG_hit s i hi (by omega) hh
  have hno:=@ctlG_no s (by omega);rw[hxx] at hno;simp only[hxx] at hit;have HIT:=Lib.hid hit;have HNO:=Lib.hid hno;clear hG hxx hit hno h;go_enter Tryz.func192,Tryz.ntmps192
  go_upto_region 3 with fail
  generalize w.alloc _=wa at *;generalize w.heap.size=ga at *;go_wp2;clear c1 f1;go_loopw [6] (fun s6 wr=>∃ i:Nat,i<=10/\s6=.int .i64 i/\Hid (∀ j,j<i->hitK j x=false)/\St w0 wr (blk ga (.cells #[.int .i64 0,.bool false,.int .i64 0,.int .i64 0] TCtlR)*R)) (fun s6 _=>10 - (intOf s6).toNat)
  case atStart=>exact⟨0,by omega,rfl,Lib.hid (fun j hj=>absurd hj (by omega)),h1⟩
  case round =>
   clear h1;obtain⟨i,hi,rfl,HB,h3⟩:=hrel;have c3:=h3.cell;by_cases hlt:i<10
   ·have hil:(i:Int)<10:=by omega
    have hnu:=fun w=>t_numb (i:Int) w
    have ho:=fun w=>ro_octet i hlt w
    have hf:=firstK_range ⟨i,hlt⟩;have hh:hitK i x=hitK i x:=rfl;conv at hh=>lhs;unfold hitK
    have hcon:hitK i x=false->∀ j,j<i+1->hitK j x=false:=by
     intro e j hj;by_cases ej:j=i
     ·rw[ej];exact e
     ·exact HB.out j (by omega)
    have hhit:=HIT.out i hlt;rw[HN.out] at hhit;simp only[] at hf;generalize hitK i x=z0 at hh hcon hhit;cases hn4:numb (i:Int) with
    | true =>
      rw[hn4] at hnu;rw[if_pos hn4] at hh hhit;by_cases i0:i=0
      ·subst i0
       rw[if_pos rfl] at hh;have z:((0:Nat):Int)=0:=rfl;rw[z] at *;cases z0 with
       | false =>
         have HS:=Lib.hid (hcon rfl);clear hcon hhit hn4 z;go_wp2_with (first | (go_at_call 178;refine (ho _).mono ?_;rintro e w1 ⟨rfl,rfl⟩) | (go_at_call 179;refine (hnu _).mono ?_;rintro e w1 ⟨rfl,rfl⟩))
         go_roundw
         case rel=>exact⟨0+1,by omega,by go_num,HS,h3⟩
         case measure =>
          simp only[intOf];omega
       | true =>
         have HE:=Lib.hid (hhit rfl);clear hcon hhit hn4 z;by_cases hn2:n<2
         ·rw[if_pos hn2] at HE
          have b3:decide ((n:Int)<2)=true:=by simp;omega
          have f3:=h3.free;go_wp2_with (first | (go_at_call 178;refine (ho _).mono ?_;rintro e w1 ⟨rfl,rfl⟩) | (go_at_call 179;refine (hnu _).mono ?_;rintro e w1 ⟨rfl,rfl⟩))
          have h9:=(((h3.set 0 (.int .i64 0)).set 1 (.bool false)).set 2 (.int .i64 0)).set 3 (.int .i64 0);have cr:=h9.cell;refine bodyPost_ret (v:=.tuple #[.agg #[.int .i64 0,.bool false,.int .i64 0,.int .i64 0],.int .i64 0,.int .i64 3]) (by simp[results,Tryz.results192,go_sem,cr]) rfl ⟨?_,h9.drop⟩
          rw[← HG.out,HE.out]
         ·rw[if_neg hn2,if_pos rfl] at HE
          have hy:∀ w,(Instr.index 9 (.string s) (.int .i64 1)).run Tryz.prog w=.ok (.int .u8 (byteAt s 1)) w:=str_at s 1 (by have:=HN.out;omega);obtain⟨y0,y1⟩:=byteAt_range s 1;generalize byteAt s 1=y at *;have b3:decide ((n:Int)<2)=false:=by simp;omega
          have hw:IntKind.i64.wrap ((IntKind.i64.wrap y).tdiv 2)=y / 2:=by
           rw[show IntKind.i64.wrap y=y by rw[IntKind.wrap_i64];omega,Int.tdiv_eq_ediv_of_nonneg y0,IntKind.wrap_i64];omega
          have HW:=Lib.hid hw;clear hw;obtain⟨z,hz⟩:∃ z,(y % 2 == 1)=z:=⟨_,rfl⟩;rw[hz] at HE;have u1:Int.tmod y 2=y % 2:=Int.tmod_eq_emod_of_nonneg y0;have f3:=h3.free;go_upto_region 12 with (first | (go_at_call 178;refine (ho _).mono ?_;rintro e w1 ⟨rfl,rfl⟩) | (go_at_call 179;refine (hnu _).mono ?_;rintro e w1 ⟨rfl,rfl⟩))
          go_region_held3 (fun _=>True) (trivial) (fail)
          all_goals
           rename_i hheld
           clear hheld c3 f3;rw[HW.out];clear hz u1;generalize y / 2=y2 at *;have h4:=(h3.alloc (.cells #[.int .i64 0,.bool z,.int .i64 0,.int .i64 y2] TCtlR)).drew;have lt:=h3.lt;generalize (wr.alloc _).drew=wb at *;generalize hgb:wr.heap.size=gb at *;have ne1:ga≠gb:=by omega
           have ne2:gb≠ga:=by omega
           clear h3;have h5:=h4.set 2 (.int .i64 (x / 2));have c4:=h4.cell;have f4:=h4.free;go_upto_region 15 with fail
           generalize (wb.setCell _ _)=wc at *;clear h4 c4 f4;have c5:=h5.cell;have f5:=h5.f2.free;have c6:=h5.f2.cell;go_wp2;have h9:=((((h5.f2).set 0 (.int .i64 0)).set 1 (.bool z)).set 2 (.int .i64 (x / 2))).set 3 (.int .i64 y2);have cr:=h9.cell;refine bodyPost_ret (v:=.tuple #[.agg #[.int .i64 0,.bool z,.int .i64 (x / 2),.int .i64 y2],.int .i64 2,.int .i64 0]) (by simp[results,Tryz.results192,go_sem,cr]) rfl ⟨?_,h9.drop.drop⟩
           rw[← HG.out,HE.out];rfl
      ·rw[if_neg i0] at hh
       have i1:((i:Int) == 0)=false:=by simp;omega
       have i2:((i:Int) != 0)=true:=by simp;omega
       rw[if_neg i0] at hhit;generalize firstK.getD i 0=o at *;cases z0 with
       | false =>
         have HS:=Lib.hid (hcon rfl);clear hcon hhit hn4;go_wp2_with (first | (go_at_call 178;refine (ho _).mono ?_;rintro e w1 ⟨rfl,rfl⟩) | (go_at_call 179;refine (hnu _).mono ?_;rintro e w1 ⟨rfl,rfl⟩))
         go_roundw
         case rel=>exact⟨i+1,by omega,by go_num,HS,h3⟩
         case measure =>
          simp only[intOf];omega
       | true =>
         have HE:=Lib.hid (hhit rfl);clear hcon hhit hn4;by_cases hn2:n<2
         ·rw[if_pos hn2] at HE
          have b3:decide ((n:Int)<2)=true:=by simp;omega
          have f3:=h3.free;go_wp2_with (first | (go_at_call 178;refine (ho _).mono ?_;rintro e w1 ⟨rfl,rfl⟩) | (go_at_call 179;refine (hnu _).mono ?_;rintro e w1 ⟨rfl,rfl⟩))
          have h9:=(((h3.set 0 (.int .i64 0)).set 1 (.bool false)).set 2 (.int .i64 0)).set 3 (.int .i64 0);have cr:=h9.cell;refine bodyPost_ret (v:=.tuple #[.agg #[.int .i64 0,.bool false,.int .i64 0,.int .i64 0],.int .i64 0,.int .i64 3]) (by simp[results,Tryz.results192,go_sem,cr]) rfl ⟨?_,h9.drop⟩
          rw[← HG.out,HE.out]
         ·rw[if_neg hn2] at HE
          have hy:∀ w,(Instr.index 9 (.string s) (.int .i64 1)).run Tryz.prog w=.ok (.int .u8 (byteAt s 1)) w:=str_at s 1 (by have:=HN.out;omega);obtain⟨y0,y1⟩:=byteAt_range s 1;generalize byteAt s 1=y at *;have b3:decide ((n:Int)<2)=false:=by simp;omega
          have hw:IntKind.i64.wrap ((IntKind.i64.wrap y).tdiv 2)=y / 2:=by
           rw[show IntKind.i64.wrap y=y by rw[IntKind.wrap_i64];omega,Int.tdiv_eq_ediv_of_nonneg y0,IntKind.wrap_i64];omega
          have HW:=Lib.hid hw;clear hw;obtain⟨z,hz⟩:∃ z,(y % 2 == 1)=z:=⟨_,rfl⟩;rw[hz] at HE;have u1:Int.tmod y 2=y % 2:=Int.tmod_eq_emod_of_nonneg y0;have f3:=h3.free;go_upto_region 12 with (first | (go_at_call 178;refine (ho _).mono ?_;rintro e w1 ⟨rfl,rfl⟩) | (go_at_call 179;refine (hnu _).mono ?_;rintro e w1 ⟨rfl,rfl⟩))
          go_region_held3 (fun _=>True) (trivial) (fail)
          all_goals
           rename_i hheld
           clear hheld c3 f3;rw[HW.out];clear hz u1;generalize y / 2=y2 at *;have h4:=(h3.alloc (.cells #[.int .i64 i,.bool z,.int .i64 0,.int .i64 y2] TCtlR)).drew;have lt:=h3.lt;generalize (wr.alloc _).drew=wb at *;generalize hgb:wr.heap.size=gb at *;have ne1:ga≠gb:=by omega
           have ne2:gb≠ga:=by omega
           clear h3;have c5:=h4.cell;have f5:=h4.f2.free;have c6:=h4.f2.cell;go_wp2;have h9:=((((h4.f2).set 0 (.int .i64 i)).set 1 (.bool z)).set 2 (.int .i64 0)).set 3 (.int .i64 y2);have cr:=h9.cell;refine bodyPost_ret (v:=.tuple #[.agg #[.int .i64 i,.bool z,.int .i64 0,.int .i64 y2],.int .i64 2,.int .i64 0]) (by simp[results,Tryz.results192,go_sem,cr]) rfl ⟨?_,h9.drop.drop⟩
           rw[← HG.out,HE.out]
    | false =>
      rw[hn4] at hnu;rw[if_neg (by rw[hn4];decide)] at hh hhit;generalize firstK.getD i 0=o at *;have ho2:o+16<300:=by omega
      cases z0 with
      | false =>
        have HS:=Lib.hid (hcon rfl);have q1:(x == o)=false:=by simp at hh ⊢;exact hh.1
        have q2:(x == o+16)=false:=by simp at hh ⊢;exact hh.2
        clear hcon hhit hn4 hh;go_wp2_with (first | (go_at_call 178;refine (ho _).mono ?_;rintro e w1 ⟨rfl,rfl⟩) | (go_at_call 179;refine (hnu _).mono ?_;rintro e w1 ⟨rfl,rfl⟩))
        go_roundw
        case rel=>exact⟨i+1,by omega,by go_num,HS,h3⟩
        case measure =>
         simp only[intOf];omega
      | true =>
        have HE:=Lib.hid (hhit rfl);clear hcon hhit hn4;have f3:=h3.free;cases q1:x == o with
        | true =>
          obtain⟨p,hp⟩:∃ p,(x == o+16)=p:=⟨_,rfl⟩;rw[hp] at HE;clear hh;go_wp2_with (first | (go_at_call 178;refine (ho _).mono ?_;rintro e w1 ⟨rfl,rfl⟩) | (go_at_call 179;refine (hnu _).mono ?_;rintro e w1 ⟨rfl,rfl⟩))
          have h9:=(((h3.set 0 (.int .i64 i)).set 1 (.bool p)).set 2 (.int .i64 0)).set 3 (.int .i64 0);have cr:=h9.cell;refine bodyPost_ret (v:=.tuple #[.agg #[.int .i64 i,.bool p,.int .i64 0,.int .i64 0],.int .i64 1,.int .i64 0]) (by simp[results,Tryz.results192,go_sem,cr]) rfl ⟨?_,h9.drop⟩
          rw[← HG.out,HE.out]
        | false =>
          have hp:(x == o+16)=true:=by rw[q1] at hh;simpa using hh
          rw[hp] at HE;clear hh;go_wp2_with (first | (go_at_call 178;refine (ho _).mono ?_;rintro e w1 ⟨rfl,rfl⟩) | (go_at_call 179;refine (hnu _).mono ?_;rintro e w1 ⟨rfl,rfl⟩))
          have h9:=(((h3.set 0 (.int .i64 i)).set 1 (.bool true)).set 2 (.int .i64 0)).set 3 (.int .i64 0);have cr:=h9.cell;refine bodyPost_ret (v:=.tuple #[.agg #[.int .i64 i,.bool true,.int .i64 0,.int .i64 0],.int .i64 1,.int .i64 0]) (by simp[results,Tryz.results192,go_sem,cr]) rfl ⟨?_,h9.drop⟩
          rw[← HG.out,HE.out]
   ·obtain rfl:i=10:=by omega
    have f3:=h3.free;have HE:=Lib.hid (HNO.out (fun j hj=>HB.out j hj));go_wp2;have h9:=(((h3.set 0 (.int .i64 0)).set 1 (.bool false)).set 2 (.int .i64 0)).set 3 (.int .i64 0);have cr:=h9.cell;refine bodyPost_ret (v:=.tuple #[.agg #[.int .i64 0,.bool false,.int .i64 0,.int .i64 0],.int .i64 0,.int .i64 4]) (by simp[results,Tryz.results192,go_sem,cr]) rfl ⟨?_,h9.drop⟩
    rw[← HG.out,HE.out]
end Go.Proofs.YtnnahljdhdippaaGreatDoor
