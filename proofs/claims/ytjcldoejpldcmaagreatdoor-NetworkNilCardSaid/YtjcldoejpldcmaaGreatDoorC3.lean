/- Parts of a proof (FcsC, Queue, QueueRef, Seq, Flow, FlowOk). No condition. -/
import Derived.Test.YtjcldoejpldcmaaGreatDoorC2
import Derived.Test.YtjcldoejpldcmaaGreatDoorProg
import Derived.Test.YtjcldoejpldcmaaGreatDoorC1
namespace Go.Proofs.YtjcldoejpldcmaaGreatDoor
set_option maxRecDepth 100000
set_option maxHeartbeats 6400000
open Go.RowKit
def bitStep (r:Int):Int:=bits .xor .u16 (r / 2) (IntKind.u16.wrap (bits .and .u16 r 1*33800))
def bitSteps:Nat->Int->Int
 | 0,r=>r
 | n+1,r=>bitSteps n (bitStep r)
def stepR (r o:Int):Int:=bitSteps 8 (bits .xor .u16 r o)
theorem s_step (r:Int) (o:UInt8) (w:World):Calls Tryz.prog 215 #[.int .u16 r,.int .u8 o.toNat] w fun e w'=>e=.returned (.int .u16 (stepR r o.toNat))/\w=w':=by
 obtain⟨X,hX⟩:∃ X,stepR r o.toNat=X:=⟨_,rfl⟩;rw[hX];rw[stepR,show 8=8 - 0 from rfl] at hX;have HX:=Lib.hid hX;have hw:IntKind.u16.wrap (o.toNat:Int)=o.toNat:=by have:=o.toNat_lt;rw[IntKind.wrap_u16];omega
 clear hX;go_enter Tryz.func215,Tryz.ntmps215
 go_wp2;go_loop [10,0] (fun s t=>∃ (k:Nat) (q:Int),k<=8/\s=.int .i64 k/\t=.int .u16 q/\Hid (bitSteps (8 - k) q=X)) (fun s _=>8 - (intOf s).toNat)
 case atStart=>exact⟨0,bits .xor .u16 r o.toNat,by omega,rfl,rfl,HX⟩
 case round =>
  clear HX;obtain⟨k,q,hk,rfl,rfl,HX⟩:=hrel;by_cases hlt:k<8
  ·have h8:(k:Int)<8:=by omega
   go_wp2;go_round
   case rel =>
    refine⟨k+1,_,by omega,by go_num,rfl,?_⟩
    have:=HX.out
    rw[show 8 - k=(8 - (k+1))+1 by omega] at this;exact Lib.hid this
   case measure=>simp[intOf];omega
  ·obtain rfl:k=8:=by omega
   go_wp2;go_ret
   exact⟨by rw[← HX.out];rfl,rfl⟩
def sumR:List UInt8->Int->Int
 | [],r=>r
 | o :: l,r=>sumR l (stepR r o.toNat)
def sumOf (s:ByteArray):Int:=bits .xor .u16 IntKind.u16.max (sumR s.data.toList 65535)
theorem s_sum (s:ByteArray) (w:World) (hs:s.size<2 ^ 62):Calls Tryz.prog 139 #[.string s] w fun e w'=>e=.returned (.int .u16 (sumOf s))/\w=w':=by
 obtain⟨X,hX⟩:∃ X,sumR (s.data.toList.drop 0) 65535=X:=⟨_,rfl⟩;have hY:sumOf s=bits .xor .u16 IntKind.u16.max X:=by rw[← hX];rfl
 rw[hY];have HX:=Lib.hid hX;clear hX hY;obtain⟨n,hn⟩:∃ n,s.size=n:=⟨_,rfl⟩;rw[hn] at hs;have HN:=Lib.hid hn;go_enter Tryz.func139,Tryz.ntmps139
 go_wp2;go_loop [7,3] (fun i t=>∃ (k:Nat) (q:Int),k<=n/\i=.int .i64 k/\t=.int .u16 q/\Hid (sumR (s.data.toList.drop k) q=X)) (fun i _=>n - (intOf i).toNat)
 case atStart=>exact⟨0,65535,by omega,rfl,rfl,HX⟩
 case round =>
  clear HX;obtain⟨k,q,hk,rfl,rfl,HX⟩:=hrel;by_cases hlt:k<n
  ·have h8:(k:Int)<n:=by omega
   have hi:k<s.data.toList.length:=by have h1:s.data.size=n:=HN.out;rw[Array.length_toList,h1];exact hlt
   obtain⟨o,ho⟩:∃ o,s.data.toList[k]=o:=⟨_,rfl⟩;have hd:s.data.toList.drop k=o :: s.data.toList.drop (k+1):=by rw[List.drop_eq_getElem_cons hi,ho]
   have hx:∀ w,(Instr.index 9 (.string s) (.int .i64 (k:Int))).run Tryz.prog w=.ok (.int .u8 o.toNat) w:=fun w=>by
    have h1:=HN.out;rw[run_index_string (P:=Tryz.prog) w 9 s .i64 k Tryz.underlying9,dif_pos ⟨by omega,by omega⟩];have:s[(k:Int).toNat]'(by omega)=o:=ho
    rw[this]
   have he:=HX.out;rw[hd,sumR] at he;have HE:=Lib.hid he;have hc:=s_step q o w;obtain⟨y,hy⟩:∃ y,stepR q o.toNat=y:=⟨_,rfl⟩;rw[hy] at hc HE;clear he hd ho hi hy hn;go_wp2_with fail
   refine hc.mono ?_
   rintro e w1 ⟨rfl,rfl⟩;go_wp2;go_round
   case rel=>exact⟨k+1,y,by omega,by go_num,rfl,HE⟩
   case measure=>simp[intOf];omega
  ·obtain rfl:k=n:=by omega
   have he:=HX.out;rw[List.drop_of_length_le (by rw[Array.length_toList];exact Nat.le_of_eq hn)] at he;obtain rfl:q=X:=he;go_wp2;go_ret
   exact⟨rfl,rfl⟩
theorem octets_size (l:List Int):(octets l).size=l.length:=by
 show (l.map _).toArray.size=_
 simp
def sealed (s:ByteArray):ByteArray:=s++octets [IntKind.u8.wrap (sumOf s),IntKind.u8.wrap (sumOf s / 256)]
theorem s_seal (s:ByteArray) (w0 w:World) (R:HP) (h:St w0 w R) (hs:s.size<2 ^ 62):Calls Tryz.prog 76 #[.string s] w fun e w'=>e=.returned (.string (sealed s))/\St w0 w' R:=by
 have hc:=s_sum s w hs;obtain⟨X,hX⟩:∃ X,sumOf s=X:=⟨_,rfl⟩;have hY:sealed s=s++octets [IntKind.u8.wrap X,IntKind.u8.wrap (X / 256)]:=by rw[← hX];rfl
 rw[hY];rw[hX] at hc;clear hX hY;obtain⟨p,hp⟩:∃ p,IntKind.u8.wrap X=p:=⟨_,rfl⟩;obtain⟨q,hq⟩:∃ q,IntKind.u8.wrap (X / 256)=q:=⟨_,rfl⟩;have hp0:0<=p/\p<256:=by rw[← hp,IntKind.wrap_u8];omega
 have hq0:0<=q/\q<256:=by rw[← hq,IntKind.wrap_u8];omega
 rw[hp,hq];go_enter Tryz.func76,Tryz.ntmps76
 go_wp2_with fail
 refine hc.mono ?_
 rintro e w1 ⟨rfl,rfl⟩;have hb:=run_octets (P:=Tryz.prog) (src:=126) (dst:=9) (e:=5) Tryz.underlying126 Tryz.underlying5 Tryz.underlying9 (w.alloc (.cells #[.int .u8 p,.int .u8 q] 5)) ⟨w.heap.size,0,none⟩ 2 [p,q] 2 rfl
   (by intro n hn;simp at hn;omega) (by intro j hj;rw[add_none];match j,hj with | 0,_=>simp | 1,_=>simp)
 have hz:¬ 9223372036854775807<s.size+(octets [p,q]).size:=by rw[octets_size];simp;omega
 clear hp0 hq0 hs;go_wp2;go_ret
 exact⟨rfl,(h.alloc _).drop⟩
structure Q where
 most:Nat
 l:List ByteArray
 sent:Nat
structure Q.Ok (q:Q):Prop where
 m1:1<=q.most
 m2:q.most<=256
 ll:q.l.length<=q.most
 sl:q.sent<=q.l.length
abbrev strs (l:List ByteArray):List Value:=l.map Value.string
abbrev ptr (b:Nat):Value:=.pointer (some ⟨b,0,none⟩)
def QAt (T:TypeId) (p:Nat) (q:Q):HP:=hex fun lv:Value=>blk p (.cells #[.int .i64 q.most,lv,.int .i64 q.sent] T (0,0))*Row 9 1 lv q.l.length (strs q.l)
theorem St.q_open {w0 w:World} {R:HP} {T:TypeId} {p:Nat} {q:Q} (h:St w0 w (QAt T p q*R)) :
  ∃ lv,St w0 w (blk p (.cells #[.int .i64 q.most,lv,.int .i64 q.sent] T (0,0))*(Row 9 1 lv q.l.length (strs q.l)*R)):=by
 obtain⟨lv,h⟩:=h.ex;exact⟨lv,h.eq (star_assoc _ _ _)⟩
theorem St.q_shut {w0 w:World} {R:HP} {T:TypeId} {p:Nat} {m s:Int} {lv:Value} {q:Q} {xs:List Value} {k:Nat}
  (h:St w0 w (blk p (.cells #[.int .i64 m,lv,.int .i64 s] T (0,0))*(Row 9 1 lv k xs*R)))
  (hm:m=q.most) (hs:s=q.sent) (hk:k=q.l.length) (hx:xs=strs q.l):St w0 w (QAt T p q*R):=by
 subst hm hs hk hx;exact St.mk_ex lv (h.eq (star_assoc _ _ _).symm)
def Q.push (q:Q) (s:ByteArray):Q × Int:=if 260<s.size then (q,5) else if q.most<=q.l.length then (q,10) else ({ q with l:=q.l++[s] },0)
theorem infoStr:(Tryz.prog.info? 9).map (fun i=>(i.zero,i.size,i.bytes))=some (some (.string ⟨#[]⟩),1,16):=by kernel_rfl
theorem q_push (p:Nat) (q:Q) (s:ByteArray) (w0 w:World) (R:HP) (h:St w0 w (QAt 357 p q*R)) (ok:q.Ok) :
  Calls Tryz.prog 266 #[ptr p,.string s] w fun e w'=>e=.returned (.int .i64 (q.push s).2)/\St w0 w' (QAt 357 p (q.push s).1*R):=by
 obtain⟨lv,h1⟩:=h.q_open;obtain⟨_,m2,ll,_⟩:=ok;have c:=h1.cell;have f:=h1.free;unfold Q.push;by_cases a1:260<s.size
 ·rw[if_pos a1]
  go_enter Tryz.func266,Tryz.ntmps266
  go_wp2;go_ret
  exact⟨rfl,h⟩
 rw[if_neg a1];obtain⟨a,cap,rfl,hc1,hc2⟩:=h1.drop.row_shape;by_cases a2:q.most<=q.l.length
 ·rw[if_pos a2]
  go_enter Tryz.func266,Tryz.ntmps266
  go_wp2;go_quiet (fail)
  go_wp2;go_ret
  exact⟨rfl,h.drewN _⟩
 ·rw[if_neg a2]
  obtain⟨i0,hi,hz0,hz1,hz2⟩:=info_parts infoStr;have h2:∀ nq,St w0 ((w.drewN nq).alloc (.cells #[.string s] 9)) (Row 9 1 (.slice a q.l.length cap) q.l.length (strs q.l)*(blk p (.cells #[.int .i64 q.most,.slice a q.l.length cap,.int .i64 q.sent] 357 (0,0))*R)) :=
   fun nq=>(((h1.drewN nq).alloc (.cells #[.string s] 9)).drop).eq (by ac_rfl)
  have H2:=Lib.hid h2;clear h2;go_enter Tryz.func266,Tryz.ntmps266
  go_wp2;go_quiet (fail)
  go_wp2_with (at_builtin;refine wpList_append_row rfl (.tmp 27) (.tmp 29) 34 rfl (H2.out _) Tryz.underlying34 hi hz0 hz1 hz2 rfl (by decide) rfl ⟨w.heap.size,0,none⟩ 1 1 [.string s] rfl (by decide) rfl ?c1 ?c2 ?c3 ?c4 ?c5)
  case c1=>exact one_new _ _ _ _ rfl
  case c2=>intro u hu;simp at hu;subst hu;rfl
  case c3=>unfold maxLen;omega
  case c4=>omega
  case c5 =>
   intro g off cap1 w1 h3;have h4:=h3.eq (star_comm _ _) |>.eq (star_assoc _ _ _)
   have c:=h4.cell;have f:=h4.free;go_wp2;go_ret
   refine⟨rfl,?_⟩
   have h5:=(h4.set 1 (.slice (some ⟨g,off,none⟩) (q.l.length+1) cap1)).eq (show _=_*(Row _ _ _ _ _*R) by ac_rfl);exact h5.q_shut rfl rfl (by simp) (by simp)
theorem q_new (n:Int) (w0 w:World) (R:HP) (hs:St w0 w R) :
  Calls Tryz.prog 289 #[.int .i64 n] w fun e w'=>∃ p,e=.returned (ptr p)/\St w0 w' (QAt 357 p ⟨(max 1 (min n 256)).toNat,[],0⟩*R):=by
 have fin:∀ m:Int,m=max 1 (min n 256)->St w0 (w.alloc (.cells #[.int .i64 m,.slice none 0 0,.int .i64 0] 357)) (QAt 357 w.heap.size ⟨(max 1 (min n 256)).toNat,[],0⟩*R):=fun m hm =>
  ((hs.row_nil 9 1).alloc (.cells #[_,.slice none 0 0,.int .i64 0] 357)).q_shut (by simp only[];omega) rfl rfl rfl
 by_cases h2:n<=1
 ·go_enter Tryz.func289,Tryz.ntmps289
  go_wp2;go_ret
  exact⟨w.heap.size,rfl,fin _ (by omega)⟩
 by_cases h1:256<n
 ·go_enter Tryz.func289,Tryz.ntmps289
  go_wp2;go_ret
  exact⟨w.heap.size,rfl,fin _ (by omega)⟩
 ·go_enter Tryz.func289,Tryz.ntmps289
  go_wp2;go_ret
  exact⟨w.heap.size,rfl,fin _ (by omega)⟩
def Q.take (q:Q):Q × ByteArray × Bool:=if q.sent<q.l.length then ({ q with sent:=q.sent+1 },q.l.getD q.sent ⟨#[]⟩,true) else (q,⟨#[]⟩,false)
theorem q_left (p:Nat) (q:Q) (w0 w:World) (R:HP) (h:St w0 w (QAt 357 p q*R)) (ok:q.Ok) :
  Calls Tryz.prog 144 #[ptr p] w fun e w'=>e=.returned (.int .i64 (q.l.length - q.sent))/\∃ n,w'=w.drewN n:=by
 obtain⟨lv,h1⟩:=h.q_open;obtain⟨_,m2,ll,sl⟩:=ok;have c:=h1.cell;obtain⟨a,cap,rfl,hc1,hc2⟩:=h1.drop.row_shape;go_enter Tryz.func144,Tryz.ntmps144
 go_wp2;go_quiet (fail)
 go_wp2;go_ret
 exact⟨rfl,_,rfl⟩
theorem q_sent (p:Nat) (q:Q) (w0 w:World) (R:HP) (h:St w0 w (QAt 357 p q*R)) :
  Calls Tryz.prog 143 #[ptr p] w fun e w'=>e=.returned (.int .i64 q.sent)/\w=w':=by
 obtain⟨lv,h1⟩:=h.q_open;have c:=h1.cell;go_enter Tryz.func143,Tryz.ntmps143
 go_wp2;go_ret
 exact⟨rfl,rfl⟩
theorem q_take (p:Nat) (q:Q) (w0 w:World) (R:HP) (h:St w0 w (QAt 357 p q*R)) (ok:q.Ok) :
  Calls Tryz.prog 305 #[ptr p] w fun e w'=>e=.returned (.tuple #[.string q.take.2.1,.bool q.take.2.2])/\St w0 w' (QAt 357 p q.take.1*R):=by
 obtain⟨_,m2,ll,sl⟩:=id ok;unfold Q.take;by_cases a1:q.sent<q.l.length
 ·rw[if_pos a1]
  go_enter Tryz.func305,Tryz.ntmps305
  go_wp2_with fail
  refine (q_left p q w0 w R h ok).mono ?_
  rintro e w1 ⟨rfl,n,rfl⟩;obtain⟨lv,h1⟩:=(h.drewN n).q_open;rcases (h1.eq (star_left_comm _ _ _)).row with ⟨_,rfl,e0,_⟩ | ⟨g,off,cap,cur,rfl,b1,b2,b3,b4,hr⟩
  ·omega
  have c:=h1.cell;have f:=h1.free;have ec:w.cell? ⟨g,off+q.sent,none⟩=some (.string (q.l.getD q.sent ⟨#[]⟩)):=by
   have:=hr.cell (off+q.sent)
   rw[b4 _ (by omega)] at this;exact this.trans (by simp[a1])
  have hgp:g≠p:=by
   have:=hr.eq (show _=blk g _*(blk p _*R) by ac_rfl)
   exact this.ne
  go_wp2;go_quiet (fail)
  go_wp2;go_ret2
  refine⟨by simp[a1],?_⟩
  exact ((h1.set 2 (.int .i64 (q.sent+1))).drewN _).q_shut rfl (by simp) rfl rfl
 ·rw[if_neg a1]
  go_enter Tryz.func305,Tryz.ntmps305
  go_wp2_with fail
  refine (q_left p q w0 w R h ok).mono ?_
  rintro e w1 ⟨rfl,n,rfl⟩;go_wp2;go_ret2
  exact⟨rfl,h.drewN n⟩
def Q.back (q:Q) (n:Int):Q × Bool:=if n<0\/(q.sent:Int)<n then (q,false) else ({ q with sent:=n.toNat },true)
theorem q_back (p:Nat) (q:Q) (n:Int) (w0 w:World) (R:HP) (h:St w0 w (QAt 357 p q*R)) :
  Calls Tryz.prog 310 #[ptr p,.int .i64 n] w fun e w'=>e=.returned (.bool (q.back n).2)/\St w0 w' (QAt 357 p (q.back n).1*R):=by
 obtain⟨lv,h1⟩:=h.q_open;have c:=h1.cell;have f:=h1.free;unfold Q.back;by_cases a1:n<0
 ·rw[if_pos (.inl a1)]
  go_enter Tryz.func310,Tryz.ntmps310
  go_wp2;go_ret
  exact⟨rfl,h⟩
 by_cases a2:(q.sent:Int)<n
 ·rw[if_pos (.inr a2)]
  go_enter Tryz.func310,Tryz.ntmps310
  go_wp2;go_ret
  exact⟨rfl,h⟩
 rw[if_neg (by omega)];go_enter Tryz.func310,Tryz.ntmps310
 go_wp2;go_ret
 exact⟨rfl,(h1.set 2 _).q_shut rfl (by simp only[];omega) rfl rfl⟩
def Q.done (q:Q) (n:Int):Q × Bool:=if n<0\/(q.sent:Int)<n then (q,false) else ({ q with l:=q.l.drop n.toNat,sent:=q.sent - n.toNat },true)
theorem q_done (p:Nat) (q:Q) (n:Int) (w0 w:World) (R:HP) (h:St w0 w (QAt 357 p q*R)) (ok:q.Ok) :
  Calls Tryz.prog 314 #[ptr p,.int .i64 n] w fun e w'=>e=.returned (.bool (q.done n).2)/\St w0 w' (QAt 357 p (q.done n).1*R):=by
 obtain⟨_,m2,ll,sl⟩:=id ok;obtain⟨lv,h1⟩:=h.q_open;have c:=h1.cell;have f:=h1.free;unfold Q.done;by_cases a1:n<0
 ·rw[if_pos (.inl a1)]
  go_enter Tryz.func314,Tryz.ntmps314
  go_wp2;go_ret
  exact⟨rfl,h⟩
 by_cases a2:(q.sent:Int)<n
 ·rw[if_pos (.inr a2)]
  go_enter Tryz.func314,Tryz.ntmps314
  go_wp2;go_ret
  exact⟨rfl,h⟩
 rw[if_neg (by omega)];obtain⟨a,cap,rfl,hc1,hc2⟩:=h1.drop.row_shape;go_enter Tryz.func314,Tryz.ntmps314
 go_wp2;go_region
 go_wp2
 ·have e:q.l.length=n.toNat:=by assumption
  go_ret
  refine⟨rfl,?_⟩
  exact (((h1.set 1 (.slice a 0 0)).set 2 (.int .i64 (q.sent - n))).drew).row_off a |>.q_shut rfl (by simp only[];omega) (by simp;omega) (by rw[← e];simp)
 ·have e:¬ q.l.length=n.toNat:=by assumption
  go_ret
  refine⟨rfl,?_⟩
  have h2:=(((h1.set 1 (.slice (a.map (fun x=>x.add n.toNat)) (q.l.length - n.toNat) (q.l.length - n.toNat))).set 2 (.int .i64 (q.sent - n))).drew).eq (star_left_comm _ _ _);have h3:=(h2.row_from n.toNat (by omega));exact (h3.eq (star_left_comm _ _ _)).q_shut rfl (by simp only[];omega) (by simp) (by simp)
theorem q_clear (p:Nat) (q:Q) (w0 w:World) (R:HP) (h:St w0 w (QAt 357 p q*R)) (ok:q.Ok) :
  Calls Tryz.prog 265 #[ptr p] w fun e w'=>e=.returned (.int .i64 q.l.length)/\St w0 w' (QAt 357 p ⟨q.most,[],0⟩*R):=by
 obtain⟨lv,h1⟩:=h.q_open;obtain⟨_,m2,ll,sl⟩:=ok;have c:=h1.cell;have f:=h1.free;obtain⟨a,cap,rfl,hc1,hc2⟩:=h1.drop.row_shape;go_enter Tryz.func265,Tryz.ntmps265
 go_wp2;go_ret
 refine⟨rfl,?_⟩
 exact ((h1.set 1 (.slice none 0 0)).set 2 (.int .i64 0)).row_off.q_shut rfl rfl rfl rfl
theorem Q.Ok.len {q:Q} (ok:q.Ok):q.l.length<=65536:=by obtain⟨_,_,_,_⟩:=ok;omega
theorem Q.Ok.push {q:Q} (ok:q.Ok) (s:ByteArray):(q.push s).1.Ok:=by
 obtain⟨_,_,_,_⟩:=id ok;unfold Q.push;split
 ·exact ok
 ·split
  ·exact ok
  ·exact⟨by assumption,by assumption,by simp only[List.length_append,List.length_singleton];omega,by simp only[List.length_append,List.length_singleton];omega⟩
theorem Q.Ok.take {q:Q} (ok:q.Ok):q.take.1.Ok:=by
 obtain⟨_,_,_,_⟩:=id ok;unfold Q.take;split
 ·exact⟨by assumption,by assumption,by assumption,by simp only[];omega⟩
 ·exact ok
theorem Q.Ok.back {q:Q} (ok:q.Ok) (n:Int):(q.back n).1.Ok:=by
 obtain⟨_,_,_,_⟩:=id ok;unfold Q.back;split
 ·exact ok
 ·exact⟨by assumption,by assumption,by assumption,by simp only[];omega⟩
theorem Q.Ok.done {q:Q} (ok:q.Ok) (n:Int):(q.done n).1.Ok:=by
 obtain⟨_,_,_,_⟩:=id ok;unfold Q.done;split
 ·exact ok
 ·exact⟨by assumption,by assumption,by simp only[List.length_drop];omega,by simp only[List.length_drop];omega⟩
theorem Q.Ok.new (n:Int):Q.Ok ⟨(max 1 (min n 256)).toNat,[],0⟩:=⟨by simp only[];omega,by simp only[];omega,by simp,by simp⟩
theorem Q.Ok.clear {q:Q} (ok:q.Ok):Q.Ok ⟨q.most,[],0⟩:=⟨ok.m1,ok.m2,by simp,by simp⟩
def roomOf (va vs k:Int):Int:=max 0 (max 1 (min k 127) - (vs - va) % 128)
theorem s_wrap (n:Int) (w:World):Calls Tryz.prog 334 #[.int .i64 n] w fun e w'=>e=.returned (.int .i64 (n % 128))/\w=w':=by
 have hb:=i64_and127 n;go_enter Tryz.func334,Tryz.ntmps334
 go_wp2;go_ret
 exact⟨rfl,rfl⟩
theorem s_norm (n:Int) (w:World):Calls Tryz.prog 311 #[.int .i64 n] w fun e w'=>e=.returned (.int .i64 (n % 128))/\w=w':=by
 go_enter Tryz.func311,Tryz.ntmps311
 go_wp2_with fail
 refine (s_wrap _ _).mono ?_
 rintro e w1 ⟨rfl,rfl⟩;go_wp2;go_ret
 exact⟨rfl,rfl⟩
theorem s_add (a n:Int) (w:World):Calls Tryz.prog 306 #[.int .i64 a,.int .i64 n] w fun e w'=>e=.returned (.int .i64 ((a+n) % 128))/\w=w':=by
 have h1:=Int.emod_nonneg a (show (128:Int)≠0 by decide);have h2:=Int.emod_lt_of_pos a (show (0:Int)<128 by decide);have h3:=Int.emod_nonneg n (show (128:Int)≠0 by decide);have h4:=Int.emod_lt_of_pos n (show (0:Int)<128 by decide);go_enter Tryz.func306,Tryz.ntmps306
 go_wp2_with fail
 refine (s_norm _ _).mono ?_
 rintro e w1 ⟨rfl,rfl⟩;go_wp2_with fail
 refine (s_norm _ _).mono ?_
 rintro e w1 ⟨rfl,rfl⟩;go_wp2_with fail
 refine (s_norm _ _).mono ?_
 rintro e w1 ⟨rfl,rfl⟩;go_wp2;go_ret
 exact⟨congrArg (fun x=>Ending.returned (.int .i64 x)) (by omega),rfl⟩
theorem s_sub (a b:Int) (w:World):Calls Tryz.prog 313 #[.int .i64 a,.int .i64 b] w fun e w'=>e=.returned (.int .i64 ((a - b) % 128))/\w=w':=by
 have h1:=Int.emod_nonneg a (show (128:Int)≠0 by decide);have h2:=Int.emod_lt_of_pos a (show (0:Int)<128 by decide);have h3:=Int.emod_nonneg b (show (128:Int)≠0 by decide);have h4:=Int.emod_lt_of_pos b (show (0:Int)<128 by decide);go_enter Tryz.func313,Tryz.ntmps313
 go_wp2_with fail
 refine (s_norm _ _).mono ?_
 rintro e w1 ⟨rfl,rfl⟩;go_wp2_with fail
 refine (s_norm _ _).mono ?_
 rintro e w1 ⟨rfl,rfl⟩;go_wp2_with fail
 refine (s_norm _ _).mono ?_
 rintro e w1 ⟨rfl,rfl⟩;go_wp2;go_ret
 exact⟨congrArg (fun x=>Ending.returned (.int .i64 x)) (by omega),rfl⟩
theorem s_valid (va nr vs:Int) (w:World):Calls Tryz.prog 312 #[.int .i64 va,.int .i64 nr,.int .i64 vs] w fun e w'=>e=.returned (.bool (decide ((nr - va) % 128<=(vs - va) % 128)))/\w=w':=by
 go_enter Tryz.func312,Tryz.ntmps312
 go_wp2_with fail
 refine (s_sub _ _ _).mono ?_
 rintro e w1 ⟨rfl,rfl⟩;go_wp2_with fail
 refine (s_sub _ _ _).mono ?_
 rintro e w1 ⟨rfl,rfl⟩;go_wp2;go_ret
 exact⟨rfl,rfl⟩
theorem s_room (va vs k:Int) (w:World):Calls Tryz.prog 304 #[.int .i64 va,.int .i64 vs,.int .i64 k] w fun e w'=>e=.returned (.int .i64 (roomOf va vs k))/\w=w':=by
 have h1:=Int.emod_nonneg (vs - va) (show (128:Int)≠0 by decide);have h2:=Int.emod_lt_of_pos (vs - va) (show (0:Int)<128 by decide);go_enter Tryz.func304,Tryz.ntmps304
 go_wp2_with fail
 all_goals
  refine (s_sub _ _ _).mono ?_
  rintro e w1 ⟨rfl,rfl⟩;generalize hd:(vs - va) % 128=d at *;have Hd:=Lib.hid hd;clear hd;go_wp2;all_goals
   go_ret
   exact⟨congrArg (fun x=>Ending.returned (.int .i64 x)) (by unfold roomOf;have:=Hd.out;omega),rfl⟩
structure Fl where
 vs:Nat
 va:Nat
 vr:Nat
 peer:Bool
 own:Bool
 refused:Bool
 k:Int
 q:Q
structure Fl.Ok (s:Fl):Prop where
 s1:s.vs<128
 a1:s.va<128
 r1:s.vr<128
 q:s.q.Ok
 w:(s.q.sent:Int)=((s.vs:Int) - s.va) % 128
 n:(s.q.sent:Int)<=max 1 (min s.k 127)
abbrev Fl.cells (s:Fl) (qp:Nat):Array Value:=#[.int .i64 s.vs,.int .i64 s.va,.int .i64 s.vr,.bool s.peer,.bool s.own,.bool s.refused,.int .i64 s.k,ptr qp]
def FAt (T U:TypeId) (f:Nat) (s:Fl):HP:=hex fun qp:Nat=>blk f (.cells (s.cells qp) T (0,0))*QAt U qp s.q
theorem St.f_open {w0 w:World} {R:HP} {T U:TypeId} {f:Nat} {s:Fl} (h:St w0 w (FAt T U f s*R)) :
  ∃ qp,St w0 w (blk f (.cells (s.cells qp) T (0,0))*(QAt U qp s.q*R)):=by
 obtain⟨qp,h⟩:=h.ex;exact⟨qp,h.eq (star_assoc _ _ _)⟩
theorem St.f_shut {w0 w:World} {R:HP} {T U:TypeId} {f qp:Nat} {s:Fl} {c:Array Value} {q:Q} (h:St w0 w (blk f (.cells c T (0,0))*(QAt U qp q*R))) (hc:c=s.cells qp) (hq:q=s.q):St w0 w (FAt T U f s*R):=by
 subst hc hq;exact St.mk_ex qp (h.eq (star_assoc _ _ _).symm)
abbrev TF:TypeId:=291
abbrev TQ:TypeId:=357
theorem quiet_left {P:Program} {f:FuncId} {args:Array Value} {w:World} {n:Nat} {v:Value}
  (h:Calls P f args (w.drewN n) fun e w'=>e=.returned v/\w.drewN n=w'):Calls P f args (w.drewN n) fun e w''=>e=.returned v/\∃ m,w''=w.drewN m :=
 h.mono fun _ _ ⟨he,hm⟩=>⟨he,n,hm.symm⟩
theorem f_new (k n:Int) (w0 w:World) (R:HP) (h:St w0 w R) :
  Calls Tryz.prog 227 #[.int .i64 k,.int .i64 n] w fun e w'=>∃ f,e=.returned (ptr f)/\St w0 w' (FAt TF TQ f ⟨0,0,0,false,false,false,k,⟨(max 1 (min n 256)).toNat,[],0⟩⟩*R):=by
 go_enter Tryz.func227,Tryz.ntmps227
 go_wp2_with fail
 refine (q_new n w0 w R h).mono ?_
 rintro e w1 ⟨p,rfl,h1⟩;go_wp2;go_ret
 exact⟨_,rfl,(h1.alloc (.cells (Fl.cells ⟨0,0,0,false,false,false,k,⟨(max 1 (min n 256)).toNat,[],0⟩⟩ p) TF)).f_shut rfl rfl⟩
def Fl.take (s:Fl):Fl × Nat × ByteArray × Bool :=
 if s.peer=true\/s.q.l.length<=s.q.sent\/roomOf s.va s.vs s.k=0 then (s,0,⟨#[]⟩,false)
 else ({ s with vs:=(s.vs+1) % 128,q:=s.q.take.1 },s.vs,s.q.take.2.1,true)
theorem f_take (f:Nat) (s:Fl) (w0 w:World) (R:HP) (h:St w0 w (FAt TF TQ f s*R)) (ok:s.Ok) :
  Calls Tryz.prog 267 #[ptr f] w fun e w'=>e=.returned (.tuple #[.int .i64 s.take.2.1,.string s.take.2.2.1,.bool s.take.2.2.2])/\St w0 w' (FAt TF TQ f s.take.1*R):=by
 obtain⟨qp,h1⟩:=h.f_open;have hq:=h1.eq (star_left_comm _ _ _);unfold Fl.take;have o1:=ok.s1;have sl:=ok.q.sl;obtain⟨vs,va,vr,peer,own,refused,k,q⟩:=s;have c:=h1.cell;have f:=h1.free;simp only[] at *;cases peer with
 | true =>
   rw[if_pos (.inl rfl)];go_enter Tryz.func267,Tryz.ntmps267
   go_wp2;go_quiet (fail)
   go_wp2;go_ret3
   exact⟨rfl,h.drewN _⟩
 | false =>
 by_cases b1:q.l.length<=q.sent
 ·rw[if_pos (.inr (.inl b1))]
  have hb:((q.l.length:Int) - (q.sent:Int) == 0)=true:=by simp;omega
  go_enter Tryz.func267,Tryz.ntmps267
  go_wp2;go_quiet ((go_at_call 144;exact Calls.quiet_of (q_left qp q w0 _ _ (hq.drewN _) ok.q)))
  go_wp2;go_ret3
  exact⟨rfl,h.drewN _⟩
 have hb:((q.l.length:Int) - (q.sent:Int) == 0)=false:=by simp;omega
 by_cases b2:roomOf va vs k=0
 ·rw[if_pos (.inr (.inr b2))]
  have hr:(roomOf va vs k == 0)=true:=by simpa using b2
  clear b2;go_enter Tryz.func267,Tryz.ntmps267
  go_wp2;go_quiet ((first | (go_at_call 144;exact Calls.quiet_of (q_left qp q w0 _ _ (hq.drewN _) ok.q)) | (go_at_call 304;exact quiet_left (s_room _ _ _ _))))
  go_wp2;go_ret3
  exact⟨rfl,h.drewN _⟩
 ·rw[if_neg (by simp;omega)]
  have hr:(roomOf va vs k == 0)=false:=by simpa using b2
  clear b2;go_enter Tryz.func267,Tryz.ntmps267
  go_wp2;go_quiet ((first | (go_at_call 144;exact Calls.quiet_of (q_left qp q w0 _ _ (hq.drewN _) ok.q)) | (go_at_call 304;exact quiet_left (s_room _ _ _ _))))
  go_wp2_with fail
  refine (q_take qp q w0 _ _ (hq.drewN _) ok.q).mono ?_
  rintro e w1 ⟨rfl,h2⟩;have h3:=h2.eq (star_left_comm _ _ _);have c3:=h3.cell;have f3:=h3.free;go_wp2_with fail
  refine (s_add _ _ _).mono ?_
  rintro e w2 ⟨rfl,rfl⟩;go_wp2;go_ret3
  refine⟨rfl,(h3.set 0 (.int .i64 (((vs:Int)+1) % 128))).f_shut ?_ rfl⟩
  simp[Fl.cells]
def Fl.ack (s:Fl) (nr:Int):Fl × Int × Int :=
 if (nr - s.va) % 128<=((s.vs:Int) - s.va) % 128 then ({ s with va:=(nr % 128).toNat,q:=(s.q.done ((nr - s.va) % 128)).1 },(nr - s.va) % 128,0) else (s,0,2)
theorem f_ack (f:Nat) (s:Fl) (nr:Int) (w0 w:World) (R:HP) (h:St w0 w (FAt TF TQ f s*R)) (ok:s.Ok) :
  Calls Tryz.prog 279 #[ptr f,.int .i64 nr] w fun e w'=>e=.returned (.tuple #[.int .i64 (s.ack nr).2.1,.int .i64 (s.ack nr).2.2])/\St w0 w' (FAt TF TQ f (s.ack nr).1*R):=by
 obtain⟨qp,h1⟩:=h.f_open;have hq:=h1.eq (star_left_comm _ _ _);unfold Fl.ack;obtain⟨vs,va,vr,peer,own,refused,k,q⟩:=s;have c:=h1.cell;have f:=h1.free;have okq:=ok.q;simp only[] at *;have n1:=Int.emod_nonneg nr (show (128:Int)≠0 by decide);by_cases b:(nr - va) % 128<=((vs:Int) - va) % 128
 ·rw[if_pos b]
  have hb:decide ((nr - va) % 128<=((vs:Int) - va) % 128)=true:=by simpa using b
  clear b;go_enter Tryz.func279,Tryz.ntmps279
  go_wp2;go_quiet ((go_at_call 312;exact quiet_left (s_valid _ _ _ _)))
  go_wp2_with fail
  refine (s_sub _ _ _).mono ?_
  rintro e w1 ⟨rfl,rfl⟩;go_wp2_with fail
  refine (q_done qp q _ w0 _ _ (hq.drewN _) okq).mono ?_
  rintro e w1 ⟨rfl,h2⟩;have h3:=h2.eq (star_left_comm _ _ _);have c3:=h3.cell;have f3:=h3.free;go_wp2_with fail
  refine (s_norm _ _).mono ?_
  rintro e w2 ⟨rfl,rfl⟩;go_wp2;go_ret2
  refine⟨rfl,(h3.set 1 (.int .i64 (nr % 128))).f_shut ?_ rfl⟩
  simp[Fl.cells]
  omega
 ·rw[if_neg b]
  have hb:decide ((nr - va) % 128<=((vs:Int) - va) % 128)=false:=by simpa using b
  clear b;go_enter Tryz.func279,Tryz.ntmps279
  go_wp2;go_quiet ((go_at_call 312;exact quiet_left (s_valid _ _ _ _)))
  go_wp2;go_ret2
  exact⟨rfl,h.drewN _⟩
def Fl.back (s:Fl):Fl:={ s with vs:=s.va,q:=(s.q.back 0).1 }
theorem f_back (f:Nat) (s:Fl) (w0 w:World) (R:HP) (h:St w0 w (FAt TF TQ f s*R)) :
  Calls Tryz.prog 282 #[ptr f] w fun e w'=>e=.returned (.tuple #[])/\St w0 w' (FAt TF TQ f s.back*R):=by
 obtain⟨qp,h1⟩:=h.f_open;have hq:=h1.eq (star_left_comm _ _ _);obtain⟨vs,va,vr,peer,own,refused,k,q⟩:=s;have c:=h1.cell;have f:=h1.free;simp only[] at *;go_enter Tryz.func282,Tryz.ntmps282
 go_wp2_with fail
 refine (q_back qp q 0 w0 _ _ hq).mono ?_
 rintro e w1 ⟨rfl,h2⟩;have h3:=h2.eq (star_left_comm _ _ _);have c3:=h3.cell;have f3:=h3.free;go_wp2;go_end0
 exact⟨rfl,(h3.set 0 (.int .i64 va)).f_shut (by simp[Fl.cells,Fl.back]) rfl⟩
def Fl.come (s:Fl) (ns:Int):Fl × Int :=
 if s.own=true then (s,3) else if ns % 128=s.vr then ({ s with vr:=((ns+1) % 128).toNat,refused:=false },0) else if s.refused=true then (s,2) else ({ s with refused:=true },1)
theorem f_come (f:Nat) (s:Fl) (ns:Int) (w0 w:World) (R:HP) (h:St w0 w (FAt TF TQ f s*R)) :
  Calls Tryz.prog 278 #[ptr f,.int .i64 ns] w fun e w'=>e=.returned (.int .i64 (s.come ns).2)/\St w0 w' (FAt TF TQ f (s.come ns).1*R):=by
 obtain⟨qp,h1⟩:=h.f_open;obtain⟨vs,va,vr,peer,own,refused,k,q⟩:=s;have c:=h1.cell;have f:=h1.free;unfold Fl.come;simp only[] at *;have n1:=Int.emod_nonneg (ns+1) (show (128:Int)≠0 by decide);cases own with
 | true =>
   rw[if_pos rfl];go_enter Tryz.func278,Tryz.ntmps278
   go_wp2;go_ret
   exact⟨rfl,h⟩
 | false =>
 rw[if_neg (by simp)];by_cases b:ns % 128=vr
 ·rw[if_pos b]
  have hb:((ns % 128) == (vr:Int))=true:=by simpa using b
  have Hb:=Lib.hid b;have e1:(ns % 128+1) % 128=(ns+1) % 128:=by omega
  clear b;go_enter Tryz.func278,Tryz.ntmps278
  go_wp2_with fail
  go_quiet ((go_at_call 311;exact quiet_left (s_norm _ _)))
  go_wp2_with fail
  refine (s_add _ _ _).mono ?_
  rintro e w1 ⟨rfl,rfl⟩;go_wp2;go_ret
  refine⟨rfl,St.f_shut (s:={ vs:=vs,va:=va,vr:=((ns+1) % 128).toNat,peer:=peer,own:=false,refused:=false,k:=k,q:=q }) (((h1.drewN _).set 2 (.int .i64 ((ns+1) % 128))).set 5 (.bool false)) ?_ rfl⟩
  simp[Fl.cells]
  omega
 ·rw[if_neg b]
  have hb:((ns % 128) == (vr:Int))=false:=by simpa using b
  clear b;cases refused with
  | true =>
    rw[if_pos rfl];go_enter Tryz.func278,Tryz.ntmps278
    go_wp2_with fail
    go_quiet ((go_at_call 311;exact quiet_left (s_norm _ _)))
    go_wp2;go_ret
    exact⟨rfl,h.drewN _⟩
  | false =>
    rw[if_neg (by simp)];go_enter Tryz.func278,Tryz.ntmps278
    go_wp2_with fail
    go_quiet ((go_at_call 311;exact quiet_left (s_norm _ _)))
    go_wp2;go_ret
    refine⟨rfl,St.f_shut (s:={ vs:=vs,va:=va,vr:=vr,peer:=peer,own:=false,refused:=true,k:=k,q:=q }) ((h1.drewN _).set 5 (.bool true)) ?_ rfl⟩
    simp[Fl.cells]
theorem f_set_peer (f:Nat) (s:Fl) (b:Bool) (w0 w:World) (R:HP) (h:St w0 w (FAt TF TQ f s*R)) :
  Calls Tryz.prog 281 #[ptr f,.bool b] w fun e w'=>e=.returned (.tuple #[])/\St w0 w' (FAt TF TQ f { s with peer:=b }*R):=by
 obtain⟨qp,h1⟩:=h.f_open;obtain⟨vs,va,vr,peer,own,refused,k,q⟩:=s;have c:=h1.cell;have f:=h1.free;go_enter Tryz.func281,Tryz.ntmps281
 go_wp2;go_end0
 exact⟨rfl,(h1.set 3 (.bool b)).f_shut (by simp[Fl.cells]) rfl⟩
def Fl.reset (s:Fl):Fl:={ s with vs:=0,va:=0,vr:=0,peer:=false,own:=false,refused:=false,q:=(s.q.back 0).1 }
theorem f_reset (f:Nat) (s:Fl) (w0 w:World) (R:HP) (h:St w0 w (FAt TF TQ f s*R)) :
  Calls Tryz.prog 277 #[ptr f] w fun e w'=>e=.returned (.tuple #[])/\St w0 w' (FAt TF TQ f s.reset*R):=by
 obtain⟨qp,h1⟩:=h.f_open;have hq:=h1.eq (star_left_comm _ _ _);obtain⟨vs,va,vr,peer,own,refused,k,q⟩:=s;have c:=h1.cell;have f:=h1.free;simp only[] at *;go_enter Tryz.func277,Tryz.ntmps277
 go_wp2_with fail
 refine (q_back qp q 0 w0 _ _ hq).mono ?_
 rintro e w1 ⟨rfl,h2⟩;have h3:=h2.eq (star_left_comm _ _ _);have c3:=h3.cell;have f3:=h3.free;go_wp2;go_end0
 refine⟨rfl,?_⟩
 have h4:=(((((h3.set 0 (.int .i64 0)).set 1 (.int .i64 0)).set 2 (.int .i64 0)).set 3 (.bool false)).set 4 (.bool false)).set 5 (.bool false);exact h4.f_shut (by simp[Fl.cells,Fl.reset]) rfl
def Fl.clear (s:Fl):Fl:={ s with vs:=s.va,q:=⟨s.q.most,[],0⟩ }
theorem f_clear (f:Nat) (s:Fl) (w0 w:World) (R:HP) (h:St w0 w (FAt TF TQ f s*R)) (ok:s.Ok) :
  Calls Tryz.prog 199 #[ptr f] w fun e w'=>e=.returned (.int .i64 s.q.l.length)/\St w0 w' (FAt TF TQ f s.clear*R):=by
 obtain⟨qp,h1⟩:=h.f_open;obtain⟨vs,va,vr,peer,own,refused,k,q⟩:=s;have c:=h1.cell;have f:=h1.free;have h2:=h1.set 0 (.int .i64 va);have c2:=h2.cell;have okq:=ok.q;simp only[] at *;go_enter Tryz.func199,Tryz.ntmps199
 go_wp2_with fail
 refine (q_clear qp q w0 _ _ (h2.eq (star_left_comm _ _ _)) okq).mono ?_
 rintro e w1 ⟨rfl,h3⟩;go_wp2;go_ret
 exact⟨rfl,(h3.eq (star_left_comm _ _ _)).f_shut (by simp[Fl.cells,Fl.clear]) rfl⟩
def Fl.view (s:Fl):Array Value:=#[.int .i64 s.vs,.int .i64 s.va,.int .i64 s.vr,.bool s.peer,.bool s.own,.bool s.refused,.int .i64 s.q.sent,.int .i64 ((s.q.l.length:Int) - s.q.sent)]
theorem f_view (f:Nat) (s:Fl) (w0 w:World) (R:HP) (h:St w0 w (FAt TF TQ f s*R)) (ok:s.Ok) :
  Calls Tryz.prog 80 #[ptr f] w fun e w'=>e=.returned (.agg s.view)/\St w0 w' (FAt TF TQ f s*R):=by
 obtain⟨qp,h1⟩:=h.f_open;obtain⟨vs,va,vr,peer,own,refused,k,q⟩:=s;have c:=h1.cell;have f:=h1.free;have okq:=ok.q;simp only[] at *;have h2:=(h1.alloc (.cells #[.int .i64 0,.int .i64 0,.int .i64 0,.bool false,.bool false,.bool false,.int .i64 0,.int .i64 0] 47)).alloc (.cells #[.int .i64 vs,.int .i64 va,.int .i64 vr,.bool peer,.bool own,.bool refused] 288);have hq:=h2.eq (show _=QAt TQ qp q*_ from star_4 _ _ _ _ _);have lt:=h1.lt;go_enter Tryz.func80,Tryz.ntmps80
 go_upto_region 4 with fail
 generalize hw2:(w.alloc (.cells #[.int .i64 0,.int .i64 0,.int .i64 0,.bool false,.bool false,.bool false,.int .i64 0,.int .i64 0] 47)).alloc (.cells #[.int .i64 vs,.int .i64 va,.int .i64 vr,.bool peer,.bool own,.bool refused] 288)=w2 at *;have c2:=h2.cell;have c3:=(h2.eq (star_left_comm _ _ _)).cell;have f3:=(h2.eq (star_left_comm _ _ _)).free;have c4:=(h2.eq (star_3 _ _ _ _)).cell;have f4:=(h2.eq (star_3 _ _ _ _)).free;simp only[World.size_alloc] at *;clear hw2 c f;generalize hg:w.heap.size=g at *;have k0:w2.cell? ⟨g+1,0,none⟩=some (.int .i64 vs):=c2 0;have k1:w2.cell? ⟨g+1,1,none⟩=some (.int .i64 va):=c2 1;have k2:w2.cell? ⟨g+1,2,none⟩=some (.int .i64 vr):=c2 2;have k3:w2.cell? ⟨g+1,3,none⟩=some (.bool peer):=c2 3;have k4:w2.cell? ⟨g+1,4,none⟩=some (.bool own):=c2 4;have k5:w2.cell? ⟨g+1,5,none⟩=some (.bool refused):=c2 5;have k6:w2.cell? ⟨f,7,none⟩=some (ptr qp):=c4 7;clear hg c2 c4 f4;have hne:f≠g:=by omega
 have hne2:g≠f:=by omega
 go_region_held3 (fun w'=>w'.cell? ⟨g+1,0,none⟩=some (.int .i64 vs)/\w'.cell? ⟨g+1,1,none⟩=some (.int .i64 va)/\w'.cell? ⟨g+1,2,none⟩=some (.int .i64 vr)/\w'.cell? ⟨g+1,3,none⟩=some (.bool peer)/\w'.cell? ⟨g+1,4,none⟩=some (.bool own)/\w'.cell? ⟨g+1,5,none⟩=some (.bool refused)/\w'.cell? ⟨f,7,none⟩=some (ptr qp)) (first | (with_reducible exact⟨k0,k1,k2,k3,k4,k5,k6⟩) | (simp only[World.cell?_drew];with_reducible exact⟨k0,k1,k2,k3,k4,k5,k6⟩) | (with_reducible exact⟨m0,m1,m2,m3,m4,m5,m6⟩) | go_keep) (first | (go_at_call 143;refine (q_sent qp q w0 _ _ hq.drew).mono ?_;rintro e w5 ⟨rfl,rfl⟩) | (go_at_call 144;refine (q_left qp q w0 _ _ hq.drew okq).mono ?_;rintro e w6 ⟨rfl,n,hw6⟩;have h6:St w0 w6 _:=hw6 ▸ h2.drew.drewN n;clear hw6;have m0:=(h6.cell 0).trans (show _=some (Value.int .i64 vs) from rfl);have m1:=(h6.cell 1).trans (show _=some (Value.int .i64 va) from rfl);have m2:=(h6.cell 2).trans (show _=some (Value.int .i64 vr) from rfl);have m3:=(h6.cell 3).trans (show _=some (Value.bool peer) from rfl);have m4:=(h6.cell 4).trans (show _=some (Value.bool own) from rfl);have m5:=(h6.cell 5).trans (show _=some (Value.bool refused) from rfl);have m6:=((h6.eq (star_3 _ _ _ _)).cell 7).trans (show _=some (ptr qp) from rfl);have c6:=(h6.eq (star_left_comm _ _ _)).cell;have f6:=(h6.eq (star_left_comm _ _ _)).free))
 go_wp2;have h9:=(((((((((h6.eq (star_left_comm _ _ _)).set 0 (.int .i64 vs)).set 1 (.int .i64 va)).set 2 (.int .i64 vr)).set 3 (.bool peer)).set 4 (.bool own)).set 5 (.bool refused)).set 6 (.int .i64 q.sent)).set 7 (.int .i64 ((q.l.length:Int) - q.sent)));generalize ((((((((w6.setCell ⟨g,0,none⟩ (.int .i64 vs)).setCell ⟨g,1,none⟩ (.int .i64 va)).setCell ⟨g,2,none⟩ (.int .i64 vr)).setCell ⟨g,3,none⟩ (.bool peer)).setCell ⟨g,4,none⟩ (.bool own)).setCell ⟨g,5,none⟩ (.bool refused)).setCell ⟨g,6,none⟩ (.int .i64 q.sent)).setCell ⟨g,7,none⟩ (.int .i64 ((q.l.length:Int) - q.sent)))=w9 at *;have c9:=h9.cell;refine bodyPost_ret (v:=.agg (Fl.view ⟨vs,va,vr,peer,own,refused,k,q⟩)) (by simp[results,Tryz.results80,go_sem,Fl.view,c9]) rfl ⟨rfl,?_⟩
 exact h9.drop.drop.f_shut rfl rfl
theorem push_sent (q:Q) (s:ByteArray):(q.push s).1.sent=q.sent:=by unfold Q.push;split <;> (try split) <;> rfl
theorem back0_sent (q:Q):(q.back 0).1={ q with sent:=0 }:=by unfold Q.back;rw[if_neg (by omega)];rfl
theorem Fl.Ok.new (k:Int) (n:Int):Fl.Ok ⟨0,0,0,false,false,false,k,⟨(max 1 (min n 256)).toNat,[],0⟩⟩:=⟨by simp,by simp,by simp,Q.Ok.new n,by simp,by simp only[];omega⟩
theorem Fl.Ok.push {s:Fl} (ok:s.Ok) (d:ByteArray):Fl.Ok { s with q:=(s.q.push d).1 }:=⟨ok.s1,ok.a1,ok.r1,ok.q.push d,by simp only[push_sent];exact ok.w,by simp only[push_sent];exact ok.n⟩
theorem Fl.Ok.take {s:Fl} (ok:s.Ok):s.take.1.Ok:=by
 unfold Fl.take;split
 ·exact ok
 ·rename_i h
  simp only[not_or] at h;have hw:=ok.w;have h3:=h.2.2;unfold roomOf at h3;have hs:s.q.take.1.sent=s.q.sent+1:=by unfold Q.take;rw[if_pos (by omega)]
  have:=ok.s1
  have:=ok.a1
  refine⟨by simp only[];omega,ok.a1,ok.r1,ok.q.take,?_,?_⟩
  ·simp only[hs]
   omega
  ·simp only[hs]
   omega
theorem Fl.Ok.ack {s:Fl} (ok:s.Ok) (nr:Int):(s.ack nr).1.Ok:=by
 unfold Fl.ack;split
 ·rename_i h
  have hw:=ok.w;have:=ok.s1
  have:=ok.a1
  have hn:=ok.n;have hs:(s.q.done ((nr - s.va) % 128)).1.sent=s.q.sent - ((nr - s.va) % 128).toNat:=by unfold Q.done;rw[if_neg (by omega)]
  refine⟨ok.s1,by simp only[];omega,ok.r1,ok.q.done _,?_,?_⟩
  ·simp only[hs]
   omega
  ·simp only[hs]
   omega
 ·exact ok
theorem Fl.Ok.back {s:Fl} (ok:s.Ok):s.back.Ok:=⟨ok.a1,ok.a1,ok.r1,ok.q.back 0,by simp only[Fl.back,back0_sent];simp,by simp only[Fl.back,back0_sent];omega⟩
theorem Fl.Ok.come {s:Fl} (ok:s.Ok) (ns:Int):(s.come ns).1.Ok:=by
 unfold Fl.come;split
 ·exact ok
 ·split
  ·exact⟨ok.s1,ok.a1,by simp only[];omega,ok.q,ok.w,ok.n⟩
  ·split
   ·exact ok
   ·exact⟨ok.s1,ok.a1,ok.r1,ok.q,ok.w,ok.n⟩
theorem Fl.Ok.peer {s:Fl} (ok:s.Ok) (b:Bool):Fl.Ok { s with peer:=b }:=⟨ok.s1,ok.a1,ok.r1,ok.q,ok.w,ok.n⟩
theorem Fl.Ok.own {s:Fl} (ok:s.Ok) (b:Bool):Fl.Ok { s with own:=b }:=⟨ok.s1,ok.a1,ok.r1,ok.q,ok.w,ok.n⟩
theorem Fl.Ok.reset {s:Fl} (ok:s.Ok):s.reset.Ok:=⟨by simp[Fl.reset],by simp[Fl.reset],by simp[Fl.reset],ok.q.back 0,by simp only[Fl.reset,back0_sent];simp,by simp only[Fl.reset,back0_sent];omega⟩
theorem Fl.Ok.clear {s:Fl} (ok:s.Ok):s.clear.Ok:=⟨ok.a1,ok.a1,ok.r1,ok.q.clear,by simp[Fl.clear],by simp only[Fl.clear];omega⟩
structure Fl.Like (s t:Fl):Prop where
 k:t.k=s.k
 most:t.q.most=s.q.most
theorem Fl.Like.refl (s:Fl):s.Like s:=⟨rfl,rfl⟩
theorem Fl.Like.trans {a b c:Fl} (h:a.Like b) (g:b.Like c):a.Like c:=⟨g.k.trans h.k,g.most.trans h.most⟩
end Go.Proofs.YtjcldoejpldcmaaGreatDoor
