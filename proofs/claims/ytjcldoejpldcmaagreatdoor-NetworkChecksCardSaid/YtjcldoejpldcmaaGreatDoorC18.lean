/- Parts of a proof (NPool, NPoolL, NPoolF, NSrc, NSrcB, NSrcC). No condition. -/
import Derived.Test.YtjcldoejpldcmaaGreatDoorC3
import Derived.Test.YtjcldoejpldcmaaGreatDoorProg
import Derived.StillTailTactics
import Derived.Test.YtjcldoejpldcmaaGreatDoorC4
import Derived.Test.YtjcldoejpldcmaaGreatDoorC13
import Derived.Test.YtjcldoejpldcmaaGreatDoorC2
namespace Go.Proofs.YtjcldoejpldcmaaGreatDoor
set_option maxRecDepth 100000
set_option maxHeartbeats 6400000
open Go.RowKit
theorem u64_pow (i:Nat) (h:i<=62):IntKind.u64.wrap ((2 ^ i:Nat):Int)=((2 ^ i:Nat):Int):=by
 have h1:2 ^ i<=2 ^ 62:=Nat.pow_le_pow_right (by decide) h;generalize 2 ^ i=m at *;show (m:Int) % 2 ^ 64=_
 omega
theorem p_bit (tei:Int) (w:World):Calls Tryz.prog 158 #[.int .i64 tei] w fun e w'=>e=.returned (.int .u64 (if 64<=tei/\tei<=126 then ((2 ^ (tei.toNat - 64):Nat):Int) else 0))/\w=w':=by
 by_cases a:64<=tei
 ·by_cases b:tei<=126
  ·rw[if_pos ⟨a,b⟩]
   have e1:(tei - 64).toNat=tei.toNat - 64:=by omega
   have e2:=u64_pow (tei.toNat - 64) (by omega);have E1:=Lib.hid e1;have E2:=Lib.hid e2;clear e1 e2;go_enter Tryz.func158,Tryz.ntmps158
   go_wp2;go_ret
   refine⟨?_,rfl⟩
   have:=E2.out
   rw[← E1.out] at this ⊢;simp only[Int.natCast_pow] at this ⊢;exact congrArg (fun x=>Ending.returned (.int .u64 x)) this
  ·rw[if_neg (by omega)]
   go_enter Tryz.func158,Tryz.ntmps158
   go_wp2;all_goals
    go_ret
    exact⟨rfl,rfl⟩
 ·rw[if_neg (by omega)]
  go_enter Tryz.func158,Tryz.ntmps158
  go_wp2;all_goals
   go_ret
   exact⟨rfl,rfl⟩
theorem and_pow (n i:Nat):n &&& 2 ^ i=if n.testBit i then 2 ^ i else 0:=by
 refine Nat.eq_of_testBit_eq fun j=>?_
 by_cases h:i=j
 ·subst h
  cases hb:n.testBit i <;> simp[Nat.testBit_and,hb]
 ·cases hb:n.testBit i <;> simp[Nat.testBit_and,h]
theorem u64_and_pow (n i:Nat) (hn:n<2 ^ 64) (hi:i<=62):bits .and .u64 (n:Int) ((2 ^ i:Nat):Int)=if n.testBit i then ((2 ^ i:Nat):Int) else 0:=by
 have h1:2 ^ i<=2 ^ 62:=Nat.pow_le_pow_right (by decide) hi;have key:(BitVec.ofInt 64 (n:Int) &&& BitVec.ofInt 64 ((2 ^ i:Nat):Int)).toNat=if n.testBit i then 2 ^ i else 0:=by
  rw[← and_pow];generalize 2 ^ i=m at *;rw[BitVec.toNat_and,BitVec.toNat_ofInt,BitVec.toNat_ofInt];congr 1 <;> omega
 show IntKind.u64.wrap ((BitVec.ofInt 64 (n:Int) &&& BitVec.ofInt 64 ((2 ^ i:Nat):Int)).toNat:Nat)=_
 rw[key];cases n.testBit i
 ·rfl
 ·simp only[if_true]
  exact u64_pow i hi
structure Pl where
 on:Nat
 last:Nat
def Pl.has (p:Pl) (tei:Int):Bool:=decide (64<=tei/\tei<=126) && p.on.testBit (tei.toNat - 64)
def PAt (p:Nat) (s:Pl):HP:=blk p (.cells #[.int .u64 s.on,.int .i64 s.last] 269 (0,0))
theorem p_has (p:Nat) (s:Pl) (tei:Int) (w0 w:World) (R:HP) (h:St w0 w (PAt p s*R)) (hn:s.on<2 ^ 63) :
  Calls Tryz.prog 142 #[ptr p,.int .i64 tei] w fun e w'=>e=.returned (.bool (s.has tei))/\∃ n,w'=w.drewN n:=by
 have c:=h.cell;have hb:=fun n=>p_bit tei (w.drewN n)
 unfold Pl.has;by_cases a:64<=tei/\tei<=126
 ·have e1:=u64_and_pow s.on (tei.toNat - 64) (by omega) (by omega)
  simp only[if_pos a] at hb;have h0:(((2 ^ (tei.toNat - 64):Nat):Int) == 0)=false:=by
   have:=Nat.two_pow_pos (tei.toNat - 64)
   generalize 2 ^ (tei.toNat - 64)=m at *;simp
   omega
  simp only[a.1,a.2,and_self,decide_true,Bool.true_and];clear a hn;generalize ((2 ^ (tei.toNat - 64):Nat):Int)=m at *;cases hx:s.on.testBit (tei.toNat - 64)
  all_goals
   simp only[hx,if_true,if_false,Bool.false_eq_true] at e1;clear hx;go_enter Tryz.func142,Tryz.ntmps142
   go_wp2;go_quiet ((go_at_call 158;exact quiet_left (hb _)))
   go_wp2;go_ret
   first | exact⟨rfl,_,rfl⟩ | exact⟨by simp[bne,h0],_,rfl⟩
 ·have e1:bits .and .u64 (s.on:Int) 0=0:=by
   show IntKind.u64.wrap ((BitVec.ofInt 64 (s.on:Int) &&& BitVec.ofInt 64 0).toNat:Nat)=0
   rw[show BitVec.ofInt 64 0=0#64 from rfl,BitVec.and_zero];rfl
  simp only[if_neg a] at hb;rw[show decide (64<=tei/\tei<=126)=false by simpa using a];clear a hn;go_enter Tryz.func142,Tryz.ntmps142
  go_wp2;go_quiet ((go_at_call 158;exact quiet_left (hb _)))
  go_wp2;go_ret
  exact⟨rfl,_,rfl⟩
theorem u64_or_pow (n i:Nat) (hn:n<2 ^ 63) (hi:i<=62):bits .or .u64 (n:Int) ((2 ^ i:Nat):Int)=((n ||| 2 ^ i:Nat):Int):=by
 have h1:2 ^ i<2 ^ 63:=Nat.pow_lt_pow_right (by decide) (by omega);have h2:n ||| 2 ^ i<2 ^ 63:=Nat.or_lt_two_pow hn h1
 have key:(BitVec.ofInt 64 (n:Int) ||| BitVec.ofInt 64 ((2 ^ i:Nat):Int)).toNat=n ||| 2 ^ i:=by
  generalize 2 ^ i=m at *;rw[BitVec.toNat_or,BitVec.toNat_ofInt,BitVec.toNat_ofInt];congr 1 <;> omega
 show IntKind.u64.wrap ((BitVec.ofInt 64 (n:Int) ||| BitVec.ofInt 64 ((2 ^ i:Nat):Int)).toNat:Nat)=_
 rw[key];generalize n ||| 2 ^ i=m at *
 show (m:Int) % 2 ^ 64=_
 omega
theorem p_new (w0 w:World) (R:HP) (h:St w0 w R) :
  Calls Tryz.prog 66 #[] w fun e w'=>∃ p,e=.returned (ptr p)/\St w0 w' (PAt p ⟨0,62⟩*R):=by
 go_enter Tryz.func66,Tryz.ntmps66
 go_wp2;go_ret
 exact⟨_,rfl,h.alloc (.cells #[.int .u64 0,.int .i64 62] 269)⟩
def Pl.seek:Nat->Pl->Pl × Int × Int
 | 0,s=>(s,0,10)
 | k+1,s=>if s.on.testBit ((s.last+1) % 63) then Pl.seek k ⟨s.on,(s.last+1) % 63⟩ else (⟨s.on ||| 2 ^ ((s.last+1) % 63),(s.last+1) % 63⟩,64+(((s.last+1) % 63:Nat):Int),0)
theorem p_assign (p:Nat) (s:Pl) (w0 w:World) (R:HP) (h:St w0 w (PAt p s*R)) (hn:s.on<2 ^ 63) (hl:s.last<=62) :
  Calls Tryz.prog 206 #[ptr p] w fun e w'=>e=.returned (.tuple #[.int .i64 (Pl.seek 63 s).2.1,.int .i64 (Pl.seek 63 s).2.2])/\St w0 w' (PAt p (Pl.seek 63 s).1*R):=by
 generalize hS:Pl.seek 63 s=res;have HS:=Lib.hid hS;clear hS;go_enter Tryz.func206,Tryz.ntmps206
 go_wp2;go_loopw [7] (fun i wr=>∃ (k:Nat) (t:Pl),k<=63/\i=.int .i64 k/\t.on=s.on/\t.last<=62/\Hid (Pl.seek (63 - k) t=res)/\St w0 wr (PAt p t*R)) (fun i _=>63 - (intOf i).toNat)
 case atStart=>exact⟨0,s,by omega,rfl,rfl,hl,HS,h⟩
 case round =>
  clear h;obtain⟨k,⟨on,last⟩,hk,rfl,ho,hl2,He,h1⟩:=hrel;have he:=He.out;simp only[] at ho hl2;subst ho;by_cases hlt:k<63
  ·obtain⟨l,el⟩:∃ l:Nat,l=(last+1) % 63:=⟨_,rfl⟩
   have l1:l<=62:=by omega
   have x1:((last:Int)+1) % 63=(l:Int):=by omega
   have x2:Int.tmod ((last:Int)+1) 63=(l:Int):=by rw[Int.tmod_eq_emod_of_nonneg (by omega)];exact x1
   have hs:Pl.seek (63 - k) ⟨s.on,last⟩=if s.on.testBit l then Pl.seek (63 - (k+1)) ⟨s.on,l⟩ else (⟨s.on ||| 2 ^ l,l⟩,64+(l:Int),0):=by
    rw[show 63 - k=(63 - (k+1))+1 by omega,Pl.seek,← el]
   rw[hs] at he;have c1:=h1.cell;have f1:=h1.free;have h2:St w0 _ (PAt p ⟨s.on,l⟩*R):=h1.set 1 (.int .i64 (l:Int));have c2:=h2.cell;have f2:=h2.free;have hb:=fun w=>p_bit (64+(l:Int)) w
   simp only[show (64:Int)<=64+(l:Int)/\64+(l:Int)<=126 by omega,and_self,if_true,show (64+(l:Int)).toNat - 64=l by omega] at hb;have e1:=u64_and_pow s.on l (by omega) l1;have e2:=u64_or_pow s.on l hn l1;have h0:(((2 ^ l:Nat):Int) == 0)=false:=by
    have:=Nat.two_pow_pos l
    generalize 2 ^ l=m at *;simp
    omega
   have H2:=Lib.hid h2;clear hs h2 h1 el HS He x1;cases hx:s.on.testBit l
   ·simp only[hx,if_false,Bool.false_eq_true] at e1 he
    have h3:St w0 _ (PAt p ⟨s.on ||| 2 ^ l,l⟩*R):=H2.out.set 0 (.int .u64 ((s.on ||| 2 ^ l:Nat):Int));have H3:=Lib.hid h3;subst he;clear hx h3;generalize ((2 ^ l:Nat):Int)=m at *;go_wp2;go_quiet ((go_at_call 158;exact quiet_left (hb _)))
    go_wp2;go_region_with (first | (go_at_call 158;refine (hb _).mono ?_;rintro e wz ⟨rfl,rfl⟩))
    all_goals
     go_wp2;go_ret2
     first
      | exact⟨rfl,((H2.out.drewN _).drewN _).set 0 (.int .u64 ((s.on ||| 2 ^ l:Nat):Int))⟩
      | exact⟨rfl,(H2.out.drewN _).drew.set 0 (.int .u64 ((s.on ||| 2 ^ l:Nat):Int))⟩
      | exact⟨rfl,(H2.out.drewN _).set 0 (.int .u64 ((s.on ||| 2 ^ l:Nat):Int))⟩
   ·simp only[hx,if_true] at e1 he
    have HE:=Lib.hid he;clear hx he;generalize ((2 ^ l:Nat):Int)=m at *;go_wp2;go_quiet ((go_at_call 158;exact quiet_left (hb _)))
    go_wp2;go_roundw
    case rel=>exact⟨k+1,⟨s.on,l⟩,by omega,by go_num,rfl,l1,HE,H2.out.drewN _⟩
    case measure=>simp[intOf];omega
  ·have:k=63:=by omega
   subst this;simp only[Nat.sub_self,Pl.seek] at he;subst he;go_wp2;go_ret2
   exact⟨rfl,h1⟩
def Pl.upto (s:Pl) (k:Nat):List Nat:=(List.range k).filter fun i=>s.on.testBit i
abbrev teis (l:List Nat):List Value:=l.map fun (i:Nat)=>Value.int .i64 (64+(i:Int))
theorem upto_succ (s:Pl) (k:Nat):s.upto (k+1)=if s.on.testBit k then s.upto k++[k] else s.upto k:=by
 unfold Pl.upto;rw[List.range_succ,List.filter_append];cases h:s.on.testBit k <;> simp[h]
theorem upto_len (s:Pl) (k:Nat):(s.upto k).length<=k:=by
 have:=List.length_filter_le (fun i=>s.on.testBit i) (List.range k)
 simpa[Pl.upto] using this
theorem infoInt:(Tryz.prog.info? 3).map (fun i=>(i.zero,i.size,i.bytes))=some (some (.int .i64 0),1,8):=by kernel_rfl
theorem p_list (p:Nat) (s:Pl) (w0 w:World) (R:HP) (h:St w0 w (PAt p s*R)) (hn:s.on<2 ^ 63) :
  Calls Tryz.prog 79 #[ptr p] w fun e w'=>∃ v,e=.returned v/\St w0 w' (Row 3 1 v (s.upto 63).length (teis (s.upto 63))*(PAt p s*R)):=by
 obtain⟨i0,hi,hz0,hz1,hz2⟩:=info_parts infoInt;go_enter Tryz.func79,Tryz.ntmps79
 go_wp2;go_loopw [3,4] (fun v i wr=>∃ k:Nat,k<=63/\i=.int .i64 (64+(k:Int))/\St w0 wr (Row 3 1 v (s.upto k).length (teis (s.upto k))*(PAt p s*R))) (fun _ i _=>127 - (intOf i).toNat)
 case atStart=>exact⟨0,by omega,rfl,by simpa[Pl.upto] using h.row_nil 3 1⟩
 case round =>
  clear h;obtain⟨k,hk,rfl,h1⟩:=hrel;obtain⟨a,cap,rfl,_,_⟩:=h1.row_shape;have hlen:=upto_len s k;by_cases hlt:k<63
  ·have hh:s.has (64+(k:Int))=s.on.testBit k:=by
    unfold Pl.has;rw[show (64+(k:Int)).toNat - 64=k by omega,show decide (64<=64+(k:Int)/\64+(k:Int)<=126)=true by simp;omega,Bool.true_and]
   go_wp2_with fail
   refine (p_has p s _ _ _ _ (h1.eq (star_left_comm _ _ _)) hn).mono ?_
   rintro e w1 ⟨rfl,nq,rfl⟩;rw[hh];have h2:=h1.drewN nq;generalize wr.drewN nq=w1 at *;have hu:=upto_succ s k;cases hb:s.on.testBit k
   ·rw[hb] at hu
    simp only[Bool.false_eq_true,if_false] at hu;have h3:=h2;rw[← hu] at h3;have H3:=Lib.hid h3;have HU:=Lib.hid (congrArg List.length hu);clear h1 h2 h3 hu hh;go_wp2;go_roundw
    case rel=>exact⟨k+1,by omega,by go_num,by rw[← HU.out];exact H3.out⟩
    case measure=>simp[intOf];omega
   ·rw[hb] at hu
    simp only[if_true] at hu;have h3:St w0 (w1.alloc (.cells #[.int .i64 (64+(k:Int))] 3)) (Row 3 1 (.slice a (s.upto k).length cap) (s.upto k).length (teis (s.upto k))*(PAt p s*R)):=(h2.alloc _).drop;have H3:=Lib.hid h3;have HU:=Lib.hid hu;clear h1 h2 h3 hu hh;go_wp2_with (at_builtin;refine wpList_append_row rfl (.tmp 12) (.tmp 14) 24 rfl H3.out Tryz.underlying24 hi hz0 hz1 hz2 rfl (by decide) rfl ⟨w1.heap.size,0,none⟩ 1 1 [.int .i64 (64+(k:Int))] rfl (by decide) rfl ?c1 ?c2 ?c3 ?c4 ?c5)
    case c1=>exact one_new _ _ _ _ rfl
    case c2=>intro u hu;simp at hu;subst hu;rfl
    case c3=>unfold maxLen;omega
    case c4=>omega
    case c5 =>
     intro g off cap1 w2 h4;go_wp2;go_roundw
     case rel=>exact⟨k+1,by omega,by go_num,by rw[HU.out];simpa[teis] using h4⟩
     case measure=>simp[intOf];omega
  ·obtain rfl:k=63:=by omega
   go_wp2;go_ret
   exact⟨_,rfl,h1⟩
theorem u64_andnot_pow (n i:Nat) (hn:n<2 ^ 63) (hi:i<=62) (ht:n.testBit i=true):bits .andNot .u64 (n:Int) ((2 ^ i:Nat):Int)=((n ^^^ 2 ^ i:Nat):Int):=by
 have h1:2 ^ i<2 ^ 63:=Nat.pow_lt_pow_right (by decide) (by omega);have h2:n ^^^ 2 ^ i<2 ^ 63:=Nat.xor_lt_two_pow hn h1;have key:(BitVec.ofInt 64 (n:Int) &&& ~~~ BitVec.ofInt 64 ((2 ^ i:Nat):Int)).toNat=n ^^^ 2 ^ i:=by
  rw[BitVec.ofInt_natCast,BitVec.ofInt_natCast];refine Nat.eq_of_testBit_eq fun j=>?_
  rw[BitVec.testBit_toNat,BitVec.getLsbD_and,BitVec.getLsbD_not,BitVec.getLsbD_ofNat,BitVec.getLsbD_ofNat,Nat.testBit_xor,Nat.testBit_two_pow];by_cases hj:j<64
  ·by_cases hij:i=j
   ·subst hij
    simp[hj,ht]
   ·simp[hj,hij]
  ·have a1:n.testBit j=false:=Nat.testBit_lt_two_pow (Nat.lt_of_lt_of_le hn (Nat.pow_le_pow_right (by decide) (by omega)))
   have a2:i≠j:=by omega
   simp[hj,a1,a2]
 show IntKind.u64.wrap ((BitVec.ofInt 64 (n:Int) &&& ~~~ BitVec.ofInt 64 ((2 ^ i:Nat):Int)).toNat:Nat)=_
 rw[key];generalize n ^^^ 2 ^ i=m at *;show (m:Int) % 2 ^ 64=_
 omega
def Pl.free (s:Pl) (tei:Int):Pl × Bool:=if s.has tei=true then (⟨s.on ^^^ 2 ^ (tei.toNat - 64),s.last⟩,true) else (s,false)
theorem p_free (p:Nat) (s:Pl) (tei:Int) (w0 w:World) (R:HP) (h:St w0 w (PAt p s*R)) (hn:s.on<2 ^ 63) :
  Calls Tryz.prog 91 #[ptr p,.int .i64 tei] w fun e w'=>e=.returned (.bool (s.free tei).2)/\St w0 w' (PAt p (s.free tei).1*R):=by
 unfold Pl.free;by_cases hh:s.has tei=true
 ·rw[if_pos hh]
  have hh':=hh;unfold Pl.has at hh';simp only[Bool.and_eq_true,decide_eq_true_eq] at hh';have e1:=u64_andnot_pow s.on (tei.toNat - 64) hn (by omega) hh'.2;have hb:=fun w=>p_bit tei w
  simp only[if_pos hh'.1] at hb;clear hh';generalize ((2 ^ (tei.toNat - 64):Nat):Int)=m at *;go_enter Tryz.func91,Tryz.ntmps91
  go_wp2_with fail
  refine (p_has p s tei w0 _ _ h hn).mono ?_
  rintro e w1 ⟨rfl,n,rfl⟩;rw[hh];have h2:=h.drewN n;generalize w.drewN n=w1 at *;have c:=h2.cell;have f:=h2.free;go_wp2;go_region_with (first | (go_at_call 158;refine (hb _).mono ?_;rintro e wz ⟨rfl,rfl⟩))
  all_goals
   go_wp2;go_ret
   first
    | exact⟨rfl,(h2.drewN _).set 0 (.int .u64 ((s.on ^^^ 2 ^ (tei.toNat - 64):Nat):Int))⟩
    | exact⟨rfl,h2.drew.set 0 (.int .u64 ((s.on ^^^ 2 ^ (tei.toNat - 64):Nat):Int))⟩
 ·rw[if_neg hh]
  have hf:s.has tei=false:=by simpa using hh
  go_enter Tryz.func91,Tryz.ntmps91
  go_wp2_with fail
  refine (p_has p s tei w0 _ _ h hn).mono ?_
  rintro e w1 ⟨rfl,n,rfl⟩;rw[hf];go_wp2;go_ret
  exact⟨rfl,h.drewN n⟩
def kindOf (t:Int):Int:=if t<0\/127<t then 0 else if t<64 then 1 else if t<=126 then 2 else 3
theorem a_kind (t:Int) (w:World):Calls Tryz.prog 122 #[.int .i64 t] w fun e w'=>e=.returned (.int .i64 (kindOf t))/\w=w':=by
 unfold kindOf;by_cases a:t<0
 ·rw[if_pos (.inl a)]
  go_enter Tryz.func122,Tryz.ntmps122
  go_wp2;go_ret
  exact⟨rfl,rfl⟩
 by_cases b:127<t
 ·rw[if_pos (.inr b)]
  go_enter Tryz.func122,Tryz.ntmps122
  go_wp2;go_ret
  exact⟨rfl,rfl⟩
 rw[if_neg (by omega)];have a':¬ t<0/\¬ 127<t:=⟨a,b⟩;have ha:decide (t<0)=false:=by simpa using a
 have hb:decide (127<t)=false:=by simpa using b
 by_cases c:t<64
 ·rw[if_pos c]
  go_enter Tryz.func122,Tryz.ntmps122
  go_wp2;go_ret
  exact⟨rfl,rfl⟩
 rw[if_neg c];by_cases d:t<=126
 ·rw[if_pos d]
  go_enter Tryz.func122,Tryz.ntmps122
  go_wp2;go_ret
  exact⟨rfl,rfl⟩
 rw[if_neg d];go_enter Tryz.func122,Tryz.ntmps122
 go_wp2;go_ret
 exact⟨rfl,rfl⟩
theorem m_putq (m:Tm) (w0 w:World) (R:HP) (h:St w0 w R) :
  Calls Tryz.prog 72 #[.agg m.cells.toArray] w fun e w'=>(∃ s,e=.returned (.tuple #[.string s,.int .i64 m.bad]))/\St w0 w' R:=(m_put m w0 w R h).mono fun _ _ h=>⟨⟨_,h.1⟩,h.2⟩
structure Chk where
 tei:Int
 asked:Int
 ans:Int
abbrev Chk.cells (c:Chk):List Value:=[.int .i64 c.tei,.int .i64 c.asked,.int .i64 c.ans]
abbrev vChk (c:Chk):Value:=.agg c.cells.toArray
theorem tyChk:MTy Tryz.prog 174 3 209 kInt :=
 ⟨Tryz.underlying174,Maps.int_keyed Tryz.underlying3,fun _ h=>⟨_,Maps.keyOf_int_mk Tryz.underlying3 h⟩⟩
theorem zeroChk (w:World):(zeroValue 209).run Tryz.prog w=.ok (vChk ⟨0,0,0⟩) w:=by kernel_rfl
structure Ef where
 kind:Int
 m:Tm
 tei:Int
abbrev Ef.cells (x:Ef):List Value:=[.int .i64 x.kind,.int .i64 x.m.ty,.int .i64 x.m.ri,.int .i64 x.m.ai,.int .i64 x.tei]
def Ef.said (t ri ai:Int):Ef:=⟨0,⟨t,ri,ai⟩,0⟩
def Ef.of (k tei:Int):Ef:=⟨k,⟨0,0,0⟩,tei⟩
abbrev TE:TypeId:=204
theorem tyEf:ETy Tryz.prog 113 TE 5 40 Ef.cells :=
 ⟨Tryz.underlying113,⟨.agg #[.int .i64 0,.int .i64 0,.int .i64 0,.int .i64 0,.int .i64 0],by kernel_rfl,rfl⟩,fun _=>rfl,fun b u hu=>by simp[Ef.cells] at hu;rcases hu with rfl | rfl | rfl | rfl | rfl <;> rfl,by decide,by decide⟩
abbrev EAt (v:Value) (l:List Ef):HP:=LAt TE 5 Ef.cells v l
structure Sr where
 pool:Pl
 checks:List (Int × Chk)
def SAt (s:Nat) (x:Sr):HP:=hex fun pb:Nat × Nat=>blk s (.cells #[ptr pb.1,.map (some pb.2)] 176 (0,0))*(PAt pb.1 x.pool*MAt kInt vChk pb.2 x.checks)
section
variable {w0 w:World} {R:HP} {s:Nat} {x:Sr}
theorem St.s_open (h:St w0 w (SAt s x*R)):∃ p b,St w0 w (blk s (.cells #[ptr p,.map (some b)] 176 (0,0))*(PAt p x.pool*(MAt kInt vChk b x.checks*R))):=by
 obtain⟨⟨p,b⟩,h⟩:=h.ex;exact⟨p,b,h.eq (by rw[star_assoc,star_assoc])⟩
theorem St.s_shut {p b:Nat} {pl:Pl} {l:List (Int × Chk)} (h:St w0 w (blk s (.cells #[ptr p,.map (some b)] 176 (0,0))*(PAt p pl*(MAt kInt vChk b l*R)))):St w0 w (SAt s ⟨pl,l⟩*R) :=
 St.mk_ex (p,b) (h.eq (by simp only[star_assoc]))
end
theorem star_r4 (A B C D R:HP):A*(B*(C*(D*R)))=C*(D*(B*(A*R))):=by ac_rfl
theorem so_new (w0 w:World) (R:HP) (h:St w0 w R) :
  Calls Tryz.prog 28 #[] w fun e w'=>∃ s,e=.returned (ptr s)/\St w0 w' (SAt s ⟨⟨0,62⟩,[]⟩*R):=by
 go_enter Tryz.func28,Tryz.ntmps28
 go_wp2_with fail
 refine (p_new w0 w R h).mono ?_
 rintro e w1 ⟨p,rfl,h1⟩;have hmm:=@run_makeMap Tryz.prog;go_wp2;go_ret
 have h2:=h1.map_new kInt vChk;have h3:=h2.alloc (.cells #[ptr p,.map (some w1.heap.size)] 176);simp only[World.size_alloc] at h3;exact⟨_,rfl,(h3.eq (show _=blk _ _*(PAt p _*(MAt kInt vChk w1.heap.size []*R)) by ac_rfl)).s_shut⟩
theorem St.chk_none {w0 w:World} {R:HP} {b:Nat} {l:List (Int × Chk)} {tei:Int} (h:St w0 w (MAt kInt vChk b l*R)) (hk:kInt.ok tei) (hr:mlook l tei=none) :
  (Instr.lookup 174 (.map (some b)) (.int .i64 tei) true).run Tryz.prog w=.ok (.tuple #[.agg #[.int .i64 0,.int .i64 0,.int .i64 0],.bool false]) w:=by
 have:=h.map_look tyChk tei hk (zeroChk _) true
 rw[hr] at this;exact this
theorem St.chk_some {w0 w:World} {R:HP} {b:Nat} {l:List (Int × Chk)} {tei t a n:Int} (h:St w0 w (MAt kInt vChk b l*R)) (hk:kInt.ok tei) (hr:mlook l tei=some ⟨t,a,n⟩) :
  (Instr.lookup 174 (.map (some b)) (.int .i64 tei) true).run Tryz.prog w=.ok (.tuple #[.agg #[.int .i64 t,.int .i64 a,.int .i64 n],.bool true]) w:=by
 have:=h.map_look tyChk tei hk (zeroChk _) true
 rw[hr] at this;exact this
theorem so_said (t ri ai:Int) (w0 w:World) (R:HP) (h:St w0 w R) :
  Calls Tryz.prog 96 #[.int .i64 t,.int .i64 ri,.int .i64 ai] w fun e w'=>e=.returned (.agg #[.int .i64 0,.int .i64 t,.int .i64 ri,.int .i64 ai,.int .i64 0])/\St w0 w' R:=by
 go_enter Tryz.func96,Tryz.ntmps96
 go_wp2;have h2:=h.alloc (.cells (Ef.said t ri ai).cells.toArray TE);simp only[Ef.said,Ef.cells] at h2 ⊢;generalize (w.alloc _)=w2 at *;have c2:=h2.cell;refine bodyPost_ret (v:=.agg #[.int .i64 0,.int .i64 t,.int .i64 ri,.int .i64 ai,.int .i64 0]) (by simp[results,Tryz.results96,go_sem,c2]) rfl ⟨rfl,h2.drop⟩
def Sr.ask (x:Sr) (tei:Int):Sr × List Ef:=(⟨x.pool,mput x.checks tei ⟨tei,((mlook x.checks tei).getD ⟨0,0,0⟩).asked+1,0⟩⟩,[.said 4 0 tei,.of 3 tei])
theorem chk_asked (a b c:Int) (w:World):(Instr.field 209 (.agg #[.int .i64 a,.int .i64 b,.int .i64 c]) 1).run Tryz.prog w=.ok (.int .i64 b) w:=by kernel_rfl
theorem so_ask (s:Nat) (x:Sr) (tei:Int) (w0 w:World) (R:HP) (h:St w0 w (SAt s x*R)) (hk:kInt.ok tei) (ha:0<=((mlook x.checks tei).getD ⟨0,0,0⟩).asked/\((mlook x.checks tei).getD ⟨0,0,0⟩).asked<=2) :
  Calls Tryz.prog 90 #[ptr s,.int .i64 tei] w fun e w'=>∃ v,e=.returned v/\St w0 w' (EAt v (x.ask tei).2*(SAt s (x.ask tei).1*R)):=by
 obtain⟨p,b,h1⟩:=h.s_open;have c:=h1.cell;have h2:=h1.drew.eq (show _=MAt kInt vChk b x.checks*(blk s (.cells #[ptr p,.map (some b)] 176 (0,0))*(PAt p x.pool*R)) by ac_rfl);have hl:(Instr.lookup 174 (.map (some b)) (.int .i64 tei) false).run Tryz.prog w.drew=_:=h2.map_look tyChk tei hk (zeroChk _) false;obtain⟨c0,hc0⟩:∃ c0,(mlook x.checks tei).getD ⟨0,0,0⟩=c0:=⟨_,rfl⟩;rw[show ((mlook x.checks tei).map vChk).getD (vChk ⟨0,0,0⟩)=vChk c0 by rw[← hc0];cases mlook x.checks tei <;> rfl] at hl;rw[hc0] at ha;obtain⟨ct,ca,cn⟩:=c0;simp only[Bool.false_eq_true,if_false,vChk,Chk.cells] at hl ha;change Sem.run _ _ _=Result.ok _ w.drew at hl
 have hf:=chk_asked;have hw:IntKind.i64.wrap (ca+1)=ca+1:=by rw[IntKind.wrap_i64];omega
 have H2:=Lib.hid h2;clear h h1 h2;go_enter Tryz.func90,Tryz.ntmps90
 go_wp2;go_still_tail 15,(by kernel_rfl)
 change wpList _ _ _ _ _ w.drew
 have h2:=H2.out;generalize w.drew=w2 at *;go_wp2_with (at_mapUpdate;refine wp_mput rfl (.tmp 8) (.tmp 9) (.tmp 19) 174 rfl tyChk h2 rfl tei rfl hk ⟨tei,ca+1,0⟩ rfl ?_;intro w3 h3)
 go_wp2_with fail
 refine (so_said 4 0 tei _ _ _ h3).mono ?_
 rintro e w4 ⟨rfl,h4⟩;go_wp2;go_ret
 have h5:=h4.alloc (.cells ((Ef.said 4 0 tei).cells++(Ef.of 3 tei).cells).toArray TE);have h6:=h5.l_mk (enc:=Ef.cells) (sz:=5) tyEf.len [.said 4 0 tei,.of 3 tei] 2 rfl (by simp[Ef.said,Ef.of]) (by decide);simp only[Sr.ask,hc0];exact⟨_,rfl,(((h6.eq (star_r4 _ _ _ _ _)).s_shut).eq (star_left_comm _ _ _))⟩
def Sr.remove (x:Sr) (tei:Int):Sr × List Ef :=
 (⟨(x.pool.free tei).1,mdel x.checks tei⟩,[.said 6 0 tei,.said 6 0 tei]++(if (mlook x.checks tei).isSome=true then [.of 4 tei] else [])++(if (x.pool.free tei).2=true then [.of 2 tei] else []))
theorem mdel_none {α β:Type} [DecidableEq α]:∀ {l:List (α × β)} {k:α},mlook l k=none->mdel l k=l
 | [],_,_=>rfl
 | p :: l,k,h=>by
   unfold mlook at h;unfold mdel;by_cases hp:p.1=k
   ·rw[if_pos hp] at h;cases h
   ·rw[if_neg hp] at h ⊢;rw[mdel_none h]
theorem so_remove (s:Nat) (x:Sr) (tei:Int) (w0 w:World) (R:HP) (h:St w0 w (SAt s x*R)) (hk:kInt.ok tei) (hn:x.pool.on<2 ^ 63) :
  Calls Tryz.prog 123 #[ptr s,.int .i64 tei] w fun e w'=>∃ v,e=.returned v/\St w0 w' (EAt v (x.remove tei).2*(SAt s (x.remove tei).1*R)):=by
 obtain⟨p,b,h1⟩:=h.s_open;obtain⟨r,hr⟩:∃ r,mlook x.checks tei=r:=⟨_,rfl⟩;obtain⟨⟨fp,fb⟩,hf⟩:∃ r,x.pool.free tei=r:=⟨_,rfl⟩;have hE:x.remove tei=_:=rfl;conv at hE=>rhs;unfold Sr.remove;rw[hr,hf]
 generalize x.remove tei=res at *;obtain⟨x',l⟩:=res;have HE:=Lib.hid hE;clear hE;simp only[];have H1:=Lib.hid h1;have HF:=Lib.hid hf;have HR:=Lib.hid hr;clear h h1 hf;have hx:=chk_asked;go_enter Tryz.func123,Tryz.ntmps123
 go_wp2_with fail
 refine (so_said 6 0 tei _ _ _ H1.out).mono ?_
 rintro e w2 ⟨rfl,h2⟩;go_wp2_with fail
 refine (so_said 6 0 tei _ _ _ h2).mono ?_
 rintro e w3 ⟨rfl,h3⟩;have h4:=(h3.alloc (.cells #[.int .i64 0,.int .i64 6,.int .i64 0,.int .i64 tei,.int .i64 0,.int .i64 0,.int .i64 6,.int .i64 0,.int .i64 tei,.int .i64 0] 204)).l_mk (enc:=Ef.cells) (sz:=5) tyEf.len [.said 6 0 tei,.said 6 0 tei] 2 rfl (by simp[Ef.said]) (by decide);go_upto_region 2 with fail
 generalize w3.alloc _=w4 at *;have c5:=h4.f2.cell;cases r with
 | none =>
   have hd:=mdel_none hr;have hl:=h4.f4.chk_none hk hr;have h5:=(h4.alloc (.cells #[.int .i64 0,.int .i64 0,.int .i64 0] 209)).drop;have hlt:=h4.f2.lt;go_wp2_with fail
   have h6:=h5;rw[← hd] at h6;clear hd;refine (p_free p x.pool tei _ _ _ h6.f3 hn).mono ?_
   rintro e w7 ⟨rfl,h7⟩;rw[HF.out] at h7 ⊢;simp only[] at h7 ⊢;have h8:=h7.b4;have hp:x'.pool=fp:=(congrArg (fun r=>r.1.pool) HE.out);have hq:x'.checks=mdel x.checks tei:=(congrArg (fun r=>r.1.checks) HE.out);have hl':l=_:=congrArg Prod.snd HE.out;have HP:=Lib.hid hp;have HQ:=Lib.hid hq;have HL:=Lib.hid hl';clear h7 h6 hp hq hl' HE;cases fb with
   | false =>
     go_wp2;go_ret
     obtain⟨xp,xc⟩:=x';obtain rfl:=HP.out;obtain rfl:=HQ.out;have:=HL.out
     simp at this
     subst this;exact⟨_,rfl,h8.b4.m2.s_shut.f2⟩
   | true =>
     have HA:=(h8.alloc (.cells #[.int .i64 2,.int .i64 0,.int .i64 0,.int .i64 0,.int .i64 tei] 204)).drop;go_wp2_with (at_builtin;refine wp_append_elem rfl (.tmp 39) (.tmp 42) rfl tyEf HA (Ef.of 2 tei) rfl _ rfl (new_cells _ [.int .i64 2,.int .i64 0,.int .i64 0,.int .i64 0,.int .i64 tei] _ _ rfl) (by simp) ?hk)
     case hk =>
      intro g off cap w8 h9;go_wp2;go_ret
      obtain⟨xp,xc⟩:=x';obtain rfl:=HP.out;obtain rfl:=HQ.out;have:=HL.out
      simp at this
      subst this;exact⟨_,rfl,h9.b4.m2.s_shut.f2⟩
 | some c =>
   obtain⟨ct,ca,cn⟩:=c;have hl:=h4.f4.chk_some hk hr;have h5:=(h4.alloc (.cells #[.int .i64 ct,.int .i64 ca,.int .i64 cn] 209)).drop;have hlt:=h4.f2.lt;go_upto_region 5 with (at_delete;refine wp_mdel rfl (.tmp 26) (.tmp 27) 174 3 rfl tyChk h5.f4 rfl tei rfl hk ?_;intro w5 h50)
   have h51:=h50.b4;have HA:=(h51.alloc (.cells #[.int .i64 4,.int .i64 0,.int .i64 0,.int .i64 0,.int .i64 tei] 204)).drop;clear h2 h3 h4 h5 hl c5 hlt;go_wp2_with (at_builtin;refine wp_append_elem rfl (.tmp 28) (.tmp 31) rfl tyEf HA (Ef.of 4 tei) rfl _ rfl (new_cells _ [.int .i64 4,.int .i64 0,.int .i64 0,.int .i64 0,.int .i64 tei] _ _ rfl) (by simp) ?hk)
   case hk =>
    intro g off cap w6 h6;have c6:=h6.f2.cell;go_wp2_with fail
    refine (p_free p x.pool tei _ _ _ h6.f3 hn).mono ?_
    rintro e w7 ⟨rfl,h7⟩;rw[HF.out] at h7 ⊢;simp only[] at h7 ⊢;have h8:=h7.b4;have hp:x'.pool=fp:=(congrArg (fun r=>r.1.pool) HE.out);have hq:x'.checks=mdel x.checks tei:=(congrArg (fun r=>r.1.checks) HE.out);have hl':l=_:=congrArg Prod.snd HE.out;have HP:=Lib.hid hp;have HQ:=Lib.hid hq;have HL:=Lib.hid hl';clear h7 h6 hp hq hl' HE;cases fb with
    | false =>
      go_wp2;go_ret
      obtain⟨xp,xc⟩:=x';obtain rfl:=HP.out;obtain rfl:=HQ.out;have:=HL.out
      simp at this
      subst this;exact⟨_,rfl,h8.b4.m2.s_shut.f2⟩
    | true =>
      have HA:=(h8.alloc (.cells #[.int .i64 2,.int .i64 0,.int .i64 0,.int .i64 0,.int .i64 tei] 204)).drop;go_wp2_with (at_builtin;refine wp_append_elem rfl (.tmp 39) (.tmp 42) rfl tyEf HA (Ef.of 2 tei) rfl _ rfl (new_cells _ [.int .i64 2,.int .i64 0,.int .i64 0,.int .i64 0,.int .i64 tei] _ _ rfl) (by simp) ?hk)
      case hk =>
       intro g off cap w8 h9;go_wp2;go_ret
       obtain⟨xp,xc⟩:=x';obtain rfl:=HP.out;obtain rfl:=HQ.out;have:=HL.out
       simp at this
       subst this;exact⟨_,rfl,h9.b4.m2.s_shut.f2⟩
theorem mlook_mem {α β:Type} [DecidableEq α]:∀ {l:List (α × β)} {k:α} {v:β},mlook l k=some v->(k,v) ∈ l
 | p :: l,k,v,h=>by
   unfold mlook at h;split at h
   ·rename_i e
    simp at h
    subst e h;simp
   ·simp[mlook_mem h]
structure Sr.Ok (x:Sr):Prop where
 on:x.pool.on<2 ^ 63
 last:x.pool.last<=62
 all:∀ p ∈ x.checks,p.2.tei=p.1/\64<=p.1/\p.1<=126/\1<=p.2.asked/\p.2.asked<=2/\0<=p.2.ans/\p.2.ans<=1
def Sr.stray (x:Sr) (tei:Int):List Ef:=if kindOf tei≠2\/x.pool.has tei=true then [] else [.said 6 0 tei]
theorem so_stray (s:Nat) (x:Sr) (tei:Int) (w0 w:World) (R:HP) (h:St w0 w (SAt s x*R)) (hn:x.pool.on<2 ^ 63) :
  Calls Tryz.prog 127 #[ptr s,.int .i64 tei] w fun e w'=>∃ v,e=.returned v/\St w0 w' (EAt v (x.stray tei)*(SAt s x*R)):=by
 unfold Sr.stray;by_cases a:kindOf tei=2
 ·obtain⟨p,b,h1⟩:=h.s_open
  have c:=h1.cell;have hh:=fun n=>p_has p x.pool tei w0 (w.drewN n) _ ((h1.drewN n).f2) hn
  rw[a];by_cases hb:x.pool.has tei=true
  ·rw[if_pos (.inr hb)]
   rw[hb] at hh;have H1:=Lib.hid a;clear a;go_enter Tryz.func127,Tryz.ntmps127
   go_wp2_with fail
   refine (a_kind tei _).mono ?_
   rintro e w1 ⟨rfl,rfl⟩;rw[H1.out];go_wp2_with fail
   refine (hh 0).mono ?_
   rintro e w1 ⟨rfl,n,rfl⟩;go_wp2;go_ret
   exact⟨_,rfl,(h.drewN n).l_nil _ _ _⟩
  ·have hb':x.pool.has tei=false:=by simpa using hb
   rw[if_neg (by simp[hb'])];rw[hb'] at hh;have H1:=Lib.hid a;clear a;go_enter Tryz.func127,Tryz.ntmps127
   go_wp2_with fail
   refine (a_kind tei _).mono ?_
   rintro e w1 ⟨rfl,rfl⟩;rw[H1.out];go_wp2_with fail
   refine (hh 0).mono ?_
   rintro e w1 ⟨rfl,n,rfl⟩;go_wp2_with fail
   refine (so_said 6 0 tei _ _ _ (h.drewN n)).mono ?_
   rintro e w4 ⟨rfl,h4⟩;go_wp2;go_ret
   have h6:=(h4.alloc (.cells #[.int .i64 0,.int .i64 6,.int .i64 0,.int .i64 tei,.int .i64 0] 204)).l_mk (enc:=Ef.cells) (sz:=5) tyEf.len [.said 6 0 tei] 1 rfl (by simp[Ef.said]) (by decide);exact⟨_,rfl,h6⟩
 ·rw[if_pos (.inl a)]
  have a':((kindOf tei) == 2)=false:=by simpa using a
  go_enter Tryz.func127,Tryz.ntmps127
  go_wp2_with fail
  refine (a_kind tei _).mono ?_
  rintro e w1 ⟨rfl,rfl⟩;generalize kindOf tei=kk at *;go_wp2;go_ret
  exact⟨_,rfl,h.l_nil _ _ _⟩
def Sr.response (x:Sr) (tei:Int):Sr × List Ef :=
 match mlook x.checks tei with
 | none=>(x,x.stray tei)
 | some c=>if 1<c.ans+1 then Sr.remove ⟨x.pool,mput x.checks tei ⟨c.tei,c.asked,c.ans+1⟩⟩ tei else (⟨x.pool,mput x.checks tei ⟨c.tei,c.asked,c.ans+1⟩⟩,[])
theorem so_response (s:Nat) (x:Sr) (tei:Int) (w0 w:World) (R:HP) (h:St w0 w (SAt s x*R)) (ok:x.Ok) (hk:kInt.ok tei) :
  Calls Tryz.prog 125 #[ptr s,.int .i64 tei] w fun e w'=>∃ v,e=.returned v/\St w0 w' (EAt v (x.response tei).2*(SAt s (x.response tei).1*R)):=by
 obtain⟨p,b,h1⟩:=h.s_open;have c:=h1.cell;have lt:=h1.lt;unfold Sr.response;cases hr:mlook x.checks tei with
 | none =>
   have hl:=h1.f3.chk_none hk hr;have h2:=(h.alloc (.cells #[.int .i64 0,.int .i64 0,.int .i64 0] 209)).drop;simp only[];go_enter Tryz.func125,Tryz.ntmps125
   go_wp2_with fail
   refine (so_stray s x tei _ _ _ h2 ok.on).mono ?_
   rintro e w2 ⟨v,rfl,h3⟩;go_wp2;go_ret
   exact⟨_,rfl,h3⟩
 | some cc =>
   obtain⟨ct,ca,cn⟩:=cc;have hm:=ok.all _ (mlook_mem hr);simp only[] at hm;obtain⟨hct,hm⟩:=hm;subst ct;have hl:=h1.f3.chk_some hk hr;have h2:=h1.alloc (.cells #[.int .i64 tei,.int .i64 ca,.int .i64 (cn+1)] 209);simp only[];have hw:IntKind.i64.wrap (cn+1)=cn+1:=by rw[IntKind.wrap_i64];omega
   by_cases hc:1<cn+1
   ·rw[if_pos hc]
    go_enter Tryz.func125,Tryz.ntmps125
    go_upto_region 5 with fail
    generalize w.alloc _=w2 at *;have c2:=h2.cell;have c3:=h2.f2.cell;clear h1 c lt hl;go_still_tail 6,(by kernel_rfl)
    change wpList _ _ _ _ _ w2.drew
    have h3:=h2.drew;clear c2 c3;generalize w2.drew=w3 at *;go_wp2_with (at_mapUpdate;refine wp_mput rfl (.tmp 28) (.tmp 29) (.tmp 30) 174 rfl tyChk h3.f4 rfl tei rfl hk ⟨tei,ca,cn+1⟩ rfl ?_;intro w5 h6;have c6:=h6.f2.cell)
    have h8:=h6.f2.drop.b3.s_shut;have okm:(⟨x.pool,mput x.checks tei ⟨tei,ca,cn+1⟩⟩:Sr).pool.on<2 ^ 63:=ok.on;go_wp2_with fail
    refine (so_remove s ⟨x.pool,mput x.checks tei ⟨tei,ca,cn+1⟩⟩ tei _ _ _ h8 hk okm).mono ?_
    rintro e w7 ⟨v,rfl,h9⟩;go_wp2;go_ret
    exact⟨_,rfl,h9⟩
   ·rw[if_neg hc]
    go_enter Tryz.func125,Tryz.ntmps125
    go_upto_region 5 with fail
    generalize w.alloc _=w2 at *;have c2:=h2.cell;have c3:=h2.f2.cell;clear h1 c lt hl;go_still_tail 6,(by kernel_rfl)
    change wpList _ _ _ _ _ w2.drew
    have h3:=h2.drew;clear c2 c3;generalize w2.drew=w3 at *;go_wp2_with (at_mapUpdate;refine wp_mput rfl (.tmp 28) (.tmp 29) (.tmp 30) 174 rfl tyChk h3.f4 rfl tei rfl hk ⟨tei,ca,cn+1⟩ rfl ?_;intro w5 h6;have c6:=h6.f2.cell)
    have h8:=h6.f2.drop.b3.s_shut;go_wp2;go_ret
    exact⟨_,rfl,h8.l_nil _ _ _⟩
def Sr.check (x:Sr) (tei:Int):Sr × List Ef × Int :=
 if x.pool.has tei=false then (x,[],11) else match mlook x.checks tei with
 | some _=>(x,[],13)
 | none=>((x.ask tei).1,(x.ask tei).2,0)
theorem so_check (s:Nat) (x:Sr) (tei:Int) (w0 w:World) (R:HP) (h:St w0 w (SAt s x*R)) (ok:x.Ok) (hk:kInt.ok tei) :
  Calls Tryz.prog 126 #[ptr s,.int .i64 tei] w fun e w'=>∃ v,e=.returned (.tuple #[v,.int .i64 (x.check tei).2.2])/\St w0 w' (EAt v (x.check tei).2.1*(SAt s (x.check tei).1*R)):=by
 obtain⟨p,b,h1⟩:=h.s_open;have c:=h1.cell;have hh:=p_has p x.pool tei w0 w _ h1.f2 ok.on;unfold Sr.check;cases hb:x.pool.has tei with
 | false =>
   rw[if_pos rfl];rw[hb] at hh;go_enter Tryz.func126,Tryz.ntmps126
   go_wp2_with fail
   refine hh.mono ?_
   rintro e w1 ⟨rfl,n,rfl⟩;go_wp2;go_ret2
   exact⟨_,rfl,(h.drewN n).l_nil _ _ _⟩
 | true =>
   rw[if_neg (by simp)];rw[hb] at hh;cases hr:mlook x.checks tei with
   | some cc =>
     obtain⟨ct,ca,cn⟩:=cc;simp only[];go_enter Tryz.func126,Tryz.ntmps126
     go_wp2_with fail
     refine hh.mono ?_
     rintro e w1 ⟨rfl,n,rfl⟩;have h2:=h1.drewN n;have h3:=h.drewN n;generalize w.drewN n=w1 at *;clear c hh;have c:=h2.cell;have hl:=h2.f3.chk_some hk hr;go_wp2;go_ret2
     exact⟨_,rfl,(h3.alloc _).drop.l_nil _ _ _⟩
   | none =>
     have ha:0<=((mlook x.checks tei).getD ⟨0,0,0⟩).asked/\((mlook x.checks tei).getD ⟨0,0,0⟩).asked<=2:=by rw[hr];simp
     simp only[];go_enter Tryz.func126,Tryz.ntmps126
     go_wp2_with fail
     refine hh.mono ?_
     rintro e w1 ⟨rfl,n,rfl⟩;have h2:=h1.drewN n;have h3:=h.drewN n;generalize w.drewN n=w1 at *;clear c hh;have c:=h2.cell;have hl:=h2.f3.chk_none hk hr;have h4:=(h3.alloc (.cells #[.int .i64 0,.int .i64 0,.int .i64 0] 209)).drop;go_wp2_with fail
     refine (so_ask s x tei _ _ _ h4 hk ha).mono ?_
     rintro e w5 ⟨v,rfl,h5⟩;go_wp2;go_ret2
     exact⟨_,rfl,h5⟩
theorem so_list (s:Nat) (x:Sr) (w0 w:World) (R:HP) (h:St w0 w (SAt s x*R)) (hn:x.pool.on<2 ^ 63) :
  Calls Tryz.prog 37 #[ptr s] w fun e w'=>∃ v,e=.returned v/\St w0 w' (Row 3 1 v (x.pool.upto 63).length (teis (x.pool.upto 63))*(SAt s x*R)):=by
 obtain⟨p,b,h1⟩:=h.s_open;have c:=h1.cell;go_enter Tryz.func37,Tryz.ntmps37
 go_wp2_with fail
 refine (p_list p x.pool w0 w _ h1.f2 hn).mono ?_
 rintro e w1 ⟨v,rfl,h2⟩;go_wp2;go_ret
 exact⟨_,rfl,h2.b4.f2.s_shut.f2⟩
def Sr.auditK (x:Sr) (l:List Nat):Sr:=⟨x.pool,l.foldl (fun c (i:Nat)=>mput c (64+(i:Int)) ⟨64+(i:Int),1,0⟩) x.checks⟩
def auditE (l:List Nat):List Ef:=.said 4 0 127 :: l.map fun (i:Nat)=>.of 3 (64+(i:Int))
def Sr.audit (x:Sr):Sr × List Ef:=(x.auditK (x.pool.upto 63),auditE (x.pool.upto 63))
theorem upto_lt {s:Pl} {k i:Nat} (h:i ∈ s.upto k):i<k:=by
 unfold Pl.upto at h;exact List.mem_range.1 (List.mem_filter.1 h).1
theorem so_audit (s:Nat) (x:Sr) (w0 w:World) (R:HP) (h:St w0 w (SAt s x*R)) (hn:x.pool.on<2 ^ 63) :
  Calls Tryz.prog 45 #[ptr s] w fun e w'=>∃ v,e=.returned v/\St w0 w' (EAt v x.audit.2*(SAt s x.audit.1*R)):=by
 unfold Sr.audit;have hlen:=upto_len x.pool 63;have hall:∀ i ∈ x.pool.upto 63,i<63:=fun i hi=>upto_lt hi
 generalize hL:x.pool.upto 63=l at *;have HL:=Lib.hid hL;clear hL;go_enter Tryz.func45,Tryz.ntmps45
 go_wp2_with fail
 refine (so_said 4 0 127 _ _ _ h).mono ?_
 rintro e w1 ⟨rfl,h1⟩;have h2:=(h1.alloc (.cells #[.int .i64 0,.int .i64 4,.int .i64 0,.int .i64 127,.int .i64 0] 204)).l_mk (enc:=Ef.cells) (sz:=5) tyEf.len [.said 4 0 127] 1 rfl (by simp[Ef.said]) (by decide);go_wp2_with fail
 refine (so_list s x _ _ _ h2.f2 hn).mono ?_
 rintro e w2 ⟨tv,rfl,h3⟩;rw[HL.out] at h3;have h4:=h3.b3.f2;obtain⟨ta,tcap,rfl,_,_⟩:=h3.row_shape;go_wp2;go_loopw [3,13] (fun v i wr=>∃ k:Nat,k<=l.length/\i=.int .i64 k/\St w0 wr (EAt v (auditE (l.take k))*(SAt s (x.auditK (l.take k))*(Row 3 1 (.slice ta l.length tcap) l.length (teis l)*R)))) (fun _ i _=>l.length - (intOf i).toNat)
 case atStart=>exact⟨0,by omega,rfl,h4⟩
 case round =>
  clear h h1 h2 h3 h4;obtain⟨k,hk,rfl,h5⟩:=hrel;obtain⟨a,cap,rfl,_,_⟩:=h5.l_shape;by_cases hlt:k<l.length
  ·obtain⟨i,hi⟩:∃ i,l[k]?=some i:=⟨_,List.getElem?_eq_getElem hlt⟩
   have hi63:=hall i (List.mem_of_getElem? hi);have ht:l.take (k+1)=l.take k++[i]:=by rw[List.take_add_one,hi];rfl
   rcases h5.f3.row with ⟨a0,_,h0,_⟩ | ⟨tg,toff,tcap',cur,hv,_,_,_,_,_⟩
   ·omega
   simp only[Value.slice.injEq] at hv;obtain⟨rfl,_,rfl⟩:=hv;have d0:wr.cell? ⟨tg,toff+k,none⟩=some (.int .i64 (64+(i:Int))):=(h5.f3.row_cell k (by omega)).trans (by simp[teis,hi]);obtain⟨p,b,h6⟩:=h5.f2.s_open;have c6:=h6.cell;have hkk:=kok (64+(i:Int)) (by omega) (by omega);have H5:=Lib.hid h5;have HT:=Lib.hid ht;have hle:(auditE (l.take k)).length=k+1:=by simp[auditE];omega
   have HLE:=Lib.hid hle;clear h5 ht hi hle;go_wp2_with (first
    | (at_mapUpdate;refine wp_mput rfl (.tmp 20) (.tmp 21) (.tmp 23) 174 rfl tyChk h6.f3 rfl _ rfl hkk ⟨64+(i:Int),1,0⟩ rfl ?_;intro w7 h7;have HA:=((h7.f4.alloc (.cells #[.int .i64 3,.int .i64 0,.int .i64 0,.int .i64 0,.int .i64 (64+(i:Int))] 204)).drop))
    | (at_builtin;refine wp_append_elem rfl (.tmp 24) (.tmp 27) rfl tyEf HA (Ef.of 3 (64+(i:Int))) rfl _ rfl (new_cells _ [.int .i64 3,.int .i64 0,.int .i64 0,.int .i64 0,.int .i64 (64+(i:Int))] _ _ rfl) (by rw[HLE.out];omega) ?hk))
   case hk =>
    intro g off cap' w8 h8;have h9:=h8.b4.b3.s_shut.f2;go_wp2;go_roundw
    case rel =>
     refine⟨k+1,by omega,by go_num,?_⟩
     have e1:auditE (l.take (k+1))=auditE (l.take k)++[Ef.of 3 (64+(i:Int))]:=by rw[HT.out];simp[auditE]
     have e2:x.auditK (l.take (k+1))=⟨(x.auditK (l.take k)).pool,mput (x.auditK (l.take k)).checks (64+(i:Int)) ⟨64+(i:Int),1,0⟩⟩:=by rw[HT.out];simp[Sr.auditK]
     rw[e1,e2];exact h9
    case measure=>simp[intOf];omega
  ·obtain rfl:k=l.length:=by omega
   go_wp2;go_ret
   rw[List.take_length] at h5;refine⟨_,rfl,?_⟩
   have h6:=h5.f3.drop;simp only[List.take_length] at h6 ⊢;exact h6
def Sr.request (x:Sr) (m:Tm):Sr × List Ef :=
 if m.ai≠127 then (x,[.said 3 m.ri m.ai])
 else if (Pl.seek 63 x.pool).2.2=0 then (⟨(Pl.seek 63 x.pool).1,x.checks⟩,[.said 2 m.ri (Pl.seek 63 x.pool).2.1,.of 1 (Pl.seek 63 x.pool).2.1])
 else ((Sr.audit ⟨(Pl.seek 63 x.pool).1,x.checks⟩).1,.said 3 m.ri m.ai :: (Sr.audit ⟨(Pl.seek 63 x.pool).1,x.checks⟩).2)
theorem seek_on:∀ (k:Nat) (s:Pl),s.on<2 ^ 63->s.last<=62->(Pl.seek k s).1.on<2 ^ 63/\(Pl.seek k s).1.last<=62
 | 0,s,h,h2=>⟨h,h2⟩
 | k+1,s,h,h2=>by
   unfold Pl.seek;split
   ·exact seek_on k _ h (by simp only[];omega)
   ·refine⟨Nat.or_lt_two_pow h (Nat.pow_lt_pow_right (by decide) (by omega)),by simp only[];omega⟩
theorem so_request (s:Nat) (x:Sr) (m:Tm) (w0 w:World) (R:HP) (h:St w0 w (SAt s x*R)) (ok:x.Ok) :
  Calls Tryz.prog 124 #[ptr s,.agg #[.int .i64 m.ty,.int .i64 m.ri,.int .i64 m.ai]] w fun e w'=>∃ v,e=.returned v/\St w0 w' (EAt v (x.request m).2*(SAt s (x.request m).1*R)):=by
 obtain⟨ty,ri,ai⟩:=m;unfold Sr.request;simp only[];have h1:=(h.alloc (.cells #[.int .i64 ty,.int .i64 ri,.int .i64 ai] 204));by_cases ha:ai=127
 ·rw[if_neg (by simpa using ha)]
  subst ha;obtain⟨⟨pl,tei,er⟩,hS⟩:∃ r,Pl.seek 63 x.pool=r:=⟨_,rfl⟩;have hso:=seek_on 63 x.pool ok.on ok.last;rw[hS] at hso ⊢;simp only[] at hso ⊢;have HS:=Lib.hid hS;clear hS;by_cases he:er=0
  ·rw[if_pos he]
   subst he;have h2:=(h.alloc (.cells #[.int .i64 ty,.int .i64 ri,.int .i64 127] 43));go_enter Tryz.func124,Tryz.ntmps124
   go_wp2_with fail
   refine (so_said 3 ri 127 _ _ _ h2).mono ?_
   rintro e w1 ⟨rfl,h3⟩;have h4:=(h3.alloc (.cells #[.int .i64 0,.int .i64 3,.int .i64 ri,.int .i64 127,.int .i64 0] 204));have c3:=h3.cell;have lt3:=h3.lt;go_upto_region 4 with fail
   generalize w1.alloc _=w2 at *;have c4:=h4.f2.cell;obtain⟨p,b,h5⟩:=h4.f3.s_open;have c5:=h5.cell;go_wp2_with fail
   refine (p_assign p x.pool _ _ _ h5.f2 ok.on ok.last).mono ?_
   rintro e w3 ⟨rfl,h6⟩;rw[HS.out] at h6 ⊢;simp only[] at h6 ⊢;have h7:=h6.f2.s_shut;have c7:=h7.f3.cell;go_wp2_with fail
   refine (so_said 2 ri tei _ _ _ h7).mono ?_
   rintro e w4 ⟨rfl,h8⟩;have h9:=(h8.alloc (.cells #[.int .i64 0,.int .i64 2,.int .i64 ri,.int .i64 tei,.int .i64 0,.int .i64 1,.int .i64 0,.int .i64 0,.int .i64 0,.int .i64 tei] 204)).l_mk (enc:=Ef.cells) (sz:=5) tyEf.len [.said 2 ri tei,.of 1 tei] 2 rfl (by simp[Ef.said,Ef.of]) (by decide);go_wp2;go_ret
   exact⟨_,rfl,h9.f3.drop.f3.drop⟩
  ·rw[if_neg he]
   have he':(er == 0)=false:=by simpa using he
   have h2:=(h.alloc (.cells #[.int .i64 ty,.int .i64 ri,.int .i64 127] 43));go_enter Tryz.func124,Tryz.ntmps124
   go_wp2_with fail
   refine (so_said 3 ri 127 _ _ _ h2).mono ?_
   rintro e w1 ⟨rfl,h3⟩;have h4:=(h3.alloc (.cells #[.int .i64 0,.int .i64 3,.int .i64 ri,.int .i64 127,.int .i64 0] 204));have c3:=h3.cell;have lt3:=h3.lt;go_upto_region 4 with fail
   generalize w1.alloc _=w2 at *;have c4:=h4.f2.cell;obtain⟨p,b,h5⟩:=h4.f3.s_open;have c5:=h5.cell;go_wp2_with fail
   refine (p_assign p x.pool _ _ _ h5.f2 ok.on ok.last).mono ?_
   rintro e w3 ⟨rfl,h6⟩;rw[HS.out] at h6 ⊢;simp only[] at h6 ⊢;have h7:=h6.f2.s_shut;have c7:=h7.f2.cell;clear c5 c4 c3 h6 h5 h4 h3 h2 h1 h;go_upto_region 6 with fail
   have HB:=((h7.alloc (.cells #[.int .i64 0,.int .i64 3,.int .i64 ri,.int .i64 127,.int .i64 0] 204)).l_mk (enc:=Ef.cells) (sz:=5) tyEf.len [.said 3 ri 127] 1 rfl (by simp[Ef.said]) (by decide)).drew;have h70:=h7.drew;obtain⟨⟨x',l'⟩,hau⟩:∃ r,Sr.audit ⟨pl,x.checks⟩=r:=⟨_,rfl⟩;have hne:l'≠[]:=by
    have:=congrArg Prod.snd hau
    simp only[Sr.audit,auditE] at this;rw[← this];simp
   have hle:([Ef.said 3 ri 127].length+l'.length)*40<=140737488355328:=by
    have:=congrArg (fun r=>r.2.length) hau
    simp only[Sr.audit,auditE,List.length_cons,List.length_map] at this;have h2:=upto_len pl 63;simp only[List.length_cons,List.length_nil];omega
   have hq:∀ (w:World) (R:HP),St w0 w (SAt s ⟨pl,x.checks⟩*R)->Calls Tryz.prog 45 #[ptr s] w fun e w'=>∃ v,e=.returned v/\St w0 w' (EAt v l'*(SAt s x'*R)):=by
    intro w R h;have:=so_audit s ⟨pl,x.checks⟩ w0 w R h hso.1
    rw[hau] at this;exact this
   have HNE:=Lib.hid hne;have HAU:=Lib.hid hau;clear hne hau;go_region_law (first
    | (go_simp;go_at_call 45;with_reducible refine (hq _ _ HB.f2).mono ?_;rintro e w5 ⟨v,rfl,h10⟩;have HX:=h10.f3)
    | (go_simp;go_at_call 45;with_reducible refine (hq _ _ h70).mono ?_;rintro e w5 ⟨v,rfl,h10⟩;have c10:=h10.f3.cell;have HX:=((h10.alloc (.cells #[.int .i64 0,.int .i64 3,.int .i64 ri,.int .i64 127,.int .i64 0] 204)).l_mk (enc:=Ef.cells) (sz:=5) tyEf.len [.said 3 ri 127] 1 rfl (by simp[Ef.said]) (by decide)))
    | (refine step_append_l rfl (.tmp 29) (.tmp 31) rfl tyEf HX HNE.out rfl rfl hle ?_;intro g off cap w8 h12))
   all_goals
    go_wp2;go_ret
    have:=HAU.out
    rw[this];exact⟨_,rfl,h12.f3.drop.f3.drop⟩
 ·rw[if_pos ha]
  have h2:=(h.alloc (.cells #[.int .i64 ty,.int .i64 ri,.int .i64 ai] 43));go_enter Tryz.func124,Tryz.ntmps124
  go_wp2_with fail
  refine (so_said 3 ri ai _ _ _ h2).mono ?_
  rintro e w1 ⟨rfl,h3⟩;have c3:=h3.cell;have lt3:=h3.lt;have h4:=(h3.alloc (.cells #[.int .i64 0,.int .i64 3,.int .i64 ri,.int .i64 ai,.int .i64 0] 204));have h5:=(h4.alloc (.cells #[.int .i64 0,.int .i64 3,.int .i64 ri,.int .i64 ai,.int .i64 0] 204)).l_mk (enc:=Ef.cells) (sz:=5) tyEf.len [.said 3 ri ai] 1 rfl (by simp[Ef.said]) (by decide);simp only[World.size_alloc] at h5;go_wp2;go_ret
  exact⟨_,rfl,h5.f2.drop.f2.drop⟩
end Go.Proofs.YtjcldoejpldcmaaGreatDoor
