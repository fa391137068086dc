/- Parts of a proof (TmC, TmD). No condition. -/
import Derived.Test.YtjcldoejpldcmaaGreatDoorC12
import Derived.Test.YtjcldoejpldcmaaGreatDoorC11
namespace Go.Proofs.YtjcldoejpldcmaaGreatDoor
set_option maxRecDepth 100000
set_option maxHeartbeats 6400000
open Go.RowKit
abbrev TTm:TypeId:=43
theorem m_put (m:Tm) (w0 w:World) (R:HP) (h:St w0 w R) :
  Calls Tryz.prog 72 #[.agg m.cells.toArray] w fun e w'=>e=.returned (.tuple #[.string m.oct,.int .i64 m.bad])/\St w0 w' R:=by
 obtain⟨ty,ri,ai⟩:=m;simp only[Tm.cells];have h1:=(h.alloc (.cells #[.int .i64 ty,.int .i64 ri,.int .i64 ai] TTm)).drop;by_cases a:ty<1
 ·have hbd:Tm.bad ⟨ty,ri,ai⟩=4:=by
   show (if ty<1\/7<ty then (4:Int) else if ri<0\/65536<=ri then 2 else if 0<=ai/\ai<=127 then 0 else 2)=4
   rw[if_pos (.inl a)]
  have hoc:Tm.oct ⟨ty,ri,ai⟩=noStr:=by
   unfold Tm.oct;rw[hbd,if_neg (by decide)]
  rw[hbd,hoc];clear hbd hoc;go_enter Tryz.func72,Tryz.ntmps72
  go_wp2;go_ret2
  exact⟨rfl,h1⟩
 by_cases b:7<ty
 ·have hbd:Tm.bad ⟨ty,ri,ai⟩=4:=by
   show (if ty<1\/7<ty then (4:Int) else if ri<0\/65536<=ri then 2 else if 0<=ai/\ai<=127 then 0 else 2)=4
   rw[if_pos (.inr b)]
  have hoc:Tm.oct ⟨ty,ri,ai⟩=noStr:=by
   unfold Tm.oct;rw[hbd,if_neg (by decide)]
  rw[hbd,hoc];clear hbd hoc;go_enter Tryz.func72,Tryz.ntmps72
  go_wp2;go_ret2
  exact⟨rfl,h1⟩
 have a':1<=ty:=by omega
 have b':ty<=7:=by omega
 by_cases c:ri<0
 ·have hbd:Tm.bad ⟨ty,ri,ai⟩=2:=by
   show (if ty<1\/7<ty then (4:Int) else if ri<0\/65536<=ri then 2 else if 0<=ai/\ai<=127 then 0 else 2)=2
   rw[if_neg (by omega),if_pos (.inl c)]
  have hoc:Tm.oct ⟨ty,ri,ai⟩=noStr:=by
   unfold Tm.oct;rw[hbd,if_neg (by decide)]
  rw[hbd,hoc];clear hbd hoc;go_enter Tryz.func72,Tryz.ntmps72
  go_wp2;go_ret2
  exact⟨rfl,h1⟩
 by_cases d:65536<=ri
 ·have hbd:Tm.bad ⟨ty,ri,ai⟩=2:=by
   show (if ty<1\/7<ty then (4:Int) else if ri<0\/65536<=ri then 2 else if 0<=ai/\ai<=127 then 0 else 2)=2
   rw[if_neg (by omega),if_pos (.inr d)]
  have hoc:Tm.oct ⟨ty,ri,ai⟩=noStr:=by
   unfold Tm.oct;rw[hbd,if_neg (by decide)]
  rw[hbd,hoc];clear hbd hoc;go_enter Tryz.func72,Tryz.ntmps72
  go_wp2;go_ret2
  exact⟨rfl,h1⟩
 have c':0<=ri:=by omega
 have d':ri<65536:=by omega
 have h2:=h.alloc (.cells #[.int .i64 ty,.int .i64 ri,.int .i64 ai] TTm);have h3:=(h2.alloc (.cells #[.int .i64 1,.int .i64 1,.int .i64 7,.int .i64 ai] 277));have h4:=St.row_mk (xs:=pairC [(1,1),(7,ai)]) (n:=2) (cap:=2) (sz:=2) (off:=0) h3 rfl (by decide) (by decide) (by simp) (fun j hj=>by match j,hj with | 0,_=>rfl | 1,_=>rfl | 2,_=>rfl | 3,_=>rfl);have hs:(w.alloc (.cells #[.int .i64 ty,.int .i64 ri,.int .i64 ai] TTm)).heap.size=w.heap.size+1:=by simp
 rw[hs] at h4;have hp:=b_pack [(1,1),(7,ai)] _ w0 _ _ h4 (by simp);rw[packs_17] at hp;clear h1 h2 h3 h4 hs;by_cases g:0<=ai/\ai<=127
 ·rw[if_pos g] at hp
  have hbd:Tm.bad ⟨ty,ri,ai⟩=0:=by
   show (if ty<1\/7<ty then (4:Int) else if ri<0\/65536<=ri then 2 else if 0<=ai/\ai<=127 then 0 else 2)=0
   rw[if_neg (by omega),if_neg (by omega),if_pos g]
  have hoc:Tm.oct ⟨ty,ri,ai⟩=octets [15,ri / 256,ri % 256,ty,2*ai+1]:=by
   unfold Tm.oct;rw[if_pos hbd]
  rw[hbd,hoc];clear hbd hoc;go_enter Tryz.func72,Tryz.ntmps72
  go_wp2_with fail
  refine hp.mono ?_
  rintro e w1 ⟨rfl,h5⟩;have h6:=h5.drop;have c:=h6.cell;clear hp;have r1:0<=ri / 256:=by omega
  have r2:ri / 256<256:=by omega
  have r3:0<=ri % 256:=by omega
  have r4:ri % 256<256:=by omega
  have hc:=run_octets (P:=Tryz.prog) (src:=126) (dst:=9) (e:=5) Tryz.underlying126 Tryz.underlying5 Tryz.underlying9 (w1.alloc (.cells #[.int .u8 15,.int .u8 (ri / 256),.int .u8 (ri % 256),.int .u8 ty,.int .u8 (2*ai+1)] 5)) ⟨w1.heap.size,0,none⟩ 5 [15,ri / 256,ri % 256,ty,2*ai+1] 5 rfl
   (by intro n hn;simp at hn;omega) (by intro j hj;rw[add_none];match j,hj with | 0,_=>simp | 1,_=>simp | 2,_=>simp | 3,_=>simp | 4,_=>simp)
  clear r1 r2 r3 r4;go_wp2;go_ret2
  exact⟨rfl,(h6.alloc _).drop.drop⟩
 ·rw[if_neg g] at hp
  have hbd:Tm.bad ⟨ty,ri,ai⟩=2:=by
   show (if ty<1\/7<ty then (4:Int) else if ri<0\/65536<=ri then 2 else if 0<=ai/\ai<=127 then 0 else 2)=2
   rw[if_neg (by omega),if_neg (by omega),if_neg g]
  have hoc:Tm.oct ⟨ty,ri,ai⟩=noStr:=by
   unfold Tm.oct;rw[hbd,if_neg (by decide)]
  rw[hbd,hoc];clear hbd hoc;go_enter Tryz.func72,Tryz.ntmps72
  go_wp2_with fail
  refine hp.mono ?_
  rintro e w1 ⟨rfl,h5⟩;go_wp2;go_ret2
  exact⟨rfl,h5.drop.drop⟩
theorem t_from (t:Int) (w:World):Calls Tryz.prog 68 #[.int .i64 t] w fun e w'=>e=.returned (.bool (fromNet t))/\w=w':=by
 unfold fromNet;by_cases a:t=2
 ·subst a
  go_enter Tryz.func68,Tryz.ntmps68
  go_wp2;go_ret
  exact⟨rfl,rfl⟩
 have qa:(t == 2)=false:=by simp[a]
 by_cases b:t=3
 ·subst b
  go_enter Tryz.func68,Tryz.ntmps68
  go_wp2;go_ret
  exact⟨rfl,rfl⟩
 have qb:(t == 3)=false:=by simp[b]
 by_cases c:t=4
 ·subst c
  go_enter Tryz.func68,Tryz.ntmps68
  go_wp2;go_ret
  exact⟨rfl,rfl⟩
 have qc:(t == 4)=false:=by simp[c]
 by_cases d:t=6
 ·subst d
  go_enter Tryz.func68,Tryz.ntmps68
  go_wp2;go_ret
  exact⟨rfl,rfl⟩
 have qd:(t == 6)=false:=by simp[d]
 rw[qa,qb,qc,qd];clear a b c d;go_enter Tryz.func68,Tryz.ntmps68
 go_wp2;go_ret
 exact⟨rfl,rfl⟩
def LinkAt (w:World):Prop:=w.cell? ⟨0,0,none⟩=some (.int .i64 63)/\w.cell? ⟨0,1,none⟩=some (.int .i64 127)
theorem or_oct (a b:Nat) (ha:a<256) (hb:b<256):bits .or .i64 ((a:Int)*256) (b:Int)=256*(a:Int)+(b:Int):=by
 have e1:(BitVec.ofInt 64 ((a:Int)*256)).toNat=a*256:=by rw[BitVec.toNat_ofInt];omega
 have e2:(BitVec.ofInt 64 (b:Int)).toNat=b:=by rw[BitVec.toNat_ofInt];omega
 have key:(BitVec.ofInt 64 ((a:Int)*256) ||| BitVec.ofInt 64 (b:Int)).toNat=a*256+b:=by
  rw[BitVec.toNat_or,e1,e2];have:=Nat.shiftLeft_add_eq_or_of_lt (i:=8) (b:=b) (by omega) a
  rw[Nat.shiftLeft_eq] at this;exact this.symm
 show IntKind.i64.wrap ((BitVec.ofInt 64 ((a:Int)*256) ||| BitVec.ofInt 64 (b:Int)).toNat:Nat)=_
 rw[key,IntKind.wrap_i64];omega
theorem m_get (s:ByteArray) (w0 w:World) (R:HP) (h:St w0 w R) (hs:s.size<=1000000000) :
  Calls Tryz.prog 67 #[.string s] w fun e w'=>e=.returned (.tuple #[.agg (tmG s).1.cells.toArray,.int .i64 (tmG s).2])/\St w0 w' R:=by
 obtain⟨n,hn⟩:∃ n,s.size=n:=⟨_,rfl⟩;have h1:=h.alloc (.cells #[.int .i64 0,.int .i64 0,.int .i64 0] TTm);unfold tmG;rw[hn] at hs ⊢;have c:=h1.cell;have f:=h1.free;by_cases a:n<5
 ·rw[if_pos a]
  have qa:decide (n<5)=true:=decide_eq_true a;go_enter Tryz.func67,Tryz.ntmps67
  go_upto_region 2 with fail
  generalize w.alloc _=wa at *;generalize w.heap.size=ga at *;have h9:=(((h1.set 0 (.int .i64 0)).set 1 (.int .i64 0)).set 2 (.int .i64 0));go_wp2;have cr:=h9.cell;refine bodyPost_ret (v:=.tuple #[.agg #[.int .i64 0,.int .i64 0,.int .i64 0],.int .i64 3]) (by simp[results,Tryz.results67,go_sem,cr]) rfl ⟨rfl,h9.drop⟩
 have qa:decide (n<5)=false:=decide_eq_false a;rw[if_neg a];by_cases b:5<n
 ·rw[if_pos b]
  have qb:decide (5<n)=true:=decide_eq_true b;go_enter Tryz.func67,Tryz.ntmps67
  go_upto_region 4 with fail
  generalize w.alloc _=wa at *;generalize w.heap.size=ga at *;have h9:=(((h1.set 0 (.int .i64 0)).set 1 (.int .i64 0)).set 2 (.int .i64 0));go_wp2;have cr:=h9.cell;refine bodyPost_ret (v:=.tuple #[.agg #[.int .i64 0,.int .i64 0,.int .i64 0],.int .i64 5]) (by simp[results,Tryz.results67,go_sem,cr]) rfl ⟨rfl,h9.drop⟩
 have qb:decide (5<n)=false:=decide_eq_false b;rw[if_neg b];have i0:∀ w,(Instr.index 9 (.string s) (.int .i64 0)).run Tryz.prog w=.ok (.int .u8 (byteAt s 0)) w:=str_at s 0 (by omega);have i1:∀ w,(Instr.index 9 (.string s) (.int .i64 1)).run Tryz.prog w=.ok (.int .u8 (byteAt s 1)) w:=str_at s 1 (by omega);have i2:∀ w,(Instr.index 9 (.string s) (.int .i64 2)).run Tryz.prog w=.ok (.int .u8 (byteAt s 2)) w:=str_at s 2 (by omega);have i3:∀ w,(Instr.index 9 (.string s) (.int .i64 3)).run Tryz.prog w=.ok (.int .u8 (byteAt s 3)) w:=str_at s 3 (by omega);have i4:∀ w,(Instr.index 9 (.string s) (.int .i64 4)).run Tryz.prog w=.ok (.int .u8 (byteAt s 4)) w:=str_at s 4 (by omega);obtain⟨p0,r0⟩:=byteAt_range s 0;obtain⟨p1,r1⟩:=byteAt_range s 1;obtain⟨p2,r2⟩:=byteAt_range s 2;obtain⟨p3,r3⟩:=byteAt_range s 3;obtain⟨p4,r4⟩:=byteAt_range s 4;generalize byteAt s 0=x0 at *;generalize byteAt s 1=x1 at *;generalize byteAt s 2=x2 at *;generalize byteAt s 3=x3 at *;generalize byteAt s 4=x4 at *;have u4:=u8_and1 p4 r4;have W1:IntKind.i64.wrap x1=x1:=by rw[IntKind.wrap_i64];omega
 have W2:IntKind.i64.wrap x2=x2:=by rw[IntKind.wrap_i64];omega
 have W3:IntKind.i64.wrap x3=x3:=by rw[IntKind.wrap_i64];omega
 have W4:IntKind.i64.wrap (x1*256)=x1*256:=by rw[IntKind.wrap_i64];omega
 have W5:bits .or .i64 (x1*256) x2=256*x1+x2:=by
  obtain⟨a,rfl⟩:=oct_nat p1 r1;obtain⟨b,rfl⟩:=oct_nat p2 r2;exact or_oct a b a.2 b.2
 have g:=f_s17 x4 p4 r4 w0;generalize 256*x1+x2=X at *;generalize x4 / 2=y4 at *;obtain⟨V,hV⟩:∃ V,(if x0≠15\/x3<1\/7<x3\/x4 % 2=0 then (Tm.zero,(4:Int)) else (⟨x3,X,y4⟩,0))=V:=⟨_,rfl⟩;rw[hV];have HV:=Lib.hid hV;clear hV;go_enter Tryz.func67,Tryz.ntmps67
 go_upto_region 5 with fail
 generalize w.alloc _=wa at *;generalize w.heap.size=ga at *;have hd:=h1.drew;clear c f h1;refine wp_region_held_drew (S:=fun _=>True) (by kernel_rfl) trivial (fun hHeld=>?_)
 generalize wa.drew=wd at *;refine tk 0 ?_ rfl (fun w hSw=>?_) ?_
 rotate_left 1
 ·try dsimp only at hSw
  go_simp
  try with_reducible rfl
 try simp only[Act.put,sl]
 refine tk 1 ?_ rfl (fun w hSw=>?_) ?_
 rotate_left 1
 ·try dsimp only at hSw
  go_simp
  try with_reducible rfl
 try simp only[Act.put,sl]
 refine tk 2 ?_ rfl (fun w hSw=>?_) ?_
 rotate_left 1
 ·try dsimp only at hSw
  go_simp
  try with_reducible rfl
 try simp only[Act.put,sl]
 refine tk 3 ?_ rfl (fun w hSw=>?_) ?_
 rotate_left 1
 ·try dsimp only at hSw
  go_simp
  try with_reducible rfl
 try simp only[Act.put,sl]
 refine tk 4 ?_ rfl (fun w hSw=>?_) ?_
 rotate_left 1
 ·try dsimp only at hSw
  go_simp
  try with_reducible rfl
 try simp only[Act.put,sl]
 refine tk 5 ?_ rfl (fun w hSw=>?_) ?_
 rotate_left 1
 ·try dsimp only at hSw
  go_simp
  try with_reducible rfl
 try simp only[Act.put,sl]
 refine tk 6 ?_ rfl (fun w hSw=>?_) ?_
 rotate_left 1
 ·try dsimp only at hSw
  go_simp
  try with_reducible rfl
 try simp only[Act.put,sl]
 refine tk 7 ?_ rfl (fun w hSw=>?_) ?_
 rotate_left 1
 ·try dsimp only at hSw
  go_simp
  try with_reducible rfl
 try simp only[Act.put,sl]
 refine tk 8 ?_ rfl (fun w hSw=>?_) ?_
 rotate_left 1
 ·try dsimp only at hSw
  go_simp
  try with_reducible rfl
 try simp only[Act.put,sl]
 refine tk 9 ?_ rfl (fun w hSw=>?_) ?_
 rotate_left 1
 ·try dsimp only at hSw
  go_simp
  try with_reducible rfl
 try simp only[Act.put,sl]
 refine tk 10 ?_ rfl (fun w hSw=>?_) ?_
 rotate_left 1
 ·try dsimp only at hSw
  go_simp
  try with_reducible rfl
 try simp only[Act.put,sl]
 refine tk 11 ?_ rfl (fun w hSw=>?_) ?_
 rotate_left 1
 ·try dsimp only at hSw
  go_simp
  try with_reducible rfl
 try simp only[Act.put,sl]
 refine tk 12 ?_ rfl (fun w hSw=>?_) ?_
 rotate_left 1
 ·try dsimp only at hSw
  go_simp
  try with_reducible rfl
 try simp only[Act.put,sl]
 refine wpAnyH_ready (rs:=[13,15]) (by kernel_rfl) (by simp) ?_
 refine AllReadyH.cons (o:=⟨_,_,_,_,_,_⟩) rfl (fun K hK=>?_) (AllReadyH.cons (o:=⟨_,_,_,_,_,_⟩) rfl (fun K hK=>?_) AllReadyH.nil)
 ·go_simp
  go_at_call 112
  refine (g _ _ hd).mono ?_
  rintro e w5 ⟨rfl,h5⟩;go_simp
  refine hK.out _ _ trivial (fun hHeld=>?_)
  clear hK K;try simp only[Act.put,sl]
  rename_i hheld
  refine tk 14 ?_ rfl (fun w hSw=>?_) ?_
  rotate_left 1
  ·try dsimp only at hSw
   go_simp
   try with_reducible rfl
  try simp only[Act.put,sl]
  clear hd;have lt:=h5.lt;have h6:=h5.alloc (.cells #[.int .i64 0,.int .i64 0,.int .i64 0] TTm);have c6:=h6.cell;have f6:=h6.free;refine rd 15 rfl (fun K hK=>?_)
  go_simp
  go_simp
  refine hK.out _ _ trivial (fun hHeld=>?_)
  clear hK K;try simp only[Act.put,sl]
  refine rd 16 rfl (fun K hK=>?_)
  go_simp
  go_simp
  refine hK.out _ _ trivial (fun hHeld=>?_)
  clear hK K;try simp only[Act.put,sl]
  refine wpAnyH_done (by kernel_rfl) ?_ _
  have h7:=h5.alloc (.cells #[.int .i64 x3,.int .i64 X,.int .i64 y4] TTm);clear c6 f6 h6 h5 g;generalize w5.alloc _=w7 at *;generalize hgb:w5.heap.size=gb at *;have ne1:ga≠gb:=by omega
  have ne2:gb≠ga:=by omega
  have hV:=HV.out;clear HV;have c7:=h7.cell;have c8:=h7.f2.cell;have f8:=h7.f2.free;by_cases e0:x0=15
  ·have q0:(x0 != 15)=false:=by simp[e0]
   by_cases e1:x3<1
   ·have q1:decide (x3<1)=true:=decide_eq_true e1
    have HC:(x0≠15\/x3<1\/7<x3\/x4 % 2=0):=.inr (.inl e1);clear e0 e1;have hV2:=(if_pos HC).symm.trans hV;have h9:=(((h7.f2.set 0 (.int .i64 0)).set 1 (.int .i64 0)).set 2 (.int .i64 0));go_wp2;have cr:=h9.cell;refine bodyPost_ret (v:=.tuple #[.agg #[.int .i64 0,.int .i64 0,.int .i64 0],.int .i64 4]) (by simp[results,Tryz.results67,go_sem,cr]) rfl ⟨by rw[← hV2],h9.drop.drop⟩
   ·have q1:decide (x3<1)=false:=decide_eq_false e1
    by_cases e2:7<x3
    ·have q2:decide (7<x3)=true:=decide_eq_true e2
     have HC:(x0≠15\/x3<1\/7<x3\/x4 % 2=0):=.inr (.inr (.inl e2));clear e0 e1 e2;have hV2:=(if_pos HC).symm.trans hV;have h9:=(((h7.f2.set 0 (.int .i64 0)).set 1 (.int .i64 0)).set 2 (.int .i64 0));go_wp2;have cr:=h9.cell;refine bodyPost_ret (v:=.tuple #[.agg #[.int .i64 0,.int .i64 0,.int .i64 0],.int .i64 4]) (by simp[results,Tryz.results67,go_sem,cr]) rfl ⟨by rw[← hV2],h9.drop.drop⟩
    ·have q2:decide (7<x3)=false:=decide_eq_false e2
     by_cases e3:x4 % 2=0
     ·have q3:(x4 % 2 == 0)=true:=by simp[e3]
      have HC:(x0≠15\/x3<1\/7<x3\/x4 % 2=0):=.inr (.inr (.inr e3));clear e0 e1 e2 e3;have hV2:=(if_pos HC).symm.trans hV;have h9:=(((h7.f2.set 0 (.int .i64 0)).set 1 (.int .i64 0)).set 2 (.int .i64 0));go_wp2;have cr:=h9.cell;refine bodyPost_ret (v:=.tuple #[.agg #[.int .i64 0,.int .i64 0,.int .i64 0],.int .i64 4]) (by simp[results,Tryz.results67,go_sem,cr]) rfl ⟨by rw[← hV2],h9.drop.drop⟩
     ·have q3:(x4 % 2 == 0)=false:=by simp[e3]
      have hV2:=(if_neg (show ¬ (x0≠15\/x3<1\/7<x3\/x4 % 2=0) by omega)).symm.trans hV;clear e0 e1 e2 e3;have h9:=(((h7.f2.set 0 (.int .i64 x3)).set 1 (.int .i64 X)).set 2 (.int .i64 y4));go_wp2;have cr:=h9.cell;refine bodyPost_ret (v:=.tuple #[.agg #[.int .i64 x3,.int .i64 X,.int .i64 y4],.int .i64 0]) (by simp[results,Tryz.results67,go_sem,cr]) rfl ⟨by rw[← hV2],h9.drop.drop⟩
  ·have q0:(x0 != 15)=true:=by simp[e0]
   have HC:(x0≠15\/x3<1\/7<x3\/x4 % 2=0):=.inl e0;clear e0;have hV2:=(if_pos HC).symm.trans hV;have h9:=(((h7.f2.set 0 (.int .i64 0)).set 1 (.int .i64 0)).set 2 (.int .i64 0));go_wp2;have cr:=h9.cell;refine bodyPost_ret (v:=.tuple #[.agg #[.int .i64 0,.int .i64 0,.int .i64 0],.int .i64 4]) (by simp[results,Tryz.results67,go_sem,cr]) rfl ⟨by rw[← hV2],h9.drop.drop⟩
 ·go_simp
  have lt:=hd.lt;have h6:=hd.alloc (.cells #[.int .i64 0,.int .i64 0,.int .i64 0] TTm);go_simp
  refine hK.out _ _ trivial (fun hHeld=>?_)
  clear hK K;try simp only[Act.put,sl]
  refine rd 13 rfl (fun K hK=>?_)
  go_simp
  go_at_call 112
  refine (g _ _ h6).mono ?_
  rintro e w5 ⟨rfl,h5⟩;have c6:=h5.cell;have f6:=h5.free;go_simp
  refine hK.out _ _ trivial (fun hHeld=>?_)
  clear hK K;try simp only[Act.put,sl]
  refine tk 14 ?_ rfl (fun w hSw=>?_) ?_
  rotate_left 1
  ·try dsimp only at hSw
   go_simp
   try with_reducible rfl
  try simp only[Act.put,sl]
  refine rd 16 rfl (fun K hK=>?_)
  go_simp
  go_simp
  refine hK.out _ _ trivial (fun hHeld=>?_)
  clear hK K;try simp only[Act.put,sl]
  refine wpAnyH_done (by kernel_rfl) ?_ _
  have h7:=(((h5.set 0 (.int .i64 x3)).set 1 (.int .i64 X)).set 2 (.int .i64 y4));generalize ((w5.setCell _ _).setCell _ _).setCell _ _=w7 at *;clear c6 f6 h6 h5 g hd;generalize hgb:wd.heap.size=gb at *;have ne1:ga≠gb:=by omega
  have ne2:gb≠ga:=by omega
  have hV:=HV.out;clear HV;have c7:=h7.cell;have c8:=h7.f2.cell;have f8:=h7.f2.free;by_cases e0:x0=15
  ·have q0:(x0 != 15)=false:=by simp[e0]
   by_cases e1:x3<1
   ·have q1:decide (x3<1)=true:=decide_eq_true e1
    have HC:(x0≠15\/x3<1\/7<x3\/x4 % 2=0):=.inr (.inl e1);clear e0 e1;have hV2:=(if_pos HC).symm.trans hV;have h9:=(((h7.f2.set 0 (.int .i64 0)).set 1 (.int .i64 0)).set 2 (.int .i64 0));go_wp2;have cr:=h9.cell;refine bodyPost_ret (v:=.tuple #[.agg #[.int .i64 0,.int .i64 0,.int .i64 0],.int .i64 4]) (by simp[results,Tryz.results67,go_sem,cr]) rfl ⟨by rw[← hV2],h9.drop.drop⟩
   ·have q1:decide (x3<1)=false:=decide_eq_false e1
    by_cases e2:7<x3
    ·have q2:decide (7<x3)=true:=decide_eq_true e2
     have HC:(x0≠15\/x3<1\/7<x3\/x4 % 2=0):=.inr (.inr (.inl e2));clear e0 e1 e2;have hV2:=(if_pos HC).symm.trans hV;have h9:=(((h7.f2.set 0 (.int .i64 0)).set 1 (.int .i64 0)).set 2 (.int .i64 0));go_wp2;have cr:=h9.cell;refine bodyPost_ret (v:=.tuple #[.agg #[.int .i64 0,.int .i64 0,.int .i64 0],.int .i64 4]) (by simp[results,Tryz.results67,go_sem,cr]) rfl ⟨by rw[← hV2],h9.drop.drop⟩
    ·have q2:decide (7<x3)=false:=decide_eq_false e2
     by_cases e3:x4 % 2=0
     ·have q3:(x4 % 2 == 0)=true:=by simp[e3]
      have HC:(x0≠15\/x3<1\/7<x3\/x4 % 2=0):=.inr (.inr (.inr e3));clear e0 e1 e2 e3;have hV2:=(if_pos HC).symm.trans hV;have h9:=(((h7.f2.set 0 (.int .i64 0)).set 1 (.int .i64 0)).set 2 (.int .i64 0));go_wp2;have cr:=h9.cell;refine bodyPost_ret (v:=.tuple #[.agg #[.int .i64 0,.int .i64 0,.int .i64 0],.int .i64 4]) (by simp[results,Tryz.results67,go_sem,cr]) rfl ⟨by rw[← hV2],h9.drop.drop⟩
     ·have q3:(x4 % 2 == 0)=false:=by simp[e3]
      have hV2:=(if_neg (show ¬ (x0≠15\/x3<1\/7<x3\/x4 % 2=0) by omega)).symm.trans hV;clear e0 e1 e2 e3;have h9:=(((h7.f2.set 0 (.int .i64 x3)).set 1 (.int .i64 X)).set 2 (.int .i64 y4));go_wp2;have cr:=h9.cell;refine bodyPost_ret (v:=.tuple #[.agg #[.int .i64 x3,.int .i64 X,.int .i64 y4],.int .i64 0]) (by simp[results,Tryz.results67,go_sem,cr]) rfl ⟨by rw[← hV2],h9.drop.drop⟩
  ·have q0:(x0 != 15)=true:=by simp[e0]
   have HC:(x0≠15\/x3<1\/7<x3\/x4 % 2=0):=.inl e0;clear e0;have hV2:=(if_pos HC).symm.trans hV;have h9:=(((h7.f2.set 0 (.int .i64 0)).set 1 (.int .i64 0)).set 2 (.int .i64 0));go_wp2;have cr:=h9.cell;refine bodyPost_ret (v:=.tuple #[.agg #[.int .i64 0,.int .i64 0,.int .i64 0],.int .i64 4]) (by simp[results,Tryz.results67,go_sem,cr]) rfl ⟨by rw[← hV2],h9.drop.drop⟩
theorem m_frame (m:Tm) (w0 w:World) (R:HP) (hL:∀ w',St w0 w' R->LinkAt w') (h:St w0 w R) :
  Calls Tryz.prog 34 #[.agg m.cells.toArray] w fun e w'=>e=.returned (.tuple #[.agg m.fr.cells.toArray,.int .i64 m.bad])/\St w0 w' R:=by
 have h1:=h.alloc (.cells #[.int .i64 m.ty,.int .i64 m.ri,.int .i64 m.ai] TTm);have h2:=h1.alloc (.cells #[.int .i64 0,.int .i64 0,.bool false,.int .i64 0,.bool false,.int .i64 0,.int .i64 0,.string ⟨#[]⟩] TFr);have hp:=m_put m w0 _ _ h2;have c1:=h2.f2.cell;unfold Tm.fr;by_cases hb:m.bad=0
 ·rw[if_pos hb]
  rw[hb] at hp ⊢;obtain⟨ty,ri,ai⟩:=m;simp only[Tm.cells] at *;generalize Tm.oct _=oc at *;clear hb;go_enter Tryz.func34,Tryz.ntmps34
  go_upto_region 1 with fail
  simp only[World.size_alloc] at *;generalize hg:w.heap.size=ga at *;generalize (w.alloc _).alloc _=wb at *;go_wp2_with fail
  refine hp.mono ?_
  rintro e w5 ⟨rfl,h5⟩;obtain⟨l0,l1⟩:=hL _ h5.drop.drop;have c5:=h5.cell;have f5:=h5.free;clear c1 hp h1 h2;have h9:=((((((((h5.set 0 (.int .i64 63)).set 1 (.int .i64 127)).set 2 (.bool true)).set 3 (.int .i64 6)).set 4 (.bool false)).set 5 (.int .i64 0)).set 6 (.int .i64 0)).set 7 (.string oc));go_wp2;have cr:=h9.cell;refine bodyPost_ret (v:=.tuple #[.agg #[.int .i64 63,.int .i64 127,.bool true,.int .i64 6,.bool false,.int .i64 0,.int .i64 0,.string oc],.int .i64 0]) (by simp[results,Tryz.results34,go_sem,cr]) rfl ⟨rfl,h9.drop.drop⟩
 ·rw[if_neg hb]
  have qb:(m.bad != 0)=true:=by simp[hb]
  generalize m.bad=bd at *;obtain⟨ty,ri,ai⟩:=m;simp only[Tm.cells] at *;generalize Tm.oct _=oc at *;clear hb;go_enter Tryz.func34,Tryz.ntmps34
  go_upto_region 1 with fail
  simp only[World.size_alloc] at *;generalize hg:w.heap.size=ga at *;generalize (w.alloc _).alloc _=wb at *;go_wp2_with fail
  refine hp.mono ?_
  rintro e w5 ⟨rfl,h5⟩;have c5:=h5.cell;have f5:=h5.free;clear c1 hp h1 h2;have h9:=((((((((h5.set 0 (.int .i64 0)).set 1 (.int .i64 0)).set 2 (.bool false)).set 3 (.int .i64 0)).set 4 (.bool false)).set 5 (.int .i64 0)).set 6 (.int .i64 0)).set 7 (.string ⟨#[]⟩));go_wp2;have cr:=h9.cell;refine bodyPost_ret (v:=.tuple #[.agg #[.int .i64 0,.int .i64 0,.bool false,.int .i64 0,.bool false,.int .i64 0,.int .i64 0,.string ⟨#[]⟩],.int .i64 bd]) (by simp[results,Tryz.results34,go_sem,cr]) rfl ⟨rfl,h9.drop.drop⟩
theorem lk_eq (a b a' b':Int) (w:World):(Op.equalIn 10000 73 (.agg #[.int .i64 a,.int .i64 b]) (.agg #[.int .i64 a',.int .i64 b'])).run Tryz.prog w=.ok (a == a' && b == b') w:=by
 rw[run_equalIn_agg (P:=Tryz.prog) w 9999 73 _ _ (by kernel_rfl) (by kernel_rfl)];go_simp
 repeat' split
 all_goals simp_all
theorem m_of (f:Fr) (net:Bool) (w0 w:World) (R:HP) (hL:∀ w',St w0 w' R->LinkAt w') (h:St w0 w R) (hs:f.info.size<=1000000000) :
  Calls Tryz.prog 31 #[.agg f.cells.toArray,.bool net] w fun e w'=>e=.returned (.tuple #[.agg (tmOf f net).1.cells.toArray,.bool (tmOf f net).2])/\St w0 w' R:=by
 obtain⟨a1,a2,cmd,k,pf,ns,nr,inf⟩:=f;simp only[] at *;have h1:=h.alloc (.cells (Fr.cells ⟨a1,a2,cmd,k,pf,ns,nr,inf⟩).toArray TFr);have h2:=h1.alloc (.cells #[.int .i64 0,.int .i64 0,.int .i64 0] TTm);have hg1:=m_get inf w0 _ _ h2 hs;have c1:=h2.f2.cell;unfold tmOf;dsimp only;generalize tmG inf=C at *;obtain⟨⟨ty,ri,ai⟩,er⟩:=C;simp only[Tm.cells,Fr.cells] at *;have hf:=fun w=>t_from ty w
 generalize fromNet ty=fn at *;have hlk:=lk_eq a1 a2 63 127;obtain⟨V,hV⟩:∃ V,(if ¬ (a1=63/\a2=127)\/k≠6\/cmd=false\/er≠0\/fn≠net then (Tm.zero,false) else (⟨ty,ri,ai⟩,true))=V:=⟨_,rfl⟩;rw[hV];by_cases b1:a1=63/\a2=127
 ·rw[show (a1 == 63 && a2 == 127)=true by simp[b1.1,b1.2]] at hlk
  by_cases b2:k=6
  ·have q2:(k != 6)=false:=by simp[b2]
   cases hcm:cmd with
   | false =>
     have HC:(¬ (a1=63/\a2=127)\/k≠6\/cmd=false\/er≠0\/fn≠net):=.inr (.inr (.inl hcm));subst hcm;clear b1 b2;have HV:=Lib.hid (And.intro HC hV);clear HC hV;go_enter Tryz.func31,Tryz.ntmps31
     go_upto_region 1 with fail
     simp only[World.size_alloc] at *;generalize hg:w.heap.size=gf at *;generalize (w.alloc _).alloc _=wb at *;go_upto_region 2 with (go_at_call 67;refine hg1.mono ?_;rintro e w5 ⟨rfl,h5⟩)
     have lt1:=h5.lt;have lt2:=h5.drop.lt;have h6:=h5.alloc (.cells #[.int .i64 ty,.int .i64 ri,.int .i64 ai] TTm);have hl5:=hL _ h6.drop.drop.drop;obtain⟨l0,l1⟩:=hl5;generalize w5.alloc _=w6 at *;generalize hgc:w5.heap.size=gc at *;have ne1:gc≠gf+1:=by omega
     have ne2:gf+1≠gc:=by omega
     have ne3:gc≠gf:=by omega
     have ne4:gf≠gc:=by omega
     clear c1 hg1 h1 h2 h5 hL;have c6:=h6.cell;have c7:=h6.f2.cell;have f7:=h6.f2.free;have c8:=h6.f3.cell;obtain⟨HC,hV⟩:=HV.out;clear HV;have hV2:=(if_pos HC).symm.trans hV;have h9:=(((h6.f2.set 0 (.int .i64 0)).set 1 (.int .i64 0)).set 2 (.int .i64 0));go_wp2_with (go_at_call 68;refine (hf _).mono ?_;rintro e w8 ⟨rfl,rfl⟩)
     have cr:=h9.cell;refine bodyPost_ret (v:=.tuple #[.agg #[.int .i64 0,.int .i64 0,.int .i64 0],.bool false]) (by simp[results,Tryz.results31,go_sem,cr]) rfl ⟨by rw[← hV2],h9.drop.drop.drop⟩
   | true =>
     subst hcm;by_cases b3:er=0
     ·have q3:(er != 0)=false:=by simp[b3]
      have good:fn=net->(¬ (¬ (a1=63/\a2=127)\/k≠6\/true=false\/er≠0\/fn≠net)):=fun b4=>by simp[b1.1,b1.2,b2,b3,b4]
      have bad:fn≠net->(¬ (a1=63/\a2=127)\/k≠6\/true=false\/er≠0\/fn≠net):=fun b4=>.inr (.inr (.inr (.inr b4)))
      clear b1 b2 b3;cases fn with
      | false =>
        cases net with
        | false =>
          have HV:=Lib.hid (And.intro (good rfl) hV);clear good bad hV;go_enter Tryz.func31,Tryz.ntmps31
          go_upto_region 1 with fail
          simp only[World.size_alloc] at *;generalize hg:w.heap.size=gf at *;generalize (w.alloc _).alloc _=wb at *;go_upto_region 2 with (go_at_call 67;refine hg1.mono ?_;rintro e w5 ⟨rfl,h5⟩)
          have lt1:=h5.lt;have lt2:=h5.drop.lt;have h6:=h5.alloc (.cells #[.int .i64 ty,.int .i64 ri,.int .i64 ai] TTm);have hl5:=hL _ h6.drop.drop.drop;obtain⟨l0,l1⟩:=hl5;generalize w5.alloc _=w6 at *;generalize hgc:w5.heap.size=gc at *;have ne1:gc≠gf+1:=by omega
          have ne2:gf+1≠gc:=by omega
          have ne3:gc≠gf:=by omega
          have ne4:gf≠gc:=by omega
          clear c1 hg1 h1 h2 h5 hL;have c6:=h6.cell;have c7:=h6.f2.cell;have f7:=h6.f2.free;have c8:=h6.f3.cell;obtain⟨HC,hV⟩:=HV.out;clear HV;have hV2:=(if_neg HC).symm.trans hV;clear HC hV;have h9:=(((h6.f2.set 0 (.int .i64 ty)).set 1 (.int .i64 ri)).set 2 (.int .i64 ai));go_wp2_with (go_at_call 68;refine (hf _).mono ?_;rintro e w8 ⟨rfl,rfl⟩)
          have cr:=h9.cell;refine bodyPost_ret (v:=.tuple #[.agg #[.int .i64 ty,.int .i64 ri,.int .i64 ai],.bool true]) (by simp[results,Tryz.results31,go_sem,cr]) rfl ⟨by rw[← hV2],h9.drop.drop.drop⟩
        | true =>
          have HV:=Lib.hid (And.intro (bad (by decide)) hV);clear good bad hV;go_enter Tryz.func31,Tryz.ntmps31
          go_upto_region 1 with fail
          simp only[World.size_alloc] at *;generalize hg:w.heap.size=gf at *;generalize (w.alloc _).alloc _=wb at *;go_upto_region 2 with (go_at_call 67;refine hg1.mono ?_;rintro e w5 ⟨rfl,h5⟩)
          have lt1:=h5.lt;have lt2:=h5.drop.lt;have h6:=h5.alloc (.cells #[.int .i64 ty,.int .i64 ri,.int .i64 ai] TTm);have hl5:=hL _ h6.drop.drop.drop;obtain⟨l0,l1⟩:=hl5;generalize w5.alloc _=w6 at *;generalize hgc:w5.heap.size=gc at *;have ne1:gc≠gf+1:=by omega
          have ne2:gf+1≠gc:=by omega
          have ne3:gc≠gf:=by omega
          have ne4:gf≠gc:=by omega
          clear c1 hg1 h1 h2 h5 hL;have c6:=h6.cell;have c7:=h6.f2.cell;have f7:=h6.f2.free;have c8:=h6.f3.cell;obtain⟨HC,hV⟩:=HV.out;clear HV;have hV2:=(if_pos HC).symm.trans hV;have h9:=(((h6.f2.set 0 (.int .i64 0)).set 1 (.int .i64 0)).set 2 (.int .i64 0));go_wp2_with (go_at_call 68;refine (hf _).mono ?_;rintro e w8 ⟨rfl,rfl⟩)
          have cr:=h9.cell;refine bodyPost_ret (v:=.tuple #[.agg #[.int .i64 0,.int .i64 0,.int .i64 0],.bool false]) (by simp[results,Tryz.results31,go_sem,cr]) rfl ⟨by rw[← hV2],h9.drop.drop.drop⟩
      | true =>
        cases net with
        | false =>
          have HV:=Lib.hid (And.intro (bad (by decide)) hV);clear good bad hV;go_enter Tryz.func31,Tryz.ntmps31
          go_upto_region 1 with fail
          simp only[World.size_alloc] at *;generalize hg:w.heap.size=gf at *;generalize (w.alloc _).alloc _=wb at *;go_upto_region 2 with (go_at_call 67;refine hg1.mono ?_;rintro e w5 ⟨rfl,h5⟩)
          have lt1:=h5.lt;have lt2:=h5.drop.lt;have h6:=h5.alloc (.cells #[.int .i64 ty,.int .i64 ri,.int .i64 ai] TTm);have hl5:=hL _ h6.drop.drop.drop;obtain⟨l0,l1⟩:=hl5;generalize w5.alloc _=w6 at *;generalize hgc:w5.heap.size=gc at *;have ne1:gc≠gf+1:=by omega
          have ne2:gf+1≠gc:=by omega
          have ne3:gc≠gf:=by omega
          have ne4:gf≠gc:=by omega
          clear c1 hg1 h1 h2 h5 hL;have c6:=h6.cell;have c7:=h6.f2.cell;have f7:=h6.f2.free;have c8:=h6.f3.cell;obtain⟨HC,hV⟩:=HV.out;clear HV;have hV2:=(if_pos HC).symm.trans hV;have h9:=(((h6.f2.set 0 (.int .i64 0)).set 1 (.int .i64 0)).set 2 (.int .i64 0));go_wp2_with (go_at_call 68;refine (hf _).mono ?_;rintro e w8 ⟨rfl,rfl⟩)
          have cr:=h9.cell;refine bodyPost_ret (v:=.tuple #[.agg #[.int .i64 0,.int .i64 0,.int .i64 0],.bool false]) (by simp[results,Tryz.results31,go_sem,cr]) rfl ⟨by rw[← hV2],h9.drop.drop.drop⟩
        | true =>
          have HV:=Lib.hid (And.intro (good rfl) hV);clear good bad hV;go_enter Tryz.func31,Tryz.ntmps31
          go_upto_region 1 with fail
          simp only[World.size_alloc] at *;generalize hg:w.heap.size=gf at *;generalize (w.alloc _).alloc _=wb at *;go_upto_region 2 with (go_at_call 67;refine hg1.mono ?_;rintro e w5 ⟨rfl,h5⟩)
          have lt1:=h5.lt;have lt2:=h5.drop.lt;have h6:=h5.alloc (.cells #[.int .i64 ty,.int .i64 ri,.int .i64 ai] TTm);have hl5:=hL _ h6.drop.drop.drop;obtain⟨l0,l1⟩:=hl5;generalize w5.alloc _=w6 at *;generalize hgc:w5.heap.size=gc at *;have ne1:gc≠gf+1:=by omega
          have ne2:gf+1≠gc:=by omega
          have ne3:gc≠gf:=by omega
          have ne4:gf≠gc:=by omega
          clear c1 hg1 h1 h2 h5 hL;have c6:=h6.cell;have c7:=h6.f2.cell;have f7:=h6.f2.free;have c8:=h6.f3.cell;obtain⟨HC,hV⟩:=HV.out;clear HV;have hV2:=(if_neg HC).symm.trans hV;clear HC hV;have h9:=(((h6.f2.set 0 (.int .i64 ty)).set 1 (.int .i64 ri)).set 2 (.int .i64 ai));go_wp2_with (go_at_call 68;refine (hf _).mono ?_;rintro e w8 ⟨rfl,rfl⟩)
          have cr:=h9.cell;refine bodyPost_ret (v:=.tuple #[.agg #[.int .i64 ty,.int .i64 ri,.int .i64 ai],.bool true]) (by simp[results,Tryz.results31,go_sem,cr]) rfl ⟨by rw[← hV2],h9.drop.drop.drop⟩
     ·have q3:(er != 0)=true:=by simp[b3]
      have HC:(¬ (a1=63/\a2=127)\/k≠6\/true=false\/er≠0\/fn≠net):=.inr (.inr (.inr (.inl b3)));clear b1 b2 b3;have HV:=Lib.hid (And.intro HC hV);clear HC hV;go_enter Tryz.func31,Tryz.ntmps31
      go_upto_region 1 with fail
      simp only[World.size_alloc] at *;generalize hg:w.heap.size=gf at *;generalize (w.alloc _).alloc _=wb at *;go_upto_region 2 with (go_at_call 67;refine hg1.mono ?_;rintro e w5 ⟨rfl,h5⟩)
      have lt1:=h5.lt;have lt2:=h5.drop.lt;have h6:=h5.alloc (.cells #[.int .i64 ty,.int .i64 ri,.int .i64 ai] TTm);have hl5:=hL _ h6.drop.drop.drop;obtain⟨l0,l1⟩:=hl5;generalize w5.alloc _=w6 at *;generalize hgc:w5.heap.size=gc at *;have ne1:gc≠gf+1:=by omega
      have ne2:gf+1≠gc:=by omega
      have ne3:gc≠gf:=by omega
      have ne4:gf≠gc:=by omega
      clear c1 hg1 h1 h2 h5 hL;have c6:=h6.cell;have c7:=h6.f2.cell;have f7:=h6.f2.free;have c8:=h6.f3.cell;obtain⟨HC,hV⟩:=HV.out;clear HV;have hV2:=(if_pos HC).symm.trans hV;have h9:=(((h6.f2.set 0 (.int .i64 0)).set 1 (.int .i64 0)).set 2 (.int .i64 0));go_wp2_with (go_at_call 68;refine (hf _).mono ?_;rintro e w8 ⟨rfl,rfl⟩)
      have cr:=h9.cell;refine bodyPost_ret (v:=.tuple #[.agg #[.int .i64 0,.int .i64 0,.int .i64 0],.bool false]) (by simp[results,Tryz.results31,go_sem,cr]) rfl ⟨by rw[← hV2],h9.drop.drop.drop⟩
  ·have q2:(k != 6)=true:=by simp[b2]
   have HC:(¬ (a1=63/\a2=127)\/k≠6\/cmd=false\/er≠0\/fn≠net):=.inr (.inl b2);clear b1 b2;have HV:=Lib.hid (And.intro HC hV);clear HC hV;go_enter Tryz.func31,Tryz.ntmps31
   go_upto_region 1 with fail
   simp only[World.size_alloc] at *;generalize hg:w.heap.size=gf at *;generalize (w.alloc _).alloc _=wb at *;go_upto_region 2 with (go_at_call 67;refine hg1.mono ?_;rintro e w5 ⟨rfl,h5⟩)
   have lt1:=h5.lt;have lt2:=h5.drop.lt;have h6:=h5.alloc (.cells #[.int .i64 ty,.int .i64 ri,.int .i64 ai] TTm);have hl5:=hL _ h6.drop.drop.drop;obtain⟨l0,l1⟩:=hl5;generalize w5.alloc _=w6 at *;generalize hgc:w5.heap.size=gc at *;have ne1:gc≠gf+1:=by omega
   have ne2:gf+1≠gc:=by omega
   have ne3:gc≠gf:=by omega
   have ne4:gf≠gc:=by omega
   clear c1 hg1 h1 h2 h5 hL;have c6:=h6.cell;have c7:=h6.f2.cell;have f7:=h6.f2.free;have c8:=h6.f3.cell;obtain⟨HC,hV⟩:=HV.out;clear HV;have hV2:=(if_pos HC).symm.trans hV;have h9:=(((h6.f2.set 0 (.int .i64 0)).set 1 (.int .i64 0)).set 2 (.int .i64 0));go_wp2_with (go_at_call 68;refine (hf _).mono ?_;rintro e w8 ⟨rfl,rfl⟩)
   have cr:=h9.cell;refine bodyPost_ret (v:=.tuple #[.agg #[.int .i64 0,.int .i64 0,.int .i64 0],.bool false]) (by simp[results,Tryz.results31,go_sem,cr]) rfl ⟨by rw[← hV2],h9.drop.drop.drop⟩
 ·have q1:(a1 == 63 && a2 == 127)=false:=by simp;intro e;exact fun e2=>b1 ⟨e,e2⟩
  rw[q1] at hlk;clear q1;have HC:(¬ (a1=63/\a2=127)\/k≠6\/cmd=false\/er≠0\/fn≠net):=.inl b1;clear b1;have HV:=Lib.hid (And.intro HC hV);clear HC hV;go_enter Tryz.func31,Tryz.ntmps31
  go_upto_region 1 with fail
  simp only[World.size_alloc] at *;generalize hg:w.heap.size=gf at *;generalize (w.alloc _).alloc _=wb at *;go_upto_region 2 with (go_at_call 67;refine hg1.mono ?_;rintro e w5 ⟨rfl,h5⟩)
  have lt1:=h5.lt;have lt2:=h5.drop.lt;have h6:=h5.alloc (.cells #[.int .i64 ty,.int .i64 ri,.int .i64 ai] TTm);have hl5:=hL _ h6.drop.drop.drop;obtain⟨l0,l1⟩:=hl5;generalize w5.alloc _=w6 at *;generalize hgc:w5.heap.size=gc at *;have ne1:gc≠gf+1:=by omega
  have ne2:gf+1≠gc:=by omega
  have ne3:gc≠gf:=by omega
  have ne4:gf≠gc:=by omega
  clear c1 hg1 h1 h2 h5 hL;have c6:=h6.cell;have c7:=h6.f2.cell;have f7:=h6.f2.free;have c8:=h6.f3.cell;obtain⟨HC,hV⟩:=HV.out;clear HV;have hV2:=(if_pos HC).symm.trans hV;have h9:=(((h6.f2.set 0 (.int .i64 0)).set 1 (.int .i64 0)).set 2 (.int .i64 0));go_wp2_with (go_at_call 68;refine (hf _).mono ?_;rintro e w8 ⟨rfl,rfl⟩)
  have cr:=h9.cell;refine bodyPost_ret (v:=.tuple #[.agg #[.int .i64 0,.int .i64 0,.int .i64 0],.bool false]) (by simp[results,Tryz.results31,go_sem,cr]) rfl ⟨by rw[← hV2],h9.drop.drop.drop⟩
end Go.Proofs.YtjcldoejpldcmaaGreatDoor
