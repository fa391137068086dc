/- Parts of a proof (GoneP, TimeP, WTerminalFails, WTerminalTime). No condition. -/
import Derived.Test.YtnnahljdhdippaaGreatDoorC9
import Derived.Test.YtnnahljdhdippaaGreatDoorC38
import Derived.Test.YtnnahljdhdippaaGreatDoorC37
import Derived.Test.YtnnahljdhdippaaGreatDoorC39
namespace Go.Proofs.YtnnahljdhdippaaGreatDoor
set_option maxRecDepth 100000
set_option maxHeartbeats 6400000
open Go.RowKit
structure Tt.Late (N:Int) (x:Tt):Prop where
 now:x.now=N
 p:1<=x.cf.t200/\1<=x.cf.t202/\1<=x.cf.t203
 c:∀ p ∈ x.c,N<p.2
section
variable {N:Int} {x:Tt}
theorem late_start (h:x.Late N) (t:Int):(x.start t).Late N:=by
 refine⟨h.now,h.p,fun p hp=>?_⟩
 have hp:p ∈ (cstart x.c (0,t) x.now (if t=200 then x.cf.t200 else if t=202 then x.cf.t202 else x.cf.t203)).1:=hp;have h1:1<=(if t=200 then x.cf.t200 else if t=202 then x.cf.t202 else x.cf.t203):=by
  have:=h.p
  repeat' split
  all_goals omega
 generalize (if t=200 then x.cf.t200 else if t=202 then x.cf.t202 else x.cf.t203)=q at *;unfold cstart at hp;split at hp
 ·exact h.c p hp
 ·rcases mput_mem hp with hp | rfl
  ·exact h.c p hp
  ·show N<x.now+q
   have:=h.now
   omega
theorem late_stop (h:x.Late N) (t:Int):(x.stop t).Late N:=⟨h.now,h.p,fun p hp=>h.c p ((mdel_sublist _ _).subset hp)⟩
theorem late_link0 (h:x.Late N) (y:Fx):(x.link0 y).Late N:=by
 unfold Tt.link0;repeat' split
 ·exact⟨h.now,h.p,h.c⟩
 ·exact late_start h _
 ·exact late_stop h _
 ·exact⟨h.now,h.p,h.c⟩
theorem late_links0:∀ (l:List Fx) {x:Tt},x.Late N->(x.links0 l).Late N
 | [],_,h=>h
 | y :: l,_,h=>late_links0 l (late_link0 h y)
theorem late_user1 (h:x.Late N) (y:Ue):(x.user1 y).Late N:=by
 unfold Tt.user1;repeat' split
 ·exact⟨h.now,h.p,h.c⟩
 ·exact late_start h _
 ·exact late_stop h _
 ·exact late_links0 _ ⟨h.now,h.p,h.c⟩
 ·exact late_links0 _ ⟨h.now,h.p,h.c⟩
theorem late_users:∀ (l:List Ue) {x:Tt},x.Late N->(x.users l).Late N
 | [],_,h=>h
 | y :: l,_,h=>late_users l (late_user1 h y)
theorem late_links:∀ (l:List Fx) {x:Tt},x.Late N->(x.links l).Late N
 | [],_,h=>h
 | y :: l,x,h=>by
   have h1:(x.link1 y).Late N:=by
    unfold Tt.link1;split
    ·exact late_users _ ⟨h.now,h.p,h.c⟩
    ·exact late_link0 h y
   exact late_links l h1
theorem late_overs:∀ (l:List Key) {x:Tt},x.Late N->(l.foldl Tt.over x).Late N
 | [],_,h=>h
 | y :: l,x,h=>by
   have h1:(x.over y).Late N:=by
    unfold Tt.over;split
    ·exact late_users _ ⟨h.now,h.p,h.c⟩
    ·exact late_links _ ⟨h.now,h.p,h.c⟩
   exact late_overs l h1
end
theorem tick_late (x:Tt) (now:Int) (hb:badNow now=false) (hp:1<=x.cf.t200/\1<=x.cf.t202/\1<=x.cf.t203):(x.tick now).2=0/\∀ p ∈ (x.tick now).1.c,now<p.2:=by
 unfold Tt.tick;rw[hb,if_neg (by decide)];refine⟨rfl,(late_overs _ (x:=(x.begin now).setC (leftK x.c now)) ⟨rfl,hp,fun p h=>?_⟩).c⟩
 have h2:=(List.mem_filter.1 h).2;show now<p.2
 simpa using h2
theorem next_late {c:Tms} {now f:Int} {b:Bool} (h:∀ p ∈ c,now<p.2) (hn:NextIs c f b):b=false\/(b=true/\now<f):=by
 rcases hn with ⟨_,_,hb⟩ | ⟨hb,⟨p,hp,hf⟩,_⟩
 ·exact .inl hb
 ·exact .inr ⟨hb,by have:=h p hp;omega⟩
abbrev cfSh:Sh:=.pair (.int .i64) (.pair (.int .i64) (.pair (.int .i64) (.pair (.int .i64) (.pair (.int .i64) (.pair (.int .i64) .unit)))))
theorem cf_of {w:World} {cs:List Value} (h:cfSh.ok w cs):∃ c:Tcf,cs=c.cells/\(Lit.int .i64 c.k).wf=true/\(Lit.int .i64 c.n200).wf=true/\(Lit.int .i64 c.n202).wf=true/\(Lit.int .i64 c.t200).wf=true/\(Lit.int .i64 c.t202).wf=true/\(Lit.int .i64 c.t203).wf=true:=by
 obtain⟨_,_,rfl,_,⟨n1,rfl,w1⟩,_,_,rfl,_,⟨n2,rfl,w2⟩,_,_,rfl,_,⟨n3,rfl,w3⟩,_,_,rfl,_,⟨n4,rfl,w4⟩,_,_,rfl,_,⟨n5,rfl,w5⟩,_,_,rfl,_,⟨n6,rfl,w6⟩,h12⟩:=h;obtain rfl:=h12;exact⟨⟨n1,n2,n3,n4,n5,n6⟩,rfl,w1,w2,w3,w4,w5,w6⟩
theorem usv_f1 (v0 v1 v2 v3:Value) (w:World):(Instr.field 63 (.agg #[v0,v1,v2,v3]) 1).run Tryz.prog w=.ok v1 w:=by kernel_rfl
theorem usv_asking (v:Uv) (w:World):(Instr.field 63 (.agg v.cells.toArray) 1).run Tryz.prog w=.ok (.bool v.asking) w:=usv_f1 _ _ _ _ w
theorem TerminalFails.walk (a0:Array Value) (a1:Int) (w:World) (hN:NamesAt w) (hF:FirstAt w) (hL:LinkAt w) (w0:Sh.ok w cfSh a0.toList) (_w1:(Lit.int .u64 a1).wf=true) :
  Calls Tryz.prog 4 #[.agg a0,.int .u64 a1] w fun e w'=>e=.returned (.bool true)/\Below w.heap.size w w':=by
 obtain⟨c,ha,_⟩:=cf_of w0;obtain rfl:a0=c.cells.toArray:=by rw[← ha]
 have hO:∀ w',St w w' (Old w)->NamesAt w':=fun w' h=>hN.old h.old0 hN.pos
 have hO2:∀ w',St w w' (Old w)->FirstAt w':=fun w' h=>hF.old h.old0 hF.pos
 have hO3:∀ w',St w w' (Old w)->LinkAt w':=fun w' h=>hL.old h.old0 hL.pos
 have h2:=((St.start w).alloc (.cells c.cells.toArray 23));clear w0 ha _w1 hN hF hL;have hg:=fun w0 w R h=>l_good c w0 w R h
 obtain⟨hr,hr2,hr3⟩:=goodC_range c;have hgg:=goodC_good c;have hn3:(goodC c).n202=c.n202:=rfl;generalize goodC c=g at *;obtain⟨M,hM⟩:∃ M:Nat,max 1 (min c.n202 32)=(M:Int):=⟨(max 1 (min c.n202 32)).toNat,by omega⟩;have hM1:1<=M/\M<=32:=by omega
 have hs:=fail_start g ⟨false,[],a1⟩ M (by rw[hn3];exact hM) hr2.1 (by omega);have hnw:=fun v w0 w R h=>t_new g v ⟨false,[],a1⟩ hgg w0 w R h
 have f0:=fit_tt_new g ⟨false,[],a1⟩;have HM:=Lib.hid (show max 1 (min c.n202 32)=(M:Int)/\1<=g.t202/\g.t202<=100 from ⟨hM,hr2⟩);generalize newTt g ⟨false,[],a1⟩=x0 at *;obtain⟨X,hX⟩:∃ X,x0.ask 0 0 noStr=X:=⟨_,rfl⟩;have hask:=fun t w0 w R hN hF hL h=>t_ask t x0 0 0 noStr f0 w0 w R hN hF hL h
 rw[hX] at hs;simp only[hX] at hask;obtain⟨X1,X2⟩:=X;simp only[] at hs hask;obtain⟨hi0,rfl,hs1⟩:=hs;obtain⟨c1,c2,c3,c4,c5,c6⟩:=c;obtain⟨g1,g2,g3,g4,g5,g6⟩:=g;simp only[Tcf.cells] at *;subst hn3;clear hX hr hr2 hr3 hgg f0 hM;have d:=h2.cell;go_enter Tryz.func4,Tryz.ntmps4
 go_upto_region 1 with fail
 generalize w.alloc _=wa at *;generalize w.heap.size=ga at *;have hk:=hg w wa _ h2;go_upto_region 2 with (go_at_call 10;refine hk.mono ?_;rintro r wb ⟨rfl,h3⟩)
 have h4:=(h3.alloc (.cells #[.int .i64 g1,.int .i64 g2,.int .i64 g3,.int .i64 g4,.int .i64 g5,.int .i64 g6] TCf)).alloc (.cells #[.int .i64 g1,.int .i64 g2,.int .i64 g3,.int .i64 g4,.int .i64 g5,.int .i64 g6] 27);clear hk hg d h2 h3;go_upto_region 2 with fail
 simp only[World.size_alloc] at *;generalize (wb.alloc _).alloc _=wc at *;generalize wb.heap.size=gh at *;have h5:=h4.f2.drew;have e0:wc.drew.cell? ⟨gh,0,none⟩=some (.int .i64 g1):=(h5.cell 0).trans rfl;have e1:wc.drew.cell? ⟨gh,1,none⟩=some (.int .i64 g2):=(h5.cell 1).trans rfl;have e2:wc.drew.cell? ⟨gh,2,none⟩=some (.int .i64 g3):=(h5.cell 2).trans rfl;have e3:wc.drew.cell? ⟨gh,3,none⟩=some (.int .i64 g4):=(h5.cell 3).trans rfl;have e4:wc.drew.cell? ⟨gh,4,none⟩=some (.int .i64 g5):=(h5.cell 4).trans rfl;have e5:wc.drew.cell? ⟨gh,5,none⟩=some (.int .i64 g6):=(h5.cell 5).trans rfl;have hk:=dr_new0 a1 w wc.drew _ h5;refine wp_region_held_drew (S:=fun wx=>wx.cell? ⟨gh,0,none⟩=some (.int .i64 g1)/\wx.cell? ⟨gh,1,none⟩=some (.int .i64 g2)/\wx.cell? ⟨gh,2,none⟩=some (.int .i64 g3)/\wx.cell? ⟨gh,3,none⟩=some (.int .i64 g4)/\wx.cell? ⟨gh,4,none⟩=some (.int .i64 g5)/\wx.cell? ⟨gh,5,none⟩=some (.int .i64 g6)) (by kernel_rfl) ⟨e0,e1,e2,e3,e4,e5⟩ (fun hHeld=>?_)
 clear e0 e1 e2 e3 e4 e5 h4 h5;generalize wc.drew=wd at *;refine tk 0 ?_ rfl (fun w hSw=>?_) ?_
 rotate_left 1
 ·try dsimp only at hSw
  go_simp
  try with_reducible rfl
 try simp only[Act.put,sl]
 refine tk 1 ?_ rfl (fun w hSw=>?_) ?_
 rotate_left 1
 ·try dsimp only at hSw
  go_simp
  try with_reducible rfl
 try simp only[Act.put,sl]
 refine rd 2 rfl (fun K hK=>?_)
 go_simp
 go_at_call 12
 refine hk.mono ?_
 rintro r we ⟨p,rfl,h6⟩;clear hk;have h7:=h6.f2;have cg:=h7.cell;have hk:=hnw (ptr p) w we _ (h6.dv_some rfl);go_simp
 refine hK.out _ _ ⟨(cg 0).trans rfl,(cg 1).trans rfl,(cg 2).trans rfl,(cg 3).trans rfl,(cg 4).trans rfl,(cg 5).trans rfl⟩ (fun hHeld=>?_)
 clear hK K;try simp only[Act.put,sl]
 clear cg h6 h7;refine rd 3 rfl (fun K hK=>?_)
 go_simp
 go_at_call 11
 refine hk.mono ?_
 rintro r wf ⟨t,rfl,h6⟩;clear hk hnw;have cg:=h6.f2.cell;go_simp
 refine hK.out _ _ ⟨(cg 0).trans rfl,(cg 1).trans rfl,(cg 2).trans rfl,(cg 3).trans rfl,(cg 4).trans rfl,(cg 5).trans rfl⟩ (fun hHeld=>?_)
 clear hK K;try simp only[Act.put,sl]
 refine tk 4 ?_ rfl (fun w hSw=>?_) ?_
 rotate_left 1
 ·try dsimp only at hSw
  go_simp
  try with_reducible rfl
 try simp only[Act.put,sl]
 refine tk 5 ?_ rfl (fun w hSw=>?_) ?_
 rotate_left 1
 ·try dsimp only at hSw
  go_simp
  try with_reducible rfl
 try simp only[Act.put,sl]
 refine tk 6 ?_ rfl (fun w hSw=>?_) ?_
 rotate_left 1
 ·try dsimp only at hSw
  go_simp
  try with_reducible rfl
 try simp only[Act.put,sl]
 refine tk 7 ?_ rfl (fun w hSw=>?_) ?_
 rotate_left 1
 ·try dsimp only at hSw
  go_simp
  try with_reducible rfl
 try simp only[Act.put,sl]
 refine tk 8 ?_ rfl (fun w hSw=>?_) ?_
 rotate_left 1
 ·try dsimp only at hSw
  go_simp
  try with_reducible rfl
 try simp only[Act.put,sl]
 refine wpAnyH_done (by kernel_rfl) ?_ _
 clear hHeld cg;have hk:=hask t w wf _ (fun w' h=>hO w' h.drop.drop.drop) (fun w' h=>hO2 w' h.drop.drop.drop) (fun w' h=>hO3 w' h.drop.drop.drop) h6;obtain⟨nt,hnt⟩:∃ n,X1.told.length=n:=⟨_,rfl⟩;clear h6 hask;go_upto_region 4 with (go_at_call 17;refine hk.mono ?_;rintro r wg ⟨sv,tv,rfl,h8⟩;obtain⟨sa,sc,ta,tc,rfl,rfl⟩:=h8.res_shape hs1 hnt)
 clear hk hs1 hnt;have h9:=((h8.drop.drop).alloc (.cells #[.slice sa 1 sc,.slice ta nt tc] TRes)).f2;clear h8;generalize wg.alloc _=wi at *;generalize wg.heap.size=gy at *;have hk:=tt_wakes w wi _ (fun w' h=>hO w' h.drop.drop.drop.drop.drop) (fun w' h=>hO2 w' h.drop.drop.drop.drop.drop) (fun w' h=>hO3 w' h.drop.drop.drop.drop.drop) h9;go_wp2_with fail
 refine hk.mono ?_
 rintro r wj ⟨rfl,h10⟩;clear hk h9;have d:=h10.f2.cell;have HI0:=Lib.hid hi0;have HH:=Lib.hid h10;clear hi0 h10;go_wp2;go_loopw [11,12,43] (fun s11 s12 s43 wr=>∃ (i:Nat) (x:Tt) (n m:Nat) (sa ta:Option Addr) (sc tc:Nat),i<M/\s43=.int .i64 i/\s11=.int .i64 ((i:Int)+1)/\s12=.int .i64 ((i:Int)*g5)/\Hid (FailI ⟨g1,g2,g3,g4,g5,g6⟩ g5 M i x)/\Hid (St w wr (TtOff t x*(blk gy (.cells #[.slice sa n sc,.slice ta m tc] TRes (0,0))*(blk gh (.cells #[.int .i64 g1,.int .i64 g2,.int .i64 g3,.int .i64 g4,.int .i64 g5,.int .i64 g6] TCf (0,0))*(blk (gh+1) (.cells #[.int .i64 g1,.int .i64 g2,.int .i64 g3,.int .i64 g4,.int .i64 g5,.int .i64 g6] 27 (0,0))*(blk ga (.cells #[.int .i64 c1,.int .i64 c2,.int .i64 g3,.int .i64 c4,.int .i64 c5,.int .i64 c6] 23 (0,0))*Old w))))))) (fun _ _ s43 _=>33 - (intOf s43).toNat)
 case atStart=>exact⟨0,X1,1,nt,sa,ta,sc,tc,by omega,rfl,rfl,by simp,HI0,HH⟩
 case round =>
  clear HH HI0 d;obtain⟨i,x,n,m,sa,ta,sc,tc,hi,rfl,rfl,rfl,HI,H⟩:=hrel;have hT:1<=g5/\g5<=100:=HM.out.2;obtain⟨nv,hnv⟩:∃ nv:Int,(i:Int)*g5=nv:=⟨_,rfl⟩;have hnv2:((i:Int)+1)*g5=nv+g5:=by rw[Int.add_mul,hnv,Int.one_mul]
  have n0:0<=nv:=by rw[← hnv];exact Int.mul_nonneg (by omega) (by omega)
  have n1:nv<=3200:=by rw[← hnv];exact Int.le_trans (Int.mul_le_mul (show (i:Int)<=32 by omega) hT.2 (by omega) (by omega)) (by decide)
  rw[hnv];have ew:IntKind.i64.wrap (nv+g5)=nv+g5:=by rw[IntKind.wrap_i64];omega
  have hil:(i:Int)<33:=by omega
  have d:=H.out.f3.cell;have fi:=HI.out.fit;have hk:=t_tick t x (((i:Int)+1)*g5) fi w wr _ (fun w' h=>hO w' h.drop.drop.drop.drop) (fun w' h=>hO2 w' h.drop.drop.drop.drop) (fun w' h=>hO3 w' h.drop.drop.drop.drop) H.out;have fy:=fit_tick fi (((i:Int)+1)*g5);by_cases hl:i+1=M
  ·obtain⟨q1,q2,q3,q4,q5⟩:=fail_last HI.out hl hT.1 (by omega)
   rw[hnv2] at hk q1 q2 q3 q4 q5 fy;rw[q1] at hk;generalize (x.tick (nv+g5)).1=Y at *;have l1:Y.sent.length=0:=by rw[q2];rfl
   have l2:Y.told.length=1:=by rw[q3];rfl
   have gy0:=H.out.f2.free;have eq1:(((i:Int)+1) == max 1 (min g3 32))=true:=by rw[HM.out.1];simp;omega
   have ew2:IntKind.i64.wrap ((i:Int)+1+0)=(i:Int)+1:=by rw[IntKind.wrap_i64];omega
   clear H HI hnv hnv2 fi q1 q2;go_upto_region 11 with (go_at_call 27;refine hk.mono ?_;rintro r wb ⟨sv,tv,rfl,h5⟩;obtain⟨sb,sd,tb,td,rfl,rfl⟩:=h5.res_shape l1 l2;have cy:=h5.f4.cell;have fy2:=h5.f4.free)
   clear hk l1 l2;have hz:=h5.eq (show _=LAt TTold 2 tolC (.slice tb 1 td) Y.told*(blk gy (.cells #[.slice sa n sc,.slice ta m tc] TRes (0,0))*(LAt 9 1 encS (.slice sb 0 sd) Y.sent*(TtOff t Y*(blk gh (.cells #[.int .i64 g1,.int .i64 g2,.int .i64 g3,.int .i64 g4,.int .i64 g5,.int .i64 g6] TCf (0,0))*(blk (gh+1) (.cells #[.int .i64 g1,.int .i64 g2,.int .i64 g3,.int .i64 g4,.int .i64 g5,.int .i64 g6] 27 (0,0))*(blk ga (.cells #[.int .i64 c1,.int .i64 c2,.int .i64 g3,.int .i64 c4,.int .i64 c5,.int .i64 c6] 23 (0,0))*Old w)))))) by ac_rfl);have hy:=(hz.f2.set 0 (.slice sb 0 sd)).set 1 (.slice tb 1 td);generalize (wb.setCell _ _).setCell _ _=wc at *;rcases hy.f2.l_cells tyTold.len with ⟨h0,_⟩ | ⟨g7,o7,c7,hv,_,_,hcell⟩
   ·rw[q3] at h0;cases h0
   simp only[Value.slice.injEq] at hv;obtain⟨rfl,hq,rfl⟩:=hv;clear hq;have z0:wc.cell? ⟨g7,o7,none⟩=some (.int .i64 3):=by
    have:=hcell 0 (3,noStr) (by rw[q3];rfl) 0 _ rfl
    simpa using this
   have dy:=hy.cell;have d:=hy.drop.drop.drop.drop.drop.drop.cell;have ht:=hy.f4;have e1:=env_state Y.e;have e2:=usv_asking Y.u.v;rw[q4] at e1;rw[q5] at e2;have hv:=t_link t Y fy.e.ok.b.fl w wc _ ht;clear hcell q3 q4 q5 h5 hz cy fy2;generalize Y.e.view=V at *;go_wp2_with fail
   refine hv.mono ?_
   rintro r wd ⟨rfl,ha⟩;have hu:=t_user t Y w wd _ ha;generalize Y.u.v.cells.toArray=Vu at *;clear hv ht;go_wp2_with fail
   refine hu.mono ?_
   rintro r we ⟨rfl,hb⟩;clear hu ha;go_wp2;go_ret
   exact⟨rfl,hb.drop.drop.drop.drop.drop.drop.drop.old0⟩
  ·obtain⟨q1,q2,q3,q4⟩:=fail_next HI.out (by omega) hT.1 (by omega) rfl
   rw[hnv2] at hk q1 q2 q3 q4 fy;rw[q1] at hk;generalize (x.tick (nv+g5)).1=Y at *;have l2:Y.told.length=0:=by rw[q3];rfl
   have gy0:=H.out.f2.free;have ew2:IntKind.i64.wrap ((i:Int)+1+1)=(i:Int)+1+1:=by rw[IntKind.wrap_i64];omega
   have HY:=Lib.hid q4;have HV:=Lib.hid hnv2;clear H HI hnv hnv2 fi q1 q3 q4 fy;go_upto_region 11 with (go_at_call 27;refine hk.mono ?_;rintro r wb ⟨sv,tv,rfl,h5⟩;obtain⟨sb,sd,tb,td,rfl,rfl⟩:=h5.res_shape q2 l2;have cy:=h5.f4.cell;have fy2:=h5.f4.free)
   clear hk q2 l2;have hy:=((h5.drop.drop.f2.set 0 (.slice sb 1 sd)).set 1 (.slice tb 0 td)).f2;generalize (wb.setCell _ _).setCell _ _=wc at *;have dy:=hy.f2.cell;have HH:=Lib.hid hy;clear h5 cy fy2 hy d gy0;go_wp2;go_roundw
   case rel =>
    refine⟨i+1,Y,1,0,sb,tb,sd,td,by omega,by go_num,by go_num,?_,HY,HH⟩
    show Value.int .i64 (nv+g5)=Value.int .i64 (((i+1:Nat):Int)*g5)
    rw[← HV.out];rfl
   case measure=>simp[intOf];omega
theorem TerminalTime.walk (a0:Array Value) (a1:Option Addr) (len1 cap1:Nat) (a2:Int) (w:World) (hN:NamesAt w) (hF:FirstAt w) (hL:LinkAt w) (w0:Sh.ok w cfSh a0.toList) (w1:(Sh.slice atSh).ok w [.slice a1 len1 cap1]) (_w2:(Lit.int .i64 a2).wf=true) :
  Calls Tryz.prog 9 #[.agg a0,.slice a1 len1 cap1,.int .i64 a2] w fun e w'=>e=.returned (.bool true)/\Below w.heap.size w w':=by
 obtain⟨l1,l2,l3⟩:=at_script w1;unfold maxLen at l2;have L3:=Lib.hid l3;clear l3 w1;obtain⟨c,ha,_⟩:=cf_of w0;obtain rfl:a0=c.cells.toArray:=by rw[← ha]
 have hO:∀ w',St w w' (Old w)->NamesAt w':=fun w' h=>hN.old h.old0 hN.pos
 have hO2:∀ w',St w w' (Old w)->FirstAt w':=fun w' h=>hF.old h.old0 hF.pos
 have hO3:∀ w',St w w' (Old w)->LinkAt w':=fun w' h=>hL.old h.old0 hL.pos
 have h2:=((St.start w).alloc (.cells c.cells.toArray 23));clear w0 ha hN hF hL;have hg:=fun w0 w R h=>l_good c w0 w R h
 obtain⟨hr,hr2,hr3⟩:=goodC_range c;have hgg:=goodC_good c;generalize goodC c=g at *;have hnw:=fun v w0 w R h=>t_new g v ⟨false,[],5⟩ hgg w0 w R h
 have hrw:=fun q w0 w R h=>rt_new g q ⟨false,[],5⟩ ⟨rfl,rfl⟩ w0 w R h
 have hX0:=Lib.hid (And.intro (well_new g ⟨false,[],5⟩) (And.intro (trivial) (And.intro hr (And.intro hr2 hr3))));generalize newTt g ⟨false,[],5⟩=x0 at *;obtain⟨c1,c2,c3,c4,c5,c6⟩:=c;obtain⟨g0,hg0⟩:∃ g0,g0=g:=⟨_,rfl⟩;obtain⟨g1,g2,g3,g4,g5,g6⟩:=g;rw[← hg0] at hX0;have HG0:=Lib.hid hg0;clear hg0;simp only[Tcf.cells] at *;clear hgg hr hr2 hr3;have d:=h2.cell;go_enter Tryz.func9,Tryz.ntmps9
 go_upto_region 1 with fail
 generalize w.alloc _=wa at *;generalize hga:w.heap.size=ga at *;have HGA:=Lib.hid hga;clear hga;have hk:=hg w wa _ h2;go_upto_region 2 with (go_at_call 10;refine hk.mono ?_;rintro r wb ⟨rfl,h3⟩)
 have h4:=(h3.alloc (.cells #[.int .i64 g1,.int .i64 g2,.int .i64 g3,.int .i64 g4,.int .i64 g5,.int .i64 g6] TCf)).alloc (.cells #[.int .i64 g1,.int .i64 g2,.int .i64 g3,.int .i64 g4,.int .i64 g5,.int .i64 g6] 27);clear hk hg d h2 h3;go_upto_region 2 with fail
 simp only[World.size_alloc] at *;generalize (wb.alloc _).alloc _=wc at *;generalize wb.heap.size=gh at *;have h5:=h4.f2.drew;have e0:wc.drew.cell? ⟨gh,0,none⟩=some (.int .i64 g1):=(h5.cell 0).trans rfl;have e1:wc.drew.cell? ⟨gh,1,none⟩=some (.int .i64 g2):=(h5.cell 1).trans rfl;have e2:wc.drew.cell? ⟨gh,2,none⟩=some (.int .i64 g3):=(h5.cell 2).trans rfl;have e3:wc.drew.cell? ⟨gh,3,none⟩=some (.int .i64 g4):=(h5.cell 3).trans rfl;have e4:wc.drew.cell? ⟨gh,4,none⟩=some (.int .i64 g5):=(h5.cell 4).trans rfl;have e5:wc.drew.cell? ⟨gh,5,none⟩=some (.int .i64 g6):=(h5.cell 5).trans rfl;have hk:=dr_new0 5 w wc.drew _ h5;refine wp_region_held_drew (S:=fun wx=>wx.cell? ⟨gh,0,none⟩=some (.int .i64 g1)/\wx.cell? ⟨gh,1,none⟩=some (.int .i64 g2)/\wx.cell? ⟨gh,2,none⟩=some (.int .i64 g3)/\wx.cell? ⟨gh,3,none⟩=some (.int .i64 g4)/\wx.cell? ⟨gh,4,none⟩=some (.int .i64 g5)/\wx.cell? ⟨gh,5,none⟩=some (.int .i64 g6)) (by kernel_rfl) ⟨e0,e1,e2,e3,e4,e5⟩ (fun hHeld=>?_)
 clear e0 e1 e2 e3 e4 e5 h4 h5;generalize wc.drew=wd at *;refine tk 0 ?_ rfl (fun w hSw=>?_) ?_
 rotate_left 1
 ·try dsimp only at hSw
  go_simp
  try with_reducible rfl
 try simp only[Act.put,sl]
 refine rd 1 rfl (fun K hK=>?_)
 go_simp
 go_at_call 12
 refine hk.mono ?_
 rintro r we ⟨p,rfl,h6⟩;clear hk;have h7:=h6.f2;have cg:=h7.cell;have hk:=hnw (ptr p) w we _ (h6.dv_some rfl);go_simp
 refine hK.out _ _ ⟨(cg 0).trans rfl,(cg 1).trans rfl,(cg 2).trans rfl,(cg 3).trans rfl,(cg 4).trans rfl,(cg 5).trans rfl⟩ (fun hHeld=>?_)
 clear hK K;try simp only[Act.put,sl]
 clear cg h6 h7;refine rd 2 rfl (fun K hK=>?_)
 go_simp
 go_at_call 11
 refine hk.mono ?_
 rintro r wf ⟨t,rfl,h6⟩;clear hk hnw;have cg:=h6.f2.cell;go_simp
 refine hK.out _ _ ⟨(cg 0).trans rfl,(cg 1).trans rfl,(cg 2).trans rfl,(cg 3).trans rfl,(cg 4).trans rfl,(cg 5).trans rfl⟩ (fun hHeld=>?_)
 clear hK K;try simp only[Act.put,sl]
 refine tk 3 ?_ rfl (fun w hSw=>?_) ?_
 rotate_left 1
 ·try dsimp only at hSw
  go_simp
  try with_reducible rfl
 try simp only[Act.put,sl]
 refine tk 4 ?_ rfl (fun w hSw=>?_) ?_
 rotate_left 1
 ·try dsimp only at hSw
  go_simp
  try with_reducible rfl
 try simp only[Act.put,sl]
 refine tk 5 ?_ rfl (fun w hSw=>?_) ?_
 rotate_left 1
 ·try dsimp only at hSw
  go_simp
  try with_reducible rfl
 try simp only[Act.put,sl]
 refine tk 6 ?_ rfl (fun w hSw=>?_) ?_
 rotate_left 1
 ·try dsimp only at hSw
  go_simp
  try with_reducible rfl
 try simp only[Act.put,sl]
 refine tk 7 ?_ rfl (fun w hSw=>?_) ?_
 rotate_left 1
 ·try dsimp only at hSw
  go_simp
  try with_reducible rfl
 try simp only[Act.put,sl]
 refine wpAnyH_done (by kernel_rfl) ?_ _
 clear hHeld cg;go_upto_region 3 with fail
 have h5:=(h6.eq (show _=blk (gh+1) (.cells #[.int .i64 g1,.int .i64 g2,.int .i64 g3,.int .i64 g4,.int .i64 g5,.int .i64 g6] 27 (0,0))*(TtOff t x0*(blk gh (.cells #[.int .i64 g1,.int .i64 g2,.int .i64 g3,.int .i64 g4,.int .i64 g5,.int .i64 g6] TCf (0,0))*(blk ga (.cells #[.int .i64 c1,.int .i64 c2,.int .i64 c3,.int .i64 c4,.int .i64 c5,.int .i64 c6] 23 (0,0))*Old w))) by ac_rfl)).drew;clear h6;have e0:wf.drew.cell? ⟨gh+1,0,none⟩=some (.int .i64 g1):=(h5.cell 0).trans rfl;have e1:wf.drew.cell? ⟨gh+1,1,none⟩=some (.int .i64 g2):=(h5.cell 1).trans rfl;have e2:wf.drew.cell? ⟨gh+1,2,none⟩=some (.int .i64 g3):=(h5.cell 2).trans rfl;have e3:wf.drew.cell? ⟨gh+1,3,none⟩=some (.int .i64 g4):=(h5.cell 3).trans rfl;have e4:wf.drew.cell? ⟨gh+1,4,none⟩=some (.int .i64 g5):=(h5.cell 4).trans rfl;have e5:wf.drew.cell? ⟨gh+1,5,none⟩=some (.int .i64 g6):=(h5.cell 5).trans rfl;refine wp_region_held_drew (S:=fun wx=>wx.cell? ⟨gh+1,0,none⟩=some (.int .i64 g1)/\wx.cell? ⟨gh+1,1,none⟩=some (.int .i64 g2)/\wx.cell? ⟨gh+1,2,none⟩=some (.int .i64 g3)/\wx.cell? ⟨gh+1,3,none⟩=some (.int .i64 g4)/\wx.cell? ⟨gh+1,4,none⟩=some (.int .i64 g5)/\wx.cell? ⟨gh+1,5,none⟩=some (.int .i64 g6)) (by kernel_rfl) ⟨e0,e1,e2,e3,e4,e5⟩ (fun hHeld=>?_)
 clear e0 e1 e2 e3 e4 e5;generalize wf.drew=wd2 at *;have hk:=rd_new0 5 w wd2 _ h5;refine tk 0 ?_ rfl (fun w hSw=>?_) ?_
 rotate_left 1
 ·try dsimp only at hSw
  go_simp
  try with_reducible rfl
 try simp only[Act.put,sl]
 refine rd 1 rfl (fun K hK=>?_)
 go_simp
 go_at_call 14
 refine hk.mono ?_
 rintro r we2 ⟨p2,rfl,h6⟩;clear hk h5;have cg:=h6.f2.cell;have hk:=hrw p2 w we2 _ h6;go_simp
 refine hK.out _ _ ⟨(cg 0).trans rfl,(cg 1).trans rfl,(cg 2).trans rfl,(cg 3).trans rfl,(cg 4).trans rfl,(cg 5).trans rfl⟩ (fun hHeld=>?_)
 clear hK K;try simp only[Act.put,sl]
 clear cg h6;refine rd 2 rfl (fun K hK=>?_)
 go_simp
 go_at_call 13
 refine hk.mono ?_
 rintro r wh ⟨r0,rfl,h6⟩;clear hk hrw;have cg:=h6.f2.cell;go_simp
 refine hK.out _ _ ⟨(cg 0).trans rfl,(cg 1).trans rfl,(cg 2).trans rfl,(cg 3).trans rfl,(cg 4).trans rfl,(cg 5).trans rfl⟩ (fun hHeld=>?_)
 clear hK K;try simp only[Act.put,sl]
 refine tk 3 ?_ rfl (fun w hSw=>?_) ?_
 rotate_left 1
 ·try dsimp only at hSw
  go_simp
  try with_reducible rfl
 try simp only[Act.put,sl]
 refine wpAnyH_done (by kernel_rfl) ?_ _
 clear hHeld cg;have h7:=h6.f2.drop.f3.drop.f3.drop;clear h6;have hk:=tt_wakes w wh _ (fun w' h=>hO w' h.drop.drop) (fun w' h=>hO2 w' h.drop.drop) (fun w' h=>hO3 w' h.drop.drop) h7;go_upto_region 6 with (go_at_call 15;refine hk.mono ?_;rintro r wj ⟨rfl,h8⟩)
 clear hk h7;have H:St w wj (TtOff t x0*(RtOff 0 r0 x0*Old w)):=by first | exact h8 | exact h8.f2
 clear h8;go_cut [42,43,44] (fun s42 s43 s44 wx=>∃ m:Nat,m<=len1/\m<=40/\s42=.slice a1 m cap1/\s43=.int .i64 m/\s44=.int .i64 0/\wj=wx)
 case first =>
  go_wp2;all_goals (go_meet;first | exact⟨len1,Nat.le_refl _,by omega,rfl,rfl,rfl,rfl⟩ | exact⟨40,by omega,by omega,rfl,rfl,rfl,rfl⟩ | (refine⟨(min (len1:Int) 40).toNat,by omega,by omega,?_,?_,rfl,rfl⟩ <;> (first | rfl | (congr 1;omega))))
 case rest =>
  obtain⟨m,hm,hm40,rfl,rfl,rfl,rfl⟩:=hcut;have HW:=Lib.hid hX0.out.1;have HI:=Lib.hid H;have HP:=Lib.hid hX0.out.2.2;clear H hX0;go_wp2;go_loopw [44] (fun s44 wr=>∃ (k:Nat) (x:Tt),k<=m/\s44=.int .i64 k/\Hid (x.Well g0 (100000*k))/\Hid (St w wr (TtOff t x*(RtOff (100000*k) r0 x*Old w)))) (fun s44 _=>m - (intOf s44).toNat)
  case atStart=>exact⟨0,x0,by omega,rfl,HW,HI⟩
  case round =>
   clear HW HI;obtain⟨k,x,hk,rfl,HG,H⟩:=hrel;by_cases hlt:k<m
   ·have hlti:(k:Int)<(m:Int):=by omega
    obtain⟨b,off,rfl,hb,hi⟩:=L3.out (by omega);obtain⟨y,yok,hy⟩:=hi k (by omega);have hbel:=(H.out.drop.drop).old0;have hfr:=frs_of yok;have hc:=fun j (hj:j<13)=>(hbel.cell (p:=⟨b,off+k*13+j,none⟩) (by have:=HGA.out;show b<w.heap.size;omega)).trans (hy j hj)
    clear yok hi hy L3;obtain⟨yDo,yask,ylater,ydata,ym0,ym1,ym2,yown,yfa,yfn,yfc,ynear,yN,yM,yraw⟩:=y;have d0:wr.cell? ⟨b,off+k*13,none⟩=some (Value.int .i64 yDo):=(hc 0 (by decide)).trans (show _=some (Value.int .i64 yDo) from rfl);have d1:=(hc 1 (by decide)).trans (show _=some (Value.int .i64 yask) from rfl);have d2:=(hc 2 (by decide)).trans (show _=some (Value.int .i64 ylater) from rfl);have d3:=(hc 3 (by decide)).trans (show _=some (Value.string ydata) from rfl);have d4:=(hc 4 (by decide)).trans (show _=some (Value.int .i64 ym0) from rfl);have d5:=(hc 5 (by decide)).trans (show _=some (Value.int .i64 ym1) from rfl);have d6:=(hc 6 (by decide)).trans (show _=some (Value.int .i64 ym2) from rfl);have d7:=(hc 7 (by decide)).trans (show _=some (Value.bool yown) from rfl);have d8:=(hc 8 (by decide)).trans (show _=some (Value.slice yfa yfn yfc) from rfl);have d9:=(hc 9 (by decide)).trans (show _=some (Value.bool ynear) from rfl);have d10:=(hc 10 (by decide)).trans (show _=some (Value.int .i64 yN) from rfl);have d11:=(hc 11 (by decide)).trans (show _=some (Value.int .i64 yM) from rfl);have d12:=(hc 12 (by decide)).trans (show _=some (Value.string yraw) from rfl);have hfs:=fun w' (h:St w w' (Old w))=>hfr.old h.old0
    have HFS:=Lib.hid hfs;clear hc hbel hfr hfs;have ew:IntKind.i64.wrap ((k:Int)*5)=(k:Int)*5:=by rw[IntKind.wrap_i64];omega
    have H5:=(H.out.alloc (.cells (AcT.cells ⟨yDo,yask,ylater,ydata,ym0,ym1,ym2,yown,yfa,yfn,yfc,ynear,yN,yM,yraw⟩).toArray TAct)).eq (show _=TtOff t x*(RtOff (100000*k) r0 x*(blk wr.heap.size (.cells (AcT.cells ⟨yDo,yask,ylater,ydata,ym0,ym1,ym2,yown,yfa,yfn,yfc,ynear,yN,yM,yraw⟩).toArray TAct (0,0))*Old w)) by ac_rfl);go_upto_region 9 with fail
    generalize wr.alloc _=wa at *;generalize wr.heap.size=gq at *;clear d0 d1 d2 d3 d4 d5 d6 d7 d8 d9 d10 d11 d12 H;have hk:=l_act g0 (100000*k) t r0 w.heap.size (100000*k) x ((k:Int)*5) ⟨yDo,yask,ylater,ydata,ym0,ym1,ym2,yown,yfa,yfn,yfc,ynear,yN,yM,yraw⟩ HG.out (by omega) (by omega) w wa _ (fun w' h=>hO w' h.drop) (fun w' h=>hO2 w' h.drop) (fun w' h=>hO3 w' h.drop) (fun w' h=>HFS.out w' h.drop) H5;have d0:=H5.f3.cell;clear H5 HG;go_wp2_with fail
    refine hk.mono ?_
    rintro q wb ⟨rfl,X,hX,h6⟩;have ek:100000*k+100000=100000*(k+1):=by omega
    rw[ek] at hX h6;have HX:=Lib.hid hX;have HH:=Lib.hid h6.f3.drop;clear hk hX h6 ek d0;go_wp2;go_roundw
    case rel=>exact⟨k+1,X,by omega,by go_num,HX,HH⟩
    case measure=>simp[intOf];omega
   ·obtain rfl:k=m:=by omega
    obtain⟨nv,hnv⟩:∃ nv:Int,(max 0 a2) % 1099511627776=nv:=⟨_,rfl⟩;have e40:=i64_and40 (max 0 a2);rw[hnv] at e40;have hn0:0<=nv/\nv<1099511627776:=by omega
    have hb:badNow nv=false:=badNow_f hn0.1 (by omega);have hw:=HG.out;have hp:=HP.out;obtain⟨q2,q3⟩:=tick_late x nv hb (by rw[hw.cf];exact⟨hp.1.1,hp.2.1.1,hp.2.2.1⟩);have hk:=t_tick t x nv hw.fit w wr _ (fun w' h=>hO w' h.drop) (fun w' h=>hO2 w' h.drop) (fun w' h=>hO3 w' h.drop) H.out;rw[q2] at hk;generalize (x.tick nv).1=X at *;have Q3:=Lib.hid q3;clear hnv hn0 hb hw hp q2 q3 HG H;go_upto_region 13 with (go_at_call 27;refine hk.mono ?_;clear hk;rintro q1 w2 ⟨sv,tv,rfl,h2⟩;obtain⟨sa,sc,rfl,_,_⟩:=h2.l_shape;obtain⟨ta,tc,rfl,_,_⟩:=h2.f2.l_shape)
    have h3:=(h2.drop.drop.alloc (.cells #[.slice sa X.sent.length sc,.slice ta X.told.length tc] TRes)).drop;clear h2;generalize w2.alloc _=w3 at *;have hk:=t_next t X w w3 _ h3;clear h3;go_upto_region 16 with (go_at_call 32;refine hk.mono ?_;clear hk;rintro q4 w4 ⟨f,b,hnx,rfl,h4⟩)
    have hE:=Lib.hid h4.drop.drop.old0;rcases next_late Q3.out hnx with rfl | ⟨rfl,hf⟩
    ·clear h4 hnx
     go_wp2;go_ret
     exact⟨rfl,hE.out⟩
    ·have bf:decide (nv<f)=true:=by simpa using hf
     clear h4 hnx hf;go_wp2;go_ret
     exact⟨rfl,hE.out⟩
end Go.Proofs.YtnnahljdhdippaaGreatDoor
