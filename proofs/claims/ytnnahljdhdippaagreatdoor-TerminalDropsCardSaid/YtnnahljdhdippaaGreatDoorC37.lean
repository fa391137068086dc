/- Parts of a proof (RefS, RefTick, RefT, CheckP, FailP, GoodC). No condition. -/
import Derived.Test.YtnnahljdhdippaaGreatDoorC36
import Derived.Test.YtnnahljdhdippaaGreatDoorC22
import Derived.Test.YtnnahljdhdippaaGreatDoorC23
namespace Go.Proofs.YtnnahljdhdippaaGreatDoor
set_option maxRecDepth 100000
set_option maxHeartbeats 6400000
open Go.RowKit
theorem drop_err (x:Us) (h:x.drop.2.2≠0):x.drop.2.1=[]:=by
 unfold Us.drop at h ⊢;split
 ·rename_i h1
  rw[if_pos h1] at h;exact absurd rfl h
 ·rename_i h1
  rw[if_neg h1] at h;split
  ·rfl
  ·rename_i h2
   rw[if_neg h2] at h;exact absurd rfl h
theorem rt_drop (N t:Nat) (x:Tt) (now:Int) (hfit:x.Fit) (htidy:x.u.Tidy) (w0 w:World) (R:HP) (h:St w0 w (RtOff N t x*R)) :
  Calls Tryz.prog 71 #[ptr t,.int .i64 now] w fun r w'=>r=.returned (.int .i64 (x.drop now).2)/\St w0 w' (RtOff N t (x.drop now).1*R):=by
 obtain⟨e,u,c,p,ov,ou,lo,lu,h1⟩:=h.rtoff_open;unfold Tt.drop;by_cases hb:badNow now=true
 ·rw[if_pos hb]
  have hc:=rt_begin_bad N t e u c p ov ou x now hb w0 w _ h1.f3;clear h h1 hb hfit htidy;go_enter Tryz.func71,Tryz.ntmps71
  go_wp2_with fail
  refine hc.mono ?_
  rintro q w1 ⟨rfl,h2⟩;have h3:St w0 w1 (RtOff N t x.hush*R):=(h2.eq (show _=LAt TRx 11 Fx.cells ov lo*(LAt TRue 5 Ue.cells ou lu*(RtAt N t e u c p ov ou x.hush*R)) by ac_rfl)).rtoff_shut;clear hc h2;go_wp2;go_ret
  exact⟨rfl,h3⟩
 ·rw[if_neg hb]
  have hb:badNow now=false:=by simpa using hb
  have hc:=rt_begin N t e u c p ov ou x now hb w0 w _ h1.f3;have hft:(x.begin now).Fit:=⟨hfit.e,hfit.u,hfit.d,hfit.k⟩;have htb:(x.begin now).u.Tidy:=htidy;have hlen:(x.begin now).len=0:=rfl;rw[show x.u=(x.begin now).u from rfl];clear hb h h1 hfit htidy;generalize x.begin now=X at *;dsimp only;have hd:=fun w R h=>ru_drop u X.u lu htb w0 w R h
  have hdo:=us_drop hft.u;have hdl:=us_drop_len X.u;have hde:=drop_err X.u;have hdt:=tidy_drop htb;generalize X.u.drop=A at *;obtain⟨A1,A2,A3⟩:=A;simp only[] at *;have hfu:=fit_setU hft hdo.1;obtain⟨hfy,hly⟩:=fit_users A2 hfu;have hyu:((X.setU A1).users A2).u.Tidy:=by rw[users_u];exact hdt
  have hlen2:(X.setU A1).len=0:=hlen;obtain⟨Y,hY⟩:∃ Y,(X.setU A1).users A2=Y:=⟨_,rfl⟩;rw[hY] at hfy hly hyu ⊢;have HY:=Lib.hid hY;obtain⟨fa,fb⟩:=fit_remove hfy.e;have ln:=remove_len Y.e (out0 hfy.e);have er:=remove_err Y.e;have hfz:=(fit_links (fit_setE hfy fa) (.inl fb) ln).1;have hrs:Y.e.state=1->(Y.setE Y.e.remove.1).links Y.e.remove.2.1=Y:=fun e=>by unfold En.remove;rw[if_pos e];rfl
  obtain⟨Z,hZ⟩:∃ Z,(Y.setE Y.e.remove.1).links Y.e.remove.2.1=Z:=⟨_,rfl⟩;rw[hZ] at hfz hrs ⊢;have HZF:=Lib.hid hfz;have HRS:=Lib.hid hrs;have HA:=Lib.hid (And.intro hdo (And.intro hdl (And.intro hde (And.intro hfu hlen2))));have hly2:Y.len<=1000000:=by omega
  have hr:=fun lo w R h=>n_remove e (Y.e.setOut lo) hfy.e.ok.b.fl w0 w R h
  have hso:∀ l,(Y.e.setOut l).setOut []=Y.e:=fun l=>En.setOut_nil hfy.e.out
  simp only[hso] at hr;have HB:=Lib.hid (And.intro hfy (And.intro hyu (And.intro hly2 (And.intro fb (And.intro ln (fit_setE hfy fa))))));have HZ:=Lib.hid hZ;obtain⟨s0,hs0⟩:∃ s0,Y.e.state=s0:=⟨_,rfl⟩;have HS0:=Lib.hid hs0;clear hft htb hlen hdo hdl hde hdt hfu hfy hly hyu hlen2 hY fa fb ln er hfz hrs hZ hly2 hso hs0;go_enter Tryz.func71,Tryz.ntmps71
  go_wp2_with fail
  refine hc.mono ?_
  rintro q w1 ⟨rfl,h2⟩;clear hc;obtain⟨R',e7,hU,back⟩:=(h2.eq (show _=LAt TRue 5 Ue.cells ou lu*(RtAt N t e u c p ov ou X*(LAt TRx 11 Fx.cells ov lo*R)) by ac_rfl)).rt_u;clear h2;go_wp2_with fail
  refine (hd _ _ hU).mono ?_
  rintro q w5 ⟨rfl,h5⟩;clear e7 hU hd;obtain⟨e7,ou2,e6,h6⟩:=back _ _ _ h5;clear h5 back;by_cases a0:A3=0
  ·have b0:(A3 == 0)=true:=by simp[a0]
   have hs2:=rt_users N t e u c p ov ou2 (X.setU A1) ou2 A2 lo HA.out.1.2 HA.out.2.2.2.1 (by have:=HA.out.2.1;omega) (by have h1:=HA.out.2.1;have h2:=HA.out.2.2.2.2;omega) w0 w5 _ (h6.eq (show _=LAt TRue 5 Ue.cells ou2 A2*(LAt TRx 11 Fx.cells ov lo*(RtAt N t e u c p ov ou2 (X.setU A1)*R)) by ac_rfl));rw[HY.out] at hs2;clear a0 h6;go_wp2_with fail
   refine hs2.mono ?_
   rintro q w7 ⟨ov3,lo3,rfl,h8⟩;clear hs2 e7 e6;have hst:=h8.f2;obtain⟨R2,g6,hE,back2⟩:=(hst.eq (show _=LAt TRx 11 Fx.cells ov3 lo3*(RtAt N t e u c p ov3 ou2 Y*(LAt TRue 5 Ue.cells ou2 A2*R)) by ac_rfl)).rt_e;have g1:World.cell? _ ⟨e,1,none⟩=some (.int .i64 Y.e.state):=hE.n_c1;rw[HS0.out] at g1;by_cases z1:s0=1
   ·have b1:(s0 != 1)=false:=by simp[z1]
    have hyz:Z=Y:=(HRS.out (HS0.out.trans z1));clear z1 hE back2;subst hyz;obtain⟨sv,tv,L,r,his,h16⟩:=((hst.eq (show _=RtAt N t e u c p ov3 ou2 Z*(LAt TRx 11 Fx.cells ov3 lo3*(LAt TRue 5 Ue.cells ou2 A2*R)) by ac_rfl))).rt_open;have hL9:L.length<=100000:=by have h8:=his.clock.len;have:=keys_len HZF.out.k;omega
    have HIS:=Lib.hid his;have c16:=h16.cell;have hs9:=r_drop c L hL9 0 w0 _ _ (h16.eq (show _=CRef c L*(blk t (.cells (Z.cells e u c p sv tv) TRt (0,0))*(RnB e Z.e ov3*(RuB u Z.u ou2*(RdeAt p r*(LAt 9 1 encS sv Z.sent*(LAt TRtold 2 tolC tv Z.told*(LAt TRx 11 Fx.cells ov3 lo3*(LAt TRue 5 Ue.cells ou2 A2*R)))))))) by ac_rfl));clear his hL9 h16;go_wp2_with fail
    refine hs9.mono ?_
    rintro q w19 ⟨rfl,h19⟩;clear hs9 c16;have h20:=(h19.eq (show _=RdeAt p r*(blk t (.cells (Z.cells e u c p sv tv) TRt (0,0))*(CRef c (dropped L 0)*(RnB e Z.e ov3*(RuB u Z.u ou2*(LAt 9 1 encS sv Z.sent*(LAt TRtold 2 tolC tv Z.told*(LAt TRx 11 Fx.cells ov3 lo3*(LAt TRue 5 Ue.cells ou2 A2*R)))))))) by ac_rfl)).drop;have h21:=h20.alloc (.cells #[.slice none 0 0,.bool false,.int .i64 0] TRdd);have c21:=h21.f2.cell;have f21:=h21.f2.free;have h22:=h21.f2.set 9 (ptrD w19.heap.size);have h23:=((h22.f2.l_nil 5 1 encCh).f2).rd_shut (r:=⟨[],false,0⟩) rfl rfl;have h24:=h23.f2;have h25:St w0 _ (RtAt N t e u c w19.heap.size ov3 ou2 ((Z.setC (dropped Z.c 0)).setD .new)*(LAt TRx 11 Fx.cells ov3 lo3*(LAt TRue 5 Ue.cells ou2 A2*R))):=St.rt_shut (N:=N) (x:=(Z.setC (dropped Z.c 0)).setD .new) (sv:=sv) (tv:=tv) (L:=dropped L 0) (r:=⟨[],false,0⟩) (h24.eq (show _=blk t (.cells ((Z.cells e u c p sv tv).setIfInBounds 9 (ptrD w19.heap.size)) TRt (0,0))*(RnB e Z.e ov3*(RuB u Z.u ou2*(CRef c (dropped L 0)*(RdeAt w19.heap.size ⟨[],false,0⟩*(LAt 9 1 encS sv Z.sent*(LAt TRtold 2 tolC tv Z.told*(LAt TRx 11 Fx.cells ov3 lo3*(LAt TRue 5 Ue.cells ou2 A2*R)))))))) by ac_rfl)) rfl ⟨HIS.out.clock.drop 0,like_new,Nat.zero_le _⟩;have h26:=(h25.eq (show _=LAt TRx 11 Fx.cells ov3 lo3*(LAt TRue 5 Ue.cells ou2 A2*(RtAt N t e u c w19.heap.size ov3 ou2 ((Z.setC (dropped Z.c 0)).setD .new)*R)) by ac_rfl)).rtoff_shut;clear h19 h20 h21 h22 h23 h24 h25;go_wp2;go_ret
    exact⟨rfl,h26⟩
   ·have b1:(s0 != 1)=true:=by simp[z1]
    clear z1;go_wp2_with fail
    refine (hr _ _ _ hE).mono ?_
    rintro q w11 ⟨rfl,h11⟩;clear g6 g1 hE;obtain⟨g6,ov4,g9,h12⟩:=back2 _ _ _ h11;clear h11 back2;have hs3:=rt_links N t e u c p ov4 ou2 (Y.setE Y.e.remove.1) Y.e.remove.2.1 A2 Y.e.tei (.inl HB.out.2.2.2.1) HB.out.1.e.wd.t HB.out.2.2.2.2.2 HB.out.2.1 HB.out.2.2.2.2.1 (by have:=HB.out.2.2.1;show Y.len<=_;omega) w0 w11 _ (h12.eq (show _=LAt TRx 11 Fx.cells ov4 Y.e.remove.2.1*(LAt TRue 5 Ue.cells ou2 A2*(RtAt N t e u c p ov4 ou2 (Y.setE Y.e.remove.1)*R)) by ac_rfl));rw[HZ.out] at hs3;clear h12;go_wp2_with fail
    refine hs3.mono ?_
    rintro q w13 ⟨ov5,lo5,ou5,lu5,rfl,h14⟩;clear hs3 g6 g9;obtain⟨sv,tv,L,r,his,h16⟩:=((h14.eq (show _=RtAt N t e u c p ov5 ou5 Z*(LAt TRx 11 Fx.cells ov5 lo5*(LAt TRue 5 Ue.cells ou5 lu5*R)) by ac_rfl))).rt_open;have hL9:L.length<=100000:=by have h8:=his.clock.len;have:=keys_len HZF.out.k;omega
    have HIS:=Lib.hid his;have c16:=h16.cell;have hs9:=r_drop c L hL9 0 w0 _ _ (h16.eq (show _=CRef c L*(blk t (.cells (Z.cells e u c p sv tv) TRt (0,0))*(RnB e Z.e ov5*(RuB u Z.u ou5*(RdeAt p r*(LAt 9 1 encS sv Z.sent*(LAt TRtold 2 tolC tv Z.told*(LAt TRx 11 Fx.cells ov5 lo5*(LAt TRue 5 Ue.cells ou5 lu5*R)))))))) by ac_rfl));clear his hL9 h16;go_wp2_with fail
    refine hs9.mono ?_
    rintro q w19 ⟨rfl,h19⟩;clear hs9 c16;have h20:=(h19.eq (show _=RdeAt p r*(blk t (.cells (Z.cells e u c p sv tv) TRt (0,0))*(CRef c (dropped L 0)*(RnB e Z.e ov5*(RuB u Z.u ou5*(LAt 9 1 encS sv Z.sent*(LAt TRtold 2 tolC tv Z.told*(LAt TRx 11 Fx.cells ov5 lo5*(LAt TRue 5 Ue.cells ou5 lu5*R)))))))) by ac_rfl)).drop;have h21:=h20.alloc (.cells #[.slice none 0 0,.bool false,.int .i64 0] TRdd);have c21:=h21.f2.cell;have f21:=h21.f2.free;have h22:=h21.f2.set 9 (ptrD w19.heap.size);have h23:=((h22.f2.l_nil 5 1 encCh).f2).rd_shut (r:=⟨[],false,0⟩) rfl rfl;have h24:=h23.f2;have h25:St w0 _ (RtAt N t e u c w19.heap.size ov5 ou5 ((Z.setC (dropped Z.c 0)).setD .new)*(LAt TRx 11 Fx.cells ov5 lo5*(LAt TRue 5 Ue.cells ou5 lu5*R))):=St.rt_shut (N:=N) (x:=(Z.setC (dropped Z.c 0)).setD .new) (sv:=sv) (tv:=tv) (L:=dropped L 0) (r:=⟨[],false,0⟩) (h24.eq (show _=blk t (.cells ((Z.cells e u c p sv tv).setIfInBounds 9 (ptrD w19.heap.size)) TRt (0,0))*(RnB e Z.e ov5*(RuB u Z.u ou5*(CRef c (dropped L 0)*(RdeAt w19.heap.size ⟨[],false,0⟩*(LAt 9 1 encS sv Z.sent*(LAt TRtold 2 tolC tv Z.told*(LAt TRx 11 Fx.cells ov5 lo5*(LAt TRue 5 Ue.cells ou5 lu5*R)))))))) by ac_rfl)) rfl ⟨HIS.out.clock.drop 0,like_new,Nat.zero_le _⟩;have h26:=(h25.eq (show _=LAt TRx 11 Fx.cells ov5 lo5*(LAt TRue 5 Ue.cells ou5 lu5*(RtAt N t e u c w19.heap.size ov5 ou5 ((Z.setC (dropped Z.c 0)).setD .new)*R)) by ac_rfl)).rtoff_shut;clear h19 h20 h21 h22 h23 h24 h25;go_wp2;go_ret
    exact⟨rfl,h26⟩
  ·have b0:(A3 == 0)=false:=by simp[a0]
   have hn2:=HA.out.2.2.1 a0;subst hn2;have hy:X.setU A1=Y:=HY.out;rw[hy] at h6;clear a0 e7 e6 hy;have hst:=(h6.eq (show _=LAt TRx 11 Fx.cells ov lo*(LAt TRue 5 Ue.cells ou2 []*(RtAt N t e u c p ov ou2 Y*R)) by ac_rfl));obtain⟨R2,g6,hE,back2⟩:=(hst.eq (show _=LAt TRx 11 Fx.cells ov lo*(RtAt N t e u c p ov ou2 Y*(LAt TRue 5 Ue.cells ou2 []*R)) by ac_rfl)).rt_e;have g1:World.cell? _ ⟨e,1,none⟩=some (.int .i64 Y.e.state):=hE.n_c1;rw[HS0.out] at g1;by_cases z1:s0=1
   ·have b1:(s0 != 1)=false:=by simp[z1]
    have hyz:Z=Y:=(HRS.out (HS0.out.trans z1));clear z1 hE back2;subst hyz;obtain⟨sv,tv,L,r,his,h16⟩:=((hst.eq (show _=RtAt N t e u c p ov ou2 Z*(LAt TRx 11 Fx.cells ov lo*(LAt TRue 5 Ue.cells ou2 []*R)) by ac_rfl))).rt_open;have hL9:L.length<=100000:=by have h8:=his.clock.len;have:=keys_len HZF.out.k;omega
    have HIS:=Lib.hid his;have c16:=h16.cell;have hs9:=r_drop c L hL9 0 w0 _ _ (h16.eq (show _=CRef c L*(blk t (.cells (Z.cells e u c p sv tv) TRt (0,0))*(RnB e Z.e ov*(RuB u Z.u ou2*(RdeAt p r*(LAt 9 1 encS sv Z.sent*(LAt TRtold 2 tolC tv Z.told*(LAt TRx 11 Fx.cells ov lo*(LAt TRue 5 Ue.cells ou2 []*R)))))))) by ac_rfl));clear his hL9 h16;go_wp2_with fail
    refine hs9.mono ?_
    rintro q w19 ⟨rfl,h19⟩;clear hs9 c16;have h20:=(h19.eq (show _=RdeAt p r*(blk t (.cells (Z.cells e u c p sv tv) TRt (0,0))*(CRef c (dropped L 0)*(RnB e Z.e ov*(RuB u Z.u ou2*(LAt 9 1 encS sv Z.sent*(LAt TRtold 2 tolC tv Z.told*(LAt TRx 11 Fx.cells ov lo*(LAt TRue 5 Ue.cells ou2 []*R)))))))) by ac_rfl)).drop;have h21:=h20.alloc (.cells #[.slice none 0 0,.bool false,.int .i64 0] TRdd);have c21:=h21.f2.cell;have f21:=h21.f2.free;have h22:=h21.f2.set 9 (ptrD w19.heap.size);have h23:=((h22.f2.l_nil 5 1 encCh).f2).rd_shut (r:=⟨[],false,0⟩) rfl rfl;have h24:=h23.f2;have h25:St w0 _ (RtAt N t e u c w19.heap.size ov ou2 ((Z.setC (dropped Z.c 0)).setD .new)*(LAt TRx 11 Fx.cells ov lo*(LAt TRue 5 Ue.cells ou2 []*R))):=St.rt_shut (N:=N) (x:=(Z.setC (dropped Z.c 0)).setD .new) (sv:=sv) (tv:=tv) (L:=dropped L 0) (r:=⟨[],false,0⟩) (h24.eq (show _=blk t (.cells ((Z.cells e u c p sv tv).setIfInBounds 9 (ptrD w19.heap.size)) TRt (0,0))*(RnB e Z.e ov*(RuB u Z.u ou2*(CRef c (dropped L 0)*(RdeAt w19.heap.size ⟨[],false,0⟩*(LAt 9 1 encS sv Z.sent*(LAt TRtold 2 tolC tv Z.told*(LAt TRx 11 Fx.cells ov lo*(LAt TRue 5 Ue.cells ou2 []*R)))))))) by ac_rfl)) rfl ⟨HIS.out.clock.drop 0,like_new,Nat.zero_le _⟩;have h26:=(h25.eq (show _=LAt TRx 11 Fx.cells ov lo*(LAt TRue 5 Ue.cells ou2 []*(RtAt N t e u c w19.heap.size ov ou2 ((Z.setC (dropped Z.c 0)).setD .new)*R)) by ac_rfl)).rtoff_shut;clear h19 h20 h21 h22 h23 h24 h25;go_wp2;go_ret
    exact⟨rfl,h26⟩
   ·have b1:(s0 != 1)=true:=by simp[z1]
    clear z1;go_wp2_with fail
    refine (hr _ _ _ hE).mono ?_
    rintro q w11 ⟨rfl,h11⟩;clear g6 g1 hE;obtain⟨g6,ov4,g9,h12⟩:=back2 _ _ _ h11;clear h11 back2;have hs3:=rt_links N t e u c p ov4 ou2 (Y.setE Y.e.remove.1) Y.e.remove.2.1 [] Y.e.tei (.inl HB.out.2.2.2.1) HB.out.1.e.wd.t HB.out.2.2.2.2.2 HB.out.2.1 HB.out.2.2.2.2.1 (by have:=HB.out.2.2.1;show Y.len<=_;omega) w0 w11 _ (h12.eq (show _=LAt TRx 11 Fx.cells ov4 Y.e.remove.2.1*(LAt TRue 5 Ue.cells ou2 []*(RtAt N t e u c p ov4 ou2 (Y.setE Y.e.remove.1)*R)) by ac_rfl));rw[HZ.out] at hs3;clear h12;go_wp2_with fail
    refine hs3.mono ?_
    rintro q w13 ⟨ov5,lo5,ou5,lu5,rfl,h14⟩;clear hs3 g6 g9;obtain⟨sv,tv,L,r,his,h16⟩:=((h14.eq (show _=RtAt N t e u c p ov5 ou5 Z*(LAt TRx 11 Fx.cells ov5 lo5*(LAt TRue 5 Ue.cells ou5 lu5*R)) by ac_rfl))).rt_open;have hL9:L.length<=100000:=by have h8:=his.clock.len;have:=keys_len HZF.out.k;omega
    have HIS:=Lib.hid his;have c16:=h16.cell;have hs9:=r_drop c L hL9 0 w0 _ _ (h16.eq (show _=CRef c L*(blk t (.cells (Z.cells e u c p sv tv) TRt (0,0))*(RnB e Z.e ov5*(RuB u Z.u ou5*(RdeAt p r*(LAt 9 1 encS sv Z.sent*(LAt TRtold 2 tolC tv Z.told*(LAt TRx 11 Fx.cells ov5 lo5*(LAt TRue 5 Ue.cells ou5 lu5*R)))))))) by ac_rfl));clear his hL9 h16;go_wp2_with fail
    refine hs9.mono ?_
    rintro q w19 ⟨rfl,h19⟩;clear hs9 c16;have h20:=(h19.eq (show _=RdeAt p r*(blk t (.cells (Z.cells e u c p sv tv) TRt (0,0))*(CRef c (dropped L 0)*(RnB e Z.e ov5*(RuB u Z.u ou5*(LAt 9 1 encS sv Z.sent*(LAt TRtold 2 tolC tv Z.told*(LAt TRx 11 Fx.cells ov5 lo5*(LAt TRue 5 Ue.cells ou5 lu5*R)))))))) by ac_rfl)).drop;have h21:=h20.alloc (.cells #[.slice none 0 0,.bool false,.int .i64 0] TRdd);have c21:=h21.f2.cell;have f21:=h21.f2.free;have h22:=h21.f2.set 9 (ptrD w19.heap.size);have h23:=((h22.f2.l_nil 5 1 encCh).f2).rd_shut (r:=⟨[],false,0⟩) rfl rfl;have h24:=h23.f2;have h25:St w0 _ (RtAt N t e u c w19.heap.size ov5 ou5 ((Z.setC (dropped Z.c 0)).setD .new)*(LAt TRx 11 Fx.cells ov5 lo5*(LAt TRue 5 Ue.cells ou5 lu5*R))):=St.rt_shut (N:=N) (x:=(Z.setC (dropped Z.c 0)).setD .new) (sv:=sv) (tv:=tv) (L:=dropped L 0) (r:=⟨[],false,0⟩) (h24.eq (show _=blk t (.cells ((Z.cells e u c p sv tv).setIfInBounds 9 (ptrD w19.heap.size)) TRt (0,0))*(RnB e Z.e ov5*(RuB u Z.u ou5*(CRef c (dropped L 0)*(RdeAt w19.heap.size ⟨[],false,0⟩*(LAt 9 1 encS sv Z.sent*(LAt TRtold 2 tolC tv Z.told*(LAt TRx 11 Fx.cells ov5 lo5*(LAt TRue 5 Ue.cells ou5 lu5*R)))))))) by ac_rfl)) rfl ⟨HIS.out.clock.drop 0,like_new,Nat.zero_le _⟩;have h26:=(h25.eq (show _=LAt TRx 11 Fx.cells ov5 lo5*(LAt TRue 5 Ue.cells ou5 lu5*(RtAt N t e u c w19.heap.size ov5 ou5 ((Z.setC (dropped Z.c 0)).setD .new)*R)) by ac_rfl)).rtoff_shut;clear h19 h20 h21 h22 h23 h24 h25;go_wp2;go_ret
    exact⟨rfl,h26⟩
theorem tidy_over {x:Tt} (h:x.u.Tidy) (hm:x.u.v.tries<=x.u.most) (k:Key):(x.over k).u.Tidy:=by
 unfold Tt.over;split
 ·rw[users_u];exact tidy_timeout h hm
 ·exact tidy_links _ h
theorem tidy_overs:∀ (l:List Key) {x:Tt},x.Fit->x.u.Tidy->(l.foldl Tt.over x).u.Tidy
 | [],_,_,h=>h
 | y :: l,_,hf,h=>tidy_overs l (fit_over hf y).1 (tidy_over h hf.u.tm y)
theorem rt_tick (N t:Nat) (x:Tt) (now:Int) (hfit:x.Fit) (htidy:x.u.Tidy) (w0 w:World) (R:HP) (h:St w0 w (RtOff N t x*R)) :
  Calls Tryz.prog 70 #[ptr t,.int .i64 now] w fun r w'=>r=.returned (.int .i64 (x.tick now).2)/\St w0 w' (RtOff N t (x.tick now).1*R):=by
 obtain⟨e,u,c,p,ov,ou,lo,lu,h1⟩:=h.rtoff_open;unfold Tt.tick;by_cases hb:badNow now=true
 ·rw[if_pos hb]
  have hc:=rt_begin_bad N t e u c p ov ou x now hb w0 w _ h1.f3;clear h h1 hb hfit htidy;go_enter Tryz.func70,Tryz.ntmps70
  go_wp2_with fail
  refine hc.mono ?_
  rintro q w1 ⟨rfl,h2⟩;have h3:St w0 w1 (RtOff N t x.hush*R):=(h2.eq (show _=LAt TRx 11 Fx.cells ov lo*(LAt TRue 5 Ue.cells ou lu*(RtAt N t e u c p ov ou x.hush*R)) by ac_rfl)).rtoff_shut;clear hc h2;go_wp2;go_ret
  exact⟨rfl,h3⟩
 ·rw[if_neg hb]
  have hb:badNow now=false:=by simpa using hb
  have hc:=rt_begin N t e u c p ov ou x now hb w0 w _ h1.f3;have hft:=fit_begin hfit now;have htb:(x.begin now).u.Tidy:=htidy;have hlen:(x.begin now).len=0:=rfl;have hd:(x.begin now).c=x.c:=rfl;clear hb h h1 hfit htidy;rw[← hd];generalize x.begin now=X at *;dsimp only;have hfs:=fun k (h:k ∈ dueK X.c now)=>due_keys hft.k h
  have hff:=keys_left hft.k now;have hfl:=due_len (c:=X.c) now;have hkl:=keys_len hft.k;have hsd:=fun L done rest (h:Same X.c L) e h1 h2=>Same.due (L:=L) (done:=done) (rest:=rest) (now:=now) h e h1 h2
  generalize dueK X.c now=l at *;generalize leftK X.c now=A1 at *;have hfx:(X.setC A1).Fit:=⟨hft.e,hft.u,hft.d,hff⟩;obtain⟨n,hn⟩:∃ n,l.length=n:=⟨_,rfl⟩;have hn6:n<=3:=by omega
  have hlen2:(X.setC A1).len=0:=hlen;have htb2:(X.setC A1).u.Tidy:=htb;obtain⟨Z,hZ⟩:∃ Z,l.foldl Tt.over (X.setC A1)=Z:=⟨_,rfl⟩;rw[hZ];have HZ:=Lib.hid hZ;have HA:=Lib.hid (And.intro hfx (And.intro hfs (And.intro hlen2 htb2)));have HNn:=Lib.hid hn;have HKL:=Lib.hid (show X.c.length<=100000 by omega);have HSD:=Lib.hid hsd;clear hlen hft hd hfs hff hfl hfx hlen2 hn hkl hZ htb htb2 hsd;go_enter Tryz.func70,Tryz.ntmps70
  go_wp2_with fail
  refine hc.mono ?_
  rintro q w5 ⟨rfl,h5⟩;clear hc;obtain⟨sv,tv,L,r,hi,h6⟩:=h5.rt_open;have c6:=h6.cell;have hL9:L.length<=100000:=by have h8:=hi.clock.len;have:=HKL.out;omega
  have hq:=r_due c L hL9 now w0 w5 _ h6.f4;go_wp2_with fail
  refine hq.mono ?_
  rintro q w7 ⟨v7,done,rest,rfl,hL,hd1,hd2,h7⟩;obtain⟨k1,k2⟩:=HSD.out L done rest hi.clock hL hd1 hd2;have h8:St w0 w7 (RtOff N t (X.setC A1)*(LAt 277 3 tmC v7 done*R)):=((St.rt_shut (N:=N) (x:=X.setC A1) (sv:=sv) (tv:=tv) (L:=rest) (r:=r) (R:=LAt 277 3 tmC v7 done*(LAt TRx 11 Fx.cells ov lo*(LAt TRue 5 Ue.cells ou lu*R))) (h7.eq (show _=blk t (.cells (X.cells e u c p sv tv) TRt (0,0))*(RnB e X.e ov*(RuB u X.u ou*(CRef c rest*(RdeAt p r*(LAt 9 1 encS sv X.sent*(LAt TRtold 2 tolC tv X.told*(LAt 277 3 tmC v7 done*(LAt TRx 11 Fx.cells ov lo*(LAt TRue 5 Ue.cells ou lu*R))))))))) by ac_rfl)) rfl ⟨k2,hi.dec,hi.len⟩).eq (show _=LAt TRx 11 Fx.cells ov lo*(LAt TRue 5 Ue.cells ou lu*(RtAt N t e u c p ov ou (X.setC A1)*(LAt 277 3 tmC v7 done*R))) by ac_rfl)).rtoff_shut;subst k1;rw[List.length_map] at HNn;have sh:=h7.l_shape;rw[HNn.out] at sh;obtain⟨a,cap,rfl,hcap,hmax⟩:=sh;have HH:=Lib.hid h8.f2;clear h7 h8 hq h5 h6 c6 hi k2 hL hd1 hd2 HSD hL9;generalize X.setC A1=Y at *;go_wp2;go_loopw [7] (fun s7 wr=>∃ i:Nat,i<=n/\s7=.int .i64 i/\Hid (St w0 wr (LAt 277 3 tmC (.slice a n cap) done*(RtOff N t (((done.map (·.1)).take i).foldl Tt.over Y)*R)))) (fun s7 _=>n - (intOf s7).toNat)
  case atStart=>exact⟨0,by omega,rfl,HH⟩
  case round =>
   clear HH;obtain⟨i,hi,rfl,HI⟩:=hrel;by_cases hlt:i<n
   ·have hil:i<done.length:=by have:=HNn.out;omega
    have hin:(i:Int)<n:=by omega
    obtain⟨y,hy⟩:∃ y,done[i]?=some y:=⟨done[i],List.getElem?_eq_getElem hil⟩;have hym:(done.map (·.1))[i]?=some y.1:=by rw[List.getElem?_map,hy];rfl
    have htk:((done.map (·.1)).take (i+1)).foldl Tt.over Y=(((done.map (·.1)).take i).foldl Tt.over Y).over y.1:=by
     rw[List.take_add_one,hym,Option.toList_some,overs_snoc]
    obtain⟨s1,s2⟩:=fit_overs ((done.map (·.1)).take i) HA.out.1;have s5:=tidy_overs ((done.map (·.1)).take i) HA.out.1 HA.out.2.2.2;have s3:((done.map (·.1)).take i).length<=3:=by rw[List.length_take,List.length_map];omega
    have s4:=HA.out.2.1 y.1 (List.mem_of_getElem? hym);have s6:=HA.out.2.2.1;generalize ((done.map (·.1)).take i).foldl Tt.over Y=z at *;rcases HI.out.l_cells tyTm.len with ⟨h0,_⟩ | ⟨g,off,cap',hv,_,_,hcell⟩
    ·rw[h0] at hil;exact absurd hil (by simp)
    simp only[Value.slice.injEq] at hv;obtain⟨rfl,hq,rfl⟩:=hv;clear hq;have HY:=Lib.hid hy;have hce:=hcell i y hy;obtain⟨⟨y1,y2⟩,y3⟩:=y;have d1:wr.cell? ⟨g,off+i*3+1,none⟩=some (.int .i64 y2):=hce 1 _ rfl;have HT:=Lib.hid htk;have hzl:z.len<=1000000:=by omega
    obtain⟨e,u,c,p,ov,ou,lo,lu,h1⟩:=HI.out.f2.rtoff_open;clear hce hcell htk hy hym hil s2 s3 s4 s6;by_cases k0:y2=202
    ·have hz:z.over (y1,y2)=(z.setU z.u.timeout.1).users z.u.timeout.2:=by unfold Tt.over;rw[if_pos k0]
     rw[hz] at HT;subst k0;obtain⟨R',e7,hU,back⟩:=(h1.eq (show _=LAt TRue 5 Ue.cells ou lu*(RtAt N t e u c p ov ou z*(LAt TRx 11 Fx.cells ov lo*(LAt 277 3 tmC (.slice (some ⟨g,off,none⟩) n cap) done*R))) by ac_rfl)).rt_u;have hm:=ru_timeout u z.u lu s5 w0 wr _ hU;have hwo:=us_timeout s1.u;have hwl:=us_timeout_len z.u;generalize z.u.timeout=A at *;obtain⟨A1,A2⟩:=A;simp only[] at hm HT hwo hwl;clear hz HI h1 hU;go_wp2_with fail
     refine hm.mono ?_
     rintro q w9 ⟨rfl,h9⟩;clear e7 hm;obtain⟨e7,ou2,e6,h10⟩:=back _ _ _ h9;have hs2:=rt_users N t e u c p ov ou2 (z.setU A1) ou2 A2 lo hwo.2 (fit_setU s1 hwo.1) (by omega) (by show z.len+_<=_;omega) w0 w9 _ (h10.eq (show _=LAt TRue 5 Ue.cells ou2 A2*(LAt TRx 11 Fx.cells ov lo*(RtAt N t e u c p ov ou2 (z.setU A1)*(LAt 277 3 tmC (.slice (some ⟨g,off,none⟩) n cap) done*R))) by ac_rfl));clear h9 h10 back d1;go_wp2_with fail
     refine hs2.mono ?_
     rintro q w11 ⟨ov3,lo3,rfl,h12⟩;have HS:=Lib.hid ((h12.eq (show _=LAt TRx 11 Fx.cells ov3 lo3*(LAt TRue 5 Ue.cells ou2 A2*(RtAt N t e u c p ov3 ou2 _*(LAt 277 3 tmC (.slice (some ⟨g,off,none⟩) n cap) done*R))) by ac_rfl)).rtoff_shut).f2;clear hs2 e7 e6 h12 s1 s5 hwo hwl;go_wp2;go_roundw
     case rel =>
      refine⟨i+1,by omega,by go_num,Lib.hid ?_⟩
      rw[HT.out];exact HS.out
     case measure =>
      simp only[intOf];omega
    ·have hz:z.over (y1,y2)=(z.setE (z.e.timeout y2).1).links (z.e.timeout y2).2:=by unfold Tt.over;rw[if_neg k0]
     rw[hz] at HT;have q0:(y2 == 202)=false:=by simp[k0]
     have fe:=s1.e;have hso:(z.e.setOut lo).setOut []=z.e:=En.setOut_nil fe.out;obtain⟨R',e6,hE,back⟩:=(h1.drew.eq (show _=LAt TRx 11 Fx.cells ov lo*(RtAt N t e u c p ov ou z*(LAt TRue 5 Ue.cells ou lu*(LAt 277 3 tmC (.slice (some ⟨g,off,none⟩) n cap) done*R))) by ac_rfl)).rt_e;have ha:=n_timeout e (z.e.setOut lo) y2 fe.ok.b.fl fe.ok.t3 (by have h1:=fe.ok.b.tr0;have h2:=fe.ok.b.trm;have h3:=fe.ok.b.m32;show 0<=z.e.tries/\z.e.tries<=1000;omega) w0 wr.drew _ hE;rw[hso] at ha;obtain⟨fa,fb⟩:=fit_timeout fe y2;have ln:=timeout_len z.e (out0 fe) y2;have lt:=fe.wd.t;generalize z.e.timeout y2=A at *;obtain⟨A1,A2⟩:=A;simp only[] at ha HT fa fb ln;have HAA:=Lib.hid (And.intro fa (And.intro fb (And.intro ln (And.intro lt (And.intro s1 (And.intro s5 hzl))))));have dd:wr.drew.cell? ⟨g,off+i*3+1,none⟩=some (.int .i64 y2):=d1;clear hz HI h1 hE fe hso fa fb ln lt s1 s5 hzl k0;go_upto_region 11 with fail
     refine wp_region_held_drew (S:=fun wx=>wx.cell? ⟨t,6,none⟩=some (ptr e)/\wx.cell? ⟨g,off+i*3+1,none⟩=some (.int .i64 y2)) (by kernel_rfl) ⟨e6,dd⟩ (fun hHeld=>?_)
     clear e6 dd d1;generalize wr.drew=wd at *;refine tk 0 ?_ rfl (fun w hSw=>?_) ?_
     rotate_left 1
     ·try dsimp only at hSw
      go_simp
      try with_reducible rfl
     try simp only[Act.put,sl]
     refine tk 1 ?_ rfl (fun w hSw=>?_) ?_
     rotate_left 1
     ·try dsimp only at hSw
      go_simp
      try with_reducible rfl
     try simp only[Act.put,sl]
     refine tk 2 ?_ rfl (fun w hSw=>?_) ?_
     rotate_left 1
     ·try dsimp only at hSw
      go_simp
      try with_reducible rfl
     try simp only[Act.put,sl]
     refine tk 3 ?_ rfl (fun w hSw=>?_) ?_
     rotate_left 1
     ·try dsimp only at hSw
      go_simp
      try with_reducible rfl
     try simp only[Act.put,sl]
     refine tk 4 ?_ rfl (fun w hSw=>?_) ?_
     rotate_left 1
     ·try dsimp only at hSw
      go_simp
      try with_reducible rfl
     try simp only[Act.put,sl]
     refine tk 5 ?_ rfl (fun w hSw=>?_) ?_
     rotate_left 1
     ·try dsimp only at hSw
      go_simp
      try with_reducible rfl
     try simp only[Act.put,sl]
     refine tk 6 ?_ rfl (fun w hSw=>?_) ?_
     rotate_left 1
     ·try dsimp only at hSw
      go_simp
      try with_reducible rfl
     try simp only[Act.put,sl]
     refine tk 7 ?_ rfl (fun w hSw=>?_) ?_
     rotate_left 1
     ·try dsimp only at hSw
      go_simp
      try with_reducible rfl
     try simp only[Act.put,sl]
     refine tk 8 ?_ rfl (fun w hSw=>?_) ?_
     rotate_left 1
     ·try dsimp only at hSw
      go_simp
      try with_reducible rfl
     try simp only[Act.put,sl]
     refine rd 9 rfl (fun K hK=>?_)
     go_simp
     go_at_call 139
     refine ha.mono ?_
     rintro q w9 ⟨rfl,h9⟩;obtain⟨e6,ov2,e9,h10⟩:=back _ _ _ h9;clear h9 ha back;have dd:=(h10.f4.row_cell (i*3+1) (by have:=HNn.out;omega)).trans (encs_at tyTm.len done i ((y1,y2),y3) 1 HY.out (by decide));go_simp
     refine hK.out _ _ ⟨e6,dd⟩ (fun hHeld=>?_)
     clear hK K;try simp only[Act.put,sl]
     refine wpAnyH_done (by kernel_rfl) ?_ _
     clear dd hHeld;have hs2:=rt_links N t e u c p ov2 ou (z.setE A1) A2 lu z.e.tei (.inl HAA.out.2.1) HAA.out.2.2.2.1 (fit_setE HAA.out.2.2.2.2.1 HAA.out.1) HAA.out.2.2.2.2.2.1 (by have:=HAA.out.2.2.1;omega) (by have:=HAA.out.2.2.2.2.2.2;show z.len<=_;omega) w0 w9 _ (h10.eq (show _=LAt TRx 11 Fx.cells ov2 A2*(LAt TRue 5 Ue.cells ou lu*(RtAt N t e u c p ov2 ou (z.setE A1)*(LAt 277 3 tmC (.slice (some ⟨g,off,none⟩) n cap) done*R))) by ac_rfl));clear h10;go_wp2_with fail
     refine hs2.mono ?_
     rintro q w11 ⟨ov3,lo3,ou3,lu3,rfl,h12⟩;have HS:=Lib.hid (h12.rtoff_shut).f2;clear hs2 e6 e9 h12;go_wp2;go_roundw
     case rel =>
      refine⟨i+1,by omega,by go_num,Lib.hid ?_⟩
      rw[HT.out];exact HS.out
     case measure =>
      simp only[intOf];omega
   ·obtain rfl:i=n:=by omega
    have hz:=HI.out;rw[List.take_of_length_le (by rw[List.length_map];have:=HNn.out;omega),HZ.out] at hz;clear HI;go_wp2;go_ret
    exact⟨rfl,hz.drop⟩
theorem rt_new (cf:Tcf) (q:Nat) (d:Dr) (hd:d.Plain) (w0 w:World) (R:HP) (h:St w0 w (blk q (.cells d.rcells TRd (0,0))*R)) :
  Calls Tryz.prog 13 #[.agg #[.int .i64 cf.k,.int .i64 cf.n200,.int .i64 cf.n202,.int .i64 cf.t200,.int .i64 cf.t202,.int .i64 cf.t203],ptr q] w fun r w'=>∃ t,r=.returned (ptr t)/\St w0 w' (RtOff 0 t (newTt cf d)*R):=by
 have h1:=h.alloc (.cells #[.int .i64 cf.k,.int .i64 cf.n200,.int .i64 cf.n202,.int .i64 cf.t200,.int .i64 cf.t202,.int .i64 cf.t203] 27);have hn:=fun w R h=>n_new cf.k cf.n200 w0 w R h
 have hu:=fun w R h=>ru_new cf.n202 q d hd w0 w R h
 clear h;have c1:=h1.cell;go_enter Tryz.func13,Tryz.ntmps13
 go_upto_region 1 with fail
 generalize w.alloc _=wa at *;generalize w.heap.size=gb at *;go_wp2_with fail
 refine (hn _ _ h1).mono ?_
 rintro r w1 ⟨e,rfl,h2⟩;clear c1 h1 hn;have c2:=h2.f2.cell;go_wp2_with fail
 refine (hu _ _ h2.f3).mono ?_
 rintro r w2 ⟨u,rfl,h3⟩;clear c2 h2 hu;have c3:=h3.f3.cell;obtain⟨ou,h4⟩:=h3.u_split;obtain⟨ov,h5⟩:=h4.f3.n_split;have h6:=((((h5.alloc (.cells #[.slice none 0 0] 119)).l_nil 277 3 tmC).alloc (.cells #[.slice none 0 0,.bool false,.int .i64 0] TRdd)).l_nil 5 1 encCh).alloc (.cells ((newTt cf d).cells e u w2.heap.size (w2.heap.size+1) (.slice none 0 0) (.slice none 0 0)) TRt);simp only[World.size_alloc] at h6;have h7:=(h6.l_nil TRtold 2 tolC).l_nil 9 1 encS;have h8:=(h7.eq (show _=blk w2.heap.size (.cells #[.slice none 0 0] 119 (0,0))*(LAt 277 3 tmC (.slice none 0 0) []*(blk (w2.heap.size+1) (.cells #[.slice none 0 0,.bool false,.int .i64 0] TRdd (0,0))*(LAt 5 1 encCh (.slice none 0 0) []*(blk (w2.heap.size+1+1) (.cells ((newTt cf d).cells e u w2.heap.size (w2.heap.size+1) (.slice none 0 0) (.slice none 0 0)) TRt (0,0))*(LAt 9 1 encS (.slice none 0 0) []*(LAt TRtold 2 tolC (.slice none 0 0) []*(RnB e (newEn cf.k cf.n200) ov*(RuB u (newUs cf.n202 d) ou*(LAt TRx 11 Fx.cells ov []*(LAt TRue 5 Ue.cells ou []*(blk gb _*R))))))))))) by ac_rfl)).r_shut;have h9:=(h8.eq (show _=blk (w2.heap.size+1) (.cells #[.slice none 0 0,.bool false,.int .i64 0] TRdd (0,0))*(LAt 5 1 encCh (.slice none 0 0) []*(CRef w2.heap.size []*(blk (w2.heap.size+1+1) (.cells ((newTt cf d).cells e u w2.heap.size (w2.heap.size+1) (.slice none 0 0) (.slice none 0 0)) TRt (0,0))*(LAt 9 1 encS (.slice none 0 0) []*(LAt TRtold 2 tolC (.slice none 0 0) []*(RnB e (newEn cf.k cf.n200) ov*(RuB u (newUs cf.n202 d) ou*(LAt TRx 11 Fx.cells ov []*(LAt TRue 5 Ue.cells ou []*(blk gb _*R)))))))))) by ac_rfl)).rd_shut (r:=⟨[],false,0⟩) rfl rfl
 have h10:=St.rt_shut (N:=0) (t:=w2.heap.size+1+1) (e:=e) (u:=u) (c:=w2.heap.size) (p:=w2.heap.size+1) (ov:=ov) (ou:=ou) (x:=newTt cf d) (sv:=.slice none 0 0) (tv:=.slice none 0 0) (L:=[]) (r:=⟨[],false,0⟩) (h9.eq (show _=blk (w2.heap.size+1+1) (.cells ((newTt cf d).cells e u w2.heap.size (w2.heap.size+1) (.slice none 0 0) (.slice none 0 0)) TRt (0,0))*(RnB e (newEn cf.k cf.n200) ov*(RuB u (newUs cf.n202 d) ou*(CRef w2.heap.size []*(RdeAt (w2.heap.size+1) ⟨[],false,0⟩*(LAt 9 1 encS (.slice none 0 0) []*(LAt TRtold 2 tolC (.slice none 0 0) []*(LAt TRx 11 Fx.cells ov []*(LAt TRue 5 Ue.cells ou []*(blk gb _*R))))))))) by ac_rfl)) rfl ⟨Same.nil,like_new,Nat.le_refl 0⟩;have h11:=((h10.eq (show _=LAt TRx 11 Fx.cells ov []*(LAt TRue 5 Ue.cells ou []*(RtAt 0 (w2.heap.size+1+1) e u w2.heap.size (w2.heap.size+1) ov ou (newTt cf d)*(blk gb _*R))) by ac_rfl)).rtoff_shut).f2.drop;clear h3 h4 h5 h6 h7 h8 h9 h10;go_wp2;go_ret
 exact⟨_,rfl,h11⟩
section
variable {x:Tt}
theorem remove_state (e:En):e.remove.1.state=1:=by
 unfold En.remove;split
 ·assumption
 ·rfl
end
theorem good_of {c:Tcf}:c.good=(decide (1<=c.t200) && decide (c.t200<=1048576) && (decide (1<=c.t202) && decide (c.t202<=1048576)) && (decide (1<=c.t203) && decide (c.t203<=1048576))):=by
 have key:∀ p:Int,(!badP p)=(decide (1<=p) && decide (p<=1048576)):=fun p=>by
  unfold badP;by_cases a:1<=p <;> by_cases b:p<=1048576 <;> simp[a,b] <;> omega
 unfold Tcf.good;rw[key,key,key]
structure FailI (cf:Tcf) (T:Int) (M i:Nat) (x:Tt):Prop where
 fit:x.Fit
 cf:x.cf=cf
 st:x.e.state=3
 t2:x.e.t2=false
 t3:x.e.t3=false
 tei:x.u.v.tei= -1
 asking:x.u.v.asking=true
 tries:x.u.v.tries=(i:Int)+1
 most:x.u.most=(M:Int)
 c:x.c=[(((0,202):Key),((i:Int)+1)*T)]
theorem due_one (k:Key) (v now:Int) (h:v<=now):dueK [(k,v)] now=[k]/\leftK [(k,v)] now=[]:=by
 constructor
 ·unfold dueK
  rw[List.filter_cons_of_pos (by simpa using h),List.filter_nil];show sortK _ [k]=[k]
  unfold sortK;exact List.mergeSort_singleton _
 ·unfold leftK
  rw[List.filter_cons_of_neg (by simp;omega),List.filter_nil]
theorem start_one (k:Key) (now p:Int) (h:badStart now p=false):(cstart [] k now p).1=[(k,now+p)]:=by
 unfold cstart;rw[h,if_neg (by decide)];rfl
theorem badStart_f {now p:Int} (a:0<=now) (b:now<=9007199254740992) (c:1<=p) (d:p<=1048576):badStart now p=false:=by
 unfold badStart;exact decide_eq_false (by omega)
theorem badNow_f {now:Int} (a:0<=now) (b:now<=9007199254740992):badNow now=false:=by
 unfold badNow;exact decide_eq_false (by omega)
theorem fail_start (cf:Tcf) (d:Dr) (M:Nat) (hM:max 1 (min cf.n202 32)=(M:Int)) (h1:1<=cf.t202) (h2:cf.t202<=1000) :
  FailI cf cf.t202 M 0 ((newTt cf d).ask 0 0 noStr).1/\((newTt cf d).ask 0 0 noStr).2=0/\((newTt cf d).ask 0 0 noStr).1.sent.length=1:=by
 have hf:=fit_tt_ask (fit_tt_new cf d) 0 0 noStr;have hb:badNow 0=false:=badNow_f (by decide) (by decide);have e:(newTt cf d).ask 0 0 noStr=((((newTt cf d).begin 0).setE ((newEn cf.k cf.n200).setState 3)).links [Fx.of 8 noStr],0):=by
  unfold Tt.ask;rw[hb,if_neg (by decide)];rfl
 rw[e] at hf ⊢;rw[links_wish] at hf ⊢;refine⟨?_,rfl,rfl⟩
 have hc:((((((newTt cf d).begin 0).setE ((newEn cf.k cf.n200).setState 3)).setU (((newTt cf d).begin 0).setE ((newEn cf.k cf.n200).setState 3)).u.want.1).users (((newTt cf d).begin 0).setE ((newEn cf.k cf.n200).setState 3)).u.want.2.1).c)=(cstart [] (0,202) 0 cf.t202).1:=rfl;exact⟨hf,rfl,rfl,rfl,rfl,rfl,rfl,rfl,hM,by rw[hc,start_one _ _ _ (badStart_f (by decide) (by decide) h1 (by omega))];simp⟩
theorem tick_one {x:Tt} {now:Int} {v:Int} (hb:badNow now=false) (hc:x.c=[(((0,202):Key),v)]) (hv:v<=now) :
  x.tick now=((((x.begin now).setC []).setU x.u.timeout.1).users x.u.timeout.2,0):=by
 obtain⟨d1,d2⟩:=due_one (0,202) v now hv;unfold Tt.tick;rw[hb,if_neg (by decide),hc,d1,d2];have e:((x.begin now).setC []).u=x.u:=rfl;generalize (x.begin now).setC []=y at *;simp only[List.foldl_cons,List.foldl_nil];unfold Tt.over;rw[if_pos rfl,e]
theorem remove_three {e:En} (hs:e.state=3) (h2:e.t2=false) (h3:e.t3=false) (ho:e.out=[]):e.remove.2.1=[Fx.of 3 noStr]:=by
 unfold En.remove;rw[if_neg (by omega)];dsimp only;rw[if_pos (.inl hs)];have e1:(e.setFl e.fl.clear).stop 200=e.setFl e.fl.clear:=by
  unfold En.stop;rw[if_neg (by unfold En.runs;rw[if_pos rfl];show ¬ e.t2=true;rw[h2];decide)]
 have e2:(e.setFl e.fl.clear).stop 203=e.setFl e.fl.clear:=by
  unfold En.stop;rw[if_neg (by unfold En.runs;rw[if_neg (by decide),if_pos rfl];show ¬ e.t3=true;rw[h3];decide)]
 have e3:e.end1=(e.setFl e.fl.clear).setState 4:=by
  show (((e.setFl e.fl.clear).stop 200).stop 203).setState 4=_
  rw[e1,e2]
 rw[e3];show e.out++[Fx.of 3 noStr]=_
 rw[ho];rfl
theorem fail_last {cf:Tcf} {T:Int} {M i:Nat} {x:Tt} (h:FailI cf T M i x) (hi:i+1=M) (hT:1<=T) (hT2:T<=1000) :
  (x.tick (((i:Int)+1)*T)).2=0/\(x.tick (((i:Int)+1)*T)).1.sent=[]/\(x.tick (((i:Int)+1)*T)).1.told=[(3,noStr)]/\(x.tick (((i:Int)+1)*T)).1.e.state=1/\(x.tick (((i:Int)+1)*T)).1.u.v.asking=false:=by
 have hM:=h.fit.u.m32;rw[h.most] at hM;have n0:0<=((i:Int)+1)*T:=Int.mul_nonneg (by omega) (by omega);have n1:((i:Int)+1)*T<=32*1000:=Int.mul_le_mul (by omega) hT2 (by omega) (by omega);rw[tick_one (badNow_f n0 (by omega)) h.c (Int.le_refl _)];have hu:x.u.timeout=({ x.u with v:=.zero },[.of 3 0]):=by
  unfold Us.timeout;rw[if_neg (by rw[h.asking];decide),if_pos (by rw[h.tries,h.most];omega)]
 rw[hu];generalize ((i:Int)+1)*T=now at *;have e:(((x.begin now).setC []).setU { x.u with v:=.zero }).users [.of 3 0]=((((x.begin now).setC []).setU { x.u with v:=.zero }).setE x.e.remove.1).links0 x.e.remove.2.1:=rfl;rw[e,remove_three h.st h.t2 h.t3 h.fit.e.out];exact⟨rfl,rfl,rfl,remove_state x.e,rfl⟩
theorem fail_next {cf:Tcf} {T:Int} {M i:Nat} {x:Tt} (h:FailI cf T M i x) (hi:i+1<M) (hT:1<=T) (hT2:T<=1000) (hcf:cf.t202=T) :
  (x.tick (((i:Int)+1)*T)).2=0/\(x.tick (((i:Int)+1)*T)).1.sent.length=1/\(x.tick (((i:Int)+1)*T)).1.told=[]/\FailI cf T M (i+1) (x.tick (((i:Int)+1)*T)).1:=by
 have hM:=h.fit.u.m32;rw[h.most] at hM;have n0:0<=((i:Int)+1)*T:=Int.mul_nonneg (by omega) (by omega);have n1:((i:Int)+1)*T<=32*1000:=Int.mul_le_mul (by omega) hT2 (by omega) (by omega);have hf:=fit_tick h.fit (((i:Int)+1)*T);rw[tick_one (badNow_f n0 (by omega)) h.c (Int.le_refl _)] at hf ⊢;have hu:x.u.timeout=x.u.ask (x.u.v.tries+1):=by
  unfold Us.timeout;rw[if_neg (by rw[h.asking];decide),if_neg (by rw[h.tries,h.most];omega)]
 rw[hu] at hf ⊢;have hadd:((i:Int)+1)*T+T=(((i+1:Nat):Int)+1)*T:=by rw[Int.add_mul (((i+1:Nat):Int)) 1 T];simp
 generalize hn:((i:Int)+1)*T=now at *;have hc:((((x.begin now).setC []).setU (x.u.ask (x.u.v.tries+1)).1).users (x.u.ask (x.u.v.tries+1)).2).c=(cstart [] (0,202) now x.cf.t202).1:=rfl;refine⟨rfl,rfl,rfl,⟨hf,h.cf,h.st,h.t2,h.t3,rfl,rfl,?_,h.most,?_⟩⟩
 ·show x.u.v.tries+1=_
  rw[h.tries];omega
 ·rw[hc,h.cf,hcf,start_one _ _ _ (badStart_f n0 (by omega) hT (by omega)),hadd]
def goodC (c:Tcf):Tcf:={ c with t200:=1+max 0 c.t200 % 100,t202:=1+max 0 c.t202 % 100,t203:=1+max 0 c.t203 % 1000 }
theorem goodC_range (c:Tcf):(1<=(goodC c).t200/\(goodC c).t200<=100)/\(1<=(goodC c).t202/\(goodC c).t202<=100)/\(1<=(goodC c).t203/\(goodC c).t203<=1000):=by
 unfold goodC;dsimp only;omega
theorem goodC_good (c:Tcf):(goodC c).good=true:=by
 obtain⟨h1,h2,h3⟩:=goodC_range c;rw[good_of];simp
 omega
theorem l_good (c:Tcf) (w0 w:World) (R:HP) (h:St w0 w R) :
  Calls Tryz.prog 10 #[.agg c.cells.toArray] w fun r w'=>r=.returned (.tuple #[.agg (goodC c).cells.toArray,.agg (goodC c).cells.toArray])/\St w0 w' R:=by
 have h1:=((h.alloc (.cells c.cells.toArray 23)).alloc (.cells #[.int .i64 0,.int .i64 0,.int .i64 0,.int .i64 0,.int .i64 0,.int .i64 0] TCf)).alloc (.cells #[.int .i64 0,.int .i64 0,.int .i64 0,.int .i64 0,.int .i64 0,.int .i64 0] 27);unfold goodC;obtain⟨c1,c2,c3,c4,c5,c6⟩:=c;simp only[Tcf.cells] at *;clear h;go_enter Tryz.func10,Tryz.ntmps10
 go_upto_region 1 with fail
 simp only[World.size_alloc] at *;generalize ((w.alloc _).alloc _).alloc _=wa at *;generalize w.heap.size=ga at *;have d:=h1.f3.cell;have fr:=h1.f3.free;have h2:=((h1.f3.set 3 (.int .i64 (1+max 0 c4 % 100))).set 4 (.int .i64 (1+max 0 c5 % 100))).set 5 (.int .i64 (1+max 0 c6 % 1000));go_upto_region 2 with fail
 generalize ((wa.setCell _ _).setCell _ _).setCell _ _=wb at *;clear h1 d fr;have e0:wb.drew.cell? ⟨ga,0,none⟩=some (.int .i64 c1):=(h2.drew.cell 0).trans rfl;have e1:wb.drew.cell? ⟨ga,1,none⟩=some (.int .i64 c2):=(h2.drew.cell 1).trans rfl;have e2:wb.drew.cell? ⟨ga,2,none⟩=some (.int .i64 c3):=(h2.drew.cell 2).trans rfl;have e3:wb.drew.cell? ⟨ga,3,none⟩=some (.int .i64 (1+max 0 c4 % 100)):=(h2.drew.cell 3).trans rfl;have e4:wb.drew.cell? ⟨ga,4,none⟩=some (.int .i64 (1+max 0 c5 % 100)):=(h2.drew.cell 4).trans rfl;have e5:wb.drew.cell? ⟨ga,5,none⟩=some (.int .i64 (1+max 0 c6 % 1000)):=(h2.drew.cell 5).trans rfl;have h3:=h2.drew;clear h2;generalize hx4:1+max 0 c4 % 100=d4 at *;generalize hx5:1+max 0 c5 % 100=d5 at *;generalize hx6:1+max 0 c6 % 1000=d6 at *;have HX:=Lib.hid (And.intro hx4 (And.intro hx5 hx6));clear hx4 hx5 hx6;refine wp_region_held_drew (S:=fun wx=>wx.cell? ⟨ga,0,none⟩=some (.int .i64 c1)/\wx.cell? ⟨ga,1,none⟩=some (.int .i64 c2)/\wx.cell? ⟨ga,2,none⟩=some (.int .i64 c3)/\wx.cell? ⟨ga,3,none⟩=some (.int .i64 d4)/\wx.cell? ⟨ga,4,none⟩=some (.int .i64 d5)/\wx.cell? ⟨ga,5,none⟩=some (.int .i64 d6)) (by kernel_rfl) ⟨e0,e1,e2,e3,e4,e5⟩ (fun hHeld=>?_)
 clear e0 e1 e2 e3 e4 e5;generalize wb.drew=wd at *;have fa:=h3.f3.free;have fb:=h3.f2.free;have ca:=h3.f3.cell;have cb:=h3.f2.cell;have h4:=(((((h3.f3.set 0 (.int .i64 c1)).set 1 (.int .i64 c2)).set 2 (.int .i64 c3)).set 3 (.int .i64 d4)).set 4 (.int .i64 d5)).set 5 (.int .i64 d6);refine tk 0 ?_ rfl (fun w hSw=>?_) ?_
 rotate_left 1
 ·try dsimp only at hSw
  go_simp
  try with_reducible rfl
 try simp only[Act.put,sl]
 refine tk 1 ?_ rfl (fun w hSw=>?_) ?_
 rotate_left 1
 ·try dsimp only at hSw
  go_simp
  try with_reducible rfl
 try simp only[Act.put,sl]
 refine rd 2 rfl (fun K hK=>?_)
 go_simp
 have cg:=h4.f2.cell;go_simp
 refine hK.out _ _ ⟨(cg 0).trans rfl,(cg 1).trans rfl,(cg 2).trans rfl,(cg 3).trans rfl,(cg 4).trans rfl,(cg 5).trans rfl⟩ (fun hHeld=>?_)
 clear hK K;try simp only[Act.put,sl]
 clear fa fb ca cb cg h3;generalize (((((wd.setCell _ _).setCell _ _).setCell _ _).setCell _ _).setCell _ _).setCell _ _=we at *;have fb:=h4.f3.free;have cb:=h4.f3.cell;have h5:=(((((h4.f3.set 0 (.int .i64 c1)).set 1 (.int .i64 c2)).set 2 (.int .i64 c3)).set 3 (.int .i64 d4)).set 4 (.int .i64 d5)).set 5 (.int .i64 d6);refine rd 3 rfl (fun K hK=>?_)
 go_simp
 have cg:=h5.f3.cell;go_simp
 refine hK.out _ _ ⟨(cg 0).trans rfl,(cg 1).trans rfl,(cg 2).trans rfl,(cg 3).trans rfl,(cg 4).trans rfl,(cg 5).trans rfl⟩ (fun hHeld=>?_)
 clear hK K;try simp only[Act.put,sl]
 clear fb cb cg h4;generalize (((((we.setCell _ _).setCell _ _).setCell _ _).setCell _ _).setCell _ _).setCell _ _=wf at *;refine wpAnyH_done (by kernel_rfl) ?_ _
 clear hHeld;go_wp2;have r1:=h5.f2.cell;have r2:=h5.cell;refine bodyPost_ret (v:=.tuple #[.agg #[.int .i64 c1,.int .i64 c2,.int .i64 c3,.int .i64 d4,.int .i64 d5,.int .i64 d6],.agg #[.int .i64 c1,.int .i64 c2,.int .i64 c3,.int .i64 d4,.int .i64 d5,.int .i64 d6]]) (by simp[results,Tryz.results10,go_sem,r1,r2]) rfl ⟨?_,h5.drop.drop.drop⟩
 rw[HX.out.1,HX.out.2.1,HX.out.2.2]
end Go.Proofs.YtnnahljdhdippaaGreatDoor
