/- Parts of a proof (TermH, TermI). No condition. -/
import Derived.Test.YtnnahljdhdippaaGreatDoorC20
namespace Go.Proofs.YtnnahljdhdippaaGreatDoor
set_option maxRecDepth 100000
set_option maxHeartbeats 6400000
open Go.RowKit
theorem getO_info (s:ByteArray) (net:Bool):(getO s net).1.info.size<=s.size:=by
 have hc:=checkO_size s;unfold getO;split
 ·exact Nat.zero_le _
 ·dsimp only
  split
  ·exact Nat.zero_le _
  ·split
   ·exact Nat.zero_le _
   ·split
    ·exact Nat.zero_le _
    ·split
     ·exact Nat.zero_le _
     ·show (ByteArray.extract _ _ _).size<=_
      rw[ByteArray.size_extract];omega
theorem view_f1 (v0 v1 v2 v3 v4 v5 v6 v7 v8 v9 v10 v11 v12 v13 v14:Value) (w:World):(Instr.field 49 (.agg #[v0,v1,v2,v3,v4,v5,v6,v7,v8,v9,v10,v11,v12,v13,v14]) 1).run Tryz.prog w=.ok v1 w:=by kernel_rfl
theorem view_tei (x:En) (w:World):(Instr.field 49 (.agg x.view) 1).run Tryz.prog w=.ok (.int .i64 x.tei) w:=view_f1 _ _ _ _ _ _ _ _ _ _ _ _ _ _ _ w
structure ComeIs (x:Tt) (f:Fr) (m:Tm) (ok:Bool) (Z:Tt):Prop where
 a:ok=true->Z=(x.setU (x.u.message m).1).users (x.u.message m).2
 b:ok=false->f.sapi≠0->Z=x
 c:ok=false->f.sapi=0->f.tei=127->f.kind=6->Z=x.tell 6 f.info
 d:ok=false->f.sapi=0->¬ (f.tei=127/\f.kind=6)->f.tei=x.e.tei->Z=(x.setE (x.e.frame f).1).links (x.e.frame f).2
 e:ok=false->f.sapi=0->¬ (f.tei=127/\f.kind=6)->f.tei≠x.e.tei->Z=x
theorem come_is (x:Tt) (s:ByteArray) (h0:(getO s true).2=0):ComeIs x (getO s true).1 (tmOf (getO s true).1 true).1 (tmOf (getO s true).1 true).2 (x.come s):=by
 unfold Tt.come;dsimp only;rw[if_neg (fun e=>e h0)];refine⟨fun h=>by rw[if_pos h],fun h h1=>?_,fun h h1 h2 h3=>?_,fun h h1 h2 h3=>?_,fun h h1 h2 h3=>?_⟩
 ·rw[if_neg (by rw[h];decide),if_pos h1]
 ·rw[if_neg (by rw[h];decide),if_neg (fun e=>e h1),if_pos ⟨h2,h3⟩]
 ·rw[if_neg (by rw[h];decide),if_neg (fun e=>e h1),if_neg h2,if_pos h3]
 ·rw[if_neg (by rw[h];decide),if_neg (fun e=>e h1),if_neg h2,if_neg h3]
theorem t_come (t e u c p:Nat) (x:Tt) (s:ByteArray) (hfit:x.Fit) (hl:x.len<=700000000000) (hs:s.size<=1000000) (w0 w:World) (R:HP) (hN:∀ w',St w0 w' R->NamesAt w') (hF:∀ w',St w0 w' R->FirstAt w') (hL:∀ w',St w0 w' R->LinkAt w')
  (h:St w0 w (TtAt t e u c p x*R)) :
  Calls Tryz.prog 50 #[ptr t,.string s] w fun r w'=>r=.returned (.tuple #[])/\St w0 w' (TtAt t e u c p (x.come s)*R):=by
 have hg:=p_get s true w0 w _ (fun w' h=>hN w' h.drop) (fun w' h=>hF w' h.drop) h (by omega);have hsz:=getO_info s true;by_cases h0:(getO s true).2=0
 ·have hci:=come_is x s h0
  obtain⟨Z,hZ⟩:∃ Z,x.come s=Z:=⟨_,rfl⟩;rw[hZ] at hci ⊢;clear hZ;have hm:=fun w R hL h=>m_of (getO s true).1 true w0 w R hL h (by omega)
  rw[h0] at hg;generalize getO s true=G at *;obtain⟨⟨a1,a2,cmd,k,pf,ns,nr,inf⟩,ec⟩:=G;simp only[] at hci hm hg hsz;generalize tmOf ⟨a1,a2,cmd,k,pf,ns,nr,inf⟩ true=M at *;obtain⟨⟨f1,f2,f3⟩,ok⟩:=M;simp only[Fr.cells,Tm.cells] at hci hm hg hsz;have HC:=Lib.hid hci;have HN:=Lib.hid hN;have HF:=Lib.hid hF;have HK:=Lib.hid hL;have HI:=Lib.hid hfit;have HL:=Lib.hid hl;clear h h0 hsz hs hci hN hF hL hfit hl;go_enter Tryz.func50,Tryz.ntmps50
  go_upto_region 2 with (go_at_call 25;refine hg.mono ?_;rintro r w5 ⟨rfl,h5⟩)
  clear hg;have h6:=h5.alloc (.cells #[.int .i64 a1,.int .i64 a2,.bool cmd,.int .i64 k,.bool pf,.int .i64 ns,.int .i64 nr,.string inf] TFr);generalize w5.alloc _=w6 at *;generalize w5.heap.size=gf at *;have c6:=h6.cell;have hm2:=hm w6 _ (fun w' h=>HK.out w' h.drop.drop) h6;clear hm h5;go_upto_region 3 with (go_at_call 26;refine hm2.mono ?_;rintro r w7 ⟨rfl,h7⟩)
  clear hm2 h6 c6;have h8:=h7.alloc (.cells #[.int .i64 f1,.int .i64 f2,.int .i64 f3] TTm);generalize w7.alloc _=w8 at *;generalize w7.heap.size=gm at *;clear h7;cases ok with
  | true =>
    have hz:=HC.out.a rfl;have h9:=h8.eq (show _=TtAt t e u c p x*(blk gm (.cells #[.int .i64 f1,.int .i64 f2,.int .i64 f3] TTm (0,0))*(blk gf (.cells #[.int .i64 a1,.int .i64 a2,.bool cmd,.int .i64 k,.bool pf,.int .i64 ns,.int .i64 nr,.string inf] TFr (0,0))*R)) by ac_rfl);obtain⟨sv,tv,h1⟩:=h9.tt_open;have e1:w8.drew.cell? ⟨t,7,none⟩=some (ptr u):=(h1.drew.cell 7).trans rfl;have m0:w8.drew.cell? ⟨gm,0,none⟩=some (.int .i64 f1):=(h8.drew.cell 0).trans rfl;have m1:w8.drew.cell? ⟨gm,1,none⟩=some (.int .i64 f2):=(h8.drew.cell 1).trans rfl;have m2:w8.drew.cell? ⟨gm,2,none⟩=some (.int .i64 f3):=(h8.drew.cell 2).trans rfl;have hq:=u_message u x.u ⟨f1,f2,f3⟩ w0 w8.drew _ h1.drew.f3;obtain⟨fa,fb⟩:=us_message HI.out.u ⟨f1,f2,f3⟩;have ln:=us_message_len x.u ⟨f1,f2,f3⟩;have hfx:=fit_setU HI.out fa;have HE:=Lib.hid hz;generalize x.u.message ⟨f1,f2,f3⟩=A at *;obtain⟨A1,A2⟩:=A;simp only[Tm.cells] at *;have HA:=Lib.hid (And.intro fb (And.intro hfx ln));clear hz fa fb ln hfx h9;go_upto_region 4 with fail
    refine wp_region_held_drew (S:=fun wx=>wx.cell? ⟨t,7,none⟩=some (ptr u)/\wx.cell? ⟨gm,0,none⟩=some (.int .i64 f1)/\wx.cell? ⟨gm,1,none⟩=some (.int .i64 f2)/\wx.cell? ⟨gm,2,none⟩=some (.int .i64 f3)) (by kernel_rfl) ⟨e1,m0,m1,m2⟩ (fun hHeld=>?_)
    clear e1 m0 m1 m2 h1 h8;generalize w8.drew=wd at *;refine tk 0 ?_ rfl (fun w hSw=>?_) ?_
    rotate_left 1
    ·try dsimp only at hSw
     go_simp
     try with_reducible rfl
    try simp only[Act.put,sl]
    refine tk 1 ?_ rfl (fun w hSw=>?_) ?_
    rotate_left 1
    ·try dsimp only at hSw
     go_simp
     try with_reducible rfl
    try simp only[Act.put,sl]
    refine tk 2 ?_ rfl (fun w hSw=>?_) ?_
    rotate_left 1
    ·try dsimp only at hSw
     go_simp
     try with_reducible rfl
    try simp only[Act.put,sl]
    refine tk 3 ?_ rfl (fun w hSw=>?_) ?_
    rotate_left 1
    ·try dsimp only at hSw
     go_simp
     try with_reducible rfl
    try simp only[Act.put,sl]
    refine tk 4 ?_ rfl (fun w hSw=>?_) ?_
    rotate_left 1
    ·try dsimp only at hSw
     go_simp
     try with_reducible rfl
    try simp only[Act.put,sl]
    refine tk 5 ?_ rfl (fun w hSw=>?_) ?_
    rotate_left 1
    ·try dsimp only at hSw
     go_simp
     try with_reducible rfl
    try simp only[Act.put,sl]
    refine rd 6 rfl (fun K hK=>?_)
    go_simp
    go_at_call 111
    refine hq.mono ?_
    rintro r wa ⟨va,rfl,ha⟩;have ca:=ha.eq (show _=blk t (.cells (x.cells e u c p sv tv) TTt (0,0))*(blk gm (.cells #[.int .i64 f1,.int .i64 f2,.int .i64 f3] TTm (0,0))*(LAt TUe 5 Ue.cells va A2*(EnAt e x.e*(UsAt u A1*(CAt c x.c*(DeAt p x.d*(LAt 9 1 encS sv x.sent*(LAt TTold 2 tolC tv x.told*(blk gf (.cells #[.int .i64 a1,.int .i64 a2,.bool cmd,.int .i64 k,.bool pf,.int .i64 ns,.int .i64 nr,.string inf] TFr (0,0))*R))))))))) by ac_rfl);clear ha hq;have hb:St w0 wa (LAt TUe 5 Ue.cells va A2*(TtAt t e u c p (x.setU A1)*(blk gm (.cells #[.int .i64 f1,.int .i64 f2,.int .i64 f3] TTm (0,0))*(blk gf (.cells #[.int .i64 a1,.int .i64 a2,.bool cmd,.int .i64 k,.bool pf,.int .i64 ns,.int .i64 nr,.string inf] TFr (0,0))*R)))):=(St.tt_shut (x:=x.setU A1) (e:=e) (u:=u) (c:=c) (p:=p) (sv:=sv) (tv:=tv) (ca.eq (show _=blk t (.cells (x.cells e u c p sv tv) TTt (0,0))*(EnAt e x.e*(UsAt u A1*(CAt c x.c*(DeAt p x.d*(LAt 9 1 encS sv x.sent*(LAt TTold 2 tolC tv x.told*(LAt TUe 5 Ue.cells va A2*(blk gm (.cells #[.int .i64 f1,.int .i64 f2,.int .i64 f3] TTm (0,0))*(blk gf (.cells #[.int .i64 a1,.int .i64 a2,.bool cmd,.int .i64 k,.bool pf,.int .i64 ns,.int .i64 nr,.string inf] TFr (0,0))*R))))))))) by ac_rfl))).f2;have hs:=t_users t e u c p (x.setU A1) va A2 HA.out.1 HA.out.2.1 (by have:=HA.out.2.2;omega) (by have h1:=HA.out.2.2;have h2:=HL.out;show x.len+100000*A2.length<=_;omega) w0 wa _ (fun w' h=>HN.out w' h.drop.drop) (fun w' h=>HF.out w' h.drop.drop) (fun w' h=>HK.out w' h.drop.drop) hb;clear hb;go_simp
    refine hK.out _ _ ⟨(ca.cell 7).trans rfl,(ca.f2.cell 0).trans rfl,(ca.f2.cell 1).trans rfl,(ca.f2.cell 2).trans rfl⟩ (fun hHeld=>?_)
    clear hK K;try simp only[Act.put,sl]
    clear ca;refine rd 7 rfl (fun K hK=>?_)
    go_simp
    go_at_call 64
    refine hs.mono ?_
    rintro r wb ⟨rfl,hb⟩;clear hs;have hz:=hb.drop;obtain⟨sv2,tv2,hc⟩:=hz.tt_open;have hm:=hb.f3;go_simp
    refine hK.out _ _ ⟨(hc.cell 7).trans rfl,(hm.cell 0).trans rfl,(hm.cell 1).trans rfl,(hm.cell 2).trans rfl⟩ (fun hHeld=>?_)
    clear hK K;try simp only[Act.put,sl]
    refine wpAnyH_done (by kernel_rfl) ?_ _
    have h9:=hz.f2.drop.f2.drop;clear hb hc hm hz hHeld;go_wp2;go_end0
    exact⟨rfl,by rw[HE.out];exact h9⟩
  | false =>
    by_cases s0:a1=0
    ·subst s0
     by_cases s6:a2=127/\k=6
     ·obtain⟨rfl,rfl⟩:=s6
      have hz:=HC.out.c rfl rfl rfl rfl;have HE:=Lib.hid hz;have hsz:=HL.out;unfold Tt.len at hsz;have hd:=h8.drop;obtain⟨sv,tv,h1⟩:=hd.f2.tt_open;have c3:=h1.cell;have cy:=hd.cell;have h3:=h1.alloc (.cells #[.int .i64 6,.string inf] TTold);have c4:=h3.f2.cell;have HX:=((h3.l_mk (enc:=tolC) (sz:=2) tyTold.len [((6:Int),inf)] 1 rfl rfl (by decide)).eq (show _=LAt TTold 2 tolC tv x.told*(LAt TTold 2 tolC (.slice (some ⟨w8.heap.size,0,none⟩) 1 1) [((6:Int),inf)]*(blk t _*(EnAt e x.e*(UsAt u x.u*(CAt c x.c*(DeAt p x.d*(LAt 9 1 encS sv x.sent*(blk gf (.cells #[.int .i64 0,.int .i64 127,.bool cmd,.int .i64 6,.bool pf,.int .i64 ns,.int .i64 nr,.string inf] TFr (0,0))*R)))))))) by ac_rfl)).drew;have hle:(x.told.length+[((6:Int),inf)].length)*24<=140737488355328:=by show (x.told.length+1)*24<=_;omega
      have c5:=(hd.alloc (.cells #[.int .i64 6,.string inf] TTold)).f2.cell;obtain⟨nt,hnt⟩:∃ nt,x.told.length=nt:=⟨_,rfl⟩;clear hz h1 h3 h8 hsz;go_upto_region 7 with fail
      go_region_law (refine step_append_l rfl (.tmp 50) (.tmp 54) rfl tyTold HX (by simp) rfl rfl hle ?_;intro g2 off2 cap2 w9 h12;have c8:=h12.f2.cell;have f8:=h12.f2.free)
      all_goals
       rw[hnt] at h12;have h13:=h12.f2.set 12 (.slice (some ⟨g2,off2,none⟩) (nt+1) cap2);generalize w9.setCell _ _=wz at *;have h14:=(h13.eq (show _=blk gf (.cells #[.int .i64 0,.int .i64 127,.bool cmd,.int .i64 6,.bool pf,.int .i64 ns,.int .i64 nr,.string inf] TFr (0,0))*(blk t _*(EnAt e x.e*(UsAt u x.u*(CAt c x.c*(DeAt p x.d*(LAt 9 1 encS sv x.sent*(LAt TTold 2 tolC (.slice (some ⟨g2,off2,none⟩) (nt+1) cap2) (x.told++[((6:Int),inf)])*R))))))) by ac_rfl)).drop;have h15:St w0 wz (TtAt t e u c p (x.tell 6 inf)*R):=St.tt_shut (x:=x.tell 6 inf) (e:=e) (u:=u) (c:=c) (p:=p) (sv:=sv) (tv:=.slice (some ⟨g2,off2,none⟩) (nt+1) cap2) h14;clear c3 cy c4 c5 c8 f8 HX h12 h13 h14 hnt;go_wp2;go_end0
       exact⟨rfl,by rw[HE.out];exact h15⟩
     ·have hd:=h8.drop
      have c8:=hd.cell;have hzd:=HC.out.d rfl rfl s6;have hze:=HC.out.e rfl rfl s6;have HZ:=Lib.hid (And.intro hzd hze);have HS:=Lib.hid s6;clear h8 hzd hze s6;go_upto_region 6 with fail
      go_cut [35] (fun s35 wx=>s35=.bool false/\w8=wx)
      case first =>
       have s6:=HS.out;clear HZ HS;by_cases e1:a2=127
       ·have q1:(a2 == 127)=true:=by simp[e1]
        have q2:(k == 6)=false:=by simp;exact fun e2=>s6 ⟨e1,e2⟩
        clear e1 s6;go_wp2;go_meet
        exact⟨rfl,rfl⟩
       ·have q1:(a2 == 127)=false:=by simp[e1]
        clear e1 s6;go_wp2;go_meet
        exact⟨rfl,rfl⟩
      case rest =>
       obtain⟨rfl,rfl⟩:=hcut;have hlk:=lk_eq 0 a2 0 x.e.tei;have hlg:=lk_guard;have hvt:=view_tei x.e;obtain⟨sv,tv,h1⟩:=(hd.eq (show _=TtAt t e u c p x*(blk gf _*R) by ac_rfl)).tt_open;have e1:w8.drew.cell? ⟨t,6,none⟩=some (ptr e):=(h1.drew.cell 6).trans rfl;have g0:w8.drew.cell? ⟨gf,0,none⟩=some (.int .i64 0):=(hd.drew.cell 0).trans rfl;have g1:w8.drew.cell? ⟨gf,1,none⟩=some (.int .i64 a2):=(hd.drew.cell 1).trans rfl;have hq:=e_view e x.e HI.out.e.ok.b.fl w0 w8.drew _ h1.drew.f2;by_cases et:a2=x.e.tei
       ·have hz:=HZ.out.1 et
        rw[show ((0:Int) == 0 && a2 == x.e.tei)=true by simp[et]] at hlk;clear HZ et;have HE:=Lib.hid hz;go_upto_region 8 with fail
        refine wp_region_held_drew (S:=fun wx=>wx.cell? ⟨t,6,none⟩=some (ptr e)/\wx.cell? ⟨gf,0,none⟩=some (.int .i64 0)/\wx.cell? ⟨gf,1,none⟩=some (.int .i64 a2)) (by kernel_rfl) ⟨e1,g0,g1⟩ (fun hHeld=>?_)
        clear e1 g0 g1 h1 hd c8;generalize w8.drew=wd at *;refine tk 0 ?_ rfl (fun w hSw=>?_) ?_
        rotate_left 1
        ·try dsimp only at hSw
         go_simp
         try with_reducible rfl
        try simp only[Act.put,sl]
        refine tk 1 ?_ rfl (fun w hSw=>?_) ?_
        rotate_left 1
        ·try dsimp only at hSw
         go_simp
         try with_reducible rfl
        try simp only[Act.put,sl]
        refine tk 2 ?_ rfl (fun w hSw=>?_) ?_
        rotate_left 1
        ·try dsimp only at hSw
         go_simp
         try with_reducible rfl
        try simp only[Act.put,sl]
        refine tk 3 ?_ rfl (fun w hSw=>?_) ?_
        rotate_left 1
        ·try dsimp only at hSw
         go_simp
         try with_reducible rfl
        try simp only[Act.put,sl]
        refine tk 4 ?_ rfl (fun w hSw=>?_) ?_
        rotate_left 1
        ·try dsimp only at hSw
         go_simp
         try with_reducible rfl
        try simp only[Act.put,sl]
        refine tk 5 ?_ rfl (fun w hSw=>?_) ?_
        rotate_left 1
        ·try dsimp only at hSw
         go_simp
         try with_reducible rfl
        try simp only[Act.put,sl]
        refine rd 6 rfl (fun K hK=>?_)
        go_simp
        go_at_call 40
        refine hq.mono ?_
        rintro r wa ⟨rfl,ha⟩;have h2:St w0 wa (blk t (.cells (x.cells e u c p sv tv) TTt (0,0))*(EnAt e x.e*(UsAt u x.u*(CAt c x.c*(DeAt p x.d*(LAt 9 1 encS sv x.sent*(LAt TTold 2 tolC tv x.told*(blk gf (.cells #[.int .i64 0,.int .i64 a2,.bool cmd,.int .i64 k,.bool pf,.int .i64 ns,.int .i64 nr,.string inf] TFr (0,0))*R)))))))):=ha.f2;clear ha hq;have hc:St w0 wa (blk gf (.cells #[.int .i64 0,.int .i64 a2,.bool cmd,.int .i64 k,.bool pf,.int .i64 ns,.int .i64 nr,.string inf] TFr (0,0))*(TtAt t e u c p x*R)):=(St.tt_shut (x:=x) (e:=e) (u:=u) (c:=c) (p:=p) (sv:=sv) (tv:=tv) h2).f2;go_simp
        refine hK.out _ _ ⟨(h2.cell 6).trans rfl,(hc.cell 0).trans rfl,(hc.cell 1).trans rfl⟩ (fun hHeld=>?_)
        clear hK K;try simp only[Act.put,sl]
        refine tk 7 ?_ rfl (fun w hSw=>?_) ?_
        rotate_left 1
        ·try dsimp only at hSw
         go_simp
         try with_reducible rfl
        try simp only[Act.put,sl]
        refine tk 8 ?_ rfl (fun w hSw=>?_) ?_
        rotate_left 1
        ·try dsimp only at hSw
         go_simp
         try with_reducible rfl
        try simp only[Act.put,sl]
        refine tk 9 ?_ rfl (fun w hSw=>?_) ?_
        rotate_left 1
        ·try dsimp only at hSw
         go_simp
         try with_reducible rfl
        try simp only[Act.put,sl]
        refine tk 10 ?_ rfl (fun w hSw=>?_) ?_
        rotate_left 1
        ·try dsimp only at hSw
         go_simp
         try with_reducible rfl
        try simp only[Act.put,sl]
        refine wpAnyH_done (by kernel_rfl) ?_ _
        clear hHeld hlk hlg hvt;have hc8:=hc.cell;have hg:=e_frame e x.e ⟨0,a2,cmd,k,pf,ns,nr,inf⟩ HI.out.e.ok.b.fl (fun h=>⟨HI.out.e.ok.tei.1 h,HI.out.e.ok.s8⟩) (by rw[HI.out.e.out];decide) w0 wa.drew _ (HN.out _ hc.drop.drop.drew) h2.drew.f2;obtain⟨fa,fb⟩:=fit_frame HI.out.e ⟨0,a2,cmd,k,pf,ns,nr,inf⟩;have ln:=frame_len x.e (out0 HI.out.e) ⟨0,a2,cmd,k,pf,ns,nr,inf⟩;have hfx:=fit_setE HI.out fa;have lt:=HI.out.e.wd.t;have e1:wa.drew.cell? ⟨t,6,none⟩=some (ptr e):=(h2.drew.cell 6).trans rfl;have hcd:=hc.drew;have g0:wa.drew.cell? ⟨gf,0,none⟩=some (.int .i64 0):=(hcd.cell 0).trans rfl;have g1:wa.drew.cell? ⟨gf,1,none⟩=some (.int .i64 a2):=(hcd.cell 1).trans rfl;have g2:wa.drew.cell? ⟨gf,2,none⟩=some (.bool cmd):=(hcd.cell 2).trans rfl;have g3:wa.drew.cell? ⟨gf,3,none⟩=some (.int .i64 k):=(hcd.cell 3).trans rfl;have g4:wa.drew.cell? ⟨gf,4,none⟩=some (.bool pf):=(hcd.cell 4).trans rfl;have g5:wa.drew.cell? ⟨gf,5,none⟩=some (.int .i64 ns):=(hcd.cell 5).trans rfl;have g6:wa.drew.cell? ⟨gf,6,none⟩=some (.int .i64 nr):=(hcd.cell 6).trans rfl;have g7:wa.drew.cell? ⟨gf,7,none⟩=some (.string inf):=(hcd.cell 7).trans rfl;generalize x.e.frame ⟨0,a2,cmd,k,pf,ns,nr,inf⟩=A at *;obtain⟨A1,A2⟩:=A;simp only[Fr.cells] at *;have HA:=Lib.hid (And.intro (And.intro fb lt) (And.intro hfx ln));clear hz fa fb ln hfx lt hcd;go_upto_region 9 with fail
        refine wp_region_held_drew (S:=fun wx=>wx.cell? ⟨t,6,none⟩=some (ptr e)/\(wx.cell? ⟨gf,0,none⟩=some (.int .i64 0)/\wx.cell? ⟨gf,1,none⟩=some (.int .i64 a2)/\wx.cell? ⟨gf,2,none⟩=some (.bool cmd)/\wx.cell? ⟨gf,3,none⟩=some (.int .i64 k)/\wx.cell? ⟨gf,4,none⟩=some (.bool pf)/\wx.cell? ⟨gf,5,none⟩=some (.int .i64 ns)/\wx.cell? ⟨gf,6,none⟩=some (.int .i64 nr)/\wx.cell? ⟨gf,7,none⟩=some (.string inf))) (by kernel_rfl) ⟨e1,g0,g1,g2,g3,g4,g5,g6,g7⟩ (fun hHeld=>?_)
        clear e1 g0 g1 g2 g3 g4 g5 g6 g7 h2 hc;generalize wa.drew=wd at *;refine tk 0 ?_ rfl (fun w hSw=>?_) ?_
        rotate_left 1
        ·try dsimp only at hSw
         go_simp
         try with_reducible rfl
        try simp only[Act.put,sl]
        refine tk 1 ?_ rfl (fun w hSw=>?_) ?_
        rotate_left 1
        ·try dsimp only at hSw
         go_simp
         try with_reducible rfl
        try simp only[Act.put,sl]
        refine tk 2 ?_ rfl (fun w hSw=>?_) ?_
        rotate_left 1
        ·try dsimp only at hSw
         go_simp
         try with_reducible rfl
        try simp only[Act.put,sl]
        refine tk 3 ?_ rfl (fun w hSw=>?_) ?_
        rotate_left 1
        ·try dsimp only at hSw
         go_simp
         try with_reducible rfl
        try simp only[Act.put,sl]
        refine tk 4 ?_ rfl (fun w hSw=>?_) ?_
        rotate_left 1
        ·try dsimp only at hSw
         go_simp
         try with_reducible rfl
        try simp only[Act.put,sl]
        refine tk 5 ?_ rfl (fun w hSw=>?_) ?_
        rotate_left 1
        ·try dsimp only at hSw
         go_simp
         try with_reducible rfl
        try simp only[Act.put,sl]
        refine rd 6 rfl (fun K hK=>?_)
        go_simp
        go_at_call 112
        refine hg.mono ?_
        rintro r wb ⟨vb,rfl,hb⟩;have cb:=hb.eq (show _=blk t (.cells (x.cells e u c p sv tv) TTt (0,0))*(blk gf (.cells #[.int .i64 0,.int .i64 a2,.bool cmd,.int .i64 k,.bool pf,.int .i64 ns,.int .i64 nr,.string inf] TFr (0,0))*(LAt TFx 11 Fx.cells vb A2*(EnAt e A1*(UsAt u x.u*(CAt c x.c*(DeAt p x.d*(LAt 9 1 encS sv x.sent*(LAt TTold 2 tolC tv x.told*R)))))))) by ac_rfl);clear hb hg;have hb:St w0 wb (LAt TFx 11 Fx.cells vb A2*(TtAt t e u c p (x.setE A1)*(blk gf (.cells #[.int .i64 0,.int .i64 a2,.bool cmd,.int .i64 k,.bool pf,.int .i64 ns,.int .i64 nr,.string inf] TFr (0,0))*R))):=(St.tt_shut (x:=x.setE A1) (e:=e) (u:=u) (c:=c) (p:=p) (sv:=sv) (tv:=tv) (cb.eq (show _=blk t (.cells (x.cells e u c p sv tv) TTt (0,0))*(EnAt e A1*(UsAt u x.u*(CAt c x.c*(DeAt p x.d*(LAt 9 1 encS sv x.sent*(LAt TTold 2 tolC tv x.told*(LAt TFx 11 Fx.cells vb A2*(blk gf (.cells #[.int .i64 0,.int .i64 a2,.bool cmd,.int .i64 k,.bool pf,.int .i64 ns,.int .i64 nr,.string inf] TFr (0,0))*R)))))))) by ac_rfl))).f2;have hs:=t_links t e u c p (x.setE A1) vb A2 x.e.tei (.inl HA.out.1.1) HA.out.1.2 HA.out.2.1 HA.out.2.2 (by have h2:=HL.out;show x.len<=_;omega) w0 wb _ (fun w' h=>HN.out w' h.drop) (fun w' h=>HF.out w' h.drop) (fun w' h=>HK.out w' h.drop) hb;clear hb;have cg:=cb.f2.cell;go_simp
        refine hK.out _ _ ⟨(cb.cell 6).trans rfl,(cg 0).trans rfl,(cg 1).trans rfl,(cg 2).trans rfl,(cg 3).trans rfl,(cg 4).trans rfl,(cg 5).trans rfl,(cg 6).trans rfl,(cg 7).trans rfl⟩ (fun hHeld=>?_)
        clear hK K;try simp only[Act.put,sl]
        clear cb cg;refine rd 7 rfl (fun K hK=>?_)
        go_simp
        go_at_call 43
        refine hs.mono ?_
        rintro r wc ⟨rfl,hb⟩;clear hs;have hz:=hb.drop;obtain⟨sv3,tv3,hc⟩:=hz.tt_open;have cg:=hz.f2.cell;go_simp
        refine hK.out _ _ ⟨(hc.cell 6).trans rfl,(cg 0).trans rfl,(cg 1).trans rfl,(cg 2).trans rfl,(cg 3).trans rfl,(cg 4).trans rfl,(cg 5).trans rfl,(cg 6).trans rfl,(cg 7).trans rfl⟩ (fun hHeld=>?_)
        clear hK K;try simp only[Act.put,sl]
        refine wpAnyH_done (by kernel_rfl) ?_ _
        have h9:=hz.f2.drop;clear hb hc cg hz hHeld;go_wp2;go_end0
        exact⟨rfl,by rw[HE.out];exact h9⟩
       ·have hz:=HZ.out.2 et
        rw[show ((0:Int) == 0 && a2 == x.e.tei)=false by simp[et]] at hlk;clear HZ et;have HE:=Lib.hid hz;go_upto_region 8 with fail
        refine wp_region_held_drew (S:=fun wx=>wx.cell? ⟨t,6,none⟩=some (ptr e)/\wx.cell? ⟨gf,0,none⟩=some (.int .i64 0)/\wx.cell? ⟨gf,1,none⟩=some (.int .i64 a2)) (by kernel_rfl) ⟨e1,g0,g1⟩ (fun hHeld=>?_)
        clear e1 g0 g1 h1 hd c8;generalize w8.drew=wd at *;refine tk 0 ?_ rfl (fun w hSw=>?_) ?_
        rotate_left 1
        ·try dsimp only at hSw
         go_simp
         try with_reducible rfl
        try simp only[Act.put,sl]
        refine tk 1 ?_ rfl (fun w hSw=>?_) ?_
        rotate_left 1
        ·try dsimp only at hSw
         go_simp
         try with_reducible rfl
        try simp only[Act.put,sl]
        refine tk 2 ?_ rfl (fun w hSw=>?_) ?_
        rotate_left 1
        ·try dsimp only at hSw
         go_simp
         try with_reducible rfl
        try simp only[Act.put,sl]
        refine tk 3 ?_ rfl (fun w hSw=>?_) ?_
        rotate_left 1
        ·try dsimp only at hSw
         go_simp
         try with_reducible rfl
        try simp only[Act.put,sl]
        refine tk 4 ?_ rfl (fun w hSw=>?_) ?_
        rotate_left 1
        ·try dsimp only at hSw
         go_simp
         try with_reducible rfl
        try simp only[Act.put,sl]
        refine tk 5 ?_ rfl (fun w hSw=>?_) ?_
        rotate_left 1
        ·try dsimp only at hSw
         go_simp
         try with_reducible rfl
        try simp only[Act.put,sl]
        refine rd 6 rfl (fun K hK=>?_)
        go_simp
        go_at_call 40
        refine hq.mono ?_
        rintro r wa ⟨rfl,ha⟩;have h2:St w0 wa (blk t (.cells (x.cells e u c p sv tv) TTt (0,0))*(EnAt e x.e*(UsAt u x.u*(CAt c x.c*(DeAt p x.d*(LAt 9 1 encS sv x.sent*(LAt TTold 2 tolC tv x.told*(blk gf (.cells #[.int .i64 0,.int .i64 a2,.bool cmd,.int .i64 k,.bool pf,.int .i64 ns,.int .i64 nr,.string inf] TFr (0,0))*R)))))))):=ha.f2;clear ha hq;have hc:St w0 wa (blk gf (.cells #[.int .i64 0,.int .i64 a2,.bool cmd,.int .i64 k,.bool pf,.int .i64 ns,.int .i64 nr,.string inf] TFr (0,0))*(TtAt t e u c p x*R)):=(St.tt_shut (x:=x) (e:=e) (u:=u) (c:=c) (p:=p) (sv:=sv) (tv:=tv) h2).f2;go_simp
        refine hK.out _ _ ⟨(h2.cell 6).trans rfl,(hc.cell 0).trans rfl,(hc.cell 1).trans rfl⟩ (fun hHeld=>?_)
        clear hK K;try simp only[Act.put,sl]
        refine tk 7 ?_ rfl (fun w hSw=>?_) ?_
        rotate_left 1
        ·try dsimp only at hSw
         go_simp
         try with_reducible rfl
        try simp only[Act.put,sl]
        refine tk 8 ?_ rfl (fun w hSw=>?_) ?_
        rotate_left 1
        ·try dsimp only at hSw
         go_simp
         try with_reducible rfl
        try simp only[Act.put,sl]
        refine tk 9 ?_ rfl (fun w hSw=>?_) ?_
        rotate_left 1
        ·try dsimp only at hSw
         go_simp
         try with_reducible rfl
        try simp only[Act.put,sl]
        refine tk 10 ?_ rfl (fun w hSw=>?_) ?_
        rotate_left 1
        ·try dsimp only at hSw
         go_simp
         try with_reducible rfl
        try simp only[Act.put,sl]
        refine wpAnyH_done (by kernel_rfl) ?_ _
        clear hHeld hlk hlg hvt;have hc8:=hc.cell;have h9:=hc.drop;clear hz h2 hc;go_wp2;go_end0
        exact⟨rfl,by rw[HE.out];exact h9⟩
    ·have hz:=HC.out.b rfl s0
     have HE:=Lib.hid hz;have q0:(a1 != 0)=true:=by simp[s0]
     have c8:=h8.f2.cell;have h9:=h8.drop.drop;clear h8 hz s0;go_wp2;go_end0
     exact⟨rfl,by rw[HE.out];exact h9⟩
 ·have hz:x.come s=x:=by unfold Tt.come;dsimp only;rw[if_pos h0]
  rw[hz];have q0:((getO s true).2 != 0)=true:=by simp[h0]
  generalize getO s true=G at *;obtain⟨⟨a1,a2,cmd,k,pf,ns,nr,inf⟩,ec⟩:=G;simp only[Fr.cells] at hg q0;clear h h0 hsz hs hN hF hL hfit hl hz;go_enter Tryz.func50,Tryz.ntmps50
  go_wp2_with fail
  refine hg.mono ?_
  rintro r w5 ⟨rfl,h5⟩;clear hg;go_wp2;exact bodyPost_ret (v:=.tuple #[]) (by simp[results,Tryz.results50,go_sem]) rfl ⟨rfl,(h5.alloc _).drop⟩
theorem octs_le:∀ l:List Bool,(octs l).length<=l.length
 | a :: b :: c :: d :: e :: f :: g :: h :: l=>by
   have:=octs_le l
   show (octs l).length+1<=_
   simp only[List.length_cons];omega
 | []=>Nat.zero_le _
 | [_]=>Nat.zero_le _
 | [_,_]=>Nat.zero_le _
 | [_,_,_]=>Nat.zero_le _
 | [_,_,_,_]=>Nat.zero_le _
 | [_,_,_,_,_]=>Nat.zero_le _
 | [_,_,_,_,_,_]=>Nat.zero_le _
 | [_,_,_,_,_,_,_]=>Nat.zero_le _
theorem flag_small {d:De} (h:d.Fits):∀ v,d.flag.2=some v->v.s.length<=10000:=fun v hv=>by
 unfold De.flag at hv;split at hv
 ·cases hv
 ·split at hv
  ·cases hv
   exact Nat.zero_le _
  ·cases hv
   have h1:=octs_le (d.c.take (d.c.length - 6));have h2:d.c.length<=2135:=h;rw[List.length_take] at h1;show (octs _).length<=_
   omega
theorem bit_small {d:De} (h:d.Fits) (b:Bool):∀ v,(d.bit b).2=some v->v.s.length<=10000:=fun v hv=>by
 unfold De.bit at hv;split at hv
 ·split at hv
  ·cases hv
   exact Nat.zero_le _
  ·cases hv
 ·split at hv
  ·split at hv
   ·exact flag_small h v hv
   ·cases hv
  ·cases hv
theorem feed_small:∀ (l:List Bool) {d:De},d.Fits->∀ v ∈ (d.feed l).2,v.s.length<=10000
 | [],_,_,_,hv=>by cases hv
 | b :: l,d,h,v,hv=>by
   rcases List.mem_append.1 (show v ∈ (d.bit b).2.toList++(De.feed (d.bit b).1 l).2 from hv) with h1 | h1
   ·exact bit_small h b v (by simpa using h1)
   ·exact feed_small l (fits_bit h b) v h1
theorem events_snoc (x:Tt) (l:List Ev) (y:Ev):(l++[y]).foldl Tt.event x=(l.foldl Tt.event x).event y:=by rw[List.foldl_append];rfl
theorem t_bits (t:Nat) (x:Tt) (now:Int) (b:ByteArray) (hfit:x.Fit) (ho:x.d.o<=100000000000000000) (hs:b.size<=1000000) (w0 w:World) (R:HP) (hN:∀ w',St w0 w' R->NamesAt w') (hF:∀ w',St w0 w' R->FirstAt w') (hL:∀ w',St w0 w' R->LinkAt w') (h:St w0 w (TtOff t x*R)) :
  Calls Tryz.prog 20 #[ptr t,.int .i64 now,.string b] w fun r w'=>∃ sv tv,r=.returned (.tuple #[.agg #[sv,tv],.int .i64 (x.bits now b).2])/\St w0 w' (LAt 9 1 encS sv (x.bits now b).1.sent*(LAt TTold 2 tolC tv (x.bits now b).1.told*(TtOff t (x.bits now b).1*R))):=by
 have h1:=h.alloc (.cells #[.slice none 0 0,.slice none 0 0] TRes);unfold Tt.bits;by_cases hb:badNow now=true
 ·rw[if_pos hb]
  have hc:=t_begin_bad t x now hb w0 _ _ h1.f2;go_enter Tryz.func20,Tryz.ntmps20
  go_upto_region 1 with fail
  generalize w.alloc _=wa at *;generalize w.heap.size=ga at *;go_wp2_with fail
  refine hc.mono ?_
  rintro r w5 ⟨rfl,h5⟩;clear hc h1;have h6:=h5.f2;have c6:=h6.cell;have f6:=h6.free;have h9:=(h6.set 0 (.slice none 0 0)).set 1 (.slice none 0 0);clear h5 h6;go_wp2;have c9:=h9.cell;refine bodyPost_ret (v:=.tuple #[.agg #[.slice none 0 0,.slice none 0 0],.int .i64 2]) (by simp[results,Tryz.results20,go_sem,c9]) rfl ⟨_,_,rfl,?_⟩
  exact (h9.drop.l_nil TTold 2 tolC).l_nil 9 1 encS
 ·rw[if_neg hb]
  have hb:badNow now=false:=by simpa using hb
  have hc:=t_begin t x now hb w0 _ _ h1.f2;have hft:=fit_begin hfit now;have HN:=Lib.hid hN;have HF:=Lib.hid hF;have HK:=Lib.hid hL;have hlen:(x.begin now).len=0:=rfl;have hd:(x.begin now).d=x.d:=rfl;clear hN hF hL hb h;rw[← hd] at ho ⊢;generalize x.begin now=X at *;dsimp only;have hk:=fun p w h=>d_feed p X.d b hft.d ho (by omega) w0 w (R:=h)
  have hfs:=feed_small (bitsIn b.data.toList) hft.d;have hff:=fits_feed (bitsIn b.data.toList) hft.d;have hfl:=feed_len (bitsIn b.data.toList) X.d;have hbl:=bitsIn_len b.data.toList;have hbs:b.data.toList.length=b.size:=by rw[Array.length_toList];rfl
  generalize X.d.feed (bitsIn b.data.toList)=A at *;obtain⟨A1,l⟩:=A;simp only[] at *;have hfx:(X.setD A1).Fit:=⟨hft.e,hft.u,hff,hft.k⟩;obtain⟨n,hn⟩:∃ n,l.length=n:=⟨_,rfl⟩;have hn6:n<=1000000:=by omega
  have hlen2:(X.setD A1).len=0:=hlen;obtain⟨Z,hZ⟩:∃ Z,l.foldl Tt.event (X.setD A1)=Z:=⟨_,rfl⟩;rw[hZ];have HZ:=Lib.hid hZ;have HA:=Lib.hid (And.intro hfx (And.intro hfs hlen2));have HNn:=Lib.hid hn;clear hlen hft hd hfit hfs hff hfl hbl hbs hfx hlen2 hs ho hn hZ;go_enter Tryz.func20,Tryz.ntmps20
  go_upto_region 1 with fail
  generalize w.alloc _=wa at *;generalize w.heap.size=ga at *;go_upto_region 2 with (go_at_call 41;refine hc.mono ?_;rintro r w5 ⟨e,u,c,p,rfl,h5⟩)
  clear hc h1;obtain⟨sv,tv,h6⟩:=h5.tt_open;have c6:=h6.cell;have hq:=hk p w5 _ h6.f5;clear hk;go_wp2_with fail
  refine hq.mono ?_
  rintro r w7 ⟨v7,rfl,h7⟩;clear hq h5 h6 c6;have h8:St w0 w7 (LAt TEv 2 Ev.cells v7 l*(TtAt t e u c p (X.setD A1)*(blk ga (.cells #[.slice none 0 0,.slice none 0 0] TRes (0,0))*R))):=(St.tt_shut (x:=X.setD A1) (e:=e) (u:=u) (c:=c) (p:=p) (sv:=sv) (tv:=tv) (h7.eq (show _=blk t _*(EnAt e X.e*(UsAt u X.u*(CAt c X.c*(DeAt p A1*(LAt 9 1 encS sv X.sent*(LAt TTold 2 tolC tv X.told*(LAt TEv 2 Ev.cells v7 l*(blk ga (.cells #[.slice none 0 0,.slice none 0 0] TRes (0,0))*R)))))))) by ac_rfl))).f2;have sh:=h8.l_shape;rw[HNn.out] at sh;obtain⟨a,cap,rfl,hcap,hmax⟩:=sh;have HH:=Lib.hid h8;clear h7 h8;generalize X.setD A1=Y at *;go_wp2;go_loopw [25] (fun s25 wr=>∃ i:Nat,i<=n/\s25=.int .i64 i/\Hid (St w0 wr (LAt TEv 2 Ev.cells (.slice a n cap) l*(TtAt t e u c p ((l.take i).foldl Tt.event Y)*(blk ga (.cells #[.slice none 0 0,.slice none 0 0] TRes (0,0))*R))))) (fun s25 _=>n - (intOf s25).toNat)
  case atStart=>exact⟨0,by omega,rfl,HH⟩
  case round =>
   clear HH;obtain⟨i,hi,rfl,HI⟩:=hrel;by_cases hlt:i<n
   ·have hil:i<l.length:=by have:=HNn.out;omega
    obtain⟨y,hy⟩:∃ y,l[i]?=some y:=⟨l[i],List.getElem?_eq_getElem hil⟩;have htk:(l.take (i+1)).foldl Tt.event Y=((l.take i).foldl Tt.event Y).event y:=by
     rw[List.take_add_one,hy,Option.toList_some,events_snoc]
    have hsm:=HA.out.2.1 y (List.mem_of_getElem? hy);obtain⟨s1,s2⟩:=fit_events (l.take i) HA.out.1;have s3:(l.take i).length=i:=by rw[List.length_take];omega
    have hl0:=HA.out.2.2;generalize (l.take i).foldl Tt.event Y=z at *;have hsz:=Lib.hid (show z.Fit/\z.len<=700000000000 from ⟨s1,by omega⟩);rcases HI.out.l_cells tyEv.len with ⟨h0,_⟩ | ⟨g,off,cap',hv,_,_,hcell⟩
    ·rw[h0] at hil;exact absurd hil (by simp)
    ·simp only[Value.slice.injEq] at hv
     obtain⟨rfl,hq,rfl⟩:=hv;clear hq;have hce:=hcell i y hy;obtain⟨kd,ls⟩:=y;have d0:wr.cell? ⟨g,off+i*2,none⟩=some (.int .i64 kd):=hce 0 _ rfl;have d1:wr.cell? ⟨g,off+i*2+1,none⟩=some (.string ⟨ls.toArray⟩):=hce 1 _ rfl;have HT:=Lib.hid htk;have hss:(⟨ls.toArray⟩:ByteArray).size<=1000000:=by have h1:ls.length<=10000:=hsm;show ls.toArray.size<=_;rw[List.size_toArray];omega
     have hev:z.event ⟨kd,ls⟩=if kd=0 then z.come ⟨ls.toArray⟩ else z:=rfl
     rw[hev] at HT;generalize (⟨ls.toArray⟩:ByteArray)=so at *;have hd:=HI.out.alloc (.cells #[.int .i64 kd,.string so] TEv);clear htk hce hcell hy hil s1 s2 s3 hl0 hsm hev;go_upto_region 7 with fail
     clear d0 d1;generalize wr.alloc _=w2 at *;generalize wr.heap.size=gy at *;have c2:=hd.cell;by_cases k0:kd=0
     ·have hs:=t_come t e u c p z so hsz.out.1 hsz.out.2 hss w0 w2 _ (fun w' h=>HN.out w' h.drop.drop.drop) (fun w' h=>HF.out w' h.drop.drop.drop) (fun w' h=>HK.out w' h.drop.drop.drop) (hd.eq (show _=TtAt t e u c p z*(blk gy _*(LAt TEv 2 Ev.cells (.slice (some ⟨g,off,none⟩) n cap) l*(blk ga (.cells #[.slice none 0 0,.slice none 0 0] TRes (0,0))*R))) by ac_rfl))
      rw[if_pos k0] at HT;subst k0;clear HI hd hss;go_wp2_with fail
      refine hs.mono ?_
      rintro r w5 ⟨rfl,h5⟩;have h6:=h5.f2.drop.f2;clear c2 hs h5;go_wp2;go_roundw
      case rel =>
       refine⟨i+1,by omega,by go_num,Lib.hid ?_⟩
       rw[HT.out];exact h6
      case measure=>simp[intOf];omega
     ·rw[if_neg k0] at HT
      have q0:(kd == 0)=false:=by simp[k0]
      have h6:=hd.drop;clear HI hd hss k0;go_wp2;go_roundw
      case rel =>
       refine⟨i+1,by omega,by go_num,Lib.hid ?_⟩
       rw[HT.out];exact h6
      case measure=>simp[intOf];omega
   ·obtain rfl:i=n:=by omega
    have hz:=HI.out.drop;rw[List.take_of_length_le (by have:=HNn.out;omega)] at hz;clear HI;rw[HZ.out] at hz;obtain⟨sv,tv,h1⟩:=hz.tt_open;have s1:=(h1.eq (show _=LAt 9 1 encS sv Z.sent*(LAt TTold 2 tolC tv Z.told*(blk t _*(EnAt e Z.e*(UsAt u Z.u*(CAt c Z.c*(DeAt p Z.d*(blk ga _*R))))))) by ac_rfl)).l_shape;have s2:=(h1.eq (show _=LAt TTold 2 tolC tv Z.told*(LAt 9 1 encS sv Z.sent*(blk t _*(EnAt e Z.e*(UsAt u Z.u*(CAt c Z.c*(DeAt p Z.d*(blk ga _*R))))))) by ac_rfl)).l_shape;obtain⟨ns,hns⟩:∃ n,Z.sent.length=n:=⟨_,rfl⟩;obtain⟨nt,hnt⟩:∃ n,Z.told.length=n:=⟨_,rfl⟩;rw[hns] at s1;rw[hnt] at s2;obtain⟨sa,sc,rfl,_,_⟩:=s1;obtain⟨ta,tc,rfl,_,_⟩:=s2;have c1:=h1.cell;have h2:=h1.eq (show _=blk ga _*(blk t _*(EnAt e Z.e*(UsAt u Z.u*(CAt c Z.c*(DeAt p Z.d*(LAt 9 1 encS (.slice sa ns sc) Z.sent*(LAt TTold 2 tolC (.slice ta nt tc) Z.told*R))))))) by ac_rfl);have cg:=h2.cell;have fg:=h2.free;have h9:=(h2.set 0 (.slice sa ns sc)).set 1 (.slice ta nt tc);clear h1 h2 hz hns hnt;go_wp2;have c9:=h9.cell;refine bodyPost_ret (v:=.tuple #[.agg #[.slice sa ns sc,.slice ta nt tc],.int .i64 0]) (by simp[results,Tryz.results20,go_sem,c9]) rfl ⟨_,_,rfl,?_⟩
    have h10:St w0 _ (TtOff t Z*(LAt 9 1 encS (.slice sa ns sc) Z.sent*(LAt TTold 2 tolC (.slice ta nt tc) Z.told*R))):=St.off_shut (x:=Z) (e:=e) (u:=u) (c:=c) (p:=p) (sv:=.slice sa ns sc) (tv:=.slice ta nt tc) h9.drop;exact h10.b3
end Go.Proofs.YtnnahljdhdippaaGreatDoor
