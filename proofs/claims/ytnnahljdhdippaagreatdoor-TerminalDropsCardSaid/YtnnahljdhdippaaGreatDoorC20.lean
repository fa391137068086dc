/- Parts of a proof (TermF, TermG). No condition. -/
import Derived.Test.YtnnahljdhdippaaGreatDoorC19
namespace Go.Proofs.YtnnahljdhdippaaGreatDoor
set_option maxRecDepth 100000
set_option maxHeartbeats 6400000
open Go.RowKit
theorem users_snoc (x:Tt) (l:List Ue) (y:Ue):x.users (l++[y])=(x.users l).user1 y:=by unfold Tt.users;rw[List.foldl_append];rfl
theorem can_of {t:Int} {l:List Fx} (h:Fxs t l) (ht:l≠[]->t<=126):∀ y ∈ l,y.Can:=fun y hy=>by
 obtain⟨⟨h0,h1,h2⟩,h3⟩:=h y hy;have ht:=ht (fun e=>by rw[e] at hy;cases hy);have ok:∀ t:Int,t=0\/t=200\/t=203->okK (0,t):=fun t ht=>by rcases ht with rfl | rfl | rfl <;> exact⟨by decide,by decide⟩
 refine⟨h2,fun k0=>?_,ok _ (h1.imp (fun e=>e.1) id)⟩
 have f:=h0 k0;have t0:=h3 k0;exact⟨by rw[f.sapi];decide,by rw[f.sapi];decide,by rw[f.tei];exact t0,by rw[f.tei];omega,f.may,f.car,f.ns0,f.ns1,f.nr0,f.nr1⟩
theorem ok202:okK (0,202):=⟨by decide,by decide⟩
theorem t_users (t e u c p:Nat) (x:Tt) (v:Value) (l:List Ue) (hu:Uxs l) (hfit:x.Fit) (hl0:l.length<=1000) (hl:x.len+100000*l.length<=900000000000) (w0 w:World) (R:HP) (hN:∀ w',St w0 w' R->NamesAt w') (hF:∀ w',St w0 w' R->FirstAt w') (hL:∀ w',St w0 w' R->LinkAt w')
  (h:St w0 w (LAt TUe 5 Ue.cells v l*(TtAt t e u c p x*R))) :
  Calls Tryz.prog 64 #[ptr t,v] w fun r w'=>r=.returned (.tuple #[])/\St w0 w' (LAt TUe 5 Ue.cells v l*(TtAt t e u c p (x.users l)*R)):=by
 obtain⟨n,hn⟩:∃ n,l.length=n:=⟨_,rfl⟩;have sh:=h.l_shape;rw[hn] at sh;obtain⟨a,cap,rfl,hcap,hmax⟩:=sh;have HH:=Lib.hid h;have HU:=Lib.hid hu;have HL:=Lib.hid hl;have HN:=Lib.hid hN;have HF:=Lib.hid hF;have HK:=Lib.hid hL;have HI0:=Lib.hid hfit;have HNn:=Lib.hid hn;have hn9:n<=1000:=by omega
 clear h hu hl hl0 hN hF hL hfit hn;go_enter Tryz.func64,Tryz.ntmps64
 go_wp2;go_loopw [14] (fun s14 wr=>∃ i:Nat,i<=n/\s14=.int .i64 i/\Hid (St w0 wr (LAt TUe 5 Ue.cells (.slice a n cap) l*(TtAt t e u c p (x.users (l.take i))*R)))) (fun s14 _=>n - (intOf s14).toNat)
 case atStart=>exact⟨0,by omega,rfl,HH⟩
 case round =>
  clear HH;obtain⟨i,hi,rfl,HI⟩:=hrel;by_cases hlt:i<n
  ·have hil:i<l.length:=by have:=HNn.out;omega
   obtain⟨y,hy⟩:∃ y,l[i]?=some y:=⟨l[i],List.getElem?_eq_getElem hil⟩;have htk:x.users (l.take (i+1))=(x.users (l.take i)).user1 y:=by
    rw[List.take_add_one,hy,Option.toList_some,users_snoc]
   have hcan:=HU.out y (List.mem_of_getElem? hy);obtain⟨s1,s2⟩:=fit_users (l.take i) HI0.out;have s3:(l.take i).length=i:=by rw[List.length_take];omega
   have hll:=HL.out;have hnn:=HNn.out;generalize x.users (l.take i)=z at *;have hsz:=Lib.hid (show z.Fit/\z.sent.length<=900000000000/\z.sent.length+z.told.length<=900000000000 by unfold Tt.len at s2 hll;exact⟨s1,by omega,by omega⟩);rcases HI.out.l_cells tyUe.len with ⟨h0,_⟩ | ⟨g,off,cap',hv,_,_,hcell⟩
   ·rw[h0] at hil;exact absurd hil (by simp)
   ·simp only[Value.slice.injEq] at hv
    obtain⟨rfl,hq,rfl⟩:=hv;clear hq;have hce:=hcell i y hy;obtain⟨kd,⟨f1,f2,f3⟩,tm⟩:=y;have d0:wr.cell? ⟨g,off+i*5,none⟩=some (.int .i64 kd):=hce 0 _ rfl;have d1:wr.cell? ⟨g,off+i*5+1,none⟩=some (.int .i64 f1):=hce 1 _ rfl;have d2:wr.cell? ⟨g,off+i*5+2,none⟩=some (.int .i64 f2):=hce 2 _ rfl;have d3:wr.cell? ⟨g,off+i*5+3,none⟩=some (.int .i64 f3):=hce 3 _ rfl;have d4:wr.cell? ⟨g,off+i*5+4,none⟩=some (.int .i64 tm):=hce 4 _ rfl;have HT:=Lib.hid htk;have hd:=HI.out.alloc (.cells #[.int .i64 kd,.int .i64 f1,.int .i64 f2,.int .i64 f3,.int .i64 tm] TUe);have hcan:=Lib.hid hcan;clear htk hce hcell hy hil s1 s2 s3 hll hnn;go_upto_region 3 with fail
    clear d0 d1 d2 d3 d4;generalize wr.alloc _=w2 at *;generalize wr.heap.size=gy at *;have c2:=hd.cell;by_cases k0:kd=0
    ·have hb:=hcan.out.1 k0
     have hm:=m_frame ⟨f1,f2,f3⟩ w0 w2 _ (fun w' h=>HK.out w' h.drop.drop.drop) hd;rw[hb] at hm;have hz:z.user1 ⟨kd,⟨f1,f2,f3⟩,tm⟩=z.send (Tm.fr ⟨f1,f2,f3⟩):=by unfold Tt.user1;rw[if_pos k0]
     rw[hz] at HT;have hput:=Lib.hid (tm_fr hb).1;generalize Tm.fr ⟨f1,f2,f3⟩=fr at *;obtain⟨a1,a2,cmd,k,pf,ns,nr,inf⟩:=fr;simp only[Fr.cells,Tm.cells] at *;subst k0;clear HI hz hb;go_upto_region 8 with (go_at_call 78;refine hm.mono ?_;rintro e w5 ⟨rfl,h5⟩)
     clear hm c2;have h6:=h5.alloc (.cells #[.int .i64 a1,.int .i64 a2,.bool cmd,.int .i64 k,.bool pf,.int .i64 ns,.int .i64 nr,.string inf] TFr);generalize w5.alloc _=w6 at *;generalize w5.heap.size=gf at *;have c6:=h6.cell;have hs:=t_send t e u c p z ⟨a1,a2,cmd,k,pf,ns,nr,inf⟩ hput.out (by have:=hsz.out.2.1;omega) w0 w6 _ (fun w' h=>HN.out w' h.drop.drop.drop) (fun w' h=>HF.out w' h.drop.drop.drop) (h6.eq (show _=TtAt t e u c p z*(blk gf _*(blk gy _*(LAt TUe 5 Ue.cells (.slice (some ⟨g,off,none⟩) n cap) l*R))) by ac_rfl));simp only[Fr.cells] at hs;clear h5 hd;go_wp2_with fail
     refine hs.mono ?_
     rintro e w7 ⟨rfl,h7⟩;have h8:=(h7.eq (show _=blk gf _*(blk gy _*(LAt TUe 5 Ue.cells (.slice (some ⟨g,off,none⟩) n cap) l*(TtAt t e u c p _*R))) by ac_rfl)).drop.drop;clear c6 hs h6 h7;go_wp2;go_roundw
     case rel =>
      refine⟨i+1,by omega,by go_num,Lib.hid ?_⟩
      rw[HT.out];exact h8
     case measure=>simp[intOf];omega
    have q0:(kd == 0)=false:=by simp[k0]
    by_cases k4:kd=4
    ·have hs:=t_start t e u c p z 202 ok202 w0 w2 _ (hd.eq (show _=TtAt t e u c p z*(blk gy _*(LAt TUe 5 Ue.cells (.slice (some ⟨g,off,none⟩) n cap) l*R)) by ac_rfl))
     have hz:z.user1 ⟨kd,⟨f1,f2,f3⟩,tm⟩=z.start 202:=by unfold Tt.user1;rw[if_neg k0,if_pos k4]
     rw[hz] at HT;subst k4;clear HI hz hd k0 q0;go_wp2_with fail
     refine hs.mono ?_
     rintro e w5 ⟨rfl,h5⟩;have h6:=(h5.eq (show _=blk gy _*(LAt TUe 5 Ue.cells (.slice (some ⟨g,off,none⟩) n cap) l*(TtAt t e u c p _*R)) by ac_rfl)).drop;clear c2 hs h5;go_wp2;go_roundw
     case rel =>
      refine⟨i+1,by omega,by go_num,Lib.hid ?_⟩
      rw[HT.out];exact h6
     case measure=>simp[intOf];omega
    have q4:(kd == 4)=false:=by simp[k4]
    obtain⟨sv,tv,h1⟩:=(hd.eq (show _=TtAt t e u c p z*(blk gy _*(LAt TUe 5 Ue.cells (.slice (some ⟨g,off,none⟩) n cap) l*R)) by ac_rfl)).tt_open;by_cases k5:kd=5
    ·have hz:z.user1 ⟨kd,⟨f1,f2,f3⟩,tm⟩=z.stop 202:=by unfold Tt.user1;rw[if_neg k0,if_neg k4,if_pos k5]
     rw[hz] at HT;have hs:=c_stop c z.c (0,202) ok202 w0 w2 _ h1.f4;have c3:=h1.cell;subst k5;clear HI hz hd k0 q0 k4 q4;go_wp2_with fail
     refine hs.mono ?_
     rintro r w5 ⟨rfl,h5⟩;have h6:St w0 w5 (TtAt t e u c p (z.stop 202)*(blk gy _*(LAt TUe 5 Ue.cells (.slice (some ⟨g,off,none⟩) n cap) l*R))):=St.tt_shut (x:=z.stop 202) (e:=e) (u:=u) (c:=c) (p:=p) (sv:=sv) (tv:=tv) (h5.eq (by ac_rfl));have h7:=(h6.eq (show _=blk gy _*(LAt TUe 5 Ue.cells (.slice (some ⟨g,off,none⟩) n cap) l*(TtAt t e u c p _*R)) by ac_rfl)).drop;clear c2 c3 hs h1 h5 h6;go_wp2;go_roundw
     case rel =>
      refine⟨i+1,by omega,by go_num,Lib.hid ?_⟩
      rw[HT.out];exact h7
     case measure=>simp[intOf];omega
    have q5:(kd == 5)=false:=by simp[k5]
    by_cases k1:kd=1
    ·have hz:z.user1 ⟨kd,⟨f1,f2,f3⟩,tm⟩=(z.setE (z.e.assign tm).1).links0 (z.e.assign tm).2.1:=by unfold Tt.user1;rw[if_neg k0,if_neg k4,if_neg k5,if_pos k1]
     rw[hz] at HT;have fe:=hsz.out.1.e;obtain⟨fa,fb,fc⟩:=fit_assign fe tm;have ln:=assign_len z.e (out0 fe) fe.ok.b.un tm;have HA:=Lib.hid (And.intro (can_of fb fc) ln);have ha:=e_assign e z.e tm fe.ok.b.fl (by have:=fe.ok.b.un;omega) (by rw[fe.out];decide) w0 w2.drew _ h1.f2.drew;have e1:w2.drew.cell? ⟨t,6,none⟩=some (ptr e):=(h1.drew.cell 6).trans rfl;have e2:w2.drew.cell? ⟨gy,4,none⟩=some (.int .i64 tm):=(hd.drew.cell 4).trans rfl;generalize z.e.assign tm=A at *;obtain⟨A1,A2,A3⟩:=A;simp only[] at ha HA HT;subst k1;clear HI hz hd k0 q0 k4 q4 k5 q5 fe fa fb fc ln;go_upto_region 14 with fail
     refine wp_region_held_drew (S:=fun wx=>wx.cell? ⟨t,6,none⟩=some (ptr e)/\wx.cell? ⟨gy,4,none⟩=some (.int .i64 tm)) (by kernel_rfl) ⟨e1,e2⟩ (fun hHeld=>?_)
     clear e1 e2 c2 h1;generalize w2.drew=wd at *;refine tk 0 ?_ rfl (fun w hSw=>?_) ?_
     rotate_left 1
     ·try dsimp only at hSw
      go_simp
      try with_reducible rfl
     try simp only[Act.put,sl]
     refine tk 1 ?_ rfl (fun w hSw=>?_) ?_
     rotate_left 1
     ·try dsimp only at hSw
      go_simp
      try with_reducible rfl
     try simp only[Act.put,sl]
     refine tk 2 ?_ rfl (fun w hSw=>?_) ?_
     rotate_left 1
     ·try dsimp only at hSw
      go_simp
      try with_reducible rfl
     try simp only[Act.put,sl]
     refine tk 3 ?_ rfl (fun w hSw=>?_) ?_
     rotate_left 1
     ·try dsimp only at hSw
      go_simp
      try with_reducible rfl
     try simp only[Act.put,sl]
     refine tk 4 ?_ rfl (fun w hSw=>?_) ?_
     rotate_left 1
     ·try dsimp only at hSw
      go_simp
      try with_reducible rfl
     try simp only[Act.put,sl]
     refine tk 5 ?_ rfl (fun w hSw=>?_) ?_
     rotate_left 1
     ·try dsimp only at hSw
      go_simp
      try with_reducible rfl
     try simp only[Act.put,sl]
     refine rd 6 rfl (fun K hK=>?_)
     go_simp
     go_at_call 129
     refine ha.mono ?_
     rintro r w5 ⟨v5,rfl,h5⟩;have c5:=h5.eq (show _=blk t (.cells (z.cells e u c p sv tv) TTt (0,0))*(blk gy _*(LAt TFx 11 Fx.cells v5 A2*(EnAt e A1*(UsAt u z.u*(CAt c z.c*(DeAt p z.d*(LAt 9 1 encS sv z.sent*(LAt TTold 2 tolC tv z.told*(LAt TUe 5 Ue.cells (.slice (some ⟨g,off,none⟩) n cap) l*R))))))))) by ac_rfl);clear h5 ha;go_simp
     refine hK.out _ _ ⟨(c5.cell 6).trans rfl,(c5.f2.cell 4).trans rfl⟩ (fun hHeld=>?_)
     clear hK K;try simp only[Act.put,sl]
     refine tk 7 ?_ rfl (fun w hSw=>?_) ?_
     rotate_left 1
     ·try dsimp only at hSw
      go_simp
      try with_reducible rfl
     try simp only[Act.put,sl]
     refine tk 8 ?_ rfl (fun w hSw=>?_) ?_
     rotate_left 1
     ·try dsimp only at hSw
      go_simp
      try with_reducible rfl
     try simp only[Act.put,sl]
     refine tk 9 ?_ rfl (fun w hSw=>?_) ?_
     rotate_left 1
     ·try dsimp only at hSw
      go_simp
      try with_reducible rfl
     try simp only[Act.put,sl]
     refine tk 10 ?_ rfl (fun w hSw=>?_) ?_
     rotate_left 1
     ·try dsimp only at hSw
      go_simp
      try with_reducible rfl
     try simp only[Act.put,sl]
     refine tk 11 ?_ rfl (fun w hSw=>?_) ?_
     rotate_left 1
     ·try dsimp only at hSw
      go_simp
      try with_reducible rfl
     try simp only[Act.put,sl]
     refine wpAnyH_done (by kernel_rfl) ?_ _
     clear hHeld;have h6:St w0 w5 (TtAt t e u c p (z.setE A1)*(LAt TFx 11 Fx.cells v5 A2*(LAt TUe 5 Ue.cells (.slice (some ⟨g,off,none⟩) n cap) l*R))):=St.tt_shut (x:=z.setE A1) (e:=e) (u:=u) (c:=c) (p:=p) (sv:=sv) (tv:=tv) (c5.f2.drop.eq (by ac_rfl));have hs:=t_links0 t e u c p (z.setE A1) v5 A2 HA.out.1 (by have:=HA.out.2;omega) (by have h1:=HA.out.2;have h2:=hsz.out.2.2;show z.sent.length+z.told.length+A2.length<=_;omega) w0 w5 _ (fun w' h=>HN.out w' h.drop) (fun w' h=>HF.out w' h.drop) (h6.eq (show _=LAt TFx 11 Fx.cells v5 A2*(TtAt t e u c p (z.setE A1)*(LAt TUe 5 Ue.cells (.slice (some ⟨g,off,none⟩) n cap) l*R)) by ac_rfl));clear c5 h6;go_wp2_with fail
     refine hs.mono ?_
     rintro er w7 ⟨rfl,h7⟩;have h8:=h7.drop.f2;clear hs h7;go_wp2;go_roundw
     case rel =>
      refine⟨i+1,by omega,by go_num,Lib.hid ?_⟩
      rw[HT.out];exact h8
     case measure=>simp[intOf];omega
    have q1:(kd == 1)=false:=by simp[k1]
    have hz:z.user1 ⟨kd,⟨f1,f2,f3⟩,tm⟩=(z.setE z.e.remove.1).links0 z.e.remove.2.1:=by unfold Tt.user1;rw[if_neg k0,if_neg k4,if_neg k5,if_neg k1]
    rw[hz] at HT;have fe:=hsz.out.1.e;obtain⟨fa,fb⟩:=fit_remove fe;have ln:=remove_len z.e (out0 fe);have HA:=Lib.hid (And.intro (can_of fb (fun _=>fe.wd.t)) ln);have ha:=e_remove e z.e fe.ok.b.fl fe.out w0 w2 _ h1.f2;have c3:=h1.cell;generalize z.e.remove=A at *;obtain⟨A1,A2,A3⟩:=A;simp only[] at ha HA HT;clear HI hz hd k0 k4 k5 k1 fe fa fb ln;go_upto_region 5 with (go_at_call 68;refine ha.mono ?_;rintro er w5 ⟨v5,rfl,h5⟩)
    clear ha c2 c3 h1;have h6:St w0 w5 (TtAt t e u c p (z.setE A1)*(LAt TFx 11 Fx.cells v5 A2*(blk gy _*(LAt TUe 5 Ue.cells (.slice (some ⟨g,off,none⟩) n cap) l*R)))):=St.tt_shut (x:=z.setE A1) (e:=e) (u:=u) (c:=c) (p:=p) (sv:=sv) (tv:=tv) (h5.eq (by ac_rfl));have h7:=(h6.eq (show _=blk gy _*(LAt TFx 11 Fx.cells v5 A2*(TtAt t e u c p (z.setE A1)*(LAt TUe 5 Ue.cells (.slice (some ⟨g,off,none⟩) n cap) l*R))) by ac_rfl)).drop;have hs:=t_links0 t e u c p (z.setE A1) v5 A2 HA.out.1 (by have:=HA.out.2;omega) (by have h1:=HA.out.2;have h2:=hsz.out.2.2;show z.sent.length+z.told.length+A2.length<=_;omega) w0 w5 _ (fun w' h=>HN.out w' h.drop) (fun w' h=>HF.out w' h.drop) h7;clear h5 h6 h7;go_wp2_with fail
    refine hs.mono ?_
    rintro er w7 ⟨rfl,h8⟩;have h9:=h8.drop.f2;clear hs h8;go_wp2;go_roundw
    case rel =>
     refine⟨i+1,by omega,by go_num,Lib.hid ?_⟩
     rw[HT.out];exact h9
    case measure=>simp[intOf];omega
  ·obtain rfl:i=n:=by omega
   have hz:=HI.out;rw[List.take_of_length_le (by have:=HNn.out;omega)] at hz;clear HI;go_wp2;go_end0
   exact⟨rfl,hz⟩
theorem t_wish (t e u c p:Nat) (x:Tt) (v:Value) (hfit:x.Fit) (hl:x.len<=800000000000) (w0 w:World) (R:HP) (hN:∀ w',St w0 w' R->NamesAt w') (hF:∀ w',St w0 w' R->FirstAt w') (hL:∀ w',St w0 w' R->LinkAt w')
  (h:St w0 w (LAt TFx 11 Fx.cells v [Fx.of 8 noStr]*(TtAt t e u c p x*R))) :
  Calls Tryz.prog 43 #[ptr t,v] w fun r w'=>r=.returned (.tuple #[])/\St w0 w' (LAt TFx 11 Fx.cells v [Fx.of 8 noStr]*(TtAt t e u c p (x.links [Fx.of 8 noStr])*R)):=by
 obtain⟨a,cap,rfl,hcap,hmax⟩:=h.l_shape;have HH:=Lib.hid h;have HI0:=Lib.hid hfit;have HL:=Lib.hid hl;have HN:=Lib.hid hN;have HF:=Lib.hid hF;have HK:=Lib.hid hL;clear h hl hN hF hL hfit;simp only[List.length_singleton] at *;go_enter Tryz.func43,Tryz.ntmps43
 go_wp2;go_loopw [10] (fun s10 wr=>(s10=.int .i64 0/\Hid (St w0 wr (LAt TFx 11 Fx.cells (.slice a 1 cap) [Fx.of 8 noStr]*(TtAt t e u c p x*R))))\/(s10=.int .i64 1/\Hid (St w0 wr (LAt TFx 11 Fx.cells (.slice a 1 cap) [Fx.of 8 noStr]*(TtAt t e u c p (x.links [Fx.of 8 noStr])*R))))) (fun s10 _=>1 - (intOf s10).toNat)
 case atStart=>exact .inl ⟨rfl,HH⟩
 case round =>
  clear HH;rcases hrel with ⟨rfl,HI⟩ | ⟨rfl,HI⟩
  ·rcases HI.out.l_cells tyFx.len with ⟨h0,_⟩ | ⟨g,off,cap',hv,_,_,hcell⟩
   ·exact absurd h0 (by simp)
   ·simp only[Value.slice.injEq] at hv
    obtain⟨rfl,hq,rfl⟩:=hv;clear hq;have hce:=hcell 0 _ rfl;have d0:wr.cell? ⟨g,off,none⟩=some (.int .i64 8):=hce 0 _ rfl;have d1:wr.cell? ⟨g,off+1,none⟩=some (.int .i64 0):=hce 1 _ rfl;have d2:wr.cell? ⟨g,off+2,none⟩=some (.int .i64 0):=hce 2 _ rfl;have d3:wr.cell? ⟨g,off+3,none⟩=some (.bool false):=hce 3 _ rfl;have d4:wr.cell? ⟨g,off+4,none⟩=some (.int .i64 0):=hce 4 _ rfl;have d5:wr.cell? ⟨g,off+5,none⟩=some (.bool false):=hce 5 _ rfl;have d6:wr.cell? ⟨g,off+6,none⟩=some (.int .i64 0):=hce 6 _ rfl;have d7:wr.cell? ⟨g,off+7,none⟩=some (.int .i64 0):=hce 7 _ rfl;have d8:wr.cell? ⟨g,off+8,none⟩=some (.string noStr):=hce 8 _ rfl;have d9:wr.cell? ⟨g,off+9,none⟩=some (.string noStr):=hce 9 _ rfl;have d10:wr.cell? ⟨g,off+10,none⟩=some (.int .i64 0):=hce 10 _ rfl;have hd:=HI.out.alloc (.cells #[.int .i64 8,.int .i64 0,.int .i64 0,.bool false,.int .i64 0,.bool false,.int .i64 0,.int .i64 0,.string noStr,.string noStr,.int .i64 0] TFx);clear hce hcell;go_upto_region 3 with fail
    clear d0 d1 d2 d3 d4 d5 d6 d7 d8 d9 d10;generalize wr.alloc _=w2 at *;generalize wr.heap.size=gy at *;have c2:=hd.cell;obtain⟨sv,tv,h1⟩:=(hd.eq (show _=TtAt t e u c p x*(blk gy _*(LAt TFx 11 Fx.cells (.slice (some ⟨g,off,none⟩) 1 cap) [Fx.of 8 noStr]*R)) by ac_rfl)).tt_open;have c3:=h1.cell;have hw:=u_want u x.u w0 w2 _ h1.f3;have hf0:=HI0.out;obtain⟨fa,fb⟩:=us_want hf0.u;have ln:=us_want_len x.u;have e8:=Lib.hid (links_wish x);have hf1:(x.setU x.u.want.1).Fit:=fit_setU hf0 fa;generalize x.u.want=A at *;obtain⟨A1,A2,A3⟩:=A;simp only[] at hw fa fb ln hf1 e8;have HA:=Lib.hid (And.intro fb (And.intro hf1 ln));clear HI hd hf0 hf1 fa fb ln;go_upto_region 13 with (go_at_call 91;refine hw.mono ?_;rintro er w5 ⟨v5,rfl,h5⟩)
    clear hw c2 c3 h1;have h6:St w0 w5 (TtAt t e u c p (x.setU A1)*(LAt TUe 5 Ue.cells v5 A2*(blk gy _*(LAt TFx 11 Fx.cells (.slice (some ⟨g,off,none⟩) 1 cap) [Fx.of 8 noStr]*R)))):=St.tt_shut (x:=x.setU A1) (e:=e) (u:=u) (c:=c) (p:=p) (sv:=sv) (tv:=tv) (h5.eq (by ac_rfl));have h7:=(h6.eq (show _=blk gy _*(LAt TUe 5 Ue.cells v5 A2*(TtAt t e u c p (x.setU A1)*(LAt TFx 11 Fx.cells (.slice (some ⟨g,off,none⟩) 1 cap) [Fx.of 8 noStr]*R))) by ac_rfl)).drop;have hs:=t_users t e u c p (x.setU A1) v5 A2 HA.out.1 HA.out.2.1 (by have:=HA.out.2.2;omega) (by have h1:=HA.out.2.2;have h2:=HL.out;show x.len+100000*A2.length<=_;omega) w0 w5 _ (fun w' h=>HN.out w' h.drop) (fun w' h=>HF.out w' h.drop) (fun w' h=>HK.out w' h.drop) h7;clear h5 h6 h7;go_wp2_with fail
    refine hs.mono ?_
    rintro er w7 ⟨rfl,h8⟩;have h9:=h8.drop.f2;clear hs h8;go_wp2;go_roundw
    case rel =>
     refine .inr ⟨by go_num,Lib.hid ?_⟩
     rw[e8.out];exact h9
    case measure=>simp[intOf]
  ·have hz:=HI.out
   clear HI;go_wp2;go_end0
   exact⟨rfl,hz⟩
theorem t_links (t e u c p:Nat) (x:Tt) (v:Value) (l:List Fx) (s:Int) (hx:Fxs s l\/l=[Fx.of 8 noStr]) (hs:s<=126) (hfit:x.Fit) (hl0:l.length<=100000) (hl:x.len<=800000000000) (w0 w:World) (R:HP) (hN:∀ w',St w0 w' R->NamesAt w') (hF:∀ w',St w0 w' R->FirstAt w') (hL:∀ w',St w0 w' R->LinkAt w')
  (h:St w0 w (LAt TFx 11 Fx.cells v l*(TtAt t e u c p x*R))) :
  Calls Tryz.prog 43 #[ptr t,v] w fun r w'=>r=.returned (.tuple #[])/\St w0 w' (LAt TFx 11 Fx.cells v l*(TtAt t e u c p (x.links l)*R)):=by
 rcases hx with hx | rfl
 ·rw[links_eq l x (fun z hz=>(hx z hz).1.2.2)]
  exact t_links0 t e u c p x v l (can_of hx (fun _=>hs)) (by omega) (by unfold Tt.len at hl;omega) w0 w R hN hF h
 ·exact t_wish t e u c p x v hfit hl w0 w R hN hF hL h
abbrev TRes:TypeId:=54
theorem t_ask (t:Nat) (x:Tt) (now a:Int) (d:ByteArray) (hfit:x.Fit) (w0 w:World) (R:HP) (hN:∀ w',St w0 w' R->NamesAt w') (hF:∀ w',St w0 w' R->FirstAt w') (hL:∀ w',St w0 w' R->LinkAt w') (h:St w0 w (TtOff t x*R)) :
  Calls Tryz.prog 17 #[ptr t,.int .i64 now,.int .i64 a,.string d] w fun r w'=>∃ sv tv,r=.returned (.tuple #[.agg #[sv,tv],.int .i64 (x.ask now a d).2])/\St w0 w' (LAt 9 1 encS sv (x.ask now a d).1.sent*(LAt TTold 2 tolC tv (x.ask now a d).1.told*(TtOff t (x.ask now a d).1*R))):=by
 have h1:=h.alloc (.cells #[.slice none 0 0,.slice none 0 0] TRes);unfold Tt.ask;by_cases hb:badNow now=true
 ·rw[if_pos hb]
  have hc:=t_begin_bad t x now hb w0 _ _ h1.f2;go_enter Tryz.func17,Tryz.ntmps17
  go_upto_region 1 with fail
  generalize w.alloc _=wa at *;generalize w.heap.size=ga at *;go_wp2_with fail
  refine hc.mono ?_
  rintro r w5 ⟨rfl,h5⟩;clear hc h1;have h6:=h5.f2;have c6:=h6.cell;have f6:=h6.free;have h9:=(h6.set 0 (.slice none 0 0)).set 1 (.slice none 0 0);clear h5 h6;go_wp2;have c9:=h9.cell;refine bodyPost_ret (v:=.tuple #[.agg #[.slice none 0 0,.slice none 0 0],.int .i64 2]) (by simp[results,Tryz.results17,go_sem,c9]) rfl ⟨_,_,rfl,?_⟩
  exact (h9.drop.l_nil TTold 2 tolC).l_nil 9 1 encS
 ·rw[if_neg hb]
  have hb:badNow now=false:=by simpa using hb
  have hc:=t_begin t x now hb w0 _ _ h1.f2;have hft:=Lib.hid (fit_begin hfit now);have HN:=Lib.hid hN;have HF:=Lib.hid hF;have HK:=Lib.hid hL;have hlen:(x.begin now).len=0:=rfl;have HE:=Lib.hid (show (x.begin now).e=x.e from rfl);clear hN hF hL hfit hb h;generalize x.begin now=X at *;dsimp only;have hfe:=hft.out.e;rw[← HE.out];obtain⟨fa,fb⟩:=fit_ask hfe a d;have ln:=ask_len X.e (out0 hfe) a d;have hfx:=fit_setE hft.out fa;have hk:=fun e w h=>e_ask e X.e a d hfe.ok.b.fl (by rw[hfe.out];decide) hfe.out w0 w (R:=h)
  obtain⟨A,hA⟩:∃ A,X.e.ask a d=A:=⟨_,rfl⟩;rw[hA] at fa fb ln hfx hk ⊢;obtain⟨A1,A2,A3⟩:=A;simp only[] at *;have HA:=Lib.hid (show (Fxs X.e.tei A2\/A2=[Fx.of 8 noStr])/\X.e.tei<=126/\(X.setE A1).Fit/\A2.length<=100000/\(X.setE A1).len=0 from ⟨fb.imp id (fun e=>e.1),hfe.wd.t,hfx,ln,hlen⟩);obtain⟨Y,hY⟩:∃ Y,(X.setE A1).links A2=Y:=⟨_,rfl⟩;rw[hY];have HY:=Lib.hid hY;clear hA hlen fa fb ln hfx hft hfe HE hY;go_enter Tryz.func17,Tryz.ntmps17
  go_upto_region 1 with fail
  generalize w.alloc _=wa at *;generalize w.heap.size=ga at *;go_upto_region 2 with (go_at_call 41;refine hc.mono ?_;rintro r w5 ⟨e,u,c,p,rfl,h5⟩)
  clear hc h1;obtain⟨sv,tv,h6⟩:=h5.tt_open;have c6:=h6.cell;have hq:=hk e w5 _ h6.f2;clear hk;go_upto_region 5 with (go_at_call 42;refine hq.mono ?_;rintro r w7 ⟨v7,rfl,h7⟩)
  clear hq h5 h6 c6;have h8:St w0 w7 (TtAt t e u c p (X.setE A1)*(LAt TFx 11 Fx.cells v7 A2*(blk ga (.cells #[.slice none 0 0,.slice none 0 0] TRes (0,0))*R))):=St.tt_shut (x:=X.setE A1) (e:=e) (u:=u) (c:=c) (p:=p) (sv:=sv) (tv:=tv) (h7.eq (by ac_rfl));have hs:=t_links t e u c p (X.setE A1) v7 A2 X.e.tei HA.out.1 HA.out.2.1 HA.out.2.2.1 HA.out.2.2.2.1 (by rw[HA.out.2.2.2.2];decide) w0 w7 _ (fun w' h=>HN.out w' h.drop) (fun w' h=>HF.out w' h.drop) (fun w' h=>HK.out w' h.drop) h8.f2;clear h7 h8;rw[HY.out] at hs;go_upto_region 6 with (go_at_call 43;refine hs.mono ?_;rintro r w9 ⟨rfl,h9⟩)
  clear hs;have hz:=h9.drop;clear h9;clear HN HF HK HA HY;obtain⟨sv,tv,h1⟩:=hz.tt_open;have s1:=(h1.eq (show _=LAt 9 1 encS sv Y.sent*(LAt TTold 2 tolC tv Y.told*(blk t _*(EnAt e Y.e*(UsAt u Y.u*(CAt c Y.c*(DeAt p Y.d*(blk ga _*R))))))) by ac_rfl)).l_shape;have s2:=(h1.eq (show _=LAt TTold 2 tolC tv Y.told*(LAt 9 1 encS sv Y.sent*(blk t _*(EnAt e Y.e*(UsAt u Y.u*(CAt c Y.c*(DeAt p Y.d*(blk ga _*R))))))) by ac_rfl)).l_shape;obtain⟨ns,hns⟩:∃ n,Y.sent.length=n:=⟨_,rfl⟩;obtain⟨nt,hnt⟩:∃ n,Y.told.length=n:=⟨_,rfl⟩;rw[hns] at s1;rw[hnt] at s2;obtain⟨sa,sc,rfl,_,_⟩:=s1;obtain⟨ta,tc,rfl,_,_⟩:=s2;have c1:=h1.cell;have h2:=h1.eq (show _=blk ga _*(blk t _*(EnAt e Y.e*(UsAt u Y.u*(CAt c Y.c*(DeAt p Y.d*(LAt 9 1 encS (.slice sa ns sc) Y.sent*(LAt TTold 2 tolC (.slice ta nt tc) Y.told*R))))))) by ac_rfl);have cg:=h2.cell;have fg:=h2.free;have h9:=(h2.set 0 (.slice sa ns sc)).set 1 (.slice ta nt tc);clear h1 h2 hz hns hnt;go_wp2;have c9:=h9.cell;refine bodyPost_ret (v:=.tuple #[.agg #[.slice sa ns sc,.slice ta nt tc],.int .i64 A3]) (by simp[results,Tryz.results17,go_sem,c9]) rfl ⟨_,_,rfl,?_⟩
  have h10:St w0 _ (TtOff t Y*(LAt 9 1 encS (.slice sa ns sc) Y.sent*(LAt TTold 2 tolC (.slice ta nt tc) Y.told*R))):=St.off_shut (x:=Y) (e:=e) (u:=u) (c:=c) (p:=p) (sv:=.slice sa ns sc) (tv:=.slice ta nt tc) h9.drop;exact h10.b3
end Go.Proofs.YtnnahljdhdippaaGreatDoor
