/- Parts of a proof (TermJ, TermK, TermL). No condition. -/
import Derived.Test.YtnnahljdhdippaaGreatDoorC21
namespace Go.Proofs.YtnnahljdhdippaaGreatDoor
set_option maxRecDepth 100000
set_option maxHeartbeats 6400000
open Go.RowKit
theorem due_mem {c:Tms} {now:Int} {k:Key} (h:k ∈ dueK c now):∃ v,(k,v) ∈ c:=by
 have h1:=(sortK_perm c _).mem_iff.1 h;obtain⟨p,hp,rfl⟩:=List.mem_map.1 h1;exact⟨p.2,(List.mem_filter.1 hp).1⟩
theorem due_keys {c:Tms} (h:Keys c) {now:Int} {k:Key} (hk:k ∈ dueK c now):k=(0,200)\/k=(0,202)\/k=(0,203):=by
 obtain⟨v,hv⟩:=due_mem hk;exact h.2 _ hv
theorem due_len {c:Tms} (now:Int):(dueK c now).length<=c.length:=by
 unfold dueK;rw[(sortK_perm c _).length_eq,List.length_map];exact List.length_filter_le _ _
theorem overs_snoc (x:Tt) (l:List Key) (y:Key):(l++[y]).foldl Tt.over x=(l.foldl Tt.over x).over y:=by rw[List.foldl_append];rfl
theorem t_tick (t:Nat) (x:Tt) (now:Int) (hfit:x.Fit) (w0 w:World) (R:HP) (hN:∀ w',St w0 w' R->NamesAt w') (hF:∀ w',St w0 w' R->FirstAt w') (hL:∀ w',St w0 w' R->LinkAt w') (h:St w0 w (TtOff t x*R)) :
  Calls Tryz.prog 27 #[ptr t,.int .i64 now] w fun r w'=>∃ sv tv,r=.returned (.tuple #[.agg #[sv,tv],.int .i64 (x.tick now).2])/\St w0 w' (LAt 9 1 encS sv (x.tick now).1.sent*(LAt TTold 2 tolC tv (x.tick now).1.told*(TtOff t (x.tick now).1*R))):=by
 have h1:=h.alloc (.cells #[.slice none 0 0,.slice none 0 0] TRes);unfold Tt.tick;by_cases hb:badNow now=true
 ·rw[if_pos hb]
  have hc:=t_begin_bad t x now hb w0 _ _ h1.f2;go_enter Tryz.func27,Tryz.ntmps27
  go_upto_region 1 with fail
  generalize w.alloc _=wa at *;generalize w.heap.size=ga at *;go_wp2_with fail
  refine hc.mono ?_
  rintro r w5 ⟨rfl,h5⟩;clear hc h1;have h6:=h5.f2;have c6:=h6.cell;have f6:=h6.free;have h9:=(h6.set 0 (.slice none 0 0)).set 1 (.slice none 0 0);clear h5 h6;go_wp2;have c9:=h9.cell;refine bodyPost_ret (v:=.tuple #[.agg #[.slice none 0 0,.slice none 0 0],.int .i64 2]) (by simp[results,Tryz.results27,go_sem,c9]) rfl ⟨_,_,rfl,?_⟩
  exact (h9.drop.l_nil TTold 2 tolC).l_nil 9 1 encS
 ·rw[if_neg hb]
  have hb:badNow now=false:=by simpa using hb
  have hc:=t_begin t x now hb w0 _ _ h1.f2;have hft:=fit_begin hfit now;have HN:=Lib.hid hN;have HF:=Lib.hid hF;have HK:=Lib.hid hL;have hlen:(x.begin now).len=0:=rfl;have hd:(x.begin now).c=x.c:=rfl;clear hN hF hL hb h;rw[← hd];generalize x.begin now=X at *;dsimp only;have hk:=fun c w h=>c_due c X.c now w0 w (R:=h)
  have hfs:=fun k (h:k ∈ dueK X.c now)=>due_keys hft.k h
  have hff:=keys_left hft.k now;have hfl:=due_len (c:=X.c) now;have hkl:=keys_len hft.k;generalize dueK X.c now=l at *;generalize leftK X.c now=A1 at *;have hfx:(X.setC A1).Fit:=⟨hft.e,hft.u,hft.d,hff⟩;obtain⟨n,hn⟩:∃ n,l.length=n:=⟨_,rfl⟩;have hn6:n<=3:=by omega
  have hlen2:(X.setC A1).len=0:=hlen;obtain⟨Z,hZ⟩:∃ Z,l.foldl Tt.over (X.setC A1)=Z:=⟨_,rfl⟩;rw[hZ];have HZ:=Lib.hid hZ;have HA:=Lib.hid (And.intro hfx (And.intro hfs hlen2));have HNn:=Lib.hid hn;have HKL:=Lib.hid (show X.c.length<=100000 by omega);clear hlen hft hd hfit hfs hff hfl hfx hlen2 hn hkl hZ;go_enter Tryz.func27,Tryz.ntmps27
  go_upto_region 1 with fail
  generalize w.alloc _=wa at *;generalize w.heap.size=ga at *;go_upto_region 2 with (go_at_call 41;refine hc.mono ?_;rintro r w5 ⟨e,u,c,p,rfl,h5⟩)
  clear hc h1;obtain⟨sv,tv,h6⟩:=h5.tt_open;have c6:=h6.cell;have hq:=hk c w5 _ h6.f4 HKL.out;clear hk;go_wp2_with fail
  refine hq.mono ?_
  rintro r w7 ⟨v7,rfl,h7⟩;clear hq h5 h6 c6;have h8:St w0 w7 (LAt 186 2 keyC v7 l*(TtAt t e u c p (X.setC A1)*(blk ga (.cells #[.slice none 0 0,.slice none 0 0] TRes (0,0))*R))):=(St.tt_shut (x:=X.setC A1) (e:=e) (u:=u) (c:=c) (p:=p) (sv:=sv) (tv:=tv) (h7.eq (show _=blk t _*(EnAt e X.e*(UsAt u X.u*(CAt c A1*(DeAt p X.d*(LAt 9 1 encS sv X.sent*(LAt TTold 2 tolC tv X.told*(LAt 186 2 keyC v7 l*(blk ga (.cells #[.slice none 0 0,.slice none 0 0] TRes (0,0))*R)))))))) by ac_rfl))).f2;have sh:=h8.l_shape;rw[HNn.out] at sh;obtain⟨a,cap,rfl,hcap,hmax⟩:=sh;have HH:=Lib.hid h8;clear h7 h8;generalize X.setC A1=Y at *;go_wp2;go_loopw [23] (fun s25 wr=>∃ i:Nat,i<=n/\s25=.int .i64 i/\Hid (St w0 wr (LAt 186 2 keyC (.slice a n cap) l*(TtAt t e u c p ((l.take i).foldl Tt.over Y)*(blk ga (.cells #[.slice none 0 0,.slice none 0 0] TRes (0,0))*R))))) (fun s25 _=>n - (intOf s25).toNat)
  case atStart=>exact⟨0,by omega,rfl,HH⟩
  case round =>
   clear HH;obtain⟨i,hi,rfl,HI⟩:=hrel;by_cases hlt:i<n
   ·have hil:i<l.length:=by have:=HNn.out;omega
    obtain⟨y,hy⟩:∃ y,l[i]?=some y:=⟨l[i],List.getElem?_eq_getElem hil⟩;have htk:(l.take (i+1)).foldl Tt.over Y=((l.take i).foldl Tt.over Y).over y:=by
     rw[List.take_add_one,hy,Option.toList_some,overs_snoc]
    have hsm:=HA.out.2.1 y (List.mem_of_getElem? hy);obtain⟨s1,s2⟩:=fit_overs (l.take i) HA.out.1;have s3:(l.take i).length=i:=by rw[List.length_take];omega
    have hl0:=HA.out.2.2;generalize (l.take i).foldl Tt.over Y=z at *;have hsz:=Lib.hid (show z.Fit/\z.len<=700000000000 from ⟨s1,by omega⟩);rcases HI.out.l_cells tyKey.len with ⟨h0,_⟩ | ⟨g,off,cap',hv,_,_,hcell⟩
    ·rw[h0] at hil;exact absurd hil (by simp)
    ·simp only[Value.slice.injEq] at hv
     obtain⟨rfl,hq,rfl⟩:=hv;clear hq;have hce:=hcell i y hy;obtain⟨ko,kt⟩:=y;have d0:wr.cell? ⟨g,off+i*2,none⟩=some (.int .i64 ko):=hce 0 _ rfl;have d1:wr.cell? ⟨g,off+i*2+1,none⟩=some (.int .i64 kt):=hce 1 _ rfl;have HT:=Lib.hid htk;have hkt:kt=200\/kt=202\/kt=203:=by
      simp only[Prod.mk.injEq] at hsm;omega
     have hd:=HI.out.alloc (.cells #[.int .i64 ko,.int .i64 kt] 186);clear htk hce hcell hy hil s1 s2 s3 hl0 hsm;go_upto_region 7 with fail
     clear d0 d1;generalize wr.alloc _=w2 at *;generalize wr.heap.size=gy at *;have c2:=hd.cell;obtain⟨sv,tv,h1⟩:=(hd.eq (show _=TtAt t e u c p z*(blk gy _*(LAt 186 2 keyC (.slice (some ⟨g,off,none⟩) n cap) l*(blk ga (.cells #[.slice none 0 0,.slice none 0 0] TRes (0,0))*R))) by ac_rfl)).tt_open;by_cases k0:kt=202
     ·have hz:z.over (ko,kt)=(z.setU z.u.timeout.1).users z.u.timeout.2:=by unfold Tt.over;rw[if_pos k0]
      rw[hz] at HT;have fu:=hsz.out.1.u;obtain⟨fa,fb⟩:=us_timeout fu;have ln:=us_timeout_len z.u;have hfx:=fit_setU hsz.out.1 fa;have hq:=u_timeout u z.u w0 w2 _ h1.f3 (by have h1:=fu.t0;have h2:=fu.tm;have h3:=fu.m32;omega);have c3:=h1.cell;generalize z.u.timeout=A at *;obtain⟨A1,A2⟩:=A;simp only[] at *;have HB:=Lib.hid (And.intro fb (And.intro hfx ln));subst k0;clear HI hd hkt hz fa fb ln hfx fu;go_wp2_with fail
      refine hq.mono ?_
      rintro r wb ⟨vb,rfl,hb⟩;clear hq h1 c2 c3;have hb2:St w0 wb (LAt TUe 5 Ue.cells vb A2*(TtAt t e u c p (z.setU A1)*(blk gy _*(LAt 186 2 keyC (.slice (some ⟨g,off,none⟩) n cap) l*(blk ga (.cells #[.slice none 0 0,.slice none 0 0] TRes (0,0))*R))))):=(St.tt_shut (x:=z.setU A1) (e:=e) (u:=u) (c:=c) (p:=p) (sv:=sv) (tv:=tv) (hb.eq (show _=blk t _*(EnAt e z.e*(UsAt u A1*(CAt c z.c*(DeAt p z.d*(LAt 9 1 encS sv z.sent*(LAt TTold 2 tolC tv z.told*(LAt TUe 5 Ue.cells vb A2*(blk gy _*(LAt 186 2 keyC (.slice (some ⟨g,off,none⟩) n cap) l*(blk ga (.cells #[.slice none 0 0,.slice none 0 0] TRes (0,0))*R)))))))))) by ac_rfl))).f2;have hs:=t_users t e u c p (z.setU A1) vb A2 HB.out.1 HB.out.2.1 (by have:=HB.out.2.2;omega) (by have h1:=HB.out.2.2;have h2:=hsz.out.2;show z.len+100000*A2.length<=_;omega) w0 wb _ (fun w' h=>HN.out w' h.drop.drop.drop) (fun w' h=>HF.out w' h.drop.drop.drop) (fun w' h=>HK.out w' h.drop.drop.drop) hb2;clear hb hb2;go_wp2_with fail
      refine hs.mono ?_
      rintro r wc ⟨rfl,hc⟩;have h6:=hc.drop.f2.drop.f2;clear hs hc;go_wp2;go_roundw
      case rel =>
       refine⟨i+1,by omega,by go_num,Lib.hid ?_⟩
       rw[HT.out];exact h6
      case measure=>simp[intOf];omega
     ·have hz:z.over (ko,kt)=(z.setE (z.e.timeout kt).1).links (z.e.timeout kt).2:=by unfold Tt.over;rw[if_neg k0]
      rw[hz] at HT;have fe:=hsz.out.1.e;obtain⟨fa,fb⟩:=fit_timeout fe kt;have ln:=timeout_len z.e (out0 fe) kt;have hfx:=fit_setE hsz.out.1 fa;have lt:=fe.wd.t;have hq:=e_timeout e z.e kt fe.ok.b.fl (by omega) (by rcases hkt with rfl | rfl | rfl;exact kok _ (by decide) (by decide);exact kok _ (by decide) (by decide);exact kok _ (by decide) (by decide)) (by have h1:=fe.ok.b.tr0;have h2:=fe.ok.b.trm;have h3:=fe.ok.b.m32;omega) (by rw[fe.out];decide) w0 w2.drew _ h1.drew.f2;have q0:(kt == 202)=false:=by simp[k0]
      have e1:w2.drew.cell? ⟨t,6,none⟩=some (ptr e):=(h1.drew.cell 6).trans rfl;have e2:w2.drew.cell? ⟨gy,1,none⟩=some (.int .i64 kt):=(hd.drew.cell 1).trans rfl;generalize z.e.timeout kt=A at *;obtain⟨A1,A2⟩:=A;simp only[] at *;have HB:=Lib.hid (And.intro (And.intro fb lt) (And.intro hfx ln));clear HI hd hkt hz fa fb ln hfx fe lt k0;go_upto_region 9 with fail
      refine wp_region_held_drew (S:=fun wx=>wx.cell? ⟨t,6,none⟩=some (ptr e)/\wx.cell? ⟨gy,1,none⟩=some (.int .i64 kt)) (by kernel_rfl) ⟨e1,e2⟩ (fun hHeld=>?_)
      clear e1 e2 c2 h1 q0;generalize w2.drew=wd at *;refine tk 0 ?_ rfl (fun w hSw=>?_) ?_
      rotate_left 1
      ·try dsimp only at hSw
       go_simp
       try with_reducible rfl
      try simp only[Act.put,sl]
      refine tk 1 ?_ rfl (fun w hSw=>?_) ?_
      rotate_left 1
      ·try dsimp only at hSw
       go_simp
       try with_reducible rfl
      try simp only[Act.put,sl]
      refine tk 2 ?_ rfl (fun w hSw=>?_) ?_
      rotate_left 1
      ·try dsimp only at hSw
       go_simp
       try with_reducible rfl
      try simp only[Act.put,sl]
      refine tk 3 ?_ rfl (fun w hSw=>?_) ?_
      rotate_left 1
      ·try dsimp only at hSw
       go_simp
       try with_reducible rfl
      try simp only[Act.put,sl]
      refine tk 4 ?_ rfl (fun w hSw=>?_) ?_
      rotate_left 1
      ·try dsimp only at hSw
       go_simp
       try with_reducible rfl
      try simp only[Act.put,sl]
      refine tk 5 ?_ rfl (fun w hSw=>?_) ?_
      rotate_left 1
      ·try dsimp only at hSw
       go_simp
       try with_reducible rfl
      try simp only[Act.put,sl]
      refine tk 6 ?_ rfl (fun w hSw=>?_) ?_
      rotate_left 1
      ·try dsimp only at hSw
       go_simp
       try with_reducible rfl
      try simp only[Act.put,sl]
      refine rd 7 rfl (fun K hK=>?_)
      go_simp
      go_at_call 66
      refine hq.mono ?_
      rintro r wb ⟨vb,rfl,hb⟩;have cb:=hb.eq (show _=blk t (.cells (z.cells e u c p sv tv) TTt (0,0))*(blk gy (.cells #[.int .i64 ko,.int .i64 kt] 186 (0,0))*(LAt TFx 11 Fx.cells vb A2*(EnAt e A1*(UsAt u z.u*(CAt c z.c*(DeAt p z.d*(LAt 9 1 encS sv z.sent*(LAt TTold 2 tolC tv z.told*(LAt 186 2 keyC (.slice (some ⟨g,off,none⟩) n cap) l*(blk ga (.cells #[.slice none 0 0,.slice none 0 0] TRes (0,0))*R)))))))))) by ac_rfl);clear hb hq;have hb:St w0 wb (LAt TFx 11 Fx.cells vb A2*(TtAt t e u c p (z.setE A1)*(blk gy (.cells #[.int .i64 ko,.int .i64 kt] 186 (0,0))*(LAt 186 2 keyC (.slice (some ⟨g,off,none⟩) n cap) l*(blk ga (.cells #[.slice none 0 0,.slice none 0 0] TRes (0,0))*R))))):=(St.tt_shut (x:=z.setE A1) (e:=e) (u:=u) (c:=c) (p:=p) (sv:=sv) (tv:=tv) (cb.eq (show _=blk t (.cells (z.cells e u c p sv tv) TTt (0,0))*(EnAt e A1*(UsAt u z.u*(CAt c z.c*(DeAt p z.d*(LAt 9 1 encS sv z.sent*(LAt TTold 2 tolC tv z.told*(LAt TFx 11 Fx.cells vb A2*(blk gy (.cells #[.int .i64 ko,.int .i64 kt] 186 (0,0))*(LAt 186 2 keyC (.slice (some ⟨g,off,none⟩) n cap) l*(blk ga (.cells #[.slice none 0 0,.slice none 0 0] TRes (0,0))*R)))))))))) by ac_rfl))).f2;have hs:=t_links t e u c p (z.setE A1) vb A2 z.e.tei (.inl HB.out.1.1) HB.out.1.2 HB.out.2.1 HB.out.2.2 (by have h2:=hsz.out.2;show z.len<=_;omega) w0 wb _ (fun w' h=>HN.out w' h.drop.drop.drop) (fun w' h=>HF.out w' h.drop.drop.drop) (fun w' h=>HK.out w' h.drop.drop.drop) hb;clear hb;go_simp
      refine hK.out _ _ ⟨(cb.cell 6).trans rfl,(cb.f2.cell 1).trans rfl⟩ (fun hHeld=>?_)
      clear hK K;try simp only[Act.put,sl]
      clear cb;refine rd 8 rfl (fun K hK=>?_)
      go_simp
      go_at_call 43
      refine hs.mono ?_
      rintro r wc ⟨rfl,hb⟩;clear hs;have hz:=hb.drop;obtain⟨sv2,tv2,hc⟩:=hz.tt_open;go_simp
      refine hK.out _ _ ⟨(hc.cell 6).trans rfl,(hz.f2.cell 1).trans rfl⟩ (fun hHeld=>?_)
      clear hK K;try simp only[Act.put,sl]
      refine wpAnyH_done (by kernel_rfl) ?_ _
      have h6:=hz.f2.drop.f2;clear hb hc hz hHeld;go_wp2;go_roundw
      case rel =>
       refine⟨i+1,by omega,by go_num,Lib.hid ?_⟩
       rw[HT.out];exact h6
      case measure=>simp[intOf];omega
   ·obtain rfl:i=n:=by omega
    have hz:=HI.out.drop;rw[List.take_of_length_le (by have:=HNn.out;omega)] at hz;clear HI;rw[HZ.out] at hz;obtain⟨sv,tv,h1⟩:=hz.tt_open;have s1:=(h1.eq (show _=LAt 9 1 encS sv Z.sent*(LAt TTold 2 tolC tv Z.told*(blk t _*(EnAt e Z.e*(UsAt u Z.u*(CAt c Z.c*(DeAt p Z.d*(blk ga _*R))))))) by ac_rfl)).l_shape;have s2:=(h1.eq (show _=LAt TTold 2 tolC tv Z.told*(LAt 9 1 encS sv Z.sent*(blk t _*(EnAt e Z.e*(UsAt u Z.u*(CAt c Z.c*(DeAt p Z.d*(blk ga _*R))))))) by ac_rfl)).l_shape;obtain⟨ns,hns⟩:∃ n,Z.sent.length=n:=⟨_,rfl⟩;obtain⟨nt,hnt⟩:∃ n,Z.told.length=n:=⟨_,rfl⟩;rw[hns] at s1;rw[hnt] at s2;obtain⟨sa,sc,rfl,_,_⟩:=s1;obtain⟨ta,tc,rfl,_,_⟩:=s2;have c1:=h1.cell;have h2:=h1.eq (show _=blk ga _*(blk t _*(EnAt e Z.e*(UsAt u Z.u*(CAt c Z.c*(DeAt p Z.d*(LAt 9 1 encS (.slice sa ns sc) Z.sent*(LAt TTold 2 tolC (.slice ta nt tc) Z.told*R))))))) by ac_rfl);have cg:=h2.cell;have fg:=h2.free;have h9:=(h2.set 0 (.slice sa ns sc)).set 1 (.slice ta nt tc);clear h1 h2 hz hns hnt;go_wp2;have c9:=h9.cell;refine bodyPost_ret (v:=.tuple #[.agg #[.slice sa ns sc,.slice ta nt tc],.int .i64 0]) (by simp[results,Tryz.results27,go_sem,c9]) rfl ⟨_,_,rfl,?_⟩
    have h10:St w0 _ (TtOff t Z*(LAt 9 1 encS (.slice sa ns sc) Z.sent*(LAt TTold 2 tolC (.slice ta nt tc) Z.told*R))):=St.off_shut (x:=Z) (e:=e) (u:=u) (c:=c) (p:=p) (sv:=.slice sa ns sc) (tv:=.slice ta nt tc) h9.drop;exact h10.b3
theorem t_drop (t:Nat) (x:Tt) (now:Int) (hfit:x.Fit) (w0 w:World) (R:HP) (hN:∀ w',St w0 w' R->NamesAt w') (hF:∀ w',St w0 w' R->FirstAt w') (hL:∀ w',St w0 w' R->LinkAt w') (h:St w0 w (TtOff t x*R)) :
  Calls Tryz.prog 29 #[ptr t,.int .i64 now] w fun r w'=>∃ sv tv,r=.returned (.tuple #[.agg #[sv,tv],.int .i64 (x.drop now).2])/\St w0 w' (LAt 9 1 encS sv (x.drop now).1.sent*(LAt TTold 2 tolC tv (x.drop now).1.told*(TtOff t (x.drop now).1*R))):=by
 have h1:=h.alloc (.cells #[.slice none 0 0,.slice none 0 0] TRes);unfold Tt.drop;by_cases hb:badNow now=true
 ·rw[if_pos hb]
  have hc:=t_begin_bad t x now hb w0 _ _ h1.f2;go_enter Tryz.func29,Tryz.ntmps29
  go_upto_region 1 with fail
  generalize w.alloc _=wa at *;generalize w.heap.size=ga at *;go_wp2_with fail
  refine hc.mono ?_
  rintro r w5 ⟨rfl,h5⟩;clear hc h1;have h6:=h5.f2;have c6:=h6.cell;have f6:=h6.free;have h9:=(h6.set 0 (.slice none 0 0)).set 1 (.slice none 0 0);clear h5 h6;go_wp2;have c9:=h9.cell;refine bodyPost_ret (v:=.tuple #[.agg #[.slice none 0 0,.slice none 0 0],.int .i64 2]) (by simp[results,Tryz.results29,go_sem,c9]) rfl ⟨_,_,rfl,?_⟩
  exact (h9.drop.l_nil TTold 2 tolC).l_nil 9 1 encS
 ·rw[if_neg hb]
  have hb:badNow now=false:=by simpa using hb
  have hc:=t_begin t x now hb w0 _ _ h1.f2;have hft:=fit_begin hfit now;have HN:=Lib.hid hN;have HF:=Lib.hid hF;have HK:=Lib.hid hL;have hlen:(x.begin now).len=0:=rfl;have hd:(x.begin now).u=x.u:=rfl;clear hN hF hL hb h;rw[← hd];generalize x.begin now=X at *;dsimp only;obtain⟨fa,fb⟩:=us_drop hft.u;have ln:=us_drop_len X.u;have hfx:=fit_setU hft fa;have hk:=fun u w h=>u_drop u X.u w0 w (R:=h)
  generalize X.u.drop=A at *;obtain⟨A1,A2,A3⟩:=A;simp only[] at *;have hlen2:(X.setU A1).len=0:=hlen;obtain⟨hf2,hl2⟩:=fit_users A2 hfx;obtain⟨Y,hY⟩:∃ Y,(X.setU A1).users A2=Y:=⟨_,rfl⟩;rw[hY] at hf2 hl2 ⊢;obtain⟨ga1,gb1⟩:=fit_remove hf2.e;have gl:=remove_len Y.e (out0 hf2.e);have gx:=fit_setE hf2 ga1;have hr:=fun e w h=>e_remove e Y.e hf2.e.ok.b.fl hf2.e.out w0 w (R:=h)
  have gt:=hf2.e.wd.t;generalize Y.e.remove=B at *;obtain⟨B1,B2,B3⟩:=B;simp only[] at *;obtain⟨hf3,hl3⟩:=fit_links gx (.inl gb1) gl;obtain⟨Z,hZ⟩:∃ Z,(Y.setE B1).links B2=Z:=⟨_,rfl⟩;have gl3:(Y.setE B1).len=Y.len:=rfl;rw[hZ] at hf3 hl3 ⊢;have HA:=Lib.hid (And.intro (And.intro hfx fb) (And.intro (show A2.length<=1000 by omega) (show (X.setU A1).len+100000*A2.length<=900000000000 by omega)));have HB:=Lib.hid (And.intro (And.intro gx gb1) (And.intro gl (And.intro gt (show (Y.setE B1).len<=800000000000 by omega))));have HY:=Lib.hid hY;have HZ:=Lib.hid hZ;have HC:=Lib.hid (show Z.c.length<2 ^ 62 by have:=keys_len hf3.k;omega);clear hlen hft hd hfit fa fb ln hfx hlen2 hf2 hl2 hY ga1 gb1 gl gx gt hf3 hl3 gl3 hZ;go_enter Tryz.func29,Tryz.ntmps29
  go_upto_region 1 with fail
  generalize w.alloc _=wa at *;generalize w.heap.size=ga at *;go_upto_region 2 with (go_at_call 41;refine hc.mono ?_;rintro r w5 ⟨e,u,c,p,rfl,h5⟩)
  clear hc h1;obtain⟨sv,tv,h6⟩:=h5.tt_open;have c6:=h6.cell;have hq:=hk u w5 _ h6.f3;clear hk;go_upto_region 5 with (go_at_call 67;refine hq.mono ?_;rintro r w7 ⟨v7,rfl,h7⟩)
  clear hq h5 h6 c6;have h8:St w0 w7 (LAt TUe 5 Ue.cells v7 A2*(TtAt t e u c p (X.setU A1)*(blk ga (.cells #[.slice none 0 0,.slice none 0 0] TRes (0,0))*R))):=(St.tt_shut (x:=X.setU A1) (e:=e) (u:=u) (c:=c) (p:=p) (sv:=sv) (tv:=tv) (h7.eq (show _=blk t _*(EnAt e X.e*(UsAt u A1*(CAt c X.c*(DeAt p X.d*(LAt 9 1 encS sv X.sent*(LAt TTold 2 tolC tv X.told*(LAt TUe 5 Ue.cells v7 A2*(blk ga (.cells #[.slice none 0 0,.slice none 0 0] TRes (0,0))*R)))))))) by ac_rfl))).f2;have hs:=t_users t e u c p (X.setU A1) v7 A2 HA.out.1.2 HA.out.1.1 HA.out.2.1 HA.out.2.2 w0 w7 _ (fun w' h=>HN.out w' h.drop) (fun w' h=>HF.out w' h.drop) (fun w' h=>HK.out w' h.drop) h8;rw[HY.out] at hs;clear h7 h8;go_upto_region 6 with (go_at_call 64;refine hs.mono ?_;rintro r w9 ⟨rfl,h9⟩)
  clear hs;obtain⟨sv2,tv2,h10⟩:=h9.drop.tt_open;have c10:=h10.cell;have hq:=hr e w9 _ h10.f2;clear hr;go_upto_region 7 with (go_at_call 68;refine hq.mono ?_;rintro r wb ⟨vb,rfl,hb⟩)
  clear hq h9 h10 c10;have hc:St w0 wb (LAt TFx 11 Fx.cells vb B2*(TtAt t e u c p (Y.setE B1)*(blk ga (.cells #[.slice none 0 0,.slice none 0 0] TRes (0,0))*R))):=(St.tt_shut (x:=Y.setE B1) (e:=e) (u:=u) (c:=c) (p:=p) (sv:=sv2) (tv:=tv2) (hb.eq (show _=blk t _*(EnAt e B1*(UsAt u Y.u*(CAt c Y.c*(DeAt p Y.d*(LAt 9 1 encS sv2 Y.sent*(LAt TTold 2 tolC tv2 Y.told*(LAt TFx 11 Fx.cells vb B2*(blk ga (.cells #[.slice none 0 0,.slice none 0 0] TRes (0,0))*R)))))))) by ac_rfl))).f2;have hs:=t_links t e u c p (Y.setE B1) vb B2 Y.e.tei (.inl HB.out.1.2) HB.out.2.2.1 HB.out.1.1 HB.out.2.1 HB.out.2.2.2 w0 wb _ (fun w' h=>HN.out w' h.drop) (fun w' h=>HF.out w' h.drop) (fun w' h=>HK.out w' h.drop) hc;rw[HZ.out] at hs;clear hb hc;go_upto_region 8 with (go_at_call 43;refine hs.mono ?_;rintro r wd ⟨rfl,hd⟩)
  clear hs HN HF HK HA HB HY HZ;obtain⟨sv3,tv3,h11⟩:=hd.drop.tt_open;have c11:=h11.cell;have hq:=c_drop c Z.c 0 w0 wd _ h11.f4 HC.out;go_upto_region 9 with (go_at_call 69;refine hq.mono ?_;rintro r we ⟨rfl,he⟩)
  clear hq h11 c11 hd;have hq:=d_new w0 we _ he;obtain⟨p0,hp0⟩:∃ p0,p0=p:=⟨_,rfl⟩;rw[← hp0] at hq he;clear hp0;go_wp2_with fail
  refine hq.mono ?_
  rintro r wf ⟨p,rfl,hf⟩;clear hq he;have h12:=hf.eq (show _=blk t (.cells (Z.cells e u c p0 sv3 tv3) TTt (0,0))*(EnAt e Z.e*(UsAt u Z.u*(CAt c (dropped Z.c 0)*(DeAt p .new*(LAt 9 1 encS sv3 Z.sent*(LAt TTold 2 tolC tv3 Z.told*(DeAt p0 Z.d*(blk ga (.cells #[.slice none 0 0,.slice none 0 0] TRes (0,0))*R)))))))) by ac_rfl);have c12:=h12.cell;have f12:=h12.free;have h13:=h12.set 9 (ptrD p);go_upto_region 10 with fail
  generalize wf.setCell _ _=wg at *;have hz0:=(St.tt_shut (x:=(Z.setC (dropped Z.c 0)).setD .new) (e:=e) (u:=u) (c:=c) (p:=p) (sv:=sv3) (tv:=tv3) h13);have hz:=(hz0.eq (show _=DeAt p0 Z.d*(TtAt t e u c p ((Z.setC (dropped Z.c 0)).setD .new)*(blk ga (.cells #[.slice none 0 0,.slice none 0 0] TRes (0,0))*R)) by ac_rfl)).drop;clear hz0 h12 h13 c12 f12 hf HC;obtain⟨sv,tv,h1⟩:=hz.tt_open;have s1:=(h1.eq (show _=LAt 9 1 encS sv ((Z.setC (dropped Z.c 0)).setD .new).sent*(LAt TTold 2 tolC tv ((Z.setC (dropped Z.c 0)).setD .new).told*(blk t _*(EnAt e ((Z.setC (dropped Z.c 0)).setD .new).e*(UsAt u ((Z.setC (dropped Z.c 0)).setD .new).u*(CAt c ((Z.setC (dropped Z.c 0)).setD .new).c*(DeAt p ((Z.setC (dropped Z.c 0)).setD .new).d*(blk ga _*R))))))) by ac_rfl)).l_shape;have s2:=(h1.eq (show _=LAt TTold 2 tolC tv ((Z.setC (dropped Z.c 0)).setD .new).told*(LAt 9 1 encS sv ((Z.setC (dropped Z.c 0)).setD .new).sent*(blk t _*(EnAt e ((Z.setC (dropped Z.c 0)).setD .new).e*(UsAt u ((Z.setC (dropped Z.c 0)).setD .new).u*(CAt c ((Z.setC (dropped Z.c 0)).setD .new).c*(DeAt p ((Z.setC (dropped Z.c 0)).setD .new).d*(blk ga _*R))))))) by ac_rfl)).l_shape;obtain⟨ns,hns⟩:∃ n,((Z.setC (dropped Z.c 0)).setD .new).sent.length=n:=⟨_,rfl⟩;obtain⟨nt,hnt⟩:∃ n,((Z.setC (dropped Z.c 0)).setD .new).told.length=n:=⟨_,rfl⟩;rw[hns] at s1;rw[hnt] at s2;obtain⟨sa,sc,rfl,_,_⟩:=s1;obtain⟨ta,tc,rfl,_,_⟩:=s2;have c1:=h1.cell;have h2:=h1.eq (show _=blk ga _*(blk t _*(EnAt e ((Z.setC (dropped Z.c 0)).setD .new).e*(UsAt u ((Z.setC (dropped Z.c 0)).setD .new).u*(CAt c ((Z.setC (dropped Z.c 0)).setD .new).c*(DeAt p ((Z.setC (dropped Z.c 0)).setD .new).d*(LAt 9 1 encS (.slice sa ns sc) ((Z.setC (dropped Z.c 0)).setD .new).sent*(LAt TTold 2 tolC (.slice ta nt tc) ((Z.setC (dropped Z.c 0)).setD .new).told*R))))))) by ac_rfl)
  have cg:=h2.cell;have fg:=h2.free;have h9:=(h2.set 0 (.slice sa ns sc)).set 1 (.slice ta nt tc);clear h1 h2 hz hns hnt;go_wp2;have c9:=h9.cell;refine bodyPost_ret (v:=.tuple #[.agg #[.slice sa ns sc,.slice ta nt tc],.int .i64 0]) (by simp[results,Tryz.results29,go_sem,c9]) rfl ⟨_,_,rfl,?_⟩
  have h10:St w0 _ (TtOff t ((Z.setC (dropped Z.c 0)).setD .new)*(LAt 9 1 encS (.slice sa ns sc) ((Z.setC (dropped Z.c 0)).setD .new).sent*(LAt TTold 2 tolC (.slice ta nt tc) ((Z.setC (dropped Z.c 0)).setD .new).told*R))):=St.off_shut (x:=((Z.setC (dropped Z.c 0)).setD .new)) (e:=e) (u:=u) (c:=c) (p:=p) (sv:=.slice sa ns sc) (tv:=.slice ta nt tc) h9.drop;exact h10.b3
theorem t_next (t:Nat) (x:Tt) (w0 w:World) (R:HP) (h:St w0 w (TtOff t x*R)) :
  Calls Tryz.prog 32 #[ptr t] w fun r w'=>∃ f b,NextIs x.c f b/\r=.returned (.tuple #[.int .i64 f,.bool b])/\St w0 w' (TtOff t x*R):=by
 obtain⟨e,u,c,p,sv,tv,h1⟩:=h.off_open;have c1:=h1.cell;have hq:=c_next c x.c w0 w _ h1.f4;clear h;go_enter Tryz.func32,Tryz.ntmps32
 go_wp2_with fail
 refine hq.mono ?_
 rintro r w2 ⟨f,b,rfl,hi,h2⟩;have h3:St w0 w2 (TtOff t x*R):=St.off_shut (x:=x) (e:=e) (u:=u) (c:=c) (p:=p) (sv:=sv) (tv:=tv) (h2.eq (by ac_rfl));have HI:=Lib.hid hi;clear hq h1 c1 h2 hi;go_wp2;go_ret2
 exact⟨f,b,HI.out,rfl,h3⟩
theorem t_link (t:Nat) (x:Tt) (ok:x.e.fl.Ok) (w0 w:World) (R:HP) (h:St w0 w (TtOff t x*R)) :
  Calls Tryz.prog 16 #[ptr t] w fun r w'=>r=.returned (.agg x.e.view)/\St w0 w' (TtOff t x*R):=by
 have h0:=h.alloc (.cells zeroView 49);obtain⟨e,u,c,p,sv,tv,h1⟩:=h0.f2.off_open;have c1:=h1.cell;have hq:=e_view e x.e ok w0 _ _ h1.f2;clear h h0;obtain⟨V,hV⟩:∃ V,x.e.view=V:=⟨_,rfl⟩;have hV2:∃ (a0 a1 a2:Int) (b3 b4 b5:Bool) (a6 a7 a8 a9:Int) (b10 b11 b12:Bool) (a13 a14:Int),V=#[.int .i64 a0,.int .i64 a1,.int .i64 a2,.bool b3,.bool b4,.bool b5,.int .i64 a6,.int .i64 a7,.int .i64 a8,.int .i64 a9,.bool b10,.bool b11,.bool b12,.int .i64 a13,.int .i64 a14]:=⟨_,_,_,_,_,_,_,_,_,_,_,_,_,_,_,hV.symm⟩;rw[hV] at hq ⊢;obtain⟨a0,a1,a2,b3,b4,b5,a6,a7,a8,a9,b10,b11,b12,a13,a14,rfl⟩:=hV2;clear hV;go_enter Tryz.func16,Tryz.ntmps16
 go_upto_region 1 with fail
 generalize w.alloc _=wa at *;generalize w.heap.size=ga at *;go_wp2_with fail
 refine hq.mono ?_
 rintro r w2 ⟨rfl,h2⟩;clear hq c1 h1;have h3:=h2.eq (show _=blk ga (.cells zeroView 49 (0,0))*(blk t (.cells (x.cells e u c p sv tv) TTt (0,0))*(EnAt e x.e*(UsAt u x.u*(CAt c x.c*(DeAt p x.d*R))))) by ac_rfl);have c3:=h3.cell;have f3:=h3.free;have h4:=(((((((((((((((h3.set 0 (.int .i64 a0)).set 1 (.int .i64 a1)).set 2 (.int .i64 a2)).set 3 (.bool b3)).set 4 (.bool b4)).set 5 (.bool b5)).set 6 (.int .i64 a6)).set 7 (.int .i64 a7)).set 8 (.int .i64 a8)).set 9 (.int .i64 a9)).set 10 (.bool b10)).set 11 (.bool b11)).set 12 (.bool b12)).set 13 (.int .i64 a13)).set 14 (.int .i64 a14));rw[view_set] at h4;clear h2 h3;go_wp2;have c4:=h4.cell;refine bodyPost_ret (v:=.agg #[.int .i64 a0,.int .i64 a1,.int .i64 a2,.bool b3,.bool b4,.bool b5,.int .i64 a6,.int .i64 a7,.int .i64 a8,.int .i64 a9,.bool b10,.bool b11,.bool b12,.int .i64 a13,.int .i64 a14]) (by simp[results,Tryz.results16,go_sem,c4]) rfl ⟨rfl,?_⟩
 exact St.off_shut (x:=x) (e:=e) (u:=u) (c:=c) (p:=p) (sv:=sv) (tv:=tv) h4.drop
theorem t_user (t:Nat) (x:Tt) (w0 w:World) (R:HP) (h:St w0 w (TtOff t x*R)) :
  Calls Tryz.prog 22 #[ptr t] w fun r w'=>r=.returned (.agg x.u.v.cells.toArray)/\St w0 w' (TtOff t x*R):=by
 have h0:=h.alloc (.cells #[.int .i64 0,.bool false,.int .i64 0,.int .i64 0] 63);obtain⟨e,u,c,p,sv,tv,h1⟩:=h0.f2.off_open;have c1:=h1.cell;have hq:=u_view u x.u w0 _ _ h1.f3;clear h h0;generalize hV:x.u.v=V at hq ⊢;obtain⟨v0,v1,v2,v3⟩:=V;simp only[Uv.cells] at hq ⊢;go_enter Tryz.func22,Tryz.ntmps22
 go_upto_region 1 with fail
 generalize w.alloc _=wa at *;generalize w.heap.size=ga at *;go_wp2_with fail
 refine hq.mono ?_
 rintro r w2 ⟨rfl,h2⟩;clear hq c1 h1;have h3:=h2.eq (show _=blk ga _*(blk t (.cells (x.cells e u c p sv tv) TTt (0,0))*(EnAt e x.e*(UsAt u x.u*(CAt c x.c*(DeAt p x.d*R))))) by ac_rfl);have c3:=h3.cell;have f3:=h3.free;have h4:=(((h3.set 0 (.int .i64 v0)).set 1 (.bool v1)).set 2 (.int .i64 v2)).set 3 (.int .i64 v3);clear h2 h3;go_wp2;have c4:=h4.cell;refine bodyPost_ret (v:=.agg #[.int .i64 v0,.bool v1,.int .i64 v2,.int .i64 v3]) (by simp[results,Tryz.results22,go_sem,c4]) rfl ⟨rfl,?_⟩
 exact St.off_shut (x:=x) (e:=e) (u:=u) (c:=c) (p:=p) (sv:=sv) (tv:=tv) h4.drop
abbrev TCf:TypeId:=26
def badP (p:Int):Bool:=decide (p<1\/1048576<p)
def Tcf.good (c:Tcf):Bool:=!badP c.t200 && !badP c.t202 && !badP c.t203
abbrev Tcf.cells (c:Tcf):List Value:=[.int .i64 c.k,.int .i64 c.n200,.int .i64 c.n202,.int .i64 c.t200,.int .i64 c.t202,.int .i64 c.t203]
theorem badP_f {p:Int} (h:badP p=false):decide (p<1)=false/\decide (1048576<p)=false:=by
 unfold badP at h;have:=of_decide_eq_false h
 exact⟨decide_eq_false (fun e=>this (.inl e)),decide_eq_false (fun e=>this (.inr e))⟩
theorem badP_t {p:Int} (h:badP p=true):decide (p<1)=true\/(decide (p<1)=false/\decide (1048576<p)=true):=by
 unfold badP at h;rcases of_decide_eq_true h with e | e
 ·exact .inl (decide_eq_true e)
 ·by_cases e2:p<1
  ·exact .inl (decide_eq_true e2)
  ·exact .inr ⟨decide_eq_false e2,decide_eq_true e⟩
theorem ix3 (a b c:Int) (w:World):(Instr.index 41 (.agg #[.int .i64 a,.int .i64 b,.int .i64 c]) (.int .i64 0)).run Tryz.prog w=.ok (.int .i64 a) w/\(Instr.index 41 (.agg #[.int .i64 a,.int .i64 b,.int .i64 c]) (.int .i64 1)).run Tryz.prog w=.ok (.int .i64 b) w/\(Instr.index 41 (.agg #[.int .i64 a,.int .i64 b,.int .i64 c]) (.int .i64 2)).run Tryz.prog w=.ok (.int .i64 c) w:=⟨by kernel_rfl,by kernel_rfl,by kernel_rfl⟩
theorem t_new_bad (cf:Tcf) (v:Value) (hg:cf.good=false) (w0 w:World) (R:HP) (h:St w0 w R) :
  Calls Tryz.prog 11 #[.agg cf.cells.toArray,v] w fun r w'=>r=.returned (.tuple #[.pointer none,.int .i64 2])/\St w0 w' R:=by
 have h1:=h.alloc (.cells cf.cells.toArray TCf);obtain⟨c1,c2,c3,c4,c5,c6⟩:=cf;simp only[Tcf.cells] at *;unfold Tcf.good at hg;simp only[] at hg;cases b4:badP c4 with
 | true =>
   rcases badP_t b4 with q1 | ⟨q1,q2⟩
   ·clear hg b4
    have cg:=h1.cell;have x0:=fun w=>(ix3 c4 c5 c6 w).1
    have x1:=fun w=>(ix3 c4 c5 c6 w).2.1
    have x2:=fun w=>(ix3 c4 c5 c6 w).2.2
    go_enter Tryz.func11,Tryz.ntmps11
    go_upto_region 1 with fail
    generalize w.alloc _=wa at *;generalize w.heap.size=ga at *;go_wp2;go_loop [15] (fun s=>∃ i:Nat,i<=0/\s=.int .i64 i) (fun s=>4 - (intOf s).toNat)
    case atStart=>exact⟨0,by omega,rfl⟩
    case round =>
     obtain⟨i,hi,rfl⟩:=hrel;obtain rfl:i=0:=by omega
     go_wp2;go_ret2
     exact⟨rfl,h1.drop⟩
   ·clear hg b4
    have cg:=h1.cell;have x0:=fun w=>(ix3 c4 c5 c6 w).1
    have x1:=fun w=>(ix3 c4 c5 c6 w).2.1
    have x2:=fun w=>(ix3 c4 c5 c6 w).2.2
    go_enter Tryz.func11,Tryz.ntmps11
    go_upto_region 1 with fail
    generalize w.alloc _=wa at *;generalize w.heap.size=ga at *;go_wp2;go_loop [15] (fun s=>∃ i:Nat,i<=0/\s=.int .i64 i) (fun s=>4 - (intOf s).toNat)
    case atStart=>exact⟨0,by omega,rfl⟩
    case round =>
     obtain⟨i,hi,rfl⟩:=hrel;obtain rfl:i=0:=by omega
     go_wp2;go_ret2
     exact⟨rfl,h1.drop⟩
 | false =>
   obtain⟨q1,q2⟩:=badP_f b4;cases b5:badP c5 with
   | true =>
     rcases badP_t b5 with q3 | ⟨q3,q4⟩
     ·clear hg b4 b5
      have cg:=h1.cell;have x0:=fun w=>(ix3 c4 c5 c6 w).1
      have x1:=fun w=>(ix3 c4 c5 c6 w).2.1
      have x2:=fun w=>(ix3 c4 c5 c6 w).2.2
      go_enter Tryz.func11,Tryz.ntmps11
      go_upto_region 1 with fail
      generalize w.alloc _=wa at *;generalize w.heap.size=ga at *;go_wp2;go_loop [15] (fun s=>∃ i:Nat,i<=1/\s=.int .i64 i) (fun s=>4 - (intOf s).toNat)
      case atStart=>exact⟨0,by omega,rfl⟩
      case round =>
       obtain⟨i,hi,rfl⟩:=hrel;rcases (show i=0\/i=1 by omega) with rfl | rfl
       ·go_wp2
        go_round
        case rel=>exact⟨0+1,by omega,rfl⟩
        case measure=>simp[intOf]
       ·go_wp2
        go_ret2
        exact⟨rfl,h1.drop⟩
     ·clear hg b4 b5
      have cg:=h1.cell;have x0:=fun w=>(ix3 c4 c5 c6 w).1
      have x1:=fun w=>(ix3 c4 c5 c6 w).2.1
      have x2:=fun w=>(ix3 c4 c5 c6 w).2.2
      go_enter Tryz.func11,Tryz.ntmps11
      go_upto_region 1 with fail
      generalize w.alloc _=wa at *;generalize w.heap.size=ga at *;go_wp2;go_loop [15] (fun s=>∃ i:Nat,i<=1/\s=.int .i64 i) (fun s=>4 - (intOf s).toNat)
      case atStart=>exact⟨0,by omega,rfl⟩
      case round =>
       obtain⟨i,hi,rfl⟩:=hrel;rcases (show i=0\/i=1 by omega) with rfl | rfl
       ·go_wp2
        go_round
        case rel=>exact⟨0+1,by omega,rfl⟩
        case measure=>simp[intOf]
       ·go_wp2
        go_ret2
        exact⟨rfl,h1.drop⟩
   | false =>
     obtain⟨q3,q4⟩:=badP_f b5;have b6:badP c6=true:=by rw[b4,b5] at hg;simpa using hg
     rcases badP_t b6 with q5 | ⟨q5,q6⟩
     ·clear hg b4 b5 b6
      have cg:=h1.cell;have x0:=fun w=>(ix3 c4 c5 c6 w).1
      have x1:=fun w=>(ix3 c4 c5 c6 w).2.1
      have x2:=fun w=>(ix3 c4 c5 c6 w).2.2
      go_enter Tryz.func11,Tryz.ntmps11
      go_upto_region 1 with fail
      generalize w.alloc _=wa at *;generalize w.heap.size=ga at *;go_wp2;go_loop [15] (fun s=>∃ i:Nat,i<=2/\s=.int .i64 i) (fun s=>4 - (intOf s).toNat)
      case atStart=>exact⟨0,by omega,rfl⟩
      case round =>
       obtain⟨i,hi,rfl⟩:=hrel;rcases (show i=0\/i=1\/i=2 by omega) with rfl | rfl | rfl
       ·go_wp2
        go_round
        case rel=>exact⟨0+1,by omega,rfl⟩
        case measure=>simp[intOf]
       ·go_wp2
        go_round
        case rel=>exact⟨1+1,by omega,rfl⟩
        case measure=>simp[intOf]
       ·go_wp2
        go_ret2
        exact⟨rfl,h1.drop⟩
     ·clear hg b4 b5 b6
      have cg:=h1.cell;have x0:=fun w=>(ix3 c4 c5 c6 w).1
      have x1:=fun w=>(ix3 c4 c5 c6 w).2.1
      have x2:=fun w=>(ix3 c4 c5 c6 w).2.2
      go_enter Tryz.func11,Tryz.ntmps11
      go_upto_region 1 with fail
      generalize w.alloc _=wa at *;generalize w.heap.size=ga at *;go_wp2;go_loop [15] (fun s=>∃ i:Nat,i<=2/\s=.int .i64 i) (fun s=>4 - (intOf s).toNat)
      case atStart=>exact⟨0,by omega,rfl⟩
      case round =>
       obtain⟨i,hi,rfl⟩:=hrel;rcases (show i=0\/i=1\/i=2 by omega) with rfl | rfl | rfl
       ·go_wp2
        go_round
        case rel=>exact⟨0+1,by omega,rfl⟩
        case measure=>simp[intOf]
       ·go_wp2
        go_round
        case rel=>exact⟨1+1,by omega,rfl⟩
        case measure=>simp[intOf]
       ·go_wp2
        go_ret2
        exact⟨rfl,h1.drop⟩
theorem t_new (cf:Tcf) (v:Value) (d:Dr) (hg:cf.good=true) (w0 w:World) (R:HP) (h:St w0 w (DrV v d*R)) :
  Calls Tryz.prog 11 #[.agg cf.cells.toArray,v] w fun r w'=>∃ t,r=.returned (.tuple #[ptr t,.int .i64 0])/\St w0 w' (TtOff t (newTt cf d)*R):=by
 have h1:=h.alloc (.cells cf.cells.toArray TCf);obtain⟨c1,c2,c3,c4,c5,c6⟩:=cf;simp only[Tcf.cells] at *;unfold Tcf.good at hg;simp only[Bool.and_eq_true,Bool.not_eq_true'] at hg;obtain⟨⟨b4,b5⟩,b6⟩:=hg;obtain⟨q1,q2⟩:=badP_f b4;obtain⟨q3,q4⟩:=badP_f b5;obtain⟨q5,q6⟩:=badP_f b6;clear b4 b5 b6 h;have e0:(w.alloc (.cells #[.int .i64 c1,.int .i64 c2,.int .i64 c3,.int .i64 c4,.int .i64 c5,.int .i64 c6] TCf)).drew.cell? ⟨w.heap.size,0,none⟩=some (.int .i64 c1):=(h1.drew.cell 0).trans rfl;have e1:(w.alloc (.cells #[.int .i64 c1,.int .i64 c2,.int .i64 c3,.int .i64 c4,.int .i64 c5,.int .i64 c6] TCf)).drew.cell? ⟨w.heap.size,1,none⟩=some (.int .i64 c2):=(h1.drew.cell 1).trans rfl;have e2:(w.alloc (.cells #[.int .i64 c1,.int .i64 c2,.int .i64 c3,.int .i64 c4,.int .i64 c5,.int .i64 c6] TCf)).drew.cell? ⟨w.heap.size,2,none⟩=some (.int .i64 c3):=(h1.drew.cell 2).trans rfl;have e3:(w.alloc (.cells #[.int .i64 c1,.int .i64 c2,.int .i64 c3,.int .i64 c4,.int .i64 c5,.int .i64 c6] TCf)).drew.cell? ⟨w.heap.size,3,none⟩=some (.int .i64 c4):=(h1.drew.cell 3).trans rfl;have e4:(w.alloc (.cells #[.int .i64 c1,.int .i64 c2,.int .i64 c3,.int .i64 c4,.int .i64 c5,.int .i64 c6] TCf)).drew.cell? ⟨w.heap.size,4,none⟩=some (.int .i64 c5):=(h1.drew.cell 4).trans rfl;have e5:(w.alloc (.cells #[.int .i64 c1,.int .i64 c2,.int .i64 c3,.int .i64 c4,.int .i64 c5,.int .i64 c6] TCf)).drew.cell? ⟨w.heap.size,5,none⟩=some (.int .i64 c6):=(h1.drew.cell 5).trans rfl;have hk1:=e_new c1 c2 w0 _ _ h1.drew;have cg:=h1.cell;have x0:=fun w=>(ix3 c4 c5 c6 w).1
 have x1:=fun w=>(ix3 c4 c5 c6 w).2.1
 have x2:=fun w=>(ix3 c4 c5 c6 w).2.2
 go_enter Tryz.func11,Tryz.ntmps11
 go_upto_region 1 with fail
 generalize w.alloc _=wa at *;generalize w.heap.size=ga at *;go_wp2;go_loop [15] (fun s=>∃ i:Nat,i<=3/\s=.int .i64 i) (fun s=>4 - (intOf s).toNat)
 case atStart=>exact⟨0,by omega,rfl⟩
 case round =>
  obtain⟨i,hi,rfl⟩:=hrel;rcases (show i=0\/i=1\/i=2\/i=3 by omega) with rfl | rfl | rfl | rfl
  ·go_wp2
   go_round
   case rel=>exact⟨0+1,by omega,rfl⟩
   case measure=>simp[intOf]
  ·go_wp2
   go_round
   case rel=>exact⟨1+1,by omega,rfl⟩
   case measure=>simp[intOf]
  ·go_wp2
   go_round
   case rel=>exact⟨2+1,by omega,rfl⟩
   case measure=>simp[intOf]
  ·clear x0 x1 x2 q1 q2 q3 q4 q5 q6 h1 cg
   go_upto_region 7 with fail
   refine wp_region_held_drew (S:=fun wx=>wx.cell? ⟨ga,0,none⟩=some (.int .i64 c1)/\wx.cell? ⟨ga,1,none⟩=some (.int .i64 c2)/\wx.cell? ⟨ga,2,none⟩=some (.int .i64 c3)/\wx.cell? ⟨ga,3,none⟩=some (.int .i64 c4)/\wx.cell? ⟨ga,4,none⟩=some (.int .i64 c5)/\wx.cell? ⟨ga,5,none⟩=some (.int .i64 c6)) (by kernel_rfl) ⟨e0,e1,e2,e3,e4,e5⟩ (fun hHeld=>?_)
   clear e0 e1 e2 e3 e4 e5;generalize wa.drew=wd at *;refine tk 0 ?_ rfl (fun w hSw=>?_) ?_
   rotate_left 1
   ·try dsimp only at hSw
    go_simp
    try with_reducible rfl
   try simp only[Act.put,sl]
   refine tk 1 ?_ rfl (fun w hSw=>?_) ?_
   rotate_left 1
   ·try dsimp only at hSw
    go_simp
    try with_reducible rfl
   try simp only[Act.put,sl]
   refine tk 2 ?_ rfl (fun w hSw=>?_) ?_
   rotate_left 1
   ·try dsimp only at hSw
    go_simp
    try with_reducible rfl
   try simp only[Act.put,sl]
   refine tk 3 ?_ rfl (fun w hSw=>?_) ?_
   rotate_left 1
   ·try dsimp only at hSw
    go_simp
    try with_reducible rfl
   try simp only[Act.put,sl]
   refine tk 4 ?_ rfl (fun w hSw=>?_) ?_
   rotate_left 1
   ·try dsimp only at hSw
    go_simp
    try with_reducible rfl
   try simp only[Act.put,sl]
   refine tk 5 ?_ rfl (fun w hSw=>?_) ?_
   rotate_left 1
   ·try dsimp only at hSw
    go_simp
    try with_reducible rfl
   try simp only[Act.put,sl]
   refine tk 7 ?_ rfl (fun w hSw=>?_) ?_
   rotate_left 1
   ·try dsimp only at hSw
    go_simp
    try with_reducible rfl
   try simp only[Act.put,sl]
   refine tk 8 ?_ rfl (fun w hSw=>?_) ?_
   rotate_left 1
   ·try dsimp only at hSw
    go_simp
    try with_reducible rfl
   try simp only[Act.put,sl]
   refine tk 9 ?_ rfl (fun w hSw=>?_) ?_
   rotate_left 1
   ·try dsimp only at hSw
    go_simp
    try with_reducible rfl
   try simp only[Act.put,sl]
   refine rd 6 rfl (fun K hK=>?_)
   go_simp
   go_at_call 33
   refine hk1.mono ?_
   rintro r w2 ⟨e,rfl,h2⟩;have f2:=h2.f2;clear hk1 h2;have hk2:=u_new c3 v d w0 w2 _ f2.f3;have cc:=f2.cell;go_simp
   refine hK.out _ _ ⟨(cc 0).trans rfl,(cc 1).trans rfl,(cc 2).trans rfl,(cc 3).trans rfl,(cc 4).trans rfl,(cc 5).trans rfl⟩ (fun hHeld=>?_)
   clear hK K;try simp only[Act.put,sl]
   clear cc f2;refine rd 10 rfl (fun K hK=>?_)
   go_simp
   go_at_call 34
   refine hk2.mono ?_
   rintro r w3 ⟨u,rfl,h3⟩;have f3:=h3.f2;clear hk2 h3;have hk3:=c_new w0 w3 _ f3;have cc:=f3.cell;go_simp
   refine hK.out _ _ ⟨(cc 0).trans rfl,(cc 1).trans rfl,(cc 2).trans rfl,(cc 3).trans rfl,(cc 4).trans rfl,(cc 5).trans rfl⟩ (fun hHeld=>?_)
   clear hK K;try simp only[Act.put,sl]
   clear cc f3;refine rd 11 rfl (fun K hK=>?_)
   go_simp
   go_at_call 35
   refine hk3.mono ?_
   rintro r w4 ⟨c,rfl,h4⟩;have f4:=h4.f2;clear hk3 h4;have hk4:=d_new w0 w4 _ f4;have cc:=f4.cell;go_simp
   refine hK.out _ _ ⟨(cc 0).trans rfl,(cc 1).trans rfl,(cc 2).trans rfl,(cc 3).trans rfl,(cc 4).trans rfl,(cc 5).trans rfl⟩ (fun hHeld=>?_)
   clear hK K;try simp only[Act.put,sl]
   clear cc f4;refine rd 12 rfl (fun K hK=>?_)
   go_simp
   go_at_call 23
   refine hk4.mono ?_
   rintro r w5 ⟨p,rfl,h5⟩;have f5:=h5.f2;clear hk4 h5;have cc:=f5.cell;go_simp
   refine hK.out _ _ ⟨(cc 0).trans rfl,(cc 1).trans rfl,(cc 2).trans rfl,(cc 3).trans rfl,(cc 4).trans rfl,(cc 5).trans rfl⟩ (fun hHeld=>?_)
   clear hK K;try simp only[Act.put,sl]
   clear cc;refine tk 13 ?_ rfl (fun w hSw=>?_) ?_
   rotate_left 1
   ·try dsimp only at hSw
    go_simp
    try with_reducible rfl
   try simp only[Act.put,sl]
   refine rd 14 rfl (fun K hK=>?_)
   go_simp
   have h6:=f5.alloc (.cells #[.int .i64 c1,.int .i64 c2,.int .i64 c3,.int .i64 c4,.int .i64 c5,.int .i64 c6,ptr e,ptr u,ptrC c,ptrD p,.int .i64 0,.slice none 0 0,.slice none 0 0] TTt);have cc:=h6.f2.cell;go_simp
   refine hK.out _ _ ⟨(cc 0).trans rfl,(cc 1).trans rfl,(cc 2).trans rfl,(cc 3).trans rfl,(cc 4).trans rfl,(cc 5).trans rfl⟩ (fun hHeld=>?_)
   clear hK K;try simp only[Act.put,sl]
   clear cc;refine tk 15 ?_ rfl (fun w hSw=>?_) ?_
   rotate_left 1
   ·try dsimp only at hSw
    go_simp
    try with_reducible rfl
   try simp only[Act.put,sl]
   refine tk 16 ?_ rfl (fun w hSw=>?_) ?_
   rotate_left 1
   ·try dsimp only at hSw
    go_simp
    try with_reducible rfl
   try simp only[Act.put,sl]
   refine wpAnyH_done (by kernel_rfl) ?_ _
   have h7:=h6.f2.drop;have h8:St w0 _ (TtOff w5.heap.size (newTt ⟨c1,c2,c3,c4,c5,c6⟩ d)*R):=St.off_shut (x:=newTt ⟨c1,c2,c3,c4,c5,c6⟩ d) (e:=e) (u:=u) (c:=c) (p:=p) (sv:=.slice none 0 0) (tv:=.slice none 0 0) (h7.eq (show _=blk w5.heap.size _*(EnAt e (newEn c1 c2)*(UsAt u (newUs c3 d)*(CAt c []*(DeAt p .new*R)))) by ac_rfl));clear h6 h7 f5 hHeld;go_wp2;go_ret2
   exact⟨_,rfl,h8⟩
end Go.Proofs.YtnnahljdhdippaaGreatDoor
