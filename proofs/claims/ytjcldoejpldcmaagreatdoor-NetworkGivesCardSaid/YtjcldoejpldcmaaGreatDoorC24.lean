/- Parts of a proof (NetF, NetG, NetQ, NetH). No condition. -/
import Derived.Test.YtjcldoejpldcmaaGreatDoorC23
namespace Go.Proofs.YtjcldoejpldcmaaGreatDoor
set_option maxRecDepth 100000
set_option maxHeartbeats 6400000
open Go.RowKit
theorem mux_join {l:List (Int × En)} {i:Int} (hi:64<=i/\i<=126) (hn:mlook l i=none) (hl:l.length<=63) (e:En):(muxOf l).join (0,i) i=(muxOf (mput l i e),0):=by
 unfold Mx.join;rw[if_neg (by simp only[];omega),mux_look,if_pos rfl,hn,if_neg (by simp),if_neg (by show ¬ (128:Int)<=((l.map _).length:Int);rw[List.length_map];omega)];have key:∀ l:List (Int × En),mlook l i=none->mput (muxOf l).l (0,i) i=(muxOf (mput l i e)).l:=by
  intro l;induction l with
  | nil=>intro _;rfl
  | cons p l ih =>
    intro h;have hh:(if p.1=i then some p.2 else mlook l i)=none:=h;by_cases hp:p.1=i
    ·rw[if_pos hp] at hh;cases hh
    ·rw[if_neg hp] at hh
     show (if ((0:Int),p.1)=(0,i) then _ else ((0,p.1),p.1) :: mput (muxOf l).l (0,i) i)=(muxOf (if p.1=i then _ else p :: mput l i e)).l
     rw[if_neg (fun e=>hp (Prod.mk.inj e).2),if_neg hp,ih hh];rfl
 show (Mx.mk 128 (mput (muxOf l).l (0,i) i),(0:Int))=_
 rw[key l hn];rfl
theorem mux_same:∀ {l:List (Int × En)} {i:Int} (e:En),(mlook l i).isSome=true->muxOf (mput l i e)=muxOf l
 | [],_,_,h=>by cases h
 | p :: l,i,e,h=>by
   have hh:(if p.1=i then some p.2 else mlook l i).isSome=true:=h;show muxOf (if p.1=i then (i,e) :: l else p :: mput l i e)=_
   by_cases hp:p.1=i
   ·rw[if_pos hp];subst hp;rfl
   ·rw[if_neg hp] at hh ⊢
    have:=congrArg Mx.l (mux_same e hh)
    show Mx.mk 128 (_ :: (muxOf (mput l i e)).l)=Mx.mk 128 (_ :: (muxOf l).l)
    rw[this]
theorem mux_drop {l:List (Int × En)} (hn:(l.map (·.1)).Nodup) (i:Int):((muxOf l).drop i).1=muxOf (mdel l i):=by
 unfold Mx.drop muxOf;rw[mdel_flt hn];show Mx.mk 128 (List.filter _ (l.map _))=Mx.mk 128 (List.map _ (l.filter _))
 rw[List.filter_map];rfl
theorem mux_len (l:List (Int × En)):(muxOf l).l.length=l.length:=by show (l.map _).length=_;rw[List.length_map]
theorem okL_tei {a i:Int} (ha:0<=a/\a<=1000) (hi:0<=i/\i<=1000):okL (a,i):=⟨WalkArith.wf_i64 (by omega),WalkArith.wf_i64 (by omega)⟩
theorem nw_given (t:Nat) (q:Np) (lk:List (Int × Nat)) (x:Nw) (i:Int) (hi:64<=i/\i<=126) (hfit:x.Fit0) (hno:mlook x.l i=none) (hl:x.len<=900000000000) (w0 w:World) (R:HP) (hN:∀ w',St w0 w' R->NamesAt w') (hF:∀ w',St w0 w' R->FirstAt w')
  (h:St w0 w (NwAt t q lk x*R)) :
  Calls Tryz.prog 88 #[ptr t,.int .i64 i] w fun r w'=>∃ k',r=.returned (.tuple #[])/\St w0 w' (NwAt t q k' (x.given i)*R):=by
 obtain⟨sv,tv,L,⟨hL,hLk⟩,h1⟩:=h.nw_open;have k0:w.drew.cell? ⟨t,0,none⟩=some (.int .i64 x.cf.k):=(h1.drew.cell 0).trans rfl;have k1:w.drew.cell? ⟨t,1,none⟩=some (.int .i64 x.cf.n200):=(h1.drew.cell 1).trans rfl;have hn:=e_new x.cf.k x.cf.n200 w0 w.drew _ h1.drew;have hfe:=fit_new x.cf.k x.cf.n200;obtain⟨fa,fb,fc⟩:=fit_assign hfe i;have ln:=assign_len (newEn x.cf.k x.cf.n200) (out0 hfe) hfe.ok.b.un i;have ha:=fun e w R h=>e_assign e (newEn x.cf.k x.cf.n200) i hfe.ok.b.fl (by have:=hfe.ok.b.un;omega) (by rw[hfe.out];decide) w0 w R h
 unfold Nw.given;generalize newEn x.cf.k x.cf.n200=M at *;generalize M.assign i=A at *;obtain⟨A1,A2,A3⟩:=A;simp only[] at fa fb fc ln ha ⊢;have hs:=fun k v w R hN hF h=>nw_links t q k (x.putE i A1) i hi v A2 (nxs_of fb fc) (by omega) (by show x.len+_<=_;omega) w0 w R hN hF h
 have hj:=mux_join hi hno hfit.l_len A1;have hk:kInt.ok i:=kok i (by omega) (by omega);have hml:(muxOf x.l).l.length<=100000:=by rw[mux_len];have:=hfit.l_len;omega
 have hx:=fun w R h=>x_join q.m (muxOf x.l) (0,i) (okL_tei (by decide) (by omega)) i hml w0 w R h
 rw[hj] at hx;have HLL:=Lib.hid (And.intro hL hno);have HN:=Lib.hid hN;have HF:=Lib.hid hF;clear h h1 hL hLk hno hfe fa fb fc ln hj hml hfit hl hN hF hi;go_enter Tryz.func88,Tryz.ntmps88
 go_upto_region 0 with fail
 refine wp_region_held_drew (S:=fun wx=>wx.cell? ⟨t,0,none⟩=some (.int .i64 x.cf.k)/\wx.cell? ⟨t,1,none⟩=some (.int .i64 x.cf.n200)) (by kernel_rfl) ⟨k0,k1⟩ (fun hHeld=>?_)
 clear k0 k1;generalize w.drew=wd at *;refine tk 0 ?_ rfl (fun w hSw=>?_) ?_
 rotate_left 1
 ·try dsimp only at hSw
  go_simp
  try with_reducible rfl
 try simp only[Act.put,sl]
 refine tk 1 ?_ rfl (fun w hSw=>?_) ?_
 rotate_left 1
 ·try dsimp only at hSw
  go_simp
  try with_reducible rfl
 try simp only[Act.put,sl]
 refine tk 2 ?_ rfl (fun w hSw=>?_) ?_
 rotate_left 1
 ·try dsimp only at hSw
  go_simp
  try with_reducible rfl
 try simp only[Act.put,sl]
 refine tk 3 ?_ rfl (fun w hSw=>?_) ?_
 rotate_left 1
 ·try dsimp only at hSw
  go_simp
  try with_reducible rfl
 try simp only[Act.put,sl]
 refine tk 4 ?_ rfl (fun w hSw=>?_) ?_
 rotate_left 1
 ·try dsimp only at hSw
  go_simp
  try with_reducible rfl
 try simp only[Act.put,sl]
 refine tk 5 ?_ rfl (fun w hSw=>?_) ?_
 rotate_left 1
 ·try dsimp only at hSw
  go_simp
  try with_reducible rfl
 try simp only[Act.put,sl]
 refine tk 6 ?_ rfl (fun w hSw=>?_) ?_
 rotate_left 1
 ·try dsimp only at hSw
  go_simp
  try with_reducible rfl
 try simp only[Act.put,sl]
 refine tk 7 ?_ rfl (fun w hSw=>?_) ?_
 rotate_left 1
 ·try dsimp only at hSw
  go_simp
  try with_reducible rfl
 try simp only[Act.put,sl]
 refine tk 8 ?_ rfl (fun w hSw=>?_) ?_
 rotate_left 1
 ·try dsimp only at hSw
  go_simp
  try with_reducible rfl
 try simp only[Act.put,sl]
 refine tk 9 ?_ rfl (fun w hSw=>?_) ?_
 rotate_left 1
 ·try dsimp only at hSw
  go_simp
  try with_reducible rfl
 try simp only[Act.put,sl]
 refine tk 10 ?_ rfl (fun w hSw=>?_) ?_
 rotate_left 1
 ·try dsimp only at hSw
  go_simp
  try with_reducible rfl
 try simp only[Act.put,sl]
 refine rd 11 rfl (fun K hK=>?_)
 go_simp
 go_at_call 152
 refine hn.mono ?_
 rintro r w5 ⟨e,rfl,h5⟩;clear hn;go_simp
 refine hK.out _ _ ⟨(h5.f2.cell 0).trans rfl,(h5.f2.cell 1).trans rfl⟩ (fun hHeld=>?_)
 clear hK K;try simp only[Act.put,sl]
 refine tk 12 ?_ rfl (fun w hSw=>?_) ?_
 rotate_left 1
 ·try dsimp only at hSw
  go_simp
  try with_reducible rfl
 try simp only[Act.put,sl]
 refine wpAnyH_done (by kernel_rfl) ?_ _
 clear hHeld;have c5:=h5.f2.cell;have h6:=h5.eq (show _=MAt kInt ptr q.b (lkOf L)*(EnAt e M*(blk t (.cells (x.cells q sv tv) TNt (0,0))*(SAt q.s x.s*(XAt q.m (muxOf x.l)*(ensAt L*(CAt q.c x.c*(DeAt q.p x.d*(LAt 9 1 encS sv x.sent*(LAt TNold 3 tolN tv x.told*R))))))))) by unfold NwIn;ac_rfl);clear h5;go_wp2_with (at_mapUpdate;refine wp_mput rfl (.tmp 22) (.tmp 23) (.tmp 24) 93 rfl tyLinks h6 rfl i rfl hk e rfl ?_;intro w7 h7;have c7:=h7.f3.cell;clear c5 h6)
 refine (hx w7 _ (h7.eq (show _=XAt q.m (muxOf x.l)*(EnAt e M*(blk t (.cells (x.cells q sv tv) TNt (0,0))*(MAt kInt ptr q.b (mput (lkOf L) i e)*(SAt q.s x.s*(ensAt L*(CAt q.c x.c*(DeAt q.p x.d*(LAt 9 1 encS sv x.sent*(LAt TNold 3 tolN tv x.told*R))))))))) by ac_rfl))).mono ?_
 rintro r w9 ⟨rfl,h9⟩;clear hx h7 c7;go_wp2_with fail
 refine (ha e w9 _ h9.f2).mono ?_
 rintro r w11 ⟨v11,rfl,h11⟩;clear ha h9;obtain⟨L',ea,eb,ec⟩:=ens_add (L:=L) e A1 (by rw[HLL.out.1];exact HLL.out.2);have h12:St w0 w11 (NwAt t q (lkOf L') (x.putE i A1)*(LAt TFx 11 Fx.cells v11 A2*R)):=St.nw_shut (x:=x.putE i A1) (q:=q) (sv:=sv) (tv:=tv) (L:=L') ⟨by rw[ec,HLL.out.1];rfl,rfl⟩ (h11.eq (show _=blk t (.cells (x.cells q sv tv) TNt (0,0))*(SAt q.s x.s*(XAt q.m (muxOf (mput x.l i A1))*(MAt kInt ptr q.b (lkOf L')*(ensAt L'*(CAt q.c x.c*(DeAt q.p x.d*(LAt 9 1 encS sv x.sent*(LAt TNold 3 tolN tv x.told*(LAt TFx 11 Fx.cells v11 A2*R))))))))) by rw[ea,eb];ac_rfl));have hs:=hs _ v11 w11 R HN.out HF.out h12.f2;clear h11 h12;go_wp2_with fail
 refine hs.mono ?_
 rintro r w13 ⟨rfl,h13⟩;have h14:=h13.drop;clear hs h13;go_wp2;go_end0
 exact⟨_,rfl,h14⟩
theorem nw_freed (t:Nat) (q:Np) (lk:List (Int × Nat)) (x:Nw) (i:Int) (hi:64<=i/\i<=126) (hfit:x.Fit0) (hsome:(mlook x.l i).isSome=true) (hl:x.len<=900000000000) (w0 w:World) (R:HP) (hN:∀ w',St w0 w' R->NamesAt w') (hF:∀ w',St w0 w' R->FirstAt w')
  (h:St w0 w (NwAt t q lk x*R)) :
  Calls Tryz.prog 89 #[ptr t,.int .i64 i] w fun r w'=>∃ k',r=.returned (.tuple #[])/\St w0 w' (NwAt t q k' (x.freed i)*R):=by
 obtain⟨sv,tv,L,⟨hL,hLk⟩,h1⟩:=h.nw_open;obtain⟨e,he⟩:=Option.isSome_iff_exists.1 hsome;have hent:x.ent i=e:=by unfold Nw.ent;rw[he];rfl
 have hfe:=(look_range hfit he).2.2;obtain⟨p,Z,lkp,e1,put,_⟩:=ens_take (L:=L) (by rw[hL];exact he);obtain⟨fa,fb⟩:=fit_remove hfe;have ln:=remove_len e (out0 hfe);have hk:kInt.ok i:=kok i (by omega) (by omega);have cc:=h1.cell;have h2:=h1.eq (show _=EnAt p e*(blk t (.cells (x.cells q sv tv) TNt (0,0))*(MAt kInt ptr q.b (lkOf L)*(Z*(SAt q.s x.s*(XAt q.m (muxOf x.l)*(CAt q.c x.c*(DeAt q.p x.d*(LAt 9 1 encS sv x.sent*(LAt TNold 3 tolN tv x.told*R))))))))) by unfold NwIn;rw[e1];ac_rfl);have hlk:=h2.f3.lk_some hk lkp;have hr:=e_remove p e hfe.ok.b.fl hfe.out w0 w _ h2;have hfx:=nfit_putE hfit hi fa;have hfl:=(nfit_links hi _ hfx (nxs_of fb (fun _=>hfe.wd.t))).1;unfold Nw.freed;rw[hent];generalize e.remove=A at *;obtain⟨A1,A2,A3⟩:=A;simp only[] at fa fb ln hr hfx hfl ⊢;have hs:=fun k v w R hN hF h=>nw_links t q k (x.putE i A1) i hi v A2 (nxs_of fb (fun _=>hfe.wd.t)) (by omega) (by show x.len+_<=_;omega) w0 w R hN hF h
 obtain⟨L',ea,eb,ec⟩:=put A1;have hlY:((x.putE i A1).links i A2).l=mput x.l i A1:=links_l _ _;generalize (x.putE i A1).links i A2=Y at *;have HLL:=Lib.hid (show enOf L=x.l/\ensAt L'=EnAt p A1*Z/\lkOf L'=lkOf L/\enOf L'=mput (enOf L) i A1/\muxOf (mput x.l i A1)=muxOf x.l from ⟨hL,ea,eb,ec,mux_same A1 hsome⟩);have HY:=Lib.hid (show mlook Y.l i=some A1/\Y.Fit0 from ⟨by rw[hlY,mlook_mput_same],hfl⟩);have hcl:Y.c.length<2 ^ 62:=by have:=hfl.c_len;omega
 have hml:(muxOf Y.l).l.length<=100000:=by rw[mux_len];have:=hfl.l_len;omega
 have hx:=fun w R h=>x_drop q.m (muxOf Y.l) i w0 w R h hml
 rw[mux_drop hfl.nd] at hx;have hc:=fun w R h=>c_drop q.c Y.c i w0 w R h hcl
 have HN:=Lib.hid hN;have HF:=Lib.hid hF;clear h h1 h2 hL hLk e1 put lkp hfe fa fb ln hfit hl hN hF hi he hent hsome hfx hfl hlY ea eb ec hcl hml;go_enter Tryz.func89,Tryz.ntmps89
 go_wp2_with fail
 refine hr.mono ?_
 rintro r w5 ⟨v5,rfl,h5⟩;clear hr cc hlk;obtain⟨oL,oa,ob,oc,om⟩:=HLL.out;have h6:St w0 w5 (NwAt t q (lkOf L') (x.putE i A1)*(LAt TFx 11 Fx.cells v5 A2*R)):=St.nw_shut (x:=x.putE i A1) (q:=q) (sv:=sv) (tv:=tv) (L:=L') ⟨by rw[oc,oL];rfl,rfl⟩ (h5.eq (show _=blk t (.cells (x.cells q sv tv) TNt (0,0))*(SAt q.s x.s*(XAt q.m (muxOf (mput x.l i A1))*(MAt kInt ptr q.b (lkOf L')*(ensAt L'*(CAt q.c x.c*(DeAt q.p x.d*(LAt 9 1 encS sv x.sent*(LAt TNold 3 tolN tv x.told*(LAt TFx 11 Fx.cells v5 A2*R))))))))) by rw[oa,ob,om];ac_rfl));clear oL oa ob oc om;have hs:=hs _ v5 w5 R HN.out HF.out h6.f2;clear h5 h6;go_wp2_with fail
 refine hs.mono ?_
 rintro r w7 ⟨rfl,h7⟩;clear hs;obtain⟨sv2,tv2,L2,⟨hL2,_⟩,h8⟩:=h7.drop.nw_open;obtain⟨p2,Z2,lk2,e2,_,L3,ez,ey,ew⟩:=ens_take (L:=L2) (by rw[hL2];exact HY.out.1);have h9:=(h8.eq (show _=MAt kInt ptr q.b (lkOf L2)*(blk t (.cells (Y.cells q sv2 tv2) TNt (0,0))*(SAt q.s Y.s*(XAt q.m (muxOf Y.l)*(EnAt p2 A1*(ensAt L3*(CAt q.c Y.c*(DeAt q.p Y.d*(LAt 9 1 encS sv2 Y.sent*(LAt TNold 3 tolN tv2 Y.told*R))))))))) by unfold NwIn;rw[e2,ez];ac_rfl));have c9:=h9.f2.cell;have HW:=Lib.hid (show lkOf L3=mdel (lkOf L2) i/\enOf L3=mdel Y.l i from ⟨ey,by rw[ew,hL2]⟩);clear h7 h8 hL2 lk2 e2 ez ey ew;go_wp2_with (at_delete;refine wp_mdel rfl (.tmp 23) (.tmp 24) 93 3 rfl tyLinks h9 rfl i rfl hk ?_;intro wa ha;have ca:=ha.f2.cell;clear c9 h9)
 refine (hx wa _ (ha.eq (show _=XAt q.m (muxOf Y.l)*(blk t (.cells (Y.cells q sv2 tv2) TNt (0,0))*(CAt q.c Y.c*(MAt kInt ptr q.b (mdel (lkOf L2) i)*(SAt q.s Y.s*(EnAt p2 A1*(ensAt L3*(DeAt q.p Y.d*(LAt 9 1 encS sv2 Y.sent*(LAt TNold 3 tolN tv2 Y.told*R))))))))) by ac_rfl))).mono ?_
 rintro r wb ⟨rfl,hb⟩;have cb:=hb.f2.cell;have hc:=hc wb _ hb.f3;clear hx ha ca;go_wp2_with fail
 refine hc.mono ?_
 rintro r wc ⟨rfl,hd⟩;have he:St w0 wc (NwAt t q (lkOf L3) (Y.gone i)*R):=St.nw_shut (x:=Y.gone i) (q:=q) (sv:=sv2) (tv:=tv2) (L:=L3) ⟨HW.out.2,rfl⟩ ((hd.eq (show _=EnAt p2 A1*(blk t (.cells (Y.cells q sv2 tv2) TNt (0,0))*(SAt q.s Y.s*(XAt q.m (muxOf (mdel Y.l i))*(MAt kInt ptr q.b (lkOf L3)*(ensAt L3*(CAt q.c (dropped Y.c i)*(DeAt q.p Y.d*(LAt 9 1 encS sv2 Y.sent*(LAt TNold 3 tolN tv2 Y.told*R))))))))) by rw[HW.out.1];ac_rfl)).drop);clear cb hb hd hc;go_wp2;go_end0
 exact⟨_,rfl,he⟩
def Efs (x:Nw) (l:List Ef):Prop:=∀ i y,l[i]?=some y->EfL (x.srcs (l.take i)) y
theorem nw_srcs (t:Nat) (q:Np) (lk0:List (Int × Nat)) (x:Nw) (v:Value) (l:List Ef) (hu:Efs x l) (hfit:x.Fit0) (hl0:l.length<=1000) (hl:x.len+100000*l.length<=900000000000) (w0 w:World) (R:HP) (hN:∀ w',St w0 w' R->NamesAt w') (hF:∀ w',St w0 w' R->FirstAt w') (hL:∀ w',St w0 w' R->LinkAt w')
  (h:St w0 w (EAt v l*(NwAt t q lk0 x*R))) :
  Calls Tryz.prog 41 #[ptr t,v] w fun r w'=>∃ k',r=.returned (.tuple #[])/\St w0 w' (EAt v l*(NwAt t q k' (x.srcs l)*R)):=by
 obtain⟨n,hn⟩:∃ n,l.length=n:=⟨_,rfl⟩;have sh:=h.l_shape;rw[hn] at sh;obtain⟨a,cap,rfl,hcap,hmax⟩:=sh;have HH:=Lib.hid h;have HU:=Lib.hid hu;have HL:=Lib.hid hl;have HN:=Lib.hid hN;have HF:=Lib.hid hF;have HK:=Lib.hid hL;have HI0:=Lib.hid hfit;have HNn:=Lib.hid hn;have HG:=Lib.hid (show ∀ y ∈ l,EfG y from fun y hy=>by
  obtain⟨i,hi,e⟩:=List.getElem_of_mem hy;exact (hu i y (e ▸ List.getElem?_eq_getElem hi)).1)
 have hn9:n<=1000:=by omega
 clear h hu hl hl0 hN hF hL hfit hn;go_enter Tryz.func41,Tryz.ntmps41
 go_wp2;go_loopw [10] (fun s10 wr=>∃ (j:Nat) (lk:List (Int × Nat)),j<=n/\s10=.int .i64 j/\Hid (St w0 wr (EAt (.slice a n cap) l*(NwAt t q lk (x.srcs (l.take j))*R)))) (fun s10 _=>n - (intOf s10).toNat)
 case atStart=>exact⟨0,lk0,by omega,rfl,HH⟩
 case round =>
  clear HH;obtain⟨j,lk,hj,rfl,HI⟩:=hrel;by_cases hlt:j<n
  ·have hil:j<l.length:=by have:=HNn.out;omega
   obtain⟨y,hy⟩:∃ y,l[j]?=some y:=⟨l[j],List.getElem?_eq_getElem hil⟩;have htk:x.srcs (l.take (j+1))=(x.srcs (l.take j)).src1 y:=by
    rw[List.take_add_one,hy,Option.toList_some,srcs_snoc]
   have hcan:=HU.out j y hy;obtain⟨s1,s2,_⟩:=nfit_srcs (l.take j) HI0.out (fun z hz=>HG.out z (List.mem_of_mem_take hz));have s3:(l.take j).length=j:=by rw[List.length_take];omega
   have hll:=HL.out;have hnn:=HNn.out;generalize x.srcs (l.take j)=z at *;have hsz:=Lib.hid (show z.Fit0/\z.sent.length<=900000000000/\z.len<=900000000000 by unfold Nw.len at *;exact⟨s1,by omega,by omega⟩);rcases HI.out.l_cells tyEf.len with ⟨h0,_⟩ | ⟨g,off,cap',hv,_,_,hcell⟩
   ·rw[h0] at hil;exact absurd hil (by simp)
   ·simp only[Value.slice.injEq] at hv
    obtain⟨rfl,hq,rfl⟩:=hv;clear hq;have hce:=hcell j y hy;obtain⟨kd,⟨f1,f2,f3⟩,tm⟩:=y;have d0:wr.cell? ⟨g,off+j*5,none⟩=some (.int .i64 kd):=hce 0 _ rfl;have d1:wr.cell? ⟨g,off+j*5+1,none⟩=some (.int .i64 f1):=hce 1 _ rfl;have d2:wr.cell? ⟨g,off+j*5+2,none⟩=some (.int .i64 f2):=hce 2 _ rfl;have d3:wr.cell? ⟨g,off+j*5+3,none⟩=some (.int .i64 f3):=hce 3 _ rfl;have d4:wr.cell? ⟨g,off+j*5+4,none⟩=some (.int .i64 tm):=hce 4 _ rfl;have HT:=Lib.hid htk;have hd:=HI.out.alloc (.cells #[.int .i64 kd,.int .i64 f1,.int .i64 f2,.int .i64 f3,.int .i64 tm] TE);obtain⟨⟨hbad,hrng,hk0,hk4⟩,hfree,hhas⟩:=hcan;simp only[] at hbad hrng hk0 hk4 hfree hhas;have hbad:=Lib.hid hbad;have hrng:=Lib.hid hrng;have hfree:=Lib.hid hfree;have hhas:=Lib.hid hhas;have hk0:=Lib.hid (And.intro hk0 hk4);clear htk hce hcell hy hil s1 s2 s3 hll hnn hk4;go_upto_region 3 with fail
    clear d0 d1 d2 d3 d4;generalize wr.alloc _=w2 at *;generalize wr.heap.size=gy at *;have c2:=hd.cell;have hd2:=hd.eq (show _=NwAt t q lk z*(blk gy _*(EAt (.slice (some ⟨g,off,none⟩) n cap) l*R)) by ac_rfl);by_cases k0:kd=0
    ·have hb:=hbad.out k0
     have hm:=m_frame ⟨f1,f2,f3⟩ w0 w2 _ (fun w' h=>HK.out w' h.drop.drop.drop) hd;rw[hb] at hm;have hz:z.src1 ⟨kd,⟨f1,f2,f3⟩,tm⟩=z.send (Tm.fr ⟨f1,f2,f3⟩):=by unfold Nw.src1;rw[if_pos k0]
     rw[hz] at HT;have hput:=Lib.hid (tm_fr hb).1;generalize Tm.fr ⟨f1,f2,f3⟩=fr at *;obtain⟨a1,a2,cmd,k,pf,ns,nr,inf⟩:=fr;simp only[Fr.cells,Tm.cells] at *;subst k0;clear HI hz hb hd2;go_upto_region 6 with (go_at_call 34;refine hm.mono ?_;rintro e w5 ⟨rfl,h5⟩)
     clear hm c2;have h6:=h5.alloc (.cells #[.int .i64 a1,.int .i64 a2,.bool cmd,.int .i64 k,.bool pf,.int .i64 ns,.int .i64 nr,.string inf] TFr);generalize w5.alloc _=w6 at *;generalize w5.heap.size=gf at *;have c6:=h6.cell;have hs:=nw_send t q lk z ⟨a1,a2,cmd,k,pf,ns,nr,inf⟩ hput.out (by have:=hsz.out.2.1;omega) w0 w6 _ (fun w' h=>HN.out w' h.drop.drop.drop) (fun w' h=>HF.out w' h.drop.drop.drop) (h6.eq (show _=NwAt t q lk z*(blk gf _*(blk gy _*(EAt (.slice (some ⟨g,off,none⟩) n cap) l*R))) by ac_rfl));simp only[Fr.cells] at hs;clear h5 hd;go_wp2_with fail
     refine hs.mono ?_
     rintro e w7 ⟨rfl,h7⟩;have h8:=(h7.eq (show _=blk gf _*(blk gy _*(EAt (.slice (some ⟨g,off,none⟩) n cap) l*(NwAt t q lk _*R))) by ac_rfl)).drop.drop;clear c6 hs h6 h7;go_wp2;go_roundw
     case rel =>
      have hh:=h8;rw[← HT.out] at hh;exact⟨j+1,_,by omega,by go_num,Lib.hid hh⟩
     case measure=>simp[intOf];omega
    have q0:(kd == 0)=false:=by simp[k0]
    have hr2:=hrng.out k0;have hi201:okK (tm,201):=⟨WalkArith.wf_i64 (by omega),by show (Lit.int .i64 201).wf=true;decide⟩;by_cases k3:kd=3
    ·have hs:=nw_start t q lk z tm 201 hi201 w0 w2 _ hd2
     have hz:z.src1 ⟨kd,⟨f1,f2,f3⟩,tm⟩=z.start tm 201:=by unfold Nw.src1;rw[if_neg k0,if_pos k3]
     rw[hz] at HT;subst k3;clear HI hz hd k0 q0 hd2 hr2;go_wp2_with fail
     refine hs.mono ?_
     rintro e w5 ⟨rfl,h5⟩;have h6:=(h5.eq (show _=blk gy _*(EAt (.slice (some ⟨g,off,none⟩) n cap) l*(NwAt t q _ _*R)) by ac_rfl)).drop;clear c2 hs h5;go_wp2;go_roundw
     case rel =>
      have hh:=h6;rw[← HT.out] at hh;exact⟨j+1,_,by omega,by go_num,Lib.hid hh⟩
     case measure=>simp[intOf];omega
    have q3:(kd == 3)=false:=by simp[k3]
    by_cases k4:kd=4
    ·have hz:z.src1 ⟨kd,⟨f1,f2,f3⟩,tm⟩=z.stop tm 201:=by unfold Nw.src1;rw[if_neg k0,if_neg k3,if_pos k4]
     rw[hz] at HT;obtain⟨sv,tv,L,hL,h1⟩:=hd2.nw_open;have HLL:=Lib.hid hL;have e1:w2.drew.cell? ⟨t,8,none⟩=some (ptrC q.c):=(h1.drew.cell 8).trans rfl;have e2:w2.drew.cell? ⟨gy,4,none⟩=some (.int .i64 tm):=(hd.drew.cell 4).trans rfl;have hs:=c_stop q.c z.c (tm,201) hi201 w0 w2.drew _ (h1.drew.eq (nw_c _ _ _ _ _));subst k4;clear HI hz hd k0 q0 k3 q3 hL hd2 hr2;go_upto_region 10 with fail
     refine wp_region_held_drew (S:=fun wx=>wx.cell? ⟨t,8,none⟩=some (ptrC q.c)/\wx.cell? ⟨gy,4,none⟩=some (.int .i64 tm)) (by kernel_rfl) ⟨e1,e2⟩ (fun hHeld=>?_)
     clear e1 e2 c2 h1;generalize w2.drew=wd at *;refine tk 0 ?_ rfl (fun w hSw=>?_) ?_
     rotate_left 1
     ·try dsimp only at hSw
      go_simp
      try with_reducible rfl
     try simp only[Act.put,sl]
     refine tk 1 ?_ rfl (fun w hSw=>?_) ?_
     rotate_left 1
     ·try dsimp only at hSw
      go_simp
      try with_reducible rfl
     try simp only[Act.put,sl]
     refine tk 2 ?_ rfl (fun w hSw=>?_) ?_
     rotate_left 1
     ·try dsimp only at hSw
      go_simp
      try with_reducible rfl
     try simp only[Act.put,sl]
     refine tk 3 ?_ rfl (fun w hSw=>?_) ?_
     rotate_left 1
     ·try dsimp only at hSw
      go_simp
      try with_reducible rfl
     try simp only[Act.put,sl]
     refine tk 4 ?_ rfl (fun w hSw=>?_) ?_
     rotate_left 1
     ·try dsimp only at hSw
      go_simp
      try with_reducible rfl
     try simp only[Act.put,sl]
     refine tk 5 ?_ rfl (fun w hSw=>?_) ?_
     rotate_left 1
     ·try dsimp only at hSw
      go_simp
      try with_reducible rfl
     try simp only[Act.put,sl]
     refine tk 6 ?_ rfl (fun w hSw=>?_) ?_
     rotate_left 1
     ·try dsimp only at hSw
      go_simp
      try with_reducible rfl
     try simp only[Act.put,sl]
     refine rd 7 rfl (fun K hK=>?_)
     go_simp
     go_at_call 87
     refine hs.mono ?_
     rintro r w5 ⟨rfl,h5⟩;have h7:St w0 w5 (NwAt t q lk (z.stop tm 201)*(blk gy _*(EAt (.slice (some ⟨g,off,none⟩) n cap) l*R))):=St.nw_shut (x:=z.stop tm 201) (q:=q) (sv:=sv) (tv:=tv) HLL.out (h5.eq (nw_c _ q (z.stop tm 201) L _).symm);go_simp
     refine hK.out _ _ ⟨(h5.f2.cell 8).trans rfl,(h7.f2.cell 4).trans rfl⟩ (fun hHeld=>?_)
     clear hK K;try simp only[Act.put,sl]
     refine wpAnyH_done (by kernel_rfl) ?_ _
     have h6:=(h7.eq (show _=blk gy _*(EAt (.slice (some ⟨g,off,none⟩) n cap) l*(NwAt t q _ _*R)) by ac_rfl)).drop;clear h5 hs h7 hHeld;go_wp2;go_roundw
     case rel =>
      have hh:=h6;rw[← HT.out] at hh;exact⟨j+1,_,by omega,by go_num,Lib.hid hh⟩
     case measure=>simp[intOf];omega
    have q4:(kd == 4)=false:=by simp[k4]
    by_cases k1:kd=1
    ·have hz:z.src1 ⟨kd,⟨f1,f2,f3⟩,tm⟩=z.given tm:=by unfold Nw.src1;rw[if_neg k0,if_neg k3,if_neg k4,if_pos k1]
     rw[hz] at HT;have hs:=nw_given t q lk z tm hr2 hsz.out.1 (hfree.out k1) hsz.out.2.2 w0 w2 _ (fun w' h=>HN.out w' h.drop.drop) (fun w' h=>HF.out w' h.drop.drop) hd2;subst k1;clear HI hz hd k0 q0 k3 q3 k4 q4 hd2 hr2;go_wp2_with fail
     refine hs.mono ?_
     rintro e w5 ⟨k5,rfl,h5⟩;have h6:=(h5.eq (show _=blk gy _*(EAt (.slice (some ⟨g,off,none⟩) n cap) l*(NwAt t q _ _*R)) by ac_rfl)).drop;clear c2 hs h5;go_wp2;go_roundw
     case rel =>
      have hh:=h6;rw[← HT.out] at hh;exact⟨j+1,_,by omega,by go_num,Lib.hid hh⟩
     case measure=>simp[intOf];omega
    have q1:(kd == 1)=false:=by simp[k1]
    have k2:kd=2:=by have:=hk0.out;omega
    have hz:z.src1 ⟨kd,⟨f1,f2,f3⟩,tm⟩=z.freed tm:=by unfold Nw.src1;rw[if_neg k0,if_neg k3,if_neg k4,if_neg k1]
    rw[hz] at HT;have hs:=nw_freed t q lk z tm hr2 hsz.out.1 (hhas.out k2) hsz.out.2.2 w0 w2 _ (fun w' h=>HN.out w' h.drop.drop) (fun w' h=>HF.out w' h.drop.drop) hd2;subst k2;clear HI hz hd k0 q0 k3 q3 k4 q4 k1 q1 hd2 hr2;go_wp2_with fail
    refine hs.mono ?_
    rintro e w5 ⟨k5,rfl,h5⟩;have h6:=(h5.eq (show _=blk gy _*(EAt (.slice (some ⟨g,off,none⟩) n cap) l*(NwAt t q _ _*R)) by ac_rfl)).drop;clear c2 hs h5;go_wp2;go_roundw
    case rel =>
     have hh:=h6;rw[← HT.out] at hh;exact⟨j+1,_,by omega,by go_num,Lib.hid hh⟩
    case measure=>simp[intOf];omega
  ·obtain rfl:j=n:=by omega
   have hz:=HI.out;rw[List.take_of_length_le (by have:=HNn.out;omega)] at hz;clear HI;go_wp2;go_end0
   exact⟨_,rfl,hz⟩
def EfsG (l:List Ef):Prop:=l.length<=100/\∀ y ∈ l,EfG y
theorem eg_said {t r a:Int} (t1:1<=t) (t7:t<=7) (r0:0<=r) (r1:r<65536) (a0:0<=a) (a1:a<=127):EfG (.said t r a) :=
 ⟨fun _=>tm_ok t1 t7 r0 r1 a0 a1,fun h=>absurd (show (0:Int)=0 from rfl) h,by show (0:Int)<=0;decide,by show (0:Int)<=4;decide⟩
theorem eg_of {k t:Int} (k1:1<=k) (k4:k<=4) (h:64<=t/\t<=126):EfG (.of k t) :=
 ⟨fun (e:k=0)=>by omega,fun _=>h,by show (0:Int)<=k;omega,k4⟩
theorem eg_nil:EfsG []:=⟨Nat.zero_le _,fun y hy=>by cases hy⟩
theorem eg_cons {y:Ef} {l:List Ef} (hy:EfG y) (h:EfsG l) (hl:l.length<=90):EfsG (y :: l):=⟨by rw[List.length_cons];omega,fun z hz=>by
 rcases List.mem_cons.1 hz with e | hz
 ·rw[e];exact hy
 ·exact h.2 z hz⟩
theorem eg_one {y:Ef} (hy:EfG y):EfsG [y]:=eg_cons hy eg_nil (Nat.zero_le _)
theorem eg_two {y z:Ef} (hy:EfG y) (hz:EfG z):EfsG [y,z]:=eg_cons hy (eg_one hz) (by show 1<=90;decide)
theorem eg_ask (x:Sr) {t:Int} (h:64<=t/\t<=126):EfsG (x.ask t).2:=eg_two (eg_said (by decide) (by decide) (by decide) (by decide) (by omega) (by omega)) (eg_of (by decide) (by decide) h)
theorem eg_remove (x:Sr) {t:Int} (h:64<=t/\t<=126):EfsG (x.remove t).2:=by
 have h6:EfG (.said 6 0 t):=eg_said (by decide) (by decide) (by decide) (by decide) (by omega) (by omega);show EfsG ([_,_]++_++_)
 refine⟨?_,fun y hy=>?_⟩
 ·simp only[List.length_append]
  (repeat' split) <;> simp
 ·simp only[List.mem_append] at hy
  rcases hy with (hy | hy) | hy
  ·rcases List.mem_cons.1 hy with rfl | hy
   ·exact h6
   ·rw[List.mem_singleton.1 hy];exact h6
  ·split at hy
   ·rw[List.mem_singleton.1 hy];exact eg_of (by decide) (by decide) h
   ·cases hy
  ·split at hy
   ·rw[List.mem_singleton.1 hy];exact eg_of (by decide) (by decide) h
   ·cases hy
theorem kind2 {t:Int} (h:kindOf t=2):64<=t/\t<=126:=by
 unfold kindOf at h;split at h
 ·cases h
 ·split at h
  ·cases h
  ·split at h
   ·omega
   ·cases h
theorem eg_stray (x:Sr) (t:Int):EfsG (x.stray t):=by
 unfold Sr.stray;split
 ·exact eg_nil
 ·rename_i h
  have:=kind2 (Decidable.byContradiction fun e=>h (.inl e))
  exact eg_one (eg_said (by decide) (by decide) (by decide) (by decide) (by omega) (by omega))
theorem eg_response {x:Sr} (ok:x.Ok) (t:Int):EfsG (x.response t).2:=by
 unfold Sr.response;cases hr:mlook x.checks t with
 | none=>exact eg_stray x t
 | some c =>
   obtain⟨_,h1,h2,_⟩:=ok.all _ (mlook_mem hr);dsimp only;split
   ·exact eg_remove _ ⟨h1,h2⟩
   ·exact eg_nil
theorem eg_check (x:Sr) (t:Int):EfsG (x.check t).2.1:=by
 unfold Sr.check;split
 ·exact eg_nil
 ·rename_i hh
  have:=has_range (by simpa using hh)
  split
  ·exact eg_nil
  ·exact eg_ask x this
theorem eg_audit (x:Sr):EfsG x.audit.2/\x.audit.2.length<=64:=by
 have hl:=upto_len x.pool 63;have h64:x.audit.2.length<=64:=by show (Ef.said 4 0 127 :: (x.pool.upto 63).map _).length<=_;rw[List.length_cons,List.length_map];omega
 refine⟨⟨by omega,fun y hy=>?_⟩,h64⟩
 rcases List.mem_cons.1 hy with rfl | hy
 ·exact eg_said (by decide) (by decide) (by decide) (by decide) (by decide) (by decide)
 ·obtain⟨i,hi,rfl⟩:=List.mem_map.1 hy
  have:=upto_lt hi
  exact eg_of (by decide) (by decide) (by omega)
theorem eg_request (x:Sr) {m:Tm} (h:m.bad=0):EfsG (x.request m).2:=by
 obtain⟨_,_,r0,r1,a0,a1⟩:=Tm.good h;have hd:EfG (.said 3 m.ri m.ai):=eg_said (by decide) (by decide) r0 r1 a0 a1;unfold Sr.request;split
 ·exact eg_one hd
 ·split
  ·rename_i h0
   obtain⟨_,h2⟩:=(seek_law 63 x.pool).1 h0;have:=has_range (show (Pl.seek 63 x.pool).1.has (Pl.seek 63 x.pool).2.1=true by rw[h2];simp)
   exact eg_two (eg_said (by decide) (by decide) r0 r1 (by omega) (by omega)) (eg_of (by decide) (by decide) this)
  ·obtain⟨h1,h2⟩:=eg_audit ⟨(Pl.seek 63 x.pool).1,x.checks⟩
   exact eg_cons hd h1 (by omega)
theorem eg_message {x:Sr} (ok:x.Ok) (m:Tm):EfsG (x.message m).2:=by
 unfold Sr.message;split
 ·exact eg_nil
 ·rename_i hb
  split
  ·exact eg_request x (Decidable.byContradiction hb)
  ·split
   ·exact eg_response ok _
   ·split
    ·split
     ·exact eg_check x _
     ·exact eg_stray _ _
    ·exact eg_nil
theorem eg_timeout {x:Sr} (ok:x.Ok) (t:Int):EfsG (x.timeout t).2:=by
 unfold Sr.timeout;cases hr:mlook x.checks t with
 | none=>exact eg_nil
 | some c =>
   obtain⟨_,h1,h2,_⟩:=ok.all _ (mlook_mem hr);dsimp only;split
   ·exact eg_ask x ⟨h1,h2⟩
   ·split
    ·exact eg_nil
    ·exact eg_one (eg_of (by decide) (by decide) ⟨h1,h2⟩)
structure Nw.Fit (x:Nw):Prop where
 f0:x.Fit0
 gv:∃ g,Gv x.s ⟨x.has,g⟩
theorem Nw.Fit.ok {x:Nw} (h:x.Fit):x.s.Ok:=h.gv.elim fun _ h=>h.ok
abbrev SrcOk (x:Nw) (r:Sr × List Ef):Prop:=Efs (x.setS r.1) r.2/\(x.setS r.1).Fit0/\((x.setS r.1).srcs r.2).Fit/\((x.setS r.1).srcs r.2).len<=x.len+10000000
theorem fit_src {x:Nw} (h:x.Fit0) {s:Sr} {l:List Ef} {f:Tl} (hf:∀ u,f.f u=x.has u) (hl:EfsG l) (ha:∃ s2,Tl.all l f=some s2/\Gv s s2) :
  Efs (x.setS s) l/\(x.setS s).Fit0/\((x.setS s).srcs l).Fit/\((x.setS s).srcs l).len<=x.len+10000000:=by
 obtain⟨s2,h1,h2⟩:=ha;have h0:(x.setS s).Fit0:=⟨h.nd,h.es,h.kn,h.ks,h.d⟩;obtain⟨f0,n0,e0⟩:=nfit_srcs l h0 hl.2;refine⟨fun i y hy=>ef_at h0 hl.2 h1 hf hy,h0,⟨f0,s2.g,?_⟩,Nat.le_trans n0 (by have:=hl.1;show x.len+_<=_;omega)⟩
 have hh:=has_srcs l h0 hl.2 h1 hf;rw[e0];exact⟨h2.ok,h2.nd,fun u=>by show ((x.setS s).srcs l).has u=_;rw[← hh u];exact h2.on u,h2.run,h2.sub⟩
section
variable {x:Nw}
theorem src_message (h:x.Fit) (m:Tm):SrcOk x (x.s.message m):=h.gv.elim fun _ g=>fit_src h.f0 (fun _=>rfl) (eg_message g.ok m) (g.message m)
theorem src_audit (h:x.Fit):SrcOk x x.s.audit:=h.gv.elim fun _ g=>fit_src h.f0 (fun _=>rfl) (eg_audit x.s).1 g.audit
theorem src_timeout (h:x.Fit) (t:Int):SrcOk x (x.s.timeout t):=h.gv.elim fun _ g=>fit_src h.f0 (f:=⟨x.has,_⟩) (fun _=>rfl) (eg_timeout g.ok t) (g.timeout t)
theorem fit_of0 (h:x.Fit) {y:Nw} (h0:y.Fit0) (hs:y.s=x.s) (hh:∀ u,y.has u=x.has u):y.Fit:=⟨h0,by
 obtain⟨g,h⟩:=h.gv;exact⟨g,by rw[hs];exact⟨h.ok,h.nd,fun u=>by show y.has u=_;rw[hh u];exact h.on u,h.run,h.sub⟩⟩⟩
theorem nfit_begin (h:x.Fit) (now:Int):(x.begin now).Fit:=fit_of0 h ⟨h.f0.nd,h.f0.es,h.f0.kn,h.f0.ks,h.f0.d⟩ rfl (fun _=>rfl)
theorem nfit_hush (h:x.Fit):x.hush.Fit:=fit_of0 h ⟨h.f0.nd,h.f0.es,h.f0.kn,h.f0.ks,h.f0.d⟩ rfl (fun _=>rfl)
theorem nfit_setD (h:x.Fit) {d:De} (hd:d.Fits):(x.setD d).Fit:=fit_of0 h ⟨h.f0.nd,h.f0.es,h.f0.kn,h.f0.ks,hd⟩ rfl (fun _=>rfl)
theorem nfit_setC (h:x.Fit) {c:Tms} (hc:c.Sublist x.c):(x.setC c).Fit:=fit_of0 h ⟨h.f0.nd,h.f0.es,(hc.map _).nodup h.f0.kn,fun p hp=>h.f0.ks p (hc.subset hp),h.f0.d⟩ rfl (fun _=>rfl)
theorem fit_ent (h:x.Fit) {i:Int} {e:En} (he:mlook x.l i=some e) {e':En} (hf:e'.Fit) {l:List Fx} (hl:Nxs l) (hn:l.length<=100000) :
  (x.putE i e').Fit0/\((x.putE i e').links i l).Fit/\((x.putE i e').links i l).len<=x.len+100000:=by
 obtain⟨i0,i1,_⟩:=look_range h.f0 he;have h1:=nfit_putE h.f0 ⟨i0,i1⟩ hf;obtain⟨h2,n2⟩:=nfit_links ⟨i0,i1⟩ l h1 hl;refine⟨h1,fit_of0 h h2 (links_s _ _) (fun u=>?_),Nat.le_trans n2 (by show x.len+_<=_;omega)⟩
 rw[has_links,has_put];unfold upd;split
 ·rename_i hu
  rw[hu];unfold Nw.has;rw[he];rfl
 ·rfl
theorem nxs_frame {e:En} (h:e.Fit) (f:Fr):Nxs (e.frame f).2:=nxs_of (fit_frame h f).2 (fun _=>h.wd.t)
theorem nxs_timeout {e:En} (h:e.Fit) (t:Int):Nxs (e.timeout t).2:=nxs_of (fit_timeout h t).2 (fun _=>h.wd.t)
theorem fit_frameE (h:x.Fit) (i:Int) (f:Fr):(x.mayE i fun e=>e.frame f).Fit/\(x.mayE i fun e=>e.frame f).len<=x.len+100000:=by
 unfold Nw.mayE;cases he:mlook x.l i with
 | none=>exact⟨h,Nat.le_add_right _ _⟩
 | some e =>
   have hf:=(look_range h.f0 he).2.2;exact (fit_ent h he (fit_frame hf f).1 (nxs_frame hf f) (frame_len e (out0 hf) f)).2
theorem fit_timeoutE (h:x.Fit) (i k:Int):(x.mayE i fun e=>e.timeout k).Fit/\(x.mayE i fun e=>e.timeout k).len<=x.len+100000:=by
 unfold Nw.mayE;cases he:mlook x.l i with
 | none=>exact⟨h,Nat.le_add_right _ _⟩
 | some e =>
   have hf:=(look_range h.f0 he).2.2;exact (fit_ent h he (fit_timeout hf k).1 (nxs_timeout hf k) (timeout_len e (out0 hf) k)).2
theorem nfit_come (h:x.Fit) (s:ByteArray):(x.come s).Fit/\(x.come s).len<=x.len+10000000:=by
 unfold Nw.come;dsimp only;split
 ·exact⟨h,Nat.le_add_right _ _⟩
 ·split
  ·exact (src_message h _).2.2
  ·split
   ·exact⟨h,Nat.le_add_right _ _⟩
   ·obtain⟨h1,n1⟩:=fit_frameE h (getO s false).1.tei (getO s false).1
    exact⟨h1,by omega⟩
theorem nfit_event (h:x.Fit) (v:Ev):(x.event v).Fit/\(x.event v).len<=x.len+10000000:=by
 unfold Nw.event;split
 ·exact nfit_come h _
 ·exact⟨h,Nat.le_add_right _ _⟩
theorem nfit_events:∀ (l:List Ev) {x:Nw},x.Fit->(l.foldl Nw.event x).Fit/\(l.foldl Nw.event x).len<=x.len+10000000*l.length
 | [],_,h=>⟨h,Nat.le_refl _⟩
 | y :: l,x,h=>by
   obtain⟨h1,n1⟩:=nfit_event h y;obtain⟨h2,n2⟩:=nfit_events l h1;refine⟨h2,?_⟩
   rw[List.length_cons];exact Nat.le_trans n2 (by omega)
theorem nfit_bits (h:x.Fit) (now:Int) (b:ByteArray):(x.bits now b).1.Fit:=by
 unfold Nw.bits;split
 ·exact nfit_hush h
 ·exact (nfit_events _ (nfit_setD (nfit_begin h now) (fits_feed _ h.f0.d))).1
theorem nfit_over (h:x.Fit) (k:Key):(x.over k).Fit/\(x.over k).len<=x.len+10000000:=by
 unfold Nw.over;split
 ·exact⟨h,Nat.le_add_right _ _⟩
 ·split
  ·exact (src_timeout h _).2.2
  ·obtain⟨h1,n1⟩:=fit_timeoutE h k.1 k.2
   exact⟨h1,by omega⟩
theorem nfit_overs:∀ (l:List Key) {x:Nw},x.Fit->(l.foldl Nw.over x).Fit/\(l.foldl Nw.over x).len<=x.len+10000000*l.length
 | [],_,h=>⟨h,Nat.le_refl _⟩
 | y :: l,x,h=>by
   obtain⟨h1,n1⟩:=nfit_over h y;obtain⟨h2,n2⟩:=nfit_overs l h1;refine⟨h2,?_⟩
   rw[List.length_cons];exact Nat.le_trans n2 (by omega)
theorem nfit_tick (h:x.Fit) (now:Int):(x.tick now).1.Fit:=by
 unfold Nw.tick;split
 ·exact nfit_hush h
 ·exact (nfit_overs _ (nfit_setC (nfit_begin h now) List.filter_sublist)).1
theorem nfit_new (cf:Ncf):(newNw cf).Fit:=⟨⟨by simp[newNw],(fun p hp=>by cases hp),by simp[newNw],(fun p hp=>by cases hp),fits_new⟩,_,Gv.nil⟩
end
abbrev TNRes:TypeId:=37
section
variable {w0 w:World} {R:HP} {t:Nat} {q:Np} {lk:List (Int × Nat)} {x:Nw}
theorem St.nw_ent {i:Int} {e:En} (h:St w0 w (NwAt t q lk x*R)) (he:mlook x.l i=some e):∃ p Z,St w0 w (EnAt p e*(Z*R))/\mlook lk i=some p /\
  (∀ w' A,St w0 w' (Z*A)->w'.cell? ⟨t,7,none⟩=some (.map (some q.b))/\w'.cell? ⟨t,6,none⟩=some (ptrX q.m)) /\
  ∀ w' e' A,St w0 w' (EnAt p e'*(Z*A))->St w0 w' (NwAt t q lk (x.putE i e')*A):=by
 obtain⟨sv,tv,L,⟨hL,hLk⟩,h1⟩:=h.nw_open;obtain⟨p,Z,l1,e1,put,_⟩:=ens_take (L:=L) (by rw[hL];exact he);refine⟨p,blk t (.cells (x.cells q sv tv) TNt (0,0))*(SAt q.s x.s*(XAt q.m (muxOf x.l)*(MAt kInt ptr q.b (lkOf L)*(Z*(CAt q.c x.c*(DeAt q.p x.d*(LAt 9 1 encS sv x.sent*LAt TNold 3 tolN tv x.told))))))),h1.eq (by unfold NwIn;rw[e1];ac_rfl),by rw[← hLk];exact l1,fun w' A h'=>?_,fun w' e' A h'=>?_⟩
 ·have h2:=h'.eq (star_assoc _ _ _)
  exact⟨(h2.cell 7).trans rfl,(h2.cell 6).trans rfl⟩
 ·obtain⟨L',ea,eb,ec⟩:=put e'
  exact St.nw_shut (x:=x.putE i e') (q:=q) (sv:=sv) (tv:=tv) (L:=L') ⟨by rw[ec,hL];rfl,by rw[eb,hLk]⟩ (h'.eq (show _=blk t (.cells (x.cells q sv tv) TNt (0,0))*(SAt q.s x.s*(XAt q.m (muxOf (mput x.l i e'))*(MAt kInt ptr q.b (lkOf L')*(ensAt L'*(CAt q.c x.c*(DeAt q.p x.d*(LAt 9 1 encS sv x.sent*(LAt TNold 3 tolN tv x.told*A)))))))) by rw[ea,eb,mux_same e' (by rw[he];rfl)];ac_rfl))
theorem St.nw_map (h:St w0 w (NwAt t q lk x*R)):w.cell? ⟨t,7,none⟩=some (.map (some q.b))/\w.cell? ⟨t,6,none⟩=some (ptrX q.m)/\w.cell? ⟨t,5,none⟩=some (ptr q.s)/\(∃ A,St w0 w (MAt kInt ptr q.b lk*A))/\∀ i,(mlook lk i).isSome=(mlook x.l i).isSome:=by
 obtain⟨sv,tv,L,⟨hL,hLk⟩,h1⟩:=h.nw_open;exact⟨(h1.cell 7).trans rfl,(h1.cell 6).trans rfl,(h1.cell 5).trans rfl,⟨_,h1.eq (show _=MAt kInt ptr q.b lk*(blk t (.cells (x.cells q sv tv) TNt (0,0))*(SAt q.s x.s*(XAt q.m (muxOf x.l)*(ensAt L*(CAt q.c x.c*(DeAt q.p x.d*(LAt 9 1 encS sv x.sent*(LAt TNold 3 tolN tv x.told*R)))))))) by unfold NwIn;rw[hLk];ac_rfl)⟩,fun i=>by rw[← hLk,← hL];exact ens_look⟩
theorem St.nw_src (h:St w0 w (NwAt t q lk x*R)):∃ Z,St w0 w (SAt q.s x.s*(Z*R))/\(∀ w' A,St w0 w' (Z*A)->w'.cell? ⟨t,5,none⟩=some (ptr q.s))/\∀ w' s' A,St w0 w' (SAt q.s s'*(Z*A))->St w0 w' (NwAt t q lk (x.setS s')*A):=by
 obtain⟨sv,tv,L,hL,h1⟩:=h.nw_open;refine⟨blk t (.cells (x.cells q sv tv) TNt (0,0))*(XAt q.m (muxOf x.l)*(MAt kInt ptr q.b (lkOf L)*(ensAt L*(CAt q.c x.c*(DeAt q.p x.d*(LAt 9 1 encS sv x.sent*LAt TNold 3 tolN tv x.told)))))),h1.eq (by unfold NwIn;ac_rfl),fun w' A h'=>((h'.eq (star_assoc _ _ _)).cell 5).trans rfl,fun w' s' A h'=>?_⟩
 exact St.nw_shut (x:=x.setS s') (q:=q) (sv:=sv) (tv:=tv) hL (h'.eq (show _=blk t (.cells (x.cells q sv tv) TNt (0,0))*(SAt q.s s'*(XAt q.m (muxOf x.l)*(MAt kInt ptr q.b (lkOf L)*(ensAt L*(CAt q.c x.c*(DeAt q.p x.d*(LAt 9 1 encS sv x.sent*(LAt TNold 3 tolN tv x.told*A)))))))) by ac_rfl))
end
end Go.Proofs.YtjcldoejpldcmaaGreatDoor
