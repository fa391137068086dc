/- Parts of a proof (LawR, LawS). No condition. -/
import Derived.Test.YtnnahljdhdippaaGreatDoorC38
namespace Go.Proofs.YtnnahljdhdippaaGreatDoor
set_option maxRecDepth 100000
set_option maxHeartbeats 6400000
open Go.RowKit
theorem St.rt_out {N r:Nat} {x:Tt} {w0 w:World} {R:HP} (h:St w0 w (RtOff N r x*R)) :
  ∃ e u c q sv tv Z,St w0 w (blk r (.cells (x.cells e u c q sv tv) TRt (0,0))*(LAt 9 1 encS sv x.sent*(LAt TRtold 2 tolC tv x.told*(Z*R)))) /\
   ∀ w' R,St w0 w' (blk r (.cells (x.cells e u c q sv tv) TRt (0,0))*(LAt 9 1 encS sv x.sent*(LAt TRtold 2 tolC tv x.told*(Z*R))))->St w0 w' (RtOff N r x*R):=by
 obtain⟨e,u,c,q,ov,ou,lo,lu,h1⟩:=h.rtoff_open;obtain⟨sv,tv,L,rr,hi,h2⟩:=h1.f3.rt_open;refine⟨e,u,c,q,sv,tv,RnB e x.e ov*(RuB u x.u ou*(CRef c L*(RdeAt q rr*(LAt TRx 11 Fx.cells ov lo*LAt TRue 5 Ue.cells ou lu)))),h2.eq (by ac_rfl),fun w' R h'=>?_⟩
 have a6:=(h'.eq (show _=blk r (.cells (x.cells e u c q sv tv) TRt (0,0))*(RnB e x.e ov*(RuB u x.u ou*(CRef c L*(RdeAt q rr*(LAt 9 1 encS sv x.sent*(LAt TRtold 2 tolC tv x.told*(LAt TRx 11 Fx.cells ov lo*(LAt TRue 5 Ue.cells ou lu*R)))))))) by ac_rfl)).rt_shut (N:=N) rfl hi;exact (a6.eq (show _=LAt TRx 11 Fx.cells ov lo*(LAt TRue 5 Ue.cells ou lu*(RtAt N r e u c q ov ou x*R)) by ac_rfl)).rtoff_shut
theorem St.l_addr {E:TypeId} {sz n cap:Nat} {β:Type} {enc:β->List Value} {a:Option Addr} {l:List β} {w0 w:World} {R:HP} (h:St w0 w (LAt E sz enc (.slice a n cap) l*R)) (T:∀ b,(enc b).length=sz) (hl:l≠[]):∃ g o,a=some ⟨g,o,none⟩:=by
 rcases h.l_cells T with ⟨h0,_⟩ | ⟨g,o,cp,hv,_⟩
 ·exact absurd h0 hl
 ·simp only[Value.slice.injEq] at hv
  exact⟨g,o,hv.1⟩
theorem St.l_at {E:TypeId} {sz n cap g o:Nat} {β:Type} {enc:β->List Value} {l:List β} {w0 w:World} {R:HP} (h:St w0 w (LAt E sz enc (.slice (some ⟨g,o,none⟩) n cap) l*R)) (T:∀ b,(enc b).length=sz) {i:Nat} {b:β} (hi:l[i]?=some b) (j:Nat) (u:Value) (hu:(enc b)[j]?=some u):w.cell? ⟨g,o+i*sz+j,none⟩=some u:=by
 rcases h.l_cells T with ⟨h0,_⟩ | ⟨g',o',cp,hv,_,_,hc⟩
 ·rw[h0] at hi;cases hi
 ·simp only[Value.slice.injEq,Option.some.injEq,Addr.mk.injEq,and_true] at hv
  obtain⟨⟨rfl,rfl⟩,_⟩:=hv;exact hc i b hi j u hu
theorem str_ne (s:ByteArray):(s.toList != s.toList)=false:=by simp
theorem l_sameResult (N r:Nat) (x:Tt) (v1 v2:Value) (w0 w:World) (R:HP) (h:St w0 w (LAt 9 1 encS v1 x.sent*(LAt TTold 2 tolC v2 x.told*(RtOff N r x*R)))) :
  Calls Tryz.prog 72 #[.agg #[v1,v2],ptr r] w fun q w'=>q=.returned (.bool true)/\St w0 w' (LAt 9 1 encS v1 x.sent*(LAt TTold 2 tolC v2 x.told*(RtOff N r x*R))):=by
 obtain⟨a1,c1,rfl,hc1,hm1⟩:=h.l_shape;obtain⟨a2,c2,rfl,hc2,hm2⟩:=h.f2.l_shape;obtain⟨e,u,c,q,sv,tv,Z,h1,hback⟩:=h.f3.rt_out;obtain⟨b1,d1,rfl,_,_⟩:=h1.f2.l_shape;obtain⟨b2,d2,rfl,_,_⟩:=h1.f3.l_shape;obtain⟨sn,hsn⟩:∃ n,x.sent.length=n:=⟨_,rfl⟩;obtain⟨tn,htn⟩:∃ n,x.told.length=n:=⟨_,rfl⟩;simp only[hsn,htn] at h h1 hback hc1 hc2 ⊢;have h2:=(h1.alloc (.cells #[.slice a1 sn c1,.slice a2 tn c2] TRes)).eq (show _=blk w.heap.size (.cells #[.slice a1 sn c1,.slice a2 tn c2] TRes (0,0))*(blk r (.cells (x.cells e u c q (.slice b1 sn d1) (.slice b2 tn d2)) TRt (0,0))*(LAt 9 1 encS (.slice a1 sn c1) x.sent*(LAt 9 1 encS (.slice b1 sn d1) x.sent*(LAt TTold 2 tolC (.slice a2 tn c2) x.told*(LAt TRtold 2 tolC (.slice b2 tn d2) x.told*(Z*R)))))) by ac_rfl);have hfin:∀ w' g,St w0 w' (blk g (.cells #[.slice a1 sn c1,.slice a2 tn c2] TRes (0,0))*(blk r (.cells (x.cells e u c q (.slice b1 sn d1) (.slice b2 tn d2)) TRt (0,0))*(LAt 9 1 encS (.slice a1 sn c1) x.sent*(LAt 9 1 encS (.slice b1 sn d1) x.sent*(LAt TTold 2 tolC (.slice a2 tn c2) x.told*(LAt TRtold 2 tolC (.slice b2 tn d2) x.told*(Z*R)))))))->St w0 w' (LAt 9 1 encS (.slice a1 sn c1) x.sent*(LAt TTold 2 tolC (.slice a2 tn c2) x.told*(RtOff N r x*R))):=fun w' g h' =>
  (hback w' (LAt 9 1 encS (.slice a1 sn c1) x.sent*(LAt TTold 2 tolC (.slice a2 tn c2) x.told*R)) (h'.drop.eq (by ac_rfl))).eq (by ac_rfl)
 have HF:=Lib.hid hfin;have HN:=Lib.hid (And.intro hsn htn);unfold maxLen at hm1 hm2;have hsz:(sn:Int)<=9223372036854775807/\(tn:Int)<=9223372036854775807:=by omega
 have bs:((sn:Int) != (sn:Int))=false:=by simp
 have bt:((tn:Int) != (tn:Int))=false:=by simp
 clear h h1 hback hfin hsn htn;have c0:=h2.cell;have c1':=h2.f2.cell;go_enter Tryz.func72,Tryz.ntmps72
 go_upto_region 1 with fail
 generalize w.alloc _=wa at *;generalize w.heap.size=ga at *;go_upto_region 3 with (go_quiet (fail))
 have h3:=Lib.hid (h2.drewN nq);clear h2 c0 c1';generalize wa.drewN nq=wb at *;have c0:=h3.out.cell;go_wp2;go_loopw [30] (fun s30 wr=>∃ i:Nat,i<=sn/\s30=.int .i64 i/\Hid (St w0 wr (blk ga (.cells #[.slice a1 sn c1,.slice a2 tn c2] TRes (0,0))*(blk r (.cells (x.cells e u c q (.slice b1 sn d1) (.slice b2 tn d2)) TRt (0,0))*(LAt 9 1 encS (.slice a1 sn c1) x.sent*(LAt 9 1 encS (.slice b1 sn d1) x.sent*(LAt TTold 2 tolC (.slice a2 tn c2) x.told*(LAt TRtold 2 tolC (.slice b2 tn d2) x.told*(Z*R))))))))) (fun s30 _=>sn - (intOf s30).toNat)
 case atStart=>exact⟨0,by omega,rfl,h3⟩
 case round =>
  clear h3 c0;obtain⟨i,hi,rfl,H⟩:=hrel;by_cases hlt:i<sn
  ·have hlti:(i:Int)<(sn:Int):=by omega
   have hil:i<x.sent.length:=by rw[HN.out.1];exact hlt
   obtain⟨s,hs⟩:∃ s,x.sent[i]?=some s:=⟨x.sent[i],List.getElem?_eq_getElem hil⟩;obtain⟨g1,o1,rfl⟩:=H.out.f3.l_addr tyStr.len (fun e=>by rw[e] at hil;cases hil);obtain⟨g2,o2,rfl⟩:=H.out.f4.l_addr tyStr.len (fun e=>by rw[e] at hil;cases hil);have e1:wr.cell? ⟨g1,o1+i,none⟩=some (.string s):=by simpa using H.out.f3.l_at tyStr.len hs 0 _ rfl
   have e2:wr.cell? ⟨g2,o2+i,none⟩=some (.string s):=by simpa using H.out.f4.l_at tyStr.len hs 0 _ rfl
   have ne:=str_ne s;have c0:=H.out.cell;have c1':=H.out.f2.cell;clear hs hil;go_upto_region 6 with fail
   go_quiet (fail)
   have H2:=Lib.hid (H.out.drewN nq);go_wp2;go_roundw
   case rel=>exact⟨i+1,by omega,by go_num,H2⟩
   case measure=>simp[intOf];omega
  ·obtain rfl:i=sn:=by omega
   have c0:=H.out.cell;have c1':=H.out.f2.cell;go_wp2;go_loopw [50] (fun s50 wy=>∃ j:Nat,j<=tn/\s50=.int .i64 j/\Hid (St w0 wy (blk ga (.cells #[.slice a1 i c1,.slice a2 tn c2] TRes (0,0))*(blk r (.cells (x.cells e u c q (.slice b1 i d1) (.slice b2 tn d2)) TRt (0,0))*(LAt 9 1 encS (.slice a1 i c1) x.sent*(LAt 9 1 encS (.slice b1 i d1) x.sent*(LAt TTold 2 tolC (.slice a2 tn c2) x.told*(LAt TRtold 2 tolC (.slice b2 tn d2) x.told*(Z*R))))))))) (fun s50 _=>tn - (intOf s50).toNat)
   case atStart=>exact⟨0,by omega,rfl,H⟩
   case round =>
    clear H c0 c1';obtain⟨j,hj,rfl,H⟩:=hrel;by_cases hlt:j<tn
    ·have hlti:(j:Int)<(tn:Int):=by omega
     have hil:j<x.told.length:=by rw[HN.out.2];exact hlt
     obtain⟨s,hs⟩:∃ s,x.told[j]?=some s:=⟨x.told[j],List.getElem?_eq_getElem hil⟩;obtain⟨s1,s2⟩:=s;obtain⟨g1,o1,rfl⟩:=H.out.f5.l_addr tyTold.len (fun e=>by rw[e] at hil;cases hil);have H6:=H.out.eq (show _=LAt TRtold 2 tolC (.slice b2 tn d2) x.told*(blk ga (.cells #[.slice a1 i c1,.slice (some ⟨g1,o1,none⟩) tn c2] TRes (0,0))*(blk r (.cells (x.cells e u c q (.slice b1 i d1) (.slice b2 tn d2)) TRt (0,0))*(LAt 9 1 encS (.slice a1 i c1) x.sent*(LAt 9 1 encS (.slice b1 i d1) x.sent*(LAt TTold 2 tolC (.slice (some ⟨g1,o1,none⟩) tn c2) x.told*(Z*R)))))) by ac_rfl);obtain⟨g2,o2,rfl⟩:=H6.l_addr tyRtold.len (fun e=>by rw[e] at hil;cases hil);have e1:wr.cell? ⟨g1,o1+j*2,none⟩=some (.int .i64 s1):=H.out.f5.l_at tyTold.len hs 0 _ rfl;have e2:wr.cell? ⟨g1,o1+j*2+1,none⟩=some (.string s2):=H.out.f5.l_at tyTold.len hs 1 _ rfl;have e3:wr.cell? ⟨g2,o2+j*2,none⟩=some (.int .i64 s1):=H6.l_at tyRtold.len hs 0 _ rfl;have e4:wr.cell? ⟨g2,o2+j*2+1,none⟩=some (.string s2):=H6.l_at tyRtold.len hs 1 _ rfl;have ne:=str_ne s2;have nk:(s1 != s1)=false:=by simp
     have c0:=H.out.cell;have c1':=H.out.f2.cell;clear hs hil H6;go_upto_region 12 with fail
     go_quiet (fail)
     have H2:=Lib.hid (H.out.drewN nq);go_wp2;go_roundw
     case rel=>exact⟨j+1,by omega,by go_num,H2⟩
     case measure=>simp[intOf];omega
    ·obtain rfl:j=tn:=by omega
     have c0:=H.out.cell;have hE:=Lib.hid (HF.out wr ga H.out);go_wp2;go_ret
     exact⟨rfl,hE.out⟩
theorem rd_new0 (seed:Int) (w0 w:World) (R:HP) (h:St w0 w R) :
  Calls Tryz.prog 14 #[.int .u64 seed,.slice none 0 0] w fun e w'=>∃ q,e=.returned (ptr q)/\St w0 w' (blk q (.cells (Dr.rcells ⟨false,[],seed⟩) TRd (0,0))*R):=by
 have h1:=h.alloc (.cells (Dr.rcells ⟨false,[],seed⟩) TRd);clear h;go_enter Tryz.func14,Tryz.ntmps14
 go_upto_region 2 with fail
 generalize w.alloc _=wa at *;generalize w.heap.size=ga at *;go_wp2;go_loopw [6] (fun s6 wr=>s6=.int .i64 0/\wa=wr) (fun _ _=>0)
 case atStart=>exact⟨rfl,rfl⟩
 case round =>
  obtain⟨rfl,rfl⟩:=hrel;go_wp2;go_ret
  exact⟨_,rfl,h1⟩
theorem i64_and40 (n:Int):bits .and .i64 n 1099511627775=n % 1099511627776:=by
 have h255:(BitVec.ofInt 64 1099511627775).toNat=2 ^ 40 - 1:=by decide
 have key:(BitVec.ofInt 64 n &&& BitVec.ofInt 64 1099511627775).toNat=(n % ((2 ^ 64:Nat):Int)).toNat % 2 ^ 40:=by
  rw[BitVec.toNat_and,BitVec.toNat_ofInt,h255,Nat.and_two_pow_sub_one_eq_mod]
 show IntKind.i64.wrap ((BitVec.ofInt 64 n &&& BitVec.ofInt 64 1099511627775).toNat:Nat)=n % 1099511627776
 rw[key,IntKind.wrap_i64];omega
theorem at_script {w:World} {a:Option Addr} {len cap:Nat} (h:(Sh.slice atSh).ok w [.slice a len cap]):len<=cap/\cap<=maxLen/\(0<len->∃ b off,a=some ⟨b,off,none⟩/\b<w.heap.size /\
  ∀ i,i<len->∃ x:AcT,x.Wf w/\∀ j,j<13->w.cell? ⟨b,off+i*13+j,none⟩=x.cells[j]?):=by
 obtain⟨h1,h2,h3⟩:=Sh.slice_ok h (by decide);refine⟨h1,h2,fun h0=>?_⟩
 obtain⟨b,off,ha,hb,hi⟩:=h3 h0;refine⟨b,off,ha,hb,fun i hil=>?_⟩
 obtain⟨xs,_,hc,hx⟩:=hi i hil;obtain⟨x,rfl,ok⟩:=at_of hx;refine⟨x,ok,fun j hj=>?_⟩
 have:=hc j hj
 exact this
abbrev ActB (ga:Nat) (Do ask later m0 m1 m2 NM MM:Int) (data raw:ByteArray) (own near:Bool) (fa:Option Addr) (fn fc:Nat):HP:=blk ga (.cells #[.int .i64 Do,.int .i64 ask,.int .i64 later,.string data,.int .i64 m0,.int .i64 m1,.int .i64 m2,.bool own,.slice fa fn fc,.bool near,.int .i64 NM,.int .i64 MM,.string raw] TAct (0,0))
theorem l_act (cf:Tcf) (N t r n k:Nat) (x:Tt) (now:Int) (a:AcT) (hx:x.Well cf k) (hk:k<=40000000) (hNN:N<=40000000) (w0 w:World) (R:HP) (hN:∀ w',St w0 w' R->NamesAt w') (hF:∀ w',St w0 w' R->FirstAt w') (hL:∀ w',St w0 w' R->LinkAt w') (hS:∀ w',St w0 w' R->FrsAt w' n a)
  (h:St w0 w (TtOff t x*(RtOff N r x*R))) :
  Calls Tryz.prog 30 #[ptr t,ptr r,.int .i64 now,.agg a.cells.toArray] w fun q w'=>q=.returned (.bool true)/\∃ X:Tt,X.Well cf (k+100000)/\St w0 w' (TtOff t X*(RtOff (N+100000) r X*R)):=by
 have h1:=(h.alloc (.cells a.cells.toArray TAct)).alloc (.cells #[.slice none 0 0,.slice none 0 0] TRes);have hbo:=fun w R' (hR':∀ w',St w0 w' R'->FrsAt w' n a) h=>l_bitsOf N r n x a hx.fit.e.ok.b.fl w0 w R' hR' h
 obtain⟨Do,ask,later,data,m0,m1,m2,own,fa,fn,fc,near,NM,MM,raw⟩:=a;simp only[World.size_alloc] at h1;clear h;have d:=h1.f2.cell;have f:=h1.free;have HX:=Lib.hid hx;have HNN:=Lib.hid (And.intro hk hNN);have HO:=Lib.hid (And.intro hN (And.intro hF (And.intro hL hS)));clear hk hNN hN hF hL hS hx;go_enter Tryz.func30,Tryz.ntmps30
 go_upto_region 4 with fail
 generalize (w.alloc _).alloc _=wa at *;generalize w.heap.size=ga at *;have h1:St w0 wa (blk (ga+1) (.cells #[.slice none 0 0,.slice none 0 0] TRes (0,0))*(ActB ga Do ask later m0 m1 m2 NM MM data raw own near fa fn fc*(TtOff t x*(RtOff N r x*R)))):=h1;obtain⟨dm,hdm⟩:∃ dm:Int,Do.tmod 6=dm:=⟨_,rfl⟩;go_upto_block 0 with fail
 clear hdm;go_cut [10,11] (fun s10 s11 wx=>∃ (X:Tt) (code:Int) (sv tv:Value),s10=.int .i64 code/\s11=.int .i64 code/\Hid (X.Well cf (k+100000))/\Hid (code≠0->X.sent=[]/\X.told=[])/\Hid (St w0 wx (blk (ga+1) (.cells #[sv,tv] TRes (0,0))*(LAt 9 1 encS sv X.sent*(LAt TTold 2 tolC tv X.told*(RtOff (N+100000) r X*(TtOff t X*(ActB ga Do ask later m0 m1 m2 NM MM data raw own near fa fn fc*R))))))))
 case first =>
  have hx:=HX.out;obtain⟨hk,hNN⟩:=HNN.out;have HX:=hx;have hN1:=fun w' (h:St w0 w' (blk (ga+1) (.cells #[.slice none 0 0,.slice none 0 0] TRes (0,0))*(ActB ga Do ask later m0 m1 m2 NM MM data raw own near fa fn fc*(RtOff N r x*R))))=>HO.out.1 w' h.drop.drop.drop
  have hF1:=fun w' (h:St w0 w' (blk (ga+1) (.cells #[.slice none 0 0,.slice none 0 0] TRes (0,0))*(ActB ga Do ask later m0 m1 m2 NM MM data raw own near fa fn fc*(RtOff N r x*R))))=>HO.out.2.1 w' h.drop.drop.drop
  have hL1:=fun w' (h:St w0 w' (blk (ga+1) (.cells #[.slice none 0 0,.slice none 0 0] TRes (0,0))*(ActB ga Do ask later m0 m1 m2 NM MM data raw own near fa fn fc*(RtOff N r x*R))))=>HO.out.2.2.1 w' h.drop.drop.drop
  by_cases e0:dm=0
  ·subst e0
   have hw:=well_ask hx now ask data;have hq:=ask_quiet hx.fit now ask data;have hc:=t_ask t x now ask data hx.fit w0 wa _ hN1 hF1 hL1 h1.f3;have hr:=fun w R h=>rt_ask N r x now ask data hx.fit hx.tidy w0 w R h
   generalize x.ask now ask data=X at *;clear hN1 hF1 hL1 hbo hx HX HO;go_upto_region 10 with (go_at_call 17;refine hc.mono ?_;clear hc;rintro q1 w2 ⟨sv,tv,rfl,h2⟩;obtain⟨sa,sc,rfl,_,_⟩:=h2.l_shape;obtain⟨ta,tc,rfl,_,_⟩:=h2.f2.l_shape;have c2:=h2.f4.cell;have f2:=h2.f4.free)
   have h3:=(h2.f4.set 0 (.slice sa X.1.sent.length sc)).set 1 (.slice ta X.1.told.length tc);have h4:=h3.eq (show _=RtOff N r x*(ActB ga Do ask later m0 m1 m2 NM MM data raw own near fa fn fc*(LAt 9 1 encS (.slice sa X.1.sent.length sc) X.1.sent*(LAt TTold 2 tolC (.slice ta X.1.told.length tc) X.1.told*(blk (ga+1) (.cells #[.slice sa X.1.sent.length sc,.slice ta X.1.told.length tc] TRes (0,0))*(TtOff t X.1*R))))) by ac_rfl);clear h2 h3 c2 f2 h1;generalize (w2.setCell _ _).setCell _ _=w3 at *;have c:=h4.f2.cell;have hr:=hr w3 _ h4;clear h4;go_wp2_with fail
   refine hr.mono ?_
   clear hr;rintro q2 w4 ⟨rfl,h5⟩;clear c;go_wp2;go_meet
   exact⟨X.1,X.2,.slice sa X.1.sent.length sc,.slice ta X.1.told.length tc,rfl,rfl,Lib.hid (hw.mono (by omega)),Lib.hid hq,Lib.hid ((St.rt_mono (M:=N+100000) (by omega) h5).eq (by ac_rfl))⟩
  have b0:(dm == 0)=false:=by simpa using e0
  by_cases e2:dm=2\/dm= -2
  ·have hw:=well_tick hx now
   have hq:=tick_quiet (x:=x) now;have hc:=t_tick t x now hx.fit w0 wa _ hN1 hF1 hL1 h1.f3;have hr:=fun w R h=>rt_tick N r x now hx.fit hx.tidy w0 w R h
   generalize x.tick now=X at *;clear hN1 hF1 hL1 hbo hx HX HO;rcases e2 with e2 | e2
   all_goals
    subst e2;clear b0 e0;go_upto_region 14 with (go_at_call 27;refine hc.mono ?_;clear hc;rintro q1 w2 ⟨sv,tv,rfl,h2⟩;obtain⟨sa,sc,rfl,_,_⟩:=h2.l_shape;obtain⟨ta,tc,rfl,_,_⟩:=h2.f2.l_shape;have c2:=h2.f4.cell;have f2:=h2.f4.free)
    have h3:=(h2.f4.set 0 (.slice sa X.1.sent.length sc)).set 1 (.slice ta X.1.told.length tc);have h4:=h3.eq (show _=RtOff N r x*(ActB ga Do ask later m0 m1 m2 NM MM data raw own near fa fn fc*(LAt 9 1 encS (.slice sa X.1.sent.length sc) X.1.sent*(LAt TTold 2 tolC (.slice ta X.1.told.length tc) X.1.told*(blk (ga+1) (.cells #[.slice sa X.1.sent.length sc,.slice ta X.1.told.length tc] TRes (0,0))*(TtOff t X.1*R))))) by ac_rfl);clear h2 h3 c2 f2 h1;generalize (w2.setCell _ _).setCell _ _=w3 at *;have c:=h4.f2.cell;have hr:=hr w3 _ h4;clear h4;go_wp2_with fail
    refine hr.mono ?_
    clear hr;rintro q2 w4 ⟨rfl,h5⟩;clear c;go_wp2;go_meet
    exact⟨X.1,X.2,.slice sa X.1.sent.length sc,.slice ta X.1.told.length tc,rfl,rfl,Lib.hid (hw.mono (by omega)),Lib.hid hq,Lib.hid ((St.rt_mono (M:=N+100000) (by omega) h5).eq (by ac_rfl))⟩
  have b2:(dm == 2)=false:=by simpa using fun h=>e2 (Or.inl h)
  have b2':(dm == -2)=false:=by simpa using fun h=>e2 (Or.inr h)
  by_cases e3:dm=3\/dm= -3
  ·have hw:=well_drop hx now
   have hq:=drop_quiet (x:=x) now;have hc:=t_drop t x now hx.fit w0 wa _ hN1 hF1 hL1 h1.f3;have hr:=fun w R h=>rt_drop N r x now hx.fit hx.tidy w0 w R h
   generalize x.drop now=X at *;clear hN1 hF1 hL1 hbo hx HX HO;rcases e3 with e3 | e3
   all_goals
    subst e3;clear b0 e0 b2 b2' e2;go_upto_region 18 with (go_at_call 29;refine hc.mono ?_;clear hc;rintro q1 w2 ⟨sv,tv,rfl,h2⟩;obtain⟨sa,sc,rfl,_,_⟩:=h2.l_shape;obtain⟨ta,tc,rfl,_,_⟩:=h2.f2.l_shape;have c2:=h2.f4.cell;have f2:=h2.f4.free)
    have h3:=(h2.f4.set 0 (.slice sa X.1.sent.length sc)).set 1 (.slice ta X.1.told.length tc);have h4:=h3.eq (show _=RtOff N r x*(ActB ga Do ask later m0 m1 m2 NM MM data raw own near fa fn fc*(LAt 9 1 encS (.slice sa X.1.sent.length sc) X.1.sent*(LAt TTold 2 tolC (.slice ta X.1.told.length tc) X.1.told*(blk (ga+1) (.cells #[.slice sa X.1.sent.length sc,.slice ta X.1.told.length tc] TRes (0,0))*(TtOff t X.1*R))))) by ac_rfl);clear h2 h3 c2 f2 h1;generalize (w2.setCell _ _).setCell _ _=w3 at *;have c:=h4.f2.cell;have hr:=hr w3 _ h4;clear h4;go_wp2_with fail
    refine hr.mono ?_
    clear hr;rintro q2 w4 ⟨rfl,h5⟩;clear c;go_wp2;go_meet
    exact⟨X.1,X.2,.slice sa X.1.sent.length sc,.slice ta X.1.told.length tc,rfl,rfl,Lib.hid (hw.mono (by omega)),Lib.hid hq,Lib.hid ((St.rt_mono (M:=N+100000) (by omega) h5).eq (by ac_rfl))⟩
  have b3:(dm == 3)=false:=by simpa using fun h=>e3 (Or.inl h)
  have b3':(dm == -3)=false:=by simpa using fun h=>e3 (Or.inr h)
  clear e0 e2 e3;have hb:=hbo wa (blk (ga+1) (.cells #[.slice none 0 0,.slice none 0 0] TRes (0,0))*(ActB ga Do ask later m0 m1 m2 NM MM data raw own near fa fn fc*(TtOff t x*R))) (fun w' h=>HO.out.2.2.2 w' h.drop.drop.drop) (h1.eq (by ac_rfl));go_upto_region 6 with (go_at_call 19;refine hb.mono ?_;clear hb;rintro q0 wb ⟨B,hB,rfl,h2⟩)
  have h1b:=h2.eq (show _=blk (ga+1) (.cells #[.slice none 0 0,.slice none 0 0] TRes (0,0))*(ActB ga Do ask later m0 m1 m2 NM MM data raw own near fa fn fc*(TtOff t x*(RtOff N r x*R))) by ac_rfl);clear h1 h2 hbo d f;have h1:=h1b;clear h1b;have d:=h1.f2.cell;have f:=h1.free;have hw:=well_bits hx now B;have hq:=bits_quiet (x:=x) now B;have hc:=t_bits t x now B hx.fit (by have:=hx.o;omega) (by omega) w0 wb _ hN1 hF1 hL1 h1.f3;have hr:=fun w R h=>rt_bits N r x now B hx.fit hx.tidy (by have:=hx.o;omega) (by omega) (by omega) w0 w R h
  generalize x.bits now B=X at *;clear hN1 hF1 hL1 hx HX HO;go_upto_region 7 with (go_at_call 20;refine hc.mono ?_;clear hc;rintro q1 w2 ⟨sv,tv,rfl,h2⟩;obtain⟨sa,sc,rfl,_,_⟩:=h2.l_shape;obtain⟨ta,tc,rfl,_,_⟩:=h2.f2.l_shape;have c2:=h2.f4.cell;have f2:=h2.f4.free)
  have h3:=(h2.f4.set 0 (.slice sa X.1.sent.length sc)).set 1 (.slice ta X.1.told.length tc);have h4:=h3.eq (show _=RtOff N r x*(ActB ga Do ask later m0 m1 m2 NM MM data raw own near fa fn fc*(LAt 9 1 encS (.slice sa X.1.sent.length sc) X.1.sent*(LAt TTold 2 tolC (.slice ta X.1.told.length tc) X.1.told*(blk (ga+1) (.cells #[.slice sa X.1.sent.length sc,.slice ta X.1.told.length tc] TRes (0,0))*(TtOff t X.1*R))))) by ac_rfl);clear h2 h3 c2 f2 h1;generalize (w2.setCell _ _).setCell _ _=w3 at *;have c:=h4.f2.cell;have hr:=hr w3 _ h4;clear h4;go_wp2_with fail
  refine hr.mono ?_
  clear hr;rintro q2 w4 ⟨rfl,h5⟩;clear c;go_wp2;go_meet
  exact⟨X.1,X.2,.slice sa X.1.sent.length sc,.slice ta X.1.told.length tc,rfl,rfl,Lib.hid (hw.mono (by omega)),Lib.hid hq,Lib.hid ((St.rt_mono (M:=N+100000) (by omega) h5).eq (by ac_rfl))⟩
 case rest =>
  clear d f h1 hbo;obtain⟨X,code,sv,tv,rfl,rfl,hw,hq,hS⟩:=hcut;have h2:=hS.out;by_cases hz:code=0
  ·subst hz
   have hs:=fun w R h=>l_sameResult (N+100000) r X sv tv w0 w R h
   have c2:=h2.cell;have hs:=hs wc _ (h2.eq (show _=LAt 9 1 encS sv X.sent*(LAt TTold 2 tolC tv X.told*(RtOff (N+100000) r X*(blk (ga+1) (.cells #[sv,tv] TRes (0,0))*(TtOff t X*(ActB ga Do ask later m0 m1 m2 NM MM data raw own near fa fn fc*R))))) by ac_rfl));clear h2 hS hq;go_wp2_with fail
   refine hs.mono ?_
   rintro q w5 ⟨rfl,h5⟩;clear hs c2;go_wp2;go_ret
   exact⟨rfl,X,hw.out,(h5.drop.drop.f2.drop.f3.drop).f2⟩
  ·obtain⟨s0,t0⟩:=hq.out hz
   rw[s0,t0] at h2;obtain⟨la,lc,rfl,_,_⟩:=h2.f2.l_shape;obtain⟨ka,kc,rfl,_,_⟩:=h2.f3.l_shape;simp only[List.length_nil] at *;have c2:=h2.cell;have bz:(code != 0)=true:=by simpa using hz
   have bz2:(code == 0)=false:=by simpa using hz
   have hE:=Lib.hid (show St w0 wc (TtOff t X*(RtOff (N+100000) r X*R)) from (h2.drop.drop.drop.f3.drop).f2);clear hS h2 hq s0 t0;go_wp2_with fail
   go_ret
   exact⟨rfl,X,hw.out,hE.out⟩
end Go.Proofs.YtnnahljdhdippaaGreatDoor
