/- Parts of a proof (NetO, Laid, LaidF, LaidK). No condition. -/
import Derived.Test.YtjcldoejpldcmaaGreatDoorC27
import Derived.Test.YtjcldoejpldcmaaGreatDoorC6
import Derived.Lib.LaidTab
import Derived.Handed
import Derived.LaidHandle
import Derived.Test.YtjcldoejpldcmaaGreatDoorC11
import Derived.Test.YtjcldoejpldcmaaGreatDoorC17
import GoSem.PinnedTables
namespace Go.Proofs.YtjcldoejpldcmaaGreatDoor
set_option maxRecDepth 100000
set_option maxHeartbeats 6400000
open Go.RowKit
theorem St.nres_shape {w0 w:World} {R:HP} {sv tv:Value} {l:List ByteArray} {m:List (Int × Int × ByteArray)} {n k:Nat} (h:St w0 w (LAt 9 1 encS sv l*(LAt TNold 3 tolN tv m*R))) (hn:l.length=n) (hk:m.length=k) :
  ∃ sa sc ta tc,sv=.slice sa n sc/\tv=.slice ta k tc:=by
 obtain⟨sa,sc,rfl,_,_⟩:=h.l_shape;obtain⟨ta,tc,rfl,_,_⟩:=h.f2.l_shape;subst hn hk;exact⟨sa,sc,ta,tc,rfl,rfl⟩
theorem tm_equal (w:World):(Op.equalIn 10000 43 (.agg #[.int .i64 2,.int .i64 7,.int .i64 64]) (.agg #[.int .i64 2,.int .i64 7,.int .i64 64])).run Tryz.prog w=.ok true w:=by kernel_rfl
theorem tm_guard (op:BinOp) (x y:Operand) (xs ys:Array Value) (w:World):(eqGuard op 43 x y (.agg xs) (.agg ys)).run Tryz.prog w=.ok () w:=run_eqGuard_agg (P:=Tryz.prog) w op 43 x y xs ys (by kernel_rfl)
theorem wkA_get:getO (putO wkA.fr true) true=(wkA.fr,0):=by
 have:=get_put true (tm_fr (m:=wkA) (by kernel_rfl)).1
 rw[(tm_fr (m:=wkA) (by kernel_rfl)).2] at this;exact this
theorem nw_wakes (w0 w:World) (R:HP) (hN:∀ w',St w0 w' R->NamesAt w') (hF:∀ w',St w0 w' R->FirstAt w') (hL:∀ w',St w0 w' R->LinkAt w') (h:St w0 w R) :
  Calls Tryz.prog 11 #[] w fun r w'=>r=.returned (.bool true)/\St w0 w' R:=by
 have hk:=nw_new ⟨7,3,10,10,100⟩ (by kernel_rfl) w0 w R h;obtain⟨Z,e,z1,z2,z3,z4,z5,z6⟩:=nwk_all;have Z4:=Lib.hid z4;have Z2:=Lib.hid z2;go_enter Tryz.func11,Tryz.ntmps11
 go_upto_region 2 with (go_at_call 10;refine hk.mono ?_;rintro r w2 ⟨t,rfl,h2⟩)
 clear hk;have hm:=l_messageT wkR (by kernel_rfl) w0 w2 _ (fun w' h=>hN w' h.drop) (fun w' h=>hF w' h.drop) (fun w' h=>hL w' h.drop) h2;have hms:=msgT_size wkR (by kernel_rfl);have hb:=fun w h=>nw_bits t wkN 0 (msgT wkR) (nfit_new _) (by decide) hms w0 w R hN hF hL h
 rw[z1] at hb;simp only[] at hb;generalize msgT wkR=mb at *;clear z1 hms h2;obtain⟨nt,hnt⟩:∃ n,Z.told.length=n:=⟨_,rfl⟩;have hns:Z.sent.length=1:=by rw[z2];rfl
 go_wp2_with fail
 refine hm.mono ?_
 rintro r w4 ⟨rfl,h4⟩;have hk:=hb w4 h4;clear hm hb;go_upto_region 3 with (go_at_call 12;refine hk.mono ?_;rintro r w5 ⟨sv,tv,rfl,h5⟩;obtain⟨sa,sc,ta,tc,rfl,rfl⟩:=h5.nres_shape hns hnt)
 clear hk h4 hns hnt;have h6:=h5.alloc (.cells #[.slice sa 1 sc,.slice ta nt tc] TNRes);generalize w5.alloc _=w6 at *;generalize w5.heap.size=gr at *;have hl:=nw_list t Z z6.ok.on w0 w6 _ (h6.eq (show _=NwOff t Z*(LAt 9 1 encS (.slice sa 1 sc) Z.sent*(blk gr (.cells #[.slice sa 1 sc,.slice ta nt tc] TNRes (0,0))*(LAt TNold 3 tolN (.slice ta nt tc) Z.told*R))) by ac_rfl));rw[z3] at hl;clear h5 h6;go_upto_region 4 with (go_at_call 14;refine hl.mono ?_;rintro r w7 ⟨lv,rfl,h7⟩)
 clear hl;have fe:=(look_range z6.f0 z4).2.2;have hv:=nw_link t Z 64 e (kok 64 (by decide) (by decide)) fe.ok.b.fl z4 w0 w7 _ h7.f2;have sh:∃ a cap,lv=.slice a 1 cap/\(1:Nat)<=cap/\cap<=maxLen:=h7.l_shape;obtain⟨la,lc,rfl,_,_⟩:=sh;obtain⟨V,hV⟩:∃ V,e.view=V:=⟨_,rfl⟩;have hV2:∃ (a1 a2:Int) (b3 b4 b5:Bool) (a6 a7 a8 a9:Int) (b10 b11 b12:Bool) (a13 a14:Int),V=#[.int .i64 4,.int .i64 a1,.int .i64 a2,.bool b3,.bool b4,.bool b5,.int .i64 a6,.int .i64 a7,.int .i64 a8,.int .i64 a9,.bool b10,.bool b11,.bool b12,.int .i64 a13,.int .i64 a14]:=⟨_,_,_,_,_,_,_,_,_,_,_,_,_,_,by rw[← hV];unfold En.view;rw[z5]⟩;rw[hV] at hv;obtain⟨a1,a2,b3,b4,b5,a6,a7,a8,a9,b10,b11,b12,a13,a14,rfl⟩:=hV2;clear hV fe z4 z5 z3 z6;go_upto_region 5 with (go_at_call 15;refine hv.mono ?_;rintro r w8 ⟨rfl,h8⟩)
 clear hv h7;have h9:=h8.alloc (.cells #[.int .i64 4,.int .i64 a1,.int .i64 a2,.bool b3,.bool b4,.bool b5,.int .i64 a6,.int .i64 a7,.int .i64 a8,.int .i64 a9,.bool b10,.bool b11,.bool b12,.int .i64 a13,.int .i64 a14] TVw);generalize w8.alloc _=w9 at *;generalize w8.heap.size=gv at *;have h10:=h9.eq (show _=LAt 3 1 intL (.slice la 1 lc) [64]*(LAt 9 1 encS (.slice sa 1 sc) Z.sent*(blk gr (.cells #[.slice sa 1 sc,.slice ta nt tc] TNRes (0,0))*(blk gv (.cells #[.int .i64 4,.int .i64 a1,.int .i64 a2,.bool b3,.bool b4,.bool b5,.int .i64 a6,.int .i64 a7,.int .i64 a8,.int .i64 a9,.bool b10,.bool b11,.bool b12,.int .i64 a13,.int .i64 a14] TVw (0,0))*(NwOff t Z*(LAt TNold 3 tolN (.slice ta nt tc) Z.told*R))))) by ac_rfl);rcases h10.l_cells (fun _=>rfl) with ⟨h0,_⟩ | ⟨g,off,cap',hv,_,_,hcell⟩
 ·cases h0
 simp only[Value.slice.injEq] at hv;obtain⟨rfl,hq,rfl⟩:=hv;clear hq;have d0:w9.cell? ⟨g,off,none⟩=some (.int .i64 64):=hcell 0 64 rfl 0 _ rfl;have d1:=h10.f3.cell;have d2:=h10.f4.cell;have h11:=h10.drop;clear hcell h8 h9 h10;rw[Z2.out] at h11;go_upto_region 7 with fail
 rcases h11.drew.l_cells tyStr.len with ⟨h0,_⟩ | ⟨g2,off2,cap2,hv,_,_,hcell⟩
 ·cases h0
 simp only[Value.slice.injEq] at hv;obtain⟨rfl,hq,rfl⟩:=hv;clear hq;have k1:w9.drew.cell? ⟨g2,off2,none⟩=some (.string (bstr (encB (putO wkA.fr true).data.toList))):=hcell 0 _ rfl 0 _ rfl;have k0:w9.drew.cell? ⟨gr,0,none⟩=some (.slice (some ⟨g2,off2,none⟩) 1 sc):=(h11.drew.f2.cell 0).trans rfl;have hfd:=feed_put (d:=.new) (.inl rfl) (f:=wkA.fr) true (tm_fr (by kernel_rfl)).1;have hgt:=wkA_get;have hszo:(putO wkA.fr true).size<=1000:=putO_size (tm_fr (by kernel_rfl)).1;have hsz:(bstr (encB (putO wkA.fr true).data.toList)).size<=10000000:=by
  have h3:=stuffK_len (ofBits (putO wkA.fr true).data.toList) 0;rw[ofBits_len] at h3;have h4:(putO wkA.fr true).data.toList.length=(putO wkA.fr true).size:=by rw[Array.length_toList];rfl
  show (bstr (encB (putO wkA.fr true).data.toList)).data.size<=_
  unfold bstr encB;simp only[List.size_toArray,List.length_map,List.length_append,List.length_cons,List.length_nil];omega
 have harr:(⟨(putO wkA.fr true).data.toList.toArray⟩:ByteArray)=putO wkA.fr true:=by rw[Array.toArray_toList]
 have hd0:=d_new w0 w9.drew _ h11.drew;have hfe:=fun p w R h=>d_feed p .new (bstr (encB (putO wkA.fr true).data.toList)) fits_new (by decide) hsz w0 w R h
 rw[hfd] at hfe;simp only[] at hfe;have hgg:=fun w R hN hF h=>p_get (putO wkA.fr true) true w0 w R hN hF h (by omega)
 rw[hgt] at hgg;clear hfd hgt hcell d0 d1 d2 hsz;generalize hbs:bstr (encB (putO wkA.fr true).data.toList)=bs at *;generalize hoc:(putO wkA.fr true).data.toList=oc at *;generalize putO wkA.fr true=po at *;clear hbs hoc;refine wp_region_held_drew (S:=fun wx=>wx.cell? ⟨gr,0,none⟩=some (.slice (some ⟨g2,off2,none⟩) 1 sc)/\wx.cell? ⟨g2,off2,none⟩=some (.string bs)) (by kernel_rfl) ⟨k0,k1⟩ (fun hHeld=>?_)
 clear k0 k1;generalize w9.drew=wd at *;refine tk 1 ?_ rfl (fun w hSw=>?_) ?_
 rotate_left 1
 ·try dsimp only at hSw
  go_simp
  try with_reducible rfl
 try simp only[Act.put,sl]
 refine tk 2 ?_ rfl (fun w hSw=>?_) ?_
 rotate_left 1
 ·try dsimp only at hSw
  go_simp
  try with_reducible rfl
 try simp only[Act.put,sl]
 refine tk 3 ?_ rfl (fun w hSw=>?_) ?_
 rotate_left 1
 ·try dsimp only at hSw
  go_simp
  try with_reducible rfl
 try simp only[Act.put,sl]
 refine tk 4 ?_ rfl (fun w hSw=>?_) ?_
 rotate_left 1
 ·try dsimp only at hSw
  go_simp
  try with_reducible rfl
 try simp only[Act.put,sl]
 refine rd 0 rfl (fun K hK=>?_)
 go_simp
 go_at_call 22
 refine hd0.mono ?_
 rintro r wb ⟨p,rfl,hb⟩;have ks:∀ wx (A B:HP),St w0 wx (A*(LAt 9 1 encS (.slice (some ⟨g2,off2,none⟩) 1 sc) [bs]*B))->wx.cell? ⟨g2,off2,none⟩=some (.string bs):=fun wx A B h=>by
  rcases h.f2.l_cells tyStr.len with ⟨h0,_⟩ | ⟨g3,off3,cap3,hv,_,_,hcell⟩
  ·cases h0
  ·simp only[Value.slice.injEq,Option.some.injEq,Addr.mk.injEq] at hv
   obtain⟨⟨rfl,rfl,_⟩,_,_⟩:=hv;exact hcell 0 _ rfl 0 _ rfl
 go_simp
 refine hK.out _ _ ⟨(hb.f3.cell 0).trans rfl,ks _ _ _ hb⟩ (fun hHeld=>?_)
 clear hK K;try simp only[Act.put,sl]
 have hq:=hfe p wb _ hb;clear hb hd0 hfe;refine rd 5 rfl (fun K hK=>?_)
 go_simp
 go_at_call 23
 refine hq.mono ?_
 rintro r wb ⟨fv,rfl,hb⟩;have hb2:=hb.eq (show _=(LAt TEv 2 Ev.cells fv [⟨0,oc⟩]*DeAt p ⟨[],true,0⟩)*(LAt 9 1 encS (.slice (some ⟨g2,off2,none⟩) 1 sc) [bs]*(blk gr _*(blk gv _*(NwOff t Z*(LAt TNold 3 tolN (.slice ta nt tc) Z.told*R))))) by ac_rfl);go_simp
 refine hK.out _ _ ⟨(hb2.f3.cell 0).trans rfl,ks _ _ _ hb2⟩ (fun hHeld=>?_)
 clear hK K;try simp only[Act.put,sl]
 refine tk 6 ?_ rfl (fun w hSw=>?_) ?_
 rotate_left 1
 ·try dsimp only at hSw
  go_simp
  try with_reducible rfl
 try simp only[Act.put,sl]
 refine wpAnyH_done (by kernel_rfl) ?_ _
 have sh:∃ a cap,fv=.slice a 1 cap/\(1:Nat)<=cap/\cap<=maxLen:=hb.l_shape;obtain⟨fa,fc,rfl,_,_⟩:=sh;rcases hb.l_cells tyEv.len with ⟨h0,_⟩ | ⟨g4,off4,cap4,hv,_,_,hcell⟩
 ·cases h0
 simp only[Value.slice.injEq] at hv;obtain⟨rfl,hq4,rfl⟩:=hv;have f1:wb.cell? ⟨g4,off4+1,none⟩=some (.string po):=by rw[← harr];exact hcell 0 _ rfl 1 _ rfl
 clear hHeld hq hb2 hcell hq4 ks h11;have hN2:∀ w',St w0 w' (LAt TEv 2 Ev.cells (.slice (some ⟨g4,off4,none⟩) 1 fc) [⟨0,oc⟩]*(DeAt p ⟨[],true,0⟩*(LAt 9 1 encS (.slice (some ⟨g2,off2,none⟩) 1 sc) [bs]*(blk gr (.cells #[.slice (some ⟨g2,off2,none⟩) 1 sc,.slice ta nt tc] TNRes (0,0))*(blk gv (.cells #[.int .i64 4,.int .i64 a1,.int .i64 a2,.bool b3,.bool b4,.bool b5,.int .i64 a6,.int .i64 a7,.int .i64 a8,.int .i64 a9,.bool b10,.bool b11,.bool b12,.int .i64 a13,.int .i64 a14] TVw (0,0))*(NwOff t Z*(LAt TNold 3 tolN (.slice ta nt tc) Z.told*R)))))))->St w0 w' R:=fun w' h=>h.drop.drop.drop.drop.drop.drop.drop
 have hg2:=hgg wb _ (fun w' h=>hN w' (hN2 w' h)) (fun w' h=>hF w' (hN2 w' h)) hb;go_upto_region 11 with (go_at_call 24;refine hg2.mono ?_;rintro r wc ⟨rfl,hc⟩)
 clear hg2 hgg f1;have hmo:=fun w R hL h=>m_of wkA.fr true w0 w R hL h (by decide)
 rw[tm_of (m:=wkA) (by kernel_rfl) true (by kernel_rfl)] at hmo;obtain⟨q1,q2,q3,q4,q5,q6,q7,q8,hfr⟩:∃ a1 a2 c k pf ns nr inf,wkA.fr=⟨a1,a2,c,k,pf,ns,nr,inf⟩:=⟨_,_,_,_,_,_,_,_,rfl⟩;rw[hfr] at hmo;simp only[hfr,Fr.cells,Tm.cells] at hmo ⊢;have hc2:=hc.alloc (.cells #[.int .i64 q1,.int .i64 q2,.bool q3,.int .i64 q4,.bool q5,.int .i64 q6,.int .i64 q7,.string q8] TFr);have hg2:=hmo _ _ (fun w' h=>hL w' (hN2 w' h.drop)) hc2;generalize wc.alloc _=we at *;generalize wc.heap.size=gf at *;have cf:=hc2.cell;clear hmo hc hfr;have e1:=tm_equal;have e2:=tm_guard;go_upto_region 12 with (go_at_call 31;refine hg2.mono ?_;rintro r wf ⟨rfl,hf⟩)
 have h12:=hf.alloc (.cells #[.int .i64 2,.int .i64 7,.int .i64 64] TTm);have c12:=h12.cell;clear hg2 hc2 cf;go_wp2;go_ret
 exact⟨rfl,hN2 _ h12.drop.drop⟩
structure AcN where
 Do:Int
 ask:Int
 tei:Int
 later:Int
 data:ByteArray
 fa:Option Addr
 fn:Nat
 fc:Nat
 near:Bool
 N:Int
 M:Int
 raw:ByteArray
abbrev AcN.cells (a:AcN):List Value:=[.int .i64 a.Do,.int .i64 a.ask,.int .i64 a.tei,.int .i64 a.later,.string a.data,.slice a.fa a.fn a.fc,.bool a.near,.int .i64 a.N,.int .i64 a.M,.string a.raw]
abbrev TAcN:TypeId:=63
abbrev frShN:Sh:=.pair (.int .i64) (.pair (.int .i64) (.pair .bool (.pair (.int .i64) (.pair .bool (.pair (.int .i64) (.pair (.int .i64) (.pair .string .unit)))))))
abbrev anSh:Sh:=.pair (.int .i64) (.pair (.int .i64) (.pair (.int .i64) (.pair (.int .i64) (.pair .string (.pair (.slice frShN) (.pair .bool (.pair (.int .i64) (.pair (.int .i64) (.pair .string .unit)))))))))
structure AcN.Wf (w:World) (a:AcN):Prop where
 Do:(Lit.int .i64 a.Do).wf=true
 ask:(Lit.int .i64 a.ask).wf=true
 tei:(Lit.int .i64 a.tei).wf=true
 later:(Lit.int .i64 a.later).wf=true
 data:a.data.size<=maxLen
 fr:(Sh.slice frShN).ok w [.slice a.fa a.fn a.fc]
 N:(Lit.int .i64 a.N).wf=true
 M:(Lit.int .i64 a.M).wf=true
 raw:a.raw.size<=maxLen
theorem an_of {w:World} {cs:List Value} (h:anSh.ok w cs):∃ a:AcN,cs=a.cells/\a.Wf w:=by
 obtain⟨_,_,rfl,_,⟨n1,rfl,w1⟩,_,_,rfl,_,⟨n2,rfl,w2⟩,_,_,rfl,_,⟨n3,rfl,w3⟩,_,_,rfl,_,⟨n4,rfl,w4⟩,_,_,rfl,_,⟨s5,rfl,w5⟩,_,_,rfl,_,h6,_,_,rfl,_,⟨b7,rfl⟩,_,_,rfl,_,⟨n8,rfl,w8⟩,_,_,rfl,_,⟨n9,rfl,w9⟩,_,_,rfl,_,⟨s10,rfl,w10⟩,h11⟩:=h;obtain rfl:=h11;have h6':=h6;obtain⟨fa,fn,fc,rfl,_⟩:=h6';exact⟨⟨n1,n2,n3,n4,s5,fa,fn,fc,b7,n8,n9,s10⟩,rfl,⟨w1,w2,w3,w4,w5,h6,w8,w9,w10⟩⟩
abbrev nilResN:Value:=.tuple #[.agg #[.slice none 0 0,.slice none 0 0],.int .i64 1]
theorem nn_ask (now i a:Int) (d:ByteArray) (w0 w:World) (R:HP) (h:St w0 w R):Calls Tryz.prog 26 #[.pointer none,.int .i64 now,.int .i64 i,.int .i64 a,.string d] w fun r w'=>r=.returned nilResN/\St w0 w' R:=by
 have h1:=h.alloc (.cells #[.slice none 0 0,.slice none 0 0] TNRes);have c0:=h1.cell;have f0:=h1.free;go_enter Tryz.func26,Tryz.ntmps26
 go_upto_region 1 with fail
 generalize w.alloc _=wa at *;generalize w.heap.size=ga at *;have h9:=(h1.set 0 (.slice none 0 0)).set 1 (.slice none 0 0);go_wp2_with fail
 refine (nw_begin_nil _ _).mono ?_
 rintro r w5 ⟨rfl,rfl⟩;go_wp2;have c9:=h9.cell;refine bodyPost_ret (v:=.tuple #[.agg #[.slice none 0 0,.slice none 0 0],.int .i64 1]) (by simp[results,Tryz.results26,go_sem,c9]) rfl ⟨rfl,h9.drop⟩
theorem nn_bits (now:Int) (d:ByteArray) (w0 w:World) (R:HP) (h:St w0 w R):Calls Tryz.prog 12 #[.pointer none,.int .i64 now,.string d] w fun r w'=>r=.returned nilResN/\St w0 w' R:=by
 have h1:=h.alloc (.cells #[.slice none 0 0,.slice none 0 0] TNRes);have c0:=h1.cell;have f0:=h1.free;go_enter Tryz.func12,Tryz.ntmps12
 go_upto_region 1 with fail
 generalize w.alloc _=wa at *;generalize w.heap.size=ga at *;have h9:=(h1.set 0 (.slice none 0 0)).set 1 (.slice none 0 0);go_wp2_with fail
 refine (nw_begin_nil _ _).mono ?_
 rintro r w5 ⟨rfl,rfl⟩;go_wp2;have c9:=h9.cell;refine bodyPost_ret (v:=.tuple #[.agg #[.slice none 0 0,.slice none 0 0],.int .i64 1]) (by simp[results,Tryz.results12,go_sem,c9]) rfl ⟨rfl,h9.drop⟩
theorem nn_tick (now:Int) (w0 w:World) (R:HP) (h:St w0 w R):Calls Tryz.prog 18 #[.pointer none,.int .i64 now] w fun r w'=>r=.returned nilResN/\St w0 w' R:=by
 have h1:=h.alloc (.cells #[.slice none 0 0,.slice none 0 0] TNRes);have c0:=h1.cell;have f0:=h1.free;go_enter Tryz.func18,Tryz.ntmps18
 go_upto_region 1 with fail
 generalize w.alloc _=wa at *;generalize w.heap.size=ga at *;have h9:=(h1.set 0 (.slice none 0 0)).set 1 (.slice none 0 0);go_wp2_with fail
 refine (nw_begin_nil _ _).mono ?_
 rintro r w5 ⟨rfl,rfl⟩;go_wp2;have c9:=h9.cell;refine bodyPost_ret (v:=.tuple #[.agg #[.slice none 0 0,.slice none 0 0],.int .i64 1]) (by simp[results,Tryz.results18,go_sem,c9]) rfl ⟨rfl,h9.drop⟩
theorem nn_audit (now:Int) (w0 w:World) (R:HP) (h:St w0 w R):Calls Tryz.prog 19 #[.pointer none,.int .i64 now] w fun r w'=>r=.returned nilResN/\St w0 w' R:=by
 have h1:=h.alloc (.cells #[.slice none 0 0,.slice none 0 0] TNRes);have c0:=h1.cell;have f0:=h1.free;go_enter Tryz.func19,Tryz.ntmps19
 go_upto_region 1 with fail
 generalize w.alloc _=wa at *;generalize w.heap.size=ga at *;have h9:=(h1.set 0 (.slice none 0 0)).set 1 (.slice none 0 0);go_wp2_with fail
 refine (nw_begin_nil _ _).mono ?_
 rintro r w5 ⟨rfl,rfl⟩;go_wp2;have c9:=h9.cell;refine bodyPost_ret (v:=.tuple #[.agg #[.slice none 0 0,.slice none 0 0],.int .i64 1]) (by simp[results,Tryz.results19,go_sem,c9]) rfl ⟨rfl,h9.drop⟩
theorem nn_remove (now i:Int) (w0 w:World) (R:HP) (h:St w0 w R):Calls Tryz.prog 27 #[.pointer none,.int .i64 now,.int .i64 i] w fun r w'=>r=.returned nilResN/\St w0 w' R:=by
 have h1:=h.alloc (.cells #[.slice none 0 0,.slice none 0 0] TNRes);have c0:=h1.cell;have f0:=h1.free;go_enter Tryz.func27,Tryz.ntmps27
 go_upto_region 1 with fail
 generalize w.alloc _=wa at *;generalize w.heap.size=ga at *;have h9:=(h1.set 0 (.slice none 0 0)).set 1 (.slice none 0 0);go_wp2_with fail
 refine (nw_begin_nil _ _).mono ?_
 rintro r w5 ⟨rfl,rfl⟩;go_wp2;have c9:=h9.cell;refine bodyPost_ret (v:=.tuple #[.agg #[.slice none 0 0,.slice none 0 0],.int .i64 1]) (by simp[results,Tryz.results27,go_sem,c9]) rfl ⟨rfl,h9.drop⟩
theorem nn_next (w:World):Calls Tryz.prog 16 #[.pointer none] w fun r w'=>r=.returned (.tuple #[.int .i64 0,.bool false])/\w=w':=by
 go_enter Tryz.func16,Tryz.ntmps16
 go_wp2;go_ret2
 exact⟨rfl,rfl⟩
theorem nn_list (w:World):Calls Tryz.prog 14 #[.pointer none] w fun r w'=>r=.returned (.slice none 0 0)/\w=w':=by
 go_enter Tryz.func14,Tryz.ntmps14
 go_wp2;go_ret
 exact⟨rfl,rfl⟩
theorem nn_link (i:Int) (w0 w:World) (R:HP) (h:St w0 w R):Calls Tryz.prog 15 #[.pointer none,.int .i64 i] w fun r w'=>r=.returned (.tuple #[.agg zeroView,.bool false])/\St w0 w' R:=by
 have h3:=h.alloc (.cells zeroView TVw);go_enter Tryz.func15,Tryz.ntmps15
 go_upto_region 1 with fail
 generalize w.alloc _=wa at *;generalize w.heap.size=ga at *;have c0:=h3.cell;have f0:=h3.free;have h4:=(((((((((((((((h3.set 0 (.int .i64 0)).set 1 (.int .i64 0)).set 2 (.int .i64 0)).set 3 (.bool false)).set 4 (.bool false)).set 5 (.bool false)).set 6 (.int .i64 0)).set 7 (.int .i64 0)).set 8 (.int .i64 0)).set 9 (.int .i64 0)).set 10 (.bool false)).set 11 (.bool false)).set 12 (.bool false)).set 13 (.int .i64 0)).set 14 (.int .i64 0));go_wp2;have c4:=h4.cell;exact bodyPost_ret (v:=.tuple #[.agg zeroView,.bool false]) (by simp[results,Tryz.results15,go_sem,c4]) rfl ⟨rfl,h4.drop⟩
abbrev nmB:List (List UInt8):=[[73],[82,82],[82,78,82],[82,69,74],[83,65,66,77,69],[68,77],[85,73],[68,73,83,67],[85,65],[70,82,77,82]]
section
variable {H:Type} {enc:TypeId × Value->H} {P:Program} {w:World} {base:Nat} {sp:Nat->Bool} {held:Bool}
theorem cells_strs {fuel:Nat} {t e:TypeId} {n:Nat} {cs:List Value} {ss:List (List UInt8)} {p:List MemPlace}
  (ht:P.underlying t=some (.array n e)) (he:P.underlying e=some .string) (hce:P.cellsOf e=1) (hct:P.cellsOf t=n)
  (h:DataW.trod enc P w base sp held fuel t cs=some (.agg (ss.map fun s=>.lit (.string s)),p)):∀ i,i<n->∃ b:ByteArray,cs[i]?=some (.string b)/\ss[i]?=some b.data.toList:=by
 cases fuel with
 | zero=>simp[DataW.trod] at h
 | succ fuel =>
   simp only[DataW.trod,ht,hce,hct,Nat.mul_one] at h;split at h
   ·rename_i hl
    obtain⟨xs,hm,hx⟩:=Option.map_eq_some_iff.1 h;have hxs:xs.map (·.1)=ss.map fun s=>(DataW.lit (.string s):DataW H):=by
     have:=congrArg Prod.fst hx
     simpa using this
    intro i hi;obtain⟨b,hb,hf⟩:=Lib.mapM_at hm i i (by simp[hi]);obtain⟨s,hc,rfl,_⟩:=DataW.trod_string he hf;have h1:cs[i]?=some (.string s):=by
     have:=congrArg (·[0]?) hc
     simpa[List.getElem?_take,List.getElem?_drop] using this
    have h2:(xs.map (·.1))[i]?=some (DataW.lit (.string s.data.toList):DataW H):=by simp[hb]
    rw[hxs] at h2;simp only[List.getElem?_map,Option.map_eq_some_iff,DataW.lit.injEq,Lit.string.injEq] at h2;obtain⟨z',hz',hz2⟩:=h2;exact⟨s,h1,by rw[hz',hz2]⟩
   ·cases h
end
def Reads1 (P:Program) (w:World) (n:String) (d:DataW Unit):Prop :=
 ∃ g t cs fuel p,P.globalNamed n=some g/\(P.globals[g]?).map (·.type)=some t/\w.var? P n=some cs/\DataW.trod (fun _=>()) P w 0 (fun _=>true) false fuel t cs.toList=some (d,p)
theorem laid_reads {P:Program} {w:World}:∀ {l:List (String × DataW Unit)} {ps:List MemPlace},DataW.LaidVars P w l ps->∀ n d,(n,d) ∈ l->Reads1 P w n d
 | [],_,_,_,_,hm=>by cases hm
 | (n',d') :: r,ps,h,n,d,hm=>by
  obtain⟨g,t,cs,fuel,p,q,h1,h2,h3,h4,h5,_⟩:=h;rcases List.mem_cons.1 hm with e | e
  ·cases e
   exact⟨g,t,cs,fuel,p,h1,h2,h3,h4⟩
  ·exact laid_reads h5 n d e
theorem nm_full:∀ i,i<10->(!(⟨(nmB.getD i []).toArray⟩:ByteArray).toList.isEmpty)=true:=by decide +kernel
theorem names_of_laid {W : World} {l : List (String × DataW Unit)} (h : laidMet Tryz.prog l W) (hm : ("lapwing/ctrl.names", (.agg (nmB.map fun s => .lit (.string s)) : DataW Unit)) ∈ l) : NamesAt W := by
 obtain⟨ps,hv,_⟩:=h;obtain⟨g,t,cs,fuel,p,hg,ht,hvar,hd⟩:=laid_reads hv _ _ hm;obtain rfl := Option.some.inj ((show Tryz.prog.globalNamed "lapwing/ctrl.names" = some 2 by kernel_rfl).symm.trans hg)
 obtain rfl:=Option.some.inj ((show (Tryz.prog.globals[2]?).map (·.type)=some 346 by kernel_rfl).symm.trans ht);have hc:=cells_strs (n:=10) (e:=9) Tryz.underlying346 Tryz.underlying9 (by kernel_rfl) (by kernel_rfl) hd;intro i hi;obtain⟨b,h1,h2⟩:=hc i hi;refine⟨b,?_,?_⟩
 ·have e:b=⟨(nmB.getD i []).toArray⟩:=by
   have:nmB.getD i []=b.data.toList:=by simp[List.getD,h2]
   rw[this]
  rw[e];exact nm_full i hi
 ·have := World.var?_cell (show Tryz.prog.globalNamed "lapwing/ctrl.names" = some 2 by kernel_rfl) hvar i
  rw[this];simpa using h1
section
variable {H:Type} {enc:TypeId × Value->H} {P:Program} {w:World} {base:Nat} {sp:Nat->Bool} {held:Bool}
theorem cells_octs {fuel:Nat} {t e:TypeId} {n:Nat} {cs:List Value} {ks:List Int} {p:List MemPlace}
  (ht:P.underlying t=some (.array n e)) (he:P.underlying e=some (.int .u8)) (hce:P.cellsOf e=1) (hct:P.cellsOf t=n)
  (h:DataW.trod enc P w base sp held fuel t cs=some (.agg (ks.map fun s=>.lit (.int .u8 s)),p)):∀ i,i<n->cs[i]?=some (.int .u8 (ks.getD i 0)):=by
 cases fuel with
 | zero=>simp[DataW.trod] at h
 | succ fuel =>
   simp only[DataW.trod,ht,hce,hct,Nat.mul_one] at h;split at h
   ·rename_i hl
    obtain⟨xs,hm,hx⟩:=Option.map_eq_some_iff.1 h;have hxs:xs.map (·.1)=ks.map fun s=>(DataW.lit (.int .u8 s):DataW H):=by
     have:=congrArg Prod.fst hx
     simpa using this
    intro i hi;obtain⟨b,hb,hf⟩:=Lib.mapM_at hm i i (by simp[hi]);obtain⟨s,hc,rfl,_⟩:=DataW.trod_int he hf;have h1:cs[i]?=some (.int .u8 s):=by
     have:=congrArg (·[0]?) hc
     simpa[List.getElem?_take,List.getElem?_drop] using this
    have h2:(xs.map (·.1))[i]?=some (DataW.lit (.int .u8 s):DataW H):=by simp[hb]
    rw[hxs] at h2;simp only[List.getElem?_map,Option.map_eq_some_iff,DataW.lit.injEq,Lit.int.injEq] at h2;obtain⟨z',hz',_,hz2⟩:=h2;rw[h1,List.getD_eq_getElem?_getD,hz',← hz2];rfl
   ·cases h
end
theorem first_of_laid {W : World} {l : List (String × DataW Unit)} (h : laidMet Tryz.prog l W) (hm : ("lapwing/ctrl.first", (.agg (firstK.map fun s => .lit (.int .u8 s)) : DataW Unit)) ∈ l) : FirstAt W := by
 obtain⟨ps,hv,_⟩:=h;obtain⟨g,t,cs,fuel,p,hg,ht,hvar,hd⟩:=laid_reads hv _ _ hm;obtain rfl := Option.some.inj ((show Tryz.prog.globalNamed "lapwing/ctrl.first" = some 1 by kernel_rfl).symm.trans hg)
 obtain rfl:=Option.some.inj ((show (Tryz.prog.globals[1]?).map (·.type)=some 257 by kernel_rfl).symm.trans ht);have hc:=cells_octs (n:=10) (e:=5) Tryz.underlying257 Tryz.underlying5 (by kernel_rfl) (by kernel_rfl) hd;intro i hi;have := World.var?_cell (show Tryz.prog.globalNamed "lapwing/ctrl.first" = some 1 by kernel_rfl) hvar i
 rw[this];simpa using hc i hi
theorem link_of_laid {W : World} {l : List (String × DataW Unit)} (h : laidMet Tryz.prog l W) (hm : ("lapwing/teimsg.link", (.agg [.lit (.int .i64 63), .lit (.int .i64 127)] : DataW Unit)) ∈ l) : LinkAt W := by
 obtain⟨ps,hv,_⟩:=h;obtain⟨g,t,cs,fuel,p,hg,ht,hvar,hd⟩:=laid_reads hv _ _ hm;obtain rfl := Option.some.inj ((show Tryz.prog.globalNamed "lapwing/teimsg.link" = some 0 by kernel_rfl).symm.trans hg)
 obtain rfl:=Option.some.inj ((show (Tryz.prog.globals[0]?).map (·.type)=some 73 by kernel_rfl).symm.trans ht);obtain⟨xs,n,_,hx,hlen,hxl,hf⟩:=DataW.trod_struct Tryz.underlying73 hd;have hcl:cs.toList.length=2:=hlen.trans (by kernel_rfl);have h0:=hf 0 _ rfl;have h1:=hf 1 _ rfl;have hx2:xs.map (·.1)=[.lit (.int .i64 63),.lit (.int .i64 127)]:=by
  have:=congrArg Prod.fst hx
  simpa using this.symm
 match xs,hx2 with
 | [x0,x1],hx2 =>
   simp only[List.map_cons,List.map_nil,List.cons.injEq,and_true] at hx2;obtain⟨e0,e1⟩:=hx2;obtain⟨n0,c0,d0,_⟩:=DataW.trod_int Tryz.underlying3 h0;obtain⟨n1,c1,d1,_⟩:=DataW.trod_int Tryz.underlying3 h1;have g0:n0=63:=by rw[d0] at e0;simpa using e0
   have g1:n1=127:=by rw[d1] at e1;simpa using e1
   subst g0 g1;have hz := World.var?_cell (show Tryz.prog.globalNamed "lapwing/teimsg.link" = some 0 by kernel_rfl) hvar
   have k0:cs[0]?=some (.int .i64 63):=by
    have:=congrArg (·[0]?) c0
    simpa[List.getElem?_take,List.getElem?_drop,show Tryz.prog.cellsOf 3=1 by kernel_rfl] using this
   have k1:cs[1]?=some (.int .i64 127):=by
    have:=congrArg (·[0]?) c1
    simpa[List.getElem?_take,List.getElem?_drop,show Tryz.prog.cellsOf 3=1 by kernel_rfl] using this
   exact⟨(hz 0).trans k0,(hz 1).trans k1⟩
noncomputable def laidWorldK (os:Os):World :=
 let w0:=World.holding Tryz.prog os ⟨#[],#[],[]⟩
 let lay (cs:List Value) (o:Obj):Obj:=match o with
  | .cells _ t frozen=>.cells cs.toArray t frozen
  | o=>o
 { w0 with heap:=((((w0.heap.modify 2 (lay (nmB.map fun s=>Value.string ⟨s.toArray⟩))).modify 1 (lay (firstK.map fun s=>Value.int .u8 s))).modify 0 (lay [.int .i64 63,.int .i64 127])).modify 3 (lay (Pinned.utf8FirstZ.map fun (n:Nat)=>Value.int .u8 (n:Int)))).modify 4 (lay ([128,191,160,191,128,159,144,191,128,143,0,0,0,0,0,0,0,0,0,0,0,0,0,0,0,0,0,0,0,0,0,0].map fun n=>Value.int .u8 n)) }
end Go.Proofs.YtjcldoejpldcmaaGreatDoor
