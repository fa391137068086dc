/- Parts of a proof (NGivP, GoodN, WNetworkGives). No condition. -/
import Derived.Test.YtjcldoejpldcmaaGreatDoorC27
import Derived.Test.YtjcldoejpldcmaaGreatDoorC28
namespace Go.Proofs.YtjcldoejpldcmaaGreatDoor
set_option maxRecDepth 100000
set_option maxHeartbeats 6400000
open Go.RowKit
theorem ints_ok {w:World} {a:Option Addr} {len cap:Nat} (h:(Sh.slice (.int .i64)).ok w [.slice a len cap]):len<=cap/\cap<=maxLen/\(0<len->∃ b off,a=some ⟨b,off,none⟩/\b<w.heap.size /\
  ∀ i,i<len->∃ n,w.cell? ⟨b,off+i,none⟩=some (.int .i64 n)/\(Lit.int .i64 n).wf=true):=by
 obtain⟨h1,h2,h3⟩:=Sh.slice_ok h (by decide);refine⟨h1,h2,fun h0=>?_⟩
 obtain⟨b,off,ha,hb,hi⟩:=h3 h0;refine⟨b,off,ha,hb,fun i hil=>?_⟩
 obtain⟨xs,_,hc,n,rfl,hn⟩:=hi i hil;have:=hc 0 (by decide)
 exact⟨n,by simpa[Sh.size] using this,hn⟩
theorem i64_and65535 (n:Int):bits .and .i64 n 65535=n % 65536:=by
 have h255:(BitVec.ofInt 64 65535).toNat=2 ^ 16 - 1:=by decide
 have key:(BitVec.ofInt 64 n &&& BitVec.ofInt 64 65535).toNat=(n % ((2 ^ 64:Nat):Int)).toNat % 2 ^ 16:=by
  rw[BitVec.toNat_and,BitVec.toNat_ofInt,h255,Nat.and_two_pow_sub_one_eq_mod]
 show IntKind.i64.wrap ((BitVec.ofInt 64 n &&& BitVec.ofInt 64 65535).toNat:Nat)=n % 65536
 rw[key,IntKind.wrap_i64];omega
def DP (k:Nat):Pl:=⟨2 ^ (min k 63) - 1,(min k 63+62) % 63⟩
theorem DP_seek (k:Nat) (h:k<63):Pl.seek 63 (DP k)=(DP (k+1),64+(k:Int),0):=by
 have:∀ i:Fin 63,(Pl.seek 63 (DP i)).1.on=(DP (i+1)).on/\(Pl.seek 63 (DP i)).1.last=(DP (i+1)).last/\(Pl.seek 63 (DP i)).2.1=64+((i:Nat):Int)/\(Pl.seek 63 (DP i)).2.2=0:=by decide +kernel
 obtain⟨h1,h2,h3,h4⟩:=this ⟨k,h⟩;generalize Pl.seek 63 (DP k)=r at *;obtain⟨⟨a,b⟩,c,d⟩:=r;simp only[] at h1 h2 h3 h4;subst h1 h2 h3 h4;rfl
theorem DP_upto (k:Nat) (h:k<=63):(DP k).upto 63=List.range k:=by
 have:∀ i:Fin 64,(DP i).upto 63=List.range i:=by decide +kernel
 exact this ⟨k,by omega⟩
theorem den_one (k:Nat) (h:k<63) (c:List (Int × Chk)) (ri:Int) (h1:0<=ri) (h2:ri<65536):Sr.message ⟨DP k,c⟩ ⟨1,ri,127⟩=(⟨DP (k+1),c⟩,[.said 2 ri (64+k),.of 1 (64+k)]):=by
 have hb:Tm.bad ⟨1,ri,127⟩=0:=tm_ok (by decide) (by decide) h1 h2 (by decide) (by decide);unfold Sr.message Sr.request;rw[hb,if_neg (by simp),if_pos rfl,if_neg (by simp)];simp only[DP_seek k h,if_true]
theorem assign_new (k n t:Int) (h0:0<=t) (h1:t<=126):((newEn k n).assign t).2.1=[]/\((newEn k n).assign t).1.state=4/\((newEn k n).assign t).1.tei=t:=by
 unfold En.assign;rw[if_neg (by omega),if_neg (by show ¬ (4:Int)<=1;decide)];exact⟨rfl,rfl,rfl⟩
structure Gven (x:Nw) (k:Nat):Prop where
 s:x.s=⟨DP k,[]⟩
 c:x.c=[]
 d:x.d.idle
 l:∀ j,j<k->∃ e,mlook x.l (64+(j:Int))=some e/\e.state=4/\e.tei=64+(j:Int)
 fit:x.Fit
theorem gven_new (cf:Ncf):Gven (newNw cf) 0:=⟨rfl,rfl,.inl rfl,fun j hj=>absurd hj (Nat.not_lt_zero j),nfit_new cf⟩
theorem gven_step {x:Nw} {k:Nat} (h:Gven x k) (hk:k<63) (now ri:Int) (hb:badNow now=false) (r0:0<=ri) (r1:ri<65536) :
  ∃ Y,x.bits now (msgT ⟨1,ri,127⟩)=(Y,0)/\Y.sent.length=1/\Y.told.length=0/\Gven Y (k+1):=by
 have hfit:=nfit_bits h.fit now (msgT ⟨1,ri,127⟩);have he:=nbits_msg x now hb h.d ⟨1,ri,127⟩ (tm_ok (by decide) (by decide) r0 r1 (by decide) (by decide)) rfl;rw[h.s,den_one k hk [] ri r0 r1] at he;simp only[] at he;generalize hY:Nw.srcs _ _=Y at he;rw[he] at hfit;refine⟨Y,he,?_⟩
 obtain⟨a1,a2,a3⟩:=assign_new x.cf.k x.cf.n200 (64+(k:Int)) (by omega) (by omega);have e1:Y=((((x.begin now).setD ⟨[],true,0⟩).setS ⟨DP (k+1),[]⟩).send (Tm.fr ⟨2,ri,64+(k:Int)⟩)).putE (64+(k:Int)) ((newEn x.cf.k x.cf.n200).assign (64+(k:Int))).1:=by
  rw[← hY];show Nw.links _ _ ((newEn x.cf.k x.cf.n200).assign (64+(k:Int))).2.1=_
  rw[a1];rfl
 refine⟨by rw[e1];rfl,by rw[e1];rfl,by rw[e1];rfl,by rw[e1];exact h.c,by rw[e1];exact .inr rfl,fun j hj=>?_,hfit⟩
 rw[e1];show ∃ e,mlook (mput x.l (64+(k:Int)) _) (64+(j:Int))=some e/\_
 by_cases hjk:j=k
 ·subst hjk
  exact⟨_,mlook_mput_same _ _ _,a2,a3⟩
 ·rw[mlook_mput_ne (by omega)]
  exact h.l j (by omega)
theorem Gven.list {x:Nw} {k:Nat} (h:Gven x k) (hk:k<=63):x.list=(List.range k).map fun (i:Nat)=>64+(i:Int):=by
 unfold Nw.list;rw[h.s];show ((DP k).upto 63).map _=_
 rw[DP_upto k hk]
theorem ngood_of {c:Ncf}:c.good=(decide (1<=c.t200) && decide (c.t200<=1048576) && (decide (1<=c.t201) && decide (c.t201<=1048576)) && (decide (1<=c.t203) && decide (c.t203<=1048576))):=by
 have key:∀ p:Int,(!badP p)=(decide (1<=p) && decide (p<=1048576)):=fun p=>by
  unfold badP;by_cases a:1<=p <;> by_cases b:p<=1048576 <;> simp[a,b] <;> omega
 unfold Ncf.good;rw[key,key,key]
def goodN (c:Ncf):Ncf:={ c with t200:=1+max 0 c.t200 % 100,t201:=1+max 0 c.t201 % 100,t203:=1+max 0 c.t203 % 1000 }
theorem goodN_good (c:Ncf):(goodN c).good=true:=by
 rw[ngood_of];unfold goodN;simp
 omega
theorem l_goodN (c:Ncf) (w0 w:World) (R:HP) (h:St w0 w R) :
  Calls Tryz.prog 9 #[.agg c.cells.toArray] w fun r w'=>r=.returned (.tuple #[.agg (goodN c).cells.toArray,.agg (goodN c).cells.toArray])/\St w0 w' R:=by
 have h1:=((h.alloc (.cells c.cells.toArray 23)).alloc (.cells #[.int .i64 0,.int .i64 0,.int .i64 0,.int .i64 0,.int .i64 0] TNcf)).alloc (.cells #[.int .i64 0,.int .i64 0,.int .i64 0,.int .i64 0,.int .i64 0] 26);unfold goodN;obtain⟨c1,c2,c4,c5,c6⟩:=c;simp only[Ncf.cells] at *;clear h;go_enter Tryz.func9,Tryz.ntmps9
 go_upto_region 1 with fail
 simp only[World.size_alloc] at *;generalize ((w.alloc _).alloc _).alloc _=wa at *;generalize w.heap.size=ga at *;have d:=h1.f3.cell;have fr:=h1.f3.free;have h2:=((h1.f3.set 2 (.int .i64 (1+max 0 c4 % 100))).set 3 (.int .i64 (1+max 0 c5 % 100))).set 4 (.int .i64 (1+max 0 c6 % 1000));go_upto_region 2 with fail
 generalize ((wa.setCell _ _).setCell _ _).setCell _ _=wb at *;clear h1 d fr;have e0:wb.drew.cell? ⟨ga,0,none⟩=some (.int .i64 c1):=(h2.drew.cell 0).trans rfl;have e1:wb.drew.cell? ⟨ga,1,none⟩=some (.int .i64 c2):=(h2.drew.cell 1).trans rfl;have e3:wb.drew.cell? ⟨ga,2,none⟩=some (.int .i64 (1+max 0 c4 % 100)):=(h2.drew.cell 2).trans rfl;have e4:wb.drew.cell? ⟨ga,3,none⟩=some (.int .i64 (1+max 0 c5 % 100)):=(h2.drew.cell 3).trans rfl;have e5:wb.drew.cell? ⟨ga,4,none⟩=some (.int .i64 (1+max 0 c6 % 1000)):=(h2.drew.cell 4).trans rfl;have h3:=h2.drew;clear h2;generalize hx4:1+max 0 c4 % 100=d4 at *;generalize hx5:1+max 0 c5 % 100=d5 at *;generalize hx6:1+max 0 c6 % 1000=d6 at *;have HX:=Lib.hid (And.intro hx4 (And.intro hx5 hx6));clear hx4 hx5 hx6;refine wp_region_held_drew (S:=fun wx=>wx.cell? ⟨ga,0,none⟩=some (.int .i64 c1)/\wx.cell? ⟨ga,1,none⟩=some (.int .i64 c2)/\wx.cell? ⟨ga,2,none⟩=some (.int .i64 d4)/\wx.cell? ⟨ga,3,none⟩=some (.int .i64 d5)/\wx.cell? ⟨ga,4,none⟩=some (.int .i64 d6)) (by kernel_rfl) ⟨e0,e1,e3,e4,e5⟩ (fun hHeld=>?_)
 clear e0 e1 e3 e4 e5;generalize wb.drew=wd at *;have fa:=h3.f3.free;have fb:=h3.f2.free;have ca:=h3.f3.cell;have cb:=h3.f2.cell;have h4:=((((h3.f3.set 0 (.int .i64 c1)).set 1 (.int .i64 c2)).set 2 (.int .i64 d4)).set 3 (.int .i64 d5)).set 4 (.int .i64 d6);refine tk 0 ?_ rfl (fun w hSw=>?_) ?_
 rotate_left 1
 ·try dsimp only at hSw
  go_simp
  try with_reducible rfl
 try simp only[Act.put,sl]
 refine tk 1 ?_ rfl (fun w hSw=>?_) ?_
 rotate_left 1
 ·try dsimp only at hSw
  go_simp
  try with_reducible rfl
 try simp only[Act.put,sl]
 refine rd 2 rfl (fun K hK=>?_)
 go_simp
 have cg:=h4.f2.cell;go_simp
 refine hK.out _ _ ⟨(cg 0).trans rfl,(cg 1).trans rfl,(cg 2).trans rfl,(cg 3).trans rfl,(cg 4).trans rfl⟩ (fun hHeld=>?_)
 clear hK K;try simp only[Act.put,sl]
 clear fa fb ca cb cg h3;generalize ((((wd.setCell _ _).setCell _ _).setCell _ _).setCell _ _).setCell _ _=we at *;have fb:=h4.f3.free;have cb:=h4.f3.cell;have h5:=((((h4.f3.set 0 (.int .i64 c1)).set 1 (.int .i64 c2)).set 2 (.int .i64 d4)).set 3 (.int .i64 d5)).set 4 (.int .i64 d6);refine rd 3 rfl (fun K hK=>?_)
 go_simp
 have cg:=h5.f3.cell;go_simp
 refine hK.out _ _ ⟨(cg 0).trans rfl,(cg 1).trans rfl,(cg 2).trans rfl,(cg 3).trans rfl,(cg 4).trans rfl⟩ (fun hHeld=>?_)
 clear hK K;try simp only[Act.put,sl]
 clear fb cb cg h4;generalize ((((we.setCell _ _).setCell _ _).setCell _ _).setCell _ _).setCell _ _=wf at *;refine wpAnyH_done (by kernel_rfl) ?_ _
 clear hHeld;go_wp2;have r1:=h5.f2.cell;have r2:=h5.cell;refine bodyPost_ret (v:=.tuple #[.agg #[.int .i64 c1,.int .i64 c2,.int .i64 d4,.int .i64 d5,.int .i64 d6],.agg #[.int .i64 c1,.int .i64 c2,.int .i64 d4,.int .i64 d5,.int .i64 d6]]) (by simp[results,Tryz.results9,go_sem,r1,r2]) rfl ⟨?_,h5.drop.drop.drop⟩
 rw[HX.out.1,HX.out.2.1,HX.out.2.2]
abbrev ncfSh:Sh:=.pair (.int .i64) (.pair (.int .i64) (.pair (.int .i64) (.pair (.int .i64) (.pair (.int .i64) .unit))))
theorem ncf_of {w:World} {cs:List Value} (h:ncfSh.ok w cs):∃ c:Ncf,cs=c.cells:=by
 obtain⟨_,_,rfl,_,⟨n1,rfl,w1⟩,_,_,rfl,_,⟨n2,rfl,w2⟩,_,_,rfl,_,⟨n3,rfl,w3⟩,_,_,rfl,_,⟨n4,rfl,w4⟩,_,_,rfl,_,⟨n5,rfl,w5⟩,h12⟩:=h;obtain rfl:=h12;exact⟨⟨n1,n2,n3,n4,n5⟩,rfl⟩
theorem NetworkGives.walk (a0:Array Value) (a1:Option Addr) (len1 cap1:Nat) (w:World) (hN:NamesAt w) (hF:FirstAt w) (hL:LinkAt w) (w0:Sh.ok w ncfSh a0.toList) (w1:(Sh.slice (.int .i64)).ok w [.slice a1 len1 cap1]) :
  Calls Tryz.prog 3 #[.agg a0,.slice a1 len1 cap1] w fun e w'=>e=.returned (.bool true)/\Below w.heap.size w w':=by
 obtain⟨c,ha⟩:=ncf_of w0;obtain rfl:a0=c.cells.toArray:=by rw[← ha]
 obtain⟨l1,l2,l3⟩:=ints_ok w1;unfold maxLen at l2;have L3:=Lib.hid l3;have hO:∀ w',St w w' (Old w)->NamesAt w':=fun w' h=>hN.old h.old0 hN.pos
 have hO2:∀ w',St w w' (Old w)->FirstAt w':=fun w' h=>hF.old h.old0 hF.pos
 have hO3:∀ w',St w w' (Old w)->LinkAt w':=fun w' h=>hL.old h.old0 hL.pos
 have h2:=((St.start w).alloc (.cells c.cells.toArray 23));clear w0 w1 ha hN hF hL l3;have hg:=fun w0 w R h=>l_goodN c w0 w R h
 have hgg:=goodN_good c;generalize goodN c=g at *;have hnw:=fun w0 w R h=>nw_new g hgg w0 w R h
 have hX0:=Lib.hid (gven_new g);generalize newNw g=x0 at *;obtain⟨c1,c2,c3,c4,c5⟩:=c;obtain⟨g1,g2,g3,g4,g5⟩:=g;simp only[Ncf.cells] at *;clear hgg;have d:=h2.cell;go_enter Tryz.func3,Tryz.ntmps3
 go_upto_region 1 with fail
 generalize w.alloc _=wa at *;generalize hga:w.heap.size=ga at *;have HGA:=Lib.hid hga;clear hga;have hk:=hg w wa _ h2;go_upto_region 2 with (go_at_call 9;refine hk.mono ?_;rintro r wb ⟨rfl,h3⟩)
 have h4:=(h3.alloc (.cells #[.int .i64 g1,.int .i64 g2,.int .i64 g3,.int .i64 g4,.int .i64 g5] TNcf)).alloc (.cells #[.int .i64 g1,.int .i64 g2,.int .i64 g3,.int .i64 g4,.int .i64 g5] 26);clear hk hg d h2 h3;go_upto_region 2 with fail
 simp only[World.size_alloc] at *;generalize (wb.alloc _).alloc _=wc at *;generalize wb.heap.size=gh at *;have d:=h4.f2.cell;have hk:=hnw w wc _ h4;clear hnw;go_upto_region 3 with (go_at_call 10;refine hk.mono ?_;rintro r wf ⟨t,rfl,h6⟩)
 have h7:=h6.f2.drop.f2.drop.f2.drop;clear h4 h6 d hk;have hk:=nw_wakes w wf _ (fun w' h=>hO w' h.drop) (fun w' h=>hO2 w' h.drop) (fun w' h=>hO3 w' h.drop) h7;go_upto_region 5 with (go_at_call 11;refine hk.mono ?_;rintro r wj ⟨rfl,H⟩)
 clear hk h7;go_cut [1] (fun s1 wx=>∃ m:Nat,m<=len1/\m<=63/\s1=.slice a1 m cap1/\wj=wx)
 case first =>
  clear H L3 hX0;go_wp2;all_goals (go_meet;first | exact⟨(min (len1:Int) 63).toNat,by omega,by omega,rfl,rfl⟩ | exact⟨len1,Nat.le_refl _,by omega,rfl,rfl⟩ | exact⟨63,by omega,by omega,rfl,rfl⟩)
 case rest =>
  obtain⟨m,hm,hm63,rfl,rfl⟩:=hcut;go_wp2;go_loopw [43] (fun i wr=>∃ (k:Nat) (x:Nw),k<=m/\i=.int .i64 k/\Hid (Gven x k)/\Hid (St w wr (NwOff t x*Old w))) (fun i _=>m - (intOf i).toNat)
  case atStart=>exact⟨0,x0,by omega,rfl,hX0,Lib.hid H⟩
  case round =>
   clear H hX0;obtain⟨k,x,hk,rfl,HG,H⟩:=hrel;by_cases hlt:k<m
   ·obtain⟨b,off,rfl,hb,hi⟩:=L3.out (by omega)
    obtain⟨n,hn,hwf⟩:=hi k (by omega);have d0:=H.out.drop.old0.cell (p:=⟨b,off+k,none⟩) (by have:=HGA.out;show b<w.heap.size;omega);rw[hn] at d0;have hri:=i64_and65535 n;have n1:=Int.emod_nonneg n (show (65536:Int)≠0 by decide);have n2:=Int.emod_lt_of_pos n (show (0:Int)<65536 by decide);generalize n % 65536=ri at *;have hbad:Tm.bad ⟨1,ri,127⟩=0:=tm_ok (by decide) (by decide) n1 n2 (by decide) (by decide);have hnow:badNow (k:Int)=false:=by unfold badNow;exact decide_eq_false (by omega)
    obtain⟨Y,y1,y2,y3,y4⟩:=gven_step HG.out (by omega) k ri hnow n1 n2;have hq:=l_messageT ⟨1,ri,127⟩ hbad w wr _ (fun w' h=>hO w' h.drop) (fun w' h=>hO2 w' h.drop) (fun w' h=>hO3 w' h.drop) H.out;have hdo:x.d.o<=100000000000000000:=by rcases HG.out.d with e | e <;> rw[e] <;> decide
    have hq2:=fun w' h=>nw_bits t x k (msgT ⟨1,ri,127⟩) HG.out.fit hdo (msgT_size _ hbad) w w' _ hO hO2 hO3 h
    rw[y1] at hq2;simp only[] at hq2;generalize msgT ⟨1,ri,127⟩=mb at *;have HY:=Lib.hid y4;clear hi hn hwf hb HG y1 y4 H hnow hbad hdo;go_wp2_with fail
    refine hq.mono ?_
    rintro r w3 ⟨rfl,h3⟩;have hq3:=hq2 w3 h3;clear hq hq2;go_upto_region 10 with (go_at_call 12;refine hq3.mono ?_;rintro r w5 ⟨sv,tv,rfl,h5⟩;obtain⟨sa,sc,ta,tc,rfl,rfl⟩:=h5.nres_shape y2 y3)
    clear hq3 h3 y2 y3 d0;have h6:=h5.alloc (.cells #[.slice sa 1 sc,.slice ta 0 tc] TNRes);generalize w5.alloc _=w6 at *;generalize w5.heap.size=gr at *;have d1:=h6.cell;have h7:=h6.drop.drop.drop;clear h5;go_wp2;go_roundw
    case rel=>exact⟨k+1,Y,by omega,by go_num,HY,Lib.hid h7⟩
    case measure=>simp[intOf];omega
   ·obtain rfl:k=m:=by omega
    have hl:=nw_list t x HG.out.fit.ok.on w wr _ H.out;rw[HG.out.list hm63] at hl;clear H;go_upto_region 14 with (go_at_call 14;refine hl.mono ?_;rintro r w3 ⟨lv,rfl,h3⟩)
    clear hl;have sh:=h3.l_shape;rw[List.length_map,List.length_range] at sh;obtain⟨la,lc,rfl,_,_⟩:=sh;have H3:=Lib.hid h3;clear h3;go_wp2;go_loopw [77] (fun i wr=>∃ j:Nat,j<=k/\i=.int .i64 j/\Hid (St w wr (LAt 3 1 intL (.slice la k lc) ((List.range k).map fun (i:Nat)=>64+(i:Int))*(NwOff t x*Old w)))) (fun i _=>k - (intOf i).toNat)
    case atStart=>exact⟨0,by omega,rfl,H3⟩
    case round =>
     clear H3;obtain⟨j,hj,rfl,H⟩:=hrel;by_cases hlt2:j<k
     ·rcases H.out.l_cells (fun _=>rfl) with ⟨h0,_⟩ | ⟨gl,off,cap',hv,_,_,hcell⟩
      ·have:=congrArg List.length h0
       rw[List.length_map,List.length_range] at this;simp at this
       omega
      ·simp only[Value.slice.injEq] at hv
       obtain⟨rfl,hq,rfl⟩:=hv;clear hq;have d0:wr.cell? ⟨gl,off+j*1,none⟩=some (.int .i64 (64+(j:Int))):=hcell j _ (by rw[List.getElem?_map,List.getElem?_range hlt2];rfl) 0 _ rfl;rw[Nat.mul_one] at d0;obtain⟨e,e1,e2,e3⟩:=HG.out.l j hlt2;have hki:kInt.ok (64+(j:Int)):=kok _ (by omega) (by omega);have fe:=(look_range HG.out.fit.f0 e1).2.2;have hv:=nw_link t x (64+(j:Int)) e hki fe.ok.b.fl e1 w wr _ H.out.f2;obtain⟨V,hV⟩:∃ V,e.view=V:=⟨_,rfl⟩;have hV2:∃ (a2:Int) (b3 b4 b5:Bool) (a6 a7 a8 a9:Int) (b10 b11 b12:Bool) (a13 a14:Int),V=#[.int .i64 4,.int .i64 (64+(j:Int)),.int .i64 a2,.bool b3,.bool b4,.bool b5,.int .i64 a6,.int .i64 a7,.int .i64 a8,.int .i64 a9,.bool b10,.bool b11,.bool b12,.int .i64 a13,.int .i64 a14]:=⟨_,_,_,_,_,_,_,_,_,_,_,_,_,by rw[← hV];unfold En.view;rw[e2,e3]⟩;rw[hV] at hv;obtain⟨a2,b3,b4,b5,a6,a7,a8,a9,b10,b11,b12,a13,a14,rfl⟩:=hV2;have hw64:IntKind.i64.wrap (64+(j:Int))=64+(j:Int):=by rw[IntKind.wrap_i64];omega
       clear hV fe e1 e2 e3 hcell H hki;go_upto_region 18 with (go_at_call 15;refine hv.mono ?_;rintro r w5 ⟨rfl,h5⟩)
       clear hv d0;have h6:=h5.alloc (.cells #[.int .i64 4,.int .i64 (64+(j:Int)),.int .i64 a2,.bool b3,.bool b4,.bool b5,.int .i64 a6,.int .i64 a7,.int .i64 a8,.int .i64 a9,.bool b10,.bool b11,.bool b12,.int .i64 a13,.int .i64 a14] TVw);generalize w5.alloc _=w6 at *;generalize w5.heap.size=gv at *;have d1:=h6.cell;have h7:=h6.drop.f2;clear h5;go_wp2;go_roundw
       case rel=>exact⟨j+1,by omega,by go_num,Lib.hid h7⟩
       case measure=>simp[intOf];omega
     ·obtain rfl:j=k:=by omega
      have hq:=nw_next t x w wr _ H.out.f2;clear H;go_upto_region 22 with (go_at_call 16;refine hq.mono ?_;rintro r w5 ⟨f,bb,hnx,rfl,h5⟩)
      clear hq;have hbb:bb=false:=by
       rcases hnx with ⟨_,_,e⟩ | ⟨_,⟨p,hp,_⟩,_⟩
       ·exact e
       ·rw[HG.out.c] at hp;cases hp
      subst hbb;have h9:=h5.drop.drop.old0;clear hnx h5;go_wp2;go_ret
      exact⟨by simp,h9⟩
end Go.Proofs.YtjcldoejpldcmaaGreatDoor
