/- Parts of a proof (Usv, GoneP, TimeP, WTerminalFails, WTerminalDrops). No condition. -/
import Derived.Test.YtnnahljdhdippaaGreatDoorC23
import Derived.Test.YtnnahljdhdippaaGreatDoorC9
import Derived.Test.YtnnahljdhdippaaGreatDoorC38
import Derived.Test.YtnnahljdhdippaaGreatDoorC37
import Derived.Test.YtnnahljdhdippaaGreatDoorC39
namespace Go.Proofs.YtnnahljdhdippaaGreatDoor
set_option maxRecDepth 100000
set_option maxHeartbeats 6400000
open Go.RowKit
theorem usv_guard (op:BinOp) (x y:Operand) (xs ys:Array Value) (w:World):(eqGuard op 63 x y (.agg xs) (.agg ys)).run Tryz.prog w=.ok () w:=run_eqGuard_agg (P:=Tryz.prog) w op 63 x y xs ys (by kernel_rfl)
theorem usv_same (t r n:Int) (a:Bool) (w:World):(Op.equalIn 10000 63 (.agg #[.int .i64 t,.bool a,.int .i64 r,.int .i64 n]) (.agg #[.int .i64 t,.bool a,.int .i64 r,.int .i64 n])).run Tryz.prog w=.ok true w:=by
 rw[run_equalIn_agg (P:=Tryz.prog) w 9999 63 _ _ (by kernel_rfl) (by kernel_rfl)];go_simp
def endK (y:Fx):Bool:=y.kind == 3 || y.kind == 4
theorem stop_kinds {x:En} (h:∀ y ∈ x.out,y.kind=10) (t:Int):∀ y ∈ (x.stop t).out,y.kind=10:=by
 unfold En.stop;split
 ·intro y hy
  have hm:y ∈ x.out++[Fx.tim 10 t]:=by
   have:=hy
   unfold En.tell at this;rw[En.setT_out] at this;exact this
  rcases List.mem_append.1 hm with h1 | h1
  ·exact h y h1
  ·rw[List.mem_singleton.1 h1]
 ·exact h
theorem end1_kinds {x:En} (h:x.out=[]):∀ y ∈ x.end1.out,y.kind=10:=by
 have h0:∀ y ∈ (x.setFl x.fl.clear).out,y.kind=10:=fun y hy=>by
  have:y ∈ x.out:=hy
  rw[h] at this;cases this
 exact stop_kinds (stop_kinds h0 200) 203
theorem gone_out {x:En} (h:x.out=[]) (ok:x.Ok):(∀ y ∈ x.remove.2.1,y.kind≠0/\y.kind≠9)/\List.countP endK x.remove.2.1=(if 5<=x.state\/x.state=3 then 1 else 0):=by
 have h0:=end1_kinds h;have s8:=ok.s8;have k0:∀ y ∈ x.end1.out,y.kind≠0/\y.kind≠9:=fun y hy=>by
  rw[h0 y hy];decide
 have c0:List.countP endK x.end1.out=0:=List.countP_eq_zero.2 (fun y hy=>by unfold endK;rw[h0 y hy];decide);have app:∀ k,k=3\/k=4->(∀ y ∈ x.end1.out++[Fx.of k noStr],y.kind≠0/\y.kind≠9)/\List.countP endK (x.end1.out++[Fx.of k noStr])=1:=fun k hk=>by
  refine⟨fun y hy=>?_,?_⟩
  ·rcases List.mem_append.1 hy with h1 | h1
   ·exact k0 y h1
   ·rw[List.mem_singleton.1 h1]
    show k≠0/\k≠9
    omega
  ·rw[List.countP_append,c0]
   rcases hk with rfl | rfl <;> rfl
 unfold En.remove;split
 ·rw[if_neg (by omega)]
  exact⟨fun y hy=>absurd hy (by simp),rfl⟩
 ·dsimp only
  split
  ·rw[if_pos (by omega)]
   exact app 3 (Or.inl rfl)
  ·split
   ·rw[if_pos (by omega)]
    exact app 4 (Or.inr rfl)
   ·rw[if_neg (by omega)]
    exact⟨k0,c0⟩
theorem gone_low {x:En} (h:x.Low) (_:x.Ok):x.remove.1.state=1/\x.remove.1.tei= -1/\x.remove.1.t2=false/\x.remove.1.t3=false/\x.remove.1.units=[]/\x.remove.1.fl.q.l=[]/\x.remove.1.fl.q.sent=0/\(x.remove.2.2=11↔x.state=1):=by
 have hl:=low_remove h;have hs:x.remove.1.state=1:=by
  unfold En.remove;split
  ·assumption
  ·rfl
 obtain⟨t1,t2,t3,q1,q2,u⟩:=hl (by omega);refine⟨hs,t1,t2,t3,u hs,q1,q2,?_⟩
 unfold En.remove;split
 ·rename_i h1
  exact⟨fun _=>h1,fun _=>rfl⟩
 ·rename_i h1
  exact⟨fun e=>absurd (show (0:Int)=11 from e) (by decide),fun e=>absurd e h1⟩
section
variable {N:Int} {x:Tt}
end
def endT (p:Int × ByteArray):Bool:=p.1 == 3 || p.1 == 4
theorem links0_quiet:∀ (l:List Fx) (x:Tt),(∀ y ∈ l,y.kind≠0/\y.kind≠9)->(x.links0 l).sent=x.sent/\List.countP endT (x.links0 l).told=List.countP endT x.told+List.countP endK l
 | [],_,_=>⟨rfl,rfl⟩
 | y :: l,x,h=>by
   obtain⟨h0,h9⟩:=h y (by simp);have h1:(x.link0 y).sent=x.sent/\List.countP endT (x.link0 y).told=List.countP endT x.told+List.countP endK [y]:=by
    unfold Tt.link0;rw[if_neg h0,if_neg h9];split
    ·rename_i h10
     refine⟨rfl,?_⟩
     have:endK y=false:=by unfold endK;rw[h10];decide
     rw[List.countP_cons,this];rfl
    ·refine⟨rfl,?_⟩
     show List.countP endT (x.told++[(y.kind,y.data)])=_
     rw[List.countP_append];rfl
   obtain⟨a,b⟩:=links0_quiet l (x.link0 y) (fun z hz=>h z (List.mem_cons_of_mem _ hz));refine⟨a.trans h1.1,?_⟩
   rw[show (x.links0 (y :: l))=(x.link0 y).links0 l from rfl,b,h1.2,List.countP_cons (a:=y) (l:=l),List.countP_cons];simp only[List.countP_nil];omega
def linkN (s:Int):Nat:=if 5<=s\/s=3 then 1 else 0
theorem rem_quiet (y:Tt) (h:y.Fit):((y.setE y.e.remove.1).links0 y.e.remove.2.1).sent=y.sent/\List.countP endT ((y.setE y.e.remove.1).links0 y.e.remove.2.1).told=List.countP endT y.told+linkN y.e.state/\((y.setE y.e.remove.1).links0 y.e.remove.2.1).e.state=1/\((y.setE y.e.remove.1).links0 y.e.remove.2.1).Fit/\((y.setE y.e.remove.1).links0 y.e.remove.2.1).u=y.u:=by
 obtain⟨g1,g2⟩:=gone_out h.e.out h.e.ok;obtain⟨a,b⟩:=links0_quiet y.e.remove.2.1 (y.setE y.e.remove.1) g1;obtain⟨f1,f2⟩:=fit_remove h.e;refine⟨a,by rw[b,g2];rfl,?_,(fit_links0 _ (fit_setE h f1) f2).1,links0_u _⟩
 rw[links0_e];exact (gone_low h.e.lo h.e.ok).1
theorem rem_eq (y:Tt) (h:y.Fit):(y.setE y.e.remove.1).links y.e.remove.2.1=(y.setE y.e.remove.1).links0 y.e.remove.2.1 :=
 links_eq _ _ (fun z hz=>((fit_remove h.e).2 z hz).1.2.2)
structure Down (x:Tt):Prop where
 fit:x.Fit
 sent:x.sent=[]
 st:x.e.state=1
 v:x.u.v=.zero
 c:x.c=[]
theorem drop_down {cf:Tcf} {n:Nat} {x:Tt} (h:x.Well cf n) (now:Int) (hb:badNow now=false) :
  (x.drop now).2=0/\Down (x.drop now).1/\List.countP endT (x.drop now).1.told=linkN x.e.state:=by
 have hf:=fit_drop h.fit now;have key:∀ y:Tt,y.Fit->y.sent=[]->y.u.v=.zero->List.countP endT y.told+linkN y.e.state=linkN x.e.state ->
   Down (((((y.setE y.e.remove.1).links y.e.remove.2.1).setC (dropped ((y.setE y.e.remove.1).links y.e.remove.2.1).c 0)).setD .new))/\List.countP endT ((((y.setE y.e.remove.1).links y.e.remove.2.1).setC (dropped ((y.setE y.e.remove.1).links y.e.remove.2.1).c 0)).setD .new).told=linkN x.e.state:=by
  intro y fy hs hv hc;rw[rem_eq y fy];obtain⟨q1,q2,q3,q4,q5⟩:=rem_quiet y fy;generalize (y.setE y.e.remove.1).links0 y.e.remove.2.1=z at *;have hz:dropped z.c 0=[]:=by
   unfold dropped;refine List.filter_eq_nil_iff.2 (fun p hp=>?_)
   rcases q4.k.2 p hp with e | e | e <;> rw[e] <;> decide
  refine⟨⟨⟨q4.e,q4.u,fits_new,by rw[show ((z.setC (dropped z.c 0)).setD .new).c=dropped z.c 0 from rfl,hz];exact keys_nil⟩,q1.trans hs,q3,by rw[show ((z.setC (dropped z.c 0)).setD .new).u=z.u from rfl,q5];exact hv,hz⟩,?_⟩
  show List.countP endT z.told=_
  rw[q2];exact hc
 unfold Tt.drop;rw[hb,if_neg (by decide)];dsimp only;refine⟨rfl,?_⟩
 have hb0:(x.begin now).Fit:=fit_begin h.fit now;unfold Us.drop;split
 ·refine key _ (fit_users _ (fit_setU hb0 (us_zero h.fit.u))).1 rfl rfl ?_
  show 0+linkN x.e.state=_
  omega
 ·rename_i ha
  split
  ·rename_i ht
   refine key _ (fit_users _ (fit_setU hb0 h.fit.u)).1 rfl ?_ ?_
   ·have hq:=h.tidy.idle (by simpa using ha)
    show x.u.v=.zero
    have ha2:x.u.v.asking=false:=by simpa using ha
    have hev:x.u.v=⟨x.u.v.tei,x.u.v.asking,x.u.v.ri,x.u.v.tries⟩:=rfl;rw[hev,ht,ha2,hq.1,hq.2]
   ·show 0+linkN x.e.state=_
    omega
  ·have hy0:((x.begin now).setU x.u.lose.1).Fit:=fit_setU hb0 (us_lose h.fit.u).1
   obtain⟨q1,q2,q3,q4,q5⟩:=rem_quiet _ hy0;refine key _ q4 q1 (by show (((x.begin now).setU x.u.lose.1).users x.u.lose.2).u.v=_;rw[users_u];rfl) ?_
   show List.countP endT (Tt.links0 _ _).told+linkN (Tt.links0 _ _).e.state=_
   rw[q2,q3];show 0+linkN x.e.state+linkN 1=_
   rw[show linkN 1=0 from rfl];omega
theorem down_ask {x:Tt} (h:Down x) (now:Int) (hb:badNow now=false) :
  (x.ask now 0 noStr).2=0/\(x.ask now 0 noStr).1.sent.length=1/\(x.ask now 0 noStr).1.u.v.asking=true/\(x.ask now 0 noStr).1.Fit:=by
 have hf:=fit_tt_ask h.fit now 0 noStr;have e1:x.e.ask 0 noStr=((x.e.setState 3),[Fx.of 8 noStr],0):=by
  have ho:=h.fit.e.out;unfold En.ask;rw[if_neg (by decide),if_neg (by decide)];dsimp only;rw[if_pos rfl];unfold En.establish;rw[if_pos h.st];show (((x.e.setState 3).told 8 noStr).done,((x.e.setState 3).told 8 noStr).out,(0:Int))=_
  have e2:((x.e.setState 3).told 8 noStr).out=[Fx.of 8 noStr]:=by show x.e.out++[Fx.of 8 noStr]=_;rw[ho];rfl
  have e3:((x.e.setState 3).told 8 noStr).done=x.e.setState 3:=by
   show (⟨x.e.most,3,x.e.tei,x.e.tries,x.e.asked,x.e.t2,x.e.t3,x.e.units,x.e.fl,[]⟩:En)=⟨x.e.most,3,x.e.tei,x.e.tries,x.e.asked,x.e.t2,x.e.t3,x.e.units,x.e.fl,x.e.out⟩
   rw[ho]
  rw[e2,e3]
 have e4:x.u.want=((x.u.ask 1).1,(x.u.ask 1).2,0):=by
  unfold Us.want;rw[h.v,if_neg (by decide),if_neg (by decide)]
 have e:x.ask now 0 noStr=(((((x.begin now).setE (x.e.setState 3)).setU (x.u.ask 1).1).users (x.u.ask 1).2),0):=by
  unfold Tt.ask;rw[hb,if_neg (by decide),e1];dsimp only;rw[links_wish];show ((Tt.setU _ x.u.want.1).users x.u.want.2.1,(0:Int))=_
  rw[e4]
 rw[e] at hf ⊢;exact⟨rfl,rfl,rfl,hf⟩
abbrev cfSh:Sh:=.pair (.int .i64) (.pair (.int .i64) (.pair (.int .i64) (.pair (.int .i64) (.pair (.int .i64) (.pair (.int .i64) .unit)))))
theorem cf_of {w:World} {cs:List Value} (h:cfSh.ok w cs):∃ c:Tcf,cs=c.cells/\(Lit.int .i64 c.k).wf=true/\(Lit.int .i64 c.n200).wf=true/\(Lit.int .i64 c.n202).wf=true/\(Lit.int .i64 c.t200).wf=true/\(Lit.int .i64 c.t202).wf=true/\(Lit.int .i64 c.t203).wf=true:=by
 obtain⟨_,_,rfl,_,⟨n1,rfl,w1⟩,_,_,rfl,_,⟨n2,rfl,w2⟩,_,_,rfl,_,⟨n3,rfl,w3⟩,_,_,rfl,_,⟨n4,rfl,w4⟩,_,_,rfl,_,⟨n5,rfl,w5⟩,_,_,rfl,_,⟨n6,rfl,w6⟩,h12⟩:=h;obtain rfl:=h12;exact⟨⟨n1,n2,n3,n4,n5,n6⟩,rfl,w1,w2,w3,w4,w5,w6⟩
theorem usv_f1 (v0 v1 v2 v3:Value) (w:World):(Instr.field 63 (.agg #[v0,v1,v2,v3]) 1).run Tryz.prog w=.ok v1 w:=by kernel_rfl
theorem usv_asking (v:Uv) (w:World):(Instr.field 63 (.agg v.cells.toArray) 1).run Tryz.prog w=.ok (.bool v.asking) w:=usv_f1 _ _ _ _ w
theorem endT_take {l:List (Int × ByteArray)} {j:Nat} {p:Int × ByteArray} (h:l[j]?=some p):List.countP endT (l.take (j+1))=List.countP endT (l.take j)+if endT p=true then 1 else 0:=by
 rw[List.take_add_one,h,List.countP_append];show _+List.countP endT [p]=_
 rw[List.countP_cons,List.countP_nil,Nat.zero_add]
theorem TerminalDrops.walk (a0:Array Value) (a1:Int) (a2:Option Addr) (len2 cap2:Nat) (w:World) (hN:NamesAt w) (hF:FirstAt w) (hL:LinkAt w) (w0:Sh.ok w cfSh a0.toList) (_w1:(Lit.int .u64 a1).wf=true) (w2:(Sh.slice atSh).ok w [.slice a2 len2 cap2]) :
  Calls Tryz.prog 7 #[.agg a0,.int .u64 a1,.slice a2 len2 cap2] w fun e w'=>e=.returned (.bool true)/\Below w.heap.size w w':=by
 obtain⟨l1,l2,l3⟩:=at_script w2;unfold maxLen at l2;have L3:=Lib.hid l3;clear l3 w2;obtain⟨c,ha,_⟩:=cf_of w0;obtain rfl:a0=c.cells.toArray:=by rw[← ha]
 have hO:∀ w',St w w' (Old w)->NamesAt w':=fun w' h=>hN.old h.old0 hN.pos
 have hO2:∀ w',St w w' (Old w)->FirstAt w':=fun w' h=>hF.old h.old0 hF.pos
 have hO3:∀ w',St w w' (Old w)->LinkAt w':=fun w' h=>hL.old h.old0 hL.pos
 have h2:=((St.start w).alloc (.cells c.cells.toArray 23));clear w0 ha hN hF hL;have hg:=fun w0 w R h=>l_good c w0 w R h
 obtain⟨hr,hr2,hr3⟩:=goodC_range c;have hgg:=goodC_good c;generalize goodC c=g at *;have hnw:=fun v w0 w R h=>t_new g v ⟨false,[],a1⟩ hgg w0 w R h
 have hrw:=fun q w0 w R h=>rt_new g q ⟨false,[],a1⟩ ⟨rfl,rfl⟩ w0 w R h
 have hX0:=Lib.hid (And.intro (well_new g ⟨false,[],a1⟩) (And.intro (trivial) (And.intro hr (And.intro hr2 hr3))));generalize newTt g ⟨false,[],a1⟩=x0 at *;obtain⟨c1,c2,c3,c4,c5,c6⟩:=c;obtain⟨g0,hg0⟩:∃ g0,g0=g:=⟨_,rfl⟩;obtain⟨g1,g2,g3,g4,g5,g6⟩:=g;rw[← hg0] at hX0;have HG0:=Lib.hid hg0;clear hg0;simp only[Tcf.cells] at *;clear hgg hr hr2 hr3;have d:=h2.cell;go_enter Tryz.func7,Tryz.ntmps7
 go_upto_region 1 with fail
 generalize w.alloc _=wa at *;generalize hga:w.heap.size=ga at *;have HGA:=Lib.hid hga;clear hga;have hk:=hg w wa _ h2;go_upto_region 2 with (go_at_call 10;refine hk.mono ?_;rintro r wb ⟨rfl,h3⟩)
 have h4:=(h3.alloc (.cells #[.int .i64 g1,.int .i64 g2,.int .i64 g3,.int .i64 g4,.int .i64 g5,.int .i64 g6] TCf)).alloc (.cells #[.int .i64 g1,.int .i64 g2,.int .i64 g3,.int .i64 g4,.int .i64 g5,.int .i64 g6] 27);clear hk hg d h2 h3;go_upto_region 2 with fail
 simp only[World.size_alloc] at *;generalize (wb.alloc _).alloc _=wc at *;generalize wb.heap.size=gh at *;have h5:=h4.f2.drew;have e0:wc.drew.cell? ⟨gh,0,none⟩=some (.int .i64 g1):=(h5.cell 0).trans rfl;have e1:wc.drew.cell? ⟨gh,1,none⟩=some (.int .i64 g2):=(h5.cell 1).trans rfl;have e2:wc.drew.cell? ⟨gh,2,none⟩=some (.int .i64 g3):=(h5.cell 2).trans rfl;have e3:wc.drew.cell? ⟨gh,3,none⟩=some (.int .i64 g4):=(h5.cell 3).trans rfl;have e4:wc.drew.cell? ⟨gh,4,none⟩=some (.int .i64 g5):=(h5.cell 4).trans rfl;have e5:wc.drew.cell? ⟨gh,5,none⟩=some (.int .i64 g6):=(h5.cell 5).trans rfl;have hk:=dr_new0 a1 w wc.drew _ h5;refine wp_region_held_drew (S:=fun wx=>wx.cell? ⟨gh,0,none⟩=some (.int .i64 g1)/\wx.cell? ⟨gh,1,none⟩=some (.int .i64 g2)/\wx.cell? ⟨gh,2,none⟩=some (.int .i64 g3)/\wx.cell? ⟨gh,3,none⟩=some (.int .i64 g4)/\wx.cell? ⟨gh,4,none⟩=some (.int .i64 g5)/\wx.cell? ⟨gh,5,none⟩=some (.int .i64 g6)) (by kernel_rfl) ⟨e0,e1,e2,e3,e4,e5⟩ (fun hHeld=>?_)
 clear e0 e1 e2 e3 e4 e5 h4 h5;generalize wc.drew=wd at *;refine tk 0 ?_ rfl (fun w hSw=>?_) ?_
 rotate_left 1
 ·try dsimp only at hSw
  go_simp
  try with_reducible rfl
 try simp only[Act.put,sl]
 refine tk 1 ?_ rfl (fun w hSw=>?_) ?_
 rotate_left 1
 ·try dsimp only at hSw
  go_simp
  try with_reducible rfl
 try simp only[Act.put,sl]
 refine rd 2 rfl (fun K hK=>?_)
 go_simp
 go_at_call 12
 refine hk.mono ?_
 rintro r we ⟨p,rfl,h6⟩;clear hk;have h7:=h6.f2;have cg:=h7.cell;have hk:=hnw (ptr p) w we _ (h6.dv_some rfl);go_simp
 refine hK.out _ _ ⟨(cg 0).trans rfl,(cg 1).trans rfl,(cg 2).trans rfl,(cg 3).trans rfl,(cg 4).trans rfl,(cg 5).trans rfl⟩ (fun hHeld=>?_)
 clear hK K;try simp only[Act.put,sl]
 clear cg h6 h7;refine rd 3 rfl (fun K hK=>?_)
 go_simp
 go_at_call 11
 refine hk.mono ?_
 rintro r wf ⟨t,rfl,h6⟩;clear hk hnw;have cg:=h6.f2.cell;go_simp
 refine hK.out _ _ ⟨(cg 0).trans rfl,(cg 1).trans rfl,(cg 2).trans rfl,(cg 3).trans rfl,(cg 4).trans rfl,(cg 5).trans rfl⟩ (fun hHeld=>?_)
 clear hK K;try simp only[Act.put,sl]
 refine tk 4 ?_ rfl (fun w hSw=>?_) ?_
 rotate_left 1
 ·try dsimp only at hSw
  go_simp
  try with_reducible rfl
 try simp only[Act.put,sl]
 refine tk 5 ?_ rfl (fun w hSw=>?_) ?_
 rotate_left 1
 ·try dsimp only at hSw
  go_simp
  try with_reducible rfl
 try simp only[Act.put,sl]
 refine tk 6 ?_ rfl (fun w hSw=>?_) ?_
 rotate_left 1
 ·try dsimp only at hSw
  go_simp
  try with_reducible rfl
 try simp only[Act.put,sl]
 refine tk 7 ?_ rfl (fun w hSw=>?_) ?_
 rotate_left 1
 ·try dsimp only at hSw
  go_simp
  try with_reducible rfl
 try simp only[Act.put,sl]
 refine tk 8 ?_ rfl (fun w hSw=>?_) ?_
 rotate_left 1
 ·try dsimp only at hSw
  go_simp
  try with_reducible rfl
 try simp only[Act.put,sl]
 refine wpAnyH_done (by kernel_rfl) ?_ _
 clear hHeld cg;go_upto_region 3 with fail
 have h5:=(h6.eq (show _=blk (gh+1) (.cells #[.int .i64 g1,.int .i64 g2,.int .i64 g3,.int .i64 g4,.int .i64 g5,.int .i64 g6] 27 (0,0))*(TtOff t x0*(blk gh (.cells #[.int .i64 g1,.int .i64 g2,.int .i64 g3,.int .i64 g4,.int .i64 g5,.int .i64 g6] TCf (0,0))*(blk ga (.cells #[.int .i64 c1,.int .i64 c2,.int .i64 c3,.int .i64 c4,.int .i64 c5,.int .i64 c6] 23 (0,0))*Old w))) by ac_rfl)).drew;clear h6;have e0:wf.drew.cell? ⟨gh+1,0,none⟩=some (.int .i64 g1):=(h5.cell 0).trans rfl;have e1:wf.drew.cell? ⟨gh+1,1,none⟩=some (.int .i64 g2):=(h5.cell 1).trans rfl;have e2:wf.drew.cell? ⟨gh+1,2,none⟩=some (.int .i64 g3):=(h5.cell 2).trans rfl;have e3:wf.drew.cell? ⟨gh+1,3,none⟩=some (.int .i64 g4):=(h5.cell 3).trans rfl;have e4:wf.drew.cell? ⟨gh+1,4,none⟩=some (.int .i64 g5):=(h5.cell 4).trans rfl;have e5:wf.drew.cell? ⟨gh+1,5,none⟩=some (.int .i64 g6):=(h5.cell 5).trans rfl;refine wp_region_held_drew (S:=fun wx=>wx.cell? ⟨gh+1,0,none⟩=some (.int .i64 g1)/\wx.cell? ⟨gh+1,1,none⟩=some (.int .i64 g2)/\wx.cell? ⟨gh+1,2,none⟩=some (.int .i64 g3)/\wx.cell? ⟨gh+1,3,none⟩=some (.int .i64 g4)/\wx.cell? ⟨gh+1,4,none⟩=some (.int .i64 g5)/\wx.cell? ⟨gh+1,5,none⟩=some (.int .i64 g6)) (by kernel_rfl) ⟨e0,e1,e2,e3,e4,e5⟩ (fun hHeld=>?_)
 clear e0 e1 e2 e3 e4 e5;generalize wf.drew=wd2 at *;have hk:=rd_new0 a1 w wd2 _ h5;refine tk 0 ?_ rfl (fun w hSw=>?_) ?_
 rotate_left 1
 ·try dsimp only at hSw
  go_simp
  try with_reducible rfl
 try simp only[Act.put,sl]
 refine tk 1 ?_ rfl (fun w hSw=>?_) ?_
 rotate_left 1
 ·try dsimp only at hSw
  go_simp
  try with_reducible rfl
 try simp only[Act.put,sl]
 refine rd 2 rfl (fun K hK=>?_)
 go_simp
 go_at_call 14
 refine hk.mono ?_
 rintro r we2 ⟨p2,rfl,h6⟩;clear hk h5;have cg:=h6.f2.cell;have hk:=hrw p2 w we2 _ h6;go_simp
 refine hK.out _ _ ⟨(cg 0).trans rfl,(cg 1).trans rfl,(cg 2).trans rfl,(cg 3).trans rfl,(cg 4).trans rfl,(cg 5).trans rfl⟩ (fun hHeld=>?_)
 clear hK K;try simp only[Act.put,sl]
 clear cg h6;refine rd 3 rfl (fun K hK=>?_)
 go_simp
 go_at_call 13
 refine hk.mono ?_
 rintro r wh ⟨r0,rfl,h6⟩;clear hk hrw;have cg:=h6.f2.cell;go_simp
 refine hK.out _ _ ⟨(cg 0).trans rfl,(cg 1).trans rfl,(cg 2).trans rfl,(cg 3).trans rfl,(cg 4).trans rfl,(cg 5).trans rfl⟩ (fun hHeld=>?_)
 clear hK K;try simp only[Act.put,sl]
 refine tk 4 ?_ rfl (fun w hSw=>?_) ?_
 rotate_left 1
 ·try dsimp only at hSw
  go_simp
  try with_reducible rfl
 try simp only[Act.put,sl]
 refine wpAnyH_done (by kernel_rfl) ?_ _
 clear hHeld cg;have h7:=h6.f2.drop.f3.drop.f3.drop;clear h6;have hk:=tt_wakes w wh _ (fun w' h=>hO w' h.drop.drop) (fun w' h=>hO2 w' h.drop.drop) (fun w' h=>hO3 w' h.drop.drop) h7;go_upto_region 6 with (go_at_call 15;refine hk.mono ?_;rintro r wj ⟨rfl,h8⟩)
 clear hk h7;have H:St w wj (TtOff t x0*(RtOff 0 r0 x0*Old w)):=by first | exact h8 | exact h8.f2
 clear h8;go_cut [51,52,53] (fun s51 s52 s53 wx=>∃ m:Nat,m<=len2/\m<=50/\s51=.slice a2 m cap2/\s52=.int .i64 m/\s53=.int .i64 0/\wj=wx)
 case first =>
  go_wp2;all_goals (go_meet;first | exact⟨len2,Nat.le_refl _,by omega,rfl,rfl,rfl,rfl⟩ | exact⟨50,by omega,by omega,rfl,rfl,rfl,rfl⟩ | (refine⟨(min (len2:Int) 50).toNat,by omega,by omega,?_,?_,rfl,rfl⟩ <;> (first | rfl | (congr 1;omega))))
 case rest =>
  obtain⟨m,hm,hm40,rfl,rfl,rfl,rfl⟩:=hcut;have HW:=Lib.hid hX0.out.1;have HI:=Lib.hid H;clear H hX0;go_wp2;go_loopw [53] (fun s53 wr=>∃ (k:Nat) (x:Tt),k<=m/\s53=.int .i64 k/\Hid (x.Well g0 (100000*k))/\Hid (St w wr (TtOff t x*(RtOff (100000*k) r0 x*Old w)))) (fun s53 _=>m - (intOf s53).toNat)
  case atStart=>exact⟨0,x0,by omega,rfl,HW,HI⟩
  case round =>
   clear HW HI;obtain⟨k,x,hk,rfl,HG,H⟩:=hrel;by_cases hlt:k<m
   ·have hlti:(k:Int)<(m:Int):=by omega
    obtain⟨b,off,rfl,hb,hi⟩:=L3.out (by omega);obtain⟨y,yok,hy⟩:=hi k (by omega);have hbel:=(H.out.drop.drop).old0;have hfr:=frs_of yok;have hc:=fun j (hj:j<13)=>(hbel.cell (p:=⟨b,off+k*13+j,none⟩) (by have:=HGA.out;show b<w.heap.size;omega)).trans (hy j hj)
    clear yok hi hy L3;obtain⟨yDo,yask,ylater,ydata,ym0,ym1,ym2,yown,yfa,yfn,yfc,ynear,yN,yM,yraw⟩:=y;have d0:wr.cell? ⟨b,off+k*13,none⟩=some (Value.int .i64 yDo):=(hc 0 (by decide)).trans (show _=some (Value.int .i64 yDo) from rfl);have d1:=(hc 1 (by decide)).trans (show _=some (Value.int .i64 yask) from rfl);have d2:=(hc 2 (by decide)).trans (show _=some (Value.int .i64 ylater) from rfl);have d3:=(hc 3 (by decide)).trans (show _=some (Value.string ydata) from rfl);have d4:=(hc 4 (by decide)).trans (show _=some (Value.int .i64 ym0) from rfl);have d5:=(hc 5 (by decide)).trans (show _=some (Value.int .i64 ym1) from rfl);have d6:=(hc 6 (by decide)).trans (show _=some (Value.int .i64 ym2) from rfl);have d7:=(hc 7 (by decide)).trans (show _=some (Value.bool yown) from rfl);have d8:=(hc 8 (by decide)).trans (show _=some (Value.slice yfa yfn yfc) from rfl);have d9:=(hc 9 (by decide)).trans (show _=some (Value.bool ynear) from rfl);have d10:=(hc 10 (by decide)).trans (show _=some (Value.int .i64 yN) from rfl);have d11:=(hc 11 (by decide)).trans (show _=some (Value.int .i64 yM) from rfl);have d12:=(hc 12 (by decide)).trans (show _=some (Value.string yraw) from rfl);have hfs:=fun w' (h:St w w' (Old w))=>hfr.old h.old0
    have HFS:=Lib.hid hfs;clear hc hbel hfr hfs;have ew:IntKind.i64.wrap ((k:Int)*3)=(k:Int)*3:=by rw[IntKind.wrap_i64];omega
    have H5:=(H.out.alloc (.cells (AcT.cells ⟨yDo,yask,ylater,ydata,ym0,ym1,ym2,yown,yfa,yfn,yfc,ynear,yN,yM,yraw⟩).toArray TAct)).eq (show _=TtOff t x*(RtOff (100000*k) r0 x*(blk wr.heap.size (.cells (AcT.cells ⟨yDo,yask,ylater,ydata,ym0,ym1,ym2,yown,yfa,yfn,yfc,ynear,yN,yM,yraw⟩).toArray TAct (0,0))*Old w)) by ac_rfl);go_upto_region 9 with fail
    generalize wr.alloc _=wa at *;generalize wr.heap.size=gq at *;clear d0 d1 d2 d3 d4 d5 d6 d7 d8 d9 d10 d11 d12 H;have hk:=l_act g0 (100000*k) t r0 w.heap.size (100000*k) x ((k:Int)*3) ⟨yDo,yask,ylater,ydata,ym0,ym1,ym2,yown,yfa,yfn,yfc,ynear,yN,yM,yraw⟩ HG.out (by omega) (by omega) w wa _ (fun w' h=>hO w' h.drop) (fun w' h=>hO2 w' h.drop) (fun w' h=>hO3 w' h.drop) (fun w' h=>HFS.out w' h.drop) H5;have d0:=H5.f3.cell;clear H5 HG;go_wp2_with fail
    refine hk.mono ?_
    rintro q wb ⟨rfl,X,hX,h6⟩;have ek:100000*k+100000=100000*(k+1):=by omega
    rw[ek] at hX h6;have HX:=Lib.hid hX;have HH:=Lib.hid h6.f3.drop;clear hk hX h6 ek d0;go_wp2;go_roundw
    case rel=>exact⟨k+1,X,by omega,by go_num,HX,HH⟩
    case measure=>simp[intOf];omega
   ·obtain rfl:k=m:=by omega
    have hw:=HG.out;have hl:=t_link t x hw.fit.e.ok.b.fl w wr _ H.out;have e1:=env_state x.e;obtain⟨q1,q2,q3⟩:=drop_down hw 1000 (badNow_f (by decide) (by decide));have hk:=fun w' R h1 h2 h3 h=>t_drop t x 1000 hw.fit w w' R h1 h2 h3 h
    rw[q1] at hk;have hd:=q2;generalize (x.drop 1000).1=X at *;obtain⟨p1,p2,p3,p4⟩:=down_ask hd 1001 (badNow_f (by decide) (by decide));have ha:=fun w' R h1 h2 h3 h=>t_ask t X 1001 0 noStr hd.fit w w' R h1 h2 h3 h
    rw[p1] at ha;have hv:=fun w' R h=>t_link t X hd.fit.e.ok.b.fl w w' R h
    have hu:=fun w' R h=>t_user t X w w' R h
    have hn:=fun w' R h=>t_next t X w w' R h
    have e2:=env_state X.e;rw[hd.st] at e2;rw[hd.v] at hu;obtain⟨tn,htn⟩:∃ n,X.told.length=n:=⟨_,rfl⟩;have s1:=hw.fit.e.ok.s1;have s8:=hw.fit.e.ok.s8;generalize (X.ask 1001 0 noStr).1=Y at *;have hy:=fun w' R h=>t_user t Y w w' R h
    have e3:=usv_asking Y.u.v;rw[p3] at e3;generalize Y.u.v=yv at *;generalize x.e.view=V at *;generalize x.e.state=st at *;generalize X.e.view=V2 at *;have HD:=Lib.hid (And.intro hd (And.intro q3 (And.intro p2 htn)));have HV:=Lib.hid (And.intro hv (And.intro hu (And.intro hn (And.intro ha hy))));have s0:=hd.sent;clear q1 q2 q3 p1 p2 p3 p4 hd hw HG hv hu hn ha hy;go_upto_region 12 with (go_at_call 16;refine hl.mono ?_;clear hl;rintro q1 wa ⟨rfl,h1⟩)
    have hk:=hk wa _ (fun w' h=>hO w' h.drop) (fun w' h=>hO2 w' h.drop) (fun w' h=>hO3 w' h.drop) h1;rw[s0] at hk;clear h1 H s0;go_upto_region 14 with (go_at_call 29;refine hk.mono ?_;clear hk;rintro q2 wb ⟨sv,tv,rfl,h2⟩;obtain⟨sa,sc,rfl,_,_⟩:=h2.l_shape;obtain⟨ta,tc,rfl,_,htc⟩:=h2.f2.l_shape)
    rw[htn] at h2;have h3:=((h2.drop.f2).alloc (.cells #[.slice sa 0 sc,.slice ta tn tc] TRes)).eq (show _=TtOff t X*(LAt TTold 2 tolC (.slice ta tn tc) X.told*(blk wb.heap.size (.cells #[.slice sa 0 sc,.slice ta tn tc] TRes (0,0))*(RtOff (100000*k) r0 x*Old w))) by ac_rfl);clear h2;generalize wb.alloc _=wd at *;generalize wb.heap.size=gb at *;have c0:=h3.f3.cell;have htm:(tn:Int)<=9223372036854775807:=by unfold maxLen at htc;omega
    have HTM:=Lib.hid htm;have H3:=Lib.hid h3;clear h3 htc htm;go_wp2;go_loopw [17,76] (fun s17 s76 wr=>∃ j:Nat,j<=tn/\s76=.int .i64 j/\s17=.int .i64 ((List.countP endT (X.told.take j):Nat):Int)/\Hid (St w wr (TtOff t X*(LAt TTold 2 tolC (.slice ta tn tc) X.told*(blk gb (.cells #[.slice sa 0 sc,.slice ta tn tc] TRes (0,0))*(RtOff (100000*k) r0 x*Old w)))))) (fun _ s76 _=>tn - (intOf s76).toNat)
    case atStart=>exact⟨0,by omega,rfl,rfl,H3⟩
    case round =>
     clear H3 c0;obtain⟨j,hj,rfl,rfl,H⟩:=hrel;by_cases hlt:j<tn
     ·have hlti:(j:Int)<(tn:Int):=by omega
      have hil:j<X.told.length:=by rw[HD.out.2.2.2];exact hlt
      obtain⟨p,hp⟩:∃ p,X.told[j]?=some p:=⟨X.told[j],List.getElem?_eq_getElem hil⟩;obtain⟨g1,o1,rfl⟩:=H.out.f2.l_addr tyTold.len (fun e=>by rw[e] at hil;cases hil);have HC:=Lib.hid (endT_take hp);have hcn:List.countP endT (X.told.take j)<=j:=Nat.le_trans List.countP_le_length (by rw[List.length_take];omega);obtain⟨p1,p2⟩:=p;have e1:wr.cell? ⟨g1,o1+j*2,none⟩=some (.int .i64 p1):=H.out.f2.l_at tyTold.len hp 0 _ rfl;have e2:wr.cell? ⟨g1,o1+j*2+1,none⟩=some (.string p2):=H.out.f2.l_at tyTold.len hp 1 _ rfl;have h6:=H.out.alloc (.cells #[.int .i64 p1,.string p2] TTold);have htm2:=HTM.out;obtain⟨cn,hcc⟩:∃ cn,List.countP endT (X.told.take j)=cn:=⟨_,rfl⟩;rw[hcc] at HC hcn ⊢;have ew:IntKind.i64.wrap ((cn:Int)+1)=(cn:Int)+1:=by rw[IntKind.wrap_i64];omega
      clear hp hil H hcc;go_upto_region 17 with fail
      generalize wr.alloc _=wf at *;generalize wr.heap.size=gf at *;have c0:=h6.cell;clear e1 e2;by_cases b3:p1=3
      ·have q3:(p1 == 3)=true:=by simp[b3]
       have hz:endT (p1,p2)=true:=by unfold endT;simp[b3]
       rw[hz,if_pos rfl] at HC;clear b3 hz;have HH:=Lib.hid h6.drop;clear h6;go_wp2;go_roundw
       case rel=>exact⟨j+1,by omega,by go_num,by rw[HC.out];go_num,HH⟩
       case measure=>simp[intOf];omega
      ·have q3:(p1 == 3)=false:=by simp[b3]
       by_cases b4:p1=4
       ·have q4:(p1 == 4)=true:=by simp[b4]
        have hz:endT (p1,p2)=true:=by unfold endT;simp[b4]
        rw[hz,if_pos rfl] at HC;clear b3 b4 hz;have HH:=Lib.hid h6.drop;clear h6;go_wp2;go_roundw
        case rel=>exact⟨j+1,by omega,by go_num,by rw[HC.out];go_num,HH⟩
        case measure=>simp[intOf];omega
       ·have q4:(p1 == 4)=false:=by simp[b4]
        have hz:endT (p1,p2)=false:=by unfold endT;simp[b3,b4]
        rw[hz,if_neg (by decide),Nat.add_zero] at HC;clear b3 b4 hz;have HH:=Lib.hid h6.drop;clear h6;go_wp2;go_roundw
        case rel=>exact⟨j+1,by omega,by go_num,by rw[HC.out];go_num,HH⟩
        case measure=>simp[intOf];omega
     ·obtain rfl:j=tn:=by omega
      have hlk:List.countP endT (X.told.take j)=linkN st:=by
       rw[List.take_of_length_le (by rw[HD.out.2.2.2];exact Nat.le_refl _)];exact HD.out.2.1
      clear HTM;by_cases b5:5<=st
      ·have d5:decide (5<=st)=true:=by simpa using b5
       rw[show linkN st=1 by unfold linkN;rw[if_pos (.inl b5)]] at hlk;clear b5;rw[hlk];clear hlk;have c0:=H.out.f3.cell;have heq:=usv_same;have hgd:=usv_guard;go_wp2_with fail
       refine (HV.out.1 wr _ H.out).mono ?_
       rintro q3 v1 ⟨rfl,h4⟩;have c1:=h4.f3.cell;clear c0 H;go_wp2_with fail
       refine (HV.out.2.1 v1 _ h4).mono ?_
       rintro q4 v2 ⟨rfl,h5⟩;clear c1 h4;go_wp2_with fail
       refine (HV.out.2.2.1 v2 _ h5).mono ?_
       rintro q5 v3 ⟨f,b,hnx,rfl,h6⟩;rw[HD.out.1.c] at hnx;obtain rfl:b=false:=by
        rcases hnx with ⟨_,_,hb⟩ | ⟨_,⟨p,hp,_⟩,_⟩
        ·exact hb
        ·cases hp
       clear h5 heq hgd hnx;obtain⟨yt,hyt⟩:∃ n,Y.told.length=n:=⟨_,rfl⟩;go_upto_region 25 with (go_at_call 17;refine (HV.out.2.2.2.1 v3 _ (fun w' h=>hO w' h.drop.drop.drop) (fun w' h=>hO2 w' h.drop.drop.drop) (fun w' h=>hO3 w' h.drop.drop.drop) h6).mono ?_;rintro q6 v4 ⟨sv,tv,rfl,h7⟩;obtain⟨sb,sd,tb,td,rfl,rfl⟩:=h7.res_shape HD.out.2.2.1 hyt)
       clear h6 hyt;have h8:=((h7.drop.drop).alloc (.cells #[.slice sb 1 sd,.slice tb yt td] TRes)).f2;clear h7;generalize v4.alloc _=v5 at *;generalize v4.heap.size=gy at *;have c2:=h8.f2.cell;go_wp2_with fail
       refine (HV.out.2.2.2.2 v5 _ h8).mono ?_
       rintro q7 v6 ⟨rfl,h9⟩;have hE:=Lib.hid h9.drop.drop.drop.drop.drop.old0;clear c2 h8 h9;go_wp2;go_ret
       exact⟨rfl,hE.out⟩
      ·have d5:decide (5<=st)=false:=by simpa using b5
       by_cases b3:st=3
       ·have q3:(st == 3)=true:=by simp[b3]
        rw[show linkN st=1 by unfold linkN;rw[if_pos (.inr b3)]] at hlk;clear b5 b3;rw[hlk];clear hlk;have c0:=H.out.f3.cell;have heq:=usv_same;have hgd:=usv_guard;go_wp2_with fail
        refine (HV.out.1 wr _ H.out).mono ?_
        rintro q3 v1 ⟨rfl,h4⟩;have c1:=h4.f3.cell;clear c0 H;go_wp2_with fail
        refine (HV.out.2.1 v1 _ h4).mono ?_
        rintro q4 v2 ⟨rfl,h5⟩;clear c1 h4;go_wp2_with fail
        refine (HV.out.2.2.1 v2 _ h5).mono ?_
        rintro q5 v3 ⟨f,b,hnx,rfl,h6⟩;rw[HD.out.1.c] at hnx;obtain rfl:b=false:=by
         rcases hnx with ⟨_,_,hb⟩ | ⟨_,⟨p,hp,_⟩,_⟩
         ·exact hb
         ·cases hp
        clear h5 heq hgd hnx;obtain⟨yt,hyt⟩:∃ n,Y.told.length=n:=⟨_,rfl⟩;go_upto_region 25 with (go_at_call 17;refine (HV.out.2.2.2.1 v3 _ (fun w' h=>hO w' h.drop.drop.drop) (fun w' h=>hO2 w' h.drop.drop.drop) (fun w' h=>hO3 w' h.drop.drop.drop) h6).mono ?_;rintro q6 v4 ⟨sv,tv,rfl,h7⟩;obtain⟨sb,sd,tb,td,rfl,rfl⟩:=h7.res_shape HD.out.2.2.1 hyt)
        clear h6 hyt;have h8:=((h7.drop.drop).alloc (.cells #[.slice sb 1 sd,.slice tb yt td] TRes)).f2;clear h7;generalize v4.alloc _=v5 at *;generalize v4.heap.size=gy at *;have c2:=h8.f2.cell;go_wp2_with fail
        refine (HV.out.2.2.2.2 v5 _ h8).mono ?_
        rintro q7 v6 ⟨rfl,h9⟩;have hE:=Lib.hid h9.drop.drop.drop.drop.drop.old0;clear c2 h8 h9;go_wp2;go_ret
        exact⟨rfl,hE.out⟩
       ·have q3:(st == 3)=false:=by simp[b3]
        rw[show linkN st=0 by unfold linkN;rw[if_neg (by omega)]] at hlk;clear b5 b3;rw[hlk];clear hlk;have c0:=H.out.f3.cell;have heq:=usv_same;have hgd:=usv_guard;go_wp2_with fail
        refine (HV.out.1 wr _ H.out).mono ?_
        rintro q3 v1 ⟨rfl,h4⟩;have c1:=h4.f3.cell;clear c0 H;go_wp2_with fail
        refine (HV.out.2.1 v1 _ h4).mono ?_
        rintro q4 v2 ⟨rfl,h5⟩;clear c1 h4;go_wp2_with fail
        refine (HV.out.2.2.1 v2 _ h5).mono ?_
        rintro q5 v3 ⟨f,b,hnx,rfl,h6⟩;rw[HD.out.1.c] at hnx;obtain rfl:b=false:=by
         rcases hnx with ⟨_,_,hb⟩ | ⟨_,⟨p,hp,_⟩,_⟩
         ·exact hb
         ·cases hp
        clear h5 heq hgd hnx;obtain⟨yt,hyt⟩:∃ n,Y.told.length=n:=⟨_,rfl⟩;go_upto_region 25 with (go_at_call 17;refine (HV.out.2.2.2.1 v3 _ (fun w' h=>hO w' h.drop.drop.drop) (fun w' h=>hO2 w' h.drop.drop.drop) (fun w' h=>hO3 w' h.drop.drop.drop) h6).mono ?_;rintro q6 v4 ⟨sv,tv,rfl,h7⟩;obtain⟨sb,sd,tb,td,rfl,rfl⟩:=h7.res_shape HD.out.2.2.1 hyt)
        clear h6 hyt;have h8:=((h7.drop.drop).alloc (.cells #[.slice sb 1 sd,.slice tb yt td] TRes)).f2;clear h7;generalize v4.alloc _=v5 at *;generalize v4.heap.size=gy at *;have c2:=h8.f2.cell;go_wp2_with fail
        refine (HV.out.2.2.2.2 v5 _ h8).mono ?_
        rintro q7 v6 ⟨rfl,h9⟩;have hE:=Lib.hid h9.drop.drop.drop.drop.drop.old0;clear c2 h8 h9;go_wp2;go_ret
        exact⟨rfl,hE.out⟩
end Go.Proofs.YtnnahljdhdippaaGreatDoor
