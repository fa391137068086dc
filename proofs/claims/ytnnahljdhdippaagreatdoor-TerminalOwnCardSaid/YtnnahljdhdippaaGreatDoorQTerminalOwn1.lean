/- Parts of a proof (LawR, LawS, OwnP, WTerminalFails, WTerminalOwn). No condition. -/
import Derived.Test.YtnnahljdhdippaaGreatDoorC38
import Derived.Test.YtnnahljdhdippaaGreatDoorC23
import Derived.Test.YtnnahljdhdippaaGreatDoorC37
namespace Go.Proofs.YtnnahljdhdippaaGreatDoor
set_option maxRecDepth 100000
set_option maxHeartbeats 6400000
open Go.RowKit
theorem St.l_addr {E:TypeId} {sz n cap:Nat} {β:Type} {enc:β->List Value} {a:Option Addr} {l:List β} {w0 w:World} {R:HP} (h:St w0 w (LAt E sz enc (.slice a n cap) l*R)) (T:∀ b,(enc b).length=sz) (hl:l≠[]):∃ g o,a=some ⟨g,o,none⟩:=by
 rcases h.l_cells T with ⟨h0,_⟩ | ⟨g,o,cp,hv,_⟩
 ·exact absurd h0 hl
 ·simp only[Value.slice.injEq] at hv
  exact⟨g,o,hv.1⟩
theorem St.l_at {E:TypeId} {sz n cap g o:Nat} {β:Type} {enc:β->List Value} {l:List β} {w0 w:World} {R:HP} (h:St w0 w (LAt E sz enc (.slice (some ⟨g,o,none⟩) n cap) l*R)) (T:∀ b,(enc b).length=sz) {i:Nat} {b:β} (hi:l[i]?=some b) (j:Nat) (u:Value) (hu:(enc b)[j]?=some u):w.cell? ⟨g,o+i*sz+j,none⟩=some u:=by
 rcases h.l_cells T with ⟨h0,_⟩ | ⟨g',o',cp,hv,_,_,hc⟩
 ·rw[h0] at hi;cases hi
 ·simp only[Value.slice.injEq,Option.some.injEq,Addr.mk.injEq,and_true] at hv
  obtain⟨⟨rfl,rfl⟩,_⟩:=hv;exact hc i b hi j u hu
theorem rd_new0 (seed:Int) (w0 w:World) (R:HP) (h:St w0 w R) :
  Calls Tryz.prog 14 #[.int .u64 seed,.slice none 0 0] w fun e w'=>∃ q,e=.returned (ptr q)/\St w0 w' (blk q (.cells (Dr.rcells ⟨false,[],seed⟩) TRd (0,0))*R):=by
 have h1:=h.alloc (.cells (Dr.rcells ⟨false,[],seed⟩) TRd);clear h;go_enter Tryz.func14,Tryz.ntmps14
 go_upto_region 2 with fail
 generalize w.alloc _=wa at *;generalize w.heap.size=ga at *;go_wp2;go_loopw [6] (fun s6 wr=>s6=.int .i64 0/\wa=wr) (fun _ _=>0)
 case atStart=>exact⟨rfl,rfl⟩
 case round =>
  obtain⟨rfl,rfl⟩:=hrel;go_wp2;go_ret
  exact⟨_,rfl,h1⟩
theorem at_script {w:World} {a:Option Addr} {len cap:Nat} (h:(Sh.slice atSh).ok w [.slice a len cap]):len<=cap/\cap<=maxLen/\(0<len->∃ b off,a=some ⟨b,off,none⟩/\b<w.heap.size /\
  ∀ i,i<len->∃ x:AcT,x.Wf w/\∀ j,j<13->w.cell? ⟨b,off+i*13+j,none⟩=x.cells[j]?):=by
 obtain⟨h1,h2,h3⟩:=Sh.slice_ok h (by decide);refine⟨h1,h2,fun h0=>?_⟩
 obtain⟨b,off,ha,hb,hi⟩:=h3 h0;refine⟨b,off,ha,hb,fun i hil=>?_⟩
 obtain⟨xs,_,hc,hx⟩:=hi i hil;obtain⟨x,rfl,ok⟩:=at_of hx;refine⟨x,ok,fun j hj=>?_⟩
 have:=hc j hj
 exact this
abbrev ActB (ga:Nat) (Do ask later m0 m1 m2 NM MM:Int) (data raw:ByteArray) (own near:Bool) (fa:Option Addr) (fn fc:Nat):HP:=blk ga (.cells #[.int .i64 Do,.int .i64 ask,.int .i64 later,.string data,.int .i64 m0,.int .i64 m1,.int .i64 m2,.bool own,.slice fa fn fc,.bool near,.int .i64 NM,.int .i64 MM,.string raw] TAct (0,0))
def Sn (P:Int->Prop) (x:Tt):Prop:=∀ s ∈ x.sent,∃ f:Fr,PutOk f/\s=bstr (encB (putO f false).data.toList)/\((tmOf f.kept false).2=true\/(f.sapi=0/\P f.tei))
structure Own (P:Int->Prop) (x:Tt):Prop where
 fit:x.Fit
 tidy:x.u.Tidy
 tei:x.e.tei=x.u.v.tei
 sn:Sn P x
section
variable {P:Int->Prop} {x:Tt}
theorem sn_send (h:Sn P x) (f:Fr) (ok:PutOk f) (hf:(tmOf f.kept false).2=true\/(f.sapi=0/\P f.tei)):Sn P (x.send f):=fun s hs=>by
 rcases List.mem_append.1 (show s ∈ x.sent++[bstr (encB (putO f false).data.toList)] from hs) with h1 | h1
 ·exact h s h1
 ·rw[List.mem_singleton.1 h1]
  exact⟨f,ok,rfl,hf⟩
theorem sn_link0 {t:Int} {y:Fx} (h:Sn P x) (hy:FxG t y/\(y.kind=0->0<=t)) (ht:t<=126) (hp:P t):Sn P (x.link0 y):=by
 obtain⟨⟨h0,h1,h2⟩,h3⟩:=hy;unfold Tt.link0;split
 ·rename_i k0
  have f:=h0 k0;have t0:=h3 k0;exact sn_send h _ ⟨by rw[f.sapi];decide,by rw[f.sapi];decide,by rw[f.tei];exact t0,by rw[f.tei];omega,f.may,f.car,f.ns0,f.ns1,f.nr0,f.nr1⟩ (.inr ⟨f.sapi,by rw[f.tei];exact hp⟩)
 ·repeat' split
  all_goals exact h
theorem sn_links0 {t:Int}:∀ (l:List Fx) {x:Tt},Sn P x->Fxs t l->(l≠[]->t<=126)->P t->Sn P (x.links0 l)
 | [],_,h,_,_,_=>h
 | y :: l,x,h,hl,ht,hp=>sn_links0 l (sn_link0 h (hl y (by simp)) (ht (by simp)) hp) (fun z hz=>hl z (List.mem_cons_of_mem _ hz)) (fun _=>ht (by simp)) hp
theorem sn_say (h:Sn P x) {t r a:Int} (hb:Tm.bad ⟨t,r,a⟩=0) (hn:fromNet t=false):Sn P (x.user1 (.say t r a)):=by
 unfold Tt.user1;rw[if_pos rfl];obtain⟨o1,o2⟩:=tm_fr hb;refine sn_send h _ o1 (.inl ?_)
 show (tmOf (Tm.fr ⟨t,r,a⟩).kept false).2=true
 rw[o2,tm_of hb false hn]
theorem own_want (h:Own P x):Own P ((x.setU x.u.want.1).users x.u.want.2.1)/\((x.setU x.u.want.1).users x.u.want.2.1).e.tei=x.e.tei:=by
 obtain⟨w1,w2⟩:=us_want h.fit.u;have hf:=(fit_users x.u.want.2.1 (fit_setU h.fit w1)).1;have ht:((x.setU x.u.want.1).users x.u.want.2.1).u.Tidy:=by rw[users_u];exact tidy_want h.tidy
 have key:((x.setU x.u.want.1).users x.u.want.2.1).e.tei=x.e.tei/\x.e.tei=((x.setU x.u.want.1).users x.u.want.2.1).u.v.tei/\Sn P ((x.setU x.u.want.1).users x.u.want.2.1):=by
  rw[users_u];have hw:=w2;unfold Us.want at hw ⊢;split
  ·exact⟨rfl,h.tei,h.sn⟩
  ·rename_i h1
   split
   ·exact⟨rfl,h.tei,h.sn⟩
   ·rename_i h2
    rw[if_neg h1,if_neg h2] at hw;have hb:=(hw (.say 1 x.u.d.next.2 127) (by simp[Us.ask])).1 rfl;have hs:Sn P ((x.setU (x.u.ask 1).1).user1 (.say 1 x.u.d.next.2 127)):=sn_say (x:=x.setU (x.u.ask 1).1) h.sn hb rfl;refine⟨rfl,?_,hs⟩
    rw[h.tei];show x.u.v.tei= -1
    simpa using h1
 exact⟨⟨hf,ht,by rw[key.1];exact key.2.1,key.2.2⟩,key.1⟩
theorem own_links {l:List Fx} (h:Own P x) (hl:Fxs x.e.tei l\/l=[Fx.of 8 noStr]) (ht:l≠[]->x.e.tei<=126) (hn:l.length<=100000) (hp:P x.e.tei):Own P (x.links l)/\(x.links l).e.tei=x.e.tei:=by
 rcases hl with hl | rfl
 ·rw[links_eq l x (fun z hz=>(hl z hz).1.2.2)]
  refine⟨⟨(fit_links0 l h.fit hl).1,by rw[links0_u];exact h.tidy,by rw[links0_e,links0_u];exact h.tei,sn_links0 l h.sn hl ht hp⟩,by rw[links0_e]⟩
 ·rw[links_wish]
  exact own_want h
theorem own_ask (h:Own P x) (now a:Int) (d:ByteArray):Own (fun t=>t=x.e.tei) (x.ask now a d).1/\(x.ask now a d).1.e.tei=x.e.tei:=by
 have nil:∀ s:ByteArray,s ∉ ([]:List ByteArray):=fun s hs=>by cases hs
 unfold Tt.ask;split
 ·exact⟨⟨fit_hush h.fit,h.tidy,h.tei,fun s hs=>absurd hs (nil s)⟩,rfl⟩
 ·obtain⟨h1,h2⟩:=fit_ask h.fit.e a d
  have e1:=ask_tei x.e a d;have ln:=ask_len x.e (out0 h.fit.e) a d;have h0:Own (fun t=>t=x.e.tei) ((x.begin now).setE (x.e.ask a d).1):=⟨fit_setE (fit_begin h.fit now) h1,h.tidy,e1.trans h.tei,fun s hs=>absurd hs (nil s)⟩;have e2:((x.begin now).setE (x.e.ask a d).1).e.tei=x.e.tei:=e1;obtain⟨h3,h4⟩:=own_links (l:=(x.e.ask a d).2.1) h0 (by rw[e2];exact h2.imp id (fun e=>e.1)) (fun _=>by rw[e2];exact h.fit.e.wd.t) ln e2;exact⟨h3,h4.trans e2⟩
theorem foldl_unit_tei {t:Int}:∀ (l:List ByteArray) {y:En},y.tei=t->(l.foldl (fun y s=>(y.unit s).1) y).tei=t
 | [],_,h=>h
 | s :: l,y,h=>foldl_unit_tei l (y:=(y.unit s).1) (Te.unit h s)
theorem assign_tei {e:En} {t:Int} (h0:0<=t) (h1:t<=126) (h4:e.state<4):(e.assign t).1.tei=t:=by
 unfold En.assign;rw[if_neg (by omega),if_neg (by omega)];dsimp only;have h2:(e.units.foldl (fun y s=>(y.unit s).1) (((e.setTei t).setState 4).setUnits [])).tei=t:=foldl_unit_tei _ rfl;split
 ·exact Te.call (Te.setAsked h2 true)
 ·exact h2
theorem own_message (h:Own (fun _=>True) x) (m:Tm):Own (fun _=>True) ((x.setU (x.u.message m).1).users (x.u.message m).2):=by
 obtain⟨w1,w2⟩:=us_message h.fit.u m;have hf:=(fit_users (x.u.message m).2 (fit_setU h.fit w1)).1;have ht:((x.setU (x.u.message m).1).users (x.u.message m).2).u.Tidy:=by rw[users_u];exact tidy_message h.tidy m
 have key:((x.setU (x.u.message m).1).users (x.u.message m).2).e.tei=((x.setU (x.u.message m).1).users (x.u.message m).2).u.v.tei/\Sn (fun _=>True) ((x.setU (x.u.message m).1).users (x.u.message m).2):=by
  rw[users_u];have hw:=w2;have lose:((x.setU x.u.lose.1).users x.u.lose.2).e.tei= -1/\Sn (fun _=>True) ((x.setU x.u.lose.1).users x.u.lose.2):=by
   obtain⟨f1,f2⟩:=fit_remove h.fit.e;show (Tt.links0 ((x.setU x.u.lose.1).setE x.e.remove.1) x.e.remove.2.1).e.tei= -1/\Sn (fun _=>True) (Tt.links0 ((x.setU x.u.lose.1).setE x.e.remove.1) x.e.remove.2.1)
   rw[links0_e];have hlo:=low_remove h.fit.e.lo;have hs:x.e.remove.1.state=1:=by
    unfold En.remove;split
    ·assumption
    ·rfl
   exact⟨(hlo (by omega)).1,sn_links0 _ (x:=(x.setU x.u.lose.1).setE x.e.remove.1) h.sn f2 (fun _=>h.fit.e.wd.t) trivial⟩
  unfold Us.message at hw ⊢;split
  ·exact⟨h.tei,h.sn⟩
  ·rename_i h1
   rw[if_neg h1] at hw;split
   ·rename_i h2
    have ha:64<=m.ai/\m.ai<=126:=by have:=h2.2.2.2;unfold autoTei at this;simpa using this
    have e1:x.e.tei= -1:=by rw[h.tei];exact h.tidy.ask h2.2.1
    have s4:x.e.state<4:=by have:=h.fit.e.ok.tei;omega
    obtain⟨f1,f2,f3⟩:=fit_assign h.fit.e m.ai;show (Tt.links0 ((Tt.stop (x.setU { x.u with v:=⟨m.ai,false,0,0⟩ }) 202).setE (x.e.assign m.ai).1) (x.e.assign m.ai).2.1).e.tei=m.ai/\Sn (fun _=>True) (Tt.links0 ((Tt.stop (x.setU { x.u with v:=⟨m.ai,false,0,0⟩ }) 202).setE (x.e.assign m.ai).1) (x.e.assign m.ai).2.1)
    rw[links0_e];exact⟨assign_tei (by omega) ha.2 s4,sn_links0 _ (x:=(Tt.stop (x.setU { x.u with v:=⟨m.ai,false,0,0⟩ }) 202).setE (x.e.assign m.ai).1) h.sn f2 f3 trivial⟩
   ·rename_i h2
    rw[if_neg h2] at hw;split
    ·exact lose
    ·rename_i h3
     rw[if_neg h3] at hw;split
     ·rename_i h4
      rw[if_pos h4] at hw;have hb:=(hw (.say 5 x.u.d.next.2 x.u.v.tei) (by simp)).1 rfl;exact⟨h.tei,sn_say (x:=x.setU { x.u with d:=x.u.d.next.1 }) h.sn hb rfl⟩
     ·exact⟨h.tei,h.sn⟩
 exact⟨hf,ht,key.1,key.2⟩
theorem own_come (h:Own (fun _=>True) x) (s:ByteArray):Own (fun _=>True) (x.come s):=by
 unfold Tt.come;dsimp only;split
 ·exact h
 ·split
  ·exact own_message h _
  ·split
   ·exact h
   ·split
    ·exact⟨fit_tell h.fit _ _,h.tidy,h.tei,h.sn⟩
    ·split
     ·obtain⟨h1,h2⟩:=fit_frame h.fit.e (getO s true).1
      have e1:=frame_tei x.e (getO s true).1;have e2:(x.setE (x.e.frame (getO s true).1).1).e.tei=x.e.tei:=e1;exact (own_links (x:=x.setE (x.e.frame (getO s true).1).1) ⟨fit_setE h.fit h1,h.tidy,e1.trans h.tei,h.sn⟩ (by rw[e2];exact .inl h2) (fun _=>by rw[e2];exact h.fit.e.wd.t) (frame_len x.e (out0 h.fit.e) _) trivial).1
     ·exact h
theorem own_events:∀ (l:List Ev) {x:Tt},Own (fun _=>True) x->Own (fun _=>True) (l.foldl Tt.event x)
 | [],_,h=>h
 | y :: l,x,h=>by
   have h1:Own (fun _=>True) (x.event y):=by
    unfold Tt.event;split
    ·exact own_come h _
    ·exact h
   exact own_events l h1
theorem own_bits (h:Own P x) (now:Int) (b:ByteArray):Own (fun _=>True) (x.bits now b).1:=by
 have nil:∀ s:ByteArray,s ∉ ([]:List ByteArray):=fun s hs=>by cases hs
 unfold Tt.bits;split
 ·exact⟨fit_hush h.fit,h.tidy,h.tei,fun s hs=>absurd hs (nil s)⟩
 ·exact own_events _ ⟨⟨h.fit.e,h.fit.u,fits_feed _ h.fit.d,h.fit.k⟩,h.tidy,h.tei,fun s hs=>absurd hs (nil s)⟩
theorem own_new (cf:Tcf) (d:Dr):Own (fun _=>True) (newTt cf d):=⟨fit_tt_new cf d,newUs_tidy _ _,rfl,fun s hs=>by cases hs⟩
theorem sent_feed {f:Fr} (ok:PutOk f):De.new.feed (bitsIn (bstr (encB (putO f false).data.toList)).data.toList)=(⟨[],true,0⟩,[⟨0,(putO f false).data.toList⟩]):=by
 obtain⟨a,b⟩:=putO_len (net:=false) ok;rw[bitsIn_bstr];exact feed_enc _ a b
end
abbrev cfSh:Sh:=.pair (.int .i64) (.pair (.int .i64) (.pair (.int .i64) (.pair (.int .i64) (.pair (.int .i64) (.pair (.int .i64) .unit)))))
theorem cf_of {w:World} {cs:List Value} (h:cfSh.ok w cs):∃ c:Tcf,cs=c.cells/\(Lit.int .i64 c.k).wf=true/\(Lit.int .i64 c.n200).wf=true/\(Lit.int .i64 c.n202).wf=true/\(Lit.int .i64 c.t200).wf=true/\(Lit.int .i64 c.t202).wf=true/\(Lit.int .i64 c.t203).wf=true:=by
 obtain⟨_,_,rfl,_,⟨n1,rfl,w1⟩,_,_,rfl,_,⟨n2,rfl,w2⟩,_,_,rfl,_,⟨n3,rfl,w3⟩,_,_,rfl,_,⟨n4,rfl,w4⟩,_,_,rfl,_,⟨n5,rfl,w5⟩,_,_,rfl,_,⟨n6,rfl,w6⟩,h12⟩:=h;obtain rfl:=h12;exact⟨⟨n1,n2,n3,n4,n5,n6⟩,rfl,w1,w2,w3,w4,w5,w6⟩
theorem usv_f1 (v0 v1 v2 v3:Value) (w:World):(Instr.field 63 (.agg #[v0,v1,v2,v3]) 1).run Tryz.prog w=.ok v1 w:=by kernel_rfl
theorem usv_asking (v:Uv) (w:World):(Instr.field 63 (.agg v.cells.toArray) 1).run Tryz.prog w=.ok (.bool v.asking) w:=usv_f1 _ _ _ _ w
theorem TerminalFails.walk (a0:Array Value) (a1:Int) (w:World) (hN:NamesAt w) (hF:FirstAt w) (hL:LinkAt w) (w0:Sh.ok w cfSh a0.toList) (_w1:(Lit.int .u64 a1).wf=true) :
  Calls Tryz.prog 4 #[.agg a0,.int .u64 a1] w fun e w'=>e=.returned (.bool true)/\Below w.heap.size w w':=by
 obtain⟨c,ha,_⟩:=cf_of w0;obtain rfl:a0=c.cells.toArray:=by rw[← ha]
 have hO:∀ w',St w w' (Old w)->NamesAt w':=fun w' h=>hN.old h.old0 hN.pos
 have hO2:∀ w',St w w' (Old w)->FirstAt w':=fun w' h=>hF.old h.old0 hF.pos
 have hO3:∀ w',St w w' (Old w)->LinkAt w':=fun w' h=>hL.old h.old0 hL.pos
 have h2:=((St.start w).alloc (.cells c.cells.toArray 23));clear w0 ha _w1 hN hF hL;have hg:=fun w0 w R h=>l_good c w0 w R h
 obtain⟨hr,hr2,hr3⟩:=goodC_range c;have hgg:=goodC_good c;have hn3:(goodC c).n202=c.n202:=rfl;generalize goodC c=g at *;obtain⟨M,hM⟩:∃ M:Nat,max 1 (min c.n202 32)=(M:Int):=⟨(max 1 (min c.n202 32)).toNat,by omega⟩;have hM1:1<=M/\M<=32:=by omega
 have hs:=fail_start g ⟨false,[],a1⟩ M (by rw[hn3];exact hM) hr2.1 (by omega);have hnw:=fun v w0 w R h=>t_new g v ⟨false,[],a1⟩ hgg w0 w R h
 have f0:=fit_tt_new g ⟨false,[],a1⟩;have HM:=Lib.hid (show max 1 (min c.n202 32)=(M:Int)/\1<=g.t202/\g.t202<=100 from ⟨hM,hr2⟩);generalize newTt g ⟨false,[],a1⟩=x0 at *;obtain⟨X,hX⟩:∃ X,x0.ask 0 0 noStr=X:=⟨_,rfl⟩;have hask:=fun t w0 w R hN hF hL h=>t_ask t x0 0 0 noStr f0 w0 w R hN hF hL h
 rw[hX] at hs;simp only[hX] at hask;obtain⟨X1,X2⟩:=X;simp only[] at hs hask;obtain⟨hi0,rfl,hs1⟩:=hs;obtain⟨c1,c2,c3,c4,c5,c6⟩:=c;obtain⟨g1,g2,g3,g4,g5,g6⟩:=g;simp only[Tcf.cells] at *;subst hn3;clear hX hr hr2 hr3 hgg f0 hM;have d:=h2.cell;go_enter Tryz.func4,Tryz.ntmps4
 go_upto_region 1 with fail
 generalize w.alloc _=wa at *;generalize w.heap.size=ga at *;have hk:=hg w wa _ h2;go_upto_region 2 with (go_at_call 10;refine hk.mono ?_;rintro r wb ⟨rfl,h3⟩)
 have h4:=(h3.alloc (.cells #[.int .i64 g1,.int .i64 g2,.int .i64 g3,.int .i64 g4,.int .i64 g5,.int .i64 g6] TCf)).alloc (.cells #[.int .i64 g1,.int .i64 g2,.int .i64 g3,.int .i64 g4,.int .i64 g5,.int .i64 g6] 27);clear hk hg d h2 h3;go_upto_region 2 with fail
 simp only[World.size_alloc] at *;generalize (wb.alloc _).alloc _=wc at *;generalize wb.heap.size=gh at *;have h5:=h4.f2.drew;have e0:wc.drew.cell? ⟨gh,0,none⟩=some (.int .i64 g1):=(h5.cell 0).trans rfl;have e1:wc.drew.cell? ⟨gh,1,none⟩=some (.int .i64 g2):=(h5.cell 1).trans rfl;have e2:wc.drew.cell? ⟨gh,2,none⟩=some (.int .i64 g3):=(h5.cell 2).trans rfl;have e3:wc.drew.cell? ⟨gh,3,none⟩=some (.int .i64 g4):=(h5.cell 3).trans rfl;have e4:wc.drew.cell? ⟨gh,4,none⟩=some (.int .i64 g5):=(h5.cell 4).trans rfl;have e5:wc.drew.cell? ⟨gh,5,none⟩=some (.int .i64 g6):=(h5.cell 5).trans rfl;have hk:=dr_new0 a1 w wc.drew _ h5;refine wp_region_held_drew (S:=fun wx=>wx.cell? ⟨gh,0,none⟩=some (.int .i64 g1)/\wx.cell? ⟨gh,1,none⟩=some (.int .i64 g2)/\wx.cell? ⟨gh,2,none⟩=some (.int .i64 g3)/\wx.cell? ⟨gh,3,none⟩=some (.int .i64 g4)/\wx.cell? ⟨gh,4,none⟩=some (.int .i64 g5)/\wx.cell? ⟨gh,5,none⟩=some (.int .i64 g6)) (by kernel_rfl) ⟨e0,e1,e2,e3,e4,e5⟩ (fun hHeld=>?_)
 clear e0 e1 e2 e3 e4 e5 h4 h5;generalize wc.drew=wd at *;refine tk 0 ?_ rfl (fun w hSw=>?_) ?_
 rotate_left 1
 ·try dsimp only at hSw
  go_simp
  try with_reducible rfl
 try simp only[Act.put,sl]
 refine tk 1 ?_ rfl (fun w hSw=>?_) ?_
 rotate_left 1
 ·try dsimp only at hSw
  go_simp
  try with_reducible rfl
 try simp only[Act.put,sl]
 refine rd 2 rfl (fun K hK=>?_)
 go_simp
 go_at_call 12
 refine hk.mono ?_
 rintro r we ⟨p,rfl,h6⟩;clear hk;have h7:=h6.f2;have cg:=h7.cell;have hk:=hnw (ptr p) w we _ (h6.dv_some rfl);go_simp
 refine hK.out _ _ ⟨(cg 0).trans rfl,(cg 1).trans rfl,(cg 2).trans rfl,(cg 3).trans rfl,(cg 4).trans rfl,(cg 5).trans rfl⟩ (fun hHeld=>?_)
 clear hK K;try simp only[Act.put,sl]
 clear cg h6 h7;refine rd 3 rfl (fun K hK=>?_)
 go_simp
 go_at_call 11
 refine hk.mono ?_
 rintro r wf ⟨t,rfl,h6⟩;clear hk hnw;have cg:=h6.f2.cell;go_simp
 refine hK.out _ _ ⟨(cg 0).trans rfl,(cg 1).trans rfl,(cg 2).trans rfl,(cg 3).trans rfl,(cg 4).trans rfl,(cg 5).trans rfl⟩ (fun hHeld=>?_)
 clear hK K;try simp only[Act.put,sl]
 refine tk 4 ?_ rfl (fun w hSw=>?_) ?_
 rotate_left 1
 ·try dsimp only at hSw
  go_simp
  try with_reducible rfl
 try simp only[Act.put,sl]
 refine tk 5 ?_ rfl (fun w hSw=>?_) ?_
 rotate_left 1
 ·try dsimp only at hSw
  go_simp
  try with_reducible rfl
 try simp only[Act.put,sl]
 refine tk 6 ?_ rfl (fun w hSw=>?_) ?_
 rotate_left 1
 ·try dsimp only at hSw
  go_simp
  try with_reducible rfl
 try simp only[Act.put,sl]
 refine tk 7 ?_ rfl (fun w hSw=>?_) ?_
 rotate_left 1
 ·try dsimp only at hSw
  go_simp
  try with_reducible rfl
 try simp only[Act.put,sl]
 refine tk 8 ?_ rfl (fun w hSw=>?_) ?_
 rotate_left 1
 ·try dsimp only at hSw
  go_simp
  try with_reducible rfl
 try simp only[Act.put,sl]
 refine wpAnyH_done (by kernel_rfl) ?_ _
 clear hHeld cg;have hk:=hask t w wf _ (fun w' h=>hO w' h.drop.drop.drop) (fun w' h=>hO2 w' h.drop.drop.drop) (fun w' h=>hO3 w' h.drop.drop.drop) h6;obtain⟨nt,hnt⟩:∃ n,X1.told.length=n:=⟨_,rfl⟩;clear h6 hask;go_upto_region 4 with (go_at_call 17;refine hk.mono ?_;rintro r wg ⟨sv,tv,rfl,h8⟩;obtain⟨sa,sc,ta,tc,rfl,rfl⟩:=h8.res_shape hs1 hnt)
 clear hk hs1 hnt;have h9:=((h8.drop.drop).alloc (.cells #[.slice sa 1 sc,.slice ta nt tc] TRes)).f2;clear h8;generalize wg.alloc _=wi at *;generalize wg.heap.size=gy at *;have hk:=tt_wakes w wi _ (fun w' h=>hO w' h.drop.drop.drop.drop.drop) (fun w' h=>hO2 w' h.drop.drop.drop.drop.drop) (fun w' h=>hO3 w' h.drop.drop.drop.drop.drop) h9;go_wp2_with fail
 refine hk.mono ?_
 rintro r wj ⟨rfl,h10⟩;clear hk h9;have d:=h10.f2.cell;have HI0:=Lib.hid hi0;have HH:=Lib.hid h10;clear hi0 h10;go_wp2;go_loopw [11,12,43] (fun s11 s12 s43 wr=>∃ (i:Nat) (x:Tt) (n m:Nat) (sa ta:Option Addr) (sc tc:Nat),i<M/\s43=.int .i64 i/\s11=.int .i64 ((i:Int)+1)/\s12=.int .i64 ((i:Int)*g5)/\Hid (FailI ⟨g1,g2,g3,g4,g5,g6⟩ g5 M i x)/\Hid (St w wr (TtOff t x*(blk gy (.cells #[.slice sa n sc,.slice ta m tc] TRes (0,0))*(blk gh (.cells #[.int .i64 g1,.int .i64 g2,.int .i64 g3,.int .i64 g4,.int .i64 g5,.int .i64 g6] TCf (0,0))*(blk (gh+1) (.cells #[.int .i64 g1,.int .i64 g2,.int .i64 g3,.int .i64 g4,.int .i64 g5,.int .i64 g6] 27 (0,0))*(blk ga (.cells #[.int .i64 c1,.int .i64 c2,.int .i64 g3,.int .i64 c4,.int .i64 c5,.int .i64 c6] 23 (0,0))*Old w))))))) (fun _ _ s43 _=>33 - (intOf s43).toNat)
 case atStart=>exact⟨0,X1,1,nt,sa,ta,sc,tc,by omega,rfl,rfl,by simp,HI0,HH⟩
 case round =>
  clear HH HI0 d;obtain⟨i,x,n,m,sa,ta,sc,tc,hi,rfl,rfl,rfl,HI,H⟩:=hrel;have hT:1<=g5/\g5<=100:=HM.out.2;obtain⟨nv,hnv⟩:∃ nv:Int,(i:Int)*g5=nv:=⟨_,rfl⟩;have hnv2:((i:Int)+1)*g5=nv+g5:=by rw[Int.add_mul,hnv,Int.one_mul]
  have n0:0<=nv:=by rw[← hnv];exact Int.mul_nonneg (by omega) (by omega)
  have n1:nv<=3200:=by rw[← hnv];exact Int.le_trans (Int.mul_le_mul (show (i:Int)<=32 by omega) hT.2 (by omega) (by omega)) (by decide)
  rw[hnv];have ew:IntKind.i64.wrap (nv+g5)=nv+g5:=by rw[IntKind.wrap_i64];omega
  have hil:(i:Int)<33:=by omega
  have d:=H.out.f3.cell;have fi:=HI.out.fit;have hk:=t_tick t x (((i:Int)+1)*g5) fi w wr _ (fun w' h=>hO w' h.drop.drop.drop.drop) (fun w' h=>hO2 w' h.drop.drop.drop.drop) (fun w' h=>hO3 w' h.drop.drop.drop.drop) H.out;have fy:=fit_tick fi (((i:Int)+1)*g5);by_cases hl:i+1=M
  ·obtain⟨q1,q2,q3,q4,q5⟩:=fail_last HI.out hl hT.1 (by omega)
   rw[hnv2] at hk q1 q2 q3 q4 q5 fy;rw[q1] at hk;generalize (x.tick (nv+g5)).1=Y at *;have l1:Y.sent.length=0:=by rw[q2];rfl
   have l2:Y.told.length=1:=by rw[q3];rfl
   have gy0:=H.out.f2.free;have eq1:(((i:Int)+1) == max 1 (min g3 32))=true:=by rw[HM.out.1];simp;omega
   have ew2:IntKind.i64.wrap ((i:Int)+1+0)=(i:Int)+1:=by rw[IntKind.wrap_i64];omega
   clear H HI hnv hnv2 fi q1 q2;go_upto_region 11 with (go_at_call 27;refine hk.mono ?_;rintro r wb ⟨sv,tv,rfl,h5⟩;obtain⟨sb,sd,tb,td,rfl,rfl⟩:=h5.res_shape l1 l2;have cy:=h5.f4.cell;have fy2:=h5.f4.free)
   clear hk l1 l2;have hz:=h5.eq (show _=LAt TTold 2 tolC (.slice tb 1 td) Y.told*(blk gy (.cells #[.slice sa n sc,.slice ta m tc] TRes (0,0))*(LAt 9 1 encS (.slice sb 0 sd) Y.sent*(TtOff t Y*(blk gh (.cells #[.int .i64 g1,.int .i64 g2,.int .i64 g3,.int .i64 g4,.int .i64 g5,.int .i64 g6] TCf (0,0))*(blk (gh+1) (.cells #[.int .i64 g1,.int .i64 g2,.int .i64 g3,.int .i64 g4,.int .i64 g5,.int .i64 g6] 27 (0,0))*(blk ga (.cells #[.int .i64 c1,.int .i64 c2,.int .i64 g3,.int .i64 c4,.int .i64 c5,.int .i64 c6] 23 (0,0))*Old w)))))) by ac_rfl);have hy:=(hz.f2.set 0 (.slice sb 0 sd)).set 1 (.slice tb 1 td);generalize (wb.setCell _ _).setCell _ _=wc at *;rcases hy.f2.l_cells tyTold.len with ⟨h0,_⟩ | ⟨g7,o7,c7,hv,_,_,hcell⟩
   ·rw[q3] at h0;cases h0
   simp only[Value.slice.injEq] at hv;obtain⟨rfl,hq,rfl⟩:=hv;clear hq;have z0:wc.cell? ⟨g7,o7,none⟩=some (.int .i64 3):=by
    have:=hcell 0 (3,noStr) (by rw[q3];rfl) 0 _ rfl
    simpa using this
   have dy:=hy.cell;have d:=hy.drop.drop.drop.drop.drop.drop.cell;have ht:=hy.f4;have e1:=env_state Y.e;have e2:=usv_asking Y.u.v;rw[q4] at e1;rw[q5] at e2;have hv:=t_link t Y fy.e.ok.b.fl w wc _ ht;clear hcell q3 q4 q5 h5 hz cy fy2;generalize Y.e.view=V at *;go_wp2_with fail
   refine hv.mono ?_
   rintro r wd ⟨rfl,ha⟩;have hu:=t_user t Y w wd _ ha;generalize Y.u.v.cells.toArray=Vu at *;clear hv ht;go_wp2_with fail
   refine hu.mono ?_
   rintro r we ⟨rfl,hb⟩;clear hu ha;go_wp2;go_ret
   exact⟨rfl,hb.drop.drop.drop.drop.drop.drop.drop.old0⟩
  ·obtain⟨q1,q2,q3,q4⟩:=fail_next HI.out (by omega) hT.1 (by omega) rfl
   rw[hnv2] at hk q1 q2 q3 q4 fy;rw[q1] at hk;generalize (x.tick (nv+g5)).1=Y at *;have l2:Y.told.length=0:=by rw[q3];rfl
   have gy0:=H.out.f2.free;have ew2:IntKind.i64.wrap ((i:Int)+1+1)=(i:Int)+1+1:=by rw[IntKind.wrap_i64];omega
   have HY:=Lib.hid q4;have HV:=Lib.hid hnv2;clear H HI hnv hnv2 fi q1 q3 q4 fy;go_upto_region 11 with (go_at_call 27;refine hk.mono ?_;rintro r wb ⟨sv,tv,rfl,h5⟩;obtain⟨sb,sd,tb,td,rfl,rfl⟩:=h5.res_shape q2 l2;have cy:=h5.f4.cell;have fy2:=h5.f4.free)
   clear hk q2 l2;have hy:=((h5.drop.drop.f2.set 0 (.slice sb 1 sd)).set 1 (.slice tb 0 td)).f2;generalize (wb.setCell _ _).setCell _ _=wc at *;have dy:=hy.f2.cell;have HH:=Lib.hid hy;clear h5 cy fy2 hy d gy0;go_wp2;go_roundw
   case rel =>
    refine⟨i+1,Y,1,0,sb,tb,sd,td,by omega,by go_num,by go_num,?_,HY,HH⟩
    show Value.int .i64 (nv+g5)=Value.int .i64 (((i+1:Nat):Int)*g5)
    rw[← HV.out];rfl
   case measure=>simp[intOf];omega
theorem Own.mono {P Q:Int->Prop} {x:Tt} (h:Own P x) (hpq:∀ t,P t->Q t):Own Q x:=⟨h.fit,h.tidy,h.tei,fun s hs=>by
 obtain⟨f,a,b,c⟩:=h.sn s hs;exact⟨f,a,b,c.imp id (fun e=>⟨e.1,hpq _ e.2⟩)⟩⟩
abbrev OwnF (sa ta:Option Addr) (sn sc tn tc gr t r0 n:Nat) (X:Tt) (A R:HP):HP:=TtOff t X*(LAt 9 1 encS (.slice sa sn sc) X.sent*(blk gr (.cells #[.slice sa sn sc,.slice ta tn tc] TRes (0,0))*(LAt TTold 2 tolC (.slice ta tn tc) X.told*(RtOff n r0 X*(A*R)))))
theorem TerminalOwn.walk (a0:Array Value) (a1:Int) (a2:Option Addr) (len2 cap2:Nat) (w:World) (hN:NamesAt w) (hF:FirstAt w) (hL:LinkAt w) (w0:Sh.ok w cfSh a0.toList) (_w1:(Lit.int .u64 a1).wf=true) (w2:(Sh.slice atSh).ok w [.slice a2 len2 cap2]) :
  Calls Tryz.prog 3 #[.agg a0,.int .u64 a1,.slice a2 len2 cap2] w fun e w'=>e=.returned (.bool true)/\Below w.heap.size w w':=by
 obtain⟨l1,l2,l3⟩:=at_script w2;unfold maxLen at l2;have L3:=Lib.hid l3;clear l3 w2;obtain⟨c,ha,_⟩:=cf_of w0;obtain rfl:a0=c.cells.toArray:=by rw[← ha]
 have hO:∀ w',St w w' (Old w)->NamesAt w':=fun w' h=>hN.old h.old0 hN.pos
 have hO2:∀ w',St w w' (Old w)->FirstAt w':=fun w' h=>hF.old h.old0 hF.pos
 have hO3:∀ w',St w w' (Old w)->LinkAt w':=fun w' h=>hL.old h.old0 hL.pos
 have h2:=((St.start w).alloc (.cells c.cells.toArray 23));clear w0 ha hN hF hL;have hg:=fun w0 w R h=>l_good c w0 w R h
 obtain⟨hr,hr2,hr3⟩:=goodC_range c;have hgg:=goodC_good c;generalize goodC c=g at *;have hnw:=fun v w0 w R h=>t_new g v ⟨false,[],a1⟩ hgg w0 w R h
 have hrw:=fun q w0 w R h=>rt_new g q ⟨false,[],a1⟩ ⟨rfl,rfl⟩ w0 w R h
 have hX0:=Lib.hid (And.intro (well_new g ⟨false,[],a1⟩) (And.intro (own_new g ⟨false,[],a1⟩) (And.intro hr (And.intro hr2 hr3))));generalize newTt g ⟨false,[],a1⟩=x0 at *;obtain⟨c1,c2,c3,c4,c5,c6⟩:=c;obtain⟨g0,hg0⟩:∃ g0,g0=g:=⟨_,rfl⟩;obtain⟨g1,g2,g3,g4,g5,g6⟩:=g;rw[← hg0] at hX0;have HG0:=Lib.hid hg0;clear hg0;simp only[Tcf.cells] at *;clear hgg hr hr2 hr3;have d:=h2.cell;go_enter Tryz.func3,Tryz.ntmps3
 go_upto_region 1 with fail
 generalize w.alloc _=wa at *;generalize hga:w.heap.size=ga at *;have HGA:=Lib.hid hga;clear hga;have hk:=hg w wa _ h2;go_upto_region 2 with (go_at_call 10;refine hk.mono ?_;rintro r wb ⟨rfl,h3⟩)
 have h4:=(h3.alloc (.cells #[.int .i64 g1,.int .i64 g2,.int .i64 g3,.int .i64 g4,.int .i64 g5,.int .i64 g6] TCf)).alloc (.cells #[.int .i64 g1,.int .i64 g2,.int .i64 g3,.int .i64 g4,.int .i64 g5,.int .i64 g6] 27);clear hk hg d h2 h3;go_upto_region 2 with fail
 simp only[World.size_alloc] at *;generalize (wb.alloc _).alloc _=wc at *;generalize wb.heap.size=gh at *;have h5:=h4.f2.drew;have e0:wc.drew.cell? ⟨gh,0,none⟩=some (.int .i64 g1):=(h5.cell 0).trans rfl;have e1:wc.drew.cell? ⟨gh,1,none⟩=some (.int .i64 g2):=(h5.cell 1).trans rfl;have e2:wc.drew.cell? ⟨gh,2,none⟩=some (.int .i64 g3):=(h5.cell 2).trans rfl;have e3:wc.drew.cell? ⟨gh,3,none⟩=some (.int .i64 g4):=(h5.cell 3).trans rfl;have e4:wc.drew.cell? ⟨gh,4,none⟩=some (.int .i64 g5):=(h5.cell 4).trans rfl;have e5:wc.drew.cell? ⟨gh,5,none⟩=some (.int .i64 g6):=(h5.cell 5).trans rfl;have hk:=dr_new0 a1 w wc.drew _ h5;refine wp_region_held_drew (S:=fun wx=>wx.cell? ⟨gh,0,none⟩=some (.int .i64 g1)/\wx.cell? ⟨gh,1,none⟩=some (.int .i64 g2)/\wx.cell? ⟨gh,2,none⟩=some (.int .i64 g3)/\wx.cell? ⟨gh,3,none⟩=some (.int .i64 g4)/\wx.cell? ⟨gh,4,none⟩=some (.int .i64 g5)/\wx.cell? ⟨gh,5,none⟩=some (.int .i64 g6)) (by kernel_rfl) ⟨e0,e1,e2,e3,e4,e5⟩ (fun hHeld=>?_)
 clear e0 e1 e2 e3 e4 e5 h4 h5;generalize wc.drew=wd at *;refine tk 0 ?_ rfl (fun w hSw=>?_) ?_
 rotate_left 1
 ·try dsimp only at hSw
  go_simp
  try with_reducible rfl
 try simp only[Act.put,sl]
 refine tk 1 ?_ rfl (fun w hSw=>?_) ?_
 rotate_left 1
 ·try dsimp only at hSw
  go_simp
  try with_reducible rfl
 try simp only[Act.put,sl]
 refine rd 2 rfl (fun K hK=>?_)
 go_simp
 go_at_call 12
 refine hk.mono ?_
 rintro r we ⟨p,rfl,h6⟩;clear hk;have h7:=h6.f2;have cg:=h7.cell;have hk:=hnw (ptr p) w we _ (h6.dv_some rfl);go_simp
 refine hK.out _ _ ⟨(cg 0).trans rfl,(cg 1).trans rfl,(cg 2).trans rfl,(cg 3).trans rfl,(cg 4).trans rfl,(cg 5).trans rfl⟩ (fun hHeld=>?_)
 clear hK K;try simp only[Act.put,sl]
 clear cg h6 h7;refine rd 3 rfl (fun K hK=>?_)
 go_simp
 go_at_call 11
 refine hk.mono ?_
 rintro r wf ⟨t,rfl,h6⟩;clear hk hnw;have cg:=h6.f2.cell;go_simp
 refine hK.out _ _ ⟨(cg 0).trans rfl,(cg 1).trans rfl,(cg 2).trans rfl,(cg 3).trans rfl,(cg 4).trans rfl,(cg 5).trans rfl⟩ (fun hHeld=>?_)
 clear hK K;try simp only[Act.put,sl]
 refine tk 4 ?_ rfl (fun w hSw=>?_) ?_
 rotate_left 1
 ·try dsimp only at hSw
  go_simp
  try with_reducible rfl
 try simp only[Act.put,sl]
 refine tk 5 ?_ rfl (fun w hSw=>?_) ?_
 rotate_left 1
 ·try dsimp only at hSw
  go_simp
  try with_reducible rfl
 try simp only[Act.put,sl]
 refine tk 6 ?_ rfl (fun w hSw=>?_) ?_
 rotate_left 1
 ·try dsimp only at hSw
  go_simp
  try with_reducible rfl
 try simp only[Act.put,sl]
 refine tk 7 ?_ rfl (fun w hSw=>?_) ?_
 rotate_left 1
 ·try dsimp only at hSw
  go_simp
  try with_reducible rfl
 try simp only[Act.put,sl]
 refine tk 8 ?_ rfl (fun w hSw=>?_) ?_
 rotate_left 1
 ·try dsimp only at hSw
  go_simp
  try with_reducible rfl
 try simp only[Act.put,sl]
 refine wpAnyH_done (by kernel_rfl) ?_ _
 clear hHeld cg;go_upto_region 3 with fail
 have h5:=(h6.eq (show _=blk (gh+1) (.cells #[.int .i64 g1,.int .i64 g2,.int .i64 g3,.int .i64 g4,.int .i64 g5,.int .i64 g6] 27 (0,0))*(TtOff t x0*(blk gh (.cells #[.int .i64 g1,.int .i64 g2,.int .i64 g3,.int .i64 g4,.int .i64 g5,.int .i64 g6] TCf (0,0))*(blk ga (.cells #[.int .i64 c1,.int .i64 c2,.int .i64 c3,.int .i64 c4,.int .i64 c5,.int .i64 c6] 23 (0,0))*Old w))) by ac_rfl)).drew;clear h6;have e0:wf.drew.cell? ⟨gh+1,0,none⟩=some (.int .i64 g1):=(h5.cell 0).trans rfl;have e1:wf.drew.cell? ⟨gh+1,1,none⟩=some (.int .i64 g2):=(h5.cell 1).trans rfl;have e2:wf.drew.cell? ⟨gh+1,2,none⟩=some (.int .i64 g3):=(h5.cell 2).trans rfl;have e3:wf.drew.cell? ⟨gh+1,3,none⟩=some (.int .i64 g4):=(h5.cell 3).trans rfl;have e4:wf.drew.cell? ⟨gh+1,4,none⟩=some (.int .i64 g5):=(h5.cell 4).trans rfl;have e5:wf.drew.cell? ⟨gh+1,5,none⟩=some (.int .i64 g6):=(h5.cell 5).trans rfl;refine wp_region_held_drew (S:=fun wx=>wx.cell? ⟨gh+1,0,none⟩=some (.int .i64 g1)/\wx.cell? ⟨gh+1,1,none⟩=some (.int .i64 g2)/\wx.cell? ⟨gh+1,2,none⟩=some (.int .i64 g3)/\wx.cell? ⟨gh+1,3,none⟩=some (.int .i64 g4)/\wx.cell? ⟨gh+1,4,none⟩=some (.int .i64 g5)/\wx.cell? ⟨gh+1,5,none⟩=some (.int .i64 g6)) (by kernel_rfl) ⟨e0,e1,e2,e3,e4,e5⟩ (fun hHeld=>?_)
 clear e0 e1 e2 e3 e4 e5;generalize wf.drew=wd2 at *;have hk:=rd_new0 a1 w wd2 _ h5;refine tk 0 ?_ rfl (fun w hSw=>?_) ?_
 rotate_left 1
 ·try dsimp only at hSw
  go_simp
  try with_reducible rfl
 try simp only[Act.put,sl]
 refine tk 1 ?_ rfl (fun w hSw=>?_) ?_
 rotate_left 1
 ·try dsimp only at hSw
  go_simp
  try with_reducible rfl
 try simp only[Act.put,sl]
 refine rd 2 rfl (fun K hK=>?_)
 go_simp
 go_at_call 14
 refine hk.mono ?_
 rintro r we2 ⟨p2,rfl,h6⟩;clear hk h5;have cg:=h6.f2.cell;have hk:=hrw p2 w we2 _ h6;go_simp
 refine hK.out _ _ ⟨(cg 0).trans rfl,(cg 1).trans rfl,(cg 2).trans rfl,(cg 3).trans rfl,(cg 4).trans rfl,(cg 5).trans rfl⟩ (fun hHeld=>?_)
 clear hK K;try simp only[Act.put,sl]
 clear cg h6;refine rd 3 rfl (fun K hK=>?_)
 go_simp
 go_at_call 13
 refine hk.mono ?_
 rintro r wh ⟨r0,rfl,h6⟩;clear hk hrw;have cg:=h6.f2.cell;go_simp
 refine hK.out _ _ ⟨(cg 0).trans rfl,(cg 1).trans rfl,(cg 2).trans rfl,(cg 3).trans rfl,(cg 4).trans rfl,(cg 5).trans rfl⟩ (fun hHeld=>?_)
 clear hK K;try simp only[Act.put,sl]
 refine tk 4 ?_ rfl (fun w hSw=>?_) ?_
 rotate_left 1
 ·try dsimp only at hSw
  go_simp
  try with_reducible rfl
 try simp only[Act.put,sl]
 refine wpAnyH_done (by kernel_rfl) ?_ _
 clear hHeld cg;have h7:=h6.f2.drop.f3.drop.f3.drop;clear h6;have hk:=tt_wakes w wh _ (fun w' h=>hO w' h.drop.drop) (fun w' h=>hO2 w' h.drop.drop) (fun w' h=>hO3 w' h.drop.drop) h7;go_upto_region 6 with (go_at_call 15;refine hk.mono ?_;rintro r wj ⟨rfl,h8⟩)
 clear hk h7;have H:St w wj (TtOff t x0*(RtOff 0 r0 x0*Old w)):=by first | exact h8 | exact h8.f2
 clear h8;go_cut [52,53,54] (fun s52 s53 s54 wx=>∃ m:Nat,m<=len2/\m<=80/\s52=.slice a2 m cap2/\s53=.int .i64 m/\s54=.int .i64 0/\wj=wx)
 case first =>
  go_wp2;all_goals (go_meet;first | exact⟨len2,Nat.le_refl _,by omega,rfl,rfl,rfl,rfl⟩ | exact⟨80,by omega,by omega,rfl,rfl,rfl,rfl⟩ | (refine⟨(min (len2:Int) 80).toNat,by omega,by omega,?_,?_,rfl,rfl⟩ <;> (first | rfl | (congr 1;omega))))
 case rest =>
  obtain⟨m,hm,hm40,rfl,rfl,rfl,rfl⟩:=hcut;have HW:=Lib.hid (And.intro hX0.out.1 hX0.out.2.1);have HI:=Lib.hid H;clear H hX0;go_wp2;go_loopw [54] (fun s54 wr=>∃ (k:Nat) (x:Tt),k<=m/\s54=.int .i64 k/\Hid (x.Well g0 (100000*k)/\Own (fun _=>True) x)/\Hid (St w wr (TtOff t x*(RtOff (100000*k) r0 x*Old w)))) (fun s54 _=>m - (intOf s54).toNat)
  case atStart=>exact⟨0,x0,by omega,rfl,HW,HI⟩
  case round =>
   clear HW HI;obtain⟨k,x,hk,rfl,HG,H⟩:=hrel;by_cases hlt:k<m
   ·have hlti:(k:Int)<(m:Int):=by omega
    obtain⟨b,off,rfl,hb,hi⟩:=L3.out (by omega);obtain⟨y,yok,hy⟩:=hi k (by omega);have hbel:=(H.out.drop.drop).old0;have hfr:=frs_of yok;have hc:=fun j (hj:j<13)=>(hbel.cell (p:=⟨b,off+k*13+j,none⟩) (by have:=HGA.out;show b<w.heap.size;omega)).trans (hy j hj)
    clear yok hi hy L3;obtain⟨yDo,yask,ylater,ydata,ym0,ym1,ym2,yown,yfa,yfn,yfc,ynear,yN,yM,yraw⟩:=y;have d0:wr.cell? ⟨b,off+k*13,none⟩=some (Value.int .i64 yDo):=(hc 0 (by decide)).trans (show _=some (Value.int .i64 yDo) from rfl);have d1:=(hc 1 (by decide)).trans (show _=some (Value.int .i64 yask) from rfl);have d2:=(hc 2 (by decide)).trans (show _=some (Value.int .i64 ylater) from rfl);have d3:=(hc 3 (by decide)).trans (show _=some (Value.string ydata) from rfl);have d4:=(hc 4 (by decide)).trans (show _=some (Value.int .i64 ym0) from rfl);have d5:=(hc 5 (by decide)).trans (show _=some (Value.int .i64 ym1) from rfl);have d6:=(hc 6 (by decide)).trans (show _=some (Value.int .i64 ym2) from rfl);have d7:=(hc 7 (by decide)).trans (show _=some (Value.bool yown) from rfl);have d8:=(hc 8 (by decide)).trans (show _=some (Value.slice yfa yfn yfc) from rfl);have d9:=(hc 9 (by decide)).trans (show _=some (Value.bool ynear) from rfl);have d10:=(hc 10 (by decide)).trans (show _=some (Value.int .i64 yN) from rfl);have d11:=(hc 11 (by decide)).trans (show _=some (Value.int .i64 yM) from rfl);have d12:=(hc 12 (by decide)).trans (show _=some (Value.string yraw) from rfl);have hfs:=fun w' (h:St w w' (Old w))=>hfr.old h.old0
    have HFS:=Lib.hid hfs;clear hc hbel hfr hfs;have ew:IntKind.i64.wrap ((k:Int)*3)=(k:Int)*3:=by rw[IntKind.wrap_i64];omega
    obtain⟨nw,hnw⟩:∃ nw:Int,(k:Int)*3=nw:=⟨_,rfl⟩;rw[hnw] at ew;have H5:=(H.out.alloc (.cells (AcT.cells ⟨yDo,yask,ylater,ydata,ym0,ym1,ym2,yown,yfa,yfn,yfc,ynear,yN,yM,yraw⟩).toArray TAct)).f2;go_upto_region 9 with fail
    generalize wr.alloc _=wa at *;generalize wr.heap.size=gq at *;clear d0 d1 d2 d3 d4 d5 d6 d7 d8 d9 d10 d11 d12 H;have hl:=t_link t x HG.out.1.fit.e.ok.b.fl w wa _ H5;have e1:=view_tei x.e;generalize x.e.view=V at *;obtain⟨was,hwas⟩:∃ was,x.e.tei=was:=⟨_,rfl⟩;rw[hwas] at e1;obtain⟨dm,hdm⟩:∃ dm:Int,yDo.tmod 6=dm:=⟨_,rfl⟩;have HWS:=Lib.hid hwas;clear hwas H5;go_upto_region 10 with (go_at_call 16;refine hl.mono ?_;clear hl;rintro q1 wb ⟨rfl,h1⟩)
    have h2:St w (wb.alloc (.cells #[.slice none 0 0,.slice none 0 0] TRes)) (blk wb.heap.size (.cells #[.slice none 0 0,.slice none 0 0] TRes (0,0))*(TtOff t x*(ActB gq yDo yask ylater ym0 ym1 ym2 yN yM ydata yraw yown ynear yfa yfn yfc*(RtOff (100000*k) r0 x*Old w)))):=h1.alloc _;have d0:=h2.f3.cell;have f0:=h2.free;clear h1;go_upto_if 67 with fail
    generalize wb.alloc _=wd at *;generalize wb.heap.size=gr at *;go_cut [] (fun wx=>∃ (X:Tt) (sv tv:Value),Hid (X.Well g0 (100000*(k+1))/\Own (fun z=>dm=0->z=was) X)/\Hid (St w wx (blk gr (.cells #[sv,tv] TRes (0,0))*(LAt 9 1 encS sv X.sent*(LAt TTold 2 tolC tv X.told*(TtOff t X*(RtOff (100000*(k+1)) r0 X*(ActB gq yDo yask ylater ym0 ym1 ym2 yN yM ydata yraw yown ynear yfa yfn yfc*Old w))))))))
    case first =>
     have hx:=HG.out.1;by_cases e0:dm=0
     ·subst e0
      have hw:=well_ask hx nw yask ydata;have ho:Own (fun z=>(0:Int)=0->z=was) (x.ask nw yask ydata).1:=(own_ask HG.out.2 nw yask ydata).1.mono (fun z hz _=>hz.trans HWS.out);have hc:=t_ask t x nw yask ydata hx.fit w wd _ (fun w' h=>hO w' h.drop.drop.drop) (fun w' h=>hO2 w' h.drop.drop.drop) (fun w' h=>hO3 w' h.drop.drop.drop) h2.f2;have hr:=fun w' R h=>rt_ask (100000*k) r0 x nw yask ydata hx.fit hx.tidy w w' R h
      generalize x.ask nw yask ydata=X at *;clear hx HG;go_upto_region 14 with (go_at_call 17;refine hc.mono ?_;clear hc;rintro q1 w2 ⟨sv,tv,rfl,h3⟩;obtain⟨sa,sc,rfl,_,_⟩:=h3.l_shape;obtain⟨ta,tc,rfl,_,_⟩:=h3.f2.l_shape;have c2:=h3.f4.cell;have f2:=h3.f4.free)
      have h4:=(h3.f4.set 0 (.slice sa X.1.sent.length sc)).set 1 (.slice ta X.1.told.length tc);have h5:=h4.eq (show _=RtOff (100000*k) r0 x*(ActB gq yDo yask ylater ym0 ym1 ym2 yN yM ydata yraw yown ynear yfa yfn yfc*(LAt 9 1 encS (.slice sa X.1.sent.length sc) X.1.sent*(LAt TTold 2 tolC (.slice ta X.1.told.length tc) X.1.told*(blk gr (.cells #[.slice sa X.1.sent.length sc,.slice ta X.1.told.length tc] TRes (0,0))*(TtOff t X.1*Old w))))) by ac_rfl);clear h3 h4 c2 f2 h2 d0 f0;generalize (w2.setCell _ _).setCell _ _=w3 at *;have d0:=h5.f2.cell;have hr:=hr w3 _ h5;clear h5;go_wp2_with fail
      refine hr.mono ?_
      clear hr;rintro q2 w4 ⟨rfl,h6⟩;clear d0;go_wp2;go_meet
      exact⟨X.1,.slice sa X.1.sent.length sc,.slice ta X.1.told.length tc,Lib.hid ⟨hw.mono (by omega),ho⟩,Lib.hid ((St.rt_mono (M:=100000*(k+1)) (by omega) h6).eq (by ac_rfl))⟩
     ·have b0:(dm == 0)=false:=by simpa using e0
      have hb:=l_bitsOf (100000*k) r0 w.heap.size x ⟨yDo,yask,ylater,ydata,ym0,ym1,ym2,yown,yfa,yfn,yfc,ynear,yN,yM,yraw⟩ hx.fit.e.ok.b.fl w wd (blk gr (.cells #[.slice none 0 0,.slice none 0 0] TRes (0,0))*(TtOff t x*(ActB gq yDo yask ylater ym0 ym1 ym2 yN yM ydata yraw yown ynear yfa yfn yfc*Old w))) (fun w' h=>HFS.out w' h.drop.drop.drop) (h2.eq (by ac_rfl));go_upto_region 16 with (go_at_call 19;refine hb.mono ?_;clear hb;rintro q0 wf ⟨B,hB,rfl,h3⟩)
      have h2b:=h3.eq (show _=blk gr (.cells #[.slice none 0 0,.slice none 0 0] TRes (0,0))*(TtOff t x*(ActB gq yDo yask ylater ym0 ym1 ym2 yN yM ydata yraw yown ynear yfa yfn yfc*(RtOff (100000*k) r0 x*Old w))) by ac_rfl);clear h2 h3 d0 f0;have h2:=h2b;clear h2b;have d0:=h2.f3.cell;have f0:=h2.free;have hw:=well_bits hx nw B;have ho:Own (fun z=>dm=0->z=was) (x.bits nw B).1:=(own_bits HG.out.2 nw B).mono (fun z _ h=>absurd h e0);have hc:=t_bits t x nw B hx.fit (by have:=hx.o;omega) (by omega) w wf _ (fun w' h=>hO w' h.drop.drop.drop) (fun w' h=>hO2 w' h.drop.drop.drop) (fun w' h=>hO3 w' h.drop.drop.drop) h2.f2;have hr:=fun w' R h=>rt_bits (100000*k) r0 x nw B hx.fit hx.tidy (by have:=hx.o;omega) (by omega) (by omega) w w' R h
      generalize x.bits nw B=X at *;clear hx HG;go_upto_region 17 with (go_at_call 20;refine hc.mono ?_;clear hc;rintro q1 w2 ⟨sv,tv,rfl,h3⟩;obtain⟨sa,sc,rfl,_,_⟩:=h3.l_shape;obtain⟨ta,tc,rfl,_,_⟩:=h3.f2.l_shape;have c2:=h3.f4.cell;have f2:=h3.f4.free)
      have h4:=(h3.f4.set 0 (.slice sa X.1.sent.length sc)).set 1 (.slice ta X.1.told.length tc);have h5:=h4.eq (show _=RtOff (100000*k) r0 x*(ActB gq yDo yask ylater ym0 ym1 ym2 yN yM ydata yraw yown ynear yfa yfn yfc*(LAt 9 1 encS (.slice sa X.1.sent.length sc) X.1.sent*(LAt TTold 2 tolC (.slice ta X.1.told.length tc) X.1.told*(blk gr (.cells #[.slice sa X.1.sent.length sc,.slice ta X.1.told.length tc] TRes (0,0))*(TtOff t X.1*Old w))))) by ac_rfl);clear h3 h4 c2 f2 h2 d0 f0;generalize (w2.setCell _ _).setCell _ _=w3 at *;have d0:=h5.f2.cell;have hr:=hr w3 _ h5;clear h5;go_wp2_with fail
      refine hr.mono ?_
      clear hr;rintro q2 w4 ⟨rfl,h6⟩;clear d0;go_wp2;go_meet
      exact⟨X.1,.slice sa X.1.sent.length sc,.slice ta X.1.told.length tc,Lib.hid ⟨hw.mono (by omega),ho⟩,Lib.hid ((St.rt_mono (M:=100000*(k+1)) (by omega) h6).eq (by ac_rfl))⟩
    case rest =>
     clear h2 d0 f0 HG;obtain⟨X,sv,tv,HX,H⟩:=hcut;obtain⟨sa,sc,rfl,hs1,hs2⟩:=H.out.f2.l_shape;obtain⟨ta,tc,rfl,_,_⟩:=H.out.f3.l_shape;unfold maxLen at hs2;have HSB:=Lib.hid (show (X.sent.length:Int)<=9223372036854775807 by omega);clear hs1 hs2;obtain⟨sn,hsn⟩:∃ n,X.sent.length=n:=⟨_,rfl⟩;obtain⟨tn,htn⟩:∃ n,X.told.length=n:=⟨_,rfl⟩;simp only[hsn,htn] at H HSB;have H1:St w wc (OwnF sa ta sn sc tn tc gr t r0 (100000*(k+1)) X (ActB gq yDo yask ylater ym0 ym1 ym2 yN yM ydata yraw yown ynear yfa yfn yfc) (Old w)):=H.out.eq (by unfold OwnF;ac_rfl);obtain⟨hX,hown⟩:=HX.out;have hl:=t_link t X hX.fit.e.ok.b.fl w wc _ H1;have hu:=fun w' R h=>t_user t X w w' R h
     have e1:=view_tei X.e;have e2:=usv_tei X.u.v;have hr:=hX.fit.u.tei;rw[← hown.tei] at e2 hr;generalize X.e.view=V at *;generalize X.u.v.cells.toArray=Vu at *;generalize X.e.tei=is at *;have HSN:=Lib.hid hsn;clear H H1 hX hown hsn htn;go_upto_region 19 with (go_at_call 16;refine hl.mono ?_;clear hl;rintro q1 wd ⟨rfl,h1⟩)
     go_cut [118] (fun s118 wx=>s118=.bool false/\Hid (St w wx (OwnF sa ta sn sc tn tc gr t r0 (100000*(k+1)) X (ActB gq yDo yask ylater ym0 ym1 ym2 yN yM ydata yraw yown ynear yfa yfn yfc) (Old w))))
     case first =>
      have zn:(is != is)=false:=by simp
      have hu:=hu wd _ h1;go_wp2_with fail
      refine hu.mono ?_
      rintro q2 we ⟨rfl,h2⟩;have H2:=Lib.hid h2;clear hu h1 h2;rcases hr with hr | ⟨hr1,hr2⟩
      ·have z0:decide (0<=is)=false:=by rw[hr];rfl
       clear hr;go_wp2;go_meet
       exact⟨rfl,H2⟩
      ·have z0:decide (0<=is)=true:=by simp;omega
       have z1:decide (is<64)=false:=by simp;omega
       have z2:decide (126<is)=false:=by simp;omega
       clear hr1 hr2;go_wp2;go_meet
       exact⟨rfl,H2⟩
     case rest =>
      clear h1 e1 e2 hu hr;obtain⟨rfl,H⟩:=hcut;have c0:=H.out.f3.cell;go_wp2;go_loopw [122] (fun s122 wr=>∃ j:Nat,j<=sn/\s122=.int .i64 j/\Hid (St w wr (OwnF sa ta sn sc tn tc gr t r0 (100000*(k+1)) X (ActB gq yDo yask ylater ym0 ym1 ym2 yN yM ydata yraw yown ynear yfa yfn yfc) (Old w)))) (fun s122 _=>sn - (intOf s122).toNat)
      case atStart=>exact⟨0,by omega,rfl,H⟩
      case round =>
       clear H c0;obtain⟨j,hj,rfl,H⟩:=hrel;by_cases hlt:j<sn
       ·have hlti:(j:Int)<(sn:Int):=by omega
        have HJ:=Lib.hid hlt;have ewj:IntKind.i64.wrap ((j:Int)+1)=(j:Int)+1:=by have:=HSB.out;rw[IntKind.wrap_i64];omega
        have hil:j<X.sent.length:=by rw[HSN.out];exact hlt
        obtain⟨s,hs⟩:∃ s,X.sent[j]?=some s:=⟨X.sent[j],List.getElem?_eq_getElem hil⟩;obtain⟨g1,o1,rfl⟩:=H.out.f2.l_addr tyStr.len (fun e=>by rw[e] at hil;cases hil);have e1:wr.cell? ⟨g1,o1+j,none⟩=some (.string s):=by simpa using H.out.f2.l_at tyStr.len hs 0 _ rfl
        obtain⟨f,fok,fs,fm⟩:=HX.out.2.sn s (List.mem_of_getElem? hs);have hfd:=sent_feed fok;rw[← fs] at hfd;have hsz:s.size<=100000:=by
         have hz:=(putO_len (net:=false) fok).2;have hz2:=stuffK_bits (putO f false);rw[← fs] at hz2;have hz3:(putO f false).data.toList.length=(putO f false).size:=rfl;omega
        have hgp:=get_put false fok;have hps:=putO_size (net:=false) fok;have hfi:f.kept.info.size<=1000000000:=by
         have:=(carries_le fok.car).1
         show f.info.size<=_
         omega
        have fm2:(tmOf f.kept false).2=true\/(f.kept.sapi=0/\(dm=0->f.kept.tei=was)):=fm;have hA0:(⟨(putO f false).data.toList.toArray⟩:ByteArray)=putO f false:=rfl;obtain⟨fk,hfk⟩:∃ fk,f.kept=fk:=⟨_,rfl⟩;rw[hfk] at hgp hfi fm2;obtain⟨T,hT⟩:∃ T,tmOf fk false=T:=⟨_,rfl⟩;have hm0:=fun w' R hL' h=>m_of fk false w w' R hL' h hfi
        rw[hT] at fm2 hm0;clear hfk hT hs hil fs fm fok;go_upto_region 24 with fail
        clear e1;go_wp2_with fail
        refine (d_new w wr _ H.out).mono ?_
        rintro q1 wa2 ⟨p,rfl,h2⟩;have hf:=d_feed p .new s fits_new (Nat.zero_le _) (by omega) w wa2 _ h2;rw[hfd] at hf;simp only[] at hf;clear h2 H hfd hsz;go_wp2_with fail
        refine hf.mono ?_
        clear hf;rintro q2 we ⟨v,rfl,h3⟩;rcases h3.l_cells tyEv.len with ⟨h0,_⟩ | ⟨g2,o2,cp,rfl,_,_,hcell⟩
        ·cases h0
        simp only[List.length_singleton] at *;have k0:we.cell? ⟨g2,o2,none⟩=some (.int .i64 0):=by simpa using hcell 0 _ rfl 0 _ rfl
        have k1:we.cell? ⟨g2,o2+1,none⟩=some (.string (putO f false)):=by simpa[hA0] using hcell 0 _ rfl 1 _ rfl
        have h4:St w we (OwnF (some ⟨g1,o1,none⟩) ta sn sc tn tc gr t r0 (100000*(k+1)) X (ActB gq yDo yask ylater ym0 ym1 ym2 yN yM ydata yraw yown ynear yfa yfn yfc) (Old w)):=h3.drop.drop;clear h3 hcell hA0;have hp:=p_get (putO f false) false w we _ (fun w' h=>hO w' h.drop.drop.drop.drop.drop.drop) (fun w' h=>hO2 w' h.drop.drop.drop.drop.drop.drop) h4 (by omega);rw[hgp] at hp;obtain⟨y1,y2,y3,y4,y5,y6,y7,y8⟩:=fk;obtain⟨⟨t1,t2,t3⟩,T2⟩:=T;simp only[] at fm2 hm0;clear hgp hps hfi;go_upto_region 28 with (go_at_call 25;refine hp.mono ?_;clear hp;rintro q3 wf ⟨rfl,h5⟩)
        have h6:=h5.alloc (.cells #[.int .i64 y1,.int .i64 y2,.bool y3,.int .i64 y4,.bool y5,.int .i64 y6,.int .i64 y7,.string y8] 76);clear h4 h5 k0 k1;generalize wf.alloc _=wg at *;generalize wf.heap.size=gf at *;have hm1:=hm0 wg _ (fun w' h=>hO3 w' h.drop.drop.drop.drop.drop.drop.drop) h6;have cf:=h6.cell;clear hm0;go_upto_region 29 with (go_at_call 26;refine hm1.mono ?_;clear hm1;rintro q4 wh ⟨rfl,h7⟩)
        clear cf h6;have h8:=(h7.alloc (.cells #[.int .i64 t1,.int .i64 t2,.int .i64 t3] 81)).f2;clear h7;generalize wh.alloc _=wk at *;generalize wh.heap.size=gm at *;have cf:=h8.cell;have ca:=(h8.drop.drop.eq (show _=ActB gq yDo yask ylater ym0 ym1 ym2 yN yM ydata yraw yown ynear yfa yfn yfc*(TtOff t X*(LAt 9 1 encS (.slice (some ⟨g1,o1,none⟩) sn sc) X.sent*(blk gr (.cells #[.slice (some ⟨g1,o1,none⟩) sn sc,.slice ta tn tc] TRes (0,0))*(LAt TTold 2 tolC (.slice ta tn tc) X.told*(RtOff (100000*(k+1)) r0 X*Old w))))) by ac_rfl)).cell;have HH:Hid (St w wk (OwnF (some ⟨g1,o1,none⟩) ta sn sc tn tc gr t r0 (100000*(k+1)) X (ActB gq yDo yask ylater ym0 ym1 ym2 yN yM ydata yraw yown ynear yfa yfn yfc) (Old w))):=Lib.hid h8.drop.drop;clear h8;cases T2 with
        | true =>
          go_wp2;go_roundw
          case rel=>exact⟨j+1,HJ.out,by go_num,HH⟩
          case measure =>
           have:=HJ.out
           simp[intOf]
           omega
        | false =>
          rcases fm2 with fm2 | ⟨f1,f2⟩
          ·cases fm2
          have z1:(y1 != 0)=false:=by rw[show y1=0 from f1];rfl
          by_cases e0:dm=0
          ·have z2:(y2 != was)=false:=by rw[show y2=was from f2 e0];simp
           clear f1 f2 e0;go_wp2;go_roundw
           case rel=>exact⟨j+1,HJ.out,by go_num,HH⟩
           case measure =>
            have:=HJ.out
            simp[intOf]
            omega
          ·have z3:(dm == 0)=false:=by simpa using e0
           clear f1 f2 e0;by_cases a1':y2=was
           ·have z2:(y2 != was)=false:=by rw[a1'];simp
            clear a1';go_wp2;go_roundw
            case rel=>exact⟨j+1,HJ.out,by go_num,HH⟩
            case measure =>
             have:=HJ.out
             simp[intOf]
             omega
           ·have z2:(y2 != was)=true:=by simp[a1']
            clear a1';by_cases a2':y2=is
            ·have z4:(y2 != is)=false:=by rw[a2'];simp
             clear a2';go_wp2;go_roundw
             case rel=>exact⟨j+1,HJ.out,by go_num,HH⟩
             case measure =>
              have:=HJ.out
              simp[intOf]
              omega
            ·have z4:(y2 != is)=true:=by simp[a2']
             clear a2';go_wp2;go_roundw
             case rel=>exact⟨j+1,HJ.out,by go_num,HH⟩
             case measure =>
              have:=HJ.out
              simp[intOf]
              omega
       ·obtain rfl:j=sn:=by omega
        have HH:Hid (St w wr (TtOff t X*(RtOff (100000*(k+1)) r0 X*Old w))):=Lib.hid (H.out.f2.drop.f2.drop.f2.drop.f3.drop.f2.eq (by ac_rfl));have HXX:=Lib.hid (And.intro HX.out.1 (HX.out.2.mono (fun _ _=>trivial)));clear H HX;go_wp2;go_roundw
        case rel=>exact⟨k+1,X,by omega,by go_num,HXX,HH⟩
        case measure=>simp[intOf];omega
   ·obtain rfl:k=m:=by omega
    have hE:=Lib.hid H.out.drop.drop.old0;clear H HG;go_wp2;go_ret
    exact⟨rfl,hE.out⟩
end Go.Proofs.YtnnahljdhdippaaGreatDoor
