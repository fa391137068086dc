/- Parts of a proof (EntTei, SendP). No condition. -/
import Derived.Test.YtjcldoejpldcmaaGreatDoorC8
namespace Go.Proofs.YtjcldoejpldcmaaGreatDoor
set_option maxRecDepth 100000
set_option maxHeartbeats 6400000
open Go.RowKit
def Te (y:En) (t:Int):Prop:=y.tei=t
section
variable {x:En} {t:Int}
theorem Te.setFl (h:Te x t) (f:Fl):Te (x.setFl f) t:=h
theorem Te.setState (h:Te x t) (f:Int):Te (x.setState f) t:=h
theorem Te.setTries (h:Te x t) (f:Int):Te (x.setTries f) t:=h
theorem Te.setAsked (h:Te x t) (f:Bool):Te (x.setAsked f) t:=h
theorem Te.setUnits (h:Te x t) (f:List ByteArray):Te (x.setUnits f) t:=h
theorem Te.setT (h:Te x t) (k:Int) (f:Bool):Te (x.setT k f) t:=by unfold Te;rw[En.setT_tei];exact h
theorem Te.told (h:Te x t) (k:Int) (d:ByteArray):Te (x.told k d) t:=h
theorem Te.sendD (h:Te x t) (k:Int) (c p:Bool) (i:Int) (d:ByteArray):Te (x.sendD k c p i d) t:=h
theorem Te.send (h:Te x t) (k:Int) (c p:Bool):Te (x.send k c p) t:=h
theorem Te.superv (h:Te x t) (c p:Bool):Te (x.superv c p) t:=h
theorem Te.start (h:Te x t) (k:Int):Te (x.start k) t:=by unfold Te;rw[En.start_tei];exact h
theorem Te.stop (h:Te x t) (k:Int):Te (x.stop k) t:=by unfold Te;rw[En.stop_tei];exact h
theorem Te.call (h:Te x t):Te x.call t:=by unfold Te;rw[call_tei];exact h
theorem Te.anew (h:Te x t) (l:ByteArray):Te (x.anew l) t:=((h.told 7 l).setAsked false).call
theorem Te.goOnK:∀ (n:Nat) {x:En},Te x t->Te (En.goOnK n x) t
 | 0,_,h=>h
 | n+1,x,h=>by
   unfold En.goOnK;split
   ·exact Te.goOnK n (show Te x.take1 t by unfold Te;rw[take1_tei];exact h)
   ·exact h
theorem Te.goOn (h:Te x t):Te x.goOn t:=by
 unfold En.goOn;split
 ·exact h.goOnK 128
 ·exact h
theorem Te.open1 (h:Te x t):Te x.open1 t:=((((h.setFl _).stop 200).start 203).setState 7).goOn
theorem Te.end1 (h:Te x t):Te x.end1 t:=by unfold Te;rw[end1_tei];exact h
theorem Te.inquire (h:Te x t):Te x.inquire t:=(h.superv true true).start 200
theorem Te.unsure (h:Te x t):Te x.unsure t:=by unfold Te;rw[unsure_tei];exact h
theorem Te.count (h:Te x t) (k:Int):Te (x.count k) t:=by unfold Te;rw[count_tei];exact h
theorem Te.ite {y:En} {c:Prop} [Decidable c] (h:Te x t) (h2:Te y t):Te (if c then x else y) t:=by
 split
 ·exact h
 ·exact h2
end
section
variable {x:En} {t:Int} (h:Te x t)
include h
theorem Te.establish:Te x.establish.1 t:=by
 unfold En.establish;repeat' split
 all_goals ((try dsimp only);(repeat' (with_reducible first | assumption | apply Te.setFl | apply Te.setState | apply Te.setTries | apply Te.setAsked | apply Te.setUnits | apply Te.setT | apply Te.told | apply Te.sendD | apply Te.send | apply Te.superv | apply Te.start | apply Te.stop | apply Te.call | apply Te.anew | apply Te.goOn | apply Te.open1 | apply Te.end1 | apply Te.inquire | apply Te.unsure | apply Te.count | apply Te.ite)))
theorem Te.release:Te x.release.1 t:=by
 unfold En.release;repeat' split
 all_goals ((try dsimp only);(repeat' (with_reducible first | assumption | apply Te.setFl | apply Te.setState | apply Te.setTries | apply Te.setAsked | apply Te.setUnits | apply Te.setT | apply Te.told | apply Te.sendD | apply Te.send | apply Te.superv | apply Te.start | apply Te.stop | apply Te.call | apply Te.anew | apply Te.goOn | apply Te.open1 | apply Te.end1 | apply Te.inquire | apply Te.unsure | apply Te.count | apply Te.ite)))
theorem Te.data (d:ByteArray):Te (x.data d).1 t:=by
 unfold En.data;repeat' split
 all_goals ((try dsimp only);(repeat' (with_reducible first | assumption | apply Te.setFl | apply Te.setState | apply Te.setTries | apply Te.setAsked | apply Te.setUnits | apply Te.setT | apply Te.told | apply Te.sendD | apply Te.send | apply Te.superv | apply Te.start | apply Te.stop | apply Te.call | apply Te.anew | apply Te.goOn | apply Te.open1 | apply Te.end1 | apply Te.inquire | apply Te.unsure | apply Te.count | apply Te.ite)))
theorem Te.unit (d:ByteArray):Te (x.unit d).1 t:=by
 unfold En.unit;repeat' split
 all_goals ((try dsimp only);(repeat' (with_reducible first | assumption | apply Te.setFl | apply Te.setState | apply Te.setTries | apply Te.setAsked | apply Te.setUnits | apply Te.setT | apply Te.told | apply Te.sendD | apply Te.send | apply Te.superv | apply Te.start | apply Te.stop | apply Te.call | apply Te.anew | apply Te.goOn | apply Te.open1 | apply Te.end1 | apply Te.inquire | apply Te.unsure | apply Te.count | apply Te.ite)))
theorem Te.own (b:Bool):Te (x.own b).1 t:=by
 unfold En.own;repeat' split
 all_goals ((try dsimp only);(repeat' (with_reducible first | assumption | apply Te.setFl | apply Te.setState | apply Te.setTries | apply Te.setAsked | apply Te.setUnits | apply Te.setT | apply Te.told | apply Te.sendD | apply Te.send | apply Te.superv | apply Te.start | apply Te.stop | apply Te.call | apply Te.anew | apply Te.goOn | apply Te.open1 | apply Te.end1 | apply Te.inquire | apply Te.unsure | apply Te.count | apply Te.ite)))
theorem Te.strange (f:Fr):Te (x.strange f) t:=h.told 7 _
theorem Te.inAssigned (f:Fr):Te (x.inAssigned f) t:=by
 have:=h.strange f
 unfold En.inAssigned;repeat' split
 all_goals ((try dsimp only);(repeat' (with_reducible first | assumption | apply Te.setFl | apply Te.setState | apply Te.setTries | apply Te.setAsked | apply Te.setUnits | apply Te.setT | apply Te.told | apply Te.sendD | apply Te.send | apply Te.superv | apply Te.start | apply Te.stop | apply Te.call | apply Te.anew | apply Te.goOn | apply Te.open1 | apply Te.end1 | apply Te.inquire | apply Te.unsure | apply Te.count | apply Te.ite)))
theorem Te.inConnecting (f:Fr):Te (x.inConnecting f) t:=by
 unfold En.inConnecting;repeat' split
 all_goals ((try dsimp only);(repeat' (with_reducible first | assumption | apply Te.setFl | apply Te.setState | apply Te.setTries | apply Te.setAsked | apply Te.setUnits | apply Te.setT | apply Te.told | apply Te.sendD | apply Te.send | apply Te.superv | apply Te.start | apply Te.stop | apply Te.call | apply Te.anew | apply Te.goOn | apply Te.open1 | apply Te.end1 | apply Te.inquire | apply Te.unsure | apply Te.count | apply Te.ite)))
theorem Te.inReleasing (f:Fr):Te (x.inReleasing f) t:=by
 unfold En.inReleasing;repeat' split
 all_goals ((try dsimp only);(repeat' (with_reducible first | assumption | apply Te.setFl | apply Te.setState | apply Te.setTries | apply Te.setAsked | apply Te.setUnits | apply Te.setT | apply Te.told | apply Te.sendD | apply Te.send | apply Te.superv | apply Te.start | apply Te.stop | apply Te.call | apply Te.anew | apply Te.goOn | apply Te.open1 | apply Te.end1 | apply Te.inquire | apply Te.unsure | apply Te.count | apply Te.ite)))
theorem Te.supervised (f:Fr):Te (x.supervised f) t:=by
 unfold En.supervised;all_goals ((try dsimp only);(repeat' (with_reducible first | assumption | apply Te.setFl | apply Te.setState | apply Te.setTries | apply Te.setAsked | apply Te.setUnits | apply Te.setT | apply Te.told | apply Te.sendD | apply Te.send | apply Te.superv | apply Te.start | apply Te.stop | apply Te.call | apply Te.anew | apply Te.goOn | apply Te.open1 | apply Te.end1 | apply Te.inquire | apply Te.unsure | apply Te.count | apply Te.ite)))
theorem Te.info (f:Fr):Te (x.info f) t:=by
 unfold En.info;all_goals ((try dsimp only);(repeat' (with_reducible first | assumption | apply Te.setFl | apply Te.setState | apply Te.setTries | apply Te.setAsked | apply Te.setUnits | apply Te.setT | apply Te.told | apply Te.sendD | apply Te.send | apply Te.superv | apply Te.start | apply Te.stop | apply Te.call | apply Te.anew | apply Te.goOn | apply Te.open1 | apply Te.end1 | apply Te.inquire | apply Te.unsure | apply Te.count | apply Te.ite)))
theorem Te.inOpen (f:Fr):Te (x.inOpen f) t:=by
 have h1:=h.strange f;have h2:=h.info f;have h3:=h.supervised f;unfold En.inOpen;repeat' split
 all_goals ((try dsimp only);(repeat' (with_reducible first | assumption | apply Te.setFl | apply Te.setState | apply Te.setTries | apply Te.setAsked | apply Te.setUnits | apply Te.setT | apply Te.told | apply Te.sendD | apply Te.send | apply Te.superv | apply Te.start | apply Te.stop | apply Te.call | apply Te.anew | apply Te.goOn | apply Te.open1 | apply Te.end1 | apply Te.inquire | apply Te.unsure | apply Te.count | apply Te.ite)))
theorem Te.again (k:Int) (l:ByteArray) (g:Int):Te (x.again k l g) t:=by
 unfold En.again;repeat' split
 all_goals ((try dsimp only);(repeat' (with_reducible first | assumption | apply Te.setFl | apply Te.setState | apply Te.setTries | apply Te.setAsked | apply Te.setUnits | apply Te.setT | apply Te.told | apply Te.sendD | apply Te.send | apply Te.superv | apply Te.start | apply Te.stop | apply Te.call | apply Te.anew | apply Te.goOn | apply Te.open1 | apply Te.end1 | apply Te.inquire | apply Te.unsure | apply Te.count | apply Te.ite)))
end
theorem ask_tei (x:En) (a:Int) (d:ByteArray):(x.ask a d).1.tei=x.tei:=by
 have h:Te x x.tei:=rfl;have h1:=h.establish;have h2:=h.release;have h3:=h.data d;have h4:=h.unit d;have h5:=h.own (a == 4);unfold En.ask;repeat' split
 all_goals first | rfl | assumption
theorem frame_tei (x:En) (f:Fr):(x.frame f).1.tei=x.tei:=by
 have h:Te x x.tei:=rfl;have h1:=h.inAssigned f;have h2:=h.inConnecting f;have h3:=h.inReleasing f;have h4:=h.inOpen f;have h5:Te (x.told 6 f.info) x.tei:=h;unfold En.frame;split
 ·rfl
 ·show Te (if _ then _ else _) _
  all_goals ((try dsimp only);(repeat' (with_reducible first | assumption | apply Te.setFl | apply Te.setState | apply Te.setTries | apply Te.setAsked | apply Te.setUnits | apply Te.setT | apply Te.told | apply Te.sendD | apply Te.send | apply Te.superv | apply Te.start | apply Te.stop | apply Te.call | apply Te.anew | apply Te.goOn | apply Te.open1 | apply Te.end1 | apply Te.inquire | apply Te.unsure | apply Te.count | apply Te.ite)))
theorem timeout_tei (x:En) (k:Int):(x.timeout k).1.tei=x.tei:=by
 have h:Te x x.tei:=rfl;have hx:Te (x.setT k false) x.tei:=h.setT k false;have h1:=hx.again 4 ⟨#[71]⟩ 3;have h2:=hx.again 7 ⟨#[72]⟩ 4;unfold En.timeout;split
 ·rfl
 ·show Te (if _ then _ else _) _
  all_goals ((try dsimp only);(repeat' (with_reducible first | assumption | apply Te.setFl | apply Te.setState | apply Te.setTries | apply Te.setAsked | apply Te.setUnits | apply Te.setT | apply Te.told | apply Te.sendD | apply Te.send | apply Te.superv | apply Te.start | apply Te.stop | apply Te.call | apply Te.anew | apply Te.goOn | apply Te.open1 | apply Te.end1 | apply Te.inquire | apply Te.unsure | apply Te.count | apply Te.ite)))
def En.Low (x:En):Prop:=x.state<4->x.tei= -1/\x.t2=false/\x.t3=false/\x.fl.q.l=[]/\x.fl.q.sent=0/\(x.state=1->x.units=[])
theorem low_of {x y:En} (hx:x.Ok) (hy:y.Ok) (ht:y.tei=x.tei) (h4:4<=x.state):y.Low:=fun h=>by
 have:=hx.tei.2 h4
 have:=hy.tei.1 (by omega)
 omega
theorem low_ask {x:En} (ok:x.Ok) (h:x.Low) (a:Int) (d:ByteArray):(x.ask a d).1.Low:=by
 by_cases h4:4<=x.state
 ·exact low_of ok (ok_ask ok a d) (ask_tei x a d) h4
 have hl:=h (by omega);obtain⟨t1,t2,t3,q1,q2,u⟩:=hl;have s1:=ok.s1;have up:x.up=false:=by unfold En.up;simp;omega
 unfold En.ask;split
 ·exact h
 ·split
  ·exact h
  ·dsimp only
   split
   ·unfold En.establish
    split
    ·exact fun _=>⟨t1,t2,t3,q1,q2,fun e=>absurd (show (3:Int)=1 from e) (by decide)⟩
    ·split
     ·exact fun _=>⟨t1,t2,t3,q1,q2,fun e=>absurd (show (3:Int)=1 from e) (by decide)⟩
     ·rw[if_neg (by omega),if_neg (by omega),if_neg (by omega),if_neg (by omega)]
      exact h
   ·split
    ·unfold En.release
     rw[if_neg (by omega),up,if_neg (by decide)];exact h
    ·split
     ·unfold En.data
      rw[if_pos ⟨up,Or.inl (by omega)⟩];exact h
     ·split
      ·unfold En.unit
       rw[if_neg (by omega)];split
       ·exact h
       ·split
        ·exact fun _=>⟨t1,t2,t3,q1,q2,fun e=>absurd (show (2:Int)=1 from e) (by decide)⟩
        ·rename_i hn
         exact fun _=>⟨t1,t2,t3,q1,q2,fun e=>absurd e hn⟩
      ·unfold En.own
       rw[if_pos up];exact h
theorem low_timeout {x:En} (ok:x.Ok) (h:x.Low) (k:Int):(x.timeout k).1.Low:=by
 by_cases h4:4<=x.state
 ·exact low_of ok (ok_timeout ok k) (timeout_tei x k) h4
 obtain⟨_,t2,t3,_⟩:=h (by omega);unfold En.timeout;rw[if_pos (by unfold En.runs;rw[t2,t3];simp)];exact h
theorem low_frame {x:En} (ok:x.Ok) (h:x.Low) (f:Fr):(x.frame f).1.Low:=by
 by_cases h4:4<=x.state
 ·exact low_of ok (ok_frame ok f) (frame_tei x f) h4
 obtain⟨t1,_⟩:=h (by omega);unfold En.frame;rw[if_pos (Or.inl (by omega))];exact h
theorem low_assign {x:En} (ok:x.Ok) (h:x.Low) (t:Int):(x.assign t).1.Low:=by
 have hk:=ok_assign ok t;revert hk
 unfold En.assign;split
 ·exact fun _=>h
 ·split
  ·exact fun _=>h
  ·rename_i ht _
   intro hk hs;have hu:=unitsK_tei x.units (x:=((x.setTei t).setState 4).setUnits []) (Int.le_refl _);have h0:Te (x.units.foldl (fun y s=>(y.unit s).1) (((x.setTei t).setState 4).setUnits [])) t:=hu;have hz:=((h0.setAsked true).call).ite (c:=x.state=3) h0;have he:=hk.tei.1 (Int.le_trans (show 0<=t by omega) (Int.le_of_eq (show t=_ from (show _=t from hz).symm)));omega
theorem low_remove {x:En} (h:x.Low):x.remove.1.Low:=by
 unfold En.remove;split
 ·exact h
 ·dsimp only
  intro _;have e1:x.end1.t2=false/\x.end1.t3=false/\x.end1.fl=x.fl.clear:=by
   unfold En.end1 En.stop En.runs En.setT En.setFl En.setState En.tell;simp
   repeat' split
   all_goals simp_all
  have e2:∀ k,(x.end1.told k noStr).t2=false/\(x.end1.told k noStr).t3=false/\(x.end1.told k noStr).fl=x.fl.clear:=fun _=>e1
  refine⟨rfl,?_,?_,?_,?_,fun _=>rfl⟩
  all_goals
   repeat' split
   all_goals first | exact e1.1 | exact e1.2.1 | exact (congrArg (fun f:Fl=>f.q.l) e1.2.2) | exact (congrArg (fun f:Fl=>f.q.sent) e1.2.2)
structure FrOk (t:Int) (f:Fr):Prop where
 sapi:f.sapi=0
 tei:f.tei=t
 may:mayK f.kind f.cmd=true
 car:carries f.kind f.info.size=true
 ns0:0<=f.ns
 ns1:f.ns<128
 nr0:0<=f.nr
 nr1:f.nr<128
theorem back_l (q:Q) (n:Int):(q.back n).1.l=q.l:=by unfold Q.back;split <;> rfl
structure Fs (f:Fl):Prop where
 ok:f.Ok
 q:∀ d ∈ f.q.l,d.size<=260
section
variable {s:Fl} (h:Fs s)
include h
theorem Fs.clear:Fs s.clear:=⟨h.ok.clear,fun d hd=>by cases hd⟩
theorem Fs.reset:Fs s.reset:=⟨h.ok.reset,fun d hd=>h.q d (by rw[← back_l s.q 0];exact hd)⟩
theorem Fs.back:Fs s.back:=⟨h.ok.back,fun d hd=>h.q d (by rw[← back_l s.q 0];exact hd)⟩
theorem Fs.peer (b:Bool):Fs (Fl.withPeer s b):=⟨h.ok.peer b,h.q⟩
theorem Fs.own (b:Bool):Fs (Fl.withOwn s b):=⟨h.ok.own b,h.q⟩
theorem Fs.push (d:ByteArray):Fs (Fl.withQ s (s.q.push d).1):=by
 refine⟨h.ok.push d,?_⟩
 show ∀ e ∈ (s.q.push d).1.l,e.size<=260
 unfold Q.push;split
 ·exact h.q
 ·split
  ·exact h.q
  ·intro e he
   rcases List.mem_append.1 (show e ∈ s.q.l++[d] from he) with h1 | h1
   ·exact h.q e h1
   ·rw[List.mem_singleton.1 h1];omega
theorem Fs.take:Fs s.take.1:=by
 refine⟨h.ok.take,?_⟩
 unfold Fl.take;split
 ·exact h.q
 ·show ∀ d ∈ s.q.take.1.l,d.size<=260
  unfold Q.take;split
  ·exact h.q
  ·exact h.q
theorem Fs.ack (n:Int):Fs (s.ack n).1:=by
 refine⟨h.ok.ack n,?_⟩
 unfold Fl.ack;split
 ·show ∀ d ∈ (s.q.done _).1.l,d.size<=260
  unfold Q.done;split
  ·exact h.q
  ·exact fun d hd=>h.q d (List.mem_of_mem_drop hd)
 ·exact h.q
theorem Fs.come (n:Int):Fs (s.come n).1:=by
 refine⟨h.ok.come n,?_⟩
 unfold Fl.come;repeat' split
 all_goals exact h.q
theorem Fs.taken:0<=(s.take.2.1:Int)/\(s.take.2.1:Int)<128/\s.take.2.2.1.size<=260:=by
 have:=h.ok.s1
 unfold Fl.take;split
 ·exact⟨by simp,by simp,show (0:Nat)<=260 by decide⟩
 ·refine⟨by simp,by show (s.vs:Int)<128;omega,?_⟩
  show s.q.take.2.1.size<=260
  unfold Q.take;split
  ·rename_i hl
   have e:s.q.l.getD s.q.sent ⟨#[]⟩=s.q.l[s.q.sent]:=by simp[hl]
   show (s.q.l.getD s.q.sent ⟨#[]⟩).size<=260
   rw[e];exact h.q _ (List.getElem_mem hl)
  ·show (⟨#[]⟩:ByteArray).size<=260
   decide
end
structure Sp (t:Int) (y:En):Prop where
 tei:y.tei=t
 f:Fs y.fl
 out:∀ z ∈ y.out,z.kind=0->FrOk t z.fr
section
variable {t:Int} {x:En}
theorem Sp.tell (h:Sp t x) (f:Fx) (hf:f.kind=0->FrOk t f.fr):Sp t (x.tell f):=⟨h.tei,h.f,fun z hz=>by
 rcases List.mem_append.1 (show z ∈ x.out++[f] from hz) with h1 | h1
 ·exact h.out z h1
 ·rw[List.mem_singleton.1 h1]
  exact hf⟩
theorem Sp.setFl (h:Sp t x) {f:Fl} (hf:Fs f):Sp t (x.setFl f):=⟨h.tei,hf,h.out⟩
theorem Sp.setState (h:Sp t x) (f:Int):Sp t (x.setState f):=⟨h.tei,h.f,h.out⟩
theorem Sp.setTries (h:Sp t x) (f:Int):Sp t (x.setTries f):=⟨h.tei,h.f,h.out⟩
theorem Sp.setAsked (h:Sp t x) (f:Bool):Sp t (x.setAsked f):=⟨h.tei,h.f,h.out⟩
theorem Sp.setUnits (h:Sp t x) (f:List ByteArray):Sp t (x.setUnits f):=⟨h.tei,h.f,h.out⟩
theorem Sp.setT (h:Sp t x) (k:Int) (f:Bool):Sp t (x.setT k f):=⟨(En.setT_tei x k f).trans h.tei,by rw[En.setT_fl];exact h.f,by rw[En.setT_out];exact h.out⟩
theorem Sp.told (h:Sp t x) {k:Int} {d:ByteArray} (hk:k≠0):Sp t (x.told k d):=h.tell _ (fun e=>absurd e hk)
theorem Sp.sendD (h:Sp t x) {k:Int} {c p:Bool} {i:Int} {d:ByteArray} (hm:mayK k c=true) (hc:carries k d.size=true) (h0:0<=i) (h1:i<128):Sp t (x.sendD k c p i d):=by
 refine h.tell _ (fun _=>⟨rfl,h.tei,hm,hc,h0,h1,?_,?_⟩)
 ·show 0<=(if numb k=true then (x.fl.vr:Int) else 0)
  split <;> omega
 ·show (if numb k=true then (x.fl.vr:Int) else 0)<128
  have:=h.f.ok.r1
  split <;> omega
theorem Sp.send (h:Sp t x) {k:Int} {c p:Bool} (hm:mayK k c=true) (hc:carries k 0=true):Sp t (x.send k c p):=h.sendD hm hc (Int.le_refl _) (by decide)
theorem Sp.superv (h:Sp t x) (c p:Bool):Sp t (x.superv c p):=by
 unfold En.superv;cases x.fl.own with
 | true=>exact h.send (k:=2) (by cases c <;> decide) (by decide)
 | false=>exact h.send (k:=1) (by cases c <;> decide) (by decide)
theorem Sp.start (h:Sp t x) (k:Int):Sp t (x.start k):=(h.setT k true).tell _ (fun e=>absurd (show (9:Int)=0 from e) (by decide))
theorem Sp.stop (h:Sp t x) (k:Int):Sp t (x.stop k):=by
 unfold En.stop;split
 ·exact (h.setT k false).tell _ (fun e=>absurd (show (10:Int)=0 from e) (by decide))
 ·exact h
theorem Sp.call (h:Sp t x):Sp t x.call:=((((h.setTries 0).send (k:=4) (c:=true) (p:=true) (by decide) (by decide)).stop 203).start 200).setState 5
theorem Sp.anew (h:Sp t x) (l:ByteArray):Sp t (x.anew l):=((h.told (k:=7) (d:=l) (by decide)).setAsked false).call
theorem carries0 {n:Nat} (h:n<=260):carries 0 n=true:=by
 unfold carries;rw[if_pos (.inl rfl)];simp
 omega
theorem carries6 {n:Nat} (h:n<=260):carries 6 n=true:=by
 unfold carries;rw[if_pos (.inr rfl)];simp
 omega
theorem Sp.take1 (h:Sp t x):Sp t x.take1:=by
 obtain⟨a,b,c⟩:=h.f.taken;have h1:Sp t ((x.setFl (x.fl.take.1)).sendD 0 true false x.fl.take.2.1 x.fl.take.2.2.1):=(h.setFl h.f.take).sendD (by decide) (carries0 c) a b;unfold En.take1;dsimp only;split
 ·exact h1
 ·exact (h1.stop 203).start 200
theorem Sp.goOnK:∀ (n:Nat) {x:En},Sp t x->Sp t (En.goOnK n x)
 | 0,_,h=>h
 | n+1,x,h=>by
   unfold En.goOnK;split
   ·exact Sp.goOnK n h.take1
   ·exact h
theorem Sp.goOn (h:Sp t x):Sp t x.goOn:=by
 unfold En.goOn;split
 ·exact h.goOnK 128
 ·exact h
theorem Sp.open1 (h:Sp t x):Sp t x.open1:=((((h.setFl h.f.reset).stop 200).start 203).setState 7).goOn
theorem Sp.end1 (h:Sp t x):Sp t x.end1:=(((h.setFl h.f.clear).stop 200).stop 203).setState 4
theorem Sp.inquire (h:Sp t x):Sp t x.inquire:=(h.superv true true).start 200
theorem Sp.unsure (h:Sp t x):Sp t x.unsure:=by
 unfold En.unsure;split
 ·exact (h.setFl h.f.clear).told (by decide)
 ·exact h
theorem Sp.count (h:Sp t x) (k:Int):Sp t (x.count k):=by
 unfold En.count;split
 ·exact (h.stop 200).start 203
 ·split
  ·exact h.start 200
  ·exact h
theorem Sp.ite {y:En} {c:Prop} [Decidable c] (h:c->Sp t x) (h2:¬ c->Sp t y):Sp t (if c then x else y):=by
 split
 ·exact h ‹_›
 ·exact h2 ‹_›
end
section
variable {t:Int} {x:En} (h:Sp t x)
include h
theorem Sp.establish (s4:4<=x.state):Sp t x.establish.1:=by
 unfold En.establish;rw[if_neg (by omega),if_neg (by omega)];repeat' split
 all_goals ((try dsimp only);(repeat' (with_reducible first | assumption | intro _ | apply Sp.setState | apply Sp.setTries | apply Sp.setAsked | apply Sp.setUnits | apply Sp.setT | (refine Sp.told ?_ (by decide)) | (refine Sp.send ?_ (by decide) (by decide)) | apply Sp.superv | apply Sp.start | apply Sp.stop | apply Sp.call | apply Sp.anew | apply Sp.goOn | apply Sp.open1 | apply Sp.end1 | apply Sp.inquire | apply Sp.unsure | apply Sp.count | apply Sp.ite | (refine Sp.setFl ?_ (Fs.clear ?_)) | (refine Sp.setFl ?_ (Fs.own ?_ _)) | (refine Sp.setFl ?_ (Fs.push ?_ _)) | exact Sp.f (by assumption))))
theorem Sp.release:Sp t x.release.1:=by
 unfold En.release;repeat' split
 all_goals ((try dsimp only);(repeat' (with_reducible first | assumption | intro _ | apply Sp.setState | apply Sp.setTries | apply Sp.setAsked | apply Sp.setUnits | apply Sp.setT | (refine Sp.told ?_ (by decide)) | (refine Sp.send ?_ (by decide) (by decide)) | apply Sp.superv | apply Sp.start | apply Sp.stop | apply Sp.call | apply Sp.anew | apply Sp.goOn | apply Sp.open1 | apply Sp.end1 | apply Sp.inquire | apply Sp.unsure | apply Sp.count | apply Sp.ite | (refine Sp.setFl ?_ (Fs.clear ?_)) | (refine Sp.setFl ?_ (Fs.own ?_ _)) | (refine Sp.setFl ?_ (Fs.push ?_ _)) | exact Sp.f (by assumption))))
theorem Sp.data (d:ByteArray):Sp t (x.data d).1:=by
 unfold En.data;repeat' split
 all_goals ((try dsimp only);(repeat' (with_reducible first | assumption | intro _ | apply Sp.setState | apply Sp.setTries | apply Sp.setAsked | apply Sp.setUnits | apply Sp.setT | (refine Sp.told ?_ (by decide)) | (refine Sp.send ?_ (by decide) (by decide)) | apply Sp.superv | apply Sp.start | apply Sp.stop | apply Sp.call | apply Sp.anew | apply Sp.goOn | apply Sp.open1 | apply Sp.end1 | apply Sp.inquire | apply Sp.unsure | apply Sp.count | apply Sp.ite | (refine Sp.setFl ?_ (Fs.clear ?_)) | (refine Sp.setFl ?_ (Fs.own ?_ _)) | (refine Sp.setFl ?_ (Fs.push ?_ _)) | exact Sp.f (by assumption))))
theorem Sp.unit (d:ByteArray) (hd:d.size<=260) (s4:4<=x.state):Sp t (x.unit d).1:=by
 unfold En.unit;rw[if_pos s4];exact h.sendD (by decide) (carries6 hd) (by decide) (by decide)
theorem Sp.strange (f:Fr):Sp t (x.strange f):=h.told (by decide)
theorem Sp.inAssigned (f:Fr):Sp t (x.inAssigned f):=by
 have:=h.strange f
 unfold En.inAssigned;repeat' split
 all_goals ((try dsimp only);(repeat' (with_reducible first | assumption | intro _ | apply Sp.setState | apply Sp.setTries | apply Sp.setAsked | apply Sp.setUnits | apply Sp.setT | (refine Sp.told ?_ (by decide)) | (refine Sp.send ?_ (by decide) (by decide)) | apply Sp.superv | apply Sp.start | apply Sp.stop | apply Sp.call | apply Sp.anew | apply Sp.goOn | apply Sp.open1 | apply Sp.end1 | apply Sp.inquire | apply Sp.unsure | apply Sp.count | apply Sp.ite | (refine Sp.setFl ?_ (Fs.clear ?_)) | (refine Sp.setFl ?_ (Fs.own ?_ _)) | (refine Sp.setFl ?_ (Fs.push ?_ _)) | exact Sp.f (by assumption))))
theorem Sp.inConnecting (f:Fr):Sp t (x.inConnecting f):=by
 unfold En.inConnecting;repeat' split
 all_goals ((try dsimp only);(repeat' (with_reducible first | assumption | intro _ | apply Sp.setState | apply Sp.setTries | apply Sp.setAsked | apply Sp.setUnits | apply Sp.setT | (refine Sp.told ?_ (by decide)) | (refine Sp.send ?_ (by decide) (by decide)) | apply Sp.superv | apply Sp.start | apply Sp.stop | apply Sp.call | apply Sp.anew | apply Sp.goOn | apply Sp.open1 | apply Sp.end1 | apply Sp.inquire | apply Sp.unsure | apply Sp.count | apply Sp.ite | (refine Sp.setFl ?_ (Fs.clear ?_)) | (refine Sp.setFl ?_ (Fs.own ?_ _)) | (refine Sp.setFl ?_ (Fs.push ?_ _)) | exact Sp.f (by assumption))))
theorem Sp.inReleasing (f:Fr):Sp t (x.inReleasing f):=by
 unfold En.inReleasing;repeat' split
 all_goals ((try dsimp only);(repeat' (with_reducible first | assumption | intro _ | apply Sp.setState | apply Sp.setTries | apply Sp.setAsked | apply Sp.setUnits | apply Sp.setT | (refine Sp.told ?_ (by decide)) | (refine Sp.send ?_ (by decide) (by decide)) | apply Sp.superv | apply Sp.start | apply Sp.stop | apply Sp.call | apply Sp.anew | apply Sp.goOn | apply Sp.open1 | apply Sp.end1 | apply Sp.inquire | apply Sp.unsure | apply Sp.count | apply Sp.ite | (refine Sp.setFl ?_ (Fs.clear ?_)) | (refine Sp.setFl ?_ (Fs.own ?_ _)) | (refine Sp.setFl ?_ (Fs.push ?_ _)) | exact Sp.f (by assumption))))
theorem Sp.sup1 (c p:Bool):Sp t (x.sup1 c p):=by
 unfold En.sup1;all_goals ((try dsimp only);(repeat' (with_reducible first | assumption | intro _ | apply Sp.setState | apply Sp.setTries | apply Sp.setAsked | apply Sp.setUnits | apply Sp.setT | (refine Sp.told ?_ (by decide)) | (refine Sp.send ?_ (by decide) (by decide)) | apply Sp.superv | apply Sp.start | apply Sp.stop | apply Sp.call | apply Sp.anew | apply Sp.goOn | apply Sp.open1 | apply Sp.end1 | apply Sp.inquire | apply Sp.unsure | apply Sp.count | apply Sp.ite | (refine Sp.setFl ?_ (Fs.clear ?_)) | (refine Sp.setFl ?_ (Fs.own ?_ _)) | (refine Sp.setFl ?_ (Fs.push ?_ _)) | exact Sp.f (by assumption))))
theorem Sp.sup3 (f:Fr) (n b:Int):Sp t (x.sup3 f n b):=by
 unfold En.sup3;dsimp only;have h4:Sp t (if f.kind≠2 then (x.stop 200).start 203 else (if x.state=7 then x.stop 203 else x).start 200):=by
  all_goals ((try dsimp only);(repeat' (with_reducible first | assumption | intro _ | apply Sp.setState | apply Sp.setTries | apply Sp.setAsked | apply Sp.setUnits | apply Sp.setT | (refine Sp.told ?_ (by decide)) | (refine Sp.send ?_ (by decide) (by decide)) | apply Sp.superv | apply Sp.start | apply Sp.stop | apply Sp.call | apply Sp.anew | apply Sp.goOn | apply Sp.open1 | apply Sp.end1 | apply Sp.inquire | apply Sp.unsure | apply Sp.count | apply Sp.ite | (refine Sp.setFl ?_ (Fs.clear ?_)) | (refine Sp.setFl ?_ (Fs.own ?_ _)) | (refine Sp.setFl ?_ (Fs.push ?_ _)) | exact Sp.f (by assumption))))
 generalize (if f.kind≠2 then (x.stop 200).start 203 else (if x.state=7 then x.stop 203 else x).start 200)=y at *;have h5:Sp t (y.setFl y.fl.back):=h4.setFl h4.f.back;all_goals ((try dsimp only);(repeat' (with_reducible first | assumption | intro _ | apply Sp.setState | apply Sp.setTries | apply Sp.setAsked | apply Sp.setUnits | apply Sp.setT | (refine Sp.told ?_ (by decide)) | (refine Sp.send ?_ (by decide) (by decide)) | apply Sp.superv | apply Sp.start | apply Sp.stop | apply Sp.call | apply Sp.anew | apply Sp.goOn | apply Sp.open1 | apply Sp.end1 | apply Sp.inquire | apply Sp.unsure | apply Sp.count | apply Sp.ite | (refine Sp.setFl ?_ (Fs.clear ?_)) | (refine Sp.setFl ?_ (Fs.own ?_ _)) | (refine Sp.setFl ?_ (Fs.push ?_ _)) | exact Sp.f (by assumption))))
theorem Sp.supervised (f:Fr):Sp t (x.supervised f):=by
 rw[sup_eq];unfold En.sup2;have h1:=h.sup1 f.cmd f.pf;generalize x.sup1 f.cmd f.pf=y at *;have h2:=h1.setFl (h1.f.peer (f.kind == 2));exact (h2.setFl (h2.f.ack f.nr)).sup3 f _ _
theorem Sp.inf1 (f:Fr) (g:Int):Sp t (x.inf1 f g):=by
 unfold En.inf1;all_goals ((try dsimp only);(repeat' (with_reducible first | assumption | intro _ | apply Sp.setState | apply Sp.setTries | apply Sp.setAsked | apply Sp.setUnits | apply Sp.setT | (refine Sp.told ?_ (by decide)) | (refine Sp.send ?_ (by decide) (by decide)) | apply Sp.superv | apply Sp.start | apply Sp.stop | apply Sp.call | apply Sp.anew | apply Sp.goOn | apply Sp.open1 | apply Sp.end1 | apply Sp.inquire | apply Sp.unsure | apply Sp.count | apply Sp.ite | (refine Sp.setFl ?_ (Fs.clear ?_)) | (refine Sp.setFl ?_ (Fs.own ?_ _)) | (refine Sp.setFl ?_ (Fs.push ?_ _)) | exact Sp.f (by assumption))))
theorem Sp.inf3 (n b:Int):Sp t (x.inf3 n b):=by
 unfold En.inf3;all_goals ((try dsimp only);(repeat' (with_reducible first | assumption | intro _ | apply Sp.setState | apply Sp.setTries | apply Sp.setAsked | apply Sp.setUnits | apply Sp.setT | (refine Sp.told ?_ (by decide)) | (refine Sp.send ?_ (by decide) (by decide)) | apply Sp.superv | apply Sp.start | apply Sp.stop | apply Sp.call | apply Sp.anew | apply Sp.goOn | apply Sp.open1 | apply Sp.end1 | apply Sp.inquire | apply Sp.unsure | apply Sp.count | apply Sp.ite | (refine Sp.setFl ?_ (Fs.clear ?_)) | (refine Sp.setFl ?_ (Fs.own ?_ _)) | (refine Sp.setFl ?_ (Fs.push ?_ _)) | exact Sp.f (by assumption))))
theorem Sp.info (f:Fr):Sp t (x.info f):=by
 rw[info_eq];unfold En.inf2;have h1:=(h.setFl (h.f.come f.ns)).inf1 f (x.fl.come f.ns).2;generalize (x.setFl (x.fl.come f.ns).1).inf1 f (x.fl.come f.ns).2=y at *;exact (h1.setFl (h1.f.ack f.nr)).inf3 _ _
theorem Sp.inOpen (f:Fr):Sp t (x.inOpen f):=by
 have h1:=h.strange f;have h2:=h.info f;have h3:=h.supervised f;unfold En.inOpen;repeat' split
 all_goals ((try dsimp only);(repeat' (with_reducible first | assumption | intro _ | apply Sp.setState | apply Sp.setTries | apply Sp.setAsked | apply Sp.setUnits | apply Sp.setT | (refine Sp.told ?_ (by decide)) | (refine Sp.send ?_ (by decide) (by decide)) | apply Sp.superv | apply Sp.start | apply Sp.stop | apply Sp.call | apply Sp.anew | apply Sp.goOn | apply Sp.open1 | apply Sp.end1 | apply Sp.inquire | apply Sp.unsure | apply Sp.count | apply Sp.ite | (refine Sp.setFl ?_ (Fs.clear ?_)) | (refine Sp.setFl ?_ (Fs.own ?_ _)) | (refine Sp.setFl ?_ (Fs.push ?_ _)) | exact Sp.f (by assumption))))
theorem Sp.again4 (l:ByteArray) (g:Int) (hg:g≠0):Sp t (x.again 4 l g):=by
 have h1:Sp t ((x.told 7 l).told g noStr):=(h.told (by decide)).told hg;unfold En.again;repeat' split
 all_goals ((try dsimp only);(repeat' (with_reducible first | assumption | intro _ | apply Sp.setState | apply Sp.setTries | apply Sp.setAsked | apply Sp.setUnits | apply Sp.setT | (refine Sp.told ?_ (by decide)) | (refine Sp.send ?_ (by decide) (by decide)) | apply Sp.superv | apply Sp.start | apply Sp.stop | apply Sp.call | apply Sp.anew | apply Sp.goOn | apply Sp.open1 | apply Sp.end1 | apply Sp.inquire | apply Sp.unsure | apply Sp.count | apply Sp.ite | (refine Sp.setFl ?_ (Fs.clear ?_)) | (refine Sp.setFl ?_ (Fs.own ?_ _)) | (refine Sp.setFl ?_ (Fs.push ?_ _)) | exact Sp.f (by assumption))))
theorem Sp.again7 (l:ByteArray) (g:Int) (hg:g≠0):Sp t (x.again 7 l g):=by
 have h1:Sp t ((x.told 7 l).told g noStr):=(h.told (by decide)).told hg;unfold En.again;repeat' split
 all_goals ((try dsimp only);(repeat' (with_reducible first | assumption | intro _ | apply Sp.setState | apply Sp.setTries | apply Sp.setAsked | apply Sp.setUnits | apply Sp.setT | (refine Sp.told ?_ (by decide)) | (refine Sp.send ?_ (by decide) (by decide)) | apply Sp.superv | apply Sp.start | apply Sp.stop | apply Sp.call | apply Sp.anew | apply Sp.goOn | apply Sp.open1 | apply Sp.end1 | apply Sp.inquire | apply Sp.unsure | apply Sp.count | apply Sp.ite | (refine Sp.setFl ?_ (Fs.clear ?_)) | (refine Sp.setFl ?_ (Fs.own ?_ _)) | (refine Sp.setFl ?_ (Fs.push ?_ _)) | exact Sp.f (by assumption))))
end
structure Wd (x:En):Prop where
 f:Fs x.fl
 t:x.tei<=126
def Sent (x:En) (l:List Fx):Prop:=∀ z ∈ l,z.kind=0->FrOk x.tei z.fr/\0<=x.tei
theorem sp_of {x:En} (w:Wd x) (ho:x.out=[]):Sp x.tei x:=⟨rfl,w.f,fun z hz=>by rw[ho] at hz;cases hz⟩
theorem timeout_sp {x:En} (ok:x.Ok) (lo:x.Low) (w:Wd x) (ho:x.out=[]) (k:Int):Wd (x.timeout k).1/\Sent x (x.timeout k).2:=by
 have h:=sp_of w ho;unfold En.timeout;split
 ·exact⟨w,fun z hz=>by cases hz⟩
 ·rename_i hr
  have s4:4<=x.state:=by
   rcases Int.lt_or_le x.state 4 with h4 | h4
   ·obtain⟨_,t2,t3,_⟩:=lo h4
    exact absurd (show x.runs k=false by unfold En.runs;rw[t2,t3];simp) hr
   ·exact h4
  have hx:=h.setT k false;have h1:=hx.again4 ⟨#[71]⟩ 3 (by decide);have h2:=hx.again7 ⟨#[72]⟩ 4 (by decide);have key:∀ y:En,Sp x.tei y->Wd y.done/\Sent x y.out:=fun y hy=>⟨⟨hy.f,by show y.tei<=126;rw[hy.tei];exact w.t⟩,fun z hz e=>⟨hy.out z hz e,ok.tei.2 s4⟩⟩
  refine key _ ?_
  all_goals ((try dsimp only);(repeat' (with_reducible first | assumption | intro _ | apply Sp.setState | apply Sp.setTries | apply Sp.setAsked | apply Sp.setUnits | apply Sp.setT | (refine Sp.told ?_ (by decide)) | (refine Sp.send ?_ (by decide) (by decide)) | apply Sp.superv | apply Sp.start | apply Sp.stop | apply Sp.call | apply Sp.anew | apply Sp.goOn | apply Sp.open1 | apply Sp.end1 | apply Sp.inquire | apply Sp.unsure | apply Sp.count | apply Sp.ite | (refine Sp.setFl ?_ (Fs.clear ?_)) | (refine Sp.setFl ?_ (Fs.own ?_ _)) | (refine Sp.setFl ?_ (Fs.push ?_ _)) | exact Sp.f (by assumption))))
theorem frame_sp {x:En} (_:x.Ok) (w:Wd x) (ho:x.out=[]) (f:Fr):Wd (x.frame f).1/\Sent x (x.frame f).2:=by
 have h:=sp_of w ho;unfold En.frame;split
 ·exact⟨w,fun z hz=>by cases hz⟩
 ·have h1:=h.inAssigned f
  have h2:=h.inConnecting f;have h3:=h.inReleasing f;have h4:=h.inOpen f;have key:∀ y:En,Sp x.tei y->Wd y.done/\Sent x y.out:=fun y hy=>⟨⟨hy.f,by show y.tei<=126;rw[hy.tei];exact w.t⟩,fun z hz e=>⟨hy.out z hz e,by omega⟩⟩
  refine key _ ?_
  all_goals ((try dsimp only);(repeat' (with_reducible first | assumption | intro _ | apply Sp.setState | apply Sp.setTries | apply Sp.setAsked | apply Sp.setUnits | apply Sp.setT | (refine Sp.told ?_ (by decide)) | (refine Sp.send ?_ (by decide) (by decide)) | apply Sp.superv | apply Sp.start | apply Sp.stop | apply Sp.call | apply Sp.anew | apply Sp.goOn | apply Sp.open1 | apply Sp.end1 | apply Sp.inquire | apply Sp.unsure | apply Sp.count | apply Sp.ite | (refine Sp.setFl ?_ (Fs.clear ?_)) | (refine Sp.setFl ?_ (Fs.own ?_ _)) | (refine Sp.setFl ?_ (Fs.push ?_ _)) | exact Sp.f (by assumption))))
theorem assign_wd {x:En} (w:Wd x) (t:Int):Wd (x.assign t).1:=by
 have hu:∀ (l:List ByteArray) (y:En),4<=y.state->Wd y->Wd (l.foldl (fun y s=>(y.unit s).1) y):=fun l=>by
  induction l with
  | nil=>exact fun y _ hy=>hy
  | cons s l ih =>
    intro y hs hy;have e:(y.unit s).1=y.sendD 6 true false 0 s:=by unfold En.unit;rw[if_pos hs]
    show Wd (l.foldl _ (y.unit s).1)
    rw[e];exact ih _ hs ⟨hy.f,hy.t⟩
 unfold En.assign;split
 ·exact w
 ·rename_i ht
  split
  ·exact w
  ·have h1:=hu x.units (((x.setTei t).setState 4).setUnits []) (Int.le_refl 4) ⟨w.f,by show t<=126;omega⟩
   dsimp only;generalize x.units.foldl (fun y s=>(y.unit s).1) (((x.setTei t).setState 4).setUnits [])=y at *;have h2:Sp y.tei ((y.setOut []).setAsked true).call:=((Sp.mk rfl h1.f (fun z hz=>by cases hz):Sp y.tei (y.setOut [])).setAsked true).call;split
   ·have e:((y.setAsked true).call).fl=y.fl:=by
     show (((((y.setAsked true).setTries 0).send 4 true true).stop 203).start 200).fl=_
     rw[En.start_fl,En.stop_fl];rfl
    refine⟨?_,?_⟩
    ·show Fs ((y.setAsked true).call).fl
     rw[e];exact h1.f
    ·show ((y.setAsked true).call).tei<=126
     rw[call_tei];exact h1.t
   ·exact⟨h1.f,h1.t⟩
theorem remove_wd {x:En} (w:Wd x):Wd x.remove.1:=by
 unfold En.remove;split
 ·exact w
 ·have e:x.end1.fl=x.fl.clear:=by
   show (((x.setFl x.fl.clear).stop 200).stop 203).fl=_
   rw[En.stop_fl,En.stop_fl];rfl
  dsimp only;refine⟨?_,by show (-1:Int)<=126;decide⟩
  have k:Fs x.end1.fl:=by rw[e];exact w.f.clear
  show Fs (En.fl (if _ then _ else _))
  repeat' split
  all_goals exact k
theorem wd_new (k n:Int):Wd (newEn k n):=⟨⟨Fl.Ok.new k 256,fun d hd=>by cases hd⟩,by show (-1:Int)<=126;decide⟩
end Go.Proofs.YtjcldoejpldcmaaGreatDoor
