/- Parts of a proof (SendQ, OutP). No condition. -/
import Derived.Test.YtjcldoejpldcmaaGreatDoorC9
import Derived.Test.YtjcldoejpldcmaaGreatDoorC8
import Derived.Test.YtjcldoejpldcmaaGreatDoorC7
namespace Go.Proofs.YtjcldoejpldcmaaGreatDoor
set_option maxRecDepth 100000
set_option maxHeartbeats 6400000
open Go.RowKit
def FxG (t:Int) (z:Fx):Prop:=(z.kind=0->FrOk t z.fr)/\(z.timer=0/\z.kind≠9\/z.timer=200\/z.timer=203)/\z.kind≠8
structure Sq (t:Int) (y:En):Prop where
 tei:y.tei=t
 f:Fs y.fl
 out:∀ z ∈ y.out,FxG t z
 un:∀ u ∈ y.units,u.size<=260
section
variable {t:Int} {x:En}
theorem Sq.tell (h:Sq t x) (f:Fx) (hf:FxG t f):Sq t (x.tell f):=⟨h.tei,h.f,fun z hz=>by
 rcases List.mem_append.1 (show z ∈ x.out++[f] from hz) with h1 | h1
 ·exact h.out z h1
 ·rw[List.mem_singleton.1 h1]
  exact hf,h.un⟩
theorem Sq.setFl (h:Sq t x) {f:Fl} (hf:Fs f):Sq t (x.setFl f):=⟨h.tei,hf,h.out,h.un⟩
theorem Sq.setState (h:Sq t x) (f:Int):Sq t (x.setState f):=⟨h.tei,h.f,h.out,h.un⟩
theorem Sq.setTries (h:Sq t x) (f:Int):Sq t (x.setTries f):=⟨h.tei,h.f,h.out,h.un⟩
theorem Sq.setAsked (h:Sq t x) (f:Bool):Sq t (x.setAsked f):=⟨h.tei,h.f,h.out,h.un⟩
theorem Sq.setUnits (h:Sq t x) {f:List ByteArray} (hf:∀ u ∈ f,u.size<=260):Sq t (x.setUnits f):=⟨h.tei,h.f,h.out,hf⟩
theorem Sq.setT (h:Sq t x) (k:Int) (f:Bool):Sq t (x.setT k f):=⟨(En.setT_tei x k f).trans h.tei,by rw[En.setT_fl];exact h.f,by rw[En.setT_out];exact h.out,by unfold En.setT;split <;> exact h.un⟩
theorem Sq.told (h:Sq t x) {k:Int} {d:ByteArray} (hk:k≠0/\k≠8/\k≠9):Sq t (x.told k d):=h.tell _ ⟨fun e=>absurd e hk.1,.inl ⟨rfl,hk.2.2⟩,hk.2.1⟩
theorem Sq.sendD (h:Sq t x) {k:Int} {c p:Bool} {i:Int} {d:ByteArray} (hm:mayK k c=true) (hc:carries k d.size=true) (h0:0<=i) (h1:i<128):Sq t (x.sendD k c p i d):=by
 refine h.tell _ ⟨fun _=>⟨rfl,h.tei,hm,hc,h0,h1,?_,?_⟩,.inl ⟨rfl,by show (0:Int)≠9;decide⟩,by show (0:Int)≠8;decide⟩
 ·show 0<=(if numb k=true then (x.fl.vr:Int) else 0)
  split <;> omega
 ·show (if numb k=true then (x.fl.vr:Int) else 0)<128
  have:=h.f.ok.r1
  split <;> omega
theorem Sq.send (h:Sq t x) {k:Int} {c p:Bool} (hm:mayK k c=true) (hc:carries k 0=true):Sq t (x.send k c p):=h.sendD hm hc (Int.le_refl _) (by decide)
theorem Sq.superv (h:Sq t x) (c p:Bool):Sq t (x.superv c p):=by
 unfold En.superv;cases x.fl.own with
 | true=>exact h.send (k:=2) (by cases c <;> decide) (by decide)
 | false=>exact h.send (k:=1) (by cases c <;> decide) (by decide)
theorem Sq.start (h:Sq t x) {k:Int} (hk:k=200\/k=203):Sq t (x.start k):=(h.setT k true).tell _ ⟨fun e=>absurd (show (9:Int)=0 from e) (by decide),.inr hk,by show (9:Int)≠8;decide⟩
theorem Sq.stop (h:Sq t x) {k:Int} (hk:k=200\/k=203):Sq t (x.stop k):=by
 unfold En.stop;split
 ·exact (h.setT k false).tell _ ⟨fun e=>absurd (show (10:Int)=0 from e) (by decide),.inr hk,by show (10:Int)≠8;decide⟩
 ·exact h
theorem Sq.call (h:Sq t x):Sq t x.call:=((((h.setTries 0).send (k:=4) (c:=true) (p:=true) (by decide) (by decide)).stop (k:=203) (by decide)).start (k:=200) (by decide)).setState 5
theorem Sq.anew (h:Sq t x) (l:ByteArray):Sq t (x.anew l):=((h.told (k:=7) (d:=l) (by decide)).setAsked false).call
theorem Sq.take1 (h:Sq t x):Sq t x.take1:=by
 obtain⟨a,b,c⟩:=h.f.taken;have h1:Sq t ((x.setFl (x.fl.take.1)).sendD 0 true false x.fl.take.2.1 x.fl.take.2.2.1):=(h.setFl h.f.take).sendD (by decide) (carries0 c) a b;unfold En.take1;dsimp only;split
 ·exact h1
 ·exact (h1.stop (k:=203) (by decide)).start (k:=200) (by decide)
theorem Sq.goOnK:∀ (n:Nat) {x:En},Sq t x->Sq t (En.goOnK n x)
 | 0,_,h=>h
 | n+1,x,h=>by
   unfold En.goOnK;split
   ·exact Sq.goOnK n h.take1
   ·exact h
theorem Sq.goOn (h:Sq t x):Sq t x.goOn:=by
 unfold En.goOn;split
 ·exact h.goOnK 128
 ·exact h
theorem Sq.open1 (h:Sq t x):Sq t x.open1:=((((h.setFl h.f.reset).stop (k:=200) (by decide)).start (k:=203) (by decide)).setState 7).goOn
theorem Sq.end1 (h:Sq t x):Sq t x.end1:=(((h.setFl h.f.clear).stop (k:=200) (by decide)).stop (k:=203) (by decide)).setState 4
theorem Sq.inquire (h:Sq t x):Sq t x.inquire:=(h.superv true true).start (k:=200) (by decide)
theorem Sq.unsure (h:Sq t x):Sq t x.unsure:=by
 unfold En.unsure;split
 ·exact (h.setFl h.f.clear).told (by decide)
 ·exact h
theorem Sq.count (h:Sq t x) (k:Int):Sq t (x.count k):=by
 unfold En.count;split
 ·exact (h.stop (k:=200) (by decide)).start (k:=203) (by decide)
 ·split
  ·exact h.start (k:=200) (by decide)
  ·exact h
theorem Sq.ite {y:En} {c:Prop} [Decidable c] (h:c->Sq t x) (h2:¬ c->Sq t y):Sq t (if c then x else y):=by
 split
 ·exact h ‹_›
 ·exact h2 ‹_›
end
section
variable {t:Int} {x:En} (h:Sq t x)
include h
theorem Sq.establish (s4:4<=x.state):Sq t x.establish.1:=by
 unfold En.establish;rw[if_neg (by omega),if_neg (by omega)];repeat' split
 all_goals ((try dsimp only);(repeat' (with_reducible first | assumption | intro _ | apply Sq.setState | apply Sq.setTries | apply Sq.setAsked | apply Sq.setT | (refine Sq.told ?_ (by decide)) | (refine Sq.send ?_ (by decide) (by decide)) | apply Sq.superv | (refine Sq.start ?_ (by decide)) | (refine Sq.stop ?_ (by decide)) | apply Sq.call | apply Sq.anew | apply Sq.goOn | apply Sq.open1 | apply Sq.end1 | apply Sq.inquire | apply Sq.unsure | apply Sq.count | apply Sq.ite | (refine Sq.setFl ?_ (Fs.clear ?_)) | (refine Sq.setFl ?_ (Fs.own ?_ _)) | (refine Sq.setFl ?_ (Fs.push ?_ _)) | exact Sq.f (by assumption))))
theorem Sq.release:Sq t x.release.1:=by
 unfold En.release;repeat' split
 all_goals ((try dsimp only);(repeat' (with_reducible first | assumption | intro _ | apply Sq.setState | apply Sq.setTries | apply Sq.setAsked | apply Sq.setT | (refine Sq.told ?_ (by decide)) | (refine Sq.send ?_ (by decide) (by decide)) | apply Sq.superv | (refine Sq.start ?_ (by decide)) | (refine Sq.stop ?_ (by decide)) | apply Sq.call | apply Sq.anew | apply Sq.goOn | apply Sq.open1 | apply Sq.end1 | apply Sq.inquire | apply Sq.unsure | apply Sq.count | apply Sq.ite | (refine Sq.setFl ?_ (Fs.clear ?_)) | (refine Sq.setFl ?_ (Fs.own ?_ _)) | (refine Sq.setFl ?_ (Fs.push ?_ _)) | exact Sq.f (by assumption))))
theorem Sq.data (d:ByteArray):Sq t (x.data d).1:=by
 unfold En.data;repeat' split
 all_goals ((try dsimp only);(repeat' (with_reducible first | assumption | intro _ | apply Sq.setState | apply Sq.setTries | apply Sq.setAsked | apply Sq.setT | (refine Sq.told ?_ (by decide)) | (refine Sq.send ?_ (by decide) (by decide)) | apply Sq.superv | (refine Sq.start ?_ (by decide)) | (refine Sq.stop ?_ (by decide)) | apply Sq.call | apply Sq.anew | apply Sq.goOn | apply Sq.open1 | apply Sq.end1 | apply Sq.inquire | apply Sq.unsure | apply Sq.count | apply Sq.ite | (refine Sq.setFl ?_ (Fs.clear ?_)) | (refine Sq.setFl ?_ (Fs.own ?_ _)) | (refine Sq.setFl ?_ (Fs.push ?_ _)) | exact Sq.f (by assumption))))
theorem Sq.unit (d:ByteArray) (hd:d.size<=260) (s4:4<=x.state):Sq t (x.unit d).1:=by
 unfold En.unit;rw[if_pos s4];exact h.sendD (by decide) (carries6 hd) (by decide) (by decide)
theorem Sq.strange (f:Fr):Sq t (x.strange f):=h.told (by decide)
theorem Sq.inAssigned (f:Fr):Sq t (x.inAssigned f):=by
 have:=h.strange f
 unfold En.inAssigned;repeat' split
 all_goals ((try dsimp only);(repeat' (with_reducible first | assumption | intro _ | apply Sq.setState | apply Sq.setTries | apply Sq.setAsked | apply Sq.setT | (refine Sq.told ?_ (by decide)) | (refine Sq.send ?_ (by decide) (by decide)) | apply Sq.superv | (refine Sq.start ?_ (by decide)) | (refine Sq.stop ?_ (by decide)) | apply Sq.call | apply Sq.anew | apply Sq.goOn | apply Sq.open1 | apply Sq.end1 | apply Sq.inquire | apply Sq.unsure | apply Sq.count | apply Sq.ite | (refine Sq.setFl ?_ (Fs.clear ?_)) | (refine Sq.setFl ?_ (Fs.own ?_ _)) | (refine Sq.setFl ?_ (Fs.push ?_ _)) | exact Sq.f (by assumption))))
theorem Sq.inConnecting (f:Fr):Sq t (x.inConnecting f):=by
 unfold En.inConnecting;repeat' split
 all_goals ((try dsimp only);(repeat' (with_reducible first | assumption | intro _ | apply Sq.setState | apply Sq.setTries | apply Sq.setAsked | apply Sq.setT | (refine Sq.told ?_ (by decide)) | (refine Sq.send ?_ (by decide) (by decide)) | apply Sq.superv | (refine Sq.start ?_ (by decide)) | (refine Sq.stop ?_ (by decide)) | apply Sq.call | apply Sq.anew | apply Sq.goOn | apply Sq.open1 | apply Sq.end1 | apply Sq.inquire | apply Sq.unsure | apply Sq.count | apply Sq.ite | (refine Sq.setFl ?_ (Fs.clear ?_)) | (refine Sq.setFl ?_ (Fs.own ?_ _)) | (refine Sq.setFl ?_ (Fs.push ?_ _)) | exact Sq.f (by assumption))))
theorem Sq.inReleasing (f:Fr):Sq t (x.inReleasing f):=by
 unfold En.inReleasing;repeat' split
 all_goals ((try dsimp only);(repeat' (with_reducible first | assumption | intro _ | apply Sq.setState | apply Sq.setTries | apply Sq.setAsked | apply Sq.setT | (refine Sq.told ?_ (by decide)) | (refine Sq.send ?_ (by decide) (by decide)) | apply Sq.superv | (refine Sq.start ?_ (by decide)) | (refine Sq.stop ?_ (by decide)) | apply Sq.call | apply Sq.anew | apply Sq.goOn | apply Sq.open1 | apply Sq.end1 | apply Sq.inquire | apply Sq.unsure | apply Sq.count | apply Sq.ite | (refine Sq.setFl ?_ (Fs.clear ?_)) | (refine Sq.setFl ?_ (Fs.own ?_ _)) | (refine Sq.setFl ?_ (Fs.push ?_ _)) | exact Sq.f (by assumption))))
theorem Sq.sup1 (c p:Bool):Sq t (x.sup1 c p):=by
 unfold En.sup1;all_goals ((try dsimp only);(repeat' (with_reducible first | assumption | intro _ | apply Sq.setState | apply Sq.setTries | apply Sq.setAsked | apply Sq.setT | (refine Sq.told ?_ (by decide)) | (refine Sq.send ?_ (by decide) (by decide)) | apply Sq.superv | (refine Sq.start ?_ (by decide)) | (refine Sq.stop ?_ (by decide)) | apply Sq.call | apply Sq.anew | apply Sq.goOn | apply Sq.open1 | apply Sq.end1 | apply Sq.inquire | apply Sq.unsure | apply Sq.count | apply Sq.ite | (refine Sq.setFl ?_ (Fs.clear ?_)) | (refine Sq.setFl ?_ (Fs.own ?_ _)) | (refine Sq.setFl ?_ (Fs.push ?_ _)) | exact Sq.f (by assumption))))
theorem Sq.sup3 (f:Fr) (n b:Int):Sq t (x.sup3 f n b):=by
 unfold En.sup3;dsimp only;have h4:Sq t (if f.kind≠2 then (x.stop 200).start 203 else (if x.state=7 then x.stop 203 else x).start 200):=by
  all_goals ((try dsimp only);(repeat' (with_reducible first | assumption | intro _ | apply Sq.setState | apply Sq.setTries | apply Sq.setAsked | apply Sq.setT | (refine Sq.told ?_ (by decide)) | (refine Sq.send ?_ (by decide) (by decide)) | apply Sq.superv | (refine Sq.start ?_ (by decide)) | (refine Sq.stop ?_ (by decide)) | apply Sq.call | apply Sq.anew | apply Sq.goOn | apply Sq.open1 | apply Sq.end1 | apply Sq.inquire | apply Sq.unsure | apply Sq.count | apply Sq.ite | (refine Sq.setFl ?_ (Fs.clear ?_)) | (refine Sq.setFl ?_ (Fs.own ?_ _)) | (refine Sq.setFl ?_ (Fs.push ?_ _)) | exact Sq.f (by assumption))))
 generalize (if f.kind≠2 then (x.stop 200).start 203 else (if x.state=7 then x.stop 203 else x).start 200)=y at *;have h5:Sq t (y.setFl y.fl.back):=h4.setFl h4.f.back;all_goals ((try dsimp only);(repeat' (with_reducible first | assumption | intro _ | apply Sq.setState | apply Sq.setTries | apply Sq.setAsked | apply Sq.setT | (refine Sq.told ?_ (by decide)) | (refine Sq.send ?_ (by decide) (by decide)) | apply Sq.superv | (refine Sq.start ?_ (by decide)) | (refine Sq.stop ?_ (by decide)) | apply Sq.call | apply Sq.anew | apply Sq.goOn | apply Sq.open1 | apply Sq.end1 | apply Sq.inquire | apply Sq.unsure | apply Sq.count | apply Sq.ite | (refine Sq.setFl ?_ (Fs.clear ?_)) | (refine Sq.setFl ?_ (Fs.own ?_ _)) | (refine Sq.setFl ?_ (Fs.push ?_ _)) | exact Sq.f (by assumption))))
theorem Sq.supervised (f:Fr):Sq t (x.supervised f):=by
 rw[sup_eq];unfold En.sup2;have h1:=h.sup1 f.cmd f.pf;generalize x.sup1 f.cmd f.pf=y at *;have h2:=h1.setFl (h1.f.peer (f.kind == 2));exact (h2.setFl (h2.f.ack f.nr)).sup3 f _ _
theorem Sq.inf1 (f:Fr) (g:Int):Sq t (x.inf1 f g):=by
 unfold En.inf1;all_goals ((try dsimp only);(repeat' (with_reducible first | assumption | intro _ | apply Sq.setState | apply Sq.setTries | apply Sq.setAsked | apply Sq.setT | (refine Sq.told ?_ (by decide)) | (refine Sq.send ?_ (by decide) (by decide)) | apply Sq.superv | (refine Sq.start ?_ (by decide)) | (refine Sq.stop ?_ (by decide)) | apply Sq.call | apply Sq.anew | apply Sq.goOn | apply Sq.open1 | apply Sq.end1 | apply Sq.inquire | apply Sq.unsure | apply Sq.count | apply Sq.ite | (refine Sq.setFl ?_ (Fs.clear ?_)) | (refine Sq.setFl ?_ (Fs.own ?_ _)) | (refine Sq.setFl ?_ (Fs.push ?_ _)) | exact Sq.f (by assumption))))
theorem Sq.inf3 (n b:Int):Sq t (x.inf3 n b):=by
 unfold En.inf3;all_goals ((try dsimp only);(repeat' (with_reducible first | assumption | intro _ | apply Sq.setState | apply Sq.setTries | apply Sq.setAsked | apply Sq.setT | (refine Sq.told ?_ (by decide)) | (refine Sq.send ?_ (by decide) (by decide)) | apply Sq.superv | (refine Sq.start ?_ (by decide)) | (refine Sq.stop ?_ (by decide)) | apply Sq.call | apply Sq.anew | apply Sq.goOn | apply Sq.open1 | apply Sq.end1 | apply Sq.inquire | apply Sq.unsure | apply Sq.count | apply Sq.ite | (refine Sq.setFl ?_ (Fs.clear ?_)) | (refine Sq.setFl ?_ (Fs.own ?_ _)) | (refine Sq.setFl ?_ (Fs.push ?_ _)) | exact Sq.f (by assumption))))
theorem Sq.info (f:Fr):Sq t (x.info f):=by
 rw[info_eq];unfold En.inf2;have h1:=(h.setFl (h.f.come f.ns)).inf1 f (x.fl.come f.ns).2;generalize (x.setFl (x.fl.come f.ns).1).inf1 f (x.fl.come f.ns).2=y at *;exact (h1.setFl (h1.f.ack f.nr)).inf3 _ _
theorem Sq.inOpen (f:Fr):Sq t (x.inOpen f):=by
 have h1:=h.strange f;have h2:=h.info f;have h3:=h.supervised f;unfold En.inOpen;repeat' split
 all_goals ((try dsimp only);(repeat' (with_reducible first | assumption | intro _ | apply Sq.setState | apply Sq.setTries | apply Sq.setAsked | apply Sq.setT | (refine Sq.told ?_ (by decide)) | (refine Sq.send ?_ (by decide) (by decide)) | apply Sq.superv | (refine Sq.start ?_ (by decide)) | (refine Sq.stop ?_ (by decide)) | apply Sq.call | apply Sq.anew | apply Sq.goOn | apply Sq.open1 | apply Sq.end1 | apply Sq.inquire | apply Sq.unsure | apply Sq.count | apply Sq.ite | (refine Sq.setFl ?_ (Fs.clear ?_)) | (refine Sq.setFl ?_ (Fs.own ?_ _)) | (refine Sq.setFl ?_ (Fs.push ?_ _)) | exact Sq.f (by assumption))))
theorem Sq.again4 (l:ByteArray) (g:Int) (hg:g≠0/\g≠8/\g≠9):Sq t (x.again 4 l g):=by
 have h1:Sq t ((x.told 7 l).told g noStr):=(h.told (by decide)).told hg;unfold En.again;repeat' split
 all_goals ((try dsimp only);(repeat' (with_reducible first | assumption | intro _ | apply Sq.setState | apply Sq.setTries | apply Sq.setAsked | apply Sq.setT | (refine Sq.told ?_ (by decide)) | (refine Sq.send ?_ (by decide) (by decide)) | apply Sq.superv | (refine Sq.start ?_ (by decide)) | (refine Sq.stop ?_ (by decide)) | apply Sq.call | apply Sq.anew | apply Sq.goOn | apply Sq.open1 | apply Sq.end1 | apply Sq.inquire | apply Sq.unsure | apply Sq.count | apply Sq.ite | (refine Sq.setFl ?_ (Fs.clear ?_)) | (refine Sq.setFl ?_ (Fs.own ?_ _)) | (refine Sq.setFl ?_ (Fs.push ?_ _)) | exact Sq.f (by assumption))))
theorem Sq.again7 (l:ByteArray) (g:Int) (hg:g≠0/\g≠8/\g≠9):Sq t (x.again 7 l g):=by
 have h1:Sq t ((x.told 7 l).told g noStr):=(h.told (by decide)).told hg;unfold En.again;repeat' split
 all_goals ((try dsimp only);(repeat' (with_reducible first | assumption | intro _ | apply Sq.setState | apply Sq.setTries | apply Sq.setAsked | apply Sq.setT | (refine Sq.told ?_ (by decide)) | (refine Sq.send ?_ (by decide) (by decide)) | apply Sq.superv | (refine Sq.start ?_ (by decide)) | (refine Sq.stop ?_ (by decide)) | apply Sq.call | apply Sq.anew | apply Sq.goOn | apply Sq.open1 | apply Sq.end1 | apply Sq.inquire | apply Sq.unsure | apply Sq.count | apply Sq.ite | (refine Sq.setFl ?_ (Fs.clear ?_)) | (refine Sq.setFl ?_ (Fs.own ?_ _)) | (refine Sq.setFl ?_ (Fs.push ?_ _)) | exact Sq.f (by assumption))))
end
structure En.Fit (x:En):Prop where
 ok:x.Ok
 lo:x.Low
 wd:Wd x
 out:x.out=[]
 un:∀ u ∈ x.units,u.size<=260
def Fxs (t:Int) (l:List Fx):Prop:=∀ z ∈ l,FxG t z/\(z.kind=0->0<=t)
theorem sq_of {x:En} (h:x.Fit):Sq x.tei x:=⟨rfl,h.wd.f,fun z hz=>(by rw[h.out] at hz;cases hz),h.un⟩
theorem fxs_nil (t:Int):Fxs t []:=fun z hz=>by cases hz
theorem fit_timeout {x:En} (h:x.Fit) (k:Int):(x.timeout k).1.Fit/\Fxs x.tei (x.timeout k).2:=by
 have ok:=ok_timeout h.ok k;have lo:=low_timeout h.ok h.lo k;have wd:=(timeout_sp h.ok h.lo h.wd h.out k).1;have hs:=sq_of h;have all:((x.timeout k).1.out=[]/\∀ u ∈ (x.timeout k).1.units,u.size<=260)/\Fxs x.tei (x.timeout k).2:=by
  unfold En.timeout;split
  ·exact⟨⟨h.out,h.un⟩,fxs_nil _⟩
  ·rename_i hr
   have s4:4<=x.state:=by
    rcases Int.lt_or_le x.state 4 with h4 | h4
    ·obtain⟨_,t2,t3,_⟩:=h.lo h4
     exact absurd (show x.runs k=false by unfold En.runs;rw[t2,t3];simp) hr
    ·exact h4
   have hx:=hs.setT k false;have h1:=hx.again4 ⟨#[71]⟩ 3 (by decide);have h2:=hx.again7 ⟨#[72]⟩ 4 (by decide);have key:∀ y:En,Sq x.tei y->(y.done.out=[]/\∀ u ∈ y.done.units,u.size<=260)/\Fxs x.tei y.out:=fun y hy=>⟨⟨rfl,hy.un⟩,fun z hz=>⟨hy.out z hz,fun _=>h.ok.tei.2 s4⟩⟩
   refine key _ ?_
   all_goals ((try dsimp only);(repeat' (with_reducible first | assumption | intro _ | apply Sq.setState | apply Sq.setTries | apply Sq.setAsked | apply Sq.setT | (refine Sq.told ?_ (by decide)) | (refine Sq.send ?_ (by decide) (by decide)) | apply Sq.superv | (refine Sq.start ?_ (by decide)) | (refine Sq.stop ?_ (by decide)) | apply Sq.call | apply Sq.anew | apply Sq.goOn | apply Sq.open1 | apply Sq.end1 | apply Sq.inquire | apply Sq.unsure | apply Sq.count | apply Sq.ite | (refine Sq.setFl ?_ (Fs.clear ?_)) | (refine Sq.setFl ?_ (Fs.own ?_ _)) | (refine Sq.setFl ?_ (Fs.push ?_ _)) | exact Sq.f (by assumption))))
 exact⟨⟨ok,lo,wd,all.1.1,all.1.2⟩,all.2⟩
theorem fit_frame {x:En} (h:x.Fit) (f:Fr):(x.frame f).1.Fit/\Fxs x.tei (x.frame f).2:=by
 have ok:=ok_frame h.ok f;have lo:=low_frame h.ok h.lo f;have wd:=(frame_sp h.ok h.wd h.out f).1;have hs:=sq_of h;have all:((x.frame f).1.out=[]/\∀ u ∈ (x.frame f).1.units,u.size<=260)/\Fxs x.tei (x.frame f).2:=by
  unfold En.frame;split
  ·exact⟨⟨h.out,h.un⟩,fxs_nil _⟩
  ·have h1:=hs.inAssigned f
   have h2:=hs.inConnecting f;have h3:=hs.inReleasing f;have h4:=hs.inOpen f;have key:∀ y:En,Sq x.tei y->(y.done.out=[]/\∀ u ∈ y.done.units,u.size<=260)/\Fxs x.tei y.out:=fun y hy=>⟨⟨rfl,hy.un⟩,fun z hz=>⟨hy.out z hz,fun _=>by omega⟩⟩
   refine key _ ?_
   all_goals ((try dsimp only);(repeat' (with_reducible first | assumption | intro _ | apply Sq.setState | apply Sq.setTries | apply Sq.setAsked | apply Sq.setT | (refine Sq.told ?_ (by decide)) | (refine Sq.send ?_ (by decide) (by decide)) | apply Sq.superv | (refine Sq.start ?_ (by decide)) | (refine Sq.stop ?_ (by decide)) | apply Sq.call | apply Sq.anew | apply Sq.goOn | apply Sq.open1 | apply Sq.end1 | apply Sq.inquire | apply Sq.unsure | apply Sq.count | apply Sq.ite | (refine Sq.setFl ?_ (Fs.clear ?_)) | (refine Sq.setFl ?_ (Fs.own ?_ _)) | (refine Sq.setFl ?_ (Fs.push ?_ _)) | exact Sq.f (by assumption))))
 exact⟨⟨ok,lo,wd,all.1.1,all.1.2⟩,all.2⟩
theorem fit_units {t:Int}:∀ (l:List ByteArray) (y:En),Sq t y->4<=y.state->(∀ u ∈ l,u.size<=260)->Sq t (l.foldl (fun y s=>(y.unit s).1) y)
 | [],_,h,_,_=>h
 | s :: l,y,h,h4,hl=>by
   have e:(y.unit s).1=y.sendD 6 true false 0 s:=by unfold En.unit;rw[if_pos h4]
   have h1:=h.unit s (hl s (by simp)) h4;show Sq t (l.foldl _ (y.unit s).1)
   exact fit_units l _ h1 (by rw[e];exact h4) (fun u hu=>hl u (List.mem_cons_of_mem _ hu))
theorem fit_assign {x:En} (h:x.Fit) (t:Int):(x.assign t).1.Fit/\(Fxs t (x.assign t).2.1/\((x.assign t).2.1≠[]->t<=126)):=by
 have ok:=ok_assign h.ok t;have lo:=low_assign h.ok h.lo t;have wd:=assign_wd h.wd t;have all:((x.assign t).1.out=[]/\∀ u ∈ (x.assign t).1.units,u.size<=260)/\(Fxs t (x.assign t).2.1/\((x.assign t).2.1≠[]->t<=126)):=by
  unfold En.assign;split
  ·exact⟨⟨h.out,h.un⟩,fxs_nil _,fun e=>absurd rfl e⟩
  ·split
   ·exact⟨⟨h.out,h.un⟩,fxs_nil _,fun e=>absurd rfl e⟩
   ·have h0:Sq t (((x.setTei t).setState 4).setUnits []):=⟨rfl,h.wd.f,fun z hz=>(by rw[show (((x.setTei t).setState 4).setUnits []).out=[] from h.out] at hz;cases hz),fun u hu=>(by cases hu)⟩
    have h1:=fit_units x.units _ h0 (Int.le_refl _) h.un;have key:∀ y:En,Sq t y->(y.done.out=[]/\∀ u ∈ y.done.units,u.size<=260)/\(Fxs t y.out/\(y.out≠[]->t<=126)):=fun y hy=>⟨⟨rfl,hy.un⟩,fun z hz=>⟨hy.out z hz,fun _=>by omega⟩,fun _=>by omega⟩
    refine key _ ?_
    split
    ·exact (h1.setAsked true).call
    ·exact h1
 exact⟨⟨ok,lo,wd,all.1.1,all.1.2⟩,all.2⟩
theorem fit_remove {x:En} (h:x.Fit):x.remove.1.Fit/\Fxs x.tei x.remove.2.1:=by
 have ok:=ok_remove h.ok;have lo:=low_remove h.lo;have wd:=remove_wd h.wd;have hs:=sq_of h;have all:(x.remove.1.out=[]/\∀ u ∈ x.remove.1.units,u.size<=260)/\Fxs x.tei x.remove.2.1:=by
  unfold En.remove;split
  ·exact⟨⟨h.out,h.un⟩,fxs_nil _⟩
  ·have h1:=hs.end1
   have h0:∀ z ∈ x.end1.out,z.kind≠0:=by
    have e0:(x.setFl x.fl.clear).out=[]:=h.out;have e1:∀ z ∈ ((x.setFl x.fl.clear).stop 200).out,z.kind≠0:=by
     unfold En.stop;split
     ·intro z hz
      have hz:z ∈ ((x.setFl x.fl.clear).setT 200 false).out++[Fx.tim 10 200]:=hz;rw[En.setT_out,e0] at hz;rw[List.mem_singleton.1 hz];show (10:Int)≠0
      decide
     ·intro z hz;rw[e0] at hz;cases hz
    show ∀ z ∈ (((x.setFl x.fl.clear).stop 200).stop 203).out,z.kind≠0
    generalize (x.setFl x.fl.clear).stop 200=y at *;unfold En.stop;split
    ·intro z hz
     have hz:z ∈ (y.setT 203 false).out++[Fx.tim 10 203]:=hz;rw[En.setT_out] at hz;rcases List.mem_append.1 hz with h2 | h2
     ·exact e1 z h2
     ·rw[List.mem_singleton.1 h2]
      show (10:Int)≠0
      decide
    ·exact e1
   have key:∀ y:En,Sq x.tei y->(∀ z ∈ y.out,z.kind≠0)->((((y.done.setTei (-1)).setState 1).setUnits []).out=[]/\∀ u ∈ (((y.done.setTei (-1)).setState 1).setUnits []).units,u.size<=260)/\Fxs x.tei y.out:=fun y hy hz0=>⟨⟨rfl,fun u hu=>by cases hu⟩,fun z hz=>⟨hy.out z hz,fun e=>absurd e (hz0 z hz)⟩⟩
   have told:∀ k,k≠0->∀ z ∈ (x.end1.told k noStr).out,z.kind≠0:=fun k hk z hz=>by
    rcases List.mem_append.1 (show z ∈ x.end1.out++[Fx.of k noStr] from hz) with h2 | h2
    ·exact h0 z h2
    ·rw[List.mem_singleton.1 h2];exact hk
   dsimp only;refine key _ ?_ ?_
   ·repeat' split
    ·exact h1.told (by decide)
    ·exact h1.told (by decide)
    ·exact h1
   ·repeat' split
    ·exact told 3 (by decide)
    ·exact told 4 (by decide)
    ·exact h0
 exact⟨⟨ok,lo,wd,all.1.1,all.1.2⟩,all.2⟩
theorem fit_new (k n:Int):(newEn k n).Fit:=⟨ok_new k n,fun _=>⟨rfl,rfl,rfl,rfl,rfl,fun _=>rfl⟩,wd_new k n,rfl,fun u hu=>by cases hu⟩
def Out (y:En) (n:Nat):Prop:=y.out.length<=n
section
variable {x:En} {n m:Nat}
theorem Out.setFl (h:Out x n) (f:Fl):Out (x.setFl f) n:=h
theorem Out.setState (h:Out x n) (f:Int):Out (x.setState f) n:=h
theorem Out.setTries (h:Out x n) (f:Int):Out (x.setTries f) n:=h
theorem Out.setTei (h:Out x n) (f:Int):Out (x.setTei f) n:=h
theorem Out.setAsked (h:Out x n) (f:Bool):Out (x.setAsked f) n:=h
theorem Out.setUnits (h:Out x n) (f:List ByteArray):Out (x.setUnits f) n:=h
theorem Out.setT (h:Out x n) (t:Int) (f:Bool):Out (x.setT t f) n:=by unfold Out;rw[En.setT_out];exact h
theorem Out.told (h:Out x n) (k:Int) (d:ByteArray):Out (x.told k d) (n+1):=by unfold Out;rw[En.told_len];exact Nat.succ_le_succ h
theorem Out.sendD (h:Out x n) (k:Int) (c p:Bool) (i:Int) (d:ByteArray):Out (x.sendD k c p i d) (n+1):=by unfold Out;rw[En.sendD_len];exact Nat.succ_le_succ h
theorem Out.send (h:Out x n) (k:Int) (c p:Bool):Out (x.send k c p) (n+1):=by unfold Out;rw[En.send_len];exact Nat.succ_le_succ h
theorem Out.superv (h:Out x n) (c p:Bool):Out (x.superv c p) (n+1):=by unfold Out;rw[En.superv_len];exact Nat.succ_le_succ h
theorem Out.start (h:Out x n) (t:Int):Out (x.start t) (n+1):=by unfold Out;rw[En.start_len];exact Nat.succ_le_succ h
theorem Out.stop (h:Out x n) (t:Int):Out (x.stop t) (n+1):=by unfold Out at *;have:=En.stop_len (x:=x) t;omega
theorem Out.call (h:Out x n):Out x.call (n+3):=by unfold Out at *;have:=En.call_len (x:=x);omega
theorem Out.anew (h:Out x n) (l:ByteArray):Out (x.anew l) (n+4):=by unfold Out at *;have:=En.anew_len (x:=x) l;omega
theorem Out.goOn (h:Out x n):Out x.goOn (n+384):=by unfold Out at *;have:=goOn_len x;omega
theorem Out.open1 (h:Out x n):Out x.open1 (n+386):=by unfold Out at *;have:=open1_len x;omega
theorem Out.end1 (h:Out x n):Out x.end1 (n+2):=by unfold Out at *;have:=end1_len x;omega
theorem Out.inquire (h:Out x n):Out x.inquire (n+2):=by unfold Out at *;have:=inquire_len x;omega
theorem Out.unsure (h:Out x n):Out x.unsure (n+1):=by unfold Out at *;have:=En.unsure_len x;omega
theorem Out.count (h:Out x n) (k:Int):Out (x.count k) (n+2):=by unfold Out at *;have:=count_len x k;omega
theorem Out.unitsK (h:Out x n) (l:List ByteArray) (hl:l.length<=256):Out (x.unitsK l) (n+256):=by unfold Out at *;have:=unitsK_len l x;omega
theorem Out.ite {y:En} {c:Prop} [Decidable c] (h:Out x n) (h2:Out y m):Out (if c then x else y) (n+m):=by
 unfold Out at *;split <;> omega
theorem Out.fst {y:En} {c:Prop} [Decidable c] {a b:Int} (h:Out x n) (h2:Out y m):Out (if c then (x,a) else (y,b)).1 (n+m):=by
 unfold Out at *;split <;> simp only[] <;> omega
theorem Out.mono (h:Out x n) (l:n<=m):Out x m:=Nat.le_trans h l
end
section
variable {x:En} (h:Out x 0)
include h
theorem Out.establish:Out x.establish.1 1000:=by
 unfold En.establish;repeat' split
 all_goals ((try dsimp only);apply Out.mono;(case h=>(repeat' (with_reducible first | assumption | apply Out.setFl | apply Out.setState | apply Out.setTries | apply Out.setTei | apply Out.setAsked | apply Out.setUnits | apply Out.setT | apply Out.told | apply Out.sendD | apply Out.send | apply Out.superv | apply Out.start | apply Out.stop | apply Out.call | apply Out.anew | apply Out.goOn | apply Out.open1 | apply Out.end1 | apply Out.inquire | apply Out.unsure | apply Out.count | apply Out.ite)));(case l=>decide))
theorem Out.release:Out x.release.1 1000:=by
 unfold En.release;repeat' split
 all_goals ((try dsimp only);apply Out.mono;(case h=>(repeat' (with_reducible first | assumption | apply Out.setFl | apply Out.setState | apply Out.setTries | apply Out.setTei | apply Out.setAsked | apply Out.setUnits | apply Out.setT | apply Out.told | apply Out.sendD | apply Out.send | apply Out.superv | apply Out.start | apply Out.stop | apply Out.call | apply Out.anew | apply Out.goOn | apply Out.open1 | apply Out.end1 | apply Out.inquire | apply Out.unsure | apply Out.count | apply Out.ite)));(case l=>decide))
theorem Out.data (d:ByteArray):Out (x.data d).1 1000:=by
 unfold En.data;repeat' split
 all_goals ((try dsimp only);apply Out.mono;(case h=>(repeat' (with_reducible first | assumption | apply Out.setFl | apply Out.setState | apply Out.setTries | apply Out.setTei | apply Out.setAsked | apply Out.setUnits | apply Out.setT | apply Out.told | apply Out.sendD | apply Out.send | apply Out.superv | apply Out.start | apply Out.stop | apply Out.call | apply Out.anew | apply Out.goOn | apply Out.open1 | apply Out.end1 | apply Out.inquire | apply Out.unsure | apply Out.count | apply Out.ite)));(case l=>decide))
theorem Out.unit (d:ByteArray):Out (x.unit d).1 1000:=by
 unfold En.unit;repeat' split
 all_goals ((try dsimp only);apply Out.mono;(case h=>(repeat' (with_reducible first | assumption | apply Out.setFl | apply Out.setState | apply Out.setTries | apply Out.setTei | apply Out.setAsked | apply Out.setUnits | apply Out.setT | apply Out.told | apply Out.sendD | apply Out.send | apply Out.superv | apply Out.start | apply Out.stop | apply Out.call | apply Out.anew | apply Out.goOn | apply Out.open1 | apply Out.end1 | apply Out.inquire | apply Out.unsure | apply Out.count | apply Out.ite)));(case l=>decide))
theorem Out.own (b:Bool):Out (x.own b).1 1000:=by
 unfold En.own;repeat' split
 all_goals ((try dsimp only);apply Out.mono;(case h=>(repeat' (with_reducible first | assumption | apply Out.setFl | apply Out.setState | apply Out.setTries | apply Out.setTei | apply Out.setAsked | apply Out.setUnits | apply Out.setT | apply Out.told | apply Out.sendD | apply Out.send | apply Out.superv | apply Out.start | apply Out.stop | apply Out.call | apply Out.anew | apply Out.goOn | apply Out.open1 | apply Out.end1 | apply Out.inquire | apply Out.unsure | apply Out.count | apply Out.ite)));(case l=>decide))
theorem Out.strange (f:Fr):Out (x.strange f) 1000:=by
 unfold En.strange;all_goals ((try dsimp only);apply Out.mono;(case h=>(repeat' (with_reducible first | assumption | apply Out.setFl | apply Out.setState | apply Out.setTries | apply Out.setTei | apply Out.setAsked | apply Out.setUnits | apply Out.setT | apply Out.told | apply Out.sendD | apply Out.send | apply Out.superv | apply Out.start | apply Out.stop | apply Out.call | apply Out.anew | apply Out.goOn | apply Out.open1 | apply Out.end1 | apply Out.inquire | apply Out.unsure | apply Out.count | apply Out.ite)));(case l=>decide))
theorem Out.inAssigned (f:Fr):Out (x.inAssigned f) 2000:=by
 have:=h.strange f
 unfold En.inAssigned;repeat' split
 all_goals ((try dsimp only);apply Out.mono;(case h=>(repeat' (with_reducible first | assumption | apply Out.setFl | apply Out.setState | apply Out.setTries | apply Out.setTei | apply Out.setAsked | apply Out.setUnits | apply Out.setT | apply Out.told | apply Out.sendD | apply Out.send | apply Out.superv | apply Out.start | apply Out.stop | apply Out.call | apply Out.anew | apply Out.goOn | apply Out.open1 | apply Out.end1 | apply Out.inquire | apply Out.unsure | apply Out.count | apply Out.ite)));(case l=>decide))
theorem Out.inConnecting (f:Fr):Out (x.inConnecting f) 2000:=by
 unfold En.inConnecting;repeat' split
 all_goals ((try dsimp only);apply Out.mono;(case h=>(repeat' (with_reducible first | assumption | apply Out.setFl | apply Out.setState | apply Out.setTries | apply Out.setTei | apply Out.setAsked | apply Out.setUnits | apply Out.setT | apply Out.told | apply Out.sendD | apply Out.send | apply Out.superv | apply Out.start | apply Out.stop | apply Out.call | apply Out.anew | apply Out.goOn | apply Out.open1 | apply Out.end1 | apply Out.inquire | apply Out.unsure | apply Out.count | apply Out.ite)));(case l=>decide))
theorem Out.inReleasing (f:Fr):Out (x.inReleasing f) 2000:=by
 unfold En.inReleasing;repeat' split
 all_goals ((try dsimp only);apply Out.mono;(case h=>(repeat' (with_reducible first | assumption | apply Out.setFl | apply Out.setState | apply Out.setTries | apply Out.setTei | apply Out.setAsked | apply Out.setUnits | apply Out.setT | apply Out.told | apply Out.sendD | apply Out.send | apply Out.superv | apply Out.start | apply Out.stop | apply Out.call | apply Out.anew | apply Out.goOn | apply Out.open1 | apply Out.end1 | apply Out.inquire | apply Out.unsure | apply Out.count | apply Out.ite)));(case l=>decide))
theorem Out.supervised (f:Fr):Out (x.supervised f) 10000:=by
 unfold En.supervised;simp only[];all_goals ((try dsimp only);apply Out.mono;(case h=>(repeat' (with_reducible first | assumption | apply Out.setFl | apply Out.setState | apply Out.setTries | apply Out.setTei | apply Out.setAsked | apply Out.setUnits | apply Out.setT | apply Out.told | apply Out.sendD | apply Out.send | apply Out.superv | apply Out.start | apply Out.stop | apply Out.call | apply Out.anew | apply Out.goOn | apply Out.open1 | apply Out.end1 | apply Out.inquire | apply Out.unsure | apply Out.count | apply Out.ite)));(case l=>decide))
theorem Out.info (f:Fr):Out (x.info f) 10000:=by
 unfold En.info;simp only[];all_goals ((try dsimp only);apply Out.mono;(case h=>(repeat' (with_reducible first | assumption | apply Out.setFl | apply Out.setState | apply Out.setTries | apply Out.setTei | apply Out.setAsked | apply Out.setUnits | apply Out.setT | apply Out.told | apply Out.sendD | apply Out.send | apply Out.superv | apply Out.start | apply Out.stop | apply Out.call | apply Out.anew | apply Out.goOn | apply Out.open1 | apply Out.end1 | apply Out.inquire | apply Out.unsure | apply Out.count | apply Out.ite)));(case l=>decide))
theorem Out.inOpen (f:Fr):Out (x.inOpen f) 20000:=by
 have h1:=h.strange f;have h2:=h.info f;have h3:=h.supervised f;unfold En.inOpen;repeat' split
 all_goals ((try dsimp only);apply Out.mono;(case h=>(repeat' (with_reducible first | assumption | apply Out.setFl | apply Out.setState | apply Out.setTries | apply Out.setTei | apply Out.setAsked | apply Out.setUnits | apply Out.setT | apply Out.told | apply Out.sendD | apply Out.send | apply Out.superv | apply Out.start | apply Out.stop | apply Out.call | apply Out.anew | apply Out.goOn | apply Out.open1 | apply Out.end1 | apply Out.inquire | apply Out.unsure | apply Out.count | apply Out.ite)));(case l=>decide))
theorem Out.again (k:Int) (l:ByteArray) (g:Int):Out (x.again k l g) 1000:=by
 unfold En.again;repeat' split
 all_goals ((try dsimp only);apply Out.mono;(case h=>(repeat' (with_reducible first | assumption | apply Out.setFl | apply Out.setState | apply Out.setTries | apply Out.setTei | apply Out.setAsked | apply Out.setUnits | apply Out.setT | apply Out.told | apply Out.sendD | apply Out.send | apply Out.superv | apply Out.start | apply Out.stop | apply Out.call | apply Out.anew | apply Out.goOn | apply Out.open1 | apply Out.end1 | apply Out.inquire | apply Out.unsure | apply Out.count | apply Out.ite)));(case l=>decide))
end
theorem assign_len (x:En) (h:Out x 0) (hu:x.units.length<=256) (t:Int):(x.assign t).2.1.length<=100000:=by
 unfold En.assign;split
 ·exact Nat.zero_le _
 ·split
  ·exact Nat.zero_le _
  ·simp only[]
   have h1:=(show Out (((x.setTei t).setState 4).setUnits []) 0 from h).unitsK x.units hu;split
   ·exact (h1.setAsked true).call.mono (by decide)
   ·exact h1.mono (by decide)
theorem remove_len (x:En) (h:Out x 0):x.remove.2.1.length<=100000:=by
 unfold En.remove;split
 ·exact Nat.zero_le _
 ·show Out _ _
  all_goals ((try dsimp only);apply Out.mono;(case h=>(repeat' (with_reducible first | assumption | apply Out.setFl | apply Out.setState | apply Out.setTries | apply Out.setTei | apply Out.setAsked | apply Out.setUnits | apply Out.setT | apply Out.told | apply Out.sendD | apply Out.send | apply Out.superv | apply Out.start | apply Out.stop | apply Out.call | apply Out.anew | apply Out.goOn | apply Out.open1 | apply Out.end1 | apply Out.inquire | apply Out.unsure | apply Out.count | apply Out.ite)));(case l=>decide))
theorem frame_len (x:En) (h:Out x 0) (f:Fr):(x.frame f).2.length<=100000:=by
 unfold En.frame;split
 ·exact Nat.zero_le _
 ·simp only[]
  have h1:=h.inAssigned f;have h2:=h.inConnecting f;have h3:=h.inReleasing f;have h4:=h.inOpen f;show Out _ _
  all_goals ((try dsimp only);apply Out.mono;(case h=>(repeat' (with_reducible first | assumption | apply Out.setFl | apply Out.setState | apply Out.setTries | apply Out.setTei | apply Out.setAsked | apply Out.setUnits | apply Out.setT | apply Out.told | apply Out.sendD | apply Out.send | apply Out.superv | apply Out.start | apply Out.stop | apply Out.call | apply Out.anew | apply Out.goOn | apply Out.open1 | apply Out.end1 | apply Out.inquire | apply Out.unsure | apply Out.count | apply Out.ite)));(case l=>decide))
theorem timeout_len (x:En) (h:Out x 0) (t:Int):(x.timeout t).2.length<=100000:=by
 unfold En.timeout;split
 ·exact Nat.zero_le _
 ·simp only[]
  have hx:Out (x.setT t false) 0:=h.setT t false;have h1:=hx.again 4 ⟨#[71]⟩ 3;have h2:=hx.again 7 ⟨#[72]⟩ 4;show Out _ _
  all_goals ((try dsimp only);apply Out.mono;(case h=>(repeat' (with_reducible first | assumption | apply Out.setFl | apply Out.setState | apply Out.setTries | apply Out.setTei | apply Out.setAsked | apply Out.setUnits | apply Out.setT | apply Out.told | apply Out.sendD | apply Out.send | apply Out.superv | apply Out.start | apply Out.stop | apply Out.call | apply Out.anew | apply Out.goOn | apply Out.open1 | apply Out.end1 | apply Out.inquire | apply Out.unsure | apply Out.count | apply Out.ite)));(case l=>decide))
end Go.Proofs.YtjcldoejpldcmaaGreatDoor
