/- Parts of a proof (Sep, Row, Map). No condition. -/
import Derived.WalkKit
import Derived.Deep.QuietTactic
import Derived.BigQuiet
import Derived.StillTailTactics
import Derived.Deep.RegionHeld3
import Derived.Lib.Hide
import Derived.WalkSpells
import Derived.WalkLawsBesides
import Derived.Deep.Light
import Derived.Deep.DeepCutAuto
import Derived.Deep.DeepFit
import Derived.Deep.CutBlock
import Derived.Maps.RangeWalk
namespace Go.Proofs.YtnnahljdhdippaaGreatDoor
set_option maxRecDepth 100000
set_option maxHeartbeats 6400000
open Go.RowKit
def HP:Type:=(Nat->Option Obj)->Prop
def hdisj (a b:Nat->Option Obj):Prop:=∀ k,a k=none\/b k=none
def hjoin (a b:Nat->Option Obj):Nat->Option Obj:=fun k=>(a k).or (b k)
def HP.star (A B:HP):HP:=fun h=>∃ a b,hdisj a b/\h=hjoin a b/\A a/\B b
instance:Mul HP:=⟨HP.star⟩
def HP.emp:HP:=fun h=>h=fun _=>none
instance:One HP:=⟨HP.emp⟩
def blk (b:Nat) (o:Obj):HP:=fun h=>h=fun k=>if k=b then some o else none
def fact (p:Prop):HP:=fun h=>p/\h=fun _=>none
def hex {α:Sort _} (A:α->HP):HP:=fun h=>∃ x,A x h
def Old (w:World):HP:=fun h=>h=fun k=>w.heap[k]?
theorem hjoin_comm {a b:Nat->Option Obj} (h:hdisj a b):hjoin a b=hjoin b a:=by
 funext k
 unfold hjoin;rcases h k with e | e <;> simp[e]
theorem star_comm (A B:HP):A*B=B*A:=by
 funext h
 apply propext
 constructor
 ·rintro ⟨a,b,d,e,x,y⟩
  exact⟨b,a,fun k=>(d k).symm,by rw[e,hjoin_comm d],y,x⟩
 ·rintro ⟨a,b,d,e,x,y⟩
  exact⟨b,a,fun k=>(d k).symm,by rw[e,hjoin_comm d],y,x⟩
theorem star_assoc (A B C:HP):A*B*C=A*(B*C):=by
 funext h
 apply propext
 constructor
 ·rintro ⟨ab,c,d,e,⟨a,b,d2,e2,x,y⟩,z⟩
  subst e2;refine⟨a,hjoin b c,?_,?_,x,b,c,?_,rfl,y,z⟩
  ·intro k
   have h1:=d k;have h2:=d2 k;unfold hjoin at *;cases ha:a k <;> cases hb:b k <;> cases hc:c k <;> simp_all
  ·rw[e]
   funext k
   unfold hjoin;cases a k <;> simp
  ·intro k
   have h1:=d k;unfold hjoin at h1;cases ha:a k <;> cases hb:b k <;> cases hc:c k <;> simp_all
 ·rintro ⟨a,bc,d,e,x,b,c,d2,e2,y,z⟩
  subst e2;refine⟨hjoin a b,c,?_,?_,⟨a,b,?_,rfl,x,y⟩,z⟩
  ·intro k
   have h1:=d k;have h2:=d2 k;unfold hjoin at *;cases ha:a k <;> cases hb:b k <;> cases hc:c k <;> simp_all
  ·rw[e]
   funext k
   unfold hjoin;cases a k <;> simp
  ·intro k
   have h1:=d k;unfold hjoin at h1;cases ha:a k <;> cases hb:b k <;> cases hc:c k <;> simp_all
instance:Std.Associative (α:=HP) (·*·):=⟨star_assoc⟩
instance:Std.Commutative (α:=HP) (·*·):=⟨star_comm⟩
theorem star_left_comm (A B C:HP):A*(B*C)=B*(A*C):=by rw[← star_assoc,star_comm A B,star_assoc]
theorem one_star (A:HP):1*A=A:=by
 funext h
 apply propext
 constructor
 ·rintro ⟨a,b,d,e,x,y⟩
  have hx:a=fun _=>none:=x
  subst hx;have:h=b:=by rw[e];funext k;simp[hjoin]
  rw[this];exact y
 ·intro x
  exact⟨fun _=>none,h,fun k=>.inl rfl,by funext k;simp[hjoin],rfl,x⟩
theorem star_one (A:HP):A*1=A:=by rw[star_comm,one_star]
theorem star_3 (A B C D:HP):A*(B*(C*D))=C*(A*(B*D)):=by ac_rfl
theorem star_4 (A B C D E:HP):A*(B*(C*(D*E)))=D*(A*(B*(C*E))):=by ac_rfl
theorem star_5 (A B C D E G:HP):A*(B*(C*(D*(E*G))))=E*(A*(B*(C*(D*G)))):=by ac_rfl
structure St (w0 w:World) (A:HP):Prop where
 os:w.os=w0.os
 tape:w.tape=w0.tape
 output:w.output=w0.output
 sat:∃ h,(∀ k o,h k=some o->w.heap[k]?=some o)/\A h
section
variable {w0 w:World} {A B R:HP}
theorem St.start (w:World):St w w (Old w):=⟨rfl,rfl,rfl,_,fun _ _ h=>h,rfl⟩
theorem St.eq (h:St w0 w A) (e:A=B):St w0 w B:=e ▸ h
theorem St.imp (h:St w0 w (A*R)) (hab:∀ h,A h->B h):St w0 w (B*R):=by
 obtain⟨o,t,u,g,hg,a,b,d,e,x,y⟩:=h;exact⟨o,t,u,g,hg,a,b,d,e,hab _ x,y⟩
theorem St.drop (h:St w0 w (A*R)):St w0 w R:=by
 obtain⟨o,t,u,g,hg,a,b,d,e,x,y⟩:=h;refine⟨o,t,u,b,fun k v hv=>hg k v ?_,y⟩
 rw[e];unfold hjoin;rcases d k with hk | hk
 ·simp[hk,hv]
 ·rw[hk] at hv;cases hv
theorem St.ex {α:Sort _} {F:α->HP} (h:St w0 w (hex F*R)):∃ x,St w0 w (F x*R):=by
 obtain⟨o,t,u,g,hg,a,b,d,e,⟨x,hx⟩,y⟩:=h;exact⟨x,o,t,u,g,hg,a,b,d,e,hx,y⟩
theorem St.mk_ex {α:Sort _} {F:α->HP} (x:α) (h:St w0 w (F x*R)):St w0 w (hex F*R) :=
 h.imp fun _ hx=>⟨x,hx⟩
theorem fact_star {p:Prop} (hp:p):fact p*R=R:=by
 have:fact p=1:=by
  funext h
  apply propext
  exact⟨fun x=>x.2,fun x=>⟨hp,x⟩⟩
 rw[this,one_star]
theorem St.out {p:Prop} (h:St w0 w (fact p*R)):p/\St w0 w R:=by
 refine⟨?_,h.drop⟩
 obtain⟨o,t,u,g,hg,a,b,d,e,⟨hp,_⟩,y⟩:=h;exact hp
theorem St.inn {p:Prop} (hp:p) (h:St w0 w R):St w0 w (fact p*R):=by rw[fact_star hp];exact h
theorem St.heap {b:Nat} {o:Obj} (h:St w0 w (blk b o*R)):w.heap[b]?=some o:=by
 obtain⟨_,t,u,g,hg,a,c,d,e,x,y⟩:=h;have hx:a=fun k=>if k=b then some o else none:=x
 refine hg b o ?_
 rw[e];simp[hjoin,hx]
theorem St.lt {b:Nat} {o:Obj} (h:St w0 w (blk b o*R)):b<w.heap.size:=by
 have:=h.heap
 exact (Array.getElem?_eq_some_iff.1 this).1
theorem St.old (h:St w0 w (Old w0*R)):Below w0.heap.size w0 w:=by
 obtain⟨o,t,u,g,hg,a,c,d,e,x,y⟩:=h;have hx:a=fun k=>w0.heap[k]?:=x
 have hb:∀ k,k<w0.heap.size->w.heap[k]?=w0.heap[k]?:=by
  intro k hk;have:w0.heap[k]?=some w0.heap[k]:=Array.getElem?_eq_getElem hk
  rw[this];refine hg k _ ?_
  rw[e];simp[hjoin,hx,this]
 refine⟨o,t,u,?_,hb⟩
 rcases Nat.eq_zero_or_pos w0.heap.size with h0 | h0
 ·omega
 ·have:=hb (w0.heap.size - 1) (by omega)
  rw[Array.getElem?_eq_getElem (show w0.heap.size - 1<w0.heap.size by omega)] at this;have:=(Array.getElem?_eq_some_iff.1 this).1
  omega
theorem St.old0 (h:St w0 w (Old w0)):Below w0.heap.size w0 w:=by
 rw[← star_one (Old w0)] at h;exact h.old
theorem St.ne {b c:Nat} {o p:Obj} (h:St w0 w (blk b o*(blk c p*R))):b≠c:=by
 obtain⟨_,t,u,g,hg,a,m,d,e,x,a2,m2,d2,e2,x2,y⟩:=h;have hx:a=fun k=>if k=b then some o else none:=x
 have hx2:a2=fun k=>if k=c then some p else none:=x2
 rintro rfl;have:=d b
 rw[e2] at this;simp[hx,hx2,hjoin] at this
theorem St.drew (h:St w0 w A):St w0 w.drew A:=⟨h.os,h.tape,h.output,h.sat⟩
theorem St.drewN (h:St w0 w A) (n:Nat):St w0 (w.drewN n) A:=⟨h.os,h.tape,h.output,h.sat⟩
theorem St.alloc (h:St w0 w A) (o:Obj):St w0 (w.alloc o) (blk w.heap.size o*A):=by
 obtain⟨ho,ht,hu,g,hg,x⟩:=h;have hn:∀ k,w.heap.size<=k->g k=none:=by
  intro k hk;cases hgk:g k with
  | none=>rfl
  | some v =>
    have:=(Array.getElem?_eq_some_iff.1 (hg k v hgk)).1
    omega
 refine⟨ho,ht,hu,hjoin (fun k=>if k=w.heap.size then some o else none) g,?_,_,g,?_,rfl,rfl,x⟩
 ·intro k v hv
  show (w.heap.push o)[k]?=some v
  rw[Array.getElem?_push];unfold hjoin at hv;by_cases hk:k=w.heap.size
  ·simp[hk] at hv ⊢;exact hv
  ·simp[hk] at hv ⊢;exact hg k v hv
 ·intro k
  by_cases hk:k=w.heap.size
  ·right;exact hn k (by omega)
  ·left;simp[hk]
theorem St.swap {w':World} {b:Nat} {o o':Obj} (h:St w0 w (blk b o*R)) (e1:w'.os=w.os) (e2:w'.tape=w.tape) (e3:w'.output=w.output)
  (hb:w'.heap[b]?=some o') (hr:∀ k,k≠b->k<w.heap.size->w'.heap[k]?=w.heap[k]?):St w0 w' (blk b o'*R):=by
 obtain⟨ho,ht,hu,g,hg,a,c,d,e,x,y⟩:=h;have hx:a=fun k=>if k=b then some o else none:=x
 refine⟨e1.trans ho,e2.trans ht,e3.trans hu,hjoin (fun k=>if k=b then some o' else none) c,?_,_,c,?_,rfl,rfl,y⟩
 ·intro k v hv
  unfold hjoin at hv;by_cases hk:k=b
  ·simp[hk] at hv;rw[hk,hb,hv]
  ·simp[hk] at hv
   have h1:w.heap[k]?=some v:=by
    refine hg k v ?_
    rw[e];simp[hjoin,hx,hk,hv]
   rw[hr k hk (Array.getElem?_eq_some_iff.1 h1).1,h1]
 ·intro k
  have:=d k
  rw[hx] at this;by_cases hk:k=b
  ·simp[hk] at this ⊢;exact this
  ·left;simp[hk]
theorem heap_setCell_self (w:World) (b i:Nat) (v:Value) (c:Array Value) (t:TypeId) (f:Nat × Nat) (h:w.heap[b]?=some (.cells c t f)) :
  (w.setCell ⟨b,i,none⟩ v).heap[b]?=some (.cells (c.setIfInBounds i v) t f):=by
 have hlt:=(Array.getElem?_eq_some_iff.1 h).1;have h':w.heap[b]=.cells c t f:=(Array.getElem?_eq_some_iff.1 h).2;show (w.heap.modify b _)[b]?=_
 rw[Array.getElem?_eq_getElem (by simpa using hlt),Array.getElem_modify_self,h'];rfl
theorem St.set {b:Nat} {c:Array Value} {t:TypeId} {f:Nat × Nat} (h:St w0 w (blk b (.cells c t f)*R)) (i:Nat) (v:Value) :
  St w0 (w.setCell ⟨b,i,none⟩ v) (blk b (.cells (c.setIfInBounds i v) t f)*R) :=
 h.swap rfl rfl rfl (heap_setCell_self _ _ _ _ _ _ _ h.heap) (fun _ hk _=>Below.heap_setCell _ _ _ _ hk)
theorem St.cell {b:Nat} {c:Array Value} {t:TypeId} {f:Nat × Nat} (h:St w0 w (blk b (.cells c t f)*R)) (i:Nat):w.cell? ⟨b,i,none⟩=c[i]?:=by
 simp[World.cell?,h.heap]
theorem St.free {b:Nat} {c:Array Value} {t:TypeId} (h:St w0 w (blk b (.cells c t (0,0))*R)) (i:Nat):w.frozen? ⟨b,i,none⟩=false:=by
 simp[World.frozen?,h.heap]
theorem St.f2 {A B R:HP} (h:St w0 w (A*(B*R))):St w0 w (B*(A*R)):=h.eq (star_left_comm _ _ _)
theorem St.f3 {A B C R:HP} (h:St w0 w (A*(B*(C*R)))):St w0 w (C*(A*(B*R))):=h.eq (star_3 _ _ _ _)
theorem St.f4 {A B C D R:HP} (h:St w0 w (A*(B*(C*(D*R))))):St w0 w (D*(A*(B*(C*R)))):=h.eq (star_4 _ _ _ _ _)
theorem St.f5 {A B C D E R:HP} (h:St w0 w (A*(B*(C*(D*(E*R)))))):St w0 w (E*(A*(B*(C*(D*R))))):=h.eq (star_5 _ _ _ _ _ _)
theorem St.b3 {A B C R:HP} (h:St w0 w (A*(B*(C*R)))):St w0 w (B*(C*(A*R))):=h.eq (by ac_rfl)
theorem St.b4 {A B C D R:HP} (h:St w0 w (A*(B*(C*(D*R))))):St w0 w (B*(C*(D*(A*R)))):=h.eq (by ac_rfl)
theorem St.b5 {A B C D E R:HP} (h:St w0 w (A*(B*(C*(D*(E*R)))))):St w0 w (B*(C*(D*(E*(A*R))))):=h.eq (by ac_rfl)
theorem St.m2 {A B C R:HP} (h:St w0 w (A*(B*(C*R)))):St w0 w (A*(C*(B*R))):=h.eq (by ac_rfl)
end
theorem sl {α:Type}:(∀ (l:List α) (i:Nat) (a:α),l.toArray.setIfInBounds i a=(l.set i a).toArray)/\(∀ (x:α) (l:List α) (a:α),(x :: l).set 0 a=a :: l)/\∀ (x:α) (l:List α) (i:Nat) (a:α),(x :: l).set (i+1) a=x :: l.set i a:=⟨fun _ _ _=>by simp,fun _ _ _=>rfl,fun _ _ _ _=>rfl⟩
theorem tk {P:Program} {ops:Array Oper} {Q:Exit->Act->World->Prop} {md:Region.Mode} {S:World->Prop} (i:Nat) (v:Value) {d:Option Tmp} {o:Op} {t:TypeId} {p:String} {e:Array Edge} {g:Option (Nat × Bool)} {fuel:Nat} {listed:Array Bool} {a:Act} {w:World} (hi:ops[i]?=some ⟨d,o,t,p,e,g⟩)
  (hv:∀ w,S w->(execOp a.eval ⟨d,o,t,p,e,g⟩).run P w=.ok (.value v) w) (h:wpAnyH P md ops Q S fuel (listed.setIfInBounds i true) (a.put d v) w)
  (hb:(Region.noSelect ops && (Region.free md ops listed i && (Region.ready md ops listed).contains i))=true:=by kernel_rfl) (hw:Region.wanted ⟨d,o,t,p,e,g⟩ (yielded ops a.tmps)=true:=by rfl) (hQ:∀ c a w,Q (.panic c) (a.put d v) w->Q (.panic c) a w:=by exact fun _ _ _ h=>h) (hS:S w:=by assumption) :
  wpAnyH P md ops Q S (fuel+1) listed a w:=by
 simp only[Bool.and_eq_true] at hb;exact wpAnyH_take hi hb.1 hb.2.1 hb.2.2 hQ (.inl ⟨hw,hv⟩) hS h
theorem rd {P:Program} {ops:Array Oper} {Q:Exit->Act->World->Prop} {md:Region.Mode} {S:World->Prop} (i:Nat) {d:Option Tmp} {o:Op} {t:TypeId} {p:String} {e:Array Edge} {g:Option (Nat × Bool)} {fuel:Nat} {listed:Array Bool} {a:Act} {w:World} (hi:ops[i]?=some ⟨d,o,t,p,e,g⟩)
  (h:∀ K':Act->World->Prop,Shut (∀ a w,S w->(S w->wpAnyH P md ops Q S fuel (listed.setIfInBounds i true) a w)->K' a w)->if Region.wanted ⟨d,o,t,p,e,g⟩ (yielded ops a.tmps)=true then Oper.wp P ⟨d,o,t,p,e,g⟩ a w K' Q else K' (a.put d undef) w)
  (hr:Region.ready md ops listed=[i]:=by kernel_rfl):wpAnyH P md ops Q S (fuel+1) listed a w:=wpAnyH_ready hr (by simp) (AllReadyH.cons hi h AllReadyH.nil)
def Row (E:TypeId) (sz:Nat) (v:Value) (n:Nat) (xs:List Value):HP:=fun h =>
 xs.length=n*sz /\
 ((∃ a,v=.slice a 0 0/\n=0/\h=fun _=>none) \/
  ∃ g off cap,∃ cur:Array Value,v=.slice (some ⟨g,off,none⟩) n cap/\n<=cap/\cap<=maxLen/\off+cap*sz<=cur.size /\
   (∀ j,j<n*sz->cur[off+j]?=xs[j]?)/\blk g (.cells cur E (0,0)) h)
section
variable {P:Program} {w0 w:World} {R:HP} {E:TypeId} {sz n:Nat} {v:Value} {xs:List Value}
theorem add_none (b o j:Nat):(⟨b,o,none⟩:Addr).add j=⟨b,o+j,none⟩:=by unfold Addr.add;split <;> simp_all
theorem St.row_len (h:St w0 w (Row E sz v n xs*R)):xs.length=n*sz:=by
 obtain⟨_,_,_,g,hg,a,b,d,e,⟨x,_⟩,y⟩:=h;exact x
theorem St.row (h:St w0 w (Row E sz v n xs*R)):(∃ a,v=.slice a 0 0/\n=0/\xs=[]/\St w0 w R) \/
  ∃ g off cap,∃ cur:Array Value,v=.slice (some ⟨g,off,none⟩) n cap/\n<=cap/\cap<=maxLen/\off+cap*sz<=cur.size /\
   (∀ j,j<n*sz->cur[off+j]?=xs[j]?)/\St w0 w (blk g (.cells cur E (0,0))*R):=by
 obtain⟨o,t,u,gg,hg,a,b,d,e,⟨hl,hx⟩,y⟩:=h;rcases hx with ⟨a0,hv,hn,ha⟩ | ⟨g,off,cap,cur,hv,h1,h2,h3,h4,hb⟩
 ·left
  subst hn;refine⟨a0,hv,rfl,List.eq_nil_of_length_eq_zero (by simpa using hl),o,t,u,gg,hg,?_⟩
  have:gg=b:=by rw[e];funext k;simp[hjoin,ha]
  rw[this];exact y
 ·right
  exact⟨g,off,cap,cur,hv,h1,h2,h3,h4,o,t,u,gg,hg,a,b,d,e,hb,y⟩
theorem St.row_shape (h:St w0 w (Row E sz v n xs*R)):∃ a cap,v=.slice a n cap/\n<=cap/\cap<=maxLen:=by
 rcases h.row with ⟨a,rfl,rfl,_⟩ | ⟨g,off,cap,cur,rfl,h1,h2,_⟩
 ·exact⟨a,0,rfl,Nat.le_refl _,Nat.zero_le _⟩
 ·exact⟨_,cap,rfl,h1,h2⟩
theorem St.row_nil (E:TypeId) (sz:Nat) (h:St w0 w R) (a:Option Addr:=none):St w0 w (Row E sz (.slice a 0 0) 0 []*R):=by
 have h':St w0 w (1*R):=by rw[one_star];exact h
 exact h'.imp fun g hg=>⟨by simp,.inl ⟨a,rfl,rfl,hg⟩⟩
theorem St.row_mk {g off cap:Nat} {cur:Array Value} (h:St w0 w (blk g (.cells cur E (0,0))*R)) (hl:xs.length=n*sz) (h1:n<=cap) (h2:cap<=maxLen) (h3:off+cap*sz<=cur.size)
  (h4:∀ j,j<n*sz->cur[off+j]?=xs[j]?):St w0 w (Row E sz (.slice (some ⟨g,off,none⟩) n cap) n xs*R) :=
 h.imp fun _ hb=>⟨hl,.inr ⟨g,off,cap,cur,rfl,h1,h2,h3,h4,hb⟩⟩
theorem St.row_cell {g off cap n':Nat} (h:St w0 w (Row E sz (.slice (some ⟨g,off,none⟩) n' cap) n xs*R)) (j:Nat) (hj:j<n*sz):w.cell? ⟨g,off+j,none⟩=xs[j]?:=by
 rcases h.row with ⟨a0,hv,rfl,_⟩ | ⟨g',off',cap',cur,hv,h1,h2,h3,h4,hs⟩
 ·simp at hj
 ·simp only[Value.slice.injEq,Option.some.injEq,Addr.mk.injEq] at hv
  obtain⟨⟨rfl,rfl,_⟩,rfl,rfl⟩:=hv;rw[hs.cell,h4 j hj]
theorem setRow_heap_self (w:World) (g:Nat) (cur new:Array Value) (t:TypeId) (f:Nat × Nat) (h:w.heap[g]?=some (.cells cur t f)):(w.setRow g new).heap[g]?=some (.cells new t f):=setRow_heap w g cur new t f h
theorem St.row_off {B:HP} (h:St w0 w (B*(Row E sz v n xs*R))) (a:Option Addr:=none):St w0 w (B*(Row E sz (.slice a 0 0) 0 []*R)) :=
 (((h.eq (star_left_comm _ _ _)).drop).row_nil E sz a).eq (star_left_comm _ _ _)
theorem St.row_from {a:Option Addr} {cap:Nat} (h:St w0 w (Row E 1 (.slice a n cap) n xs*R)) (k:Nat) (hk:k<n) :
  St w0 w (Row E 1 (.slice (a.map (fun x=>x.add k)) (n - k) (n - k)) (n - k) (xs.drop k)*R):=by
 have hl:=h.row_len;rcases h.row with ⟨a0,hv,rfl,rfl,hs⟩ | ⟨g,off,cap',cur,hv,h1,h2,h3,h4,hs⟩
 ·omega
 ·simp only[Value.slice.injEq] at hv
  obtain⟨rfl,_,rfl⟩:=hv;simp only[Nat.mul_one] at *;simp only[Option.map_some,add_none];refine St.row_mk hs (by simp;omega) (Nat.le_refl _) (by omega) (by omega) (fun j hj=>?_)
  rw[Nat.add_assoc,h4 _ (by omega),List.getElem?_drop]
theorem one_new (w:World) (n:Nat) (v:Value) (t:TypeId) (hn:n=w.heap.size):∀ (j:Nat) (u:Value),[v][j]?=some u->(w.alloc (.cells #[v] t)).cell? ((⟨n,0,none⟩:Addr).add j)=some u:=by
 intro j u hj;match j,hj with
 | 0,hj =>
   simp at hj
   subst hj hn;simp[Addr.add]
theorem St.append {t ty:TypeId} {i:TypeInfo} {z:Value} {bytes:Nat} (h:St w0 w (Row E sz v n xs*R)) (ht:P.underlying t=some (.slice E)) (hi:P.info? E=some i) (hz:i.zero=some z)
  (hsize:i.size=sz) (hby:i.bytes=bytes) (hzs:z.cells.size=sz) (hsz:0<sz)
  (a:Addr) (m c:Nat) (news:List Value) (hm:0<m) (hl:news.length=m*sz) (hnews:∀ j u,news[j]?=some u->w.cell? (a.add j)=some u) (h1:∀ u ∈ news,u.oneCell'=true)
  (h63:n+m<=maxLen) (hbytes:(n+m)*bytes<=140737488355328) :
  ∃ v' w',(Builtin.append_ #[t,t] ty #[v,.slice (some a) m c]).run P w=.ok v' w'/\St w0 w' (Row E sz v' (n+m) (xs++news)*R)/\∃ g off cap,v'=.slice (some ⟨g,off,none⟩) (n+m) cap:=by
 subst hsize;subst hby;have hsmall:n+m<=9223372036854775807:=by simp only[maxLen] at h63;omega
 have hlx:=h.row_len;have hlen:(xs++news).length=(n+m)*i.size:=by rw[List.length_append,hlx,hl,Nat.add_mul]
 have grown:∀ (old:Nat),old<n+m ->
   St w0 (w.drew.alloc (.cells (xs.toArray++news.toArray++Builtin.zeroCells z.cells (grownCap w (n+m) old E - (n+m))) E))
    (Row E i.size (.slice (some ⟨w.heap.size,0,none⟩) (n+m) (grownCap w (n+m) old E)) (n+m) (xs++news)*R):=by
  intro old ho;have hge:=grownCap_ge w (n+m) old E;have hcm:grownCap w (n+m) old E<=maxLen:=grownCap_le_maxLen w (n+m) old E h63;have hs:=(h.drop.drew.alloc (.cells (xs.toArray++news.toArray++Builtin.zeroCells z.cells (grownCap w (n+m) old E - (n+m))) E));refine St.row_mk hs hlen hge hcm ?_ ?_
  ·simp only[Array.size_append,List.size_toArray,size_zeroCells,hzs,hlx,hl,← Nat.add_mul,Nat.zero_add]
   exact Nat.le_of_eq (congrArg (·*i.size) (by omega))
  ·intro j hj
   rw[Nat.zero_add,Array.getElem?_append_left (by simp only[Array.size_append,List.size_toArray];rw[← List.length_append,hlen];exact hj)];rw[List.append_toArray,List.getElem?_toArray]
 rcases h.row with ⟨a0,rfl,rfl,rfl,hs⟩ | ⟨g,off,cap,cur,rfl,hnc,hcm,hcs,hcell,hs⟩
 ·cases a0 with
  | some b =>
    have hr:=run_append_grow (P:=P) w t ty E i z ht hi hz b 0 0 [] (by simp) (by intro j u hu;simp at hu) a m c news hl hnews (by omega) (by omega) (growslice_fits (by omega) hbytes);exact⟨_,_,hr,grown 0 (by omega),_,_,_,rfl⟩
  | none =>
  have hr:=run_append_nil (P:=P) w t ty E i z ht hi hz a m c news hl hnews (by omega) (by omega) (by have hb:=hbytes;simp only[Nat.zero_add] at hb;omega);have hgr:=grown 0 (by omega);simp only[Nat.zero_add,List.nil_append,Array.empty_append] at hgr ⊢;exact⟨_,_,hr,hgr,_,_,_,rfl⟩
 ·by_cases hroom:n+m<=cap
  ·have hfit:off+n*i.size+news.length<=cur.size:=by
    have:(n+m)*i.size<=cap*i.size:=Nat.mul_le_mul_right _ hroom
    rw[Nat.add_mul] at this;omega
   have hf:=run_firstCells_some (P:=P) w i.size m a m c news hl hnews;have hst:=run_storeCells_at P g (off+n*i.size) E news 0 cur w hs.heap (by simpa using hfit) h1;simp only[Nat.add_zero] at hst;have hadd:(⟨g,off,none⟩:Addr).add (n*i.size)=⟨g,off+n*i.size,none⟩:=add_none _ _ _;refine⟨.slice (some ⟨g,off,none⟩) (n+m) cap,w.setRow g (cur.toList.take (off+n*i.size)++news++cur.toList.drop (off+n*i.size+news.length)).toArray,?_,?_,_,_,_,rfl⟩
   ·simp[Builtin.append_,run_underlying ht,sizeOf,typeInfo,hi,Builtin.lenOf,hroom,hf,hadd,hst]
   ·have hs2:St w0 (w.setRow g (cur.toList.take (off+n*i.size)++news++cur.toList.drop (off+n*i.size+news.length)).toArray)
      (blk g (.cells (cur.toList.take (off+n*i.size)++news++cur.toList.drop (off+n*i.size+news.length)).toArray E (0,0))*R) :=
     hs.swap rfl rfl rfl (setRow_heap_self _ _ _ _ _ _ hs.heap) (fun k hk _=>setRow_other w g k _ hk)
    refine St.row_mk hs2 hlen hroom hcm ?_ ?_
    ·simp only[List.size_toArray,List.length_append,List.length_take,List.length_drop,Array.length_toList]
     omega
    ·intro j hj
     rw[List.getElem?_toArray];have htk:(cur.toList.take (off+n*i.size)).length=off+n*i.size:=by simp;omega
     by_cases hjn:j<n*i.size
     ·rw[List.append_assoc,List.getElem?_append_left (by rw[htk];omega),List.getElem?_take,if_pos (by omega),Array.getElem?_toList,hcell j hjn,List.getElem?_append_left (by omega)]
     ·rw[Nat.add_mul] at hj
      rw[List.append_assoc,List.getElem?_append_right (by rw[htk];omega),htk,List.getElem?_append_left (by omega),List.getElem?_append_right (by omega)];congr 1
      omega
  ·have holds:∀ j u,xs[j]?=some u->w.cell? ((⟨g,off,none⟩:Addr).add j)=some u:=by
    intro j u hu;have hj:j<n*i.size:=by
     have:=(List.getElem?_eq_some_iff.1 hu).1
     omega
    rw[add_none,hs.cell,hcell j hj,hu]
   have hr:=run_append_grow (P:=P) w t ty E i z ht hi hz ⟨g,off,none⟩ n cap xs hlx holds a m c news hl hnews (by omega) (by omega) (growslice_fits (by omega) hbytes);exact⟨_,_,hr,grown cap (by omega),_,_,_,rfl⟩
theorem wp_append_row {o:Oper} {a:Act} {K:Act->World->Prop} {Q:Exit->Act->World->Prop} (s x:Operand) (t:TypeId)
  (ho:o.op=.call { callee:=.builtin .append,args:=#[s,x],argTypes:=#[t,t] })
  {i:TypeInfo} {z:Value} {bytes:Nat} (h:St w0 w (Row E sz v n xs*R)) (ht:P.underlying t=some (.slice E)) (hi:P.info? E=some i) (hz:i.zero=some z)
  (hsize:i.size=sz) (hby:i.bytes=bytes) (hzs:z.cells.size=sz) (hsz:0<sz)
  (hs:a.eval s=v) (ad:Addr) (m c:Nat) (news:List Value) (hx:a.eval x=.slice (some ad) m c) (hm:0<m) (hl:news.length=m*sz)
  (hnews:∀ j u,news[j]?=some u->w.cell? (ad.add j)=some u) (h1:∀ u ∈ news,u.oneCell'=true)
  (h63:n+m<=maxLen) (hbytes:(n+m)*bytes<=140737488355328)
  (hk:∀ g off cap w',St w0 w' (Row E sz (.slice (some ⟨g,off,none⟩) (n+m) cap) (n+m) (xs++news)*R)->K (a.put o.dst (.slice (some ⟨g,off,none⟩) (n+m) cap)) w'):o.wp P a w K Q:=by
 obtain⟨v',w',hr,h2,g,off,cap,rfl⟩:=h.append (P:=P) (ty:=o.type) ht hi hz hsize hby hzs hsz ad m c news hm hl hnews h1 h63 hbytes;unfold Oper.wp execOp;simp only[ho,resolve,invoke,builtin,Sem.run_bind,Sem.run_pure,Result.andThen_ok,List.map_toArray,List.map_cons,List.map_nil,hs,hx,hr];exact hk g off cap w' h2
theorem wpList_append_row {ops:Array Oper} {rest:List Oper} {o:Oper} {a:Act} {Q:Exit->Act->World->Prop} (hgd:o.guard=none) (s x:Operand) (t:TypeId)
  (ho:o.op=.call { callee:=.builtin .append,args:=#[s,x],argTypes:=#[t,t] })
  {i:TypeInfo} {z:Value} {bytes:Nat} (h:St w0 w (Row E sz v n xs*R)) (ht:P.underlying t=some (.slice E)) (hi:P.info? E=some i) (hz:i.zero=some z)
  (hsize:i.size=sz) (hby:i.bytes=bytes) (hzs:z.cells.size=sz) (hsz:0<sz)
  (hs:a.eval s=v) (ad:Addr) (m c:Nat) (news:List Value) (hx:a.eval x=.slice (some ad) m c) (hm:0<m) (hl:news.length=m*sz)
  (hnews:∀ j u,news[j]?=some u->w.cell? (ad.add j)=some u) (h1:∀ u ∈ news,u.oneCell'=true)
  (h63:n+m<=maxLen) (hbytes:(n+m)*bytes<=140737488355328)
  (hk:∀ g off cap w',St w0 w' (Row E sz (.slice (some ⟨g,off,none⟩) (n+m) cap) (n+m) (xs++news)*R)->wpList P ops Q rest (a.put o.dst (.slice (some ⟨g,off,none⟩) (n+m) cap)) w'):wpList P ops Q (o :: rest) a w :=
 wpList_plain hgd fun _ hK=>wp_append_row s x t ho h ht hi hz hsize hby hzs hsz hs ad m c news hx hm hl hnews h1 h63 hbytes fun g off cap w' h2=>hK _ _ (hk g off cap w' h2)
end
open Go.ChangeMaps (setBlock)
open Go.MapKept (Stamped)
open Go.Maps (Keyed)
section
variable {α β:Type}
structure KD (α:Type) where
 kv:α->Value
 ok:α->Prop
 inj:∀ a b,kv a=kv b->a=b
def MIs (k:KD α) (vv:β->Value) (l:List (α × β)) (es:Array MapEntry) (clock:Nat):Prop :=
 es.toList.map (fun e=>(e.key,e.val))=l.map (fun p=>(k.kv p.1,vv p.2))/\Stamped es clock
def MAt (k:KD α) (vv:β->Value) (b:Nat) (l:List (α × β)):HP:=fun h=>(∀ p ∈ l,k.ok p.1)/\∃ es clock,MIs k vv l es clock/\blk b (.map es clock) h
def RAt (k:KD α) (vv:β->Value) (b r:Nat) (l:List (α × β)) (left:List α):HP:=fun h=>(∀ p ∈ l,k.ok p.1)/\∃ es clock since seen c0,MIs k vv l es clock /\
 left.map k.kv=(leftOf es seen).toList.map (·.key)/\(∀ x ∈ es.toList,x.born<since)/\since<=c0/\since<=clock/\(blk b (.map es clock)*blk r (.mapIter (some b) since seen c0)) h
structure MTy (P:Program) (t K E:TypeId) (k:KD α):Prop where
 ht:P.underlying t=some (.map K E)
 law:Keyed P K
 reads:∀ a,k.ok a->∃ l,keyOf P K (k.kv a)=some l
variable [DecidableEq α]
def mlook:List (α × β)->α->Option β
 | [],_=>none
 | p :: l,k=>if p.1=k then some p.2 else mlook l k
def mput:List (α × β)->α->β->List (α × β)
 | [],k,v=>[(k,v)]
 | p :: l,k,v=>if p.1=k then (k,v) :: l else p :: mput l k v
def mdel:List (α × β)->α->List (α × β)
 | [],_=>[]
 | p :: l,k=>if p.1=k then l else p :: mdel l k
theorem mlook_none {k:α}:∀ {l:List (α × β)},(∀ p ∈ l,p.1≠k)->mlook l k=none
 | [],_=>rfl
 | p :: l,h=>by simp only[mlook,if_neg (h p (by simp))];exact mlook_none fun q hq=>h q (by simp[hq])
theorem mput_new {k:α} {v:β}:∀ {l:List (α × β)},(∀ p ∈ l,p.1≠k)->mput l k v=l++[(k,v)]
 | [],_=>rfl
 | p :: l,h=>by simp only[mput,if_neg (h p (by simp)),List.cons_append];rw[mput_new fun q hq=>h q (by simp[hq])]
theorem mdel_new {k:α}:∀ {l:List (α × β)},(∀ p ∈ l,p.1≠k)->mdel l k=l
 | [],_=>rfl
 | p :: l,h=>by simp only[mdel,if_neg (h p (by simp))];rw[mdel_new fun q hq=>h q (by simp[hq])]
omit [DecidableEq α] in
theorem key_ne {k:α} {u:β} {j:Nat} {p:α × β} {l:List (α × β)} (hn:((p :: l).map (·.1)).Nodup) (h:(p :: l)[j+1]?=some (k,u)):p.1≠k:=by
 simp only[List.map_cons,List.nodup_cons] at hn;rintro rfl;exact hn.1 (List.mem_map.2 ⟨_,List.mem_of_getElem? h,rfl⟩)
theorem mlook_at {k:α} {u:β}:∀ {j:Nat} {l:List (α × β)},(l.map (·.1)).Nodup->l[j]?=some (k,u)->mlook l k=some u
 | _,[],_,h=>by simp at h
 | 0,p :: l,_,h=>by simp at h;simp[mlook,h]
 | j+1,p :: l,hn,h=>by
   simp only[mlook,if_neg (key_ne hn h)];exact mlook_at (by simp at hn;simpa using hn.2) (by simpa using h)
theorem mput_at {k:α} {u v:β}:∀ {j:Nat} {l:List (α × β)},(l.map (·.1)).Nodup->l[j]?=some (k,u)->mput l k v=l.set j (k,v)
 | _,[],_,h=>by simp at h
 | 0,p :: l,_,h=>by simp at h;simp[mput,h]
 | j+1,p :: l,hn,h=>by
   simp only[mput,if_neg (key_ne hn h),List.set_cons_succ];rw[mput_at (by simp at hn;simpa using hn.2) (by simpa using h)]
theorem mdel_at {k:α} {u:β}:∀ {j:Nat} {l:List (α × β)},(l.map (·.1)).Nodup->l[j]?=some (k,u)->mdel l k=l.eraseIdx j
 | _,[],_,h=>by simp at h
 | 0,p :: l,_,h=>by simp at h;simp[mdel,h]
 | j+1,p :: l,hn,h=>by
   simp only[mdel,if_neg (key_ne hn h),List.eraseIdx_cons_succ];rw[mdel_at (by simp at hn;simpa using hn.2) (by simpa using h)]
variable {kd:KD α} {vv:β->Value} {l:List (α × β)} {es:Array MapEntry} {clock:Nat}
omit [DecidableEq α] in
theorem MIs.keys (h:MIs kd vv l es clock):es.toList.map (·.key)=l.map (fun p=>kd.kv p.1):=by
 have:=congrArg (List.map (·.1)) h.1
 simpa[List.map_map,Function.comp_def] using this
omit [DecidableEq α] in
theorem MIs.nodup (h:MIs kd vv l es clock):(l.map (·.1)).Nodup:=by
 have h1:=h.2.2.2;rw[h.keys] at h1;have h2:(l.map fun p=>kd.kv p.1)=(l.map (·.1)).map kd.kv:=by simp[List.map_map,Function.comp_def]
 rw[h2] at h1;exact List.Pairwise.of_map kd.kv (fun a b hne e=>hne (congrArg _ e)) h1
omit [DecidableEq α] in
theorem MIs.size (h:MIs kd vv l es clock):es.size=l.length:=by
 have:=congrArg List.length h.1
 simpa using this
omit [DecidableEq α] in
theorem MIs.at {j:Nat} {e:MapEntry} (h:MIs kd vv l es clock) (hj:es.toList[j]?=some e):∃ p,l[j]?=some p/\e.key=kd.kv p.1/\e.val=vv p.2:=by
 have h1:=congrArg (fun l:List (Value × Value)=>l[j]?) h.1;simp only[List.getElem?_map,hj,Option.map_some] at h1;cases hl:l[j]? with
 | none=>rw[hl] at h1;cases h1
 | some p=>rw[hl] at h1;simp at h1;exact⟨p,rfl,h1.1,h1.2⟩
omit [DecidableEq α] in
theorem MIs.apart {k:α} (h:MIs kd vv l es clock) (hk:∀ e ∈ es.toList,e.key≠kd.kv k):∀ p ∈ l,p.1≠k:=by
 rintro p hp rfl;have:kd.kv p.1 ∈ es.toList.map (·.key):=by rw[h.keys];exact List.mem_map.2 ⟨p,hp,rfl⟩
 obtain⟨e,he,hek⟩:=List.mem_map.1 this;exact hk e he hek
omit [DecidableEq α] in
theorem MIs.reads {P:Program} {t K E:TypeId} (T:MTy P t K E kd) (h:MIs kd vv l es clock) (hok:∀ p ∈ l,kd.ok p.1):∀ e ∈ es.toList,∃ x,keyOf P K e.key=some x:=by
 intro e he;have:e.key ∈ es.toList.map (·.key):=List.mem_map.2 ⟨e,he,rfl⟩
 rw[h.keys] at this;obtain⟨p,hp,hpe⟩:=List.mem_map.1 this;rw[← hpe];exact T.reads _ (hok p hp)
omit [DecidableEq α] in
theorem MIs.find {P:Program} {t K E:TypeId} (T:MTy P t K E kd) (h:MIs kd vv l es clock) (hok:∀ p ∈ l,kd.ok p.1) (k:α) (hk:kd.ok k) (w:World) :
  ((Instr.findKey K (kd.kv k) es.toList).run P w=.ok none w/\(∀ e ∈ es.toList,e.key≠kd.kv k)/\∀ p ∈ l,p.1≠k) \/
  ∃ j e v,(Instr.findKey K (kd.kv k) es.toList).run P w=.ok (some (j,e.val)) w/\es[j]?=some e/\e.key=kd.kv k/\e.val=vv v/\l[j]?=some (k,v):=by
 obtain⟨x,hx⟩:=T.reads k hk;rcases T.law.find w hx es.toList (h.reads T hok) with ⟨h1,h2⟩ | ⟨j,e,h1,h2,h3⟩
 ·exact .inl ⟨h1,h2,h.apart h2⟩
 ·obtain⟨p,hp,hk',hv⟩:=h.at h2
  have:p.1=k:=kd.inj _ _ (hk'.symm.trans h3)
  exact .inr ⟨j,e,p.2,h1,by simpa using h2,h3,hv,by rw[hp,← this]⟩
variable {w0 w:World} {R:HP} {b:Nat}
theorem St.setBlock {o o':Obj} (h:St w0 w (blk b o*R)):St w0 (setBlock w b o') (blk b o'*R) :=
 h.swap rfl rfl rfl (by have:=h.lt;simp[ChangeMaps.setBlock,this]) (fun k hk _=>by simp[ChangeMaps.setBlock,Ne.symm hk])
omit [DecidableEq α] in
theorem St.map (h:St w0 w (MAt kd vv b l*R)):(∀ p ∈ l,kd.ok p.1)/\∃ es clock,MIs kd vv l es clock/\St w0 w (blk b (.map es clock)*R):=by
 obtain⟨o,t,u,gg,hg,a,c,d,e,⟨h1,es,clock,h2,h3⟩,y⟩:=h;exact⟨h1,es,clock,h2,o,t,u,gg,hg,a,c,d,e,h3,y⟩
omit [DecidableEq α] in
theorem St.map_mk {es:Array MapEntry} {clock:Nat} (h:St w0 w (blk b (.map es clock)*R)) (hok:∀ p ∈ l,kd.ok p.1) (hm:MIs kd vv l es clock):St w0 w (MAt kd vv b l*R) :=
 h.imp fun _ hb=>⟨hok,es,clock,hm,hb⟩
omit [DecidableEq α] in
theorem St.map_nodup (h:St w0 w (MAt kd vv b l*R)):(l.map (·.1)).Nodup:=by
 obtain⟨_,es,clock,hm,_⟩:=h.map;exact hm.nodup
omit [DecidableEq α] in
theorem St.map_new (kd:KD α) (vv:β->Value) (h:St w0 w R):St w0 (w.alloc (.map #[] 0)) (MAt kd vv w.heap.size []*R) :=
 (h.alloc (.map #[] 0)).map_mk (by simp) ⟨by simp,MapKept.stamped_empty 0⟩
variable {P:Program} {t K E:TypeId}
theorem St.map_look (T:MTy P t K E kd) (h:St w0 w (MAt kd vv b l*R)) (k:α) (hk:kd.ok k) {z:Value} (hz:(zeroValue E).run P w=.ok z w) (c:Bool) :
  (Instr.lookup t (.map (some b)) (kd.kv k) c).run P w=.ok (if c then .tuple #[((mlook l k).map vv).getD z,.bool (mlook l k).isSome] else ((mlook l k).map vv).getD z) w:=by
 obtain⟨hok,es,clock,hm,hs⟩:=h.map;have hb:=hs.heap;obtain⟨x,hx⟩:=T.reads k hk;rcases hm.find T hok k hk w with ⟨h1,h2,h3⟩ | ⟨j,e,v,h1,h2,h3,h4,h5⟩
 ·rw[mlook_none h3]
  simp[Instr.lookup,run_underlying T.ht,MapKept.run_getObj_map hb,T.law.check w _ hx,h1,hz,Result.andThen]
 ·rw[mlook_at hm.nodup h5]
  simp[Instr.lookup,run_underlying T.ht,MapKept.run_getObj_map hb,T.law.check w _ hx,h1,h4,Result.andThen]
theorem St.map_put (T:MTy P t K E kd) (h:St w0 w (MAt kd vv b l*R)) (k:α) (hk:kd.ok k) (v:β) :
  ∃ w',(Instr.mapUpdate t (.map (some b)) (kd.kv k) (vv v)).run P w=.ok () w'/\St w0 w' (MAt kd vv b (mput l k v)*R):=by
 obtain⟨hok,es,clock,hm,hs⟩:=h.map;have hb:=hs.heap;obtain⟨x,hx⟩:=T.reads k hk;have hok':∀ p ∈ mput l k v,kd.ok p.1:=by
  intro p hp;have:p ∈ l\/p=(k,v):=by
   clear hm hok h;induction l with
   | nil=>simp[mput] at hp;exact .inr hp
   | cons q l ih =>
     unfold mput at hp;split at hp
     ·simp at hp;rcases hp with hp | hp
      ·exact .inr hp
      ·exact .inl (by simp[hp])
     ·simp at hp;rcases hp with hp | hp
      ·exact .inl (by simp[hp])
      ·rcases ih hp with h | h
       ·exact .inl (by simp[h])
       ·exact .inr h
  rcases this with hp | rfl
  ·exact hok p hp
  ·exact hk
 rcases hm.find T hok k hk w with ⟨h1,h2,h3⟩ | ⟨j,e,u,h1,h2,h3,h4,h5⟩
 ·refine⟨_,by simp[Instr.mapUpdate,run_underlying T.ht,MapKept.run_getObj_map hb,T.law.check w false hx,h1,MapKept.run_setObj_map _ hb,Result.andThen];rfl,?_⟩
  refine (hs.setBlock (o':=.map (es.push ⟨kd.kv k,vv v,clock⟩) (clock+1))).map_mk hok' ⟨?_,MapKept.stamped_push hm.2 h2⟩
  rw[mput_new h3,Array.toList_push,List.map_append,hm.1];simp
 ·have h2':es.toList[j]?=some e:=by simpa using h2
  refine⟨_,by simp[Instr.mapUpdate,run_underlying T.ht,MapKept.run_getObj_map hb,T.law.check w false hx,h1,h2,h3,T.law.stays w hx,MapKept.run_setObj_map _ hb,Result.andThen];rfl,?_⟩
  refine (hs.setBlock (o':=.map (es.modify j fun e=>{ e with key:=kd.kv k,val:=vv v }) clock)).map_mk hok' ⟨?_,MapKept.stamped_modify hm.2 _ _ (fun _ _=>rfl) (fun e' _ he'=>by rw[h2] at he';cases he';exact h3.symm)⟩
  rw[mput_at hm.nodup h5,Array.toList_modify,ChangeMaps.modify_eq_set _ _ _ _ h2',List.map_set,hm.1,List.map_set]
theorem mdel_sub {k:α} {p:α × β}:∀ {l:List (α × β)},p ∈ mdel l k->p ∈ l
 | q :: l,hp=>by
   unfold mdel at hp;split at hp
   ·simp[hp]
   ·simp at hp;rcases hp with hp | hp
    ·simp[hp]
    ·simp[mdel_sub hp]
open Classical in
theorem MIs.del (T:MTy P t K E kd) (h:MIs kd vv l es clock) (hok:∀ p ∈ l,kd.ok p.1) (k:α) (hk:kd.ok k) (hb:w.heap[b]?=some (.map es clock)) (ty:TypeId) :
  ∃ es',(Builtin.delete_ #[t,K] ty #[.map (some b),kd.kv k]).run P w=.ok (.tuple #[]) (ChangeMaps.setBlock w b (.map es' clock))/\MIs kd vv (mdel l k) es' clock /\
   es'.toList=es.toList.filter (fun e=>decide (e.key≠kd.kv k)):=by
 obtain⟨x,hx⟩:=T.reads k hk;rcases h.find T hok k hk w with ⟨h1,h2,h3⟩ | ⟨j,e,u,h1,h2,h3,h4,h5⟩
 ·refine⟨es,by simp[Builtin.delete_,run_underlying T.ht,MapKept.run_getObj_map hb,T.law.check w _ hx,h1,MapKept.run_setObj_map _ hb,Result.andThen,ChangeMaps.setBlock],by rw[mdel_new h3];exact h,?_⟩
  rw[eq_comm,List.filter_eq_self];exact fun e he=>by simpa using h2 e he
 ·have h2':es.toList[j]?=some e:=by simpa using h2
  have hjs:j<es.size:=(Array.getElem?_eq_some_iff.1 h2).1;have hsub:(es.eraseIdxIfInBounds j).toList=es.toList.eraseIdx j:=by
   unfold Array.eraseIdxIfInBounds;rw[dif_pos hjs];simp
  refine⟨es.eraseIdxIfInBounds j,by simp[Builtin.delete_,run_underlying T.ht,MapKept.run_getObj_map hb,T.law.check w _ hx,h1,MapKept.run_setObj_map _ hb,Result.andThen,ChangeMaps.setBlock],⟨?_,MapKept.stamped_erase h.2 j⟩,?_⟩
  ·rw[mdel_at h.nodup h5,hsub,ChangeMaps.map_eraseIdx,h.1,ChangeMaps.map_eraseIdx]
  ·rw[hsub]
   have hnk:=h.2.2.2;clear h h1 h4 h5 hsub hjs h2 hb;revert j
   generalize es.toList=L at *;induction L with
   | nil=>intro j h2';simp at h2'
   | cons a L ih =>
     intro j h2';simp only[List.map_cons,List.nodup_cons] at hnk;cases j with
     | zero =>
       simp at h2'
       subst h2';simp only[List.eraseIdx_cons_zero];rw[List.filter_cons_of_neg (by simp[h3])];rw[eq_comm,List.filter_eq_self];intro y hy;have:y.key≠a.key:=fun e=>hnk.1 (List.mem_map.2 ⟨y,hy,e⟩)
       simpa[h3] using this
     | succ j =>
       have:a.key≠kd.kv k:=fun e'=>hnk.1 (List.mem_map.2 ⟨e,List.mem_of_getElem? (by simpa using h2'),by rw[h3,e']⟩)
       simp only[List.eraseIdx_cons_succ];rw[List.filter_cons_of_pos (by simp[this]),ih hnk.2 j (by simpa using h2')]
theorem St.map_del (T:MTy P t K E kd) (h:St w0 w (MAt kd vv b l*R)) (k:α) (hk:kd.ok k) (ty:TypeId) :
  ∃ w',(Builtin.delete_ #[t,K] ty #[.map (some b),kd.kv k]).run P w=.ok (.tuple #[]) w'/\St w0 w' (MAt kd vv b (mdel l k)*R):=by
 obtain⟨hok,es,clock,hm,hs⟩:=h.map;obtain⟨es',hr,hm',_⟩:=hm.del T hok k hk hs.heap ty;exact⟨_,hr,(hs.setBlock).map_mk (fun p hp=>hok p (mdel_sub hp)) hm'⟩
variable {r:Nat} {left:List α}
omit [DecidableEq α] in
theorem St.rmap (h:St w0 w (RAt kd vv b r l left*R)):(∀ p ∈ l,kd.ok p.1)/\∃ es clock since seen c0,MIs kd vv l es clock/\left.map kd.kv=(leftOf es seen).toList.map (·.key)/\(∀ x ∈ es.toList,x.born<since)/\since<=c0/\since<=clock /\
  St w0 w (blk b (.map es clock)*(blk r (.mapIter (some b) since seen c0)*R)):=by
 obtain⟨o,t,u,gg,hg,a,c,d,e,⟨h1,es,clock,since,seen,c0,h2,h3,h4,h5,h6,h7⟩,y⟩:=h;refine⟨h1,es,clock,since,seen,c0,h2,h3,h4,h5,h6,?_⟩
 rw[← star_assoc];exact⟨o,t,u,gg,hg,a,c,d,e,h7,y⟩
omit [DecidableEq α] in
theorem St.rmap_mk {es:Array MapEntry} {clock since c0:Nat} {seen:Array Nat} (h:St w0 w (blk b (.map es clock)*(blk r (.mapIter (some b) since seen c0)*R))) (hok:∀ p ∈ l,kd.ok p.1) (hm:MIs kd vv l es clock)
  (h1:left.map kd.kv=(leftOf es seen).toList.map (·.key)) (h2:∀ x ∈ es.toList,x.born<since) (h3:since<=c0) (h4:since<=clock):St w0 w (RAt kd vv b r l left*R):=by
 rw[← star_assoc] at h;exact h.imp fun _ hb=>⟨hok,es,clock,since,seen,c0,hm,h1,h2,h3,h4,hb⟩
omit [DecidableEq α] in
theorem St.rmap_end (h:St w0 w (RAt kd vv b r l left*R)):St w0 w (MAt kd vv b l*R):=by
 obtain⟨hok,es,clock,since,seen,c0,hm,_,_,_,_,hs⟩:=h.rmap;exact ((hs.eq (star_left_comm _ _ _)).drop).map_mk hok hm
omit [DecidableEq α] in
theorem St.rmap_left (h:St w0 w (RAt kd vv b r l left*R)):w.rangeLeft b r=left.length:=by
 obtain⟨hok,es,clock,since,seen,c0,hm,h1,_,_,_,hs⟩:=h.rmap;have e1:=hs.heap;have e2:=(hs.eq (star_left_comm _ _ _)).heap;have:=congrArg List.length h1
 simp only[List.length_map,Array.length_toList] at this;simp only[World.rangeLeft,e1,e2];exact this.symm
omit [DecidableEq α] in
theorem St.map_range (ht:P.underlying t=some (.map K E)) (h:St w0 w (MAt kd vv b l*R)) :
  ∃ w',(Instr.range t (.map (some b))).run P w=.ok (.pointer (some ⟨w.heap.size,0,none⟩)) w'/\St w0 w' (RAt kd vv b w.heap.size l (l.map (·.1))*R):=by
 obtain⟨hok,es,clock,hm,hs⟩:=h.map;refine⟨w.alloc (.mapIter (some b) clock #[] clock),?_,?_⟩
 ·simp[Instr.range,run_underlying ht,MapKept.run_getObj_map hs.heap,Result.andThen]
 ·refine ((hs.alloc (.mapIter (some b) clock #[] clock)).eq (star_left_comm _ _ _)).rmap_mk hok hm ?_ hm.2.1 (Nat.le_refl _) (Nat.le_refl _)
  have:leftOf es #[]=es:=by simp[leftOf]
  rw[this,hm.keys];simp[List.map_map,Function.comp_def]
open Classical in
theorem filter_kv (x:α):∀ left:List α,(left.filter (fun y=>decide (y≠x))).map kd.kv=(left.map kd.kv).filter (fun v=>decide (v≠kd.kv x))
 | []=>rfl
 | y :: l=>by
   by_cases h:y=x
   ·subst h
    simpa using filter_kv y l
   ·have h':kd.kv y≠kd.kv x:=fun e=>h (kd.inj _ _ e)
    rw[List.filter_cons_of_pos (by simpa using h),List.map_cons,List.map_cons,List.filter_cons_of_pos (by simpa using h'),filter_kv x l]
omit [DecidableEq α] in
open Classical in
theorem left_push {es:Array MapEntry} {clock:Nat} (h:Stamped es clock) (seen:Array Nat) (e:MapEntry) (he:e ∈ es.toList) :
  (leftOf es (seen.push e.born)).toList.map (·.key)=((leftOf es seen).toList.map (·.key)).filter (fun v=>decide (v≠e.key)):=by
 have hk:=(MapKept.stamped_iff es clock).1 h;rw[List.filter_map];congr 1
 unfold leftOf;rw[Array.toList_filter,Array.toList_filter,List.filter_filter];refine List.filter_congr fun y hy=>?_
 have:(y.born=e.born)↔y.key=e.key:=by
  constructor
  ·intro hb
   have:=hk.2.1
   obtain⟨i,hi,rfl⟩:=List.getElem_of_mem hy;obtain⟨j,hj,rfl⟩:=List.getElem_of_mem he;have hij:i=j:=by
    rcases Nat.lt_trichotomy i j with h' | h' | h'
    ·have:=(List.pairwise_iff_getElem.1 this) i j (by simpa using hi) (by simpa using hj) h'
     simp at this
     exact absurd hb this
    ·exact h'
    ·have:=(List.pairwise_iff_getElem.1 this) j i (by simpa using hj) (by simpa using hi) h'
     simp at this
     exact absurd hb.symm this
   subst hij;rfl
  ·intro hkk
   rw[entry_eq_of_key hk.2.2 hy he hkk]
 by_cases hb:y.born=e.born
 ·simp[hb,this.1 hb]
 ·have:y.key≠e.key:=fun e'=>hb (this.2 e')
  simp[hb,this]
open Classical in
theorem St.map_next (h:St w0 w (RAt kd vv b r l left*R)) (ty:TypeId) :
  (left=[]/\(Instr.next (.pointer (some ⟨r,0,none⟩)) false ty).run P w=.ok (.tuple #[.bool false]) w) \/
  ∃ x v w',x ∈ left/\mlook l x=some v/\(Instr.next (.pointer (some ⟨r,0,none⟩)) false ty).run P w=.ok (.tuple #[.bool true,kd.kv x,vv v]) w' /\
   St w0 w' (RAt kd vv b r l (left.filter (fun y=>decide (y≠x)))*R)/\(Instr.entry (.pointer (some ⟨r,0,none⟩))).run P w'=.ok (.tuple #[kd.kv x,vv v]) w':=by
 obtain⟨hok,es,clock,since,seen,c0,hm,hl,hold,hsc,hsl,hs⟩:=h.rmap;have hb:=hs.heap;have hr:=(hs.eq (star_left_comm _ _ _)).heap;rcases run_next_at w ty r b since c0 seen es clock hr hb hold hsc with ⟨h0,hrun⟩ | ⟨e,he,w1,hw1,hrun⟩
 ·refine .inl ⟨?_,hrun⟩
  have:=congrArg List.length hl
  simp only[List.length_map,Array.length_toList,h0] at this;exact List.eq_nil_of_length_eq_zero this
 ·right
  have hee:e ∈ es.toList:=by
   unfold leftOf at he;simp at he ⊢
   exact he.1
  obtain⟨j,hj,hje⟩:=List.getElem_of_mem hee;obtain⟨p,hp,hk,hv⟩:=hm.at (show es.toList[j]?=some e by rw[List.getElem?_eq_getElem hj,hje]);have hx:p.1 ∈ left:=by
   have:e.key ∈ left.map kd.kv:=by rw[hl];exact List.mem_map.2 ⟨e,he,rfl⟩
   obtain⟨y,hy,hye⟩:=List.mem_map.1 this;rw[hk] at hye;rwa [← kd.inj _ _ hye]
  have hs1:St w0 w1 (blk b (.map es clock)*(blk r (.mapIter (some b) since seen c0)*R)):=by
   rcases hw1 with rfl | rfl
   ·exact hs
   ·exact hs.drew
  have hs2:St w0 (ChangeMaps.setBlock w1 r (.mapIter (some b) since (seen.push e.born) clock)) (blk b (.map es clock)*(blk r (.mapIter (some b) since (seen.push e.born) clock)*R)) :=
   ((hs1.eq (star_left_comm _ _ _)).setBlock).eq (star_left_comm _ _ _)
  refine⟨p.1,p.2,_,hx,mlook_at hm.nodup hp,?_,hs2.rmap_mk hok hm ?_ hold hsl hsl,?_⟩
  ·rw[hrun,hk,hv]
  ·rw[left_push hm.2 seen e hee,filter_kv,hl,hk]
  ·have:=run_entry_at (P:=P) _ r b since seen es clock e ((hs2.eq (star_left_comm _ _ _)).heap) hs2.heap hee hm.2.2.1
   rw[this,hk,hv]
open Classical in
theorem St.rmap_del (T:MTy P t K E kd) (h:St w0 w (RAt kd vv b r l left*R)) (k:α) (hk:kd.ok k) (ty:TypeId) :
  ∃ w',(Builtin.delete_ #[t,K] ty #[.map (some b),kd.kv k]).run P w=.ok (.tuple #[]) w'/\St w0 w' (RAt kd vv b r (mdel l k) (left.filter (fun y=>decide (y≠k)))*R):=by
 obtain⟨hok,es,clock,since,seen,c0,hm,hl,hold,hsc,hsl,hs⟩:=h.rmap;obtain⟨es',hr,hm',he⟩:=hm.del T hok k hk hs.heap ty;refine⟨_,hr,(hs.setBlock).rmap_mk (fun p hp=>hok p (mdel_sub hp)) hm' ?_ (fun x hx=>hold x ?_) hsc hsl⟩
 ·rw[filter_kv,hl,List.filter_map]
  congr 1
  unfold leftOf;rw[Array.toList_filter,Array.toList_filter,he,List.filter_filter,List.filter_filter];exact List.filter_congr fun y _=>by simp[Bool.and_comm]
 ·rw[he] at hx
  exact (List.mem_filter.1 hx).1
variable {ops:Array Oper} {rest:List Oper} {o:Oper} {a:Act} {Q:Exit->Act->World->Prop}
theorem wp_mput (hg:o.guard=none) (m x y:Operand) (t:TypeId) (hop:o.op=Op.mapUpdate t m x y) {K E:TypeId} {kd:KD α} (T:MTy P t K E kd) {vv:β->Value} {b:Nat} {l:List (α × β)} (h:St w0 w (MAt kd vv b l*R))
  (hm:a.eval m=.map (some b)) (k:α) (hx:a.eval x=kd.kv k) (hk:kd.ok k) (v:β) (hv:a.eval y=vv v)
  (hK:∀ w',St w0 w' (MAt kd vv b (mput l k v)*R)->wpList P ops Q rest (a.put o.dst undef) w'):wpList P ops Q (o :: rest) a w:=by
 refine wpList_plain hg fun K' hK'=>?_
 obtain⟨w',hrun,h'⟩:=h.map_put T k hk v;unfold Oper.wp;simp[execOp,hop,hm,hx,hv,hrun,Result.andThen]
 exact hK' _ _ (hK w' h')
theorem wp_mdel (hg:o.guard=none) (m x:Operand) (t K:TypeId) (hop:o.op=Op.call { callee:=Callee.builtin Builtin.delete,args:=#[m,x],argTypes:=#[t,K] }) {E:TypeId} {kd:KD α} (T:MTy P t K E kd) {vv:β->Value} {b:Nat} {l:List (α × β)} (h:St w0 w (MAt kd vv b l*R))
  (hm:a.eval m=.map (some b)) (k:α) (hx:a.eval x=kd.kv k) (hk:kd.ok k)
  (hK:∀ w',St w0 w' (MAt kd vv b (mdel l k)*R)->wpList P ops Q rest (a.put o.dst (.tuple #[])) w'):wpList P ops Q (o :: rest) a w:=by
 refine wpList_plain hg fun K' hK'=>?_
 obtain⟨w',hrun,h'⟩:=h.map_del T k hk o.type;unfold Oper.wp;simp[execOp,hop,resolve,invoke,builtin,hm,hx,hrun,Result.andThen]
 exact hK' _ _ (hK w' h')
theorem wp_mdel_range (hg:o.guard=none) (m x:Operand) (t K:TypeId) (hop:o.op=Op.call { callee:=Callee.builtin Builtin.delete,args:=#[m,x],argTypes:=#[t,K] }) {E:TypeId} {kd:KD α} (T:MTy P t K E kd) {vv:β->Value} {b r:Nat} {l:List (α × β)} {left:List α} (h:St w0 w (RAt kd vv b r l left*R))
  (hm:a.eval m=.map (some b)) (k:α) (hx:a.eval x=kd.kv k) (hk:kd.ok k)
  (hK:∀ w',St w0 w' (RAt kd vv b r (mdel l k) (left.filter (fun y=>decide (y≠k)))*R)->wpList P ops Q rest (a.put o.dst (.tuple #[])) w'):wpList P ops Q (o :: rest) a w:=by
 refine wpList_plain hg fun K' hK'=>?_
 obtain⟨w',hrun,h'⟩:=h.rmap_del T k hk o.type;unfold Oper.wp;simp[execOp,hop,resolve,invoke,builtin,hm,hx,hrun,Result.andThen]
 exact hK' _ _ (hK w' h')
omit [DecidableEq α] in
theorem wp_mrange (hg:o.guard=none) (m:Operand) (t:TypeId) (hop:o.op=Op.range t m) {K E:TypeId} {kd:KD α} (ht:P.underlying t=some (.map K E)) {vv:β->Value} {b:Nat} {l:List (α × β)} (h:St w0 w (MAt kd vv b l*R))
  (hm:a.eval m=.map (some b))
  (hK:∀ w' r,St w0 w' (RAt kd vv b r l (l.map (·.1))*R)->wpList P ops Q rest (a.put o.dst (.pointer (some ⟨r,0,none⟩))) w'):wpList P ops Q (o :: rest) a w:=by
 refine wpList_plain hg fun K' hK'=>?_
 obtain⟨w',hrun,h'⟩:=h.map_range ht;unfold Oper.wp;simp[execOp,hop,hm,hrun,Result.andThen]
 exact hK' _ _ (hK w' _ h')
theorem wp_mnext (hg:o.guard=none) (it:Operand) (hop:o.op=Op.next it false) {kd:KD α} {vv:β->Value} {b r:Nat} {l:List (α × β)} {left:List α} (h:St w0 w (RAt kd vv b r l left*R))
  (hit:a.eval it=.pointer (some ⟨r,0,none⟩))
  (hDone:left=[]->wpList P ops Q rest (a.put o.dst (.tuple #[.bool false])) w)
  (hMore:∀ x v w',x ∈ left->mlook l x=some v->St w0 w' (RAt kd vv b r l (left.filter (fun y=>decide (y≠x)))*R)->(Instr.entry (.pointer (some ⟨r,0,none⟩))).run P w'=.ok (.tuple #[kd.kv x,vv v]) w' ->
    wpList P ops Q rest (a.put o.dst (.tuple #[.bool true,kd.kv x,vv v])) w'):wpList P ops Q (o :: rest) a w:=by
 refine wpList_plain hg fun K' hK'=>?_
 unfold Oper.wp;rcases h.map_next (P:=P) o.type with ⟨h0,hrun⟩ | ⟨x,v,w',hx,hv,hrun,h',hen⟩
 ·simp[execOp,hop,hit,hrun,Result.andThen]
  exact hK' _ _ (hDone h0)
 ·simp[execOp,hop,hit,hrun,Result.andThen]
  exact hK' _ _ (hMore x v w' hx hv h' hen)
end
end Go.Proofs.YtnnahljdhdippaaGreatDoor
