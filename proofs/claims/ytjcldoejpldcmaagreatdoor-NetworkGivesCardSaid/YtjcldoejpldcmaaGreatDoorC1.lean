/- Parts of a proof (Sep, Row). No condition. -/
import Derived.WalkKit
import Derived.Deep.QuietTactic
import Derived.BigQuiet
import Derived.StillTailTactics
import Derived.Deep.RegionHeld3
import Derived.Lib.Hide
import Derived.WalkSpells
import Derived.WalkLawsBesides
import Derived.Deep.Light
import Derived.Deep.DeepCutAuto
import Derived.Deep.DeepFit
import Derived.Deep.CutBlock
namespace Go.Proofs.YtjcldoejpldcmaaGreatDoor
set_option maxRecDepth 100000
set_option maxHeartbeats 6400000
open Go.RowKit
def HP:Type:=(Nat->Option Obj)->Prop
def hdisj (a b:Nat->Option Obj):Prop:=∀ k,a k=none\/b k=none
def hjoin (a b:Nat->Option Obj):Nat->Option Obj:=fun k=>(a k).or (b k)
def HP.star (A B:HP):HP:=fun h=>∃ a b,hdisj a b/\h=hjoin a b/\A a/\B b
instance:Mul HP:=⟨HP.star⟩
def HP.emp:HP:=fun h=>h=fun _=>none
instance:One HP:=⟨HP.emp⟩
def blk (b:Nat) (o:Obj):HP:=fun h=>h=fun k=>if k=b then some o else none
def fact (p:Prop):HP:=fun h=>p/\h=fun _=>none
def hex {α:Sort _} (A:α->HP):HP:=fun h=>∃ x,A x h
def Old (w:World):HP:=fun h=>h=fun k=>w.heap[k]?
theorem hjoin_comm {a b:Nat->Option Obj} (h:hdisj a b):hjoin a b=hjoin b a:=by
 funext k
 unfold hjoin;rcases h k with e | e <;> simp[e]
theorem star_comm (A B:HP):A*B=B*A:=by
 funext h
 apply propext
 constructor
 ·rintro ⟨a,b,d,e,x,y⟩
  exact⟨b,a,fun k=>(d k).symm,by rw[e,hjoin_comm d],y,x⟩
 ·rintro ⟨a,b,d,e,x,y⟩
  exact⟨b,a,fun k=>(d k).symm,by rw[e,hjoin_comm d],y,x⟩
theorem star_assoc (A B C:HP):A*B*C=A*(B*C):=by
 funext h
 apply propext
 constructor
 ·rintro ⟨ab,c,d,e,⟨a,b,d2,e2,x,y⟩,z⟩
  subst e2;refine⟨a,hjoin b c,?_,?_,x,b,c,?_,rfl,y,z⟩
  ·intro k
   have h1:=d k;have h2:=d2 k;unfold hjoin at *;cases ha:a k <;> cases hb:b k <;> cases hc:c k <;> simp_all
  ·rw[e]
   funext k
   unfold hjoin;cases a k <;> simp
  ·intro k
   have h1:=d k;unfold hjoin at h1;cases ha:a k <;> cases hb:b k <;> cases hc:c k <;> simp_all
 ·rintro ⟨a,bc,d,e,x,b,c,d2,e2,y,z⟩
  subst e2;refine⟨hjoin a b,c,?_,?_,⟨a,b,?_,rfl,x,y⟩,z⟩
  ·intro k
   have h1:=d k;have h2:=d2 k;unfold hjoin at *;cases ha:a k <;> cases hb:b k <;> cases hc:c k <;> simp_all
  ·rw[e]
   funext k
   unfold hjoin;cases a k <;> simp
  ·intro k
   have h1:=d k;unfold hjoin at h1;cases ha:a k <;> cases hb:b k <;> cases hc:c k <;> simp_all
instance:Std.Associative (α:=HP) (·*·):=⟨star_assoc⟩
instance:Std.Commutative (α:=HP) (·*·):=⟨star_comm⟩
theorem star_left_comm (A B C:HP):A*(B*C)=B*(A*C):=by rw[← star_assoc,star_comm A B,star_assoc]
theorem one_star (A:HP):1*A=A:=by
 funext h
 apply propext
 constructor
 ·rintro ⟨a,b,d,e,x,y⟩
  have hx:a=fun _=>none:=x
  subst hx;have:h=b:=by rw[e];funext k;simp[hjoin]
  rw[this];exact y
 ·intro x
  exact⟨fun _=>none,h,fun k=>.inl rfl,by funext k;simp[hjoin],rfl,x⟩
theorem star_one (A:HP):A*1=A:=by rw[star_comm,one_star]
theorem star_3 (A B C D:HP):A*(B*(C*D))=C*(A*(B*D)):=by ac_rfl
theorem star_4 (A B C D E:HP):A*(B*(C*(D*E)))=D*(A*(B*(C*E))):=by ac_rfl
theorem star_5 (A B C D E G:HP):A*(B*(C*(D*(E*G))))=E*(A*(B*(C*(D*G)))):=by ac_rfl
structure St (w0 w:World) (A:HP):Prop where
 os:w.os=w0.os
 tape:w.tape=w0.tape
 output:w.output=w0.output
 sat:∃ h,(∀ k o,h k=some o->w.heap[k]?=some o)/\A h
section
variable {w0 w:World} {A B R:HP}
theorem St.start (w:World):St w w (Old w):=⟨rfl,rfl,rfl,_,fun _ _ h=>h,rfl⟩
theorem St.eq (h:St w0 w A) (e:A=B):St w0 w B:=e ▸ h
theorem St.imp (h:St w0 w (A*R)) (hab:∀ h,A h->B h):St w0 w (B*R):=by
 obtain⟨o,t,u,g,hg,a,b,d,e,x,y⟩:=h;exact⟨o,t,u,g,hg,a,b,d,e,hab _ x,y⟩
theorem St.drop (h:St w0 w (A*R)):St w0 w R:=by
 obtain⟨o,t,u,g,hg,a,b,d,e,x,y⟩:=h;refine⟨o,t,u,b,fun k v hv=>hg k v ?_,y⟩
 rw[e];unfold hjoin;rcases d k with hk | hk
 ·simp[hk,hv]
 ·rw[hk] at hv;cases hv
theorem St.ex {α:Sort _} {F:α->HP} (h:St w0 w (hex F*R)):∃ x,St w0 w (F x*R):=by
 obtain⟨o,t,u,g,hg,a,b,d,e,⟨x,hx⟩,y⟩:=h;exact⟨x,o,t,u,g,hg,a,b,d,e,hx,y⟩
theorem St.mk_ex {α:Sort _} {F:α->HP} (x:α) (h:St w0 w (F x*R)):St w0 w (hex F*R) :=
 h.imp fun _ hx=>⟨x,hx⟩
theorem fact_star {p:Prop} (hp:p):fact p*R=R:=by
 have:fact p=1:=by
  funext h
  apply propext
  exact⟨fun x=>x.2,fun x=>⟨hp,x⟩⟩
 rw[this,one_star]
theorem St.out {p:Prop} (h:St w0 w (fact p*R)):p/\St w0 w R:=by
 refine⟨?_,h.drop⟩
 obtain⟨o,t,u,g,hg,a,b,d,e,⟨hp,_⟩,y⟩:=h;exact hp
theorem St.inn {p:Prop} (hp:p) (h:St w0 w R):St w0 w (fact p*R):=by rw[fact_star hp];exact h
theorem St.heap {b:Nat} {o:Obj} (h:St w0 w (blk b o*R)):w.heap[b]?=some o:=by
 obtain⟨_,t,u,g,hg,a,c,d,e,x,y⟩:=h;have hx:a=fun k=>if k=b then some o else none:=x
 refine hg b o ?_
 rw[e];simp[hjoin,hx]
theorem St.lt {b:Nat} {o:Obj} (h:St w0 w (blk b o*R)):b<w.heap.size:=by
 have:=h.heap
 exact (Array.getElem?_eq_some_iff.1 this).1
theorem St.old (h:St w0 w (Old w0*R)):Below w0.heap.size w0 w:=by
 obtain⟨o,t,u,g,hg,a,c,d,e,x,y⟩:=h;have hx:a=fun k=>w0.heap[k]?:=x
 have hb:∀ k,k<w0.heap.size->w.heap[k]?=w0.heap[k]?:=by
  intro k hk;have:w0.heap[k]?=some w0.heap[k]:=Array.getElem?_eq_getElem hk
  rw[this];refine hg k _ ?_
  rw[e];simp[hjoin,hx,this]
 refine⟨o,t,u,?_,hb⟩
 rcases Nat.eq_zero_or_pos w0.heap.size with h0 | h0
 ·omega
 ·have:=hb (w0.heap.size - 1) (by omega)
  rw[Array.getElem?_eq_getElem (show w0.heap.size - 1<w0.heap.size by omega)] at this;have:=(Array.getElem?_eq_some_iff.1 this).1
  omega
theorem St.old0 (h:St w0 w (Old w0)):Below w0.heap.size w0 w:=by
 rw[← star_one (Old w0)] at h;exact h.old
theorem St.ne {b c:Nat} {o p:Obj} (h:St w0 w (blk b o*(blk c p*R))):b≠c:=by
 obtain⟨_,t,u,g,hg,a,m,d,e,x,a2,m2,d2,e2,x2,y⟩:=h;have hx:a=fun k=>if k=b then some o else none:=x
 have hx2:a2=fun k=>if k=c then some p else none:=x2
 rintro rfl;have:=d b
 rw[e2] at this;simp[hx,hx2,hjoin] at this
theorem St.drew (h:St w0 w A):St w0 w.drew A:=⟨h.os,h.tape,h.output,h.sat⟩
theorem St.drewN (h:St w0 w A) (n:Nat):St w0 (w.drewN n) A:=⟨h.os,h.tape,h.output,h.sat⟩
theorem St.alloc (h:St w0 w A) (o:Obj):St w0 (w.alloc o) (blk w.heap.size o*A):=by
 obtain⟨ho,ht,hu,g,hg,x⟩:=h;have hn:∀ k,w.heap.size<=k->g k=none:=by
  intro k hk;cases hgk:g k with
  | none=>rfl
  | some v =>
    have:=(Array.getElem?_eq_some_iff.1 (hg k v hgk)).1
    omega
 refine⟨ho,ht,hu,hjoin (fun k=>if k=w.heap.size then some o else none) g,?_,_,g,?_,rfl,rfl,x⟩
 ·intro k v hv
  show (w.heap.push o)[k]?=some v
  rw[Array.getElem?_push];unfold hjoin at hv;by_cases hk:k=w.heap.size
  ·simp[hk] at hv ⊢;exact hv
  ·simp[hk] at hv ⊢;exact hg k v hv
 ·intro k
  by_cases hk:k=w.heap.size
  ·right;exact hn k (by omega)
  ·left;simp[hk]
theorem St.swap {w':World} {b:Nat} {o o':Obj} (h:St w0 w (blk b o*R)) (e1:w'.os=w.os) (e2:w'.tape=w.tape) (e3:w'.output=w.output)
  (hb:w'.heap[b]?=some o') (hr:∀ k,k≠b->k<w.heap.size->w'.heap[k]?=w.heap[k]?):St w0 w' (blk b o'*R):=by
 obtain⟨ho,ht,hu,g,hg,a,c,d,e,x,y⟩:=h;have hx:a=fun k=>if k=b then some o else none:=x
 refine⟨e1.trans ho,e2.trans ht,e3.trans hu,hjoin (fun k=>if k=b then some o' else none) c,?_,_,c,?_,rfl,rfl,y⟩
 ·intro k v hv
  unfold hjoin at hv;by_cases hk:k=b
  ·simp[hk] at hv;rw[hk,hb,hv]
  ·simp[hk] at hv
   have h1:w.heap[k]?=some v:=by
    refine hg k v ?_
    rw[e];simp[hjoin,hx,hk,hv]
   rw[hr k hk (Array.getElem?_eq_some_iff.1 h1).1,h1]
 ·intro k
  have:=d k
  rw[hx] at this;by_cases hk:k=b
  ·simp[hk] at this ⊢;exact this
  ·left;simp[hk]
theorem heap_setCell_self (w:World) (b i:Nat) (v:Value) (c:Array Value) (t:TypeId) (f:Nat × Nat) (h:w.heap[b]?=some (.cells c t f)) :
  (w.setCell ⟨b,i,none⟩ v).heap[b]?=some (.cells (c.setIfInBounds i v) t f):=by
 have hlt:=(Array.getElem?_eq_some_iff.1 h).1;have h':w.heap[b]=.cells c t f:=(Array.getElem?_eq_some_iff.1 h).2;show (w.heap.modify b _)[b]?=_
 rw[Array.getElem?_eq_getElem (by simpa using hlt),Array.getElem_modify_self,h'];rfl
theorem St.set {b:Nat} {c:Array Value} {t:TypeId} {f:Nat × Nat} (h:St w0 w (blk b (.cells c t f)*R)) (i:Nat) (v:Value) :
  St w0 (w.setCell ⟨b,i,none⟩ v) (blk b (.cells (c.setIfInBounds i v) t f)*R) :=
 h.swap rfl rfl rfl (heap_setCell_self _ _ _ _ _ _ _ h.heap) (fun _ hk _=>Below.heap_setCell _ _ _ _ hk)
theorem St.cell {b:Nat} {c:Array Value} {t:TypeId} {f:Nat × Nat} (h:St w0 w (blk b (.cells c t f)*R)) (i:Nat):w.cell? ⟨b,i,none⟩=c[i]?:=by
 simp[World.cell?,h.heap]
theorem St.free {b:Nat} {c:Array Value} {t:TypeId} (h:St w0 w (blk b (.cells c t (0,0))*R)) (i:Nat):w.frozen? ⟨b,i,none⟩=false:=by
 simp[World.frozen?,h.heap]
theorem St.f2 {A B R:HP} (h:St w0 w (A*(B*R))):St w0 w (B*(A*R)):=h.eq (star_left_comm _ _ _)
theorem St.f3 {A B C R:HP} (h:St w0 w (A*(B*(C*R)))):St w0 w (C*(A*(B*R))):=h.eq (star_3 _ _ _ _)
theorem St.f4 {A B C D R:HP} (h:St w0 w (A*(B*(C*(D*R))))):St w0 w (D*(A*(B*(C*R)))):=h.eq (star_4 _ _ _ _ _)
theorem St.f5 {A B C D E R:HP} (h:St w0 w (A*(B*(C*(D*(E*R)))))):St w0 w (E*(A*(B*(C*(D*R))))):=h.eq (star_5 _ _ _ _ _ _)
theorem St.b3 {A B C R:HP} (h:St w0 w (A*(B*(C*R)))):St w0 w (B*(C*(A*R))):=h.eq (by ac_rfl)
theorem St.b4 {A B C D R:HP} (h:St w0 w (A*(B*(C*(D*R))))):St w0 w (B*(C*(D*(A*R)))):=h.eq (by ac_rfl)
theorem St.b5 {A B C D E R:HP} (h:St w0 w (A*(B*(C*(D*(E*R)))))):St w0 w (B*(C*(D*(E*(A*R))))):=h.eq (by ac_rfl)
theorem St.m2 {A B C R:HP} (h:St w0 w (A*(B*(C*R)))):St w0 w (A*(C*(B*R))):=h.eq (by ac_rfl)
end
theorem sl {α:Type}:(∀ (l:List α) (i:Nat) (a:α),l.toArray.setIfInBounds i a=(l.set i a).toArray)/\(∀ (x:α) (l:List α) (a:α),(x :: l).set 0 a=a :: l)/\∀ (x:α) (l:List α) (i:Nat) (a:α),(x :: l).set (i+1) a=x :: l.set i a:=⟨fun _ _ _=>by simp,fun _ _ _=>rfl,fun _ _ _ _=>rfl⟩
theorem tk {P:Program} {ops:Array Oper} {Q:Exit->Act->World->Prop} {md:Region.Mode} {S:World->Prop} (i:Nat) (v:Value) {d:Option Tmp} {o:Op} {t:TypeId} {p:String} {e:Array Edge} {g:Option (Nat × Bool)} {fuel:Nat} {listed:Array Bool} {a:Act} {w:World} (hi:ops[i]?=some ⟨d,o,t,p,e,g⟩)
  (hv:∀ w,S w->(execOp a.eval ⟨d,o,t,p,e,g⟩).run P w=.ok (.value v) w) (h:wpAnyH P md ops Q S fuel (listed.setIfInBounds i true) (a.put d v) w)
  (hb:(Region.noSelect ops && (Region.free md ops listed i && (Region.ready md ops listed).contains i))=true:=by kernel_rfl) (hw:Region.wanted ⟨d,o,t,p,e,g⟩ (yielded ops a.tmps)=true:=by rfl) (hQ:∀ c a w,Q (.panic c) (a.put d v) w->Q (.panic c) a w:=by exact fun _ _ _ h=>h) (hS:S w:=by assumption) :
  wpAnyH P md ops Q S (fuel+1) listed a w:=by
 simp only[Bool.and_eq_true] at hb;exact wpAnyH_take hi hb.1 hb.2.1 hb.2.2 hQ (.inl ⟨hw,hv⟩) hS h
theorem rd {P:Program} {ops:Array Oper} {Q:Exit->Act->World->Prop} {md:Region.Mode} {S:World->Prop} (i:Nat) {d:Option Tmp} {o:Op} {t:TypeId} {p:String} {e:Array Edge} {g:Option (Nat × Bool)} {fuel:Nat} {listed:Array Bool} {a:Act} {w:World} (hi:ops[i]?=some ⟨d,o,t,p,e,g⟩)
  (h:∀ K':Act->World->Prop,Shut (∀ a w,S w->(S w->wpAnyH P md ops Q S fuel (listed.setIfInBounds i true) a w)->K' a w)->if Region.wanted ⟨d,o,t,p,e,g⟩ (yielded ops a.tmps)=true then Oper.wp P ⟨d,o,t,p,e,g⟩ a w K' Q else K' (a.put d undef) w)
  (hr:Region.ready md ops listed=[i]:=by kernel_rfl):wpAnyH P md ops Q S (fuel+1) listed a w:=wpAnyH_ready hr (by simp) (AllReadyH.cons hi h AllReadyH.nil)
def Row (E:TypeId) (sz:Nat) (v:Value) (n:Nat) (xs:List Value):HP:=fun h =>
 xs.length=n*sz /\
 ((∃ a,v=.slice a 0 0/\n=0/\h=fun _=>none) \/
  ∃ g off cap,∃ cur:Array Value,v=.slice (some ⟨g,off,none⟩) n cap/\n<=cap/\cap<=maxLen/\off+cap*sz<=cur.size /\
   (∀ j,j<n*sz->cur[off+j]?=xs[j]?)/\blk g (.cells cur E (0,0)) h)
section
variable {P:Program} {w0 w:World} {R:HP} {E:TypeId} {sz n:Nat} {v:Value} {xs:List Value}
theorem add_none (b o j:Nat):(⟨b,o,none⟩:Addr).add j=⟨b,o+j,none⟩:=by unfold Addr.add;split <;> simp_all
theorem St.row_len (h:St w0 w (Row E sz v n xs*R)):xs.length=n*sz:=by
 obtain⟨_,_,_,g,hg,a,b,d,e,⟨x,_⟩,y⟩:=h;exact x
theorem St.row (h:St w0 w (Row E sz v n xs*R)):(∃ a,v=.slice a 0 0/\n=0/\xs=[]/\St w0 w R) \/
  ∃ g off cap,∃ cur:Array Value,v=.slice (some ⟨g,off,none⟩) n cap/\n<=cap/\cap<=maxLen/\off+cap*sz<=cur.size /\
   (∀ j,j<n*sz->cur[off+j]?=xs[j]?)/\St w0 w (blk g (.cells cur E (0,0))*R):=by
 obtain⟨o,t,u,gg,hg,a,b,d,e,⟨hl,hx⟩,y⟩:=h;rcases hx with ⟨a0,hv,hn,ha⟩ | ⟨g,off,cap,cur,hv,h1,h2,h3,h4,hb⟩
 ·left
  subst hn;refine⟨a0,hv,rfl,List.eq_nil_of_length_eq_zero (by simpa using hl),o,t,u,gg,hg,?_⟩
  have:gg=b:=by rw[e];funext k;simp[hjoin,ha]
  rw[this];exact y
 ·right
  exact⟨g,off,cap,cur,hv,h1,h2,h3,h4,o,t,u,gg,hg,a,b,d,e,hb,y⟩
theorem St.row_shape (h:St w0 w (Row E sz v n xs*R)):∃ a cap,v=.slice a n cap/\n<=cap/\cap<=maxLen:=by
 rcases h.row with ⟨a,rfl,rfl,_⟩ | ⟨g,off,cap,cur,rfl,h1,h2,_⟩
 ·exact⟨a,0,rfl,Nat.le_refl _,Nat.zero_le _⟩
 ·exact⟨_,cap,rfl,h1,h2⟩
theorem St.row_nil (E:TypeId) (sz:Nat) (h:St w0 w R) (a:Option Addr:=none):St w0 w (Row E sz (.slice a 0 0) 0 []*R):=by
 have h':St w0 w (1*R):=by rw[one_star];exact h
 exact h'.imp fun g hg=>⟨by simp,.inl ⟨a,rfl,rfl,hg⟩⟩
theorem St.row_mk {g off cap:Nat} {cur:Array Value} (h:St w0 w (blk g (.cells cur E (0,0))*R)) (hl:xs.length=n*sz) (h1:n<=cap) (h2:cap<=maxLen) (h3:off+cap*sz<=cur.size)
  (h4:∀ j,j<n*sz->cur[off+j]?=xs[j]?):St w0 w (Row E sz (.slice (some ⟨g,off,none⟩) n cap) n xs*R) :=
 h.imp fun _ hb=>⟨hl,.inr ⟨g,off,cap,cur,rfl,h1,h2,h3,h4,hb⟩⟩
theorem St.row_cell {g off cap n':Nat} (h:St w0 w (Row E sz (.slice (some ⟨g,off,none⟩) n' cap) n xs*R)) (j:Nat) (hj:j<n*sz):w.cell? ⟨g,off+j,none⟩=xs[j]?:=by
 rcases h.row with ⟨a0,hv,rfl,_⟩ | ⟨g',off',cap',cur,hv,h1,h2,h3,h4,hs⟩
 ·simp at hj
 ·simp only[Value.slice.injEq,Option.some.injEq,Addr.mk.injEq] at hv
  obtain⟨⟨rfl,rfl,_⟩,rfl,rfl⟩:=hv;rw[hs.cell,h4 j hj]
theorem setRow_heap_self (w:World) (g:Nat) (cur new:Array Value) (t:TypeId) (f:Nat × Nat) (h:w.heap[g]?=some (.cells cur t f)):(w.setRow g new).heap[g]?=some (.cells new t f):=setRow_heap w g cur new t f h
theorem St.row_off {B:HP} (h:St w0 w (B*(Row E sz v n xs*R))) (a:Option Addr:=none):St w0 w (B*(Row E sz (.slice a 0 0) 0 []*R)) :=
 (((h.eq (star_left_comm _ _ _)).drop).row_nil E sz a).eq (star_left_comm _ _ _)
theorem St.row_from {a:Option Addr} {cap:Nat} (h:St w0 w (Row E 1 (.slice a n cap) n xs*R)) (k:Nat) (hk:k<n) :
  St w0 w (Row E 1 (.slice (a.map (fun x=>x.add k)) (n - k) (n - k)) (n - k) (xs.drop k)*R):=by
 have hl:=h.row_len;rcases h.row with ⟨a0,hv,rfl,rfl,hs⟩ | ⟨g,off,cap',cur,hv,h1,h2,h3,h4,hs⟩
 ·omega
 ·simp only[Value.slice.injEq] at hv
  obtain⟨rfl,_,rfl⟩:=hv;simp only[Nat.mul_one] at *;simp only[Option.map_some,add_none];refine St.row_mk hs (by simp;omega) (Nat.le_refl _) (by omega) (by omega) (fun j hj=>?_)
  rw[Nat.add_assoc,h4 _ (by omega),List.getElem?_drop]
theorem one_new (w:World) (n:Nat) (v:Value) (t:TypeId) (hn:n=w.heap.size):∀ (j:Nat) (u:Value),[v][j]?=some u->(w.alloc (.cells #[v] t)).cell? ((⟨n,0,none⟩:Addr).add j)=some u:=by
 intro j u hj;match j,hj with
 | 0,hj =>
   simp at hj
   subst hj hn;simp[Addr.add]
theorem St.append {t ty:TypeId} {i:TypeInfo} {z:Value} {bytes:Nat} (h:St w0 w (Row E sz v n xs*R)) (ht:P.underlying t=some (.slice E)) (hi:P.info? E=some i) (hz:i.zero=some z)
  (hsize:i.size=sz) (hby:i.bytes=bytes) (hzs:z.cells.size=sz) (hsz:0<sz)
  (a:Addr) (m c:Nat) (news:List Value) (hm:0<m) (hl:news.length=m*sz) (hnews:∀ j u,news[j]?=some u->w.cell? (a.add j)=some u) (h1:∀ u ∈ news,u.oneCell'=true)
  (h63:n+m<=maxLen) (hbytes:(n+m)*bytes<=140737488355328) :
  ∃ v' w',(Builtin.append_ #[t,t] ty #[v,.slice (some a) m c]).run P w=.ok v' w'/\St w0 w' (Row E sz v' (n+m) (xs++news)*R)/\∃ g off cap,v'=.slice (some ⟨g,off,none⟩) (n+m) cap:=by
 subst hsize;subst hby;have hsmall:n+m<=9223372036854775807:=by simp only[maxLen] at h63;omega
 have hlx:=h.row_len;have hlen:(xs++news).length=(n+m)*i.size:=by rw[List.length_append,hlx,hl,Nat.add_mul]
 have grown:∀ (old:Nat),old<n+m ->
   St w0 (w.drew.alloc (.cells (xs.toArray++news.toArray++Builtin.zeroCells z.cells (grownCap w (n+m) old E - (n+m))) E))
    (Row E i.size (.slice (some ⟨w.heap.size,0,none⟩) (n+m) (grownCap w (n+m) old E)) (n+m) (xs++news)*R):=by
  intro old ho;have hge:=grownCap_ge w (n+m) old E;have hcm:grownCap w (n+m) old E<=maxLen:=grownCap_le_maxLen w (n+m) old E h63;have hs:=(h.drop.drew.alloc (.cells (xs.toArray++news.toArray++Builtin.zeroCells z.cells (grownCap w (n+m) old E - (n+m))) E));refine St.row_mk hs hlen hge hcm ?_ ?_
  ·simp only[Array.size_append,List.size_toArray,size_zeroCells,hzs,hlx,hl,← Nat.add_mul,Nat.zero_add]
   exact Nat.le_of_eq (congrArg (·*i.size) (by omega))
  ·intro j hj
   rw[Nat.zero_add,Array.getElem?_append_left (by simp only[Array.size_append,List.size_toArray];rw[← List.length_append,hlen];exact hj)];rw[List.append_toArray,List.getElem?_toArray]
 rcases h.row with ⟨a0,rfl,rfl,rfl,hs⟩ | ⟨g,off,cap,cur,rfl,hnc,hcm,hcs,hcell,hs⟩
 ·cases a0 with
  | some b =>
    have hr:=run_append_grow (P:=P) w t ty E i z ht hi hz b 0 0 [] (by simp) (by intro j u hu;simp at hu) a m c news hl hnews (by omega) (by omega) (growslice_fits (by omega) hbytes);exact⟨_,_,hr,grown 0 (by omega),_,_,_,rfl⟩
  | none =>
  have hr:=run_append_nil (P:=P) w t ty E i z ht hi hz a m c news hl hnews (by omega) (by omega) (by have hb:=hbytes;simp only[Nat.zero_add] at hb;omega);have hgr:=grown 0 (by omega);simp only[Nat.zero_add,List.nil_append,Array.empty_append] at hgr ⊢;exact⟨_,_,hr,hgr,_,_,_,rfl⟩
 ·by_cases hroom:n+m<=cap
  ·have hfit:off+n*i.size+news.length<=cur.size:=by
    have:(n+m)*i.size<=cap*i.size:=Nat.mul_le_mul_right _ hroom
    rw[Nat.add_mul] at this;omega
   have hf:=run_firstCells_some (P:=P) w i.size m a m c news hl hnews;have hst:=run_storeCells_at P g (off+n*i.size) E news 0 cur w hs.heap (by simpa using hfit) h1;simp only[Nat.add_zero] at hst;have hadd:(⟨g,off,none⟩:Addr).add (n*i.size)=⟨g,off+n*i.size,none⟩:=add_none _ _ _;refine⟨.slice (some ⟨g,off,none⟩) (n+m) cap,w.setRow g (cur.toList.take (off+n*i.size)++news++cur.toList.drop (off+n*i.size+news.length)).toArray,?_,?_,_,_,_,rfl⟩
   ·simp[Builtin.append_,run_underlying ht,sizeOf,typeInfo,hi,Builtin.lenOf,hroom,hf,hadd,hst]
   ·have hs2:St w0 (w.setRow g (cur.toList.take (off+n*i.size)++news++cur.toList.drop (off+n*i.size+news.length)).toArray)
      (blk g (.cells (cur.toList.take (off+n*i.size)++news++cur.toList.drop (off+n*i.size+news.length)).toArray E (0,0))*R) :=
     hs.swap rfl rfl rfl (setRow_heap_self _ _ _ _ _ _ hs.heap) (fun k hk _=>setRow_other w g k _ hk)
    refine St.row_mk hs2 hlen hroom hcm ?_ ?_
    ·simp only[List.size_toArray,List.length_append,List.length_take,List.length_drop,Array.length_toList]
     omega
    ·intro j hj
     rw[List.getElem?_toArray];have htk:(cur.toList.take (off+n*i.size)).length=off+n*i.size:=by simp;omega
     by_cases hjn:j<n*i.size
     ·rw[List.append_assoc,List.getElem?_append_left (by rw[htk];omega),List.getElem?_take,if_pos (by omega),Array.getElem?_toList,hcell j hjn,List.getElem?_append_left (by omega)]
     ·rw[Nat.add_mul] at hj
      rw[List.append_assoc,List.getElem?_append_right (by rw[htk];omega),htk,List.getElem?_append_left (by omega),List.getElem?_append_right (by omega)];congr 1
      omega
  ·have holds:∀ j u,xs[j]?=some u->w.cell? ((⟨g,off,none⟩:Addr).add j)=some u:=by
    intro j u hu;have hj:j<n*i.size:=by
     have:=(List.getElem?_eq_some_iff.1 hu).1
     omega
    rw[add_none,hs.cell,hcell j hj,hu]
   have hr:=run_append_grow (P:=P) w t ty E i z ht hi hz ⟨g,off,none⟩ n cap xs hlx holds a m c news hl hnews (by omega) (by omega) (growslice_fits (by omega) hbytes);exact⟨_,_,hr,grown cap (by omega),_,_,_,rfl⟩
theorem wp_append_row {o:Oper} {a:Act} {K:Act->World->Prop} {Q:Exit->Act->World->Prop} (s x:Operand) (t:TypeId)
  (ho:o.op=.call { callee:=.builtin .append,args:=#[s,x],argTypes:=#[t,t] })
  {i:TypeInfo} {z:Value} {bytes:Nat} (h:St w0 w (Row E sz v n xs*R)) (ht:P.underlying t=some (.slice E)) (hi:P.info? E=some i) (hz:i.zero=some z)
  (hsize:i.size=sz) (hby:i.bytes=bytes) (hzs:z.cells.size=sz) (hsz:0<sz)
  (hs:a.eval s=v) (ad:Addr) (m c:Nat) (news:List Value) (hx:a.eval x=.slice (some ad) m c) (hm:0<m) (hl:news.length=m*sz)
  (hnews:∀ j u,news[j]?=some u->w.cell? (ad.add j)=some u) (h1:∀ u ∈ news,u.oneCell'=true)
  (h63:n+m<=maxLen) (hbytes:(n+m)*bytes<=140737488355328)
  (hk:∀ g off cap w',St w0 w' (Row E sz (.slice (some ⟨g,off,none⟩) (n+m) cap) (n+m) (xs++news)*R)->K (a.put o.dst (.slice (some ⟨g,off,none⟩) (n+m) cap)) w'):o.wp P a w K Q:=by
 obtain⟨v',w',hr,h2,g,off,cap,rfl⟩:=h.append (P:=P) (ty:=o.type) ht hi hz hsize hby hzs hsz ad m c news hm hl hnews h1 h63 hbytes;unfold Oper.wp execOp;simp only[ho,resolve,invoke,builtin,Sem.run_bind,Sem.run_pure,Result.andThen_ok,List.map_toArray,List.map_cons,List.map_nil,hs,hx,hr];exact hk g off cap w' h2
theorem wpList_append_row {ops:Array Oper} {rest:List Oper} {o:Oper} {a:Act} {Q:Exit->Act->World->Prop} (hgd:o.guard=none) (s x:Operand) (t:TypeId)
  (ho:o.op=.call { callee:=.builtin .append,args:=#[s,x],argTypes:=#[t,t] })
  {i:TypeInfo} {z:Value} {bytes:Nat} (h:St w0 w (Row E sz v n xs*R)) (ht:P.underlying t=some (.slice E)) (hi:P.info? E=some i) (hz:i.zero=some z)
  (hsize:i.size=sz) (hby:i.bytes=bytes) (hzs:z.cells.size=sz) (hsz:0<sz)
  (hs:a.eval s=v) (ad:Addr) (m c:Nat) (news:List Value) (hx:a.eval x=.slice (some ad) m c) (hm:0<m) (hl:news.length=m*sz)
  (hnews:∀ j u,news[j]?=some u->w.cell? (ad.add j)=some u) (h1:∀ u ∈ news,u.oneCell'=true)
  (h63:n+m<=maxLen) (hbytes:(n+m)*bytes<=140737488355328)
  (hk:∀ g off cap w',St w0 w' (Row E sz (.slice (some ⟨g,off,none⟩) (n+m) cap) (n+m) (xs++news)*R)->wpList P ops Q rest (a.put o.dst (.slice (some ⟨g,off,none⟩) (n+m) cap)) w'):wpList P ops Q (o :: rest) a w :=
 wpList_plain hgd fun _ hK=>wp_append_row s x t ho h ht hi hz hsize hby hzs hsz hs ad m c news hx hm hl hnews h1 h63 hbytes fun g off cap w' h2=>hK _ _ (hk g off cap w' h2)
end
end Go.Proofs.YtjcldoejpldcmaaGreatDoor
