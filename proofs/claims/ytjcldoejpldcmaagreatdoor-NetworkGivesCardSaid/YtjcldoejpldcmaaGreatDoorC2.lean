/- Parts of a proof (Map, List, HdlcP, Bits, Oct). No condition. -/
import Derived.Test.YtjcldoejpldcmaaGreatDoorC1
import Derived.Maps.RangeWalk
import Derived.Deep.RegionLaw
import Derived.Test.YtjcldoejpldcmaaGreatDoorProg
import Derived.Laws.IdiomStrings
namespace Go.Proofs.YtjcldoejpldcmaaGreatDoor
set_option maxRecDepth 100000
set_option maxHeartbeats 6400000
open Go.RowKit
open Go.ChangeMaps (setBlock)
open Go.MapKept (Stamped)
open Go.Maps (Keyed)
section
variable {α β:Type}
structure KD (α:Type) where
 kv:α->Value
 ok:α->Prop
 inj:∀ a b,kv a=kv b->a=b
def MIs (k:KD α) (vv:β->Value) (l:List (α × β)) (es:Array MapEntry) (clock:Nat):Prop :=
 es.toList.map (fun e=>(e.key,e.val))=l.map (fun p=>(k.kv p.1,vv p.2))/\Stamped es clock
def MAt (k:KD α) (vv:β->Value) (b:Nat) (l:List (α × β)):HP:=fun h=>(∀ p ∈ l,k.ok p.1)/\∃ es clock,MIs k vv l es clock/\blk b (.map es clock) h
def RAt (k:KD α) (vv:β->Value) (b r:Nat) (l:List (α × β)) (left:List α):HP:=fun h=>(∀ p ∈ l,k.ok p.1)/\∃ es clock since seen c0,MIs k vv l es clock /\
 left.map k.kv=(leftOf es seen).toList.map (·.key)/\(∀ x ∈ es.toList,x.born<since)/\since<=c0/\since<=clock/\(blk b (.map es clock)*blk r (.mapIter (some b) since seen c0)) h
structure MTy (P:Program) (t K E:TypeId) (k:KD α):Prop where
 ht:P.underlying t=some (.map K E)
 law:Keyed P K
 reads:∀ a,k.ok a->∃ l,keyOf P K (k.kv a)=some l
variable [DecidableEq α]
def mlook:List (α × β)->α->Option β
 | [],_=>none
 | p :: l,k=>if p.1=k then some p.2 else mlook l k
def mput:List (α × β)->α->β->List (α × β)
 | [],k,v=>[(k,v)]
 | p :: l,k,v=>if p.1=k then (k,v) :: l else p :: mput l k v
def mdel:List (α × β)->α->List (α × β)
 | [],_=>[]
 | p :: l,k=>if p.1=k then l else p :: mdel l k
theorem mlook_none {k:α}:∀ {l:List (α × β)},(∀ p ∈ l,p.1≠k)->mlook l k=none
 | [],_=>rfl
 | p :: l,h=>by simp only[mlook,if_neg (h p (by simp))];exact mlook_none fun q hq=>h q (by simp[hq])
theorem mput_new {k:α} {v:β}:∀ {l:List (α × β)},(∀ p ∈ l,p.1≠k)->mput l k v=l++[(k,v)]
 | [],_=>rfl
 | p :: l,h=>by simp only[mput,if_neg (h p (by simp)),List.cons_append];rw[mput_new fun q hq=>h q (by simp[hq])]
theorem mdel_new {k:α}:∀ {l:List (α × β)},(∀ p ∈ l,p.1≠k)->mdel l k=l
 | [],_=>rfl
 | p :: l,h=>by simp only[mdel,if_neg (h p (by simp))];rw[mdel_new fun q hq=>h q (by simp[hq])]
omit [DecidableEq α] in
theorem key_ne {k:α} {u:β} {j:Nat} {p:α × β} {l:List (α × β)} (hn:((p :: l).map (·.1)).Nodup) (h:(p :: l)[j+1]?=some (k,u)):p.1≠k:=by
 simp only[List.map_cons,List.nodup_cons] at hn;rintro rfl;exact hn.1 (List.mem_map.2 ⟨_,List.mem_of_getElem? h,rfl⟩)
theorem mlook_at {k:α} {u:β}:∀ {j:Nat} {l:List (α × β)},(l.map (·.1)).Nodup->l[j]?=some (k,u)->mlook l k=some u
 | _,[],_,h=>by simp at h
 | 0,p :: l,_,h=>by simp at h;simp[mlook,h]
 | j+1,p :: l,hn,h=>by
   simp only[mlook,if_neg (key_ne hn h)];exact mlook_at (by simp at hn;simpa using hn.2) (by simpa using h)
theorem mput_at {k:α} {u v:β}:∀ {j:Nat} {l:List (α × β)},(l.map (·.1)).Nodup->l[j]?=some (k,u)->mput l k v=l.set j (k,v)
 | _,[],_,h=>by simp at h
 | 0,p :: l,_,h=>by simp at h;simp[mput,h]
 | j+1,p :: l,hn,h=>by
   simp only[mput,if_neg (key_ne hn h),List.set_cons_succ];rw[mput_at (by simp at hn;simpa using hn.2) (by simpa using h)]
theorem mdel_at {k:α} {u:β}:∀ {j:Nat} {l:List (α × β)},(l.map (·.1)).Nodup->l[j]?=some (k,u)->mdel l k=l.eraseIdx j
 | _,[],_,h=>by simp at h
 | 0,p :: l,_,h=>by simp at h;simp[mdel,h]
 | j+1,p :: l,hn,h=>by
   simp only[mdel,if_neg (key_ne hn h),List.eraseIdx_cons_succ];rw[mdel_at (by simp at hn;simpa using hn.2) (by simpa using h)]
variable {kd:KD α} {vv:β->Value} {l:List (α × β)} {es:Array MapEntry} {clock:Nat}
omit [DecidableEq α] in
theorem MIs.keys (h:MIs kd vv l es clock):es.toList.map (·.key)=l.map (fun p=>kd.kv p.1):=by
 have:=congrArg (List.map (·.1)) h.1
 simpa[List.map_map,Function.comp_def] using this
omit [DecidableEq α] in
theorem MIs.nodup (h:MIs kd vv l es clock):(l.map (·.1)).Nodup:=by
 have h1:=h.2.2.2;rw[h.keys] at h1;have h2:(l.map fun p=>kd.kv p.1)=(l.map (·.1)).map kd.kv:=by simp[List.map_map,Function.comp_def]
 rw[h2] at h1;exact List.Pairwise.of_map kd.kv (fun a b hne e=>hne (congrArg _ e)) h1
omit [DecidableEq α] in
theorem MIs.size (h:MIs kd vv l es clock):es.size=l.length:=by
 have:=congrArg List.length h.1
 simpa using this
omit [DecidableEq α] in
theorem MIs.at {j:Nat} {e:MapEntry} (h:MIs kd vv l es clock) (hj:es.toList[j]?=some e):∃ p,l[j]?=some p/\e.key=kd.kv p.1/\e.val=vv p.2:=by
 have h1:=congrArg (fun l:List (Value × Value)=>l[j]?) h.1;simp only[List.getElem?_map,hj,Option.map_some] at h1;cases hl:l[j]? with
 | none=>rw[hl] at h1;cases h1
 | some p=>rw[hl] at h1;simp at h1;exact⟨p,rfl,h1.1,h1.2⟩
omit [DecidableEq α] in
theorem MIs.apart {k:α} (h:MIs kd vv l es clock) (hk:∀ e ∈ es.toList,e.key≠kd.kv k):∀ p ∈ l,p.1≠k:=by
 rintro p hp rfl;have:kd.kv p.1 ∈ es.toList.map (·.key):=by rw[h.keys];exact List.mem_map.2 ⟨p,hp,rfl⟩
 obtain⟨e,he,hek⟩:=List.mem_map.1 this;exact hk e he hek
omit [DecidableEq α] in
theorem MIs.reads {P:Program} {t K E:TypeId} (T:MTy P t K E kd) (h:MIs kd vv l es clock) (hok:∀ p ∈ l,kd.ok p.1):∀ e ∈ es.toList,∃ x,keyOf P K e.key=some x:=by
 intro e he;have:e.key ∈ es.toList.map (·.key):=List.mem_map.2 ⟨e,he,rfl⟩
 rw[h.keys] at this;obtain⟨p,hp,hpe⟩:=List.mem_map.1 this;rw[← hpe];exact T.reads _ (hok p hp)
omit [DecidableEq α] in
theorem MIs.find {P:Program} {t K E:TypeId} (T:MTy P t K E kd) (h:MIs kd vv l es clock) (hok:∀ p ∈ l,kd.ok p.1) (k:α) (hk:kd.ok k) (w:World) :
  ((Instr.findKey K (kd.kv k) es.toList).run P w=.ok none w/\(∀ e ∈ es.toList,e.key≠kd.kv k)/\∀ p ∈ l,p.1≠k) \/
  ∃ j e v,(Instr.findKey K (kd.kv k) es.toList).run P w=.ok (some (j,e.val)) w/\es[j]?=some e/\e.key=kd.kv k/\e.val=vv v/\l[j]?=some (k,v):=by
 obtain⟨x,hx⟩:=T.reads k hk;rcases T.law.find w hx es.toList (h.reads T hok) with ⟨h1,h2⟩ | ⟨j,e,h1,h2,h3⟩
 ·exact .inl ⟨h1,h2,h.apart h2⟩
 ·obtain⟨p,hp,hk',hv⟩:=h.at h2
  have:p.1=k:=kd.inj _ _ (hk'.symm.trans h3)
  exact .inr ⟨j,e,p.2,h1,by simpa using h2,h3,hv,by rw[hp,← this]⟩
variable {w0 w:World} {R:HP} {b:Nat}
theorem St.setBlock {o o':Obj} (h:St w0 w (blk b o*R)):St w0 (setBlock w b o') (blk b o'*R) :=
 h.swap rfl rfl rfl (by have:=h.lt;simp[ChangeMaps.setBlock,this]) (fun k hk _=>by simp[ChangeMaps.setBlock,Ne.symm hk])
omit [DecidableEq α] in
theorem St.map (h:St w0 w (MAt kd vv b l*R)):(∀ p ∈ l,kd.ok p.1)/\∃ es clock,MIs kd vv l es clock/\St w0 w (blk b (.map es clock)*R):=by
 obtain⟨o,t,u,gg,hg,a,c,d,e,⟨h1,es,clock,h2,h3⟩,y⟩:=h;exact⟨h1,es,clock,h2,o,t,u,gg,hg,a,c,d,e,h3,y⟩
omit [DecidableEq α] in
theorem St.map_mk {es:Array MapEntry} {clock:Nat} (h:St w0 w (blk b (.map es clock)*R)) (hok:∀ p ∈ l,kd.ok p.1) (hm:MIs kd vv l es clock):St w0 w (MAt kd vv b l*R) :=
 h.imp fun _ hb=>⟨hok,es,clock,hm,hb⟩
omit [DecidableEq α] in
theorem St.map_nodup (h:St w0 w (MAt kd vv b l*R)):(l.map (·.1)).Nodup:=by
 obtain⟨_,es,clock,hm,_⟩:=h.map;exact hm.nodup
omit [DecidableEq α] in
theorem St.map_new (kd:KD α) (vv:β->Value) (h:St w0 w R):St w0 (w.alloc (.map #[] 0)) (MAt kd vv w.heap.size []*R) :=
 (h.alloc (.map #[] 0)).map_mk (by simp) ⟨by simp,MapKept.stamped_empty 0⟩
variable {P:Program} {t K E:TypeId}
theorem St.map_look (T:MTy P t K E kd) (h:St w0 w (MAt kd vv b l*R)) (k:α) (hk:kd.ok k) {z:Value} (hz:(zeroValue E).run P w=.ok z w) (c:Bool) :
  (Instr.lookup t (.map (some b)) (kd.kv k) c).run P w=.ok (if c then .tuple #[((mlook l k).map vv).getD z,.bool (mlook l k).isSome] else ((mlook l k).map vv).getD z) w:=by
 obtain⟨hok,es,clock,hm,hs⟩:=h.map;have hb:=hs.heap;obtain⟨x,hx⟩:=T.reads k hk;rcases hm.find T hok k hk w with ⟨h1,h2,h3⟩ | ⟨j,e,v,h1,h2,h3,h4,h5⟩
 ·rw[mlook_none h3]
  simp[Instr.lookup,run_underlying T.ht,MapKept.run_getObj_map hb,T.law.check w _ hx,h1,hz,Result.andThen]
 ·rw[mlook_at hm.nodup h5]
  simp[Instr.lookup,run_underlying T.ht,MapKept.run_getObj_map hb,T.law.check w _ hx,h1,h4,Result.andThen]
theorem St.map_put (T:MTy P t K E kd) (h:St w0 w (MAt kd vv b l*R)) (k:α) (hk:kd.ok k) (v:β) :
  ∃ w',(Instr.mapUpdate t (.map (some b)) (kd.kv k) (vv v)).run P w=.ok () w'/\St w0 w' (MAt kd vv b (mput l k v)*R):=by
 obtain⟨hok,es,clock,hm,hs⟩:=h.map;have hb:=hs.heap;obtain⟨x,hx⟩:=T.reads k hk;have hok':∀ p ∈ mput l k v,kd.ok p.1:=by
  intro p hp;have:p ∈ l\/p=(k,v):=by
   clear hm hok h;induction l with
   | nil=>simp[mput] at hp;exact .inr hp
   | cons q l ih =>
     unfold mput at hp;split at hp
     ·simp at hp;rcases hp with hp | hp
      ·exact .inr hp
      ·exact .inl (by simp[hp])
     ·simp at hp;rcases hp with hp | hp
      ·exact .inl (by simp[hp])
      ·rcases ih hp with h | h
       ·exact .inl (by simp[h])
       ·exact .inr h
  rcases this with hp | rfl
  ·exact hok p hp
  ·exact hk
 rcases hm.find T hok k hk w with ⟨h1,h2,h3⟩ | ⟨j,e,u,h1,h2,h3,h4,h5⟩
 ·refine⟨_,by simp[Instr.mapUpdate,run_underlying T.ht,MapKept.run_getObj_map hb,T.law.check w false hx,h1,MapKept.run_setObj_map _ hb,Result.andThen];rfl,?_⟩
  refine (hs.setBlock (o':=.map (es.push ⟨kd.kv k,vv v,clock⟩) (clock+1))).map_mk hok' ⟨?_,MapKept.stamped_push hm.2 h2⟩
  rw[mput_new h3,Array.toList_push,List.map_append,hm.1];simp
 ·have h2':es.toList[j]?=some e:=by simpa using h2
  refine⟨_,by simp[Instr.mapUpdate,run_underlying T.ht,MapKept.run_getObj_map hb,T.law.check w false hx,h1,h2,h3,T.law.stays w hx,MapKept.run_setObj_map _ hb,Result.andThen];rfl,?_⟩
  refine (hs.setBlock (o':=.map (es.modify j fun e=>{ e with key:=kd.kv k,val:=vv v }) clock)).map_mk hok' ⟨?_,MapKept.stamped_modify hm.2 _ _ (fun _ _=>rfl) (fun e' _ he'=>by rw[h2] at he';cases he';exact h3.symm)⟩
  rw[mput_at hm.nodup h5,Array.toList_modify,ChangeMaps.modify_eq_set _ _ _ _ h2',List.map_set,hm.1,List.map_set]
theorem mdel_sub {k:α} {p:α × β}:∀ {l:List (α × β)},p ∈ mdel l k->p ∈ l
 | q :: l,hp=>by
   unfold mdel at hp;split at hp
   ·simp[hp]
   ·simp at hp;rcases hp with hp | hp
    ·simp[hp]
    ·simp[mdel_sub hp]
open Classical in
theorem MIs.del (T:MTy P t K E kd) (h:MIs kd vv l es clock) (hok:∀ p ∈ l,kd.ok p.1) (k:α) (hk:kd.ok k) (hb:w.heap[b]?=some (.map es clock)) (ty:TypeId) :
  ∃ es',(Builtin.delete_ #[t,K] ty #[.map (some b),kd.kv k]).run P w=.ok (.tuple #[]) (ChangeMaps.setBlock w b (.map es' clock))/\MIs kd vv (mdel l k) es' clock /\
   es'.toList=es.toList.filter (fun e=>decide (e.key≠kd.kv k)):=by
 obtain⟨x,hx⟩:=T.reads k hk;rcases h.find T hok k hk w with ⟨h1,h2,h3⟩ | ⟨j,e,u,h1,h2,h3,h4,h5⟩
 ·refine⟨es,by simp[Builtin.delete_,run_underlying T.ht,MapKept.run_getObj_map hb,T.law.check w _ hx,h1,MapKept.run_setObj_map _ hb,Result.andThen,ChangeMaps.setBlock],by rw[mdel_new h3];exact h,?_⟩
  rw[eq_comm,List.filter_eq_self];exact fun e he=>by simpa using h2 e he
 ·have h2':es.toList[j]?=some e:=by simpa using h2
  have hjs:j<es.size:=(Array.getElem?_eq_some_iff.1 h2).1;have hsub:(es.eraseIdxIfInBounds j).toList=es.toList.eraseIdx j:=by
   unfold Array.eraseIdxIfInBounds;rw[dif_pos hjs];simp
  refine⟨es.eraseIdxIfInBounds j,by simp[Builtin.delete_,run_underlying T.ht,MapKept.run_getObj_map hb,T.law.check w _ hx,h1,MapKept.run_setObj_map _ hb,Result.andThen,ChangeMaps.setBlock],⟨?_,MapKept.stamped_erase h.2 j⟩,?_⟩
  ·rw[mdel_at h.nodup h5,hsub,ChangeMaps.map_eraseIdx,h.1,ChangeMaps.map_eraseIdx]
  ·rw[hsub]
   have hnk:=h.2.2.2;clear h h1 h4 h5 hsub hjs h2 hb;revert j
   generalize es.toList=L at *;induction L with
   | nil=>intro j h2';simp at h2'
   | cons a L ih =>
     intro j h2';simp only[List.map_cons,List.nodup_cons] at hnk;cases j with
     | zero =>
       simp at h2'
       subst h2';simp only[List.eraseIdx_cons_zero];rw[List.filter_cons_of_neg (by simp[h3])];rw[eq_comm,List.filter_eq_self];intro y hy;have:y.key≠a.key:=fun e=>hnk.1 (List.mem_map.2 ⟨y,hy,e⟩)
       simpa[h3] using this
     | succ j =>
       have:a.key≠kd.kv k:=fun e'=>hnk.1 (List.mem_map.2 ⟨e,List.mem_of_getElem? (by simpa using h2'),by rw[h3,e']⟩)
       simp only[List.eraseIdx_cons_succ];rw[List.filter_cons_of_pos (by simp[this]),ih hnk.2 j (by simpa using h2')]
theorem St.map_del (T:MTy P t K E kd) (h:St w0 w (MAt kd vv b l*R)) (k:α) (hk:kd.ok k) (ty:TypeId) :
  ∃ w',(Builtin.delete_ #[t,K] ty #[.map (some b),kd.kv k]).run P w=.ok (.tuple #[]) w'/\St w0 w' (MAt kd vv b (mdel l k)*R):=by
 obtain⟨hok,es,clock,hm,hs⟩:=h.map;obtain⟨es',hr,hm',_⟩:=hm.del T hok k hk hs.heap ty;exact⟨_,hr,(hs.setBlock).map_mk (fun p hp=>hok p (mdel_sub hp)) hm'⟩
omit [DecidableEq α] in
theorem St.map_len (ht:P.underlying t=some (.map K E)) (h:St w0 w (MAt kd vv b l*R)) (ty:TypeId):(Builtin.len_ #[t] ty #[.map (some b)]).run P w=.ok (.int .i64 l.length) w:=by
 obtain⟨hok,es,clock,hm,hs⟩:=h.map;simp[Builtin.len_,run_underlying ht,MapKept.run_getObj_map hs.heap,goInt,Result.andThen,hm.size]
variable {r:Nat} {left:List α}
omit [DecidableEq α] in
theorem St.rmap (h:St w0 w (RAt kd vv b r l left*R)):(∀ p ∈ l,kd.ok p.1)/\∃ es clock since seen c0,MIs kd vv l es clock/\left.map kd.kv=(leftOf es seen).toList.map (·.key)/\(∀ x ∈ es.toList,x.born<since)/\since<=c0/\since<=clock /\
  St w0 w (blk b (.map es clock)*(blk r (.mapIter (some b) since seen c0)*R)):=by
 obtain⟨o,t,u,gg,hg,a,c,d,e,⟨h1,es,clock,since,seen,c0,h2,h3,h4,h5,h6,h7⟩,y⟩:=h;refine⟨h1,es,clock,since,seen,c0,h2,h3,h4,h5,h6,?_⟩
 rw[← star_assoc];exact⟨o,t,u,gg,hg,a,c,d,e,h7,y⟩
omit [DecidableEq α] in
theorem St.rmap_mk {es:Array MapEntry} {clock since c0:Nat} {seen:Array Nat} (h:St w0 w (blk b (.map es clock)*(blk r (.mapIter (some b) since seen c0)*R))) (hok:∀ p ∈ l,kd.ok p.1) (hm:MIs kd vv l es clock)
  (h1:left.map kd.kv=(leftOf es seen).toList.map (·.key)) (h2:∀ x ∈ es.toList,x.born<since) (h3:since<=c0) (h4:since<=clock):St w0 w (RAt kd vv b r l left*R):=by
 rw[← star_assoc] at h;exact h.imp fun _ hb=>⟨hok,es,clock,since,seen,c0,hm,h1,h2,h3,h4,hb⟩
omit [DecidableEq α] in
theorem St.rmap_end (h:St w0 w (RAt kd vv b r l left*R)):St w0 w (MAt kd vv b l*R):=by
 obtain⟨hok,es,clock,since,seen,c0,hm,_,_,_,_,hs⟩:=h.rmap;exact ((hs.eq (star_left_comm _ _ _)).drop).map_mk hok hm
omit [DecidableEq α] in
theorem St.rmap_left (h:St w0 w (RAt kd vv b r l left*R)):w.rangeLeft b r=left.length:=by
 obtain⟨hok,es,clock,since,seen,c0,hm,h1,_,_,_,hs⟩:=h.rmap;have e1:=hs.heap;have e2:=(hs.eq (star_left_comm _ _ _)).heap;have:=congrArg List.length h1
 simp only[List.length_map,Array.length_toList] at this;simp only[World.rangeLeft,e1,e2];exact this.symm
omit [DecidableEq α] in
theorem St.map_range (ht:P.underlying t=some (.map K E)) (h:St w0 w (MAt kd vv b l*R)) :
  ∃ w',(Instr.range t (.map (some b))).run P w=.ok (.pointer (some ⟨w.heap.size,0,none⟩)) w'/\St w0 w' (RAt kd vv b w.heap.size l (l.map (·.1))*R):=by
 obtain⟨hok,es,clock,hm,hs⟩:=h.map;refine⟨w.alloc (.mapIter (some b) clock #[] clock),?_,?_⟩
 ·simp[Instr.range,run_underlying ht,MapKept.run_getObj_map hs.heap,Result.andThen]
 ·refine ((hs.alloc (.mapIter (some b) clock #[] clock)).eq (star_left_comm _ _ _)).rmap_mk hok hm ?_ hm.2.1 (Nat.le_refl _) (Nat.le_refl _)
  have:leftOf es #[]=es:=by simp[leftOf]
  rw[this,hm.keys];simp[List.map_map,Function.comp_def]
open Classical in
theorem filter_kv (x:α):∀ left:List α,(left.filter (fun y=>decide (y≠x))).map kd.kv=(left.map kd.kv).filter (fun v=>decide (v≠kd.kv x))
 | []=>rfl
 | y :: l=>by
   by_cases h:y=x
   ·subst h
    simpa using filter_kv y l
   ·have h':kd.kv y≠kd.kv x:=fun e=>h (kd.inj _ _ e)
    rw[List.filter_cons_of_pos (by simpa using h),List.map_cons,List.map_cons,List.filter_cons_of_pos (by simpa using h'),filter_kv x l]
omit [DecidableEq α] in
open Classical in
theorem left_push {es:Array MapEntry} {clock:Nat} (h:Stamped es clock) (seen:Array Nat) (e:MapEntry) (he:e ∈ es.toList) :
  (leftOf es (seen.push e.born)).toList.map (·.key)=((leftOf es seen).toList.map (·.key)).filter (fun v=>decide (v≠e.key)):=by
 have hk:=(MapKept.stamped_iff es clock).1 h;rw[List.filter_map];congr 1
 unfold leftOf;rw[Array.toList_filter,Array.toList_filter,List.filter_filter];refine List.filter_congr fun y hy=>?_
 have:(y.born=e.born)↔y.key=e.key:=by
  constructor
  ·intro hb
   have:=hk.2.1
   obtain⟨i,hi,rfl⟩:=List.getElem_of_mem hy;obtain⟨j,hj,rfl⟩:=List.getElem_of_mem he;have hij:i=j:=by
    rcases Nat.lt_trichotomy i j with h' | h' | h'
    ·have:=(List.pairwise_iff_getElem.1 this) i j (by simpa using hi) (by simpa using hj) h'
     simp at this
     exact absurd hb this
    ·exact h'
    ·have:=(List.pairwise_iff_getElem.1 this) j i (by simpa using hj) (by simpa using hi) h'
     simp at this
     exact absurd hb.symm this
   subst hij;rfl
  ·intro hkk
   rw[entry_eq_of_key hk.2.2 hy he hkk]
 by_cases hb:y.born=e.born
 ·simp[hb,this.1 hb]
 ·have:y.key≠e.key:=fun e'=>hb (this.2 e')
  simp[hb,this]
open Classical in
theorem St.map_next (h:St w0 w (RAt kd vv b r l left*R)) (ty:TypeId) :
  (left=[]/\(Instr.next (.pointer (some ⟨r,0,none⟩)) false ty).run P w=.ok (.tuple #[.bool false]) w) \/
  ∃ x v w',x ∈ left/\mlook l x=some v/\(Instr.next (.pointer (some ⟨r,0,none⟩)) false ty).run P w=.ok (.tuple #[.bool true,kd.kv x,vv v]) w' /\
   St w0 w' (RAt kd vv b r l (left.filter (fun y=>decide (y≠x)))*R)/\(Instr.entry (.pointer (some ⟨r,0,none⟩))).run P w'=.ok (.tuple #[kd.kv x,vv v]) w':=by
 obtain⟨hok,es,clock,since,seen,c0,hm,hl,hold,hsc,hsl,hs⟩:=h.rmap;have hb:=hs.heap;have hr:=(hs.eq (star_left_comm _ _ _)).heap;rcases run_next_at w ty r b since c0 seen es clock hr hb hold hsc with ⟨h0,hrun⟩ | ⟨e,he,w1,hw1,hrun⟩
 ·refine .inl ⟨?_,hrun⟩
  have:=congrArg List.length hl
  simp only[List.length_map,Array.length_toList,h0] at this;exact List.eq_nil_of_length_eq_zero this
 ·right
  have hee:e ∈ es.toList:=by
   unfold leftOf at he;simp at he ⊢
   exact he.1
  obtain⟨j,hj,hje⟩:=List.getElem_of_mem hee;obtain⟨p,hp,hk,hv⟩:=hm.at (show es.toList[j]?=some e by rw[List.getElem?_eq_getElem hj,hje]);have hx:p.1 ∈ left:=by
   have:e.key ∈ left.map kd.kv:=by rw[hl];exact List.mem_map.2 ⟨e,he,rfl⟩
   obtain⟨y,hy,hye⟩:=List.mem_map.1 this;rw[hk] at hye;rwa [← kd.inj _ _ hye]
  have hs1:St w0 w1 (blk b (.map es clock)*(blk r (.mapIter (some b) since seen c0)*R)):=by
   rcases hw1 with rfl | rfl
   ·exact hs
   ·exact hs.drew
  have hs2:St w0 (ChangeMaps.setBlock w1 r (.mapIter (some b) since (seen.push e.born) clock)) (blk b (.map es clock)*(blk r (.mapIter (some b) since (seen.push e.born) clock)*R)) :=
   ((hs1.eq (star_left_comm _ _ _)).setBlock).eq (star_left_comm _ _ _)
  refine⟨p.1,p.2,_,hx,mlook_at hm.nodup hp,?_,hs2.rmap_mk hok hm ?_ hold hsl hsl,?_⟩
  ·rw[hrun,hk,hv]
  ·rw[left_push hm.2 seen e hee,filter_kv,hl,hk]
  ·have:=run_entry_at (P:=P) _ r b since seen es clock e ((hs2.eq (star_left_comm _ _ _)).heap) hs2.heap hee hm.2.2.1
   rw[this,hk,hv]
open Classical in
theorem St.rmap_del (T:MTy P t K E kd) (h:St w0 w (RAt kd vv b r l left*R)) (k:α) (hk:kd.ok k) (ty:TypeId) :
  ∃ w',(Builtin.delete_ #[t,K] ty #[.map (some b),kd.kv k]).run P w=.ok (.tuple #[]) w'/\St w0 w' (RAt kd vv b r (mdel l k) (left.filter (fun y=>decide (y≠k)))*R):=by
 obtain⟨hok,es,clock,since,seen,c0,hm,hl,hold,hsc,hsl,hs⟩:=h.rmap;obtain⟨es',hr,hm',he⟩:=hm.del T hok k hk hs.heap ty;refine⟨_,hr,(hs.setBlock).rmap_mk (fun p hp=>hok p (mdel_sub hp)) hm' ?_ (fun x hx=>hold x ?_) hsc hsl⟩
 ·rw[filter_kv,hl,List.filter_map]
  congr 1
  unfold leftOf;rw[Array.toList_filter,Array.toList_filter,he,List.filter_filter,List.filter_filter];exact List.filter_congr fun y _=>by simp[Bool.and_comm]
 ·rw[he] at hx
  exact (List.mem_filter.1 hx).1
variable {ops:Array Oper} {rest:List Oper} {o:Oper} {a:Act} {Q:Exit->Act->World->Prop}
theorem wp_mput (hg:o.guard=none) (m x y:Operand) (t:TypeId) (hop:o.op=Op.mapUpdate t m x y) {K E:TypeId} {kd:KD α} (T:MTy P t K E kd) {vv:β->Value} {b:Nat} {l:List (α × β)} (h:St w0 w (MAt kd vv b l*R))
  (hm:a.eval m=.map (some b)) (k:α) (hx:a.eval x=kd.kv k) (hk:kd.ok k) (v:β) (hv:a.eval y=vv v)
  (hK:∀ w',St w0 w' (MAt kd vv b (mput l k v)*R)->wpList P ops Q rest (a.put o.dst undef) w'):wpList P ops Q (o :: rest) a w:=by
 refine wpList_plain hg fun K' hK'=>?_
 obtain⟨w',hrun,h'⟩:=h.map_put T k hk v;unfold Oper.wp;simp[execOp,hop,hm,hx,hv,hrun,Result.andThen]
 exact hK' _ _ (hK w' h')
theorem wp_mdel (hg:o.guard=none) (m x:Operand) (t K:TypeId) (hop:o.op=Op.call { callee:=Callee.builtin Builtin.delete,args:=#[m,x],argTypes:=#[t,K] }) {E:TypeId} {kd:KD α} (T:MTy P t K E kd) {vv:β->Value} {b:Nat} {l:List (α × β)} (h:St w0 w (MAt kd vv b l*R))
  (hm:a.eval m=.map (some b)) (k:α) (hx:a.eval x=kd.kv k) (hk:kd.ok k)
  (hK:∀ w',St w0 w' (MAt kd vv b (mdel l k)*R)->wpList P ops Q rest (a.put o.dst (.tuple #[])) w'):wpList P ops Q (o :: rest) a w:=by
 refine wpList_plain hg fun K' hK'=>?_
 obtain⟨w',hrun,h'⟩:=h.map_del T k hk o.type;unfold Oper.wp;simp[execOp,hop,resolve,invoke,builtin,hm,hx,hrun,Result.andThen]
 exact hK' _ _ (hK w' h')
theorem wp_mdel_range (hg:o.guard=none) (m x:Operand) (t K:TypeId) (hop:o.op=Op.call { callee:=Callee.builtin Builtin.delete,args:=#[m,x],argTypes:=#[t,K] }) {E:TypeId} {kd:KD α} (T:MTy P t K E kd) {vv:β->Value} {b r:Nat} {l:List (α × β)} {left:List α} (h:St w0 w (RAt kd vv b r l left*R))
  (hm:a.eval m=.map (some b)) (k:α) (hx:a.eval x=kd.kv k) (hk:kd.ok k)
  (hK:∀ w',St w0 w' (RAt kd vv b r (mdel l k) (left.filter (fun y=>decide (y≠k)))*R)->wpList P ops Q rest (a.put o.dst (.tuple #[])) w'):wpList P ops Q (o :: rest) a w:=by
 refine wpList_plain hg fun K' hK'=>?_
 obtain⟨w',hrun,h'⟩:=h.rmap_del T k hk o.type;unfold Oper.wp;simp[execOp,hop,resolve,invoke,builtin,hm,hx,hrun,Result.andThen]
 exact hK' _ _ (hK w' h')
omit [DecidableEq α] in
theorem wp_mrange (hg:o.guard=none) (m:Operand) (t:TypeId) (hop:o.op=Op.range t m) {K E:TypeId} {kd:KD α} (ht:P.underlying t=some (.map K E)) {vv:β->Value} {b:Nat} {l:List (α × β)} (h:St w0 w (MAt kd vv b l*R))
  (hm:a.eval m=.map (some b))
  (hK:∀ w' r,St w0 w' (RAt kd vv b r l (l.map (·.1))*R)->wpList P ops Q rest (a.put o.dst (.pointer (some ⟨r,0,none⟩))) w'):wpList P ops Q (o :: rest) a w:=by
 refine wpList_plain hg fun K' hK'=>?_
 obtain⟨w',hrun,h'⟩:=h.map_range ht;unfold Oper.wp;simp[execOp,hop,hm,hrun,Result.andThen]
 exact hK' _ _ (hK w' _ h')
theorem wp_mnext (hg:o.guard=none) (it:Operand) (hop:o.op=Op.next it false) {kd:KD α} {vv:β->Value} {b r:Nat} {l:List (α × β)} {left:List α} (h:St w0 w (RAt kd vv b r l left*R))
  (hit:a.eval it=.pointer (some ⟨r,0,none⟩))
  (hDone:left=[]->wpList P ops Q rest (a.put o.dst (.tuple #[.bool false])) w)
  (hMore:∀ x v w',x ∈ left->mlook l x=some v->St w0 w' (RAt kd vv b r l (left.filter (fun y=>decide (y≠x)))*R)->(Instr.entry (.pointer (some ⟨r,0,none⟩))).run P w'=.ok (.tuple #[kd.kv x,vv v]) w' ->
    wpList P ops Q rest (a.put o.dst (.tuple #[.bool true,kd.kv x,vv v])) w'):wpList P ops Q (o :: rest) a w:=by
 refine wpList_plain hg fun K' hK'=>?_
 unfold Oper.wp;rcases h.map_next (P:=P) o.type with ⟨h0,hrun⟩ | ⟨x,v,w',hx,hv,hrun,h',hen⟩
 ·simp[execOp,hop,hit,hrun,Result.andThen]
  exact hK' _ _ (hDone h0)
 ·simp[execOp,hop,hit,hrun,Result.andThen]
  exact hK' _ _ (hMore x v w' hx hv h' hen)
end
def LAt {β:Type} (E:TypeId) (sz:Nat) (enc:β->List Value) (v:Value) (l:List β):HP:=Row E sz v l.length (l.flatMap enc)
structure ETy (P:Program) (t E:TypeId) (sz bytes:Nat) {β:Type} (enc:β->List Value):Prop where
 ht:P.underlying t=some (.slice E)
 info:∃ z,(P.info? E).map (fun i=>(i.zero,i.size,i.bytes))=some (some z,sz,bytes)/\z.cells.size=sz
 len:∀ b,(enc b).length=sz
 one:∀ b,∀ u ∈ enc b,u.oneCell'=true
 pos:0<sz
 bpos:0<bytes
section
variable {β:Type} {P:Program} {w0 w:World} {R:HP} {t E:TypeId} {sz bytes:Nat} {enc:β->List Value} {v:Value} {l:List β}
theorem encs_len (T:∀ b,(enc b).length=sz):∀ l:List β,(l.flatMap enc).length=l.length*sz
 | []=>by simp
 | b :: l=>by rw[List.flatMap_cons,List.length_append,encs_len T l,T b,List.length_cons,Nat.add_mul,Nat.one_mul,Nat.add_comm]
theorem encs_at (T:∀ b,(enc b).length=sz):∀ (l:List β) (i:Nat) (b:β) (j:Nat),l[i]?=some b->j<sz->(l.flatMap enc)[i*sz+j]?=(enc b)[j]?
 | [],_,_,_,h,_=>by simp at h
 | c :: l,0,b,j,h,hj=>by
   simp at h
   subst h;rw[List.flatMap_cons,Nat.zero_mul,Nat.zero_add,List.getElem?_append_left (by rw[T];exact hj)]
 | c :: l,i+1,b,j,h,hj=>by
   rw[List.flatMap_cons,List.getElem?_append_right (by rw[T,Nat.add_mul];omega),T];rw[← encs_at T l i b j (by simpa using h) hj];congr 1
   rw[Nat.add_mul];omega
theorem St.l_nil (E:TypeId) (sz:Nat) (enc:β->List Value) (h:St w0 w R) (a:Option Addr:=none):St w0 w (LAt E sz enc (.slice a 0 0) []*R):=h.row_nil E sz a
theorem St.l_shape (h:St w0 w (LAt E sz enc v l*R)):∃ a cap,v=.slice a l.length cap/\l.length<=cap/\cap<=maxLen:=h.row_shape
theorem St.l_mk {g:Nat} {cs:Array Value} (h:St w0 w (blk g (.cells cs E (0,0))*R)) (T:∀ b,(enc b).length=sz) (l:List β) (n:Nat) (hn:n=l.length) (hc:cs=(l.flatMap enc).toArray) (hm:n<=maxLen):St w0 w (LAt E sz enc (.slice (some ⟨g,0,none⟩) n n) l*R):=by
 subst hc hn;have hl:=encs_len T l;refine St.row_mk h hl (Nat.le_refl _) hm (by simp[hl]) (fun j hj=>?_)
 rw[Nat.zero_add,List.getElem?_toArray]
theorem St.l_cells (h:St w0 w (LAt E sz enc v l*R)) (T:∀ b,(enc b).length=sz):(l=[]/\∃ a,v=.slice a 0 0)\/∃ g off cap,v=.slice (some ⟨g,off,none⟩) l.length cap/\l.length<=cap/\cap<=maxLen /\
  ∀ i b,l[i]?=some b->∀ j u,(enc b)[j]?=some u->w.cell? ⟨g,off+i*sz+j,none⟩=some u:=by
 rcases h.row with ⟨a0,hv,h0,_⟩ | ⟨g,off,cap,cur,rfl,h1,h2,h3,h4,hs⟩
 ·exact .inl ⟨List.eq_nil_of_length_eq_zero h0,a0,hv⟩
 ·refine .inr ⟨g,off,cap,rfl,h1,h2,fun i b hi j u hu=>?_⟩
  have hj:j<sz:=by rw[← T b];exact (List.getElem?_eq_some_iff.1 hu).1
  have hil:i<l.length:=(List.getElem?_eq_some_iff.1 hi).1;have:i*sz+j<l.length*sz:=by
   have:=Nat.mul_le_mul_right sz (show i+1<=l.length from hil)
   rw[Nat.add_mul] at this;omega
  rw[Nat.add_assoc,h.row_cell _ this,encs_at T l i b j hi hj,hu]
theorem new_cells (w:World) (cs:List Value) (t:TypeId) (g:Nat) (hg:g=w.heap.size) (j:Nat) (u:Value) (h:cs[j]?=some u):(w.alloc (.cells cs.toArray t)).cell? ⟨g,j,none⟩=some u:=by
 subst hg;simp[h]
theorem wp_append_elem {ops:Array Oper} {rest:List Oper} {o:Oper} {a:Act} {Q:Exit->Act->World->Prop} (hgd:o.guard=none) (s x:Operand)
  (ho:o.op=.call { callee:=.builtin .append,args:=#[s,x],argTypes:=#[t,t] })
  (T:ETy P t E sz bytes enc) (h:St w0 w (LAt E sz enc v l*R)) (b:β)
  (hs:a.eval s=v) (g:Nat) (hx:a.eval x=.slice (some ⟨g,0,none⟩) 1 1) (hc:∀ j u,(enc b)[j]?=some u->w.cell? ⟨g,j,none⟩=some u)
  (hbytes:(l.length+1)*bytes<=140737488355328)
  (hk:∀ g off cap w',St w0 w' (LAt E sz enc (.slice (some ⟨g,off,none⟩) (l.length+1) cap) (l++[b])*R)->wpList P ops Q rest (a.put o.dst (.slice (some ⟨g,off,none⟩) (l.length+1) cap)) w'):wpList P ops Q (o :: rest) a w:=by
 obtain⟨z,hi,hz⟩:=T.info;obtain⟨i0,hi,hz0,hz1,hz2⟩:=info_parts hi;have hb:=T.bpos;have h63:l.length+1<=maxLen:=by
  have:(l.length+1)*1<=(l.length+1)*bytes:=Nat.mul_le_mul_left _ hb
  unfold maxLen;omega
 refine wpList_append_row hgd s x t ho h T.ht hi hz0 hz1 hz2 hz T.pos hs ⟨g,0,none⟩ 1 1 (enc b) hx (by decide) (by rw[T.len,Nat.one_mul]) (fun j u hu=>?_) (T.one b) h63 hbytes (fun g off cap w' h'=>hk g off cap w' ?_)
 ·rw[add_none,Nat.zero_add]
  exact hc j u hu
 ·have e:l.flatMap enc++enc b=(l++[b]).flatMap enc:=by simp
  unfold LAt;rw[List.length_append,List.length_singleton,← e];exact h'
theorem wp_append_l {o:Oper} {a:Act} {K:Act->World->Prop} {Q:Exit->Act->World->Prop} (s x:Operand)
  (ho:o.op=.call { callee:=.builtin .append,args:=#[s,x],argTypes:=#[t,t] })
  (T:ETy P t E sz bytes enc) {v2:Value} {l2:List β} (h:St w0 w (LAt E sz enc v l*(LAt E sz enc v2 l2*R))) (hne:l2≠[])
  (hs:a.eval s=v) (hx:a.eval x=v2) (hbytes:(l.length+l2.length)*bytes<=140737488355328)
  (hk:∀ g off cap w',St w0 w' (LAt E sz enc (.slice (some ⟨g,off,none⟩) (l.length+l2.length) cap) (l++l2)*R)->K (a.put o.dst (.slice (some ⟨g,off,none⟩) (l.length+l2.length) cap)) w'):o.wp P a w K Q:=by
 obtain⟨z,hi,hz⟩:=T.info;obtain⟨i0,hi,hz0,hz1,hz2⟩:=info_parts hi;have hb:=T.bpos;have hm:0<l2.length:=by cases l2 with | nil=>exact absurd rfl hne | cons _ _=>simp
 have h63:l.length+l2.length<=maxLen:=by
  have:(l.length+l2.length)*1<=(l.length+l2.length)*bytes:=Nat.mul_le_mul_left _ hb
  unfold maxLen;omega
 rcases h.f2.row with ⟨a0,_,h0,_⟩ | ⟨g2,off2,cap2,cur,rfl,h1,h2,h3,h4,hs2⟩
 ·omega
 have hrow:=h.f2;refine wp_append_row s x t ho h T.ht hi hz0 hz1 hz2 hz T.pos hs ⟨g2,off2,none⟩ l2.length cap2 (l2.flatMap enc) hx hm (encs_len T.len l2) (fun j u hu=>?_) (fun u hu=>?_) h63 hbytes (fun g off cap w' h'=>hk g off cap w' ?_)
 ·rw[add_none]
  have hj:j<l2.length*sz:=by rw[← encs_len T.len l2];exact (List.getElem?_eq_some_iff.1 hu).1
  have:=hrow.row_cell j hj
  rw[this,hu]
 ·obtain⟨b,hb,hu'⟩:=List.mem_flatMap.1 hu
  exact T.one b u hu'
 ·have e:l.flatMap enc++l2.flatMap enc=(l++l2).flatMap enc:=by simp
  have h'':=h'.f2.drop;unfold LAt;rw[List.length_append,← e];exact h''
theorem step_append_l {ops:Array Oper} {o:Oper} {a:Act} {K:Act->World->Prop} {Q:Exit->Act->World->Prop} {F:Prop} (hg:o.guard=none) (s x:Operand)
  (ho:o.op=.call { callee:=.builtin .append,args:=#[s,x],argTypes:=#[t,t] })
  (T:ETy P t E sz bytes enc) {v2:Value} {l2:List β} (h:St w0 w (LAt E sz enc v l*(LAt E sz enc v2 l2*R))) (hne:l2≠[])
  (hs:a.eval s=v) (hx:a.eval x=v2) (hbytes:(l.length+l2.length)*bytes<=140737488355328)
  (hk:∀ g off cap w',St w0 w' (LAt E sz enc (.slice (some ⟨g,off,none⟩) (l.length+l2.length) cap) (l++l2)*R)->K (a.put o.dst (.slice (some ⟨g,off,none⟩) (l.length+l2.length) cap)) w') :
  if Region.wanted o (yielded ops a.tmps)=true then Oper.wp P o a w K Q else F:=by
 have hw:Region.wanted o (yielded ops a.tmps)=true:=by simp[Region.wanted,hg]
 rw[if_pos hw];exact wp_append_l s x ho T h hne hs hx hbytes hk
end
def octBits (o:UInt8):List Bool:=[o.toNat.testBit 0,o.toNat.testBit 1,o.toNat.testBit 2,o.toNat.testBit 3,o.toNat.testBit 4,o.toNat.testBit 5,o.toNat.testBit 6,o.toNat.testBit 7]
def ofBits (s:List UInt8):List Bool:=s.flatMap octBits
def bitN (b:Bool):Nat:=if b=true then 1 else 0
def octs:List Bool->List UInt8
 | a :: b :: c :: d :: e :: f :: g :: h :: l=>UInt8.ofNat (bitN a+2*bitN b+4*bitN c+8*bitN d+16*bitN e+32*bitN f+64*bitN g+128*bitN h) :: octs l
 | _=>[]
theorem octs_one:∀ o:UInt8,octs (octBits o)=[o]:=by
 intro o;have:∀ n:Fin 256,octs (octBits (UInt8.ofNat n))=[UInt8.ofNat n]:=by decide +kernel
 have h:=this ⟨o.toNat,o.toNat_lt⟩;rw[show UInt8.ofNat (⟨o.toNat,o.toNat_lt⟩:Fin 256)=o from by simp] at h;exact h
theorem octs_app (o:UInt8) (l:List Bool):octs (octBits o++l)=o :: octs l:=by
 have h:=octs_one o;unfold octBits at h ⊢;simp only[octs,List.cons_append,List.nil_append,List.cons.injEq,and_true] at h ⊢;exact h
theorem octs_of (s:List UInt8):octs (ofBits s)=s:=by
 induction s with
 | nil=>rfl
 | cons o s ih =>
   show octs (octBits o++ofBits s)=_
   rw[octs_app,ih]
theorem ofBits_len (s:List UInt8):(ofBits s).length=8*s.length:=by
 induction s with
 | nil=>rfl
 | cons o s ih =>
   show (octBits o++ofBits s).length=_
   rw[List.length_append,ih,List.length_cons];show 8+_=_
   omega
def stuffK:List Bool->Nat->List Bool
 | [],_=>[]
 | true :: l,n=>if n=4 then true :: false :: stuffK l 0 else true :: stuffK l (n+1)
 | false :: l,_=>false :: stuffK l 0
abbrev flagB:List Bool:=[false,true,true,true,true,true,true,false]
def encB (s:List UInt8):List Bool:=flagB++stuffK (ofBits s) 0++flagB
structure De where
 c:List Bool
 w:Bool
 o:Nat
structure Ev where
 kind:Int
 s:List UInt8
def De.flag (d:De):De × Option Ev :=
 if d.w=false\/d.c.length<=6 then (⟨[],true,0⟩,none)
 else if 2128<d.c.length - 6\/(d.c.length - 6) % 8≠0 then (⟨[],true,0⟩,some ⟨2,[]⟩)
 else (⟨[],true,0⟩,some ⟨0,octs (d.c.take (d.c.length - 6))⟩)
def De.put (d:De) (b:Bool):De:=if d.w=true/\d.o<=5/\d.c.length<=2134 then { d with c:=d.c++[b] } else d
def De.bit (d:De) (b:Bool):De × Option Ev :=
 if b=true then
  if d.o+1=7/\d.w=true then (⟨[],false,7⟩,some ⟨1,[]⟩)
  else (De.put { d with o:=d.o+1 } true,none)
 else if 5<=d.o then (if d.o=6 then d.flag else ({ d with o:=0 },none))
 else (De.put { d with o:=0 } false,none)
def De.feed:De->List Bool->De × List Ev
 | d,[]=>(d,[])
 | d,b :: l=>((De.feed (d.bit b).1 l).1,(d.bit b).2.toList++(De.feed (d.bit b).1 l).2)
theorem feed_app (a b:List Bool):∀ d:De,d.feed (a++b)=(((d.feed a).1.feed b).1,(d.feed a).2++((d.feed a).1.feed b).2):=by
 induction a with
 | nil=>intro d;rfl
 | cons x a ih =>
   intro d;show ((De.feed (d.bit x).1 (a++b)).1,(d.bit x).2.toList++(De.feed (d.bit x).1 (a++b)).2)=_
   rw[ih];simp only[De.feed,List.append_assoc]
theorem feed_stuff (l:List Bool):∀ (c:List Bool) (n:Nat),n<5->c.length+l.length<=2128->∃ m,m<5/\De.feed ⟨c,true,n⟩ (stuffK l n)=(⟨c++l,true,m⟩,[]):=by
 induction l with
 | nil =>
   intro c n hn _;exact⟨n,hn,by rw[List.append_nil];rfl⟩
 | cons b l ih =>
   intro c n hn hl;rw[List.length_cons] at hl;cases b with
   | true =>
     have hb:De.bit ⟨c,true,n⟩ true=(⟨c++[true],true,n+1⟩,none):=by
      unfold De.bit De.put;rw[if_pos rfl,if_neg (show ¬ (n+1=7/\true=true) by omega),if_pos ⟨rfl,by show n+1<=5;omega,by show c.length<=2134;omega⟩]
     unfold stuffK;by_cases h4:n=4
     ·subst h4
      rw[if_pos rfl];have hz:De.bit ⟨c++[true],true,5⟩ false=(⟨c++[true],true,0⟩,none):=by
       unfold De.bit;rw[if_neg (by decide),if_pos (show 5<=5 by decide),if_neg (show ¬ 5=6 by decide)]
      obtain⟨m,hm,e⟩:=ih (c++[true]) 0 (by decide) (by rw[List.length_append,List.length_singleton];omega);refine⟨m,hm,?_⟩
      simp only[De.feed,hb,hz,e,Option.toList_none,List.nil_append,List.append_assoc,List.singleton_append]
     ·rw[if_neg h4]
      obtain⟨m,hm,e⟩:=ih (c++[true]) (n+1) (by omega) (by rw[List.length_append,List.length_singleton];omega);refine⟨m,hm,?_⟩
      simp only[De.feed,hb,e,Option.toList_none,List.nil_append,List.append_assoc,List.singleton_append]
   | false =>
     have hb:De.bit ⟨c,true,n⟩ false=(⟨c++[false],true,0⟩,none):=by
      unfold De.bit De.put;rw[if_neg (by decide),if_neg (show ¬ 5<=n by omega),if_pos ⟨rfl,by show 0<=5;omega,by show c.length<=2134;omega⟩]
     unfold stuffK;obtain⟨m,hm,e⟩:=ih (c++[false]) 0 (by decide) (by rw[List.length_append,List.length_singleton];omega);refine⟨m,hm,?_⟩
     simp only[De.feed,hb,e,Option.toList_none,List.nil_append,List.append_assoc,List.singleton_append]
theorem bit_one {c:List Bool} {n:Nat} (hn:n<5) (hc:c.length<=2134):De.bit ⟨c,true,n⟩ true=(⟨c++[true],true,n+1⟩,none):=by
 unfold De.bit De.put;rw[if_pos rfl,if_neg (show ¬ (n+1=7/\true=true) by omega),if_pos ⟨rfl,by show n+1<=5;omega,hc⟩]
theorem feed_flag (c:List Bool) (n:Nat) (hn:n<5) (hc:c.length<=2128) (h0:0<c.length) (h8:c.length % 8=0):De.feed ⟨c,true,n⟩ flagB=(⟨[],true,0⟩,[⟨0,octs c⟩]):=by
 have e0:De.bit ⟨c,true,n⟩ false=(⟨c++[false],true,0⟩,none):=by
  unfold De.bit De.put;rw[if_neg (by decide),if_neg (show ¬ 5<=n by omega),if_pos ⟨rfl,by show 0<=5;omega,by show c.length<=2134;omega⟩]
 have l1:(c++[false]).length=c.length+1:=by simp
 have e1:=bit_one (c:=c++[false]) (n:=0) (by decide) (by omega);have l2:(c++[false]++[true]).length=c.length+2:=by simp
 have e2:=bit_one (c:=c++[false]++[true]) (n:=1) (by decide) (by omega);have l3:(c++[false]++[true]++[true]).length=c.length+3:=by simp
 have e3:=bit_one (c:=c++[false]++[true]++[true]) (n:=2) (by decide) (by omega);have l4:(c++[false]++[true]++[true]++[true]).length=c.length+4:=by simp
 have e4:=bit_one (c:=c++[false]++[true]++[true]++[true]) (n:=3) (by decide) (by omega);have l5:(c++[false]++[true]++[true]++[true]++[true]).length=c.length+5:=by simp
 have e5:=bit_one (c:=c++[false]++[true]++[true]++[true]++[true]) (n:=4) (by decide) (by omega);obtain⟨k,hk⟩:∃ k,c++[false]++[true]++[true]++[true]++[true]++[true]=k:=⟨_,rfl⟩;have l6:k.length=c.length+6:=by rw[← hk];simp
 have t6:k.take c.length=c:=by
  rw[← hk];simp only[List.append_assoc];exact List.take_left
 have e6:De.bit ⟨k,true,5⟩ true=(⟨k,true,6⟩,none):=by
  unfold De.bit De.put;rw[if_pos rfl,if_neg (show ¬ (5+1=7/\true=true) by decide),if_neg (fun h=>by have:6<=5:=h.2.1;omega)]
 have e7:De.bit ⟨k,true,6⟩ false=(⟨[],true,0⟩,some ⟨0,octs c⟩):=by
  unfold De.bit De.flag;rw[if_neg (by decide),if_pos (show 5<=6 by decide),if_pos rfl,if_neg (fun h=>by
   rcases h with h | h
   ·cases h
   ·have:k.length<=6:=h
    omega),if_neg (by
   show ¬ (2128<k.length - 6\/(k.length - 6) % 8≠0)
   omega)]
  show (_,some (⟨0,octs (k.take (k.length - 6))⟩:Ev))=_
  rw[show k.length - 6=c.length by omega,t6]
 rw[hk] at e5;simp only[De.feed,e0,e1,e2,e3,e4,e5,e6,e7,Nat.zero_add,Nat.reduceAdd,Option.toList_none,Option.toList_some,List.nil_append,List.append_nil]
abbrev De.new:De:=⟨[],false,0⟩
theorem feed_new:De.new.feed flagB=(⟨[],true,0⟩,[]):=rfl
theorem feed_enc (s:List UInt8) (h0:s≠[]) (h1:s.length<=266):De.new.feed (encB s)=(⟨[],true,0⟩,[⟨0,s⟩]):=by
 have hl:=ofBits_len s;have h2:0<s.length:=List.length_pos_iff.2 h0;unfold encB;rw[feed_app,feed_app,feed_new];obtain⟨m,hm,e⟩:=feed_stuff (ofBits s) [] 0 (by decide) (by rw[List.length_nil];omega);dsimp only;rw[e];dsimp only;rw[List.nil_append,feed_flag (ofBits s) m hm (by omega) (by omega) (by omega),octs_of];rfl
abbrev pairC (l:List (Int × Int)):List Value:=l.flatMap fun f=>[.int .i64 f.1,.int .i64 f.2]
theorem pairC_at:∀ (l:List (Int × Int)) (k:Nat) (f:Int × Int),l[k]?=some f->(pairC l)[k*2]?=some (.int .i64 f.1)/\(pairC l)[k*2+1]?=some (.int .i64 f.2)
 | [],_,_,h=>by simp at h
 | g :: l,0,f,h=>by simp at h;subst h;simp[pairC]
 | g :: l,k+1,f,h=>by
   have:=pairC_at l k f (by simpa using h)
   rw[show (k+1)*2=k*2+2 by omega,show k*2+2+1=(k*2+1)+2 by omega];simpa[pairC] using this
def packs:List (Int × Int)->Int->Nat->Int × Int
 | [],out,low=>if 8<low then (0,5) else (IntKind.u8.wrap out,0)
 | f :: l,out,low=>if f.1<1\/8<f.1\/f.2<0\/f.2 / 2 ^ f.1.toNat≠0 then (0,2) else packs l (bits .or .i64 out (wrap64 (f.2*2 ^ (min low 8)))) (min (low+f.1.toNat) 9)
theorem b_pack (l:List (Int × Int)) (v:Value) (w0 w:World) (R:HP) (h:St w0 w (Row 277 2 v l.length (pairC l)*R)) (hl:l.length<=1000) :
  Calls Tryz.prog 135 #[v] w fun e w'=>e=.returned (.tuple #[.int .u8 (packs l 0 0).1,.int .i64 (packs l 0 0).2])/\St w0 w' (Row 277 2 v l.length (pairC l)*R):=by
 obtain⟨a,cap,rfl,_,_⟩:=h.row_shape;generalize hS:packs l 0 0=res;have HS:=Lib.hid hS;clear hS;go_enter Tryz.func135,Tryz.ntmps135
 go_wp2;go_loopw [4,5,10] (fun s4 s5 i wr=>∃ (k:Nat) (out:Int) (low:Nat),k<=l.length/\i=.int .i64 k/\s4=.int .i64 out/\s5=.int .i64 low/\low<=9/\Hid (packs (l.drop k) out low=res)/\St w0 wr (Row 277 2 (.slice a l.length cap) l.length (pairC l)*R)) (fun _ _ i _=>l.length - (intOf i).toNat)
 case atStart=>exact⟨0,0,0,by omega,rfl,rfl,rfl,by omega,HS,h⟩
 case round =>
  clear h HS;obtain⟨k,out,low,hk,rfl,rfl,rfl,hlow,He,h1⟩:=hrel;by_cases hlt:k<l.length
  ·obtain⟨f,hf⟩:∃ f,l[k]?=some f:=⟨_,List.getElem?_eq_getElem hlt⟩
   have he:=He.out;have hd:l.drop k=f :: l.drop (k+1):=by
    rw[List.drop_eq_getElem_cons hlt];congr 1
    rw[List.getElem?_eq_getElem hlt] at hf;exact Option.some.inj hf
   rw[hd,packs] at he;obtain⟨c0,c1⟩:=pairC_at l k f hf;obtain⟨x,y⟩:=f;simp only[] at he c0 c1;rcases h1.row with ⟨a0,hv,h0,_⟩ | ⟨g,off,cap',cur,hv,b1,b2,b3,b4,hs⟩
   ·omega
   ·simp only[Value.slice.injEq] at hv
    obtain⟨rfl,_,rfl⟩:=hv;have d0:=(h1.row_cell (k*2) (by omega)).trans c0;have d1:=(h1.row_cell (k*2+1) (by omega)).trans c1;have e1:off+(k*2+1)=off+k*2+1:=by omega
    rw[e1] at d1;have H1:=Lib.hid h1;clear b1 b3 b4 hs hf hd c0 c1 e1 He;by_cases p1:x<1
    ·rw[if_pos (.inl p1)] at he
     subst he;go_wp2;go_ret2
     exact⟨rfl,(H1.out.alloc _).drop⟩
    by_cases p2:8<x
    ·rw[if_pos (.inr (.inl p2))] at he
     subst he;go_wp2;go_ret2
     exact⟨rfl,(H1.out.alloc _).drop⟩
    by_cases p3:y<0
    ·rw[if_pos (.inr (.inr (.inl p3)))] at he
     subst he;have q2:x<=8:=by omega
     go_wp2;go_ret2
     exact⟨rfl,(H1.out.alloc _).drop⟩
    have q1:1<=x:=by omega
    have q0:0<=x:=by omega
    have q2:x<=8:=by omega
    have q3:0<=y:=by omega
    obtain⟨z,hz⟩:∃ z,y / 2 ^ x.toNat=z:=⟨_,rfl⟩;rw[hz] at he;by_cases p4:z=0
    ·rw[if_neg (by omega)] at he
     have HE:=Lib.hid he;clear he;go_wp2;go_roundw
     case rel =>
      have he:=HE.out;refine⟨k+1,_,min (low+x.toNat) 9,by omega,by go_num,rfl,congrArg (Value.int .i64) ?_,by omega,?_,(H1.out.alloc _).drop⟩
      ·split <;> omega
      ·have ee:(if 8<(low:Int) then (8:Int) else low).toNat=min low 8:=by split <;> omega
       rw[ee];exact Lib.hid he
     case measure=>simp[intOf];omega
    ·rw[if_pos (.inr (.inr (.inr p4)))] at he
     subst he;go_wp2;go_ret2
     exact⟨rfl,(H1.out.alloc _).drop⟩
  ·obtain rfl:k=l.length:=by omega
   have he:=He.out;rw[List.drop_length,packs] at he;by_cases p:8<low
   ·rw[if_pos p] at he
    subst he;go_wp2;go_ret2
    exact⟨rfl,h1⟩
   ·rw[if_neg p] at he
    subst he;go_wp2;go_ret2
    exact⟨rfl,h1⟩
theorem packs_17 (a:Int):(packs [(1,1),(7,a)] 0 0)=if 0<=a/\a<=127 then (2*a+1,0) else (0,2):=by
 by_cases h:0<=a/\a<=127
 ·rw[if_pos h]
  obtain⟨n,rfl⟩:∃ n:Nat,a=n:=⟨a.toNat,by omega⟩;have:∀ n:Fin 128,packs [(1,1),(7,(n:Nat))] 0 0=(2*((n:Nat):Int)+1,0):=by decide +kernel
  exact this ⟨n,by omega⟩
 ·rw[if_neg h]
  unfold packs;rw[if_neg (by simp)];unfold packs;rw[if_pos];by_cases h0:a<0
  ·exact .inr (.inr (.inl h0))
  ·refine .inr (.inr (.inr ?_))
   show a / 128≠0
   omega
def octets (ns:List Int):ByteArray:=⟨(ns.map fun n=>UInt8.ofNat n.toNat).toArray⟩
theorem run_octets {P:Program} {src dst e:TypeId} (hs:P.underlying src=some (.slice e)) (he:P.underlying e=some (.int .u8)) (hd:P.underlying dst=some .string) (w:World) (a:Addr) (cap:Nat) (ns:List Int) (k:Nat) (hk:ns.length=k)
  (hn:∀ n ∈ ns,0<=n/\n<256) (hc:∀ j (hj:j<ns.length),w.cell? (a.add j)=some (.int .u8 ns[j])):(convert src dst (.slice (some a) k cap)).run P w=.ok (.string (octets ns)) w:=by
 subst hk;have:=run_convert_bytes_back (P:=P) w src dst e a cap (ns.map fun n=>UInt8.ofNat n.toNat) hs he hd (fun j hj=>by
  have hj':j<ns.length:=by simpa using hj
  rw[hc j hj'];have:=hn ns[j] (List.getElem_mem hj')
  simp only[List.getElem_map,UInt8.toNat_ofNat'];congr 2
  omega)
 simpa[octets] using this
end Go.Proofs.YtjcldoejpldcmaaGreatDoor
