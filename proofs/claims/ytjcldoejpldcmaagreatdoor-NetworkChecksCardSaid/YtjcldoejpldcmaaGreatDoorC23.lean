/- Parts of a proof (NetP, NetC, NetD, NetE). No condition. -/
import Derived.Test.YtjcldoejpldcmaaGreatDoorC19
import Derived.Test.YtjcldoejpldcmaaGreatDoorC17
import Derived.Test.YtjcldoejpldcmaaGreatDoorC22
namespace Go.Proofs.YtjcldoejpldcmaaGreatDoor
set_option maxRecDepth 100000
set_option maxHeartbeats 6400000
open Go.RowKit
structure Ncf where
 k:Int
 n200:Int
 t200:Int
 t201:Int
 t203:Int
structure Nw where
 cf:Ncf
 s:Sr
 l:List (Int × En)
 c:Tms
 d:De
 now:Int
 sent:List ByteArray
 told:List (Int × Int × ByteArray)
def Nw.send (x:Nw) (f:Fr):Nw:={ x with sent:=x.sent++[bstr (encB (putO f true).data.toList)] }
def Nw.per (x:Nw) (t:Int):Int:=if t=200 then x.cf.t200 else if t=201 then x.cf.t201 else x.cf.t203
def Nw.start (x:Nw) (i t:Int):Nw:={ x with c:=(cstart x.c (i,t) x.now (x.per t)).1 }
def Nw.stop (x:Nw) (i t:Int):Nw:={ x with c:=mdel x.c (i,t) }
def Nw.tell (x:Nw) (i k:Int) (d:ByteArray):Nw:={ x with told:=x.told++[(i,k,d)] }
def Nw.setS (x:Nw) (s:Sr):Nw:={ x with s:=s }
def Nw.setC (x:Nw) (c:Tms):Nw:={ x with c:=c }
def Nw.setD (x:Nw) (d:De):Nw:={ x with d:=d }
def Nw.setL (x:Nw) (l:List (Int × En)):Nw:={ x with l:=l }
def Nw.putE (x:Nw) (i:Int) (e:En):Nw:=x.setL (mput x.l i e)
def Nw.link1 (i:Int) (x:Nw) (y:Fx):Nw:=if y.kind=0 then x.send y.fr else if y.kind=9 then x.start i y.timer else if y.kind=10 then x.stop i y.timer else if y.kind=8 then x else x.tell i y.kind y.data
def Nw.links (x:Nw) (i:Int) (l:List Fx):Nw:=l.foldl (Nw.link1 i) x
def Nw.given (x:Nw) (i:Int):Nw:=(x.putE i ((newEn x.cf.k x.cf.n200).assign i).1).links i ((newEn x.cf.k x.cf.n200).assign i).2.1
def Nw.gone (x:Nw) (i:Int):Nw:={ x with l:=mdel x.l i,c:=dropped x.c i }
def Nw.ent (x:Nw) (i:Int):En:=(mlook x.l i).getD (newEn 0 0)
def Nw.freed (x:Nw) (i:Int):Nw:=((x.putE i (x.ent i).remove.1).links i (x.ent i).remove.2.1).gone i
def Nw.src1 (x:Nw) (y:Ef):Nw :=
 if y.kind=0 then x.send y.m.fr
 else if y.kind=3 then x.start y.tei 201
 else if y.kind=4 then x.stop y.tei 201
 else if y.kind=1 then x.given y.tei
 else x.freed y.tei
def Nw.srcs (x:Nw) (l:List Ef):Nw:=l.foldl Nw.src1 x
def Nw.hush (x:Nw):Nw:={ x with sent:=[],told:=[] }
def Nw.begin (x:Nw) (now:Int):Nw:={ x with now:=now,sent:=[],told:=[] }
def Nw.mayE (x:Nw) (i:Int) (f:En->En × List Fx):Nw:=match mlook x.l i with | some e=>(x.putE i (f e).1).links i (f e).2 | none=>x
def Nw.ask (x:Nw) (now i a:Int) (d:ByteArray):Nw × Int :=
 if badNow now=true then (x.hush,2)
 else if i=127/\a=3 then (if 260<d.size then (x.begin now,5) else ((x.begin now).send ⟨0,i,true,6,false,0,0,d⟩,0))
 else match mlook x.l i with
  | none=>(x.begin now,11)
  | some e=>(((x.begin now).putE i (e.ask a d).1).links i (e.ask a d).2.1,(e.ask a d).2.2)
def Nw.come (x:Nw) (s:ByteArray):Nw :=
 let g:=getO s false
 if g.2≠0 then x
 else
  let m:=tmOf g.1 false
  if m.2=true then (x.setS (x.s.message m.1).1).srcs (x.s.message m.1).2
  else if g.1.tei=127\/g.1.sapi≠0 then x
  else x.mayE g.1.tei (fun e=>e.frame g.1)
def Nw.event (x:Nw) (v:Ev):Nw:=if v.kind=0 then x.come ⟨v.s.toArray⟩ else x
def Nw.bits (x:Nw) (now:Int) (b:ByteArray):Nw × Int :=
 if badNow now=true then (x.hush,2)
 else ((x.d.feed (bitsIn b.data.toList)).2.foldl Nw.event ((x.begin now).setD (x.d.feed (bitsIn b.data.toList)).1),0)
def Nw.over (x:Nw) (k:Key):Nw :=
 if (mlook x.l k.1).isSome=false then x
 else if k.2=201 then (x.setS (x.s.timeout k.1).1).srcs (x.s.timeout k.1).2
 else x.mayE k.1 (fun e=>e.timeout k.2)
def Nw.tick (x:Nw) (now:Int):Nw × Int :=
 if badNow now=true then (x.hush,2)
 else ((dueK x.c now).foldl Nw.over ((x.begin now).setC (leftK x.c now)),0)
def Nw.audit (x:Nw) (now:Int):Nw × Int :=
 if badNow now=true then (x.hush,2)
 else (((x.begin now).setS x.s.audit.1).srcs x.s.audit.2,0)
def Nw.remove (x:Nw) (now i:Int):Nw × Int :=
 if badNow now=true then (x.hush,2)
 else (((x.begin now).setS (x.s.removeP i).1).srcs (x.s.removeP i).2.1,(x.s.removeP i).2.2)
def newNw (cf:Ncf):Nw:=⟨cf,⟨⟨0,62⟩,[]⟩,[],[],.new,0,[],[]⟩
def nkey (k:Key):Prop:=64<=k.1/\k.1<=126/\(k.2=200\/k.2=201\/k.2=203)
structure Nw.Fit0 (x:Nw):Prop where
 nd:(x.l.map (·.1)).Nodup
 es:∀ p ∈ x.l,64<=p.1/\p.1<=126/\p.2.Fit
 kn:(x.c.map (·.1)).Nodup
 ks:∀ p ∈ x.c,nkey p.1
 d:x.d.Fits
def Nw.len (x:Nw):Nat:=x.sent.length+x.told.length
theorem pigeon:∀ (n:Nat) (a:Int) (l:List Int),l.Nodup->(∀ t ∈ l,a<=t/\t<a+n)->l.length<=n
 | 0,a,l,_,h=>by
   cases l with
   | nil=>simp
   | cons t l=>have:=h t (by simp);omega
 | n+1,a,l,hn,h=>by
   by_cases ha:a+n ∈ l
   ·have h1:=pigeon n a (l.erase (a+n)) (hn.erase _) (fun t ht=>by
     rw[hn.mem_erase_iff] at ht;have h2:=h t ht.2;have h3:=ht.1;omega)
    rw[List.length_erase_of_mem ha] at h1;omega
   ·have h1:=pigeon n a l hn (fun t ht=>by
     have h2:=h t ht;have h3:t≠a+n:=fun e=>ha (e ▸ ht)
     omega)
    omega
theorem Nw.Fit0.l_len {x:Nw} (h:x.Fit0):x.l.length<=63:=by
 have:=pigeon 63 64 (x.l.map (·.1)) h.nd (fun t ht=>by
  obtain⟨p,hp,rfl⟩:=List.mem_map.1 ht;have:=h.es p hp
  omega)
 simpa using this
theorem nkeys_len {c:Tms} (hn:(c.map (·.1)).Nodup) (hk:∀ p ∈ c,nkey p.1):c.length<=1000:=by
 have h1:((c.map (·.1)).map fun k:Key=>k.1*4+(k.2 - 200)).Nodup:=by
  refine List.pairwise_map.2 (hn.imp_of_mem fun {a b} ha hb hab e=>hab ?_)
  obtain⟨p,hp,rfl⟩:=List.mem_map.1 ha;obtain⟨q,hq,rfl⟩:=List.mem_map.1 hb;obtain⟨_,_,h3⟩:=hk p hp;obtain⟨_,_,h4⟩:=hk q hq;exact Prod.ext (by omega) (by omega)
 have:=pigeon 1000 0 _ h1 (fun t ht=>by
  obtain⟨k,hk',rfl⟩:=List.mem_map.1 ht;obtain⟨p,hp,rfl⟩:=List.mem_map.1 hk';obtain⟨_,_,h3⟩:=hk p hp;omega)
 simpa using this
theorem Nw.Fit0.c_len {x:Nw} (h:x.Fit0):x.c.length<=1000:=nkeys_len h.kn h.ks
theorem look_range {x:Nw} (h:x.Fit0) {i:Int} {e:En} (hl:mlook x.l i=some e):64<=i/\i<=126/\e.Fit:=h.es _ (mlook_mem hl)
section
variable {x:Nw}
theorem nfit_send (h:x.Fit0) (f:Fr):(x.send f).Fit0:=⟨h.nd,h.es,h.kn,h.ks,h.d⟩
theorem nfit_tell (h:x.Fit0) (i k:Int) (d:ByteArray):(x.tell i k d).Fit0:=⟨h.nd,h.es,h.kn,h.ks,h.d⟩
theorem nfit_start (h:x.Fit0) {i t:Int} (hk:nkey (i,t)):(x.start i t).Fit0:=by
 refine⟨h.nd,h.es,?_,?_,h.d⟩
 ·show ((cstart x.c (i,t) x.now (x.per t)).1.map (·.1)).Nodup
  unfold cstart;split
  ·exact h.kn
  ·exact mput_nodup h.kn
 ·intro p hp
  change p ∈ (cstart x.c (i,t) x.now (x.per t)).1 at hp
  unfold cstart at hp;split at hp
  ·exact h.ks p hp
  ·rcases mput_mem hp with hp | rfl
   ·exact h.ks p hp
   ·exact hk
theorem nfit_stop (h:x.Fit0) (i t:Int):(x.stop i t).Fit0:=⟨h.nd,h.es,((mdel_sublist _ _).map _).nodup h.kn,fun p hp=>h.ks p ((mdel_sublist _ _).subset hp),h.d⟩
theorem nfit_putE (h:x.Fit0) {i:Int} {e:En} (hi:64<=i/\i<=126) (he:e.Fit):(x.putE i e).Fit0 :=
 ⟨mput_nodup h.nd,fun p hp=>by
  rcases mput_mem hp with hp | rfl
  ·exact h.es p hp
  ·exact⟨hi.1,hi.2,he⟩,h.kn,h.ks,h.d⟩
theorem nsend_len (f:Fr):(x.send f).len=x.len+1:=by unfold Nw.len Nw.send;simp only[List.length_append,List.length_singleton];omega
theorem ntell_len (i k:Int) (d:ByteArray):(x.tell i k d).len=x.len+1:=by unfold Nw.len Nw.tell;simp only[List.length_append,List.length_singleton];omega
theorem nfit_link1 {i t:Int} {y:Fx} (h:x.Fit0) (hi:64<=i/\i<=126) (hy:FxG t y\/y.kind=8):(x.link1 i y).Fit0/\(x.link1 i y).len<=x.len+1:=by
 unfold Nw.link1;split
 ·exact⟨nfit_send h _,Nat.le_of_eq (nsend_len _)⟩
 ·split
  ·rename_i h9
   refine⟨nfit_start h ⟨hi.1,hi.2,?_⟩,Nat.le_succ _⟩
   rcases hy with hy | hy
   ·rcases hy.2.1 with e | e | e
    ·exact absurd h9 e.2
    ·exact .inl e
    ·exact .inr (.inr e)
   ·rw[hy] at h9;exact absurd h9 (by decide)
  ·split
   ·exact⟨nfit_stop h _ _,Nat.le_succ _⟩
   ·split
    ·exact⟨h,Nat.le_succ _⟩
    ·exact⟨nfit_tell h _ _ _,Nat.le_of_eq (ntell_len _ _ _)⟩
def Nxs (l:List Fx):Prop:=∀ z ∈ l,(∃ t,0<=t/\t<=126/\FxG t z)\/z.kind=8
theorem nxs_of {t:Int} {l:List Fx} (h:Fxs t l) (ht:l≠[]->t<=126):Nxs l:=fun z hz=>by
 obtain⟨h1,h2⟩:=h z hz;have h3:=ht (fun e=>by rw[e] at hz;cases hz);by_cases k:z.kind=0
 ·exact .inl ⟨t,h2 k,h3,h1⟩
 ·exact .inl ⟨0,by decide,by decide,fun e=>absurd e k,h1.2⟩
theorem nfit_links {i:Int} (hi:64<=i/\i<=126):∀ (l:List Fx) {x:Nw},x.Fit0->Nxs l->(x.links i l).Fit0/\(x.links i l).len<=x.len+l.length
 | [],_,h,_=>⟨h,Nat.le_refl _⟩
 | y :: l,x,h,hl=>by
   have hy:∃ t,FxG t y\/y.kind=8:=by
    rcases hl y (by simp) with ⟨t,_,_,e⟩ | e
    ·exact⟨t,.inl e⟩
    ·exact⟨0,.inr e⟩
   obtain⟨t,hy⟩:=hy;obtain⟨h1,n1⟩:=nfit_link1 h hi hy;obtain⟨h2,n2⟩:=nfit_links hi l h1 (fun z hz=>hl z (List.mem_cons_of_mem _ hz));refine⟨h2,?_⟩
   rw[List.length_cons];exact Nat.le_trans n2 (by omega)
theorem link1_l (i:Int) (y:Fx):(x.link1 i y).l=x.l:=by unfold Nw.link1;(repeat' split) <;> rfl
theorem links_l (i:Int):∀ (l:List Fx) {x:Nw},(x.links i l).l=x.l
 | [],_=>rfl
 | y :: l,_=>(links_l i l).trans (link1_l i y)
theorem link1_s (i:Int) (y:Fx):(x.link1 i y).s=x.s:=by unfold Nw.link1;(repeat' split) <;> rfl
theorem links_s (i:Int):∀ (l:List Fx) {x:Nw},(x.links i l).s=x.s
 | [],_=>rfl
 | y :: l,_=>(links_s i l).trans (link1_s i y)
theorem links_snoc (i:Int) (l:List Fx) (y:Fx):x.links i (l++[y])=(x.links i l).link1 i y:=by unfold Nw.links;rw[List.foldl_append];rfl
theorem srcs_snoc (l:List Ef) (y:Ef):x.srcs (l++[y])=(x.srcs l).src1 y:=by unfold Nw.srcs;rw[List.foldl_append];rfl
end
def EfG (y:Ef):Prop:=(y.kind=0->y.m.bad=0)/\(y.kind≠0->64<=y.tei/\y.tei<=126)/\0<=y.kind/\y.kind<=4
def EfL (x:Nw) (y:Ef):Prop:=EfG y/\(y.kind=1->mlook x.l y.tei=none)/\(y.kind=2->(mlook x.l y.tei).isSome=true)
theorem nfit_given {x:Nw} (h:x.Fit0) {i:Int} (hi:64<=i/\i<=126):(x.given i).Fit0/\(x.given i).len<=x.len+100000/\(x.given i).s=x.s:=by
 unfold Nw.given;obtain⟨h1,h2,h3⟩:=fit_assign (fit_new x.cf.k x.cf.n200) i;have hn:=assign_len (newEn x.cf.k x.cf.n200) (out0 (fit_new _ _)) (fit_new x.cf.k x.cf.n200).ok.b.un i;obtain⟨h4,n4⟩:=nfit_links hi _ (nfit_putE h hi h1) (nxs_of h2 h3);exact⟨h4,Nat.le_trans n4 (Nat.add_le_add_left hn _),links_s _ _⟩
theorem nfit_gone {x:Nw} (h:x.Fit0) (i:Int):(x.gone i).Fit0 :=
 ⟨((mdel_sublist i x.l).map _).nodup h.nd,fun p hp=>h.es p ((mdel_sublist _ _).subset hp),(List.filter_sublist.map _).nodup h.kn,fun p hp=>h.ks p (List.filter_sublist.subset hp),h.d⟩
theorem ent_fit {x:Nw} (h:x.Fit0) (i:Int):(x.ent i).Fit:=by
 unfold Nw.ent;cases e:mlook x.l i with
 | none=>exact fit_new 0 0
 | some y=>exact (look_range h e).2.2
theorem nfit_freed {x:Nw} (h:x.Fit0) {i:Int} (hi:64<=i/\i<=126):(x.freed i).Fit0/\(x.freed i).len<=x.len+100000/\(x.freed i).s=x.s:=by
 unfold Nw.freed;have he:=ent_fit h i;obtain⟨h1,h2⟩:=fit_remove he;have hn:=remove_len (x.ent i) (out0 he);obtain⟨h4,n4⟩:=nfit_links hi _ (nfit_putE h hi h1) (nxs_of h2 (fun _=>he.wd.t));exact⟨nfit_gone h4 i,Nat.le_trans n4 (Nat.add_le_add_left hn _),links_s _ _⟩
theorem nfit_src1 {x:Nw} (h:x.Fit0) {y:Ef} (hy:EfG y):(x.src1 y).Fit0/\(x.src1 y).len<=x.len+100000/\(x.src1 y).s=x.s:=by
 unfold Nw.src1;split
 ·exact⟨nfit_send h _,by rw[nsend_len];omega,rfl⟩
 ·rename_i k0
  obtain⟨i0,i1⟩:=hy.2.1 k0;split
  ·exact⟨nfit_start h ⟨i0,i1,.inr (.inl rfl)⟩,Nat.le_add_right _ _,rfl⟩
  ·split
   ·exact⟨nfit_stop h _ _,Nat.le_add_right _ _,rfl⟩
   ·split
    ·exact nfit_given h ⟨i0,i1⟩
    ·exact nfit_freed h ⟨i0,i1⟩
theorem nfit_srcs:∀ (l:List Ef) {x:Nw},x.Fit0->(∀ y ∈ l,EfG y)->(x.srcs l).Fit0/\(x.srcs l).len<=x.len+100000*l.length/\(x.srcs l).s=x.s
 | [],_,h,_=>⟨h,Nat.le_refl _,rfl⟩
 | y :: l,x,h,hl=>by
   obtain⟨h1,n1,e1⟩:=nfit_src1 h (hl y (by simp));obtain⟨h2,n2,e2⟩:=nfit_srcs l h1 (fun z hz=>hl z (List.mem_cons_of_mem _ hz));refine⟨h2,?_,e2.trans e1⟩
   rw[List.length_cons];exact Nat.le_trans n2 (by omega)
def Nw.has (x:Nw) (t:Int):Bool:=(mlook x.l t).isSome
theorem has_put (x:Nw) (i:Int) (e:En) (u:Int):(x.putE i e).has u=upd x.has i true u:=by
 show (mlook (mput x.l i e) u).isSome=_
 unfold upd Nw.has;split
 ·rename_i h;rw[h,mlook_mput_same];rfl
 ·rename_i h;rw[mlook_mput_ne h]
theorem has_links (x:Nw) (i:Int) (l:List Fx) (u:Int):(x.links i l).has u=x.has u:=by unfold Nw.has;rw[links_l]
theorem has_gone {x:Nw} (h:x.Fit0) (i u:Int):(x.gone i).has u=upd x.has i false u:=by
 show (mlook (mdel x.l i) u).isSome=_
 unfold upd Nw.has;split
 ·rename_i e;rw[e,mlook_mdel_same h.nd];rfl
 ·rename_i e;rw[mlook_mdel_ne e]
theorem has_src1 {x:Nw} (h:x.Fit0) {y:Ef} (hy:EfG y) {s s1:Tl} (hs:s.step y=some s1) (hf:∀ u,s.f u=x.has u):∀ u,s1.f u=(x.src1 y).has u:=by
 unfold Tl.step at hs;have key:∀ (b:Bool) (f:Int->Bool),(∀ u,f u=x.has u)->∀ u,upd f y.tei b u=upd x.has y.tei b u:=fun b f hf u=>by unfold upd;rw[hf u]
 intro u;unfold Nw.src1;split at hs
 ·rename_i h12
  split at hs
  ·cases hs
  ·obtain rfl:=Option.some.inj hs
   rw[if_neg (by omega),if_neg (by omega),if_neg (by omega)];show upd s.f y.tei _ u=_
   rw[key _ _ hf u];split
   ·rename_i k1
    unfold Nw.given;rw[has_links,has_put,show decide (y.kind=1)=true from decide_eq_true k1]
   ·rename_i k1
    unfold Nw.freed;obtain⟨i0,i1⟩:=hy.2.1 (by omega);have he:=ent_fit h y.tei;obtain⟨h1,h2⟩:=fit_remove he;rw[has_gone (nfit_links ⟨i0,i1⟩ _ (nfit_putE h ⟨i0,i1⟩ h1) (nxs_of h2 (fun _=>he.wd.t))).1,show decide (y.kind=1)=false from decide_eq_false k1];unfold upd;split
    ·rfl
    ·rename_i hu
     rw[has_links,has_put];unfold upd;rw[if_neg hu]
 ·rename_i h12
  have hk:=hy.2.2;split at hs
  ·rename_i k3
   obtain rfl:=Option.some.inj hs;rw[if_neg (by omega),if_pos k3];exact hf u
  ·split at hs
   ·rename_i k4
    split at hs
    ·obtain rfl:=Option.some.inj hs
     rw[if_neg (by omega),if_neg (by omega),if_pos k4];exact hf u
    ·cases hs
   ·obtain rfl:=Option.some.inj hs
    rw[if_pos (by omega)];exact hf u
theorem all_step {e:Ef} {l:List Ef} {s s':Tl} (h:Tl.all (e :: l) s=some s'):∃ s1,s.step e=some s1/\Tl.all l s1=some s':=by
 have h2:(s.step e).bind (Tl.all l)=some s':=h;cases hs:s.step e with
 | none=>rw[hs] at h2;cases h2
 | some s1=>rw[hs] at h2;exact⟨s1,rfl,h2⟩
theorem efL_of {x:Nw} {y:Ef} (hy:EfG y) {s s1:Tl} (hs:s.step y=some s1) (hf:∀ u,s.f u=x.has u):EfL x y:=by
 refine⟨hy,fun k1=>?_,fun k2=>?_⟩
 all_goals
  unfold Tl.step at hs;rw[if_pos (by omega),hf] at hs;unfold Nw.has at hs;split at hs
  ·cases hs
  ·rename_i h
   first
    | (rw[decide_eq_true k1] at h;cases e:mlook x.l y.tei with | none=>rfl | some _=>rw[e] at h;exact absurd rfl h)
    | (rw[decide_eq_false (by omega)] at h;cases e:mlook x.l y.tei with | none=>rw[e] at h;exact absurd rfl h | some _=>rfl)
theorem has_srcs:∀ (l:List Ef) {x:Nw},x.Fit0->(∀ y ∈ l,EfG y)->∀ {s s':Tl},Tl.all l s=some s'->(∀ u,s.f u=x.has u)->∀ u,s'.f u=(x.srcs l).has u
 | [],_,_,_,s,s',h,hf=>by obtain rfl:=Option.some.inj (show some s=some s' from h);exact hf
 | y :: l,x,h,hl,s,s',ha,hf=>by
   obtain⟨s1,hs,ha⟩:=all_step ha;exact has_srcs l (nfit_src1 h (hl y (by simp))).1 (fun z hz=>hl z (List.mem_cons_of_mem _ hz)) ha (has_src1 h (hl y (by simp)) hs hf)
theorem ef_at {x:Nw} (h:x.Fit0) {l:List Ef} (hl:∀ y ∈ l,EfG y) {s s':Tl} (ha:Tl.all l s=some s') (hf:∀ u,s.f u=x.has u) {i:Nat} {y:Ef} (hi:l[i]?=some y):EfL (x.srcs (l.take i)) y:=by
 obtain⟨hil,hy⟩:=List.getElem?_eq_some_iff.1 hi;have hd:l=l.take i++(y :: l.drop (i+1)):=by rw[← hy,List.getElem_cons_drop,List.take_append_drop]
 rw[hd,Tl.all_append] at ha;cases hb:Tl.all (l.take i) s with
 | none=>rw[hb] at ha;cases ha
 | some s1 =>
   rw[hb] at ha;obtain⟨s2,h2,_⟩:=all_step ha;exact efL_of (hl y (List.mem_of_getElem? hi)) h2 (has_srcs _ h (fun z hz=>hl z (List.mem_of_mem_take hz)) hb hf)
abbrev tolN (p:Int × Int × ByteArray):List Value:=[.int .i64 p.1,.int .i64 p.2.1,.string p.2.2]
abbrev TNt:TypeId:=97
abbrev TNold:TypeId:=216
theorem tyNold:ETy Tryz.prog 35 TNold 3 32 tolN :=
 ⟨Tryz.underlying35,⟨.agg #[.int .i64 0,.int .i64 0,.string ⟨#[]⟩],by kernel_rfl,rfl⟩,fun _=>rfl,fun b u hu=>by simp[tolN] at hu;rcases hu with rfl | rfl | rfl <;> rfl,by decide,by decide⟩
theorem tyLinks:MTy Tryz.prog 93 3 106 kInt :=
 ⟨Tryz.underlying93,Maps.int_keyed Tryz.underlying3,fun _ h=>⟨_,Maps.keyOf_int_mk Tryz.underlying3 h⟩⟩
theorem zeroEn (w:World):(zeroValue 106).run Tryz.prog w=.ok (.pointer none) w:=by kernel_rfl
abbrev Lks:=List (Int × Nat × En)
def lkOf (L:Lks):List (Int × Nat):=L.map fun p=>(p.1,p.2.1)
def enOf (L:Lks):List (Int × En):=L.map fun p=>(p.1,p.2.2)
def ensAt:Lks->HP
 | []=>1
 | p :: l=>EnAt p.2.1 p.2.2*ensAt l
theorem ens_look:∀ {L:Lks} {i:Int},(mlook (lkOf L) i).isSome=(mlook (enOf L) i).isSome
 | [],_=>rfl
 | p :: l,i=>by
   show (if p.1=i then some p.2.1 else mlook (lkOf l) i).isSome=(if p.1=i then some p.2.2 else mlook (enOf l) i).isSome
   split
   ·rfl
   ·exact ens_look
theorem ens_take:∀ {L:Lks} {i:Int} {e:En},mlook (enOf L) i=some e->∃ p Z,mlook (lkOf L) i=some p/\ensAt L=EnAt p e*Z/\(∀ e',∃ L',ensAt L'=EnAt p e'*Z/\lkOf L'=lkOf L/\enOf L'=mput (enOf L) i e')/\∃ L',Z=ensAt L'/\lkOf L'=mdel (lkOf L) i/\enOf L'=mdel (enOf L) i
 | [],_,_,h=>by cases h
 | (j,p,y) :: l,i,e,h=>by
  have hh:(if j=i then some y else mlook (enOf l) i)=some e:=h;by_cases hj:j=i
  ·rw[if_pos hj] at hh
   obtain rfl:=Option.some.inj hh;subst hj;refine⟨p,ensAt l,if_pos rfl,rfl,fun e'=>⟨(j,p,e') :: l,rfl,rfl,?_⟩,l,rfl,?_,?_⟩
   ·show _=if j=j then _ else _
    rw[if_pos rfl];rfl
   ·show _=if j=j then _ else _
    rw[if_pos rfl];rfl
   ·show _=if j=j then _ else _
    rw[if_pos rfl];rfl
  ·rw[if_neg hj] at hh
   obtain⟨q,Z,h1,h2,h3,L2,h4,h5,h6⟩:=ens_take hh;refine⟨q,EnAt p y*Z,(if_neg hj).trans h1,?_,fun e'=>?_,(j,p,y) :: L2,?_,?_,?_⟩
   ·show EnAt p y*ensAt l=_
    rw[h2];ac_rfl
   ·obtain⟨L',a,b,c⟩:=h3 e'
    refine⟨(j,p,y) :: L',?_,?_,?_⟩
    ·show EnAt p y*ensAt L'=_
     rw[a];ac_rfl
    ·show (j,p) :: lkOf L'=(j,p) :: lkOf l
     rw[b]
    ·show (j,y) :: enOf L'=if j=i then _ else (j,y) :: mput (enOf l) i e'
     rw[if_neg hj,c]
   ·show _=EnAt p y*ensAt L2
    rw[h4]
   ·show (j,p) :: lkOf L2=if j=i then _ else (j,p) :: mdel (lkOf l) i
    rw[if_neg hj,h5]
   ·show (j,y) :: enOf L2=if j=i then _ else (j,y) :: mdel (enOf l) i
    rw[if_neg hj,h6]
theorem ens_add:∀ {L:Lks} {i:Int} (p:Nat) (e:En),mlook (enOf L) i=none->∃ L',ensAt L'=EnAt p e*ensAt L/\lkOf L'=mput (lkOf L) i p/\enOf L'=mput (enOf L) i e
 | [],i,p,e,_=>⟨[(i,p,e)],rfl,rfl,rfl⟩
 | (j,q,y) :: l,i,p,e,h=>by
  have hh:(if j=i then some y else mlook (enOf l) i)=none:=h;by_cases hj:j=i
  ·rw[if_pos hj] at hh;cases hh
  ·rw[if_neg hj] at hh
   obtain⟨L',a,b,c⟩:=ens_add p e hh;refine⟨(j,q,y) :: L',?_,?_,?_⟩
   ·show EnAt q y*ensAt L'=EnAt p e*(EnAt q y*ensAt l)
    rw[a];ac_rfl
   ·show (j,q) :: lkOf L'=if j=i then _ else (j,q) :: mput (lkOf l) i p
    rw[if_neg hj,b]
   ·show (j,y) :: enOf L'=if j=i then _ else (j,y) :: mput (enOf l) i e
    rw[if_neg hj,c]
def muxOf (l:List (Int × En)):Mx:=⟨128,l.map fun p=>((0,p.1),p.1)⟩
theorem mux_look:∀ (l:List (Int × En)) (a i:Int),mlook (muxOf l).l (a,i)=if a=0 then (mlook l i).map fun _=>i else none
 | [],_,_=>by split <;> rfl
 | p :: l,a,i=>by
   show (if ((0:Int),p.1)=(a,i) then some p.1 else mlook (muxOf l).l (a,i))=if a=0 then (if p.1=i then some p.2 else mlook l i).map _ else none
   rw[mux_look l a i];by_cases ha:a=0
   ·subst ha
    by_cases hp:p.1=i
    ·subst hp;simp
    ·rw[if_neg (fun e=>hp (Prod.mk.inj e).2),if_pos rfl,if_pos rfl,if_neg hp]
   ·rw[if_neg (fun e=>ha (Prod.mk.inj e).1.symm),if_neg ha,if_neg ha]
structure Np where
 s:Nat
 m:Nat
 b:Nat
 c:Nat
 p:Nat
abbrev Nw.cells (x:Nw) (q:Np) (sv tv:Value):Array Value:=#[.int .i64 x.cf.k,.int .i64 x.cf.n200,.int .i64 x.cf.t200,.int .i64 x.cf.t201,.int .i64 x.cf.t203,ptr q.s,ptrX q.m,.map (some q.b),ptrC q.c,ptrD q.p,.int .i64 x.now,sv,tv]
abbrev NwIn (q:Np) (x:Nw) (L:Lks) (Z:HP):HP:=SAt q.s x.s*(XAt q.m (muxOf x.l)*(MAt kInt ptr q.b (lkOf L)*(ensAt L*(CAt q.c x.c*(DeAt q.p x.d*Z)))))
abbrev NwC (q:Np) (x:Nw) (L:Lks) (Z:HP):HP:=SAt q.s x.s*(XAt q.m (muxOf x.l)*(MAt kInt ptr q.b (lkOf L)*(ensAt L*(DeAt q.p x.d*Z))))
theorem nw_c (B:HP) (q:Np) (x:Nw) (L:Lks) (Z:HP):B*NwIn q x L Z=CAt q.c x.c*(B*NwC q x L Z):=by unfold NwIn NwC;ac_rfl
def NwAt (t:Nat) (q:Np) (lk:List (Int × Nat)) (x:Nw):HP:=hex fun sv:Value=>hex fun tv:Value=>hex fun L:Lks=>fact (enOf L=x.l/\lkOf L=lk) *
 (blk t (.cells (x.cells q sv tv) TNt (0,0))*NwIn q x L (LAt 9 1 encS sv x.sent*LAt TNold 3 tolN tv x.told))
section
variable {w0 w:World} {R:HP} {t:Nat} {q:Np} {lk:List (Int × Nat)} {x:Nw}
theorem St.nw_open (h:St w0 w (NwAt t q lk x*R)):∃ sv tv L,(enOf L=x.l/\lkOf L=lk)/\St w0 w (blk t (.cells (x.cells q sv tv) TNt (0,0))*NwIn q x L (LAt 9 1 encS sv x.sent*(LAt TNold 3 tolN tv x.told*R))):=by
 obtain⟨sv,h⟩:=h.ex;obtain⟨tv,h⟩:=h.ex;obtain⟨L,h⟩:=h.ex;obtain⟨e,h⟩:=(h.eq (star_assoc _ _ _)).out;exact⟨sv,tv,L,e,h.eq (by unfold NwIn;simp only[star_assoc])⟩
theorem St.nw_shut {sv tv:Value} {L:Lks} (e:enOf L=x.l/\lkOf L=lk) (h:St w0 w (blk t (.cells (x.cells q sv tv) TNt (0,0))*NwIn q x L (LAt 9 1 encS sv x.sent*(LAt TNold 3 tolN tv x.told*R)))):St w0 w (NwAt t q lk x*R) :=
 St.mk_ex sv (St.mk_ex tv (St.mk_ex L ((St.inn e (h.eq (show _=(blk t (.cells (x.cells q sv tv) TNt (0,0))*NwIn q x L (LAt 9 1 encS sv x.sent*LAt TNold 3 tolN tv x.told))*R by simp only[star_assoc]))).eq (star_assoc _ _ _).symm)))
def NwOff (t:Nat) (x:Nw):HP:=hex fun q:Np=>hex fun sv:Value=>hex fun tv:Value=>hex fun L:Lks=>fact (enOf L=x.l) *
 (blk t (.cells (x.cells q sv tv) TNt (0,0))*NwIn q x L 1)
theorem St.noff_open (h:St w0 w (NwOff t x*R)):∃ q sv tv L,enOf L=x.l/\St w0 w (blk t (.cells (x.cells q sv tv) TNt (0,0))*NwIn q x L R):=by
 obtain⟨q,h⟩:=h.ex;obtain⟨sv,h⟩:=h.ex;obtain⟨tv,h⟩:=h.ex;obtain⟨L,h⟩:=h.ex;obtain⟨e,h⟩:=(h.eq (star_assoc _ _ _)).out;exact⟨q,sv,tv,L,e,h.eq (by unfold NwIn;simp only[star_assoc,one_star])⟩
theorem St.noff_shut {q:Np} {sv tv:Value} {L:Lks} (e:enOf L=x.l) (h:St w0 w (blk t (.cells (x.cells q sv tv) TNt (0,0))*NwIn q x L R)):St w0 w (NwOff t x*R) :=
 St.mk_ex q (St.mk_ex sv (St.mk_ex tv (St.mk_ex L ((St.inn e (h.eq (show _=(blk t (.cells (x.cells q sv tv) TNt (0,0))*NwIn q x L 1)*R by unfold NwIn;simp only[star_assoc,one_star]))).eq (star_assoc _ _ _).symm))))
end
theorem St.lk_some {w0 w:World} {R:HP} {b p:Nat} {l:List (Int × Nat)} {i:Int} (h:St w0 w (MAt kInt ptr b l*R)) (hk:kInt.ok i) (hr:mlook l i=some p) :
  (Instr.lookup 93 (.map (some b)) (.int .i64 i) false).run Tryz.prog w=.ok (ptr p) w:=by
 have:=h.map_look tyLinks i hk (zeroEn _) false
 rw[hr] at this;exact this
theorem St.lk_none {w0 w:World} {R:HP} {b:Nat} {l:List (Int × Nat)} {i:Int} (h:St w0 w (MAt kInt ptr b l*R)) (hk:kInt.ok i) (hr:mlook l i=none) :
  (Instr.lookup 93 (.map (some b)) (.int .i64 i) false).run Tryz.prog w=.ok (.pointer none) w:=by
 have:=h.map_look tyLinks i hk (zeroEn _) false
 rw[hr] at this;exact this
theorem nw_begin_nil (now:Int) (w:World):Calls Tryz.prog 32 #[.pointer none,.int .i64 now] w fun e w'=>e=.returned (.int .i64 1)/\w=w':=by
 go_enter Tryz.func32,Tryz.ntmps32
 go_wp2;go_ret
 exact⟨rfl,rfl⟩
theorem nw_begin_bad (t:Nat) (x:Nw) (now:Int) (hb:badNow now=true) (w0 w:World) (R:HP) (h:St w0 w (NwOff t x*R)) :
  Calls Tryz.prog 32 #[ptr t,.int .i64 now] w fun e w'=>e=.returned (.int .i64 2)/\St w0 w' (NwOff t x.hush*R):=by
 have h':St w0 w (NwOff t x.hush*R):=h;unfold badNow at hb;by_cases a:now<0
 ·have qa:decide (now<0)=true:=decide_eq_true a
  clear a hb h;go_enter Tryz.func32,Tryz.ntmps32
  go_wp2;go_ret
  exact⟨rfl,h'⟩
 have qa:decide (now<0)=false:=decide_eq_false a;have b:9007199254740992<now:=(of_decide_eq_true hb).resolve_left a;have qb:decide (9007199254740992<now)=true:=decide_eq_true b;clear a b hb h;go_enter Tryz.func32,Tryz.ntmps32
 go_wp2;go_ret
 exact⟨rfl,h'⟩
theorem nw_begin (t:Nat) (x:Nw) (now:Int) (hb:badNow now=false) (w0 w:World) (R:HP) (h:St w0 w (NwOff t x*R)) :
  Calls Tryz.prog 32 #[ptr t,.int .i64 now] w fun e w'=>∃ q lk,e=.returned (.int .i64 0)/\St w0 w' (NwAt t q lk (x.begin now)*R):=by
 unfold badNow at hb;have hb2:=of_decide_eq_false hb;have qa:decide (now<0)=false:=decide_eq_false (fun a=>hb2 (.inl a));have qb:decide (9007199254740992<now)=false:=decide_eq_false (fun a=>hb2 (.inr a));clear hb hb2;obtain⟨q,sv,tv,L,hL,h1⟩:=h.noff_open;have cc:=h1.cell;have ff:=h1.free;have h2:=((h1.set 10 (.int .i64 now)).set 11 (.slice none 0 0)).set 12 (.slice none 0 0);clear h;have HL:=Lib.hid hL;clear hL;go_enter Tryz.func32,Tryz.ntmps32
 go_upto_region 6 with fail
 generalize ((w.setCell _ _).setCell _ _).setCell _ _=w2 at *;have h3:=(h2.l_nil TNold 3 tolN).l_nil 9 1 encS;have h4:St w0 w2 (NwAt t q (lkOf L) (x.begin now)*R):=St.nw_shut (x:=x.begin now) (q:=q) (sv:=.slice none 0 0) (tv:=.slice none 0 0) ⟨HL.out,rfl⟩ (h3.eq (show _=blk t _*NwIn q x L (LAt 9 1 encS (.slice none 0 0) []*(LAt TNold 3 tolN (.slice none 0 0) []*R)) by unfold NwIn;ac_rfl));clear h1 h2 h3 cc ff;go_wp2;go_ret
 exact⟨q,_,rfl,h4⟩
theorem nw_period (t:Nat) (tm a b c:Int) (w:World) (h2:w.cell? ⟨t,2,none⟩=some (.int .i64 a)) (h3:w.cell? ⟨t,3,none⟩=some (.int .i64 b)) (h4:w.cell? ⟨t,4,none⟩=some (.int .i64 c)) :
  Calls Tryz.prog 150 #[ptr t,.int .i64 tm] w fun r w'=>r=.returned (.int .i64 (if tm=200 then a else if tm=201 then b else c))/\w=w':=by
 by_cases k0:tm=200
 ·rw[if_pos k0]
  subst k0;go_enter Tryz.func150,Tryz.ntmps150
  go_wp2;go_ret
  exact⟨rfl,rfl⟩
 have q0:(tm == 200)=false:=by simp[k0]
 rw[if_neg k0];by_cases k1:tm=201
 ·rw[if_pos k1]
  subst k1;go_enter Tryz.func150,Tryz.ntmps150
  go_wp2;go_ret
  exact⟨rfl,rfl⟩
 have q1:(tm == 201)=false:=by simp[k1]
 rw[if_neg k1];go_enter Tryz.func150,Tryz.ntmps150
 go_wp2;go_ret
 exact⟨rfl,rfl⟩
theorem nw_start (t:Nat) (q:Np) (lk:List (Int × Nat)) (x:Nw) (i tm:Int) (hk:okK (i,tm)) (w0 w:World) (R:HP) (h:St w0 w (NwAt t q lk x*R)) :
  Calls Tryz.prog 86 #[ptr t,.int .i64 i,.int .i64 tm] w fun r w'=>r=.returned (.tuple #[])/\St w0 w' (NwAt t q lk (x.start i tm)*R):=by
 obtain⟨sv,tv,L,hL,h1⟩:=h.nw_open;have HLL:=Lib.hid hL;have k2:w.drew.cell? ⟨t,2,none⟩=some (.int .i64 x.cf.t200):=(h1.drew.cell 2).trans rfl;have k3:w.drew.cell? ⟨t,3,none⟩=some (.int .i64 x.cf.t201):=(h1.drew.cell 3).trans rfl;have k4:w.drew.cell? ⟨t,4,none⟩=some (.int .i64 x.cf.t203):=(h1.drew.cell 4).trans rfl;have k8:w.drew.cell? ⟨t,8,none⟩=some (ptrC q.c):=(h1.drew.cell 8).trans rfl;have k10:w.drew.cell? ⟨t,10,none⟩=some (.int .i64 x.now):=(h1.drew.cell 10).trans rfl;have hp:=nw_period t tm x.cf.t200 x.cf.t201 x.cf.t203 w.drew k2 k3 k4;obtain⟨P,hP⟩:∃ P,x.per tm=P:=⟨_,rfl⟩;rw[show (if tm=200 then x.cf.t200 else if tm=201 then x.cf.t201 else x.cf.t203)=P from hP] at hp;have hc:=c_start q.c x.c (i,tm) hk x.now P w0 w.drew _ (h1.drew.eq (nw_c _ _ _ _ _));have HP:=Lib.hid hP;clear h h1 hL hP;go_enter Tryz.func86,Tryz.ntmps86
 go_upto_region 0 with fail
 refine wp_region_held_drew (S:=fun wx=>wx.cell? ⟨t,8,none⟩=some (ptrC q.c)/\wx.cell? ⟨t,10,none⟩=some (.int .i64 x.now)) (by kernel_rfl) ⟨k8,k10⟩ (fun hHeld=>?_)
 clear k8 k10 k2 k3 k4;generalize w.drew=wd at *;refine tk 0 ?_ rfl (fun w hSw=>?_) ?_
 rotate_left 1
 ·try dsimp only at hSw
  go_simp
  try with_reducible rfl
 try simp only[Act.put,sl]
 refine tk 1 ?_ rfl (fun w hSw=>?_) ?_
 rotate_left 1
 ·try dsimp only at hSw
  go_simp
  try with_reducible rfl
 try simp only[Act.put,sl]
 refine tk 2 ?_ rfl (fun w hSw=>?_) ?_
 rotate_left 1
 ·try dsimp only at hSw
  go_simp
  try with_reducible rfl
 try simp only[Act.put,sl]
 refine tk 3 ?_ rfl (fun w hSw=>?_) ?_
 rotate_left 1
 ·try dsimp only at hSw
  go_simp
  try with_reducible rfl
 try simp only[Act.put,sl]
 refine tk 4 ?_ rfl (fun w hSw=>?_) ?_
 rotate_left 1
 ·try dsimp only at hSw
  go_simp
  try with_reducible rfl
 try simp only[Act.put,sl]
 refine tk 5 ?_ rfl (fun w hSw=>?_) ?_
 rotate_left 1
 ·try dsimp only at hSw
  go_simp
  try with_reducible rfl
 try simp only[Act.put,sl]
 refine tk 6 ?_ rfl (fun w hSw=>?_) ?_
 rotate_left 1
 ·try dsimp only at hSw
  go_simp
  try with_reducible rfl
 try simp only[Act.put,sl]
 refine tk 7 ?_ rfl (fun w hSw=>?_) ?_
 rotate_left 1
 ·try dsimp only at hSw
  go_simp
  try with_reducible rfl
 try simp only[Act.put,sl]
 refine tk 8 ?_ rfl (fun w hSw=>?_) ?_
 rotate_left 1
 ·try dsimp only at hSw
  go_simp
  try with_reducible rfl
 try simp only[Act.put,sl]
 refine tk 9 ?_ rfl (fun w hSw=>?_) ?_
 rotate_left 1
 ·try dsimp only at hSw
  go_simp
  try with_reducible rfl
 try simp only[Act.put,sl]
 refine tk 10 ?_ rfl (fun w hSw=>?_) ?_
 rotate_left 1
 ·try dsimp only at hSw
  go_simp
  try with_reducible rfl
 try simp only[Act.put,sl]
 refine tk 11 ?_ rfl (fun w hSw=>?_) ?_
 rotate_left 1
 ·try dsimp only at hSw
  go_simp
  try with_reducible rfl
 try simp only[Act.put,sl]
 refine tk 12 ?_ rfl (fun w hSw=>?_) ?_
 rotate_left 1
 ·try dsimp only at hSw
  go_simp
  try with_reducible rfl
 try simp only[Act.put,sl]
 refine rd 13 rfl (fun K hK=>?_)
 go_simp
 go_at_call 150
 refine hp.mono ?_
 rintro r w5 ⟨rfl,rfl⟩;have hH2:=hHeld;clear hp hHeld;go_simp
 refine hK.out _ _ hH2 (fun hHeld=>?_)
 clear hK K;try simp only[Act.put,sl]
 clear hH2;refine rd 14 rfl (fun K hK=>?_)
 go_simp
 go_at_call 149
 refine hc.mono ?_
 rintro r w5 ⟨rfl,h5⟩;clear hc;have h6:St w0 w5 (NwAt t q lk (x.start i tm)*R):=by
  unfold Nw.start;rw[HP.out];exact St.nw_shut (x:={ x with c:=_ }) (q:=q) (sv:=sv) (tv:=tv) HLL.out (h5.eq (nw_c _ q { x with c:=_ } L _).symm)
 have c5:=h5.f2.cell;go_simp
 refine hK.out _ _ ⟨(c5 8).trans rfl,(c5 10).trans rfl⟩ (fun hHeld=>?_)
 clear hK K;try simp only[Act.put,sl]
 refine wpAnyH_done (by kernel_rfl) ?_ _
 clear c5 h5 hHeld;go_wp2;go_end0
 exact⟨rfl,h6⟩
theorem nw_send (t:Nat) (q:Np) (lk:List (Int × Nat)) (x:Nw) (f:Fr) (ok:PutOk f) (hl:x.sent.length<=1000000000000) (w0 w:World) (R:HP) (hN:∀ w',St w0 w' R->NamesAt w') (hF:∀ w',St w0 w' R->FirstAt w') (h:St w0 w (NwAt t q lk x*R)) :
  Calls Tryz.prog 63 #[ptr t,.agg f.cells.toArray] w fun r w'=>r=.returned (.tuple #[])/\St w0 w' (NwAt t q lk (x.send f)*R):=by
 have hz:=putO_size (net:=true) ok;have h1:=h.alloc (.cells f.cells.toArray TFr);have hp:=p_put f true ok w0 _ _ (fun w' h=>hN w' h.drop.drop) (fun w' h=>hF w' h.drop.drop) h1;have c1:=h1.cell;unfold Nw.send;generalize putO f true=oc at *;have he:=fun v A h=>h_encode oc w0 v A h (by omega)
 generalize bstr (encB oc.data.toList)=bs at *;obtain⟨a1,a2,cmd,k,pf,ns,nr,inf⟩:=f;simp only[Fr.cells] at *;clear h ok hN hF hz;go_enter Tryz.func63,Tryz.ntmps63
 go_upto_region 1 with fail
 generalize w.alloc _=wa at *;generalize w.heap.size=gf at *;go_upto_region 2 with (go_at_call 35;refine hp.mono ?_;rintro e w5 ⟨rfl,h5⟩)
 obtain⟨sv,tv,L,hL,h6⟩:=h5.drop.nw_open;have HLL:=Lib.hid hL;obtain⟨n,hn⟩:∃ n,x.sent.length=n:=⟨_,rfl⟩;have hle:(x.sent.length+[bs].length)*16<=140737488355328:=by show (x.sent.length+1)*16<=_;omega
 clear c1 hp h1 h5 hL;have c6:=h6.drew.cell;have h60:=h6.drew;go_region_law (first
  | (go_simp;go_at_call 36;with_reducible refine (he _ _ h60).mono ?_;rintro r w7 ⟨rfl,h7⟩;have c7:=h7.cell;have c9:=(h7.alloc (.cells #[.string bs] 9)).f2.cell;have HX:=(((h7.alloc (.cells #[.string bs] 9)).l_mk (enc:=encS) (sz:=1) tyStr.len [bs] 1 rfl rfl (by decide)).eq (show _=LAt 9 1 encS sv x.sent*(LAt 9 1 encS (.slice (some ⟨w7.heap.size,0,none⟩) 1 1) [bs]*(blk t _*NwIn q x L (LAt TNold 3 tolN tv x.told*R))) by unfold NwIn;ac_rfl)))
  | (refine step_append_l rfl (.tmp 16) (.tmp 19) rfl tyStr HX (by simp) rfl rfl hle ?_;intro g off cap w8 h12;have c8:=h12.f2.cell;have f8:=h12.f2.free))
 all_goals
  rw[hn] at h12;have h13:=h12.f2.set 11 (.slice (some ⟨g,off,none⟩) (n+1) cap);have h14:St w0 _ (NwAt t q lk { x with sent:=x.sent++[bs] }*R):=St.nw_shut (x:={ x with sent:=x.sent++[bs] }) (q:=q) (sv:=.slice (some ⟨g,off,none⟩) (n+1) cap) (tv:=tv) HLL.out (h13.eq (by unfold NwIn;ac_rfl));go_end0
  exact⟨rfl,h14⟩
theorem link1_len (x:Nw) (i:Int) (y:Fx):(x.link1 i y).len<=x.len+1:=by
 unfold Nw.link1;split
 ·exact Nat.le_of_eq (nsend_len _)
 ·split
  ·exact Nat.le_succ _
  ·split
   ·exact Nat.le_succ _
   ·split
    ·exact Nat.le_succ _
    ·exact Nat.le_of_eq (ntell_len _ _ _)
theorem links_len (i:Int):∀ (l:List Fx) (x:Nw),(x.links i l).len<=x.len+l.length
 | [],_=>Nat.le_refl _
 | y :: l,x=>by
   have h1:=link1_len x i y;have h2:=links_len i l (x.link1 i y);rw[List.length_cons];exact Nat.le_trans h2 (by omega)
theorem nx_put {l:List Fx} (h:Nxs l) {y:Fx} (hy:y ∈ l) (k0:y.kind=0):PutOk y.fr:=by
 rcases h y hy with ⟨t,t0,t1,f,_⟩ | e
 ·have f:=f k0
  exact⟨by rw[f.sapi];decide,by rw[f.sapi];decide,by rw[f.tei];exact t0,by rw[f.tei];omega,f.may,f.car,f.ns0,f.ns1,f.nr0,f.nr1⟩
 ·rw[k0] at e;exact absurd e (by decide)
theorem nx_key {l:List Fx} (h:Nxs l) {y:Fx} (hy:y ∈ l) (k8:y.kind≠8) {i:Int} (hi:64<=i/\i<=126):okK (i,y.timer):=by
 rcases h y hy with ⟨t,_,_,_,f,_⟩ | e
 ·refine⟨WalkArith.wf_i64 (by omega),?_⟩
  rcases f with ⟨e,_⟩ | e | e
  ·show (Lit.int .i64 y.timer).wf=true;rw[e];decide
  ·show (Lit.int .i64 y.timer).wf=true;rw[e];decide
  ·show (Lit.int .i64 y.timer).wf=true;rw[e];decide
 ·exact absurd e k8
theorem nw_links (t:Nat) (q:Np) (lk:List (Int × Nat)) (x:Nw) (i:Int) (hi:64<=i/\i<=126) (v:Value) (l:List Fx) (hx:Nxs l) (hl0:l.length<=1000000) (hl:x.len+l.length<=1000000000000) (w0 w:World) (R:HP) (hN:∀ w',St w0 w' R->NamesAt w') (hF:∀ w',St w0 w' R->FirstAt w')
  (h:St w0 w (LAt TFx 11 Fx.cells v l*(NwAt t q lk x*R))) :
  Calls Tryz.prog 43 #[ptr t,.int .i64 i,v] w fun r w'=>r=.returned (.tuple #[])/\St w0 w' (LAt TFx 11 Fx.cells v l*(NwAt t q lk (x.links i l)*R)):=by
 obtain⟨n,hn⟩:∃ n,l.length=n:=⟨_,rfl⟩;have sh:=h.l_shape;rw[hn] at sh;obtain⟨a,cap,rfl,hcap,hmax⟩:=sh;have HH:=Lib.hid h;have HC:=Lib.hid hx;have HL:=Lib.hid hl;have HN:=Lib.hid hN;have HF:=Lib.hid hF;have HNn:=Lib.hid hn;have HI9:=Lib.hid hi;have hn9:n<=1000000:=by omega
 clear h hx hl hl0 hN hF hn hi;go_enter Tryz.func43,Tryz.ntmps43
 go_wp2;go_loopw [10] (fun s10 wr=>∃ j:Nat,j<=n/\s10=.int .i64 j/\Hid (St w0 wr (LAt TFx 11 Fx.cells (.slice a n cap) l*(NwAt t q lk (x.links i (l.take j))*R)))) (fun s10 _=>n - (intOf s10).toNat)
 case atStart=>exact⟨0,by omega,rfl,HH⟩
 case round =>
  clear HH;obtain⟨j,hj,rfl,HI⟩:=hrel;by_cases hlt:j<n
  ·have hil:j<l.length:=by have:=HNn.out;omega
   obtain⟨y,hy⟩:∃ y,l[j]?=some y:=⟨l[j],List.getElem?_eq_getElem hil⟩;have htk:x.links i (l.take (j+1))=(x.links i (l.take j)).link1 i y:=by
    rw[List.take_add_one,hy,Option.toList_some,links_snoc]
   have hmem:=List.mem_of_getElem? hy;have hput:=nx_put HC.out hmem;have hkey:=fun k8=>nx_key HC.out hmem k8 HI9.out
   have s1:=links_len i (l.take j) x;have s3:(l.take j).length=j:=by rw[List.length_take];omega
   have hll:=HL.out;have hnn:=HNn.out;generalize x.links i (l.take j)=z at *;rcases HI.out.l_cells tyFx.len with ⟨h0,_⟩ | ⟨g,off,cap',hv,_,_,hcell⟩
   ·rw[h0] at hil;exact absurd hil (by simp)
   ·simp only[Value.slice.injEq] at hv
    obtain⟨rfl,hq,rfl⟩:=hv;clear hq;have hce:=hcell j y hy;obtain⟨kd,⟨f1,f2,f3,f4,f5,f6,f7,f8⟩,dt,tm⟩:=y;have d0:wr.cell? ⟨g,off+j*11,none⟩=some (.int .i64 kd):=hce 0 _ rfl;have d1:wr.cell? ⟨g,off+j*11+1,none⟩=some (.int .i64 f1):=hce 1 _ rfl;have d2:wr.cell? ⟨g,off+j*11+2,none⟩=some (.int .i64 f2):=hce 2 _ rfl;have d3:wr.cell? ⟨g,off+j*11+3,none⟩=some (.bool f3):=hce 3 _ rfl;have d4:wr.cell? ⟨g,off+j*11+4,none⟩=some (.int .i64 f4):=hce 4 _ rfl;have d5:wr.cell? ⟨g,off+j*11+5,none⟩=some (.bool f5):=hce 5 _ rfl;have d6:wr.cell? ⟨g,off+j*11+6,none⟩=some (.int .i64 f6):=hce 6 _ rfl;have d7:wr.cell? ⟨g,off+j*11+7,none⟩=some (.int .i64 f7):=hce 7 _ rfl;have d8:wr.cell? ⟨g,off+j*11+8,none⟩=some (.string f8):=hce 8 _ rfl;have d9:wr.cell? ⟨g,off+j*11+9,none⟩=some (.string dt):=hce 9 _ rfl;have d10:wr.cell? ⟨g,off+j*11+10,none⟩=some (.int .i64 tm):=hce 10 _ rfl;have HT:=Lib.hid htk;have hd:=HI.out.alloc (.cells #[.int .i64 kd,.int .i64 f1,.int .i64 f2,.bool f3,.int .i64 f4,.bool f5,.int .i64 f6,.int .i64 f7,.string f8,.string dt,.int .i64 tm] TFx);have hsz:=Lib.hid (show z.sent.length<=1000000000000/\z.told.length<=1000000000000 by unfold Nw.len at s1 hll;omega);have hput:=Lib.hid hput;have hkey:=Lib.hid hkey;clear htk hce hcell hy hil s1 s3 hll hnn hmem;go_upto_region 3 with fail
    clear d0 d1 d2 d3 d4 d5 d6 d7 d8 d9 d10;generalize wr.alloc _=w2 at *;generalize wr.heap.size=gy at *;have c2:=hd.cell;by_cases k0:kd=0
    ·have hs:=nw_send t q lk z ⟨f1,f2,f3,f4,f5,f6,f7,f8⟩ (hput.out k0) hsz.out.1 w0 w2 _ (fun w' h=>HN.out w' h.drop.drop) (fun w' h=>HF.out w' h.drop.drop) (hd.eq (show _=NwAt t q lk z*(blk gy _*(LAt TFx 11 Fx.cells (.slice (some ⟨g,off,none⟩) n cap) l*R)) by ac_rfl))
     have hz:z.link1 i ⟨kd,⟨f1,f2,f3,f4,f5,f6,f7,f8⟩,dt,tm⟩=z.send ⟨f1,f2,f3,f4,f5,f6,f7,f8⟩:=by unfold Nw.link1;rw[if_pos k0]
     rw[hz] at HT;subst k0;clear HI hz hd;go_wp2_with fail
     refine hs.mono ?_
     rintro e w5 ⟨rfl,h5⟩;have h6:=(h5.eq (show _=blk gy _*(LAt TFx 11 Fx.cells (.slice (some ⟨g,off,none⟩) n cap) l*(NwAt t q lk _*R)) by ac_rfl)).drop;clear c2 hs h5;go_wp2;go_roundw
     case rel =>
      refine⟨j+1,by omega,by go_num,Lib.hid ?_⟩
      rw[HT.out];exact h6
     case measure=>simp[intOf];omega
    have q0:(kd == 0)=false:=by simp[k0]
    by_cases k9:kd=9
    ·have hs:=nw_start t q lk z i tm (hkey.out (show kd≠8 by omega)) w0 w2 _ (hd.eq (show _=NwAt t q lk z*(blk gy _*(LAt TFx 11 Fx.cells (.slice (some ⟨g,off,none⟩) n cap) l*R)) by ac_rfl))
     have hz:z.link1 i ⟨kd,⟨f1,f2,f3,f4,f5,f6,f7,f8⟩,dt,tm⟩=z.start i tm:=by unfold Nw.link1;rw[if_neg k0,if_pos k9]
     rw[hz] at HT;subst k9;clear HI hz hd k0 q0;go_wp2_with fail
     refine hs.mono ?_
     rintro e w5 ⟨rfl,h5⟩;have h6:=(h5.eq (show _=blk gy _*(LAt TFx 11 Fx.cells (.slice (some ⟨g,off,none⟩) n cap) l*(NwAt t q lk _*R)) by ac_rfl)).drop;clear c2 hs h5;go_wp2;go_roundw
     case rel =>
      refine⟨j+1,by omega,by go_num,Lib.hid ?_⟩
      rw[HT.out];exact h6
     case measure=>simp[intOf];omega
    have q9:(kd == 9)=false:=by simp[k9]
    by_cases k10:kd=10
    ·have hz:z.link1 i ⟨kd,⟨f1,f2,f3,f4,f5,f6,f7,f8⟩,dt,tm⟩=z.stop i tm:=by unfold Nw.link1;rw[if_neg k0,if_neg k9,if_pos k10]
     rw[hz] at HT;obtain⟨sv,tv,L,hL,h1⟩:=(hd.eq (show _=NwAt t q lk z*(blk gy _*(LAt TFx 11 Fx.cells (.slice (some ⟨g,off,none⟩) n cap) l*R)) by ac_rfl)).nw_open;have HLL:=Lib.hid hL;have e1:w2.drew.cell? ⟨t,8,none⟩=some (ptrC q.c):=(h1.drew.cell 8).trans rfl;have e2:w2.drew.cell? ⟨gy,10,none⟩=some (.int .i64 tm):=(hd.drew.cell 10).trans rfl;have hs:=c_stop q.c z.c (i,tm) (hkey.out (show kd≠8 by omega)) w0 w2.drew _ (h1.drew.eq (nw_c _ _ _ _ _));subst k10;clear HI hz hd k0 q0 k9 q9 hL;go_upto_region 10 with fail
     refine wp_region_held_drew (S:=fun wx=>wx.cell? ⟨t,8,none⟩=some (ptrC q.c)/\wx.cell? ⟨gy,10,none⟩=some (.int .i64 tm)) (by kernel_rfl) ⟨e1,e2⟩ (fun hHeld=>?_)
     clear e1 e2 c2 h1;generalize w2.drew=wd at *;refine tk 0 ?_ rfl (fun w hSw=>?_) ?_
     rotate_left 1
     ·try dsimp only at hSw
      go_simp
      try with_reducible rfl
     try simp only[Act.put,sl]
     refine tk 1 ?_ rfl (fun w hSw=>?_) ?_
     rotate_left 1
     ·try dsimp only at hSw
      go_simp
      try with_reducible rfl
     try simp only[Act.put,sl]
     refine tk 2 ?_ rfl (fun w hSw=>?_) ?_
     rotate_left 1
     ·try dsimp only at hSw
      go_simp
      try with_reducible rfl
     try simp only[Act.put,sl]
     refine tk 3 ?_ rfl (fun w hSw=>?_) ?_
     rotate_left 1
     ·try dsimp only at hSw
      go_simp
      try with_reducible rfl
     try simp only[Act.put,sl]
     refine tk 4 ?_ rfl (fun w hSw=>?_) ?_
     rotate_left 1
     ·try dsimp only at hSw
      go_simp
      try with_reducible rfl
     try simp only[Act.put,sl]
     refine tk 5 ?_ rfl (fun w hSw=>?_) ?_
     rotate_left 1
     ·try dsimp only at hSw
      go_simp
      try with_reducible rfl
     try simp only[Act.put,sl]
     refine tk 6 ?_ rfl (fun w hSw=>?_) ?_
     rotate_left 1
     ·try dsimp only at hSw
      go_simp
      try with_reducible rfl
     try simp only[Act.put,sl]
     refine tk 7 ?_ rfl (fun w hSw=>?_) ?_
     rotate_left 1
     ·try dsimp only at hSw
      go_simp
      try with_reducible rfl
     try simp only[Act.put,sl]
     refine rd 8 rfl (fun K hK=>?_)
     go_simp
     go_at_call 87
     refine hs.mono ?_
     rintro r w5 ⟨rfl,h5⟩;have h6:St w0 w5 (NwAt t q lk (z.stop i tm)*(blk gy _*(LAt TFx 11 Fx.cells (.slice (some ⟨g,off,none⟩) n cap) l*R))):=St.nw_shut (x:=z.stop i tm) (q:=q) (sv:=sv) (tv:=tv) HLL.out (h5.eq (nw_c _ q (z.stop i tm) L _).symm);go_simp
     refine hK.out _ _ ⟨(h5.f2.cell 8).trans rfl,(h6.f2.cell 10).trans rfl⟩ (fun hHeld=>?_)
     clear hK K;try simp only[Act.put,sl]
     refine wpAnyH_done (by kernel_rfl) ?_ _
     have h7:=h6.f2.drop.f2;clear h5 hs h6 hHeld;go_wp2;go_roundw
     case rel =>
      refine⟨j+1,by omega,by go_num,Lib.hid ?_⟩
      rw[HT.out];exact h7
     case measure=>simp[intOf];omega
    have q10:(kd == 10)=false:=by simp[k10]
    by_cases k8:kd=8
    ·have hz:z.link1 i ⟨kd,⟨f1,f2,f3,f4,f5,f6,f7,f8⟩,dt,tm⟩=z:=by unfold Nw.link1;rw[if_neg k0,if_neg k9,if_neg k10,if_pos k8]
     rw[hz] at HT;have h6:=hd.drop;subst k8;clear HI hz hd k0 q0 k9 q9 k10 q10;go_wp2;go_roundw
     case rel =>
      refine⟨j+1,by omega,by go_num,Lib.hid ?_⟩
      rw[HT.out];exact h6
     case measure=>simp[intOf];omega
    have q8:(kd == 8)=false:=by simp[k8]
    have hz:z.link1 i ⟨kd,⟨f1,f2,f3,f4,f5,f6,f7,f8⟩,dt,tm⟩=z.tell i kd dt:=by unfold Nw.link1;rw[if_neg k0,if_neg k9,if_neg k10,if_neg k8]
    rw[hz] at HT;obtain⟨sv,tv,L,hL,h1⟩:=(hd.eq (show _=NwAt t q lk z*(blk gy _*(LAt TFx 11 Fx.cells (.slice (some ⟨g,off,none⟩) n cap) l*R)) by ac_rfl)).nw_open;have HLL:=Lib.hid hL;have c3:=h1.cell;have cy:=hd.cell;have h3:=h1.alloc (.cells #[.int .i64 i,.int .i64 kd,.string dt] TNold);have c4:=h3.f2.cell;have HX:=((h3.l_mk (enc:=tolN) (sz:=3) tyNold.len [(i,kd,dt)] 1 rfl rfl (by decide)).eq (show _=LAt TNold 3 tolN tv z.told*(LAt TNold 3 tolN (.slice (some ⟨w2.heap.size,0,none⟩) 1 1) [(i,kd,dt)]*(blk t _*NwIn q z L (LAt 9 1 encS sv z.sent*(blk gy _*(LAt TFx 11 Fx.cells (.slice (some ⟨g,off,none⟩) n cap) l*R))))) by unfold NwIn;ac_rfl)).drew;have hle:(z.told.length+[(i,kd,dt)].length)*32<=140737488355328:=by have:=hsz.out.2;show (z.told.length+1)*32<=_;omega
    have c5:=(hd.alloc (.cells #[.int .i64 i,.int .i64 kd,.string dt] TNold)).f2.cell;obtain⟨nt,hnt⟩:∃ nt,z.told.length=nt:=⟨_,rfl⟩;clear HI hz k0 k9 k10 k8 h1 h3 hL;go_upto_region 4 with fail
    clear c2;go_region_law (refine step_append_l rfl (.tmp 21) (.tmp 28) rfl tyNold HX (by simp) rfl rfl hle ?_;intro g2 off2 cap2 w8 h12;have c8:=h12.f2.cell;have f8:=h12.f2.free)
    all_goals
     rw[hnt] at h12;have h13:=h12.f2.set 12 (.slice (some ⟨g2,off2,none⟩) (nt+1) cap2);generalize w8.setCell _ _=w9 at *;have h15:St w0 w9 (NwAt t q lk (z.tell i kd dt)*(blk gy _*(LAt TFx 11 Fx.cells (.slice (some ⟨g,off,none⟩) n cap) l*R))):=St.nw_shut (x:=z.tell i kd dt) (q:=q) (sv:=sv) (tv:=.slice (some ⟨g2,off2,none⟩) (nt+1) cap2) HLL.out (h13.eq (by unfold NwIn;ac_rfl));have h16:=h15.f2.drop.f2;clear c3 cy c4 c5 c8 f8 HX h12 h13 h15 hnt;go_wp2;go_roundw
     case rel =>
      refine⟨j+1,by omega,by go_num,Lib.hid ?_⟩
      rw[HT.out];exact h16
     case measure=>simp[intOf];omega
  ·obtain rfl:j=n:=by omega
   have hz:=HI.out;rw[List.take_of_length_le (by have:=HNn.out;omega)] at hz;clear HI;go_wp2;go_end0
   exact⟨rfl,hz⟩
end Go.Proofs.YtjcldoejpldcmaaGreatDoor
