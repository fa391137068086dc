/- Parts of a proof (ClockW, ClockRef, ClockRefB, ClockRefC, ClockRefD). No condition. -/
import Derived.Test.YtnnahljdhdippaaGreatDoorC17
import Derived.BigQuiet
import Derived.StillTailTactics
namespace Go.Proofs.YtnnahljdhdippaaGreatDoor
set_option maxRecDepth 100000
set_option maxHeartbeats 6400000
open Go.RowKit Go.Sort
theorem sortK_eq {l:Tms} {ks ks':List Key} (hp:ks'.Perm ks) (hs:ks'.Pairwise fun x y=>¬ aheadK l y x):sortK l ks=ks':=by
 refine List.Perm.eq_of_pairwise (le:=fun x y=>¬ aheadK l y x) (fun a b _ _ h1 h2=>?_) (sortK_sorted l ks) hs ((sortK_perm l ks).trans hp.symm)
 refine totalK l a b ?_ ?_
 ·rw[Bool.eq_false_iff];exact fun h=>h2 ((ltOf_cmpK l a b).1 h)
 ·rw[Bool.eq_false_iff];exact fun h=>h1 ((ltOf_cmpK l b a).1 h)
theorem till_mem {l:Tms} (hn:(l.map (·.1)).Nodup) {p:Key × Int} (hp:p ∈ l):till l p.1=p.2:=by
 obtain⟨i,hi,e⟩:=List.getElem_of_mem hp;unfold till;rw[mlook_at (k:=p.1) (u:=p.2) hn (j:=i) (by rw[List.getElem?_eq_getElem hi,e])];rfl
def but (l:Tms) (g:Key):Tms:=l.filter fun p=>decide (p.1≠g)
theorem mput_cons (p:Key × Int) (l:Tms) (k:Key) (v:Int):mput (p :: l) k v=if p.1=k then (k,v) :: l else p :: mput l k v:=by rw[mput.eq_def]
open Go.RowKit Go.Sort
abbrev tmC (p:Key × Int):List Value:=[.int .i64 p.1.1,.int .i64 p.1.2,.int .i64 p.2]
theorem tyTm:ETy Tryz.prog 117 277 3 24 tmC :=
 ⟨Tryz.underlying117,⟨.agg #[.int .i64 0,.int .i64 0,.int .i64 0],by kernel_rfl,rfl⟩,fun _=>rfl,fun b u hu=>by simp[tmC] at hu;rcases hu with rfl | rfl | rfl <;> rfl,by decide,by decide⟩
def CRef (r:Nat) (L:Tms):HP:=hex fun v:Value=>blk r (.cells #[v] 119 (0,0))*LAt 277 3 tmC v L
section
variable {w0 w:World} {R:HP} {r:Nat} {L:Tms}
theorem St.r_open (h:St w0 w (CRef r L*R)):∃ v,St w0 w (blk r (.cells #[v] 119 (0,0))*(LAt 277 3 tmC v L*R)):=by
 obtain⟨b,h⟩:=h.ex;exact⟨b,h.eq (star_assoc _ _ _)⟩
theorem St.r_shut {v:Value} (h:St w0 w (blk r (.cells #[v] 119 (0,0))*(LAt 277 3 tmC v L*R))):St w0 w (CRef r L*R) :=
 St.mk_ex v (h.eq (star_assoc _ _ _).symm)
theorem St.l_tail {β:Type} {E:TypeId} {sz n:Nat} {enc:β->List Value} {b:β} {l:List β} {g off cap:Nat} (h:St w0 w (LAt E sz enc (.slice (some ⟨g,off,none⟩) n cap) (b :: l)*R)) (T:∀ b,(enc b).length=sz) :
  St w0 w (LAt E sz enc (.slice (if cap=1 then some ⟨g,off,none⟩ else some ⟨g,off+sz,none⟩) l.length (cap - 1)) l*R):=by
 by_cases hc1:cap=1
 ·subst hc1
  have hlen:n=(b :: l).length/\(b :: l).length<=1:=by
   obtain⟨a,cap,hv,h1,_⟩:=h.l_shape;simp only[Value.slice.injEq] at hv;obtain⟨_,rfl,rfl⟩:=hv;exact⟨rfl,h1⟩
  cases l with
  | nil=>exact h.drop.l_nil E sz enc _
  | cons c l=>simp at hlen
 rw[if_neg hc1];rcases h.row with ⟨a0,_,h0,_⟩ | ⟨g',off',cap',cur,hv,h1,h2,h3,h4,hs⟩
 ·simp at h0
 ·simp only[Value.slice.injEq,Option.some.injEq,Addr.mk.injEq] at hv
  obtain⟨⟨rfl,rfl,_⟩,hn,rfl⟩:=hv;obtain⟨c,rfl⟩:∃ c,cap=c+1:=⟨cap - 1,by simp at h1;omega⟩;have hl:=encs_len T l;refine St.row_mk (off:=off+sz) (cap:=c+1 - 1) hs hl (by simp at h1;omega) (by omega) (by rw[Nat.add_sub_cancel];rw[Nat.add_mul] at h3;omega) (fun j hj=>?_)
  have:=h4 (sz+j) (by rw[List.length_cons,Nat.add_mul];omega)
  rw[Nat.add_assoc,this,List.flatMap_cons,List.getElem?_append_right (by rw[T];omega),T,Nat.add_sub_cancel_left]
end
def headT (L:Tms):Int × Bool:=match L with | []=>(0,false) | p :: _=>(p.2,true)
theorem r_drop (r:Nat) (L:Tms) (hL:L.length<=100000) (o:Int) (w0 w:World) (R:HP) (h:St w0 w (CRef r L*R)) :
  Calls Tryz.prog 142 #[ptrC r,.int .i64 o] w fun e w'=>e=.returned (.int .i64 ((L.length:Int) - (dropped L o).length))/\St w0 w' (CRef r (dropped L o)*R):=by
 obtain⟨v,h1⟩:=h.r_open;obtain⟨a,cap,rfl,_,_⟩:=h1.f2.l_shape;obtain⟨m,hm⟩:∃ m,L.length=m:=⟨_,rfl⟩;have hge:∀ k:Nat,k<m->∃ x1 x2 u,L[k]?=some ((x1,x2),u):=fun k hk=>⟨L[k].1.1,L[k].1.2,L[k].2,List.getElem?_eq_getElem (by omega)⟩
 have hst:∀ (j:Nat) (x:Key × Int),L[j]?=some x->L.take (j+1)=L.take j++[x]:=fun j x hj=>by rw[List.take_add_one,hj];rfl
 have hfl:∀ (j:Nat) (f:Key × Int->Bool),((L.take j).filter f).length<=j:=fun j f=>Nat.le_trans (List.length_filter_le _ _) (by simp;omega)
 have hen:∀ k:Nat,k=m->L.take k=L:=fun k hk=>List.take_of_length_le (by omega)
 rw[hm] at h1 hL;have HGE:=Lib.hid hge;have HST:=Lib.hid hst;have HFL:=Lib.hid hfl;have HEN:=Lib.hid hen;clear hge hst hfl hen h;have hkp:∀ x1 x2 u:Int,x1≠o->List.filter (fun p:Key × Int=>decide (p.1.1≠o)) [((x1,x2),u)]=[((x1,x2),u)]:=fun x1 x2 u e=>by simp[e]
 have hsk:∀ x1 x2 u:Int,x1=o->List.filter (fun p:Key × Int=>decide (p.1.1≠o)) [((x1,x2),u)]=[]:=fun x1 x2 u e=>by simp[e]
 have HKP:=Lib.hid hkp;have HSK:=Lib.hid hsk;rw[hm];clear hkp hsk hm;go_enter Tryz.func142,Tryz.ntmps142
 go_wp2;go_loopw [5,6] (fun s5 i wr=>∃ k:Nat,k<=m/\i=.int .i64 k/\St w0 wr (LAt 277 3 tmC s5 ((L.take k).filter fun p=>decide (p.1.1≠o))*(blk r (.cells #[.slice a m cap] 119 (0,0))*(LAt 277 3 tmC (.slice a m cap) L*R)))) (fun _ i _=>m - (intOf i).toNat)
 case atStart=>exact⟨0,by omega,rfl,h1.l_nil _ _ _⟩
 case round =>
  clear h1;obtain⟨k,hk,rfl,h2⟩:=hrel;obtain⟨acc,hacc⟩:∃ acc,(L.take k).filter (fun p=>decide (p.1.1≠o))=acc:=⟨_,rfl⟩;have hf:=HFL.out k (fun p=>decide (p.1.1≠o));rw[hacc] at h2 hf;have HACC:=Lib.hid hacc;clear hacc;have c:=h2.f2.cell;obtain⟨a5,cap5,rfl,_,_⟩:=h2.l_shape;by_cases hlt:k<m
  ·obtain⟨x1,x2,u,hx⟩:=HGE.out k hlt
   rcases (h2.f3).l_cells tyTm.len with ⟨h0,_⟩ | ⟨g,off,cp,hv,_,_,hcell⟩
   ·first | (cases h0;done) | (rw[h0] at hx;simp at hx;done)
   simp only[Value.slice.injEq] at hv;obtain⟨rfl,_,rfl⟩:=hv;have d0:=hcell _ _ hx 0 _ rfl;have d1:=hcell _ _ hx 1 _ rfl;have d2:=hcell _ _ hx 2 _ rfl;clear hcell;try simp only[Nat.add_zero] at d0
   by_cases e1:x1=o
   ·have b1:(x1 == o)=true:=by simpa using e1
    have hkeep:=HSK.out x1 x2 u e1;clear e1;have HS:=Lib.hid (HST.out k _ hx);have HK:=Lib.hid hkeep;clear hx hkeep;go_wp2;go_roundw
    case rel =>
     refine⟨k+1,by omega,by go_num,?_⟩
     rw[HS.out,List.filter_append,HACC.out,HK.out,List.append_nil];exact h2
    case measure=>simp[intOf];omega
   ·have b1:(x1 == o)=false:=by simpa using e1
    have hkeep:=HKP.out x1 x2 u e1;clear e1;have hA:=(h2.alloc (.cells #[.int .i64 x1,.int .i64 x2,.int .i64 u] 277)).drop;have HS:=Lib.hid (HST.out k _ hx);have HK:=Lib.hid hkeep;clear hx hkeep;go_wp2_with (at_builtin;refine wp_append_elem rfl (.tmp 27) (.tmp 35) rfl tyTm hA ((x1,x2),u) rfl _ rfl (new_cells _ [.int .i64 x1,.int .i64 x2,.int .i64 u] _ _ (by simp)) (by omega) ?hk;(case' hk=>(intro g2 off2 cap2 w8 h8)))
    go_roundw
    case rel =>
     refine⟨k+1,by omega,by go_num,?_⟩
     rw[HS.out,List.filter_append,HACC.out,HK.out];exact h8
    case measure=>simp[intOf];omega
  ·have he:=HEN.out k (by omega)
   have hacc:dropped L o=acc:=by unfold dropped;rw[← HACC.out,he]
   have HF:=Lib.hid hacc;obtain⟨n,hn⟩:∃ n,acc.length=n:=⟨_,rfl⟩;have HN:=Lib.hid hn;rw[hn] at h2 hf;rw[hn];clear hn he hacc HACC;have f:=h2.f2.free;have h3:=(h2.f2.set 0 (.slice a5 n cap5)).f3.drop;go_wp2;go_ret
   rw[HF.out,HN.out];exact⟨rfl,h3.r_shut⟩
open Go.RowKit Go.Sort
def aheadB (x y:Key × Int):Bool:=if x.2=y.2 then (if x.1.1=y.1.1 then decide (x.1.2<y.1.2) else decide (x.1.1<y.1.1)) else decide (x.2<y.2)
def rput:Tms->Key × Int->Tms
 | [],x=>[x]
 | y :: L,x=>if aheadB x y=true then x :: y :: L else y :: rput L x
theorem r_ahead (x1 x2 xt y1 y2 yt:Int) (w0 w:World) (R:HP) (h:St w0 w R) :
  Calls Tryz.prog 175 #[.agg #[.int .i64 x1,.int .i64 x2,.int .i64 xt],.agg #[.int .i64 y1,.int .i64 y2,.int .i64 yt]] w fun e w'=>e=.returned (.bool (aheadB ((x1,x2),xt) ((y1,y2),yt)))/\St w0 w' R:=by
 have h1:=((h.alloc (.cells #[.int .i64 x1,.int .i64 x2,.int .i64 xt] 277)).drop.alloc (.cells #[.int .i64 y1,.int .i64 y2,.int .i64 yt] 277)).drop;unfold aheadB;simp only[];by_cases e1:xt=yt
 ·rw[if_pos e1]
  have b1:(xt == yt)=true:=by simpa using e1
  by_cases e2:x1=y1
  ·rw[if_pos e2]
   have b2:(x1 == y1)=true:=by simpa using e2
   clear e1 e2;go_enter Tryz.func175,Tryz.ntmps175
   go_wp2;go_ret
   exact⟨rfl,h1⟩
  ·rw[if_neg e2]
   have b2:(x1 == y1)=false:=by simpa using e2
   clear e1 e2;go_enter Tryz.func175,Tryz.ntmps175
   go_wp2;go_ret
   exact⟨rfl,h1⟩
 ·rw[if_neg e1]
  have b1:(xt == yt)=false:=by simpa using e1
  clear e1;go_enter Tryz.func175,Tryz.ntmps175
  go_wp2;go_ret
  exact⟨rfl,h1⟩
theorem r_stop (r:Nat) (L:Tms) (hL:L.length<=100000) (k1 k2:Int) (w0 w:World) (R:HP) (h:St w0 w (CRef r L*R)) :
  Calls Tryz.prog 99 #[ptrC r,.int .i64 k1,.int .i64 k2] w fun e w'=>e=.returned (.bool (decide ((but L (k1,k2)).length<L.length)))/\St w0 w' (CRef r (but L (k1,k2))*R):=by
 obtain⟨v,h1⟩:=h.r_open;obtain⟨a,cap,rfl,_,_⟩:=h1.f2.l_shape;obtain⟨m,hm⟩:∃ m,L.length=m:=⟨_,rfl⟩;have hge:∀ k:Nat,k<m->∃ x1 x2 u,L[k]?=some ((x1,x2),u):=fun k hk=>⟨L[k].1.1,L[k].1.2,L[k].2,List.getElem?_eq_getElem (by omega)⟩
 have hst:∀ (j:Nat) (x:Key × Int),L[j]?=some x->L.take (j+1)=L.take j++[x]:=fun j x hj=>by rw[List.take_add_one,hj];rfl
 have hfl:∀ (j:Nat) (f:Key × Int->Bool),((L.take j).filter f).length<=j:=fun j f=>Nat.le_trans (List.length_filter_le _ _) (by simp;omega)
 have hen:∀ k:Nat,k=m->L.take k=L:=fun k hk=>List.take_of_length_le (by omega)
 rw[hm] at h1 hL;have HGE:=Lib.hid hge;have HST:=Lib.hid hst;have HFL:=Lib.hid hfl;have HEN:=Lib.hid hen;clear hge hst hfl hen h;have hkp1:∀ x1 x2 u:Int,x1≠k1->List.filter (fun p:Key × Int=>decide (p.1≠(k1,k2))) [((x1,x2),u)]=[((x1,x2),u)]:=fun x1 x2 u e=>by simp[e]
 have hkp2:∀ x1 x2 u:Int,x2≠k2->List.filter (fun p:Key × Int=>decide (p.1≠(k1,k2))) [((x1,x2),u)]=[((x1,x2),u)]:=fun x1 x2 u e=>by simp[e]
 have hsk:∀ x1 x2 u:Int,x1=k1->x2=k2->List.filter (fun p:Key × Int=>decide (p.1≠(k1,k2))) [((x1,x2),u)]=[]:=fun x1 x2 u e e'=>by simp[e,e']
 have HKP1:=Lib.hid hkp1;have HKP2:=Lib.hid hkp2;have HSK:=Lib.hid hsk;rw[hm];clear hkp1 hkp2 hsk hm;go_enter Tryz.func99,Tryz.ntmps99
 go_wp2;go_loopw [7,8] (fun s5 i wr=>∃ k:Nat,k<=m/\i=.int .i64 k/\St w0 wr (LAt 277 3 tmC s5 ((L.take k).filter fun p=>decide (p.1≠(k1,k2)))*(blk r (.cells #[.slice a m cap] 119 (0,0))*(LAt 277 3 tmC (.slice a m cap) L*R)))) (fun _ i _=>m - (intOf i).toNat)
 case atStart=>exact⟨0,by omega,rfl,h1.l_nil _ _ _⟩
 case round =>
  clear h1;obtain⟨k,hk,rfl,h2⟩:=hrel;obtain⟨acc,hacc⟩:∃ acc,(L.take k).filter (fun p=>decide (p.1≠(k1,k2)))=acc:=⟨_,rfl⟩;have hf:=HFL.out k (fun p=>decide (p.1≠(k1,k2)));rw[hacc] at h2 hf;have HACC:=Lib.hid hacc;clear hacc;have c:=h2.f2.cell;obtain⟨a5,cap5,rfl,_,_⟩:=h2.l_shape;by_cases hlt:k<m
  ·obtain⟨x1,x2,u,hx⟩:=HGE.out k hlt
   rcases (h2.f3).l_cells tyTm.len with ⟨h0,_⟩ | ⟨g,off,cp,hv,_,_,hcell⟩
   ·first | (cases h0;done) | (rw[h0] at hx;simp at hx;done)
   simp only[Value.slice.injEq] at hv;obtain⟨rfl,_,rfl⟩:=hv;have d0:=hcell _ _ hx 0 _ rfl;have d1:=hcell _ _ hx 1 _ rfl;have d2:=hcell _ _ hx 2 _ rfl;clear hcell;try simp only[Nat.add_zero] at d0
   by_cases e1:x1=k1
   ·have b1:(x1 == k1)=true:=by simpa using e1
    by_cases e2:x2=k2
    ·have b2:(x2 == k2)=true:=by simpa using e2
     have hkeep:=HSK.out x1 x2 u e1 e2;clear b1 b2;subst e1 e2;have HS:=Lib.hid (HST.out k _ hx);have HK:=Lib.hid hkeep;clear hx hkeep;go_wp2;go_roundw
     case rel =>
      refine⟨k+1,by omega,by go_num,?_⟩
      rw[HS.out,List.filter_append,HACC.out,HK.out,List.append_nil];exact h2
     case measure=>simp[intOf];omega
    ·have b2:(x2 == k2)=false:=by simpa using e2
     have hkeep:=HKP2.out x1 x2 u e2;have bn:(x2 != k2)=true:=by simpa using e2
     clear b1;subst e1;have hA:=(h2.alloc (.cells #[.int .i64 x1,.int .i64 x2,.int .i64 u] 277)).drop;have HS:=Lib.hid (HST.out k _ hx);have HK:=Lib.hid hkeep;clear hx hkeep;go_upto_region 6 with fail
     go_wp2_with (at_builtin;refine wp_append_elem rfl (.tmp 41) (.tmp 49) rfl tyTm hA ((x1,x2),u) rfl _ rfl (new_cells _ [.int .i64 x1,.int .i64 x2,.int .i64 u] _ _ (by simp)) (by omega) ?hk1;(case' hk1=>(intro g2 off2 cap2 w8 h8)))
     go_roundw
     case rel =>
      refine⟨k+1,by omega,by go_num,?_⟩
      rw[HS.out,List.filter_append,HACC.out,HK.out];exact h8
     case measure=>simp[intOf];omega
   ·have b1:(x1 == k1)=false:=by simpa using e1
    have hkeep:=HKP1.out x1 x2 u e1;have bn:(x1 != k1)=true:=by simpa using e1
    have hA:=(h2.alloc (.cells #[.int .i64 x1,.int .i64 x2,.int .i64 u] 277)).drop;have HS:=Lib.hid (HST.out k _ hx);have HK:=Lib.hid hkeep;clear hx hkeep;go_upto_region 6 with fail
    go_wp2_with (at_builtin;refine wp_append_elem rfl (.tmp 41) (.tmp 49) rfl tyTm hA ((x1,x2),u) rfl _ rfl (new_cells _ [.int .i64 x1,.int .i64 x2,.int .i64 u] _ _ (by simp)) (by omega) ?hk2;(case' hk2=>(intro g2 off2 cap2 w8 h8)))
    go_roundw
    case rel =>
     refine⟨k+1,by omega,by go_num,?_⟩
     rw[HS.out,List.filter_append,HACC.out,HK.out];exact h8
    case measure=>simp[intOf];omega
  ·have he:=HEN.out k (by omega)
   have hacc:but L (k1,k2)=acc:=by unfold but;rw[← HACC.out,he]
   have HF:=Lib.hid hacc;obtain⟨n,hn⟩:∃ n,acc.length=n:=⟨_,rfl⟩;have HN:=Lib.hid hn;rw[hn] at h2 hf;rw[hn];clear hn he hacc HACC;have f:=h2.f2.free;have h3:=(h2.f2.set 0 (.slice a5 n cap5)).f3.drop;go_wp2;go_ret
   rw[HF.out,HN.out];exact⟨by simp,h3.r_shut⟩
theorem r_due (r:Nat) (L:Tms) (hL:L.length<=100000) (now:Int) (w0 w:World) (R:HP) (h:St w0 w (CRef r L*R)) :
  Calls Tryz.prog 137 #[ptrC r,.int .i64 now] w fun e w'=>∃ v done rest,e=.returned v/\L=done++rest/\(∀ p ∈ done,p.2<=now)/\(∀ p,rest.head?=some p->now<p.2)/\St w0 w' (LAt 277 3 tmC v done*(CRef r rest*R)):=by
 obtain⟨v,h1⟩:=h.r_open;clear h;go_enter Tryz.func137,Tryz.ntmps137
 go_wp2;go_loopw [5] (fun s5 wr=>∃ (done rest:Tms) (v:Value),Hid (L=done++rest)/\Hid (∀ p ∈ done,p.2<=now)/\St w0 wr (LAt 277 3 tmC s5 done*(blk r (.cells #[v] 119 (0,0))*(LAt 277 3 tmC v rest*R)))) (fun s5 _=>L.length - (match s5 with | .slice _ n _=>n | _=>0))
 case atStart=>exact⟨[],L,v,Lib.hid rfl,Lib.hid (by simp),h1.l_nil _ _ _⟩
 case round =>
  clear h1;obtain⟨done,rest,v,HL,HD,h2⟩:=hrel;obtain⟨a5,cap5,rfl,_,_⟩:=h2.l_shape;have hln:done.length+rest.length=L.length:=by rw[HL.out,List.length_append]
  have c:=h2.f2.cell;cases rest with
  | nil =>
    obtain⟨a,cap,rfl,_,_⟩:=h2.f3.l_shape;go_wp2;go_ret
    exact⟨_,_,_,rfl,HL.out,HD.out,by simp,h2.b3.r_shut.f2⟩
  | cons p rest =>
    obtain⟨⟨x1,x2⟩,u⟩:=p;obtain⟨a,cap,rfl,_,_⟩:=h2.f3.l_shape;have hx:(((x1,x2),u) :: rest)[0]?=some ((x1,x2),u):=rfl;rcases (h2.f3).l_cells tyTm.len with ⟨h0,_⟩ | ⟨g,off,cp,hv,_,_,hcell⟩
    ·first | (cases h0;done) | (rw[h0] at hx;simp at hx;done)
    simp only[Value.slice.injEq] at hv;obtain⟨rfl,_,rfl⟩:=hv;have d0:=hcell _ _ hx 0 _ rfl;have d1:=hcell _ _ hx 1 _ rfl;have d2:=hcell _ _ hx 2 _ rfl;clear hcell;try simp only[Nat.add_zero] at d0
    try simp only[Nat.zero_mul,Nat.add_zero] at d0 d1 d2
    obtain⟨m,hm⟩:∃ m,rest.length=m:=⟨_,rfl⟩;rw[List.length_cons,hm] at c h2 hln;have hm0:(0:Int)<(m:Int)+1:=by omega
    by_cases e:u<=now
    ·have hA:=(h2.alloc (.cells #[.int .i64 x1,.int .i64 x2,.int .i64 u] 277)).drop
     have b1:decide (u<=now)=true:=by simpa using e
     have HE:=Lib.hid e;clear hx e;go_wp2_with (at_builtin;refine wp_append_elem rfl (.tmp 23) (.tmp 30) rfl tyTm hA ((x1,x2),u) rfl _ rfl (new_cells _ [.int .i64 x1,.int .i64 x2,.int .i64 u] _ _ (by simp)) (by omega) ?hk;(case' hk=>(intro g2 off2 cap2 w8 h8;have c8:=h8.f2.cell;have f8:=h8.f2.free)))
     have h9:=((h8.f2.set 0 (.slice (if cap=1 then some ⟨g,off,none⟩ else some ⟨g,off+3,none⟩) m (cap - 1))).f3.l_tail tyTm.len).f3.m2;rw[hm] at h9;refine⟨⟨done++[((x1,x2),u)],rest,_,Lib.hid (by rw[HL.out];simp),Lib.hid ?_,h9⟩,?_⟩
     ·intro p hp
      rcases List.mem_append.1 hp with hp | hp
      ·exact HD.out p hp
      ·simp at hp;subst hp;exact HE.out
     ·simp only[];omega
    ·have b1:decide (u<=now)=false:=by simpa using e
     go_wp2;go_ret
     exact⟨_,rfl,_,_,HL.out,fun a b c hp=>HD.out _ hp,fun a b c hp=>by simp at hp;omega,h2.b3.r_shut.f2⟩
open Go.RowKit Go.Sort
def SortedT (L:Tms):Prop:=L.Pairwise fun x y=>aheadB y x=false
structure Same (l L:Tms):Prop where
 perm:L.Perm l
 nd:(l.map (·.1)).Nodup
 sorted:SortedT L
theorem aheadB_iff (x y:Key × Int):aheadB x y=true↔(x.2<y.2\/(x.2=y.2/\(x.1.1<y.1.1\/(x.1.1=y.1.1/\x.1.2<y.1.2)))):=by
 unfold aheadB;split
 ·split <;> simp <;> omega
 ·simp;omega
theorem Same.nil:Same [] []:=⟨.refl _,by simp,.nil⟩
theorem Same.nd' {l L:Tms} (h:Same l L):(L.map (·.1)).Nodup:=((h.perm.map _).nodup_iff).2 h.nd
theorem mlook_iff {l:Tms} (hn:(l.map (·.1)).Nodup) {k:Key} {v:Int}:mlook l k=some v↔(k,v) ∈ l:=by
 refine⟨mlook_mem',fun h=>?_⟩
 obtain⟨i,hi,e⟩:=List.getElem_of_mem h;exact mlook_at hn (j:=i) (by rw[List.getElem?_eq_getElem hi,e])
theorem Same.look {l L:Tms} (h:Same l L) (k:Key):mlook L k=mlook l k :=
 Option.ext fun v=>by
  have:=h.perm.mem_iff (a:=(k,v))
  rw[mlook_iff h.nd',mlook_iff h.nd,this]
theorem filter_nd {l:Tms} (hn:(l.map (·.1)).Nodup) (f:Key × Int->Bool):((l.filter f).map (·.1)).Nodup:=(List.filter_sublist.map _).nodup hn
theorem mdel_but {l:Tms} (hn:(l.map (·.1)).Nodup) (k:Key):mdel l k=but l k:=mdel_filter hn
theorem Same.but {l L:Tms} (h:Same l L) (k:Key):Same (mdel l k) (but L k):=by
 refine⟨?_,?_,h.sorted.filter _⟩
 ·rw[mdel_but h.nd];exact h.perm.filter _
 ·rw[mdel_but h.nd];exact filter_nd h.nd _
theorem Same.was {l L:Tms} (h:Same l L) (k:Key):decide ((Go.Proofs.YtnnahljdhdippaaGreatDoor.but L k).length<L.length)=(mlook l k).isSome:=by
 rw[← h.look,← mdel_but h.nd'];cases hl:mlook L k with
 | none=>rw[mdel_absent hl];simp
 | some v=>have:=mdel_length hl;simp;omega
theorem Same.drop {l L:Tms} (h:Same l L) (o:Int):Same (dropped l o) (dropped L o):=⟨h.perm.filter _,filter_nd h.nd _,h.sorted.filter _⟩
theorem mput_perm {l:Tms} (hn:(l.map (·.1)).Nodup) (k:Key) (v:Int):(mput l k v).Perm ((k,v) :: Go.Proofs.YtnnahljdhdippaaGreatDoor.but l k):=by
 unfold Go.Proofs.YtnnahljdhdippaaGreatDoor.but;induction l with
 | nil=>exact .refl _
 | cons p l ih =>
   simp only[List.map_cons,List.nodup_cons] at hn;rw[mput_cons];by_cases hp:p.1=k
   ·rw[if_pos hp,List.filter_cons_of_neg (by simp[hp])]
    have:l.filter (fun p=>decide (p.1≠k))=l:=by
     rw[List.filter_eq_self];intro q hq;simp only[decide_eq_true_eq];rintro rfl;exact hn.1 (List.mem_map.2 ⟨q,hq,hp.symm⟩)
    rw[this]
   ·rw[if_neg hp,List.filter_cons_of_pos (by simp[hp])]
    exact ((ih hn.2).cons p).trans (.swap _ _ _)
theorem rput_perm (L:Tms) (x:Key × Int):(rput L x).Perm (x :: L):=by
 induction L with
 | nil=>exact .refl _
 | cons y L ih =>
   unfold rput;split
   ·exact .refl _
   ·exact (ih.cons y).trans (.swap _ _ _)
theorem rput_sorted {L:Tms} (h:SortedT L) (x:Key × Int):SortedT (rput L x):=by
 induction L with
 | nil=>exact List.pairwise_singleton _ _
 | cons y L ih =>
   have h1:=List.pairwise_cons.1 h;unfold rput;split
   ·rename_i hb
    refine List.pairwise_cons.2 ⟨fun z hz=>?_,h⟩
    have a:=(aheadB_iff x y).1 hb;rw[Bool.eq_false_iff];intro hc;have b:=(aheadB_iff z x).1 hc;simp only[List.mem_cons] at hz;rcases hz with rfl | hz
    ·omega
    ·have c:=h1.1 z hz
     rw[Bool.eq_false_iff] at c;exact c ((aheadB_iff z y).2 (by omega))
   ·rename_i hb
    refine List.pairwise_cons.2 ⟨fun z hz=>?_,ih h1.2⟩
    have hz':=(rput_perm L x).mem_iff.1 hz;simp only[List.mem_cons] at hz';rcases hz' with rfl | hz'
    ·simpa using hb
    ·exact h1.1 z hz'
theorem Same.put {l L:Tms} (h:Same l L) (k:Key) (v:Int):Same (mput l k v) (rput (Go.Proofs.YtnnahljdhdippaaGreatDoor.but L k) (k,v)):=by
 have hp:=mput_perm h.nd k v;refine⟨(rput_perm _ _).trans (((h.perm.filter _).cons _).trans hp.symm),?_,rput_sorted (h.sorted.filter _) _⟩
 rw[(hp.map _).nodup_iff,List.map_cons,List.nodup_cons];refine⟨?_,filter_nd h.nd _⟩
 intro hm;obtain⟨q,hq,e⟩:=List.mem_map.1 hm;have:=(List.mem_filter.1 hq).2
 simp at this
 exact this e
theorem Same.next {l L:Tms} (h:Same l L) {f:Int} {b:Bool} (hN:NextIs l f b):headT L=(f,b):=by
 rcases hN with ⟨rfl,rfl,rfl⟩ | ⟨rfl,⟨p,hp,rfl⟩,hall⟩
 ·rw[List.perm_nil.1 h.perm];rfl
 ·have hpL:=h.perm.mem_iff.2 hp
  have hs:=h.sorted;cases L with
  | nil=>cases hpL
  | cons q L =>
    have h1:=(List.pairwise_cons.1 hs).1;have h2:=hall q (h.perm.mem_iff.1 (by simp));have h3:q.2<=p.2:=by
     simp only[List.mem_cons] at hpL;rcases hpL with rfl | hpL
     ·exact Int.le_refl _
     ·have:=h1 p hpL
      rw[Bool.eq_false_iff] at this;have:=mt (aheadB_iff p q).2 this
      omega
    unfold headT;simp only[Prod.mk.injEq,and_true];omega
theorem Same.due {l L done rest:Tms} {now:Int} (h:Same l L) (e:L=done++rest) (h1:∀ p ∈ done,p.2<=now) (h2:∀ p,rest.head?=some p->now<p.2):dueK l now=done.map (·.1)/\Same (leftK l now) rest:=by
 subst e;have hs:=List.pairwise_append.1 h.sorted;have h3:∀ p ∈ rest,now<p.2:=by
  cases rest with
  | nil=>simp
  | cons q rest =>
    have hq:=h2 q rfl;have h4:=(List.pairwise_cons.1 hs.2.1).1;intro p hp;simp only[List.mem_cons] at hp;rcases hp with rfl | hp
    ·exact hq
    ·have:=h4 p hp
     rw[Bool.eq_false_iff] at this;have:=mt (aheadB_iff p q).2 this
     omega
 have e1:(done++rest).filter (fun p=>decide (p.2<=now))=done:=by
  rw[List.filter_append,List.filter_eq_self.2 (fun p hp=>by simpa using h1 p hp),List.filter_eq_nil_iff.2 (fun p hp=>by have:=h3 p hp;simp;omega),List.append_nil]
 have e2:(done++rest).filter (fun p=>decide (now<p.2))=rest:=by
  rw[List.filter_append,List.filter_eq_nil_iff.2 (fun p hp=>by have:=h1 p hp;simp;omega),List.nil_append,List.filter_eq_self.2 (fun p hp=>by simpa using h3 p hp)]
 constructor
 ·have e3:dueK l now=sortK l ((l.filter fun p=>decide (p.2<=now)).map (·.1)):=rfl
  rw[e3];refine sortK_eq ?_ ?_
  ·have:=(h.perm.filter (fun p=>decide (p.2<=now))).map (·.1)
   rw[e1] at this;exact this
  ·rw[List.pairwise_map]
   refine hs.1.imp_of_mem fun {a b} ha hb hab=>?_
   have ta:=till_mem h.nd (h.perm.mem_iff.1 (List.mem_append_left rest ha));have tb:=till_mem h.nd (h.perm.mem_iff.1 (List.mem_append_left rest hb));rw[Bool.eq_false_iff] at hab;have:=mt (aheadB_iff b a).2 hab
   unfold aheadK;rw[ta,tb];exact this
 ·refine⟨?_,filter_nd h.nd _,hs.2.1⟩
  have:=h.perm.filter (fun p=>decide (now<p.2))
  rw[e2] at this;exact this
open Go.RowKit Go.Sort
def rstart (L:Tms) (k:Key) (now period:Int):Tms × Int:=if badStart now period=true then (L,2) else (rput (but L k) (k,now+period),0)
theorem rput_step {L:Tms} {x y:Key × Int} {k:Nat} (hy:L[k]?=some y):rput (L.drop k) x=if aheadB x y=true then x :: y :: L.drop (k+1) else y :: rput (L.drop (k+1)) x:=by
 have hk:k<L.length:=(List.getElem?_eq_some_iff.1 hy).1;have:L.drop k=y :: L.drop (k+1):=by
  rw[List.drop_eq_getElem_cons hk];rw[List.getElem?_eq_getElem hk] at hy;rw[Option.some.inj hy]
 rw[this];rfl
theorem drop_step {L:Tms} {y:Key × Int} {k:Nat} (hy:L[k]?=some y):L.drop k=y :: L.drop (k+1):=by
 have hk:k<L.length:=(List.getElem?_eq_some_iff.1 hy).1;rw[List.drop_eq_getElem_cons hk];rw[List.getElem?_eq_getElem hk] at hy;rw[Option.some.inj hy]
theorem r_start (r:Nat) (L:Tms) (hL:L.length<=100000) (k1 k2 now period:Int) (w0 w:World) (R:HP) (h:St w0 w (CRef r L*R)) :
  Calls Tryz.prog 98 #[ptrC r,.int .i64 k1,.int .i64 k2,.int .i64 now,.int .i64 period] w fun e w'=>e=.returned (.int .i64 (rstart L (k1,k2) now period).2)/\St w0 w' (CRef r (rstart L (k1,k2) now period).1*R):=by
 unfold rstart badStart;by_cases b1:now<0
 ·rw[if_pos (by simp[b1])]
  go_enter Tryz.func98,Tryz.ntmps98
  go_wp2;go_ret
  exact⟨rfl,h⟩
 have b1':decide (now<0)=false:=by simpa using b1
 by_cases b2:9007199254740992<now
 ·rw[if_pos (by simp[b2])]
  go_enter Tryz.func98,Tryz.ntmps98
  go_wp2;go_ret
  exact⟨rfl,h⟩
 have b2':decide (9007199254740992<now)=false:=by simpa using b2
 by_cases b3:period<1
 ·rw[if_pos (by simp[b3])]
  go_enter Tryz.func98,Tryz.ntmps98
  go_wp2;go_ret
  exact⟨rfl,h⟩
 have b3':decide (period<1)=false:=by simpa using b3
 by_cases b4:1048576<period
 ·rw[if_pos (by simp[b4])]
  go_enter Tryz.func98,Tryz.ntmps98
  go_wp2;go_ret
  exact⟨rfl,h⟩
 have b4':decide (1048576<period)=false:=by simpa using b4
 rw[if_neg (by simp;omega)];have hw:IntKind.i64.wrap (now+period)=now+period:=by rw[IntKind.wrap_i64];omega
 simp only[];have hbl:(but L (k1,k2)).length<=100000:=Nat.le_trans (List.length_filter_le _ _) hL;obtain⟨Q,hQ⟩:∃ Q,rput (but L (k1,k2)) ((k1,k2),now+period)=Q:=⟨_,rfl⟩;rw[hQ];go_enter Tryz.func98,Tryz.ntmps98
 go_wp2_with fail
 refine (r_stop r L hL k1 k2 w0 _ _ h).mono ?_
 rintro e w2 ⟨rfl,h2⟩;obtain⟨L',hL'⟩:∃ L',but L (k1,k2)=L':=⟨_,rfl⟩;obtain⟨xt,hxt⟩:∃ xt,now+period=xt:=⟨_,rfl⟩;rw[hL'] at h2 hbl hQ;rw[hxt] at hQ hw;obtain⟨v,h3⟩:=h2.r_open;obtain⟨a,cap,rfl,_,_⟩:=h3.f2.l_shape;obtain⟨m,hm⟩:∃ m,L'.length=m:=⟨_,rfl⟩;have hge:∀ k:Nat,k<m->∃ x1 x2 u,L'[k]?=some ((x1,x2),u):=fun k hk=>⟨L'[k].1.1,L'[k].1.2,L'[k].2,List.getElem?_eq_getElem (by omega)⟩
 have hen:∀ k:Nat,k=m->L'.drop k=[]:=fun k hk=>List.drop_eq_nil_of_le (by omega)
 rw[hm] at h3 hbl;have h4:=(h3.alloc (.cells #[.int .i64 k1,.int .i64 k2,.int .i64 xt] 277)).l_nil 277 3 tmC;have HQ:=Lib.hid hQ;have HGE:=Lib.hid hge;have HEN:=Lib.hid hen;clear h h2 h3 hL' hge hen hQ hm;go_upto_region 8 with fail
 generalize w2.alloc _=w3 at *;generalize w2.heap.size=tb at *;clear hw hxt b1 b1' b2 b2' b3 b3' b4 b4';go_loopw [12,13,14] (fun s12 s13 i wr=>∃ (k:Nat) (acc:Tms) (put:Bool),k<=m/\i=.int .i64 k/\s13=.bool put/\acc.length<=2*k+1/\Hid (Q=if put=true then acc++L'.drop k else acc++rput (L'.drop k) ((k1,k2),xt)) /\
   St w0 wr (LAt 277 3 tmC s12 acc*(blk tb (.cells #[.int .i64 k1,.int .i64 k2,.int .i64 xt] 277 (0,0))*(blk r (.cells #[.slice a m cap] 119 (0,0))*(LAt 277 3 tmC (.slice a m cap) L'*R))))) (fun _ _ i _=>m - (intOf i).toNat)
 case atStart=>exact⟨0,[],false,by omega,rfl,rfl,by simp,Lib.hid (by rw[HQ.out.symm];simp),h4⟩
 case round =>
  clear h4;obtain⟨k,acc,put,hk,rfl,rfl,hal,HI,h5⟩:=hrel;obtain⟨a5,cap5,rfl,_,_⟩:=h5.l_shape;have c:=(h5).f3.cell;have f:=(h5).f3.free;have ct:=(h5).f2.cell;have t0:(wr).cell? ⟨tb,0,none⟩=some (.int .i64 k1):=ct 0;have t1:(wr).cell? ⟨tb,1,none⟩=some (.int .i64 k2):=ct 1;have t2:(wr).cell? ⟨tb,2,none⟩=some (.int .i64 xt):=ct 2;clear ct;by_cases hlt:k<m
  ·obtain⟨y1,y2,yu,hx⟩:=HGE.out k hlt
   rcases (h5.f4).l_cells tyTm.len with ⟨h0,_⟩ | ⟨g,off,cp,hv,_,_,hcell⟩
   ·first | (cases h0;done) | (rw[h0] at hx;simp at hx;done)
   simp only[Value.slice.injEq] at hv;obtain⟨rfl,_,rfl⟩:=hv;have d0:=hcell _ _ hx 0 _ rfl;have d1:=hcell _ _ hx 1 _ rfl;have d2:=hcell _ _ hx 2 _ rfl;clear hcell;try simp only[Nat.add_zero] at d0
   go_upto_region 10 with fail
   go_still_tail 8,(by kernel_rfl)
   change wpList _ _ _ _ _ wr.drew
   have h6:=h5.drew;clear c f t0 t1 t2 d0 d1 d2 h5;generalize wr.drew=w5 at *;go_wp2_with fail
   refine (r_ahead k1 k2 xt y1 y2 yu w0 _ _ h6).mono ?_
   rintro e w6 ⟨rfl,h7⟩;clear h6;have c:=(h7).f3.cell;have f:=(h7).f3.free;have ct:=(h7).f2.cell;have t0:(w6).cell? ⟨tb,0,none⟩=some (.int .i64 k1):=ct 0;have t1:(w6).cell? ⟨tb,1,none⟩=some (.int .i64 k2):=ct 1;have t2:(w6).cell? ⟨tb,2,none⟩=some (.int .i64 xt):=ct 2;clear ct;rcases (h7.f4).l_cells tyTm.len with ⟨h0,_⟩ | ⟨g3,off3,cp3,hv3,_,_,hcell⟩
   ·first | (cases h0;done) | (rw[h0] at hx;simp at hx;done)
   simp only[Value.slice.injEq,Option.some.injEq,Addr.mk.injEq] at hv3;obtain⟨⟨rfl,rfl,_⟩,_,rfl⟩:=hv3;have d0:=hcell _ _ hx 0 _ rfl;have d1:=hcell _ _ hx 1 _ rfl;have d2:=hcell _ _ hx 2 _ rfl;clear hcell;try simp only[Nat.add_zero] at d0
   have hds:=drop_step hx;have hrs:=rput_step (x:=((k1,k2),xt)) hx;cases put with
   | true =>
     have HN:=Lib.hid (show Q=(acc++[((y1,y2),yu)])++L'.drop (k+1) by rw[HI.out,if_pos rfl,hds];simp);clear hds hrs hx;go_upto_region 14 with fail
     have hA:=((h7).alloc (.cells #[.int .i64 y1,.int .i64 y2,.int .i64 yu] 277)).drop;go_wp2_with (at_builtin;refine wp_append_elem rfl (.tmp 67) (.tmp 75) rfl tyTm hA ((y1,y2),yu) rfl _ rfl (new_cells _ [.int .i64 y1,.int .i64 y2,.int .i64 yu] _ _ (by simp)) ?n1b ?n1;(case' n1=>(intro g4 off4 cap4 w9 h9)))
     case n1b=>((try simp);omega)
     go_roundw
     case measure=>simp[intOf];omega
     case rel=>exact⟨k+1,_,true,by omega,by go_num,rfl,by simp;omega,by rw[if_pos rfl];exact HN,h9⟩
   | false =>
     cases hb:aheadB ((k1,k2),xt) ((y1,y2),yu) with
     | false =>
       have HN:=Lib.hid (show Q=(acc++[((y1,y2),yu)])++rput (L'.drop (k+1)) ((k1,k2),xt) by rw[HI.out,if_neg (by simp),hrs,if_neg (by simp[hb])];simp);clear hds hrs hx;go_upto_region 14 with fail
       have hA:=((h7).alloc (.cells #[.int .i64 y1,.int .i64 y2,.int .i64 yu] 277)).drop;go_wp2_with (at_builtin;refine wp_append_elem rfl (.tmp 67) (.tmp 75) rfl tyTm hA ((y1,y2),yu) rfl _ rfl (new_cells _ [.int .i64 y1,.int .i64 y2,.int .i64 yu] _ _ (by simp)) ?n2b ?n2;(case' n2=>(intro g4 off4 cap4 w9 h9)))
       case n2b=>((try simp);omega)
       go_roundw
       case measure=>simp[intOf];omega
       case rel=>exact⟨k+1,_,false,by omega,by go_num,rfl,by simp;omega,by rw[if_neg (by simp)];exact HN,h9⟩
     | true =>
       have HN:=Lib.hid (show Q=(acc++[((k1,k2),xt)]++[((y1,y2),yu)])++L'.drop (k+1) by rw[HI.out,if_neg (by simp),hrs,if_pos hb];simp);have HX:=Lib.hid hx;clear hds hrs hx;have hX:=(h7.alloc (.cells #[.int .i64 k1,.int .i64 k2,.int .i64 xt] 277)).drop;go_upto_region 14 with (at_builtin;refine wp_append_elem rfl (.tmp 63) (.tmp 65) rfl tyTm hX ((k1,k2),xt) rfl _ rfl (new_cells _ [.int .i64 k1,.int .i64 k2,.int .i64 xt] _ _ (by simp)) ?n3b ?n3;(case' n3=>(intro g2 off2 cap2 w8 h8)))
       case n3b=>omega
       clear c f t0 t1 t2 d0 d1 d2 hX h7;have hx:=HX.out;have c:=(h8).f3.cell;have f:=(h8).f3.free;have ct:=(h8).f2.cell;have t0:(w8).cell? ⟨tb,0,none⟩=some (.int .i64 k1):=ct 0;have t1:(w8).cell? ⟨tb,1,none⟩=some (.int .i64 k2):=ct 1;have t2:(w8).cell? ⟨tb,2,none⟩=some (.int .i64 xt):=ct 2;clear ct;rcases (h8.f4).l_cells tyTm.len with ⟨h0,_⟩ | ⟨g3,off3,cp3,hv3,_,_,hcell⟩
       ·first | (cases h0;done) | (rw[h0] at hx;simp at hx;done)
       simp only[Value.slice.injEq,Option.some.injEq,Addr.mk.injEq] at hv3;obtain⟨⟨rfl,rfl,_⟩,_,rfl⟩:=hv3;have d0:=hcell _ _ hx 0 _ rfl;have d1:=hcell _ _ hx 1 _ rfl;have d2:=hcell _ _ hx 2 _ rfl;clear hcell;try simp only[Nat.add_zero] at d0
       clear hx;have hA:=((h8).alloc (.cells #[.int .i64 y1,.int .i64 y2,.int .i64 yu] 277)).drop;go_wp2_with (at_builtin;refine wp_append_elem rfl (.tmp 67) (.tmp 75) rfl tyTm hA ((y1,y2),yu) rfl _ rfl (new_cells _ [.int .i64 y1,.int .i64 y2,.int .i64 yu] _ _ (by simp)) ?n4b ?n4;(case' n4=>(intro g4 off4 cap4 w9 h9)))
       case n4b=>((try simp);omega)
       go_roundw
       case measure=>simp[intOf];omega
       case rel =>
        simp only[List.length_append,List.length_singleton] at h9;exact⟨k+1,acc++[((k1,k2),xt)]++[((y1,y2),yu)],true,by omega,by go_num,rfl,by simp;omega,by rw[if_pos rfl];exact HN,h9⟩
  ·have hd:=HEN.out k (by omega)
   cases put with
   | true =>
     have hq:Q=acc:=by rw[HI.out,if_pos rfl,hd];simp
     have HQ2:=Lib.hid hq;have h6:=(h5.f3.set 0 (.slice a5 acc.length cap5)).f4.drop.f3.drop;clear hq hd;go_wp2;go_ret
     rw[HQ2.out];exact⟨rfl,h6.r_shut⟩
   | false =>
     have hq:Q=acc++[((k1,k2),xt)]:=by rw[HI.out,if_neg (by simp),hd];rfl
     have HQ2:=Lib.hid hq;clear hq hd;have hX:=(h5.alloc (.cells #[.int .i64 k1,.int .i64 k2,.int .i64 xt] 277)).drop;go_upto_region 17 with (at_builtin;refine wp_append_elem rfl (.tmp 79) (.tmp 81) rfl tyTm hX ((k1,k2),xt) rfl _ rfl (new_cells _ [.int .i64 k1,.int .i64 k2,.int .i64 xt] _ _ (by simp)) ?n5b ?n5;(case' n5=>(intro g2 off2 cap2 w8 h8)))
     case n5b=>omega
     clear c f t0 t1 t2;have c:=(h8).f3.cell;have f:=(h8).f3.free;have ct:=(h8).f2.cell;have t0:(w8).cell? ⟨tb,0,none⟩=some (.int .i64 k1):=ct 0;have t1:(w8).cell? ⟨tb,1,none⟩=some (.int .i64 k2):=ct 1;have t2:(w8).cell? ⟨tb,2,none⟩=some (.int .i64 xt):=ct 2;clear ct;have h6:=(h8.f3.set 0 (.slice (some ⟨g2,off2,none⟩) (acc.length+1) cap2)).f4.drop.f3.drop;go_wp2;go_ret
     rw[HQ2.out];exact⟨rfl,h6.r_shut⟩
end Go.Proofs.YtnnahljdhdippaaGreatDoor
