/- Parts of a proof (NMuxB). No condition. -/
import Derived.Test.YtjcldoejpldcmaaGreatDoorC21
namespace Go.Proofs.YtjcldoejpldcmaaGreatDoor
set_option maxRecDepth 100000
set_option maxHeartbeats 6400000
open Go.RowKit Go.Sort
structure LinkInv (l:List Eh) (id:Int) (left out:List Lk):Prop where
 nd:out.Nodup
 mem:∀ k,k ∈ out↔(k,id) ∈ l/\k ∉ left
 len:out.length+left.length<=l.length
theorem flt_lt {left:List Lk} {x:Lk} (hx:x ∈ left):(left.filter fun y=>decide (y≠x)).length<left.length :=
 List.length_filter_lt_length_iff_exists.2 ⟨x,hx,by simp⟩
theorem not_flt {left:List Lk} {x k:Lk}:k ∉ left.filter (fun y=>decide (y≠x))↔k ∉ left\/k=x:=by
 simp only[List.mem_filter,decide_eq_true_eq];by_cases h:k=x
 ·simp[h]
 ·simp[h]
theorem LinkInv.start (l:List Eh) (id:Int):LinkInv l id (l.map (·.1)) [] :=
 ⟨by simp,fun k=>⟨fun h=>(by cases h),fun h=>absurd (List.mem_map.2 ⟨_,h.1,rfl⟩) h.2⟩,by simp⟩
theorem LinkInv.skip {l:List Eh} {id:Int} {left out:List Lk} (h:LinkInv l id left out) (hn:(l.map (·.1)).Nodup) {x:Lk} {v:Int} (hx:x ∈ left) (hv:mlook l x=some v) (hne:v≠id):LinkInv l id (left.filter fun y=>decide (y≠x)) out:=by
 refine⟨h.nd,fun k=>?_,by have:=flt_lt hx;have:=h.len;omega⟩
 rw[h.mem,not_flt];constructor
 ·rintro ⟨h1,h2⟩;exact⟨h1,.inl h2⟩
 ·rintro ⟨h1,h2 | h2⟩
  ·exact⟨h1,h2⟩
  ·subst h2
   rw[mem_look hn h1] at hv;exact absurd (Option.some.inj hv).symm hne
theorem LinkInv.take {l:List Eh} {id:Int} {left out:List Lk} (h:LinkInv l id left out) {x:Lk} {v:Int} (hx:x ∈ left) (hv:mlook l x=some v) (he:v=id):LinkInv l id (left.filter fun y=>decide (y≠x)) (out++[x]):=by
 subst he;have hxo:x ∉ out:=fun hm=>((h.mem x).1 hm).2 hx
 refine⟨?_,fun k=>?_,by have:=flt_lt hx;have:=h.len;simp only[List.length_append,List.length_cons,List.length_nil];omega⟩
 ·rw[List.nodup_append]
  refine⟨h.nd,by simp,fun a ha b hb e=>?_⟩
  simp at hb
  subst e hb;exact hxo ha
 ·rw[List.mem_append,h.mem,not_flt,List.mem_singleton]
  constructor
  ·rintro (⟨h1,h2⟩ | rfl)
   ·exact⟨h1,.inl h2⟩
   ·exact⟨look_mem hv,.inr rfl⟩
  ·rintro ⟨h1,h2 | h2⟩
   ·exact .inl ⟨h1,h2⟩
   ·exact .inr h2
def linksOf (l:List Eh) (id:Int):List Lk:=sortL ((hasId id l).map (·.1))
theorem has_mem {l:List Eh} {id:Int} {k:Lk}:k ∈ (hasId id l).map (·.1)↔(k,id) ∈ l:=by
 unfold hasId;constructor
 ·intro hm
  obtain⟨⟨k',i'⟩,hp,rfl⟩:=List.mem_map.1 hm;have:=List.mem_filter.1 hp
  have e:i'=id:=by simpa using this.2
  subst e;exact this.1
 ·intro h
  exact List.mem_map.2 ⟨(k,id),List.mem_filter.2 ⟨h,by simp⟩,rfl⟩
theorem linksOf_mem {l:List Eh} {id:Int} {k:Lk}:k ∈ linksOf l id↔(k,id) ∈ l:=((sortL_perm _).mem_iff).trans has_mem
theorem linksOf_strict {l:List Eh} (hn:(l.map (·.1)).Nodup) (id:Int):(linksOf l id).Pairwise aheadL :=
 sortL_strict ((List.filter_sublist.map _).nodup hn)
theorem linksOf_len (l:List Eh) (id:Int):(linksOf l id).length=(hasId id l).length:=by
 unfold linksOf;rw[(sortL_perm _).length_eq,List.length_map]
theorem LinkInv.done {l:List Eh} {id:Int} {out:List Lk} (h:LinkInv l id [] out) (hn:(l.map (·.1)).Nodup):sortL out=linksOf l id:=by
 refine strict_ext aheadL_irr aheadL_asy (sortL_strict h.nd) (linksOf_strict hn id) fun k=>?_
 rw[(sortL_perm out).mem_iff,h.mem,linksOf_mem];simp
theorem x_links (m:Nat) (x:Mx) (id:Int) (w0 w:World) (R:HP) (h:St w0 w (XAt m x*R)) (hl:x.l.length<=100000) :
  Calls Tryz.prog 228 #[ptrX m,.int .i64 id] w fun e w'=>∃ v,e=.returned v/\St w0 w' (LAt 73 2 lkC v (linksOf x.l id)*(XAt m x*R)):=by
 obtain⟨mo,l⟩:=x;obtain⟨b,h1⟩:=h.x_open;have cc:=h1.cell;have hnd:=h1.f2.map_nodup;simp only[] at h1 hnd hl cc ⊢;clear h;go_enter Tryz.func228,Tryz.ntmps228
 go_wp2_with (at_range;refine wp_mrange rfl (.tmp 13) 177 rfl tyWho.ht h1.f2 rfl ?_;intro w2 r h2)
 go_frame
 go_loopw [5] (fun s5 wr=>∃ (left out:List Lk),LinkInv l id left out/\St w0 wr (RAt kLk vId b r l left*(LAt 73 2 lkC s5 out*(blk m (.cells #[.int .i64 mo,.map (some b)] 179 (0,0))*R)))) (fun _ wr=>wr.rangeLeft b r)
 case atStart =>
  refine⟨l.map (·.1),[],LinkInv.start l id,?_⟩
  exact (h2.l_nil 73 2 lkC).f2
 case round =>
  obtain⟨left,out,hC,h3⟩:=hrel;have meas:∀ (y:Lk) (w4:World) (R':HP),y ∈ left->St w0 w4 (RAt kLk vId b r l (left.filter (fun z=>decide (z≠y)))*R')->w4.rangeLeft b r<wr.rangeLeft b r:=by
   intro y w4 R' hx h4;rw[h3.rmap_left,h4.rmap_left];exact flt_lt hx
  have MS:=Lib.hid meas;have HC:=Lib.hid hC;obtain⟨a5,cap5,rfl,_,_⟩:=h3.f2.l_shape;have hob:=hC.len;clear meas hC h1 h2;go_wp2_with (first
   | (at_next;refine wp_mnext rfl (.tmp 14) rfl h3 rfl ?done ?more;(case' done=>(intro hl0;subst hl0;have H3:=Lib.hid h3;clear h3));(case' more=>(intro y v w4 hx hv h4 hen0;obtain⟨x1,x2⟩:=y;have hen:(Instr.entry (.pointer (some ⟨r,0,none⟩))).run Tryz.prog w4=.ok (.tuple #[.agg #[.int .i64 x1,.int .i64 x2],.int .i64 v]) w4:=hen0;have HA:=(((h4.alloc (.cells #[.int .i64 x1,.int .i64 x2] 73)).drop.alloc (.cells #[.int .i64 x1,.int .i64 x2] 73)).drop).f2;have H4:=Lib.hid h4;have HX:=Lib.hid hx;have HV:=Lib.hid hv;clear h4 h3 hx hv hen0)))
   | (at_builtin;refine wp_append_elem rfl (.tmp 23) (.tmp 25) rfl tyLk HA (x1,x2) rfl _ rfl (new_cells _ [.int .i64 x1,.int .i64 x2] _ _ (by simp)) (by omega) ?hk;(case' hk=>(intro g off cap w8 h8))))
  ·have h9:=h8.f2
   refine⟨⟨_,_,HC.out.take HX.out HV.out (by have e:(v == id)=true:=(by assumption);simpa using e),h9⟩,MS.out _ _ _ HX.out h9⟩
  ·have h9:=(H4.out.alloc (.cells #[.int .i64 x1,.int .i64 x2] 73)).drop
   refine⟨⟨_,_,HC.out.skip hnd HX.out HV.out (by have e:(v == id)=false:=(by assumption);simpa using e),h9⟩,MS.out _ _ _ HX.out h9⟩
  ·have hok:=H3.out.rmap.1
   have h5:=H3.out.rmap_end.f2;have hko:∀ k ∈ out,okL k:=fun k hk=>hok _ ((HC.out.mem k).1 hk).1
   have hdn:=HC.out.done hnd;refine (link_sort (.slice a5 out.length cap5) out hko (by omega) w0 _ _ h5).mono ?_
   rintro e w5 ⟨rfl,h6⟩;rw[hdn] at h6;clear HC hdn;go_wp2;go_ret
   exact⟨_,rfl,h6.b3.f2.x_shut.f2⟩
def goneL (l:List Eh) (ks:List Lk):List Eh:=l.filter fun p=>decide (p.1 ∉ ks)
theorem goneL_nil (l:List Eh):goneL l []=l:=by simp[goneL]
theorem goneL_snoc {l:List Eh} (hn:(l.map (·.1)).Nodup) (ks:List Lk) (y:Lk):mdel (goneL l ks) y=goneL l (ks++[y]):=by
 have h1:((goneL l ks).map (·.1)).Nodup:=(List.filter_sublist.map _).nodup hn;rw[mdel_flt h1];unfold goneL;rw[List.filter_filter];refine List.filter_congr fun p _=>?_
 by_cases h:p.1=y
 ·simp[h]
 ·simp[h]
theorem goneL_links {l:List Eh} (hn:(l.map (·.1)).Nodup) (id:Int):goneL l (linksOf l id)=l.filter fun p=>decide (p.2≠id):=by
 unfold goneL;refine List.filter_congr fun p hp=>?_
 refine decide_eq_decide.2 (not_congr ?_)
 rw[linksOf_mem];constructor
 ·intro h
  have:=mem_look hn h
  rw[mem_look hn (show (p.1,p.2) ∈ l from hp)] at this;exact Option.some.inj this
 ·intro e
  subst e;exact hp
theorem x_drop (m:Nat) (x:Mx) (id:Int) (w0 w:World) (R:HP) (h:St w0 w (XAt m x*R)) (hl:x.l.length<=100000) :
  Calls Tryz.prog 156 #[ptrX m,.int .i64 id] w fun e w'=>e=.returned (.int .i64 (x.drop id).2)/\St w0 w' (XAt m (x.drop id).1*R):=by
 obtain⟨mo,l⟩:=x;obtain⟨b,h1⟩:=h.x_open;have hnd:=h1.f2.map_nodup;have hok:=h1.f2.map.1;simp only[] at h1 hnd hl hok ⊢;unfold Mx.drop;simp only[];rw[← goneL_links hnd id,← linksOf_len];have hko:∀ k ∈ linksOf l id,okL k:=fun k hk=>hok _ (linksOf_mem.1 hk)
 have hkl:(linksOf l id).length<=100000:=by
  rw[linksOf_len];exact Nat.le_trans (List.length_filter_le _ _) hl
 clear h1;obtain⟨ks,hks⟩:∃ ks,linksOf l id=ks:=⟨_,rfl⟩;rw[hks] at hko hkl ⊢;obtain⟨n,hn⟩:∃ n,ks.length=n:=⟨_,rfl⟩;rw[hn] at hkl ⊢;go_enter Tryz.func156,Tryz.ntmps156
 go_wp2_with fail
 refine (x_links m ⟨mo,l⟩ id _ _ _ h hl).mono ?_
 rintro e w1 ⟨v,rfl,h2⟩;simp only[] at h2;rw[hks] at h2;obtain⟨a,cap,rfl,_,_⟩:=h2.l_shape;rw[hn] at h2 ⊢;have HN:=Lib.hid hn;have HKO:=Lib.hid hko;have HND:=Lib.hid hnd;rw[← goneL_nil l] at h2;clear hks hko hok h hn hnd;go_wp2;go_loopw [13] (fun i wr=>∃ k:Nat,k<=n/\i=.int .i64 k/\St w0 wr (LAt 73 2 lkC (.slice a n cap) ks*(XAt m ⟨mo,goneL l (ks.take k)⟩*R))) (fun i _=>n - (intOf i).toNat)
 case atStart=>exact⟨0,by omega,rfl,h2⟩
 case round =>
  clear h2;obtain⟨k,hk,rfl,h3⟩:=hrel;by_cases hlt:k<n
  ·have hn:=HN.out
   obtain⟨⟨y1,y2⟩,hy⟩:∃ y,ks[k]?=some y:=⟨_,List.getElem?_eq_getElem (by omega)⟩;have hyo:=HKO.out _ (List.mem_of_getElem? hy);have ht:ks.take (k+1)=ks.take k++[(y1,y2)]:=by rw[List.take_add_one,hy];rfl
   rcases h3.l_cells tyLk.len with ⟨h0,_⟩ | ⟨g,off,cp,hv,_,_,hcell⟩
   ·rw[h0] at hy;simp at hy
   simp only[Value.slice.injEq] at hv;obtain⟨rfl,hq,rfl⟩:=hv;clear hq;have d0:wr.cell? ⟨g,off+k*2,none⟩=some (.int .i64 y1):=hcell k _ hy 0 _ rfl;have d1:wr.cell? ⟨g,off+k*2+1,none⟩=some (.int .i64 y2):=hcell k _ hy 1 _ rfl;have h4:=h3.alloc (.cells #[.int .i64 y1,.int .i64 y2] 73);have hs:=goneL_snoc HND.out (ks.take k) (y1,y2);rw[← ht] at hs;have HS:=Lib.hid hs;clear hcell ht hy h3 hn hs;go_upto_region 5 with fail
   generalize wr.alloc _=w5 at *;generalize wr.heap.size=gb at *;have c5:=h4.cell;go_wp2_with fail
   refine (x_leave m ⟨mo,goneL l (ks.take k)⟩ (y1,y2) hyo _ _ _ h4.f3).mono ?_
   rintro e w6 ⟨rfl,h6⟩;unfold Mx.leave at h6;simp only[] at h6;rw[HS.out] at h6;have h7:=h6.f2.drop.f2;clear h6 h4 c5;go_wp2;go_roundw
   case rel=>exact⟨k+1,by omega,by go_num,h7⟩
   case measure=>simp[intOf];omega
  ·obtain rfl:k=n:=by omega
   have ht:ks.take k=ks:=List.take_of_length_le (by rw[HN.out];exact Nat.le_refl _);rw[ht] at h3;clear ht;go_wp2;go_ret
   exact⟨rfl,h3.drop⟩
structure IdInv (l:List Eh) (s:Int) (left:List Lk) (out:List Int):Prop where
 mem:∀ a,a ∈ out↔∃ p ∈ l,p.1.1=s/\p.2=a/\p.1 ∉ left
 len:out.length+left.length<=l.length
theorem IdInv.start (l:List Eh) (s:Int):IdInv l s (l.map (·.1)) [] :=
 ⟨fun a=>⟨fun h=>(by cases h),fun ⟨p,hp,_,_,h⟩=>absurd (List.mem_map.2 ⟨p,hp,rfl⟩) h⟩,by simp⟩
theorem IdInv.skip {l:List Eh} {s:Int} {left:List Lk} {out:List Int} (h:IdInv l s left out) {x:Lk} (hx:x ∈ left) (hne:x.1≠s):IdInv l s (left.filter fun y=>decide (y≠x)) out:=by
 refine⟨fun a=>?_,by have:=flt_lt hx;have:=h.len;omega⟩
 rw[h.mem];constructor
 ·rintro ⟨p,h1,h2,h3,h4⟩;exact⟨p,h1,h2,h3,not_flt.2 (.inl h4)⟩
 ·rintro ⟨p,h1,h2,h3,h4⟩
  rcases not_flt.1 h4 with h4 | h4
  ·exact⟨p,h1,h2,h3,h4⟩
  ·rw[h4] at h2;exact absurd h2 hne
theorem IdInv.take {l:List Eh} {s:Int} {left:List Lk} {out:List Int} (h:IdInv l s left out) (hn:(l.map (·.1)).Nodup) {x:Lk} {v:Int} (hx:x ∈ left) (hv:mlook l x=some v) (he:x.1=s):IdInv l s (left.filter fun y=>decide (y≠x)) (out++[v]):=by
 refine⟨fun a=>?_,by have:=flt_lt hx;have:=h.len;simp only[List.length_append,List.length_cons,List.length_nil];omega⟩
 rw[List.mem_append,h.mem,List.mem_singleton];constructor
 ·rintro (⟨p,h1,h2,h3,h4⟩ | rfl)
  ·exact⟨p,h1,h2,h3,not_flt.2 (.inl h4)⟩
  ·exact⟨(x,a),look_mem hv,he,rfl,not_flt.2 (.inr rfl)⟩
 ·rintro ⟨⟨p1,p2⟩,h1,h2,h3,h4⟩
  rcases not_flt.1 h4 with h4 | h4
  ·exact .inl ⟨_,h1,h2,h3,h4⟩
  ·simp only[] at h4 h3
   subst h4 h3;rw[mem_look hn h1] at hv;exact .inr (Option.some.inj hv)
theorem IdInv.done {l:List Eh} {s:Int} {out:List Int} (h:IdInv l s [] out):Lib.compact (sortZ out)=setI ((l.filter fun p=>decide (p.1.1=s)).map (·.2)):=by
 refine compact_sort (sortZ_le out) fun a=>?_
 rw[sortZ_mem,h.mem];constructor
 ·rintro ⟨p,h1,h2,h3,_⟩
  exact List.mem_map.2 ⟨p,List.mem_filter.2 ⟨h1,by simpa using h2⟩,h3⟩
 ·intro hm
  obtain⟨p,hp,e⟩:=List.mem_map.1 hm;have:=List.mem_filter.1 hp
  exact⟨p,this.1,by simpa using this.2,e,by simp⟩
theorem x_route (m:Nat) (x:Mx) (k:Lk) (hk:okL k) (w0 w:World) (R:HP) (h:St w0 w (XAt m x*R)) (hl:x.l.length<=100000) :
  Calls Tryz.prog 70 #[ptrX m,.agg #[.int .i64 k.1,.int .i64 k.2]] w fun e w'=>∃ v,e=.returned v/\St w0 w' (LAt 3 1 intL v (x.route k)*(XAt m x*R)):=by
 obtain⟨k1,k2⟩:=k;have h1:=h.alloc (.cells #[.int .i64 k1,.int .i64 k2] 73);unfold Mx.route;simp only[];by_cases ht:k2=127
 ·obtain⟨b,h2⟩:=h1.f2.x_open
  have c2:=h2.cell;have c3:=h2.f3.cell;have hnd:=h2.f2.map_nodup;obtain⟨mo,l⟩:=x;simp only[] at *;subst ht;rw[if_neg (by simp)];clear h h1;go_enter Tryz.func70,Tryz.ntmps70
  go_upto_region 9 with fail
  generalize w.alloc _=w2 at *;generalize w.heap.size=ga at *;go_wp2_with (at_range;refine wp_mrange rfl (.tmp 33) 177 rfl tyWho.ht h2.f2 rfl ?_;intro w3 r h3)
  go_frame
  go_loopw [5] (fun s5 wr=>∃ (left:List Lk) (out:List Int),IdInv l k1 left out/\St w0 wr (RAt kLk vId b r l left*(LAt 3 1 intL s5 out*(blk ga (.cells #[.int .i64 k1,.int .i64 127] 73 (0,0))*(blk m (.cells #[.int .i64 mo,.map (some b)] 179 (0,0))*R))))) (fun _ wr=>wr.rangeLeft b r)
  case atStart=>exact⟨_,[],IdInv.start l k1,((h3.f3.m2.eq (by ac_rfl)).l_nil 3 1 intL).eq (by ac_rfl)⟩
  case round =>
   obtain⟨left,out,hC,h4⟩:=hrel;have meas:∀ (y:Lk) (w5:World) (R':HP),y ∈ left->St w0 w5 (RAt kLk vId b r l (left.filter (fun z=>decide (z≠y)))*R')->w5.rangeLeft b r<wr.rangeLeft b r:=by
    intro y w5 R' hx h5;rw[h4.rmap_left,h5.rmap_left];exact flt_lt hx
   have MS:=Lib.hid meas;have HC:=Lib.hid hC;obtain⟨a5,cap5,rfl,_,_⟩:=h4.f2.l_shape;have hob:=hC.len;clear meas hC h2 h3 c2 c3;go_wp2_with (first
    | (at_next;refine wp_mnext rfl (.tmp 34) rfl h4 rfl ?done ?more;(case' done=>(intro hl0;subst hl0;have H3:=Lib.hid h4;clear h4));(case' more=>(intro y v w5 hx hv h5 hen0;obtain⟨x1,x2⟩:=y;have hen:(Instr.entry (.pointer (some ⟨r,0,none⟩))).run Tryz.prog w5=.ok (.tuple #[.agg #[.int .i64 x1,.int .i64 x2],.int .i64 v]) w5:=hen0;have hlt5:=h5.f3.lt;have c5:=h5.f3.cell;have HA:=(((h5.alloc (.cells #[.int .i64 x1,.int .i64 x2] 73)).drop.alloc (.cells #[.int .i64 v] 3)).drop).f2;have H5:=Lib.hid h5;have HX:=Lib.hid hx;have HV:=Lib.hid hv;clear h5 h4 hx hv hen0)))
    | (at_builtin;refine wp_append_elem rfl (.tmp 45) (.tmp 47) rfl tyZ HA v rfl _ rfl (new_cells _ [.int .i64 v] _ _ (by simp)) (by omega) ?hk;(case' hk=>(intro g off cap w8 h8))))
   ·have h9:=h8.f2
    refine⟨⟨_,_,HC.out.take hnd HX.out HV.out (by have e:(x1 == k1)=true:=(by assumption);simpa using e),h9⟩,MS.out _ _ _ HX.out h9⟩
   ·have h9:=(H5.out.alloc (.cells #[.int .i64 x1,.int .i64 x2] 73)).drop
    refine⟨⟨_,_,HC.out.skip HX.out (by have e:(x1 == k1)=false:=(by assumption);simpa using e),h9⟩,MS.out _ _ _ HX.out h9⟩
   ·have h5:=H3.out.rmap_end.f2
    have hdn:=HC.out.done;refine (z_sort (.slice a5 out.length cap5) out (by omega) w0 _ _ h5).mono ?_
    rintro e w5 ⟨rfl,h6⟩;go_wp2_with fail
    refine (z_compact _ (sortZ out) (by rw[sortZ_len];omega) w0 _ _ h6).mono ?_
    rintro e w6 ⟨v',rfl,h7⟩;rw[hdn] at h7;clear HC hdn h6 h5;go_wp2;go_ret
    exact⟨_,rfl,h7.f3.drop.b3.f2.x_shut.f2⟩
 ·rw[if_pos ht]
  obtain⟨b,h2⟩:=h1.f2.x_open;have c2:=h2.cell;have c3:=h2.f3.cell;have hl:=fun n=>(h2.drewN n).f2.who (k1,k2) hk
  simp only[] at hl;have b1:(k2 != 127)=true:=by simpa using ht
  have b2:(k2 == 127)=false:=by simpa using ht
  obtain⟨mo,l⟩:=x;simp only[] at *;have H2:=Lib.hid h2;clear h h1 h2 ht;cases hm:mlook l (k1,k2) with
  | none =>
    rw[hm] at hl;simp only[Option.getD_none,Option.isSome_none] at hl;clear hm;go_enter Tryz.func70,Tryz.ntmps70
    go_upto_region 5 with fail
    generalize w.alloc _=w2 at *;generalize w.heap.size=ga at *;go_quiet (fail)
    go_wp2;go_ret
    exact⟨_,rfl,((H2.out.drewN _).f3.drop.x_shut).l_nil _ _ _⟩
  | some u =>
    rw[hm] at hl;simp only[Option.getD_some,Option.isSome_some] at hl;clear hm;go_enter Tryz.func70,Tryz.ntmps70
    go_upto_region 5 with fail
    generalize w.alloc _=w2 at *;generalize w.heap.size=ga at *;go_quiet (fail)
    have h4:=H2.out.drewN nq;clear c2 c3 hl H2;generalize w2.drewN nq=w4 at *;have HA:=((h4.l_nil 3 1 intL).alloc (.cells #[.int .i64 u] 3)).drop;go_wp2_with (at_builtin;refine wp_append_elem rfl (.tmp 25) (.tmp 27) rfl tyZ HA u rfl _ rfl (new_cells _ [.int .i64 u] _ _ (by simp)) (by simp) ?hk2;(case' hk2=>(intro g off cap w8 h8)))
    go_ret
    exact⟨_,rfl,h8.f4.drop.b3.x_shut.f2⟩
end Go.Proofs.YtjcldoejpldcmaaGreatDoor
