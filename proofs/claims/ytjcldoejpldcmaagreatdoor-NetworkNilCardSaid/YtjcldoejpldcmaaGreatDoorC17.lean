/- Parts of a proof (ClockE, ShP). No condition. -/
import Derived.Test.YtjcldoejpldcmaaGreatDoorC16
import Derived.Test.YtjcldoejpldcmaaGreatDoorC11
import Derived.Test.YtjcldoejpldcmaaGreatDoorC10
import Derived.Test.YtjcldoejpldcmaaGreatDoorC15
import Derived.Test.YtjcldoejpldcmaaGreatDoorC13
namespace Go.Proofs.YtjcldoejpldcmaaGreatDoor
set_option maxRecDepth 100000
set_option maxHeartbeats 6400000
open Go.RowKit Go.Sort
def dueK (l:Tms) (now:Int):List Key:=sortK l ((l.filter fun p=>decide (p.2<=now)).map (·.1))
def leftK (l:Tms) (now:Int):Tms:=l.filter fun p=>decide (now<p.2)
structure Coll (l:Tms) (now:Int) (left:List Key) (out:List Key):Prop where
 nd:out.Nodup
 mem:∀ k,k ∈ out↔(∃ t,(k,t) ∈ l/\t<=now)/\k ∉ left
theorem Coll.start (l:Tms) (now:Int):Coll l now (l.map (·.1)) [] :=
 ⟨by simp,fun k=>by
  simp
  intro t h _;exact⟨t,h⟩⟩
theorem Coll.len {l:Tms} {now:Int} {left out:List Key} (h:Coll l now left out) (hn:(l.map (·.1)).Nodup):out.length<=l.length:=by
 have hp:out.Perm ((l.filter fun p=>decide (p.1 ∈ out)).map (·.1)):=by
  rw[List.perm_ext_iff_of_nodup h.nd ((List.filter_sublist.map _).nodup hn)];intro k;simp only[List.mem_map,List.mem_filter,decide_eq_true_eq];constructor
  ·intro hk
   obtain⟨⟨t,ht,_⟩,_⟩:=(h.mem k).1 hk;exact⟨(k,t),⟨ht,hk⟩,rfl⟩
  ·rintro ⟨q,⟨_,h2⟩,rfl⟩
   exact h2
 rw[hp.length_eq,List.length_map];exact List.length_filter_le _ _
theorem uniq {l:Tms} (hn:(l.map (·.1)).Nodup) {x:Key} {v t:Int} (hv:mlook l x=some v) (ht:(x,t) ∈ l):t=v:=by
 obtain⟨i,hi,e⟩:=List.getElem_of_mem ht;have:=mlook_at (k:=x) (u:=t) hn (j:=i) (by rw[List.getElem?_eq_getElem hi,e])
 rw[hv] at this;exact (Option.some.inj this).symm
theorem Coll.more {l:Tms} {now:Int} {left out:List Key} (h:Coll l now left out) (_:(l.map (·.1)).Nodup) {x:Key} {v:Int} (hx:x ∈ left) (hv:mlook l x=some v) (hle:v<=now) :
  Coll l now (left.filter fun y=>decide (y≠x)) (out++[x]):=by
 have hnot:x ∉ out:=fun hm=>((h.mem x).1 hm).2 hx
 refine⟨?_,fun k=>?_⟩
 ·rw[List.nodup_append]
  exact⟨h.nd,by simp,fun a ha b hb=>by simp at hb;subst hb;rintro rfl;exact hnot ha⟩
 ·rw[List.mem_append,List.mem_singleton,h.mem]
  simp only[List.mem_filter,decide_eq_true_eq,not_and,Decidable.not_not];constructor
  ·rintro (⟨h1,h2⟩ | rfl)
   ·exact⟨h1,fun h3=>absurd h3 h2⟩
   ·exact⟨⟨v,mlook_mem' hv,hle⟩,fun _=>rfl⟩
  ·rintro ⟨h1,h2⟩
   by_cases hk:k ∈ left
   ·exact .inr (h2 hk)
   ·exact .inl ⟨h1,hk⟩
theorem Coll.none {l:Tms} {now:Int} {left out:List Key} (h:Coll l now left out) (hn:(l.map (·.1)).Nodup) {x:Key} {v:Int} (hv:mlook l x=some v) (hle:¬ v<=now) :
  Coll l now (left.filter fun y=>decide (y≠x)) out:=by
 refine⟨h.nd,fun k=>?_⟩
 rw[h.mem];simp only[List.mem_filter,decide_eq_true_eq,not_and,Decidable.not_not];constructor
 ·rintro ⟨h1,h2⟩
  exact⟨h1,fun h3=>absurd h3 h2⟩
 ·rintro ⟨⟨t,h1,h3⟩,h2⟩
  refine⟨⟨t,h1,h3⟩,fun hk=>?_⟩
  have:=h2 hk
  subst this;exact hle (by rw[← uniq hn hv h1];exact h3)
theorem Coll.done {l:Tms} {now:Int} {out:List Key} (h:Coll l now [] out) (hn:(l.map (·.1)).Nodup):sortK l out=dueK l now:=by
 have hn2:(((l.filter fun p=>decide (p.2<=now)).map (·.1))).Nodup:=(List.filter_sublist.map _).nodup hn;have hp:out.Perm ((l.filter fun p=>decide (p.2<=now)).map (·.1)):=by
  rw[List.perm_ext_iff_of_nodup h.nd hn2];intro k;rw[h.mem];simp only[List.mem_map,List.mem_filter,decide_eq_true_eq,List.not_mem_nil,not_false_eq_true,and_true];constructor
  ·rintro ⟨t,h1,h2⟩
   exact⟨(k,t),⟨h1,h2⟩,rfl⟩
  ·rintro ⟨⟨k',t⟩,⟨h1,h2⟩,rfl⟩
   exact⟨t,h1,h2⟩
 refine List.Perm.eq_of_pairwise (le:=fun x y=>¬ aheadK l y x) (fun a b _ _ h1 h2=>?_) (sortK_sorted l out) (sortK_sorted l _) (((sortK_perm l out).trans hp).trans (sortK_perm l _).symm)
 refine totalK l a b ?_ ?_
 ·rw[Bool.eq_false_iff];exact fun h=>h2 ((ltOf_cmpK l a b).1 h)
 ·rw[Bool.eq_false_iff];exact fun h=>h1 ((ltOf_cmpK l b a).1 h)
def gone (l:Tms) (ks:List Key):Tms:=l.filter fun p=>decide (p.1 ∉ ks)
theorem gone_snoc {l:Tms} (hn:(l.map (·.1)).Nodup) (ks:List Key) (k:Key):mdel (gone l ks) k=gone l (ks++[k]):=by
 unfold gone;rw[mdel_filter ((List.filter_sublist.map _).nodup hn)];rw[List.filter_filter];refine List.filter_congr fun p _=>?_
 by_cases h1:p.1=k <;> by_cases h2:p.1 ∈ ks <;> simp[h1,h2]
theorem gone_due {l:Tms} (hn:(l.map (·.1)).Nodup) (now:Int):gone l (dueK l now)=leftK l now:=by
 unfold gone leftK;refine List.filter_congr fun p hp=>?_
 have:p.1 ∈ dueK l now↔p.2<=now:=by
  unfold dueK;rw[(sortK_perm l _).mem_iff];simp only[List.mem_map,List.mem_filter,decide_eq_true_eq];constructor
  ·rintro ⟨q,⟨h1,h2⟩,h3⟩
   obtain⟨i,hi,e⟩:=List.getElem_of_mem hp;have hv:mlook l p.1=some p.2:=mlook_at hn (j:=i) (by rw[List.getElem?_eq_getElem hi,e]);have:=uniq hn hv (t:=q.2) (by rw[← h3];exact h1)
   omega
  ·intro h
   exact⟨p,⟨hp,h⟩,rfl⟩
 simp only[this];by_cases h:p.2<=now
 ·simp[h]
 ·have h':now<p.2:=by omega
  simp[h,h']
theorem c_due (c:Nat) (l:Tms) (now:Int) (w0 w:World) (R:HP) (h:St w0 w (CAt c l*R)) (hl:l.length<=100000) :
  Calls Tryz.prog 40 #[ptrC c,.int .i64 now] w fun e w'=>∃ v,e=.returned v/\St w0 w' (LAt 111 2 keyC v (dueK l now)*(CAt c (leftK l now)*R)):=by
 have h0:=h.alloc (.cells #[ptrC c] 94);obtain⟨b,h1⟩:=h0.f2.c_open;have cc:=h1.cell;have cb:=h1.f3.cell;have hnd:=h1.f2.map_nodup;clear h0 h;go_enter Tryz.func40,Tryz.ntmps40
 go_upto_region 4 with fail
 generalize w.alloc _=w1 at *;generalize w.heap.size=bx at *;go_wp2_with (at_range;refine wp_mrange rfl (.tmp 15) 180 rfl tyTill.ht h1.f2 rfl ?_;intro w2 r h2)
 go_frame
 go_loopw [5] (fun s5 wr=>∃ (left out:List Key),Coll l now left out/\St w0 wr (RAt kKey vInt b r l left*(LAt 111 2 keyC s5 out*(blk bx (.cells #[ptrC c] 94 (0,0))*(blk c (.cells #[.map (some b)] 182 (0,0))*R))))) (fun _ wr=>wr.rangeLeft b r)
 case atStart =>
  refine⟨l.map (·.1),[],Coll.start l now,?_⟩
  exact (h2.m2.l_nil 111 2 keyC).f2
 case round =>
  obtain⟨left,out,hC,h3⟩:=hrel;have meas:∀ (x:Key) (w4:World) (R':HP),x ∈ left->St w0 w4 (RAt kKey vInt b r l (left.filter (fun y=>decide (y≠x)))*R')->w4.rangeLeft b r<wr.rangeLeft b r:=by
   intro x w4 R' hx h4;rw[h3.rmap_left,h4.rmap_left];exact List.length_filter_lt_length_iff_exists.2 ⟨x,hx,by simp⟩
  have MS:=Lib.hid meas;have HC:=Lib.hid hC;obtain⟨a5,cap5,rfl,_,_⟩:=h3.f2.l_shape;have hob:=hC.len hnd;clear meas hC h1 h2;go_wp2_with (first
   | (at_next;refine wp_mnext rfl (.tmp 16) rfl h3 rfl ?done ?more;(case' done=>(intro hl0;subst hl0;have H3:=Lib.hid h3;clear h3));(case' more=>(intro x v w4 hx hv h4 hen0;obtain⟨x1,x2⟩:=x;have hen:(Instr.entry (.pointer (some ⟨r,0,none⟩))).run Tryz.prog w4=.ok (.tuple #[.agg #[.int .i64 x1,.int .i64 x2],.int .i64 v]) w4:=hen0;have HA:=(((h4.alloc (.cells #[.int .i64 x1,.int .i64 x2] 111)).drop.alloc (.cells #[.int .i64 x1,.int .i64 x2] 111)).drop).f2;have H4:=Lib.hid h4;have HX:=Lib.hid hx;have HV:=Lib.hid hv;clear h4 h3 hx hv hen0)))
   | (at_builtin;refine wp_append_elem rfl (.tmp 25) (.tmp 27) rfl tyKey HA (x1,x2) rfl _ rfl (new_cells _ [.int .i64 x1,.int .i64 x2] _ _ (by simp)) (by omega) ?hk;(case' hk=>(intro g off cap w8 h8))))
  ·have h9:=h8.f2
   refine⟨⟨_,_,HC.out.more hnd HX.out HV.out (by assumption),h9⟩,MS.out _ _ _ HX.out h9⟩
  ·have h9:=(H4.out.alloc (.cells #[.int .i64 x1,.int .i64 x2] 111)).drop
   refine⟨⟨_,_,HC.out.none hnd HV.out (by omega),h9⟩,MS.out _ _ _ HX.out h9⟩
  ·have hok:=H3.out.rmap.1
   have h5:=H3.out.rmap_end.b4;have hko:∀ k ∈ out,okK k:=fun k hk=>by
    obtain⟨⟨t,ht,_⟩,_⟩:=(HC.out.mem k).1 hk;exact hok _ ht
   have hdn:=HC.out.done hnd;refine (due_sort (.slice a5 out.length cap5) out bx c b l hko (by omega) w0 _ R h5).mono ?_
   rintro e w5 ⟨rfl,h6⟩;rw[hdn] at h6;have hkl:(dueK l now).length=out.length:=by rw[← hdn];exact (sortK_perm l out).length_eq
   have hkk:∀ k ∈ dueK l now,okK k:=fun k hk=>by
    rw[← hdn] at hk;exact hko k ((sortK_perm l out).mem_iff.1 hk)
   have hgd:=gone_due hnd now;have hg0:gone l []=l:=by simp[gone]
   generalize hdu:dueK l now=ks at *;rw[← hkl] at h6 ⊢;have hks:ks.length<=100000:=by omega
   have HDU:=Lib.hid hdu;have HKK:=Lib.hid hkk;have HGD:=Lib.hid hgd;clear hdu hkk hgd hdn hko h5 hok H3 HC hkl hob;rw[← hg0] at h6;have h7:St w0 w5 (LAt 111 2 keyC (.slice a5 ks.length cap5) ks*(blk bx (.cells #[ptrC c] 94 (0,0))*(blk c (.cells #[.map (some b)] 182 (0,0))*(MAt kKey vInt b (gone l [])*R)))):=h6;clear h6 hg0;go_wp2;go_loopw [34] (fun i wr=>∃ k:Nat,k<=ks.length/\i=.int .i64 k/\St w0 wr (LAt 111 2 keyC (.slice a5 ks.length cap5) ks*(blk bx (.cells #[ptrC c] 94 (0,0))*(blk c (.cells #[.map (some b)] 182 (0,0))*(MAt kKey vInt b (gone l (ks.take k))*R))))) (fun i _=>ks.length - (intOf i).toNat)
   case atStart=>exact⟨0,by omega,rfl,h7⟩
   case round =>
    clear h7;obtain⟨k,hk,rfl,h8⟩:=hrel;by_cases hlt:k<ks.length
    ·obtain⟨⟨y1,y2⟩,hy⟩:∃ y,ks[k]?=some y:=⟨_,List.getElem?_eq_getElem hlt⟩
     have hyo:=HKK.out _ (List.mem_of_getElem? hy);have ht:ks.take (k+1)=ks.take k++[(y1,y2)]:=by rw[List.take_add_one,hy];rfl
     rcases h8.l_cells tyKey.len with ⟨h0,_⟩ | ⟨g,off,cap,hv,_,_,hcell⟩
     ·rw[h0] at hlt;simp at hlt
     simp only[Value.slice.injEq] at hv;obtain⟨rfl,_,rfl⟩:=hv;have d0:wr.cell? ⟨g,off+k*2,none⟩=some (.int .i64 y1):=hcell k _ hy 0 _ rfl;have d1:wr.cell? ⟨g,off+k*2+1,none⟩=some (.int .i64 y2):=hcell k _ hy 1 _ rfl;have h9:=h8.alloc (.cells #[.int .i64 y1,.int .i64 y2] 111);have HT:=Lib.hid ht;clear hcell ht hy h8;go_upto_region 13 with fail
     generalize wr.alloc _=w8 at *;have c9:=h9.cell;have c10:=h9.f3.cell;have c11:=h9.f4.cell;clear d0 d1;go_still_tail 5,(by kernel_rfl)
     change wpList _ _ _ _ _ w8.drew
     have h10:=h9.drew;clear c9 c10 c11;generalize w8.drew=w9 at *;go_wp2_with (at_delete;refine wp_mdel rfl (.tmp 41) (.tmp 42) 180 111 rfl tyTill h10.f5 rfl (y1,y2) rfl hyo ?_;intro w7 h11)
     go_roundw
     case rel =>
      refine⟨k+1,by omega,by go_num,?_⟩
      rw[HT.out,← gone_snoc hnd];exact h11.f2.drop.b4
     case measure=>simp[intOf];omega
    ·obtain rfl:k=ks.length:=by omega
     rw[List.take_length,HGD.out] at h8;go_wp2;go_ret
     refine⟨_,rfl,?_⟩
     rw[HDU.out];exact h8.f2.drop.b3.c_shut.f2
open Go.RowKit
def badNow (now:Int):Bool:=decide (now<0\/9007199254740992<now)
theorem mput_mem {α β:Type} [DecidableEq α] {k:α} {v:β} {p:α × β}:∀ {l:List (α × β)},p ∈ mput l k v->p ∈ l\/p=(k,v)
 | [],h=>.inr (by simpa[mput] using h)
 | q :: l,h=>by
   unfold mput at h;split at h
   ·rcases List.mem_cons.1 h with e | h
    ·exact .inr e
    ·exact .inl (List.mem_cons_of_mem _ h)
   ·rcases List.mem_cons.1 h with e | h
    ·exact .inl (by rw[e];simp)
    ·rcases mput_mem h with h | h
     ·exact .inl (List.mem_cons_of_mem _ h)
     ·exact .inr h
theorem mput_nodup {α β:Type} [DecidableEq α] {k:α} {v:β}:∀ {l:List (α × β)},(l.map (·.1)).Nodup->((mput l k v).map (·.1)).Nodup
 | [],_=>by simp[mput]
 | q :: l,h=>by
   rw[List.map_cons,List.nodup_cons] at h;unfold mput;split
   ·rename_i e
    rw[List.map_cons,List.nodup_cons];exact⟨by rw[← e];exact h.1,h.2⟩
   ·rename_i e
    rw[List.map_cons,List.nodup_cons];refine⟨fun hm=>?_,mput_nodup h.2⟩
    obtain⟨p,hp,e2⟩:=List.mem_map.1 hm;rcases mput_mem hp with hp | hp
    ·exact h.1 (List.mem_map.2 ⟨p,hp,e2⟩)
    ·rw[hp] at e2;exact e e2.symm
theorem mdel_sublist {α β:Type} [DecidableEq α] (k:α):∀ l:List (α × β),(mdel l k).Sublist l
 | []=>by unfold mdel;exact List.Sublist.refl _
 | q :: l=>by
   unfold mdel;split
   ·exact List.sublist_cons_self _ _
   ·exact (mdel_sublist k l).cons_cons _
theorem tm_ok {t r a:Int} (t1:1<=t) (t7:t<=7) (r0:0<=r) (r1:r<65536) (a0:0<=a) (a1:a<=127):Tm.bad ⟨t,r,a⟩=0:=by
 unfold Tm.bad;dsimp only;rw[if_neg (by omega),if_neg (by omega),if_pos ⟨a0,a1⟩]
theorem out0 {e:En} (h:e.Fit):Out e 0:=by unfold Out;rw[h.out];exact Nat.le_refl _
theorem fits_feed:∀ (l:List Bool) {d:De},d.Fits->(d.feed l).1.Fits
 | [],_,h=>h
 | b :: l,_,h=>fits_feed l (fits_bit h b)
theorem fits_new:De.new.Fits:=Nat.zero_le _
theorem putO_size {f:Fr} {net:Bool} (ok:PutOk f):(putO f net).size<=1000:=by
 obtain⟨i1,_,_⟩:=carries_le ok.car;have h2:=ctlO_len f.kind f.pf f.ns f.nr;unfold putO;rw[sealed_size,ByteArray.size_append,ByteArray.size_append,octets_size,octets_size];show 2+_+_+2<=1000
 omega
theorem getO_info (s:ByteArray) (net:Bool):(getO s net).1.info.size<=s.size:=by
 have hc:=checkO_size s;unfold getO;split
 ·exact Nat.zero_le _
 ·dsimp only
  split
  ·exact Nat.zero_le _
  ·split
   ·exact Nat.zero_le _
   ·split
    ·exact Nat.zero_le _
    ·split
     ·exact Nat.zero_le _
     ·show (ByteArray.extract _ _ _).size<=_
      rw[ByteArray.size_extract];omega
theorem octs_le:∀ l:List Bool,(octs l).length<=l.length
 | a :: b :: c :: d :: e :: f :: g :: h :: l=>by
   have:=octs_le l
   show (octs l).length+1<=_
   simp only[List.length_cons];omega
 | []=>Nat.zero_le _
 | [_]=>Nat.zero_le _
 | [_,_]=>Nat.zero_le _
 | [_,_,_]=>Nat.zero_le _
 | [_,_,_,_]=>Nat.zero_le _
 | [_,_,_,_,_]=>Nat.zero_le _
 | [_,_,_,_,_,_]=>Nat.zero_le _
 | [_,_,_,_,_,_,_]=>Nat.zero_le _
theorem flag_small {d:De} (h:d.Fits):∀ v,d.flag.2=some v->v.s.length<=10000:=fun v hv=>by
 unfold De.flag at hv;split at hv
 ·cases hv
 ·split at hv
  ·cases hv
   exact Nat.zero_le _
  ·cases hv
   have h1:=octs_le (d.c.take (d.c.length - 6));have h2:d.c.length<=2135:=h;rw[List.length_take] at h1;show (octs _).length<=_
   omega
theorem bit_small {d:De} (h:d.Fits) (b:Bool):∀ v,(d.bit b).2=some v->v.s.length<=10000:=fun v hv=>by
 unfold De.bit at hv;split at hv
 ·split at hv
  ·cases hv
   exact Nat.zero_le _
  ·cases hv
 ·split at hv
  ·split at hv
   ·exact flag_small h v hv
   ·cases hv
  ·cases hv
theorem feed_small:∀ (l:List Bool) {d:De},d.Fits->∀ v ∈ (d.feed l).2,v.s.length<=10000
 | [],_,_,_,hv=>by cases hv
 | b :: l,d,h,v,hv=>by
   rcases List.mem_append.1 (show v ∈ (d.bit b).2.toList++(De.feed (d.bit b).1 l).2 from hv) with h1 | h1
   ·exact bit_small h b v (by simpa using h1)
   ·exact feed_small l (fits_bit h b) v h1
theorem due_mem {c:Tms} {now:Int} {k:Key} (h:k ∈ dueK c now):∃ v,(k,v) ∈ c:=by
 have h1:=(sortK_perm c _).mem_iff.1 h;obtain⟨p,hp,rfl⟩:=List.mem_map.1 h1;exact⟨p.2,(List.mem_filter.1 hp).1⟩
theorem due_len {c:Tms} (now:Int):(dueK c now).length<=c.length:=by
 unfold dueK;rw[(sortK_perm c _).length_eq,List.length_map];exact List.length_filter_le _ _
def badP (p:Int):Bool:=decide (p<1\/1048576<p)
theorem badP_f {p:Int} (h:badP p=false):decide (p<1)=false/\decide (1048576<p)=false:=by
 unfold badP at h;have:=of_decide_eq_false h
 exact⟨decide_eq_false (fun e=>this (.inl e)),decide_eq_false (fun e=>this (.inr e))⟩
theorem badP_t {p:Int} (h:badP p=true):decide (p<1)=true\/(decide (p<1)=false/\decide (1048576<p)=true):=by
 unfold badP at h;rcases of_decide_eq_true h with e | e
 ·exact .inl (decide_eq_true e)
 ·by_cases e2:p<1
  ·exact .inl (decide_eq_true e2)
  ·exact .inr ⟨decide_eq_false e2,decide_eq_true e⟩
theorem ix3 (a b c:Int) (w:World):(Instr.index 88 (.agg #[.int .i64 a,.int .i64 b,.int .i64 c]) (.int .i64 0)).run Tryz.prog w=.ok (.int .i64 a) w/\(Instr.index 88 (.agg #[.int .i64 a,.int .i64 b,.int .i64 c]) (.int .i64 1)).run Tryz.prog w=.ok (.int .i64 b) w/\(Instr.index 88 (.agg #[.int .i64 a,.int .i64 b,.int .i64 c]) (.int .i64 2)).run Tryz.prog w=.ok (.int .i64 c) w:=⟨by kernel_rfl,by kernel_rfl,by kernel_rfl⟩
theorem putO_len {f:Fr} {net:Bool} (ok:PutOk f):(putO f net).data.toList≠[]/\(putO f net).data.toList.length<=266:=by
 obtain⟨i1,_,_⟩:=carries_le ok.car;have h2:=ctlO_len f.kind f.pf f.ns f.nr;have h3:(putO f net).size=2+(ctlO f.kind f.pf f.ns f.nr).length+f.info.size+2:=by
  unfold putO;rw[sealed_size,ByteArray.size_append,ByteArray.size_append,octets_size,octets_size];rfl
 have h4:(putO f net).data.toList.length=(putO f net).size:=by rw[Array.length_toList];rfl
 refine⟨fun e=>?_,by omega⟩
 rw[e] at h4;simp only[List.length_nil] at h4;omega
theorem LinkAt.old {w w':World} {n:Nat} (h:LinkAt w) (hb:Below n w w') (hn:0<n):LinkAt w':=⟨(hb.cell (p:=⟨0,0,none⟩) hn).trans h.1,(hb.cell (p:=⟨0,1,none⟩) hn).trans h.2⟩
theorem LinkAt.pos {w:World} (h:LinkAt w):0<w.heap.size:=World.block_lt_of_cell? _ _ h.1
end Go.Proofs.YtjcldoejpldcmaaGreatDoor
