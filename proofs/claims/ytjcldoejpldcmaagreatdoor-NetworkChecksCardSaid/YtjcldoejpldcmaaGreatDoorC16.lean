/- Parts of a proof (Clock, ClockB, Cmp, Cmp64, Sort, SortKeys, ClockC, ClockD). No condition. -/
import Derived.Test.YtjcldoejpldcmaaGreatDoorC2
import Derived.Test.YtjcldoejpldcmaaGreatDoorProg
import Derived.DeepKeys4
import Derived.StillTailTactics
import Derived.Test.YtjcldoejpldcmaaGreatDoorC1
import Derived.Shelf.SlSortCmp.NoneTotal
import Derived.Ground.SlsfProg
namespace Go.Proofs.YtjcldoejpldcmaaGreatDoor
set_option maxRecDepth 100000
set_option maxHeartbeats 6400000
open Go.RowKit
abbrev ptrC (b:Nat):Value:=.pointer (some ⟨b,0,none⟩)
abbrev Key:=Int × Int
abbrev keyC (k:Key):List Value:=[.int .i64 k.1,.int .i64 k.2]
def okK (k:Key):Prop:=(Lit.int .i64 k.1).wf=true/\(Lit.int .i64 k.2).wf=true
def kKey:KD Key:=⟨fun k=>.agg (keyC k).toArray,okK,fun a b h=>by
 obtain⟨a1,a2⟩:=a;obtain⟨b1,b2⟩:=b;simpa using h⟩
abbrev vInt (t:Int):Value:=.int .i64 t
theorem laidOutP:laidOutB Tryz.prog=true:=by kernel_rfl
theorem keyRow:(111:TypeId)<Tryz.prog.types.size:=of_decide_eq_true (by kernel_rfl)
theorem keyWide:(match Tryz.prog.underlying 111 with | some (.array _ _) | some (.struct _)=>true | _=>false)=true:=by rw[Tryz.underlying111]
theorem keyAt:Tryz.prog.keyTypeAt 2 111=true:=by kernel_rfl
theorem keyLaw:WideMaps.KeyLaw Tryz.prog 111:=deep_law_laid laidOutP (m:=2) (by omega) keyRow keyAt keyWide
theorem keyCells:Tryz.prog.cellsOf 111=2:=by kernel_rfl
theorem intCells:Tryz.prog.cellsOf 3=1:=by kernel_rfl
theorem keyReads (k:Key) (h:okK k):∃ l,keyOf Tryz.prog 111 (kKey.kv k)=some l:=by
 obtain⟨a,b⟩:=k;obtain⟨h1,h2⟩:=h;simp only[] at h1 h2;have hk:Tryz.prog.keyType 111=true:=by kernel_rfl
 obtain⟨n,hn⟩:∃ n,Tryz.prog.types.size+1=n+2:=⟨Tryz.prog.types.size - 1,by have h:(111:Nat)<Tryz.prog.types.size:=keyRow;omega⟩;unfold keyOf;rw[Tryz.underlying111,hk,hn];simp[kKey,keyC,Value.formed,Tryz.underlying111,keyCells,Program.keyLits,Tryz.underlying3,intCells,h1,h2,Value.cells]
theorem tyTill:MTy Tryz.prog 180 111 2 kKey :=
 ⟨Tryz.underlying180,Maps.Keyed.of_law keyLaw,keyReads⟩
theorem zeroI64 (w:World):(zeroValue 2).run Tryz.prog w=.ok (.int .i64 0) w:=by kernel_rfl
abbrev Tms:=List (Key × Int)
def CAt (c:Nat) (l:Tms):HP:=hex fun b:Nat=>blk c (.cells #[.map (some b)] 182 (0,0))*MAt kKey vInt b l
section
variable {w0 w:World} {R:HP} {c:Nat} {l:Tms}
theorem St.c_open (h:St w0 w (CAt c l*R)):∃ b,St w0 w (blk c (.cells #[.map (some b)] 182 (0,0))*(MAt kKey vInt b l*R)):=by
 obtain⟨b,h⟩:=h.ex;exact⟨b,h.eq (star_assoc _ _ _)⟩
theorem St.c_shut {b:Nat} (h:St w0 w (blk c (.cells #[.map (some b)] 182 (0,0))*(MAt kKey vInt b l*R))):St w0 w (CAt c l*R) :=
 St.mk_ex b (h.eq (star_assoc _ _ _).symm)
theorem St.till {b:Nat} (h:St w0 w (MAt kKey vInt b l*R)) (k:Key) (hk:okK k) :
  (Instr.lookup 180 (.map (some b)) (.agg #[.int .i64 k.1,.int .i64 k.2]) false).run Tryz.prog w=.ok (.int .i64 ((mlook l k).getD 0)) w:=by
 have:=h.map_look tyTill k hk (zeroI64 _) false
 rw[show ((mlook l k).map vInt).getD (.int .i64 0)=.int .i64 ((mlook l k).getD 0) by cases mlook l k <;> rfl] at this;exact this
theorem St.till_ok {b:Nat} (h:St w0 w (MAt kKey vInt b l*R)) (k:Key) (hk:okK k) :
  (Instr.lookup 180 (.map (some b)) (.agg #[.int .i64 k.1,.int .i64 k.2]) true).run Tryz.prog w=.ok (.tuple #[.int .i64 ((mlook l k).getD 0),.bool (mlook l k).isSome]) w:=by
 have:=h.map_look tyTill k hk (zeroI64 _) true
 rw[show ((mlook l k).map vInt).getD (.int .i64 0)=.int .i64 ((mlook l k).getD 0) by cases mlook l k <;> rfl] at this;exact this
end
theorem c_new (w0 w:World) (R:HP) (h:St w0 w R) :
  Calls Tryz.prog 30 #[] w fun e w'=>∃ c,e=.returned (ptrC c)/\St w0 w' (CAt c []*R):=by
 have hmm:=@run_makeMap Tryz.prog;have h2:=h.map_new kKey vInt;have h3:=h2.alloc (.cells #[.map (some w.heap.size)] 182);simp only[World.size_alloc] at h3;go_enter Tryz.func30,Tryz.ntmps30
 go_wp2;go_ret
 exact⟨_,rfl,h3.c_shut⟩
def badStart (now period:Int):Bool:=decide (now<0\/9007199254740992<now\/period<1\/1048576<period)
def cstart (l:Tms) (k:Key) (now period:Int):Tms × Int:=if badStart now period=true then (l,2) else (mput l k (now+period),0)
theorem c_start (c:Nat) (l:Tms) (k:Key) (hk:okK k) (now period:Int) (w0 w:World) (R:HP) (h:St w0 w (CAt c l*R)) :
  Calls Tryz.prog 149 #[ptrC c,.agg #[.int .i64 k.1,.int .i64 k.2],.int .i64 now,.int .i64 period] w fun e w'=>e=.returned (.int .i64 (cstart l k now period).2)/\St w0 w' (CAt c (cstart l k now period).1*R):=by
 obtain⟨k1,k2⟩:=k;have h1:=h.alloc (.cells #[.int .i64 k1,.int .i64 k2] 111);unfold cstart badStart;by_cases b1:now<0
 ·rw[if_pos (by simp[b1])]
  go_enter Tryz.func149,Tryz.ntmps149
  go_wp2;go_ret
  exact⟨rfl,h1.drop⟩
 have b1':decide (now<0)=false:=by simpa using b1
 by_cases b2:9007199254740992<now
 ·rw[if_pos (by simp[b2])]
  go_enter Tryz.func149,Tryz.ntmps149
  go_wp2;go_ret
  exact⟨rfl,h1.drop⟩
 have b2':decide (9007199254740992<now)=false:=by simpa using b2
 by_cases b3:period<1
 ·rw[if_pos (by simp[b3])]
  go_enter Tryz.func149,Tryz.ntmps149
  go_wp2;go_ret
  exact⟨rfl,h1.drop⟩
 have b3':decide (period<1)=false:=by simpa using b3
 by_cases b4:1048576<period
 ·rw[if_pos (by simp[b4])]
  go_enter Tryz.func149,Tryz.ntmps149
  go_wp2;go_ret
  exact⟨rfl,h1.drop⟩
 have b4':decide (1048576<period)=false:=by simpa using b4
 rw[if_neg (by simp;omega)];obtain⟨b,h2⟩:=h1.f2.c_open;have c2:=h2.cell;have c3:=h2.f3.cell;have hw:IntKind.i64.wrap (now+period)=now+period:=by rw[IntKind.wrap_i64];omega
 have H2:=Lib.hid h2;clear h1 h2 h;go_enter Tryz.func149,Tryz.ntmps149
 go_upto_region 5 with fail
 generalize w.alloc _=w2 at *;go_still_tail 8,(by kernel_rfl)
 change wpList _ _ _ _ _ w2.drew
 have h3:=H2.out.drew;clear c2 c3 H2;generalize w2.drew=w3 at *;go_wp2_with (at_mapUpdate;refine wp_mput rfl (.tmp 30) (.tmp 31) (.tmp 34) 180 rfl tyTill h3.f2 rfl (k1,k2) rfl hk (now+period) rfl ?_;intro w5 h6)
 go_ret
 exact⟨rfl,h6.f2.f3.drop.c_shut⟩
theorem c_runs (c:Nat) (l:Tms) (k:Key) (hk:okK k) (w0 w:World) (R:HP) (h:St w0 w (CAt c l*R)) :
  Calls Tryz.prog 151 #[ptrC c,.agg #[.int .i64 k.1,.int .i64 k.2]] w fun e w'=>e=.returned (.tuple #[.int .i64 ((mlook l k).getD 0),.bool (mlook l k).isSome])/\St w0 w' (CAt c l*R):=by
 obtain⟨k1,k2⟩:=k;have h1:=h.alloc (.cells #[.int .i64 k1,.int .i64 k2] 111);obtain⟨b,h2⟩:=h1.f2.c_open;have c2:=h2.cell;have c3:=h2.f3.cell;have hl:=fun n=>(h2.drewN n).f2.till_ok (k1,k2) hk
 simp only[] at hl;have H1:=Lib.hid h1;clear h1 h2 h;go_enter Tryz.func151,Tryz.ntmps151
 go_upto_region 3 with fail
 generalize w.alloc _=w2 at *;go_quiet (fail)
 go_wp2;go_ret2
 exact⟨rfl,(H1.out.drewN _).drop⟩
theorem mdel_absent {l:Tms} {k:Key} (h:mlook l k=none):mdel l k=l:=by
 induction l with
 | nil=>rfl
 | cons p l ih =>
   unfold mlook at h;unfold mdel;by_cases hp:p.1=k
   ·rw[if_pos hp] at h;cases h
   ·rw[if_neg hp] at h ⊢;rw[ih h]
theorem c_stop (c:Nat) (l:Tms) (k:Key) (hk:okK k) (w0 w:World) (R:HP) (h:St w0 w (CAt c l*R)) :
  Calls Tryz.prog 87 #[ptrC c,.agg #[.int .i64 k.1,.int .i64 k.2]] w fun e w'=>e=.returned (.bool (mlook l k).isSome)/\St w0 w' (CAt c (mdel l k)*R):=by
 obtain⟨k1,k2⟩:=k;have h1:=h.alloc (.cells #[.int .i64 k1,.int .i64 k2] 111);have hr:=c_runs c l (k1,k2) hk w0 _ _ h1.f2;cases hl:mlook l (k1,k2) with
 | none =>
   rw[hl] at hr;rw[mdel_absent hl];go_enter Tryz.func87,Tryz.ntmps87
   go_wp2_with fail
   refine hr.mono ?_
   rintro e w1 ⟨rfl,h2⟩;go_wp2;go_ret
   exact⟨rfl,h2.f2.drop⟩
 | some t =>
   rw[hl] at hr;go_enter Tryz.func87,Tryz.ntmps87
   go_wp2_with fail
   refine hr.mono ?_
   rintro e w1 ⟨rfl,h2⟩;obtain⟨b,h3⟩:=h2.c_open;have c2:=h3.cell;have c3:=h3.f3.cell;have H3:=Lib.hid h3;clear h1 h2 h3 h hr;go_upto_region 3 with fail
   go_still_tail 5,(by kernel_rfl)
   change wpList _ _ _ _ _ w1.drew
   have h3:=H3.out.drew;clear c2 c3 H3;generalize w1.drew=w3 at *;go_wp2_with (at_delete;refine wp_mdel rfl (.tmp 17) (.tmp 18) 180 111 rfl tyTill h3.f2 rfl (k1,k2) rfl hk ?_;intro w5 h6)
   go_ret
   exact⟨rfl,h6.f2.f3.drop.c_shut⟩
def NextIs (l:Tms) (f:Int) (b:Bool):Prop:=(l=[]/\f=0/\b=false)\/(b=true/\(∃ p ∈ l,p.2=f)/\∀ p ∈ l,f<=p.2)
def NextOf (l:Tms) (left:List Key) (f:Int) (b:Bool):Prop :=
 if b=true then (∃ p ∈ l,p.1 ∉ left/\p.2=f)/\∀ p ∈ l,p.1 ∉ left->f<=p.2 else (∀ p ∈ l,p.1 ∈ left)/\f=0
theorem mlook_mem' {α β:Type} [DecidableEq α]:∀ {l:List (α × β)} {k:α} {v:β},mlook l k=some v->(k,v) ∈ l
 | p :: l,k,v,h=>by
   unfold mlook at h;split at h
   ·rename_i e
    simp at h
    subst e h;simp
   ·simp[mlook_mem' h]
theorem NextOf.step {l:Tms} {left:List Key} {f:Int} {b:Bool} (h:NextOf l left f b) {x:Key} {v:Int} (hn:(l.map (·.1)).Nodup) (hx:mlook l x=some v) :
  (b=false\/v<f->NextOf l (left.filter fun y=>decide (y≠x)) v true)/\(b=true->f<=v->NextOf l (left.filter fun y=>decide (y≠x)) f true):=by
 have hm:=mlook_mem' hx;have hu:∀ p ∈ l,p.1=x->p.2=v:=by
  intro p hp e;obtain⟨i,hi,rfl⟩:=List.getElem_of_mem hp;have:=mlook_at (k:=x) (u:=l[i].2) hn (j:=i) (by rw[List.getElem?_eq_getElem hi,← e])
  rw[hx] at this;exact (Option.some.inj this).symm
 have hl:∀ p:Key × Int,p.1 ∉ (left.filter fun y=>decide (y≠x))↔p.1 ∉ left\/p.1=x:=by
  intro p;simp only[List.mem_filter,decide_eq_true_eq,not_and,Decidable.not_not];constructor
  ·intro h;by_cases h':p.1 ∈ left
   ·exact .inr (h h')
   ·exact .inl h'
  ·rintro (h | h) h'
   ·exact absurd h' h
   ·exact h
 unfold NextOf at h ⊢;constructor
 ·intro hb
  rw[if_pos rfl];refine⟨⟨(x,v),hm,(hl _).2 (.inr rfl),rfl⟩,fun p hp hpl=>?_⟩
  rcases (hl p).1 hpl with h1 | h1
  ·split at h
   ·rename_i hb'
    rcases hb with rfl | hb
    ·cases hb'
    ·have:=h.2 p hp h1;omega
   ·exact absurd (h.1 p hp) h1
  ·rw[hu p hp h1];omega
 ·intro hb hv
  rw[if_pos rfl];rw[if_pos hb] at h;obtain⟨⟨q,hq,hql,hqf⟩,hall⟩:=h;refine⟨⟨q,hq,(hl _).2 (.inl hql),hqf⟩,fun p hp hpl=>?_⟩
  rcases (hl p).1 hpl with h1 | h1
  ·exact hall p hp h1
  ·rw[hu p hp h1];exact hv
theorem NextOf.done {l:Tms} {f:Int} {b:Bool} (h:NextOf l [] f b):NextIs l f b:=by
 unfold NextOf at h;split at h
 ·rename_i hb
  obtain⟨⟨q,hq,_,hf⟩,hall⟩:=h;exact .inr ⟨hb,⟨q,hq,hf⟩,fun p hp=>hall p hp (by simp)⟩
 ·rename_i hb
  refine .inl ⟨?_,h.2,by simpa using hb⟩
  cases l with
  | nil=>rfl
  | cons p l=>exact absurd (h.1 p (by simp)) (by simp)
theorem c_next (c:Nat) (l:Tms) (w0 w:World) (R:HP) (h:St w0 w (CAt c l*R)) :
  Calls Tryz.prog 39 #[ptrC c] w fun e w'=>∃ f b,e=.returned (.tuple #[.int .i64 f,.bool b])/\NextIs l f b/\St w0 w' (CAt c l*R):=by
 obtain⟨b,h1⟩:=h.c_open;have c1:=h1.cell;have hnd:=h1.f2.map_nodup;clear h;go_enter Tryz.func39,Tryz.ntmps39
 go_wp2_with (at_range;refine wp_mrange rfl (.tmp 13) 180 rfl tyTill.ht h1.f2 rfl ?_;intro w2 r h2)
 go_frame
 go_loopw [4,5] (fun s4 s5 wr=>∃ (left:List Key) (f:Int) (ok:Bool),s4=.int .i64 f/\s5=.bool ok/\NextOf l left f ok/\St w0 wr (RAt kKey vInt b r l left*(blk c (.cells #[.map (some b)] 182 (0,0))*R))) (fun _ _ wr=>wr.rangeLeft b r)
 case atStart=>exact⟨l.map (·.1),0,false,rfl,rfl,by unfold NextOf;simp;intro a b c h;exact⟨c,h⟩,h2⟩
 case round =>
  clear h1 h2;obtain⟨left,f,ok,rfl,rfl,hN,h3⟩:=hrel;have HN:=Lib.hid hN;clear hN;have meas:∀ (x:Key) (w4:World),x ∈ left->St w0 w4 (RAt kKey vInt b r l (left.filter (fun y=>decide (y≠x)))*(blk c (.cells #[.map (some b)] 182 (0,0))*R))->w4.rangeLeft b r<wr.rangeLeft b r:=by
   intro x w4 hx h4;rw[h3.rmap_left,h4.rmap_left];exact List.length_filter_lt_length_iff_exists.2 ⟨x,hx,by simp⟩
  have MS:=Lib.hid meas;clear meas;go_wp2_with (at_next;refine wp_mnext rfl (.tmp 14) rfl h3 rfl ?done ?more;(case' done=>(intro hl0;subst hl0;have H3:=Lib.hid h3;clear h3));(case' more=>(intro x v w4 hx hv h4 hen;have HST:=Lib.hid (HN.out.step hnd hv);have HM:=Lib.hid (MS.out x w4 hx h4);have H4:=Lib.hid h4;clear h4 h3 hx)))
  all_goals first
   | (go_ret2;exact⟨_,_,rfl,HN.out.done,H3.out.rmap_end.f2.c_shut⟩)
   | (refine⟨?_,HM.out⟩
      first
       | exact⟨_,_,_,rfl,rfl,HST.out.1 (.inr (by assumption)),H4.out⟩
       | exact⟨_,_,_,rfl,rfl,HST.out.2 (by assumption) (by assumption),H4.out⟩
       | exact⟨_,_,_,rfl,rfl,HST.out.1 (.inl (by simp_all)),H4.out⟩)
def dropped (l:Tms) (o:Int):Tms:=l.filter fun p=>decide (p.1.1≠o)
def dropping (l:Tms) (o:Int) (left:List Key):Tms:=l.filter fun p=>decide (p.1.1≠o) || decide (p.1 ∈ left)
theorem mdel_filter {α β:Type} [DecidableEq α] {k:α}:∀ {l:List (α × β)},(l.map (·.1)).Nodup->mdel l k=l.filter fun p=>decide (p.1≠k)
 | [],_=>rfl
 | p :: l,h=>by
   simp only[List.map_cons,List.nodup_cons] at h;unfold mdel;by_cases hp:p.1=k
   ·rw[if_pos hp,List.filter_cons_of_neg (by simp[hp])]
    rw[eq_comm,List.filter_eq_self];intro q hq;simp only[decide_eq_true_eq];rintro rfl;exact h.1 (List.mem_map.2 ⟨q,hq,hp.symm⟩)
   ·rw[if_neg hp,List.filter_cons_of_pos (by simp[hp]),mdel_filter h.2]
theorem dropping_keep {l:Tms} {o:Int} {left:List Key} {x:Key} (h:x.1≠o):dropping l o (left.filter fun y=>decide (y≠x))=dropping l o left:=by
 unfold dropping;refine List.filter_congr fun p hp=>?_
 by_cases hx:p.1=x
 ·simp[hx,h]
 ·simp[hx]
theorem dropping_drop {l:Tms} {o:Int} {left:List Key} {x:Key} (hn:(l.map (·.1)).Nodup) (h:x.1=o) (_:x ∈ left):dropping l o (left.filter fun y=>decide (y≠x))=mdel (dropping l o left) x:=by
 have hn2:((dropping l o left).map (·.1)).Nodup:=(List.filter_sublist.map _).nodup hn;rw[mdel_filter hn2];unfold dropping;rw[List.filter_filter];refine List.filter_congr fun p hp=>?_
 by_cases hpx:p.1=x
 ·simp[hpx,h]
 ·simp[hpx]
theorem mdel_length {α β:Type} [DecidableEq α] {k:α}:∀ {l:List (α × β)} {v:β},mlook l k=some v->(mdel l k).length+1=l.length
 | p :: l,v,h=>by
   unfold mlook at h;unfold mdel;split at h
   ·rename_i hp;rw[if_pos hp];simp
   ·rename_i hp;rw[if_neg hp];simp[mdel_length h]
theorem c_drop (c:Nat) (l:Tms) (o:Int) (w0 w:World) (R:HP) (h:St w0 w (CAt c l*R)) (hl:l.length<2 ^ 62) :
  Calls Tryz.prog 157 #[ptrC c,.int .i64 o] w fun e w'=>e=.returned (.int .i64 ((l.length:Int) - (dropped l o).length))/\St w0 w' (CAt c (dropped l o)*R):=by
 obtain⟨b,h1⟩:=h.c_open;have c1:=h1.cell;have hnd:=h1.f2.map_nodup;clear h;go_enter Tryz.func157,Tryz.ntmps157
 go_wp2_with (at_range;refine wp_mrange rfl (.tmp 12) 180 rfl tyTill.ht h1.f2 rfl ?_;intro w2 r h2)
 go_frame
 go_loopw [5] (fun s5 wr=>∃ (left:List Key),s5=.int .i64 ((l.length:Int) - (dropping l o left).length)/\St w0 wr (RAt kKey vInt b r (dropping l o left) left*(blk c (.cells #[.map (some b)] 182 (0,0))*R))) (fun _ wr=>wr.rangeLeft b r)
 case atStart =>
  have e:dropping l o (l.map (·.1))=l:=by
   unfold dropping;rw[List.filter_eq_self];intro p hp;simp
   exact .inr ⟨p.2,hp⟩
  refine⟨l.map (·.1),?_,?_⟩
  ·rw[e];simp
  ·rw[e];exact h2
 case round =>
  clear h1 h2;obtain⟨left,rfl,h3⟩:=hrel;have hlt:=(h3.eq (star_left_comm _ _ _)).lt;have meas:∀ (x:Key) (w4:World) (l':Tms) (R':HP),x ∈ left->St w0 w4 (RAt kKey vInt b r l' (left.filter (fun y=>decide (y≠x)))*R')->w4.rangeLeft b r<wr.rangeLeft b r:=by
   intro x w4 l' R' hx h4;rw[h3.rmap_left,h4.rmap_left];exact List.length_filter_lt_length_iff_exists.2 ⟨x,hx,by simp⟩
  have MS:=Lib.hid meas;have hle:(dropping l o left).length<=l.length:=List.length_filter_le _ _;clear meas;go_wp2_with (at_next;refine wp_mnext rfl (.tmp 13) rfl h3 rfl ?done ?more;(case' done=>(intro hl0;subst hl0;have H3:=Lib.hid h3;clear h3));(case' more=>(intro x v w4 hx hv h4 hen0;obtain⟨x1,x2⟩:=x;have hen:(Instr.entry (.pointer (some ⟨r,0,none⟩))).run Tryz.prog w4=.ok (.tuple #[.agg #[.int .i64 x1,.int .i64 x2],.int .i64 v]) w4:=hen0;have hlt4:=h4.f2.lt;have c4:=h4.f2.cell;have H4:=Lib.hid h4;have HX:=Lib.hid hx;have HV:=Lib.hid hv;clear h4 h3 hx hv hen0)))
  ·have hxo:x1=o:=by simpa using ‹(x1 == o)=true›
   have h5:=(H4.out.alloc (.cells #[.int .i64 x1,.int .i64 x2] 111));have c5:=h5.cell;have c6:=h5.f3.cell;have hok:=(H4.out.rmap).1 _ (mlook_mem' HV.out);subst hxo;clear hen c4 hlt4;generalize w4.alloc _=w5 at *;go_still_tail 5,(by kernel_rfl)
   change wpList _ _ _ _ _ w5.drew
   have h6:=h5.drew;clear c5 c6;generalize w5.drew=w6 at *;have hll:=mdel_length HV.out;have e1:=dropping_drop (o:=x1) (left:=left) (x:=(x1,x2)) hnd rfl HX.out;have hm:=MS.out;have HE:=Lib.hid e1;have HL:=Lib.hid hll;have hbig:((l.length:Int) - (dropping l x1 left).length)<9223372036854775807:=by omega
   clear e1 hll;go_wp2_with (at_delete;refine wp_mdel_range rfl (.tmp 25) (.tmp 26) 180 111 rfl tyTill h6.f2 rfl (x1,x2) rfl hok ?_;intro w7 h7)
   have h8:St w0 w7 (RAt kKey vInt b r (dropping l x1 (left.filter fun y=>decide (y≠(x1,x2)))) (left.filter fun y=>decide (y≠(x1,x2)))*(blk c (.cells #[.map (some b)] 182 (0,0))*R)):=by
    rw[HE.out];have:=h7.f2.drop
    simpa[List.filter_filter] using this
   refine⟨⟨_,?_,h8⟩,hm _ _ _ _ HX.out h8⟩
   rw[HE.out];have:=HL.out
   exact congrArg (Value.int .i64) (by omega)
  ·have hxo:x1≠o:=by simpa using ‹(x1 == o)=false›
   have h5:=(H4.out.alloc (.cells #[.int .i64 x1,.int .i64 x2] 111));rw[← dropping_keep (o:=o) (left:=left) (x:=(x1,x2)) hxo] at h5;refine⟨⟨_,?_,h5.drop⟩,MS.out _ _ _ _ HX.out h5.drop⟩
   rw[dropping_keep hxo]
  ·go_ret
   have e:dropping l o []=dropped l o:=by simp[dropping,dropped]
   have h5:=H3.out.rmap_end.f2.c_shut;rw[e] at h5 ⊢;exact⟨rfl,h5⟩
def cmpv (a b:Int):Int:=if a<b then -1 else if b<a then 1 else 0
theorem nan_int (a:Int) (w:World):Calls Tryz.prog 148 #[.int .i64 a] w fun e w'=>e=.returned (.bool false)/\w'=w:=by
 go_enter Tryz.func148,Tryz.ntmps148
 go_wp2;go_ret
 exact⟨by simp,rfl⟩
theorem cmp_int (a b:Int) (w:World):Calls Tryz.prog 85 #[.int .i64 a,.int .i64 b] w fun e w'=>e=.returned (.int .i64 (cmpv a b))/\w'=w:=by
 have hn:=fun x=>nan_int x w
 unfold cmpv;by_cases h1:a<b
 ·rw[if_pos h1]
  go_enter Tryz.func85,Tryz.ntmps85
  go_wp2_with (go_at_call 148;refine (hn _).mono ?_;rintro e w' ⟨rfl,rfl⟩)
  go_ret
  exact⟨rfl,rfl⟩
 ·rw[if_neg h1]
  by_cases h2:b<a
  ·rw[if_pos h2]
   go_enter Tryz.func85,Tryz.ntmps85
   go_wp2_with (go_at_call 148;refine (hn _).mono ?_;rintro e w' ⟨rfl,rfl⟩)
   go_ret
   exact⟨rfl,rfl⟩
  ·rw[if_neg h2]
   go_enter Tryz.func85,Tryz.ntmps85
   go_wp2_with (go_at_call 148;refine (hn _).mono ?_;rintro e w' ⟨rfl,rfl⟩)
   go_ret
   exact⟨rfl,rfl⟩
def orv (l:List Int):Int:=(l.find? fun x=>decide (x≠0)).getD 0
theorem cmp_or (xs:List Int) (g off cap:Nat) (w:World) (hl:xs.length<=1000) (hc:∀ i x,xs[i]?=some x->w.cell? ⟨g,off+i,none⟩=some (.int .i64 x)) :
  Calls Tryz.prog 83 #[.slice (some ⟨g,off,none⟩) xs.length cap] w fun e w'=>e=.returned (.int .i64 (orv xs))/\w'=w:=by
 generalize hr:orv xs=res;have HR:=Lib.hid hr;clear hr;go_enter Tryz.func83,Tryz.ntmps83
 go_wp2;go_loopw [8] (fun i wr=>∃ k:Nat,k<=xs.length/\i=.int .i64 k/\Hid (orv (xs.drop k)=res)/\wr=w) (fun i _=>xs.length - (intOf i).toNat)
 case atStart=>exact⟨0,by omega,rfl,HR,rfl⟩
 case round =>
  obtain⟨k,hk,rfl,He,rfl⟩:=hrel;by_cases hlt:k<xs.length
  ·obtain⟨x,hx⟩:∃ x,xs[k]?=some x:=⟨_,List.getElem?_eq_getElem hlt⟩
   have d0:=hc k x hx;have hd:xs.drop k=x :: xs.drop (k+1):=by
    rw[List.drop_eq_getElem_cons hlt];congr 1
    rw[List.getElem?_eq_getElem hlt] at hx;exact Option.some.inj hx
   have he:=He.out;rw[hd] at he;unfold orv at he;clear hd hx hc;by_cases h0:x=0
   ·rw[List.find?_cons_of_neg (by simp[h0])] at he
    subst h0;have HE:=Lib.hid he;clear he;go_wp2;go_roundw
    case rel=>exact⟨k+1,by omega,by go_num,HE,trivial⟩
    case measure=>simp[intOf];omega
   ·rw[List.find?_cons_of_pos (by simp[h0])] at he
    simp only[Option.getD_some] at he;subst he;have h0':(x == 0)=false:=by simpa using h0
    go_wp2;go_ret
    exact⟨rfl,rfl⟩
  ·obtain rfl:k=xs.length:=by omega
   have he:=He.out;rw[List.drop_length] at he;unfold orv at he;simp at he
   subst he;go_wp2;go_ret
   exact⟨rfl,rfl⟩
theorem nan_i64 (a:Int) (w:World):Calls Tryz.prog 147 #[.int .i64 a] w fun e w'=>e=.returned (.bool false)/\w'=w:=by
 go_enter Tryz.func147,Tryz.ntmps147
 go_wp2;go_ret
 exact⟨by simp,rfl⟩
theorem cmp_i64 (a b:Int) (w:World):Calls Tryz.prog 84 #[.int .i64 a,.int .i64 b] w fun e w'=>e=.returned (.int .i64 (cmpv a b))/\w'=w:=by
 have hn:=fun x=>nan_i64 x w
 unfold cmpv;by_cases h1:a<b
 ·rw[if_pos h1]
  go_enter Tryz.func84,Tryz.ntmps84
  go_wp2_with (go_at_call 147;refine (hn _).mono ?_;rintro e w' ⟨rfl,rfl⟩)
  go_ret
  exact⟨rfl,rfl⟩
 ·rw[if_neg h1]
  by_cases h2:b<a
  ·rw[if_pos h2]
   go_enter Tryz.func84,Tryz.ntmps84
   go_wp2_with (go_at_call 147;refine (hn _).mono ?_;rintro e w' ⟨rfl,rfl⟩)
   go_ret
   exact⟨rfl,rfl⟩
  ·rw[if_neg h2]
   go_enter Tryz.func84,Tryz.ntmps84
   go_wp2_with (go_at_call 147;refine (hn _).mono ?_;rintro e w' ⟨rfl,rfl⟩)
   go_ret
   exact⟨rfl,rfl⟩
open Go.RowKit Go.Sort
section
variable {α:Type} [Inhabited α] {enc:α->List Value} {k:Nat} {w0 w:World} {R:HP} {E:TypeId} {l:List α} {g off cap n:Nat}
theorem flatK_eq (hk:∀ x,(enc x).length=k) (h0:0<k) (l:List α):flatK enc k l.toArray=(l.flatMap enc).toArray:=by
 have hlen:=encs_len hk l;apply Array.ext
 ·simp[flatK,hlen]
 ·intro t h1 h2
  have ht:t<l.length*k:=by simpa using h1
  have hq:t / k<l.length:=Nat.div_lt_of_lt_mul (by rw[Nat.mul_comm];exact ht);have hr:t % k<k:=Nat.mod_lt _ h0;have he:=encs_at hk l (t / k) l[t / k] (t % k) (List.getElem?_eq_getElem hq) hr;rw[Nat.div_add_mod'] at he;have h3:(l.flatMap enc)[t]?=some (l.flatMap enc)[t]:=List.getElem?_eq_getElem (by omega);rw[h3,List.getElem?_eq_getElem (by rw[hk];exact hr)] at he;simp only[flatK,Array.getElem_map,Array.getElem_range,List.getElem_toArray];have hg:l.toArray[t / k]! =l[t / k]:=by rw[getElem!_pos l.toArray _ (by simpa using hq)];simp
  rw[Option.some.inj he,hg,getElem!_pos (enc l[t / k]) _ (by rw[hk];exact hr)]
theorem St.l_holds (h:St w0 w (LAt E k enc (.slice (some ⟨g,off,none⟩) n cap) l*R)) (hk:∀ x,(enc x).length=k) (h0:0<k) (hl:l≠[]):n=l.length/\HoldsK enc k w g off l.toArray/\g<w.heap.size:=by
 rcases h.row with ⟨a0,hv,hn,_⟩ | ⟨g',off',cap',cur,hv,h1,h2,h3,h4,hs⟩
 ·exact absurd (List.eq_nil_of_length_eq_zero hn) hl
 ·simp only[Value.slice.injEq,Option.some.injEq,Addr.mk.injEq] at hv
  obtain⟨⟨rfl,rfl,_⟩,rfl,rfl⟩:=hv;refine⟨rfl,?_,hs.lt⟩
  unfold HoldsK;rw[flatK_eq hk h0];intro j hj;have hj':j<(l.flatMap enc).length:=by simpa using hj
  rw[encs_len hk] at hj';refine⟨?_,hs.free _⟩
  rw[hs.cell,h4 j hj',getElem!_pos (l.flatMap enc).toArray j hj];simp only[id,List.getElem_toArray];exact List.getElem?_eq_getElem (by rw[encs_len hk];exact hj')
theorem St.l_sort (h:St w0 w (LAt E k enc (.slice (some ⟨g,off,none⟩) n cap) l*R)) (hk:∀ x,(enc x).length=k) (h0:0<k) (hl:l≠[]) {l':List α} (hl':l'.length=l.length) (m:Nat) (os:Array Obj) :
  St w0 (sortWorldK enc k w g off m l'.toArray os) (LAt E k enc (.slice (some ⟨g,off,none⟩) n cap) l'*R):=by
 rcases h.row with ⟨a0,hv,hn,_⟩ | ⟨g',off',cap',cur,hv,h1,h2,h3,h4,hs⟩
 ·exact absurd (List.eq_nil_of_length_eq_zero hn) hl
 ·simp only[Value.slice.injEq,Option.some.injEq,Addr.mk.injEq] at hv
  obtain⟨⟨rfl,rfl,_⟩,rfl,rfl⟩:=hv;have hb:=hs.heap;have hlt:=hs.lt;have hheap:(sortWorldK enc k w g off m l'.toArray os).heap=w.heap.modify g (onCells (putCells id off (flatK enc k l'.toArray)))++os:=rfl;have hs2:St w0 (sortWorldK enc k w g off m l'.toArray os) (blk g (.cells (putCells id off (flatK enc k l'.toArray) cur) E (0,0))*R):=by
   refine hs.swap rfl rfl rfl ?_ ?_
   ·rw[hheap,Array.getElem?_append_left (by simpa using hlt),Array.getElem?_modify,if_pos rfl,hb]
    rfl
   ·intro j hj hjl
    rw[hheap,Array.getElem?_append_left (by simpa using hjl),Array.getElem?_modify,if_neg (Ne.symm hj)]
  have:=St.row_mk (xs:=l'.flatMap enc) (n:=l'.length) (sz:=k) (off:=off) (cap:=cap) hs2 (encs_len hk l') (by omega) h2 (by simpa[putCells] using h3) (fun j hj=>?_)
  ·unfold LAt
   rw[← hl'];exact this
  ·have hc:off+j<cur.size:=by
    have:l'.length*k<=cap*k:=Nat.mul_le_mul_right _ (by omega)
    omega
   have hj':j<(l'.flatMap enc).length:=by rw[encs_len hk];exact hj
   rw[flatK_eq hk h0];simp only[putCells,Array.getElem?_mapIdx,Array.getElem?_eq_getElem hc,Option.map_some,List.size_toArray];rw[if_pos ⟨by omega,by omega⟩,Nat.add_sub_cancel_left,getElem!_pos (l'.flatMap enc).toArray j (by simpa using hj'),List.getElem?_eq_getElem hj'];rfl
end
open Go.Shelf
def sortKey_ren:Go.Shelf.Ren:=⟨fun | 6=>81 | 15=>146 | 14=>145 | 28=>225 | 29=>226 | 20=>217 | 21=>218 | 22=>219 | 23=>220 | 24=>221 | 25=>222 | 26=>223 | 27=>224 | 46=>284 | 47=>285 | 48=>286 | 49=>287 | 50=>288 | 57=>315 | n=>n,fun | 22=>108 | 24=>111 | 25=>201 | 3=>3 | 39=>270 | 0=>0 | 53=>366 | 55=>267 | 4=>4 | 46=>360 | 45=>359 | 50=>271 | 5=>5 | 9=>9 | 66=>405 | 70=>409 | 76=>426 | 77=>389 | n=>n,fun | n=>n⟩
theorem sortKey:Go.Proofs.SlLaysF0.n6 Tryz.prog sortKey_ren:={
 mixed:=by kernel_rfl
 f6:=⟨Tryz.f81.name,by decide,Tryz.func81.trans (congrArg some (by kernel_rfl))⟩
 f14:=⟨Tryz.f145.name,by decide,Tryz.func145.trans (congrArg some (by kernel_rfl))⟩
 f15:=Tryz.func146.trans (congrArg some (by kernel_rfl))
 f20:=⟨Tryz.f217.name,by decide,Tryz.func217.trans (congrArg some (by kernel_rfl))⟩
 f21:=⟨Tryz.f218.name,by decide,Tryz.func218.trans (congrArg some (by kernel_rfl))⟩
 f22:=⟨Tryz.f219.name,by decide,Tryz.func219.trans (congrArg some (by kernel_rfl))⟩
 f23:=⟨Tryz.f220.name,by decide,Tryz.func220.trans (congrArg some (by kernel_rfl))⟩
 f24:=⟨Tryz.f221.name,by decide,Tryz.func221.trans (congrArg some (by kernel_rfl))⟩
 f25:=⟨Tryz.f222.name,by decide,Tryz.func222.trans (congrArg some (by kernel_rfl))⟩
 f26:=⟨Tryz.f223.name,by decide,Tryz.func223.trans (congrArg some (by kernel_rfl))⟩
 f27:=⟨Tryz.f224.name,by decide,Tryz.func224.trans (congrArg some (by kernel_rfl))⟩
 f28:=Tryz.func225.trans (congrArg some (by kernel_rfl))
 f29:=Tryz.func226.trans (congrArg some (by kernel_rfl))
 f46:=⟨Tryz.f284.name,by decide,Tryz.func284.trans (congrArg some (by kernel_rfl))⟩
 f47:=Tryz.func285.trans (congrArg some (by kernel_rfl))
 f48:=Tryz.func286.trans (congrArg some (by kernel_rfl))
 f49:=⟨Tryz.f287.name,by decide,Tryz.func287.trans (congrArg some (by kernel_rfl))⟩
 f50:=⟨Tryz.f288.name,by decide,Tryz.func288.trans (congrArg some (by kernel_rfl))⟩
 f57:=⟨Tryz.f315.name,by decide,Tryz.func315.trans (congrArg some (by kernel_rfl))⟩
 t0:=Tryz.underlying0
 a0:=Tryz.isAgg0
 z0:=Tryz.sizeOf0
 v0:=Tryz.zeroValue0
 t3:=Tryz.underlying3
 a3:=Tryz.isAgg3
 z3:=Tryz.sizeOf3
 v3:=Tryz.zeroValue3
 t4:=Tryz.underlying4
 a4:=Tryz.isAgg4
 z4:=Tryz.sizeOf4
 v4:=Tryz.zeroValue4
 t5:=Tryz.underlying5
 a5:=Tryz.isAgg5
 z5:=Tryz.sizeOf5
 v5:=Tryz.zeroValue5
 t9:=Tryz.underlying9
 a9:=Tryz.isAgg9
 z9:=Tryz.sizeOf9
 v9:=Tryz.zeroValue9
 t22:=Tryz.underlying108
 a22:=Tryz.isAgg108
 z22:=Tryz.sizeOf108
 v22:=Tryz.zeroValue108
 t25:=Tryz.underlying201
 a25:=Tryz.isAgg201
 z25:=Tryz.sizeOf201
 v25:=Tryz.zeroValue201
 t39:=Tryz.underlying270
 a39:=Tryz.isAgg270
 z39:=Tryz.sizeOf270
 v39:=Tryz.zeroValue270
 t45:=Tryz.underlying359
 a45:=Tryz.isAgg359
 z45:=Tryz.sizeOf359
 v45:=Tryz.zeroValue359
 t46:=Tryz.underlying360
 a46:=Tryz.isAgg360
 z46:=Tryz.sizeOf360
 v46:=Tryz.zeroValue360
 t50:=Tryz.underlying271
 a50:=Tryz.isAgg271
 z50:=Tryz.sizeOf271
 v50:=Tryz.zeroValue271
 t53:=Tryz.underlying366
 a53:=Tryz.isAgg366
 z53:=Tryz.sizeOf366
 v53:=Tryz.zeroValue366
 t55:=Tryz.underlying267
 a55:=Tryz.isAgg267
 z55:=Tryz.sizeOf267
 v55:=Tryz.zeroValue267
 t66:=Tryz.underlying405
 a66:=Tryz.isAgg405
 z66:=Tryz.sizeOf405
 v66:=Tryz.zeroValue405
 t70:=Tryz.underlying409
 a70:=Tryz.isAgg409
 z70:=Tryz.sizeOf409
 v70:=Tryz.zeroValue409
 t76:=Tryz.underlying426
 a76:=Tryz.isAgg426
 z76:=Tryz.sizeOf426
 v76:=Tryz.zeroValue426
 t77:=Tryz.underlying389
 a77:=Tryz.isAgg389
 z77:=Tryz.sizeOf389
 v77:=Tryz.zeroValue389 }
open Go.RowKit Go.Sort
def till (l:Tms) (k:Key):Int:=(mlook l k).getD 0
def cmpK (l:Tms) (x y:Key):Int:=orv [cmpv (till l x) (till l y),cmpv x.1 y.1,cmpv x.2 y.2]
theorem due_cmp (bx c b:Nat) (l:Tms) (x y:Key) (hx:okK x) (hy:okK y) (w0 W:World) (R:HP)
  (h:St w0 W (blk bx (.cells #[ptrC c] 94 (0,0))*(blk c (.cells #[.map (some b)] 182 (0,0))*(MAt kKey vInt b l*R)))) :
  Calls Tryz.prog 82 #[.agg #[.int .i64 x.1,.int .i64 x.2],.agg #[.int .i64 y.1,.int .i64 y.2],ptrC bx] W fun e w'=>e=.returned (.int .i64 (cmpK l x y))/\∃ q os,w'=grow (W.drewN q) os:=by
 obtain⟨x1,x2⟩:=x;obtain⟨y1,y2⟩:=y;obtain⟨tx,htx⟩:∃ t,till l (x1,x2)=t:=⟨_,rfl⟩;obtain⟨ty,hty⟩:∃ t,till l (y1,y2)=t:=⟨_,rfl⟩;unfold cmpK;rw[htx,hty];simp only[];have h2:=(h.alloc (.cells #[.int .i64 x1,.int .i64 x2] 111)).alloc (.cells #[.int .i64 y1,.int .i64 y2] 111);have hw:((W.alloc (.cells #[.int .i64 x1,.int .i64 x2] 111)).alloc (.cells #[.int .i64 y1,.int .i64 y2] 111))=grow W #[.cells #[.int .i64 x1,.int .i64 x2] 111,.cells #[.int .i64 y1,.int .i64 y2] 111]:=by
  rw[alloc_eq_grow,alloc_eq_grow,grow_grow];rfl
 simp only[World.size_alloc] at h2;have HW:=Lib.hid hw;clear hw;go_enter Tryz.func82,Tryz.ntmps82
 go_upto_region 1 with fail
 have HW2:=Lib.hid (show (W.alloc (.cells #[.int .i64 x1,.int .i64 x2] 111)).alloc (.cells #[.int .i64 y1,.int .i64 y2] 111)=_ from HW.out);clear HW;generalize (W.alloc (.cells #[.int .i64 x1,.int .i64 x2] 111)).alloc (.cells #[.int .i64 y1,.int .i64 y2] 111)=W2 at *;have cy:=h2.cell;have cx:=h2.f2.cell;have cb:=h2.f3.cell;have cc:=h2.f4.cell;have lx:=h2.drew.f5.till (x1,x2) hx;have ly:=h2.drew.f5.till (y1,y2) hy;simp only[] at lx ly;rw[show (mlook l (x1,x2)).getD 0=tx from htx] at lx;rw[show (mlook l (y1,y2)).getD 0=ty from hty] at ly;clear htx hty h2 h;refine wp_region_still_tail 23 (by kernel_rfl) (by kernel_rfl) ?_
 simp only[List.take_succ_cons,List.take_zero,List.drop_succ_cons,List.drop_zero];repeat still_step
 still_call (cmp_i64 tx ty _)
 repeat still_step
 still_call (cmp_int x1 y1 _)
 repeat still_step
 still_call (cmp_int x2 y2 _)
 repeat still_step
 refine wpStill_nil ?_
 change wpList _ _ _ _ _ W2.drew
 have hor:=cmp_or [cmpv tx ty,cmpv x1 y1,cmpv x2 y2] W2.drew.heap.size 0 3 (W2.drew.alloc (.cells #[.int .i64 (cmpv tx ty),.int .i64 (cmpv x1 y1),.int .i64 (cmpv x2 y2)] 3)) (by simp) (fun i x hi=>by
  rw[Nat.zero_add];refine new_cells W2.drew [.int .i64 (cmpv tx ty),.int .i64 (cmpv x1 y1),.int .i64 (cmpv x2 y2)] _ _ rfl i _ ?_
  match i,hi with
  | 0,hi=>simpa using hi
  | 1,hi=>simpa using hi
  | 2,hi=>simpa using hi)
 clear cx cy cb cc lx ly;go_wp2_with fail
 refine hor.mono ?_
 rintro e w' ⟨rfl,rfl⟩;go_wp2;go_ret
 refine⟨rfl,1,#[.cells #[.int .i64 x1,.int .i64 x2] 111,.cells #[.int .i64 y1,.int .i64 y2] 111,.cells #[.int .i64 (cmpv tx ty),.int .i64 (cmpv x1 y1),.int .i64 (cmpv x2 y2)] 3],?_⟩
 rw[HW2.out,alloc_eq_grow];show grow (grow W.drew _) _=_
 rw[grow_grow];rfl
def aheadK (l:Tms) (x y:Key):Prop:=till l x<till l y\/(till l x=till l y/\(x.1<y.1\/(x.1=y.1/\x.2<y.2)))
theorem cmpv_lt (a b:Int):cmpv a b<0↔a<b:=by unfold cmpv;split <;> (try split) <;> omega
theorem cmpv_eq (a b:Int):cmpv a b=0↔a=b:=by unfold cmpv;split <;> (try split) <;> omega
theorem ltOf_cmpK (l:Tms) (x y:Key):ltOf (cmpK l) x y=true↔aheadK l x y:=by
 unfold ltOf cmpK orv aheadK;have h1:=cmpv_lt (till l x) (till l y);have e1:=cmpv_eq (till l x) (till l y);have h2:=cmpv_lt x.1 y.1;have e2:=cmpv_eq x.1 y.1;have h3:=cmpv_lt x.2 y.2;generalize cmpv (till l x) (till l y)=a at *;generalize cmpv x.1 y.1=b at *;generalize cmpv x.2 y.2=c at *;by_cases ha:a=0
 ·by_cases hb:b=0
  ·by_cases hc:c=0
   ·simp[ha,hb,hc];omega
   ·simp[ha,hb,hc];omega
  ·simp[ha,hb];omega
 ·simp[ha];omega
theorem swoK (l:Tms):SWO (ltOf (cmpK l)) where
 irrefl x:=by
  rw[Bool.eq_false_iff];intro h;have:=(ltOf_cmpK l x x).1 h
  unfold aheadK at this;omega
 trans x y z h1 h2:=by
  have a:=(ltOf_cmpK l x y).1 h1;have b:=(ltOf_cmpK l y z).1 h2;refine (ltOf_cmpK l x z).2 ?_
  unfold aheadK at *;omega
 ntrans x y z h1 h2:=by
  rw[Bool.eq_false_iff] at *;intro h;have a:=mt (ltOf_cmpK l x y).2 h1;have b:=mt (ltOf_cmpK l y z).2 h2;have c:=(ltOf_cmpK l x z).1 h;unfold aheadK at *;omega
theorem totalK (l:Tms) (x y:Key) (h1:ltOf (cmpK l) x y=false) (h2:ltOf (cmpK l) y x=false):x=y:=by
 rw[Bool.eq_false_iff] at *;have a:=mt (ltOf_cmpK l x y).2 h1;have b:=mt (ltOf_cmpK l y x).2 h2;unfold aheadK at *;obtain⟨x1,x2⟩:=x;obtain⟨y1,y2⟩:=y;simp only[Prod.mk.injEq] at *;omega
def sortK (l:Tms) (ks:List Key):List Key:=ks.mergeSort fun x y=>!(ltOf (cmpK l) y x)
theorem sortK_perm (l:Tms) (ks:List Key):(sortK l ks).Perm ks:=List.mergeSort_perm _ _
theorem sortK_sorted (l:Tms) (ks:List Key):(sortK l ks).Pairwise fun x y=>¬ aheadK l y x:=by
 have h:=List.pairwise_mergeSort (le:=fun x y=>!(ltOf (cmpK l) y x)) (fun a b c h1 h2=>by
   simp only[Bool.not_eq_true'] at *;exact (swoK l).ntrans _ _ _ h2 h1) (fun a b=>by
   simp only[Bool.or_eq_true,Bool.not_eq_true'];cases h:ltOf (cmpK l) b a
   ·exact .inl rfl
   ·right
    cases h':ltOf (cmpK l) a b
    ·rfl
    ·have:=(swoK l).trans _ _ _ h h'
     rw[(swoK l).irrefl] at this;cases this) ks
 refine h.imp fun {x y} hxy ha=>?_
 rw[(ltOf_cmpK l y x).2 ha] at hxy;cases hxy
open Go.RowKit Go.Sort
abbrev KeyOk:={ k:Key // okK k }
theorem okZero:okK (0,0):=⟨by decide,by decide⟩
instance:Inhabited KeyOk:=⟨⟨(0,0),okZero⟩⟩
def keyC' (k:KeyOk):List Value:=keyC k.1
theorem flat_ok (l:List KeyOk):l.flatMap keyC'=(l.map (·.1)).flatMap keyC:=by
 induction l with
 | nil=>rfl
 | cons k l ih=>simp[keyC',ih]
theorem LAt_ok (v:Value) (l:List KeyOk):LAt 111 2 keyC' v l=LAt 111 2 keyC v (l.map (·.1)):=by
 unfold LAt;rw[flat_ok,List.length_map]
theorem tyKey:ETy Tryz.prog 108 111 2 16 keyC :=
 ⟨Tryz.underlying108,⟨.agg #[.int .i64 0,.int .i64 0],by kernel_rfl,rfl⟩,fun _=>rfl,fun b u hu=>by simp[keyC] at hu;rcases hu with rfl | rfl <;> rfl,by decide,by decide⟩
theorem due_sort (v:Value) (ks:List Key) (bx c b:Nat) (l:Tms) (hok:∀ k ∈ ks,okK k) (hlen:ks.length<=1000000) (w0 w:World) (R:HP)
  (h:St w0 w (LAt 111 2 keyC v ks*(blk bx (.cells #[ptrC c] 94 (0,0))*(blk c (.cells #[.map (some b)] 182 (0,0))*(MAt kKey vInt b l*R))))) :
  Calls Tryz.prog 81 #[v,.func (.func 82) #[] #[ptrC bx]] w fun e w'=>e=.returned (.tuple #[])/\St w0 w' (LAt 111 2 keyC v (sortK l ks)*(blk bx (.cells #[ptrC c] 94 (0,0))*(blk c (.cells #[.map (some b)] 182 (0,0))*(MAt kKey vInt b l*R)))):=by
 rcases h.l_cells tyKey.len with ⟨rfl,a,rfl⟩ | ⟨g,off,cap,rfl,_,_,_⟩
 ·have:=AnyF.slices_SortFunc_none (P:=Tryz.prog) (ρ:=sortKey_ren) { sortKey with } a 0 (.func (.func 82) #[] #[ptrC bx]) w
  refine Calls.mono this ?_
  rintro e w' ⟨rfl,rfl⟩;exact⟨rfl,by simpa[sortK] using h⟩
 ·by_cases hne:ks=[]
  ·subst hne
   have:=AnyF.slices_SortFunc_none (P:=Tryz.prog) (ρ:=sortKey_ren) { sortKey with } (some ⟨g,off,none⟩) cap (.func (.func 82) #[] #[ptrC bx]) w
   refine Calls.mono this ?_
   rintro e w' ⟨rfl,rfl⟩;exact⟨rfl,by simpa[sortK] using h⟩
  obtain⟨ks',rfl⟩:∃ ks':List KeyOk,ks=ks'.map (·.1):=⟨ks.attachWith okK hok,by simp[List.attachWith,List.map_pmap]⟩;rw[← LAt_ok] at h;have hne':ks'≠[]:=fun e=>hne (by rw[e];rfl)
  rw[List.length_map] at h hlen ⊢;obtain⟨_,hH,hg⟩:=h.l_holds (fun _=>rfl) (by decide) hne';have eg:∀ args w,(callFunc 82 args).run Tryz.prog w=.ok (.enter 82 args) w:=enters_of Tryz.func82 (by kernel_rfl) rfl;have hcmp:CmpLays Tryz.prog 82 #[ptrC bx] keyC' 2 (fun x y:KeyOk=>cmpK l x.1 y.1) g off ks'.toArray.size w:=by
   intro m os dk hd x y;have h2:=h.l_sort (l':=dk.toList) (fun _=>rfl) (by decide) hne' (by simpa using hd) m os;exact due_cmp bx c b l x.1 y.1 x.2 y.2 w0 _ _ h2.drop
  have hsw:SWO (ltOf fun x y:KeyOk=>cmpK l x.1 y.1):=⟨fun x=>(swoK l).irrefl x.1,fun x y z=>(swoK l).trans x.1 y.1 z.1,fun x y z=>(swoK l).ntrans x.1 y.1 z.1⟩;have hcon:=AnyQ.slices_SortFunc_total (P:=Tryz.prog) (ρ:=sortKey_ren) sortKey 2 Tryz.isAgg111 Tryz.sizeOf111 keyC' (fun _=>rfl) (fun x v hv=>tyKey.one x.1 v hv) (fun x y:KeyOk=>cmpK l x.1 y.1) hsw 82 #[ptrC bx] g off cap ks'.toArray w eg hcmp hH hg (by simp;omega) (fun x y h1 h2=>Subtype.ext (totalK l x.1 y.1 h1 h2));have hsz:ks'.toArray.size=ks'.length:=by simp
  rw[hsz] at hcon;refine Calls.mono hcon ?_
  rintro e w' ⟨rfl,n,os,rfl⟩;refine⟨rfl,?_⟩
  have hms:(ks'.mergeSort fun x y=>!(ltOf (fun x y:KeyOk=>cmpK l x.1 y.1) y x)).map (·.1)=sortK l (ks'.map (·.1)):=List.map_mergeSort fun _ _ _ _=>rfl
  have h3:=h.l_sort (l':=ks'.mergeSort fun x y=>!(ltOf (fun x y:KeyOk=>cmpK l x.1 y.1) y x)) (fun _=>rfl) (by decide) hne' (by simp) n os;rw[LAt_ok,hms] at h3;exact h3
end Go.Proofs.YtjcldoejpldcmaaGreatDoor
