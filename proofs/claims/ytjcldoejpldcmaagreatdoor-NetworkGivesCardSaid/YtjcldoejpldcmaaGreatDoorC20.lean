/- Parts of a proof (NMuxP, NMux). No condition. -/
import Derived.Lib.SlicesCompact
import Derived.Test.YtjcldoejpldcmaaGreatDoorC1
import Derived.Test.YtjcldoejpldcmaaGreatDoorC2
import Derived.Test.YtjcldoejpldcmaaGreatDoorProg
import Derived.DeepKeys4
namespace Go.Proofs.YtjcldoejpldcmaaGreatDoor
set_option maxRecDepth 100000
set_option maxHeartbeats 6400000
open Go.RowKit
theorem strict_ext {α:Type} {r:α->α->Prop} (irr:∀ a,¬ r a a) (asy:∀ a b,r a b->¬ r b a):∀ {l m:List α},l.Pairwise r->m.Pairwise r->(∀ a,a ∈ l↔a ∈ m)->l=m
 | [],[],_,_,_=>rfl
 | [],b :: m,_,_,h=>by have:=(h b).2 (by simp);cases this
 | a :: l,[],_,_,h=>by have:=(h a).1 (by simp);cases this
 | a :: l,b :: m,hl,hm,h=>by
   simp only[List.pairwise_cons] at hl hm;have e:a=b:=by
    rcases List.mem_cons.1 ((h a).1 (by simp)) with e | h1
    ·exact e
    ·rcases List.mem_cons.1 ((h b).2 (by simp)) with e | h2
     ·exact e.symm
     ·exact absurd (hm.1 a h1) (asy _ _ (hl.1 b h2))
   subst e;congr 1
   refine strict_ext irr asy hl.2 hm.2 fun c=>?_
   constructor
   ·intro hc
    rcases List.mem_cons.1 ((h c).1 (by simp[hc])) with e | h1
    ·subst e;exact absurd (hl.1 c hc) (irr c)
    ·exact h1
   ·intro hc
    rcases List.mem_cons.1 ((h c).2 (by simp[hc])) with e | h1
    ·subst e;exact absurd (hm.1 c hc) (irr c)
    ·exact h1
theorem bang_at {zs:List Int} {j:Nat} (h:j<zs.length):zs.toArray[j]! =zs[j]:=by
 rw[getElem!_pos zs.toArray j (by simpa using h)];simp
theorem compact_strict {zs:List Int} (h:zs.Pairwise (·<=·)):(Lib.compact zs).Pairwise (·<·):=by
 unfold Lib.compact Lib.compactUpTo;rw[List.pairwise_map];have h0:((List.range zs.length).filter (Lib.keeps zs.toArray)).Pairwise (·<·):=List.Pairwise.sublist List.filter_sublist List.pairwise_lt_range;have h1:((List.range zs.length).filter (Lib.keeps zs.toArray)).Pairwise fun i j=>i<j/\i<zs.length/\j<zs.length/\Lib.keeps zs.toArray j=true:=by
  refine h0.imp_of_mem fun {i j} hi hj hij=>?_
  have a:=List.mem_filter.1 hi;have b:=List.mem_filter.1 hj;exact⟨hij,List.mem_range.1 a.1,List.mem_range.1 b.1,b.2⟩
 refine h1.imp fun {i j} hij=>?_
 obtain⟨a,b,c,d⟩:=hij;rw[bang_at b,bang_at c];have hp:=List.pairwise_iff_getElem.1 h;have hne:zs[j]≠zs[j - 1]:=by
  unfold Lib.keeps at d;have d2:=of_decide_eq_true d;rcases d2 with d2 | d2
  ·omega
  ·rw[bang_at c,bang_at (show j - 1<zs.length by omega)] at d2
   exact d2
 have h2:=hp (j - 1) j (by omega) c (by omega);by_cases e:i=j - 1
 ·subst e;omega
 ·have h3:=hp i (j - 1) b (by omega) (by omega)
  omega
theorem compact_mem (zs:List Int) (a:Int):a ∈ Lib.compact zs↔a ∈ zs:=by
 unfold Lib.compact Lib.compactUpTo;constructor
 ·intro h
  obtain⟨j,hj,rfl⟩:=List.mem_map.1 h;have:=List.mem_range.1 (List.mem_filter.1 hj).1
  rw[bang_at this];exact List.getElem_mem _
 ·intro h
  obtain⟨j,hj,rfl⟩:=List.getElem_of_mem h;have key:∀ (n:Nat) (hn:n<zs.length),zs[n] ∈ ((List.range zs.length).filter (Lib.keeps zs.toArray)).map (zs.toArray[·]!):=by
   intro n;induction n with
   | zero =>
     intro hn;exact List.mem_map.2 ⟨0,List.mem_filter.2 ⟨List.mem_range.2 hn,by simp[Lib.keeps]⟩,bang_at hn⟩
   | succ n ih =>
     intro hn;by_cases e:zs[n+1]=zs[n]
     ·rw[e];exact ih (by omega)
     ·refine List.mem_map.2 ⟨n+1,List.mem_filter.2 ⟨List.mem_range.2 hn,?_⟩,bang_at hn⟩
      unfold Lib.keeps;rw[bang_at hn,Nat.add_sub_cancel,bang_at (show n<zs.length by omega)];simp[e]
  exact key j hj
def insI (x:Int):List Int->List Int
 | []=>[x]
 | a :: l=>if a=x then a :: l else if x<a then x :: a :: l else a :: insI x l
theorem insI_mem (x:Int):∀ (l:List Int) (a:Int),a ∈ insI x l↔a=x\/a ∈ l
 | [],a=>by simp[insI]
 | b :: l,a=>by
   unfold insI;split
   ·rename_i e;subst e;simp
   ·split
    ·simp
    ·simp only[List.mem_cons,insI_mem x l a]
     constructor
     ·rintro (h | h | h)
      ·exact .inr (.inl h)
      ·exact .inl h
      ·exact .inr (.inr h)
     ·rintro (h | h | h)
      ·exact .inr (.inl h)
      ·exact .inl h
      ·exact .inr (.inr h)
theorem insI_strict (x:Int):∀ {l:List Int},l.Pairwise (·<·)->(insI x l).Pairwise (·<·)
 | [],_=>by simp[insI]
 | b :: l,h=>by
   unfold insI;have h':=h;simp only[List.pairwise_cons] at h;split
   ·exact h'
   ·split
    ·rename_i h1 h2
     rw[List.pairwise_cons];refine⟨fun c hc=>?_,h'⟩
     rcases List.mem_cons.1 hc with e | hc
     ·omega
     ·have:=h.1 c hc;omega
    ·rename_i h1 h2
     rw[List.pairwise_cons];refine⟨fun c hc=>?_,insI_strict x h.2⟩
     rcases (insI_mem x l c).1 hc with e | hc
     ·omega
     ·exact h.1 c hc
def setI (l:List Int):List Int:=l.foldl (fun o x=>insI x o) []
theorem foldl_ins (l:List Int):∀ o:List Int,o.Pairwise (·<·)->(l.foldl (fun o x=>insI x o) o).Pairwise (·<·)/\∀ a,a ∈ l.foldl (fun o x=>insI x o) o↔a ∈ o\/a ∈ l:=by
 induction l with
 | nil=>intro o ho;exact⟨ho,fun a=>by simp⟩
 | cons x l ih =>
   intro o ho;obtain⟨h1,h2⟩:=ih (insI x o) (insI_strict x ho);refine⟨h1,fun a=>?_⟩
   rw[List.foldl_cons,h2,insI_mem,List.mem_cons];constructor
   ·rintro ((h | h) | h)
    ·exact .inr (.inl h)
    ·exact .inl h
    ·exact .inr (.inr h)
   ·rintro (h | h | h)
    ·exact .inl (.inr h)
    ·exact .inl (.inl h)
    ·exact .inr h
theorem setI_strict (l:List Int):(setI l).Pairwise (·<·):=(foldl_ins l [] (by simp)).1
theorem setI_mem (l:List Int) (a:Int):a ∈ setI l↔a ∈ l:=by
 rw[setI,(foldl_ins l [] (by simp)).2];simp
theorem compact_sort {l:List Int} {zs:List Int} (h1:zs.Pairwise (·<=·)) (h2:∀ a,a ∈ zs↔a ∈ l):Lib.compact zs=setI l :=
 strict_ext (fun a=>by omega) (fun a b h=>by omega) (compact_strict h1) (setI_strict l) fun a=>by rw[compact_mem,setI_mem,h2]
abbrev Lk:=Int × Int
def aheadL (x y:Lk):Prop:=x.1<y.1\/(x.1=y.1/\x.2<y.2)
instance (x y:Lk):Decidable (aheadL x y):=by unfold aheadL;exact inferInstance
theorem aheadL_irr (a:Lk):¬ aheadL a a:=by unfold aheadL;omega
theorem aheadL_asy (a b:Lk):aheadL a b->¬ aheadL b a:=by unfold aheadL;omega
theorem aheadL_tri {a b:Lk} (h:¬ aheadL a b) (hn:a≠b):aheadL b a:=by
 obtain⟨a1,a2⟩:=a;obtain⟨b1,b2⟩:=b;simp only[ne_eq,Prod.mk.injEq] at hn;unfold aheadL at *;simp only[] at *;omega
theorem aheadL_trans {a b c:Lk} (h1:aheadL a b) (h2:aheadL b c):aheadL a c:=by unfold aheadL at *;omega
abbrev Eh:=Lk × Int
def insE (k:Lk) (id:Int):List Eh->List Eh
 | []=>[(k,id)]
 | p :: l=>if aheadL k p.1 then (k,id) :: p :: l else p :: insE k id l
theorem insE_perm (k:Lk) (id:Int):∀ l:List Eh,(insE k id l).Perm ((k,id) :: l)
 | []=>.refl _
 | p :: l=>by
   unfold insE;split
   ·exact .refl _
   ·exact ((insE_perm k id l).cons p).trans (List.Perm.swap _ _ _)
theorem insE_strict (k:Lk) (id:Int):∀ {l:List Eh},l.Pairwise (fun p q=>aheadL p.1 q.1)->(∀ p ∈ l,p.1≠k)->(insE k id l).Pairwise fun p q=>aheadL p.1 q.1
 | [],_,_=>by simp[insE]
 | p :: l,h,hn=>by
   unfold insE;have h':=h;simp only[List.pairwise_cons] at h;split
   ·rename_i ha
    rw[List.pairwise_cons];refine⟨fun c hc=>?_,h'⟩
    rcases List.mem_cons.1 hc with e | hc
    ·subst e;exact ha
    ·exact aheadL_trans ha (h.1 c hc)
   ·rename_i ha
    rw[List.pairwise_cons];refine⟨fun c hc=>?_,insE_strict k id h.2 fun q hq=>hn q (by simp[hq])⟩
    rcases List.mem_cons.1 ((insE_perm k id l).mem_iff.1 hc) with e | hc
    ·subst e;exact aheadL_tri ha (hn p (by simp)).symm
    ·exact h.1 c hc
abbrev ptrX (b:Nat):Value:=.pointer (some ⟨b,0,none⟩)
abbrev lkC (k:Lk):List Value:=[.int .i64 k.1,.int .i64 k.2]
def okL (k:Lk):Prop:=(Lit.int .i64 k.1).wf=true/\(Lit.int .i64 k.2).wf=true
def kLk:KD Lk:=⟨fun k=>.agg (lkC k).toArray,okL,fun a b h=>by
 obtain⟨a1,a2⟩:=a;obtain⟨b1,b2⟩:=b;simpa using h⟩
abbrev vId (t:Int):Value:=.int .i64 t
theorem laidOutL:laidOutB Tryz.prog=true:=by kernel_rfl
theorem lkRow:(73:TypeId)<Tryz.prog.types.size:=of_decide_eq_true (by kernel_rfl)
theorem lkWide:(match Tryz.prog.underlying 73 with | some (.array _ _) | some (.struct _)=>true | _=>false)=true:=by rw[Tryz.underlying73]
theorem lkAt:Tryz.prog.keyTypeAt 2 73=true:=by kernel_rfl
theorem lkLaw:WideMaps.KeyLaw Tryz.prog 73:=deep_law_laid laidOutL (m:=2) (by omega) lkRow lkAt lkWide
theorem lkCells:Tryz.prog.cellsOf 73=2:=by kernel_rfl
theorem intCellsL:Tryz.prog.cellsOf 3=1:=by kernel_rfl
theorem lkReads (k:Lk) (h:okL k):∃ l,keyOf Tryz.prog 73 (kLk.kv k)=some l:=by
 obtain⟨a,b⟩:=k;obtain⟨h1,h2⟩:=h;simp only[] at h1 h2;have hk:Tryz.prog.keyType 73=true:=by kernel_rfl
 obtain⟨n,hn⟩:∃ n,Tryz.prog.types.size+1=n+2:=⟨Tryz.prog.types.size - 1,by have h:(73:Nat)<Tryz.prog.types.size:=lkRow;omega⟩;unfold keyOf;rw[Tryz.underlying73,hk,hn];simp[kLk,lkC,Value.formed,Tryz.underlying73,lkCells,Program.keyLits,Tryz.underlying3,intCellsL,h1,h2,Value.cells]
theorem tyWho:MTy Tryz.prog 177 73 3 kLk :=
 ⟨Tryz.underlying177,Maps.Keyed.of_law lkLaw,lkReads⟩
theorem zeroIntL (w:World):(zeroValue 3).run Tryz.prog w=.ok (.int .i64 0) w:=by kernel_rfl
structure Mx where
 most:Int
 l:List Eh
def XAt (m:Nat) (x:Mx):HP:=hex fun b:Nat=>blk m (.cells #[.int .i64 x.most,.map (some b)] 179 (0,0))*MAt kLk vId b x.l
structure Mx.Ok (x:Mx):Prop where
 nd:(x.l.map (·.1)).Nodup
 rng:∀ p ∈ x.l,0<=p.1.1/\p.1.1<=63/\0<=p.1.2/\p.1.2<=126
 len:(x.l.length:Int)<=x.most
 m1:1<=x.most
 m2:x.most<=128
section
variable {w0 w:World} {R:HP} {m:Nat} {x:Mx} {l:List Eh}
theorem St.x_open (h:St w0 w (XAt m x*R)):∃ b,St w0 w (blk m (.cells #[.int .i64 x.most,.map (some b)] 179 (0,0))*(MAt kLk vId b x.l*R)):=by
 obtain⟨b,h⟩:=h.ex;exact⟨b,h.eq (star_assoc _ _ _)⟩
theorem St.x_shut {b:Nat} {most:Int} (h:St w0 w (blk m (.cells #[.int .i64 most,.map (some b)] 179 (0,0))*(MAt kLk vId b l*R))):St w0 w (XAt m ⟨most,l⟩*R) :=
 St.mk_ex b (h.eq (star_assoc _ _ _).symm)
theorem St.who {b:Nat} (h:St w0 w (MAt kLk vId b l*R)) (k:Lk) (hk:okL k) :
  (Instr.lookup 177 (.map (some b)) (.agg #[.int .i64 k.1,.int .i64 k.2]) true).run Tryz.prog w=.ok (.tuple #[.int .i64 ((mlook l k).getD 0),.bool (mlook l k).isSome]) w:=by
 have:=h.map_look tyWho k hk (zeroIntL _) true
 rw[show ((mlook l k).map vId).getD (.int .i64 0)=.int .i64 ((mlook l k).getD 0) by cases mlook l k <;> rfl] at this;exact this
end
def mostOf (n:Int):Int:=max 1 (min n 128)
theorem x_new (n:Int) (w0 w:World) (R:HP) (h:St w0 w R) :
  Calls Tryz.prog 29 #[.int .i64 n] w fun e w'=>∃ m,e=.returned (ptrX m)/\St w0 w' (XAt m ⟨mostOf n,[]⟩*R):=by
 have hmm:=@run_makeMap Tryz.prog;have h2:=h.map_new kLk vId;have h3:=h2.alloc (.cells #[.int .i64 (mostOf n),.map (some w.heap.size)] 179);simp only[World.size_alloc] at h3;have H3:=Lib.hid h3;clear h h2 h3;go_enter Tryz.func29,Tryz.ntmps29
 go_wp2;all_goals go_ret
 all_goals first
  | (have e:mostOf n=n:=by (unfold mostOf;omega)
     rw[e] at H3 ⊢;exact⟨_,rfl,H3.out.x_shut⟩)
  | (have e:mostOf n=1:=by (unfold mostOf;omega)
     rw[e] at H3 ⊢;exact⟨_,rfl,H3.out.x_shut⟩)
  | (have e:mostOf n=128:=by (unfold mostOf;omega)
     rw[e] at H3 ⊢;exact⟨_,rfl,H3.out.x_shut⟩)
def Mx.join (x:Mx) (k:Lk) (id:Int):Mx × Int :=
 if k.1<0\/63<k.1\/k.2<0\/126<k.2 then (x,2)
 else if (mlook x.l k).isSome=true then (x,13)
 else if x.most<=x.l.length then (x,10)
 else (⟨x.most,mput x.l k id⟩,0)
def Mx.leave (x:Mx) (k:Lk):Mx × Bool:=(⟨x.most,mdel x.l k⟩,(mlook x.l k).isSome)
theorem x_join (m:Nat) (x:Mx) (k:Lk) (hk:okL k) (id:Int) (hlen:x.l.length<=100000) (w0 w:World) (R:HP) (h:St w0 w (XAt m x*R)) :
  Calls Tryz.prog 153 #[ptrX m,.agg #[.int .i64 k.1,.int .i64 k.2],.int .i64 id] w fun e w'=>e=.returned (.int .i64 (x.join k id).2)/\St w0 w' (XAt m (x.join k id).1*R):=by
 obtain⟨k1,k2⟩:=k;have h1:=h.alloc (.cells #[.int .i64 k1,.int .i64 k2] 73);unfold Mx.join;simp only[];by_cases b1:k1<0
 ·rw[if_pos (by simp[b1])]
  go_enter Tryz.func153,Tryz.ntmps153
  go_wp2;go_ret
  exact⟨rfl,h1.drop⟩
 have b1':decide (k1<0)=false:=by simpa using b1
 by_cases b2:64<=k1
 ·have b2':decide (64<=k1)=true:=by simpa using b2
  rw[if_pos (by omega)];go_enter Tryz.func153,Tryz.ntmps153
  go_wp2;go_ret
  exact⟨rfl,h1.drop⟩
 have b2':decide (64<=k1)=false:=by simpa using b2
 by_cases b3:k2<0
 ·rw[if_pos (by simp[b3])]
  go_enter Tryz.func153,Tryz.ntmps153
  go_wp2;go_ret
  exact⟨rfl,h1.drop⟩
 have b3':decide (k2<0)=false:=by simpa using b3
 by_cases b4:126<k2
 ·rw[if_pos (by simp[b4])]
  go_enter Tryz.func153,Tryz.ntmps153
  go_wp2;go_ret
  exact⟨rfl,h1.drop⟩
 have b4':decide (126<k2)=false:=by simpa using b4
 rw[if_neg (by omega)];obtain⟨b,h2⟩:=h1.f2.x_open;have c2:=h2.cell;have c3:=h2.f3.cell;have hl:=fun n=>(h2.drewN n).f2.who (k1,k2) hk
 simp only[] at hl;cases hm:mlook x.l (k1,k2) with
 | some u =>
   rw[hm] at hl;simp only[Option.isSome_some,if_true];simp only[Option.getD_some,Option.isSome_some] at hl;have H1:=Lib.hid h1;clear h1 h2 h;go_enter Tryz.func153,Tryz.ntmps153
   go_upto_region 5 with fail
   generalize w.alloc _=w2 at *;go_quiet (fail)
   go_wp2;go_ret
   exact⟨rfl,(H1.out.drewN _).drop⟩
 | none =>
   rw[hm] at hl;simp only[Option.isSome_none,Bool.false_eq_true,if_false];simp only[Option.getD_none,Option.isSome_none] at hl;have H2:=Lib.hid h2;obtain⟨mo,l⟩:=x;simp only[] at *;obtain⟨n,hn⟩:∃ n:Int,(l.length:Int)=n:=⟨_,rfl⟩;rw[hn];have HN:=Lib.hid hn;clear hn hlen h1 h2 h hm;by_cases b5:mo<=n
   ·rw[if_pos b5]
    have b5':decide (mo<=n)=true:=by simpa using b5
    clear b5;go_enter Tryz.func153,Tryz.ntmps153
    go_upto_region 5 with fail
    generalize w.alloc _=w2 at *;generalize w.heap.size=ga at *;go_quiet (fail)
    have h4:=H2.out.drewN nq;clear c2 c3 hl;generalize w2.drewN nq=w4 at *;clear H2 nq;have c2:=h4.cell;have c3:=h4.f3.cell;have hln:=fun m ty=>(h4.drewN m).f2.map_len tyWho.ht ty
    rw[HN.out] at hln;go_upto_region 8 with fail
    go_quiet (fail)
    go_wp2;go_ret
    exact⟨rfl,(h4.drewN _).f3.drop.x_shut⟩
   ·rw[if_neg b5]
    have b5':decide (mo<=n)=false:=by simpa using b5
    clear b5;go_enter Tryz.func153,Tryz.ntmps153
    go_upto_region 5 with fail
    generalize w.alloc _=w2 at *;generalize w.heap.size=ga at *;go_quiet (fail)
    have h4:=H2.out.drewN nq;clear c2 c3 hl;generalize w2.drewN nq=w4 at *;clear H2 nq;have c2:=h4.cell;have c3:=h4.f3.cell;have hln:=fun m ty=>(h4.drewN m).f2.map_len tyWho.ht ty
    rw[HN.out] at hln;go_upto_region 8 with fail
    go_quiet (fail)
    have h5:=h4.drewN nq;clear c2 c3 hln;generalize w4.drewN nq=w5 at *;have c2:=h5.cell;have c3:=h5.f3.cell;go_upto_region 10 with fail
    go_still_tail 6,(by kernel_rfl)
    change wpList _ _ _ _ _ w5.drew
    have h6:=h5.drew;clear c2 c3 h5;generalize w5.drew=w6 at *;go_wp2_with (at_mapUpdate;refine wp_mput rfl (.tmp 54) (.tmp 55) (.tmp 56) 177 rfl tyWho h6.f2 rfl (k1,k2) rfl hk id rfl ?_;intro w7 h8)
    go_ret
    exact⟨rfl,h8.f2.f3.drop.x_shut⟩
theorem x_leave (m:Nat) (x:Mx) (k:Lk) (hk:okL k) (w0 w:World) (R:HP) (h:St w0 w (XAt m x*R)) :
  Calls Tryz.prog 229 #[ptrX m,.agg #[.int .i64 k.1,.int .i64 k.2]] w fun e w'=>e=.returned (.bool (x.leave k).2)/\St w0 w' (XAt m (x.leave k).1*R):=by
 obtain⟨k1,k2⟩:=k;have h1:=h.alloc (.cells #[.int .i64 k1,.int .i64 k2] 73);obtain⟨b,h2⟩:=h1.f2.x_open;have c2:=h2.cell;have c3:=h2.f3.cell;have hl:=fun n=>(h2.drewN n).f2.who (k1,k2) hk
 simp only[] at hl;unfold Mx.leave;simp only[];obtain⟨r,hr⟩:∃ r,(mlook x.l (k1,k2)).isSome=r:=⟨_,rfl⟩;rw[hr] at hl ⊢;have H2:=Lib.hid h2;clear h1 h2 h;go_enter Tryz.func229,Tryz.ntmps229
 go_upto_region 3 with fail
 generalize w.alloc _=w2 at *;generalize w.heap.size=ga at *;go_quiet (fail)
 have h4:=H2.out.drewN nq;clear c2 c3 hl;generalize w2.drewN nq=w4 at *;clear H2 nq;have c2:=h4.cell;have c3:=h4.f3.cell;go_upto_region 4 with fail
 go_still_tail 5,(by kernel_rfl)
 change wpList _ _ _ _ _ w4.drew
 have h6:=h4.drew;clear c2 c3 h4;generalize w4.drew=w6 at *;go_wp2_with (at_delete;refine wp_mdel rfl (.tmp 21) (.tmp 22) 177 73 rfl tyWho h6.f2 rfl (k1,k2) rfl hk ?_;intro w7 h8)
 go_ret
 exact⟨rfl,h8.f2.f3.drop.x_shut⟩
end Go.Proofs.YtjcldoejpldcmaaGreatDoor
