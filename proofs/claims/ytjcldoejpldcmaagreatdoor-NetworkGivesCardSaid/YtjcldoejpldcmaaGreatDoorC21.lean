/- Parts of a proof (SortLinks, LaySortZ, LayCompact, NMuxS, NMuxL). No condition. -/
import Derived.Shelf.SlSortCmp.NoneTotal
import Derived.Ground.SlsfProg
import Derived.Test.YtjcldoejpldcmaaGreatDoorProg
import Derived.Shelf.SortM.Plain
import Derived.Shelf.SortM.SortNone
import Derived.Ground.SlgmProg
import Derived.Shelf.Slices.CompactI
import Derived.Ground.Names2Prog
import Derived.Test.YtjcldoejpldcmaaGreatDoorC20
import Derived.Test.YtjcldoejpldcmaaGreatDoorC16
import Derived.StillTailTactics
namespace Go.Proofs.YtjcldoejpldcmaaGreatDoor
set_option maxRecDepth 100000
set_option maxHeartbeats 6400000
open Go.Shelf
def sortLink_ren:Go.Shelf.Ren:=⟨fun | 6=>290 | 15=>146 | 14=>316 | 28=>225 | 29=>226 | 20=>335 | 21=>336 | 22=>337 | 23=>338 | 24=>339 | 25=>340 | 26=>341 | 27=>342 | 46=>352 | 47=>285 | 48=>286 | 49=>353 | 50=>354 | 57=>358 | n=>n,fun | 22=>369 | 24=>73 | 25=>413 | 3=>3 | 39=>270 | 0=>0 | 53=>366 | 55=>267 | 4=>4 | 46=>360 | 45=>359 | 50=>271 | 5=>5 | 9=>9 | 66=>405 | 70=>409 | 76=>426 | 77=>389 | n=>n,fun | n=>n⟩
theorem sortLink:Go.Proofs.SlLaysF0.n6 Tryz.prog sortLink_ren:={
 mixed:=by kernel_rfl
 f6:=⟨Tryz.f290.name,by decide,Tryz.func290.trans (congrArg some (by kernel_rfl))⟩
 f14:=⟨Tryz.f316.name,by decide,Tryz.func316.trans (congrArg some (by kernel_rfl))⟩
 f15:=Tryz.func146.trans (congrArg some (by kernel_rfl))
 f20:=⟨Tryz.f335.name,by decide,Tryz.func335.trans (congrArg some (by kernel_rfl))⟩
 f21:=⟨Tryz.f336.name,by decide,Tryz.func336.trans (congrArg some (by kernel_rfl))⟩
 f22:=⟨Tryz.f337.name,by decide,Tryz.func337.trans (congrArg some (by kernel_rfl))⟩
 f23:=⟨Tryz.f338.name,by decide,Tryz.func338.trans (congrArg some (by kernel_rfl))⟩
 f24:=⟨Tryz.f339.name,by decide,Tryz.func339.trans (congrArg some (by kernel_rfl))⟩
 f25:=⟨Tryz.f340.name,by decide,Tryz.func340.trans (congrArg some (by kernel_rfl))⟩
 f26:=⟨Tryz.f341.name,by decide,Tryz.func341.trans (congrArg some (by kernel_rfl))⟩
 f27:=⟨Tryz.f342.name,by decide,Tryz.func342.trans (congrArg some (by kernel_rfl))⟩
 f28:=Tryz.func225.trans (congrArg some (by kernel_rfl))
 f29:=Tryz.func226.trans (congrArg some (by kernel_rfl))
 f46:=⟨Tryz.f352.name,by decide,Tryz.func352.trans (congrArg some (by kernel_rfl))⟩
 f47:=Tryz.func285.trans (congrArg some (by kernel_rfl))
 f48:=Tryz.func286.trans (congrArg some (by kernel_rfl))
 f49:=⟨Tryz.f353.name,by decide,Tryz.func353.trans (congrArg some (by kernel_rfl))⟩
 f50:=⟨Tryz.f354.name,by decide,Tryz.func354.trans (congrArg some (by kernel_rfl))⟩
 f57:=⟨Tryz.f358.name,by decide,Tryz.func358.trans (congrArg some (by kernel_rfl))⟩
 t0:=Tryz.underlying0
 a0:=Tryz.isAgg0
 z0:=Tryz.sizeOf0
 v0:=Tryz.zeroValue0
 t3:=Tryz.underlying3
 a3:=Tryz.isAgg3
 z3:=Tryz.sizeOf3
 v3:=Tryz.zeroValue3
 t4:=Tryz.underlying4
 a4:=Tryz.isAgg4
 z4:=Tryz.sizeOf4
 v4:=Tryz.zeroValue4
 t5:=Tryz.underlying5
 a5:=Tryz.isAgg5
 z5:=Tryz.sizeOf5
 v5:=Tryz.zeroValue5
 t9:=Tryz.underlying9
 a9:=Tryz.isAgg9
 z9:=Tryz.sizeOf9
 v9:=Tryz.zeroValue9
 t22:=Tryz.underlying369
 a22:=Tryz.isAgg369
 z22:=Tryz.sizeOf369
 v22:=Tryz.zeroValue369
 t25:=Tryz.underlying413
 a25:=Tryz.isAgg413
 z25:=Tryz.sizeOf413
 v25:=Tryz.zeroValue413
 t39:=Tryz.underlying270
 a39:=Tryz.isAgg270
 z39:=Tryz.sizeOf270
 v39:=Tryz.zeroValue270
 t45:=Tryz.underlying359
 a45:=Tryz.isAgg359
 z45:=Tryz.sizeOf359
 v45:=Tryz.zeroValue359
 t46:=Tryz.underlying360
 a46:=Tryz.isAgg360
 z46:=Tryz.sizeOf360
 v46:=Tryz.zeroValue360
 t50:=Tryz.underlying271
 a50:=Tryz.isAgg271
 z50:=Tryz.sizeOf271
 v50:=Tryz.zeroValue271
 t53:=Tryz.underlying366
 a53:=Tryz.isAgg366
 z53:=Tryz.sizeOf366
 v53:=Tryz.zeroValue366
 t55:=Tryz.underlying267
 a55:=Tryz.isAgg267
 z55:=Tryz.sizeOf267
 v55:=Tryz.zeroValue267
 t66:=Tryz.underlying405
 a66:=Tryz.isAgg405
 z66:=Tryz.sizeOf405
 v66:=Tryz.zeroValue405
 t70:=Tryz.underlying409
 a70:=Tryz.isAgg409
 z70:=Tryz.sizeOf409
 v70:=Tryz.zeroValue409
 t76:=Tryz.underlying426
 a76:=Tryz.isAgg426
 z76:=Tryz.sizeOf426
 v76:=Tryz.zeroValue426
 t77:=Tryz.underlying389
 a77:=Tryz.isAgg389
 z77:=Tryz.sizeOf389
 v77:=Tryz.zeroValue389 }
open Go.Shelf
def laySortZ_ren:Go.Shelf.Ren:=⟨fun | 5=>128 | 8=>146 | 7=>207 | 19=>225 | 20=>226 | 10=>268 | 11=>269 | 12=>270 | 13=>271 | 14=>272 | 15=>273 | 16=>274 | 17=>275 | 18=>276 | 30=>307 | 31=>285 | 32=>286 | 33=>308 | 34=>309 | 35=>148 | 40=>333 | n=>n,fun | 23=>24 | 25=>3 | 3=>3 | 32=>270 | 22=>24 | 0=>0 | 44=>366 | 46=>267 | 4=>4 | 36=>360 | 35=>359 | 41=>271 | 5=>5 | 9=>9 | 53=>405 | 57=>409 | 63=>426 | 64=>389 | n=>n,fun | n=>n⟩
theorem laySortZ:Go.Proofs.SlLaysM.n5 Tryz.prog laySortZ_ren:={
 mixed:=by kernel_rfl
 f5:=⟨Tryz.f128.name,by decide,Tryz.func128.trans (congrArg some (by kernel_rfl))⟩
 f7:=⟨Tryz.f207.name,by decide,Tryz.func207.trans (congrArg some (by kernel_rfl))⟩
 f8:=Tryz.func146.trans (congrArg some (by kernel_rfl))
 f10:=⟨Tryz.f268.name,by decide,Tryz.func268.trans (congrArg some (by kernel_rfl))⟩
 f11:=⟨Tryz.f269.name,by decide,Tryz.func269.trans (congrArg some (by kernel_rfl))⟩
 f12:=⟨Tryz.f270.name,by decide,Tryz.func270.trans (congrArg some (by kernel_rfl))⟩
 f13:=⟨Tryz.f271.name,by decide,Tryz.func271.trans (congrArg some (by kernel_rfl))⟩
 f14:=⟨Tryz.f272.name,by decide,Tryz.func272.trans (congrArg some (by kernel_rfl))⟩
 f15:=⟨Tryz.f273.name,by decide,Tryz.func273.trans (congrArg some (by kernel_rfl))⟩
 f16:=⟨Tryz.f274.name,by decide,Tryz.func274.trans (congrArg some (by kernel_rfl))⟩
 f17:=⟨Tryz.f275.name,by decide,Tryz.func275.trans (congrArg some (by kernel_rfl))⟩
 f18:=⟨Tryz.f276.name,by decide,Tryz.func276.trans (congrArg some (by kernel_rfl))⟩
 f19:=Tryz.func225.trans (congrArg some (by kernel_rfl))
 f20:=Tryz.func226.trans (congrArg some (by kernel_rfl))
 f30:=⟨Tryz.f307.name,by decide,Tryz.func307.trans (congrArg some (by kernel_rfl))⟩
 f31:=Tryz.func285.trans (congrArg some (by kernel_rfl))
 f32:=Tryz.func286.trans (congrArg some (by kernel_rfl))
 f33:=⟨Tryz.f308.name,by decide,Tryz.func308.trans (congrArg some (by kernel_rfl))⟩
 f34:=⟨Tryz.f309.name,by decide,Tryz.func309.trans (congrArg some (by kernel_rfl))⟩
 f35:=⟨Tryz.f148.name,by decide,Tryz.func148.trans (congrArg some (by kernel_rfl))⟩
 f40:=⟨Tryz.f333.name,by decide,Tryz.func333.trans (congrArg some (by kernel_rfl))⟩
 t0:=Tryz.underlying0
 a0:=Tryz.isAgg0
 z0:=Tryz.sizeOf0
 v0:=Tryz.zeroValue0
 t3:=Tryz.underlying3
 a3:=Tryz.isAgg3
 z3:=Tryz.sizeOf3
 v3:=Tryz.zeroValue3
 t4:=Tryz.underlying4
 a4:=Tryz.isAgg4
 z4:=Tryz.sizeOf4
 v4:=Tryz.zeroValue4
 t5:=Tryz.underlying5
 a5:=Tryz.isAgg5
 z5:=Tryz.sizeOf5
 v5:=Tryz.zeroValue5
 t9:=Tryz.underlying9
 a9:=Tryz.isAgg9
 z9:=Tryz.sizeOf9
 v9:=Tryz.zeroValue9
 t22:=Tryz.underlying24
 a22:=Tryz.isAgg24
 z22:=Tryz.sizeOf24
 v22:=Tryz.zeroValue24
 t23:=Tryz.underlying24
 a23:=Tryz.isAgg24
 z23:=Tryz.sizeOf24
 v23:=Tryz.zeroValue24
 t25:=Tryz.underlying3
 a25:=Tryz.isAgg3
 z25:=Tryz.sizeOf3
 v25:=Tryz.zeroValue3
 t32:=Tryz.underlying270
 a32:=Tryz.isAgg270
 z32:=Tryz.sizeOf270
 v32:=Tryz.zeroValue270
 t35:=Tryz.underlying359
 a35:=Tryz.isAgg359
 z35:=Tryz.sizeOf359
 v35:=Tryz.zeroValue359
 t36:=Tryz.underlying360
 a36:=Tryz.isAgg360
 z36:=Tryz.sizeOf360
 v36:=Tryz.zeroValue360
 t41:=Tryz.underlying271
 a41:=Tryz.isAgg271
 z41:=Tryz.sizeOf271
 v41:=Tryz.zeroValue271
 t44:=Tryz.underlying366
 a44:=Tryz.isAgg366
 z44:=Tryz.sizeOf366
 v44:=Tryz.zeroValue366
 t46:=Tryz.underlying267
 a46:=Tryz.isAgg267
 z46:=Tryz.sizeOf267
 v46:=Tryz.zeroValue267
 t53:=Tryz.underlying405
 a53:=Tryz.isAgg405
 z53:=Tryz.sizeOf405
 v53:=Tryz.zeroValue405
 t57:=Tryz.underlying409
 a57:=Tryz.isAgg409
 z57:=Tryz.sizeOf409
 v57:=Tryz.zeroValue409
 t63:=Tryz.underlying426
 a63:=Tryz.isAgg426
 z63:=Tryz.sizeOf426
 v63:=Tryz.zeroValue426
 t64:=Tryz.underlying389
 a64:=Tryz.isAgg389
 z64:=Tryz.sizeOf389
 v64:=Tryz.zeroValue389 }
open Go.Shelf
def layCompact_ren:Go.Shelf.Ren:=⟨fun | 20=>129 | n=>n,fun | 22=>24 | 3=>3 | 4=>4 | 0=>0 | n=>n,fun | n=>n⟩
theorem layCompact:Go.Proofs.Lays2.n20 Tryz.prog layCompact_ren:={
 mixed:=by kernel_rfl
 f20:=Tryz.func129.trans (congrArg some (by kernel_rfl))
 t0:=Tryz.underlying0
 a0:=Tryz.isAgg0
 z0:=Tryz.sizeOf0
 v0:=Tryz.zeroValue0
 t3:=Tryz.underlying3
 a3:=Tryz.isAgg3
 z3:=Tryz.sizeOf3
 v3:=Tryz.zeroValue3
 t4:=Tryz.underlying4
 a4:=Tryz.isAgg4
 z4:=Tryz.sizeOf4
 v4:=Tryz.zeroValue4
 t22:=Tryz.underlying24
 a22:=Tryz.isAgg24
 z22:=Tryz.sizeOf24
 v22:=Tryz.zeroValue24
 i3:=by kernel_rfl }
open Go.RowKit Go.Sort Go.Shelf
abbrev intL (n:Int):List Value:=[.int .i64 n]
theorem flat_intL:∀ l:List Int,l.flatMap intL=l.map (Value.int .i64)
 | []=>rfl
 | a :: l=>by rw[List.flatMap_cons,flat_intL l];rfl
abbrev sortZ (l:List Int):List Int:=l.mergeSort fun x y=>decide (x<=y)
theorem sortZ_mem (l:List Int) (a:Int):a ∈ sortZ l↔a ∈ l:=(List.mergeSort_perm _ _).mem_iff
theorem sortZ_len (l:List Int):(sortZ l).length=l.length:=(List.mergeSort_perm _ _).length_eq
theorem sortZ_le (l:List Int):(sortZ l).Pairwise (·<=·):=by
 have:=List.pairwise_mergeSort (le:=fun x y:Int=>decide (x<=y)) (fun a b c h1 h2=>by simp at *;omega) (fun a b=>by simp;omega) l
 exact this.imp fun h=>by simpa using h
section
variable {w0 w:World} {R:HP} {E:TypeId} {l:List Int} {g off cap n:Nat}
theorem St.z_holds (h:St w0 w (LAt E 1 intL (.slice (some ⟨g,off,none⟩) n cap) l*R)) (hl:l≠[]):n=l.length/\Holds (Value.int .i64) w g off l.toArray/\g<w.heap.size/\n<=cap:=by
 rcases h.row with ⟨a0,hv,hn,_⟩ | ⟨g',off',cap',cur,hv,h1,h2,h3,h4,hs⟩
 ·exact absurd (List.eq_nil_of_length_eq_zero hn) hl
 ·simp only[Value.slice.injEq,Option.some.injEq,Addr.mk.injEq] at hv
  obtain⟨⟨rfl,rfl,_⟩,rfl,rfl⟩:=hv;refine⟨rfl,?_,hs.lt,h1⟩
  rw[flat_intL] at h4;intro j hj;have hj':j<l.length:=by simpa using hj
  refine⟨?_,hs.free _⟩
  rw[hs.cell,h4 j (by omega)];simp[hj']
theorem St.z_put (h:St w0 w (LAt E 1 intL (.slice (some ⟨g,off,none⟩) n cap) l*R)) (hl:l≠[]) {ys:List Int} (hy:ys.length=l.length) (k:Nat) (hk:k<=l.length) (m:Nat) (os:Array Obj) :
  St w0 (grow (putRow (Value.int .i64) (Sort.ahead w m) g off ys.toArray) os) (LAt E 1 intL (.slice (some ⟨g,off,none⟩) k cap) (ys.take k)*R):=by
 rcases h.row with ⟨a0,hv,hn,_⟩ | ⟨g',off',cap',cur,hv,h1,h2,h3,h4,hs⟩
 ·exact absurd (List.eq_nil_of_length_eq_zero hn) hl
 ·simp only[Value.slice.injEq,Option.some.injEq,Addr.mk.injEq] at hv
  obtain⟨⟨rfl,rfl,_⟩,rfl,rfl⟩:=hv;have hb:=hs.heap;have hlt:=hs.lt;have hheap:(grow (putRow (Value.int .i64) (Sort.ahead w m) g off ys.toArray) os).heap=w.heap.modify g (onCells (putCells (Value.int .i64) off ys.toArray))++os:=rfl;have hs2:St w0 (grow (putRow (Value.int .i64) (Sort.ahead w m) g off ys.toArray) os) (blk g (.cells (putCells (Value.int .i64) off ys.toArray cur) E (0,0))*R):=by
   refine hs.swap rfl rfl rfl ?_ ?_
   ·rw[hheap,Array.getElem?_append_left (by simpa using hlt),Array.getElem?_modify,if_pos rfl,hb]
    rfl
   ·intro j hj hjl
    rw[hheap,Array.getElem?_append_left (by simpa using hjl),Array.getElem?_modify,if_neg (Ne.symm hj)]
  have hlen:(ys.take k).length=k:=by simp;omega
  have:=St.row_mk (xs:=(ys.take k).flatMap intL) (n:=k) (sz:=1) (off:=off) (cap:=cap) hs2 (by rw[flat_intL,List.length_map,hlen,Nat.mul_one]) (by omega) h2 (by simpa[putCells] using h3) (fun j hj=>?_)
  ·unfold LAt
   rw[hlen];exact this
  ·have hj':j<k:=by omega
   have hc:off+j<cur.size:=by omega
   have hjy:j<ys.length:=by omega
   simp only[putCells,Array.getElem?_mapIdx,Array.getElem?_eq_getElem hc,Option.map_some,List.size_toArray];rw[if_pos ⟨by omega,by omega⟩,Nat.add_sub_cancel_left,flat_intL,List.getElem?_map,List.getElem?_take_of_lt hj',List.getElem?_eq_getElem hjy,getElem!_pos ys.toArray j (by simpa using hjy)];simp
end
theorem tyZ:ETy Tryz.prog 24 3 1 8 intL :=
 ⟨Tryz.underlying24,⟨.int .i64 0,by kernel_rfl,rfl⟩,fun _=>rfl,fun b u hu=>by simp[intL] at hu;rcases hu with rfl;rfl,by decide,by decide⟩
theorem z_sort (v:Value) (l:List Int) (hl:l.length<=1000000) (w0 w:World) (R:HP) (h:St w0 w (LAt 3 1 intL v l*R)) :
  Calls Tryz.prog 128 #[v] w fun e w'=>e=.returned (.tuple #[])/\St w0 w' (LAt 3 1 intL v (sortZ l)*R):=by
 by_cases hne:l=[]
 ·subst hne
  obtain⟨a,cap,rfl,_,_⟩:=h.l_shape;refine Calls.mono (AnyM.slices_Sort_int_none laySortZ a cap w) ?_
  rintro e w' ⟨rfl,rfl⟩;exact⟨rfl,by simpa[sortZ] using h⟩
 ·rcases h.l_cells tyZ.len with ⟨rfl,_⟩ | ⟨g,off,cap,rfl,_,_,_⟩
  ·exact absurd rfl hne
  obtain⟨_,hH,hg,_⟩:=h.z_holds hne;refine Calls.mono (AnyM.slices_Sort_int laySortZ g off cap l w hH hg (by omega)) ?_
  rintro e w' ⟨rfl,n,os,rfl⟩;have h2:=h.z_put hne (sortZ_len l) l.length (Nat.le_refl _) n os;rw[List.take_of_length_le (by rw[sortZ_len];exact Nat.le_refl _)] at h2;exact⟨rfl,h2⟩
theorem compact_len (l:List Int):(Lib.compact l).length<=l.length:=by
 unfold Lib.compact Lib.compactUpTo;rw[List.length_map];exact Nat.le_trans (List.length_filter_le _ _) (by simp)
theorem z_compact (v:Value) (l:List Int) (hl:l.length<=1000000) (w0 w:World) (R:HP) (h:St w0 w (LAt 3 1 intL v l*R)) :
  Calls Tryz.prog 129 #[v] w fun e w'=>∃ v',e=.returned v'/\St w0 w' (LAt 3 1 intL v' (Lib.compact l)*R):=by
 by_cases hne:l=[]
 ·subst hne
  obtain⟨a,cap,rfl,_,_⟩:=h.l_shape;refine Calls.mono (Any.slices_Compact_int_empty layCompact a cap w) ?_
  rintro e w' ⟨rfl,rfl⟩;exact⟨_,rfl,by simpa[Lib.compact,Lib.compactUpTo] using h⟩
 ·rcases h.l_cells tyZ.len with ⟨rfl,_⟩ | ⟨g,off,cap,rfl,_,_,_⟩
  ·exact absurd rfl hne
  obtain⟨_,hH,hg,hcap⟩:=h.z_holds hne;refine Calls.mono (Any.slices_Compact_int layCompact g off cap l w hH (by omega) hcap) ?_
  rintro e w' ⟨rfl,q,rfl⟩;have hcl:=compact_len l;have h2:=h.z_put hne (ys:=Lib.compact l++List.replicate (l.length - (Lib.compact l).length) 0) (by simp;omega) (Lib.compact l).length hcl q #[];rw[List.take_left] at h2;exact⟨_,rfl,h2⟩
def cmpL (x y:Lk):Int:=orv [cmpv x.1 y.1,cmpv x.2 y.2]
theorem link_cmp (x y:Lk) (w0 W:World) (R:HP) (h:St w0 W R) :
  Calls Tryz.prog 291 #[.agg #[.int .i64 x.1,.int .i64 x.2],.agg #[.int .i64 y.1,.int .i64 y.2]] W fun e w'=>e=.returned (.int .i64 (cmpL x y))/\∃ q os,w'=grow (W.drewN q) os:=by
 obtain⟨x1,x2⟩:=x;obtain⟨y1,y2⟩:=y;unfold cmpL;simp only[];have h2:=(h.alloc (.cells #[.int .i64 x1,.int .i64 x2] 73)).alloc (.cells #[.int .i64 y1,.int .i64 y2] 73);have hw:((W.alloc (.cells #[.int .i64 x1,.int .i64 x2] 73)).alloc (.cells #[.int .i64 y1,.int .i64 y2] 73))=grow W #[.cells #[.int .i64 x1,.int .i64 x2] 73,.cells #[.int .i64 y1,.int .i64 y2] 73]:=by
  rw[alloc_eq_grow,alloc_eq_grow,grow_grow];rfl
 simp only[World.size_alloc] at h2;have HW:=Lib.hid hw;clear hw;go_enter Tryz.func291,Tryz.ntmps291
 go_upto_region 1 with fail
 have HW2:=Lib.hid (show (W.alloc (.cells #[.int .i64 x1,.int .i64 x2] 73)).alloc (.cells #[.int .i64 y1,.int .i64 y2] 73)=_ from HW.out);clear HW;generalize (W.alloc (.cells #[.int .i64 x1,.int .i64 x2] 73)).alloc (.cells #[.int .i64 y1,.int .i64 y2] 73)=W2 at *;have cy:=h2.cell;have cx:=h2.f2.cell;clear h2 h;refine wp_region_still_tail 10 (by kernel_rfl) (by kernel_rfl) ?_
 simp only[List.take_succ_cons,List.take_zero,List.drop_succ_cons,List.drop_zero];repeat still_step
 still_call (cmp_int x1 y1 _)
 repeat still_step
 still_call (cmp_int x2 y2 _)
 repeat still_step
 refine wpStill_nil ?_
 change wpList _ _ _ _ _ W2.drew
 have hor:=cmp_or [cmpv x1 y1,cmpv x2 y2] W2.drew.heap.size 0 2 (W2.drew.alloc (.cells #[.int .i64 (cmpv x1 y1),.int .i64 (cmpv x2 y2)] 3)) (by simp) (fun i x hi=>by
  rw[Nat.zero_add];refine new_cells W2.drew [.int .i64 (cmpv x1 y1),.int .i64 (cmpv x2 y2)] _ _ rfl i _ ?_
  match i,hi with
  | 0,hi=>simpa using hi
  | 1,hi=>simpa using hi)
 clear cx cy;go_wp2_with fail
 refine hor.mono ?_
 rintro e w' ⟨rfl,rfl⟩;go_wp2;go_ret
 refine⟨rfl,1,#[.cells #[.int .i64 x1,.int .i64 x2] 73,.cells #[.int .i64 y1,.int .i64 y2] 73,.cells #[.int .i64 (cmpv x1 y1),.int .i64 (cmpv x2 y2)] 3],?_⟩
 rw[HW2.out,alloc_eq_grow];show grow (grow W.drew _) _=_
 rw[grow_grow];rfl
theorem cmpv_ltL (a b:Int):cmpv a b<0↔a<b:=by unfold cmpv;split <;> (try split) <;> omega
theorem cmpv_eqL (a b:Int):cmpv a b=0↔a=b:=by unfold cmpv;split <;> (try split) <;> omega
theorem ltOf_cmpL (x y:Lk):ltOf cmpL x y=true↔aheadL x y:=by
 unfold ltOf cmpL orv aheadL;have h1:=cmpv_ltL x.1 y.1;have e1:=cmpv_eqL x.1 y.1;have h2:=cmpv_ltL x.2 y.2;generalize cmpv x.1 y.1=a at *;generalize cmpv x.2 y.2=b at *;by_cases ha:a=0
 ·by_cases hb:b=0
  ·simp[ha,hb];omega
  ·simp[ha,hb];omega
 ·simp[ha];omega
theorem swoL:SWO (ltOf cmpL) where
 irrefl x:=by
  rw[Bool.eq_false_iff];intro h;exact aheadL_irr _ ((ltOf_cmpL x x).1 h)
 trans x y z h1 h2:=(ltOf_cmpL x z).2 (aheadL_trans ((ltOf_cmpL x y).1 h1) ((ltOf_cmpL y z).1 h2))
 ntrans x y z h1 h2:=by
  rw[Bool.eq_false_iff] at *;intro h;have a:=mt (ltOf_cmpL x y).2 h1;have b:=mt (ltOf_cmpL y z).2 h2;have c:=(ltOf_cmpL x z).1 h;unfold aheadL at *;omega
theorem totalL (x y:Lk) (h1:ltOf cmpL x y=false) (h2:ltOf cmpL y x=false):x=y:=by
 rw[Bool.eq_false_iff] at *;have a:=mt (ltOf_cmpL x y).2 h1;have b:=mt (ltOf_cmpL y x).2 h2;unfold aheadL at *;obtain⟨x1,x2⟩:=x;obtain⟨y1,y2⟩:=y;simp only[Prod.mk.injEq] at *;omega
def sortL (ks:List Lk):List Lk:=ks.mergeSort fun x y=>!(ltOf cmpL y x)
theorem sortL_perm (ks:List Lk):(sortL ks).Perm ks:=List.mergeSort_perm _ _
theorem sortL_strict {ks:List Lk} (hn:ks.Nodup):(sortL ks).Pairwise aheadL:=by
 have h:=List.pairwise_mergeSort (le:=fun x y=>!(ltOf cmpL y x)) (fun a b c h1 h2=>by
   simp only[Bool.not_eq_true'] at *;exact swoL.ntrans _ _ _ h2 h1) (fun a b=>by
   simp only[Bool.or_eq_true,Bool.not_eq_true'];cases h:ltOf cmpL b a
   ·exact .inl rfl
   ·right
    cases h':ltOf cmpL a b
    ·rfl
    ·have:=swoL.trans _ _ _ h h'
     rw[swoL.irrefl] at this;cases this) ks
 have hd:(sortL ks).Nodup:=(sortL_perm ks).nodup_iff.2 hn;refine (h.and hd).imp fun {x y} hxy=>?_
 obtain⟨h1,h2⟩:=hxy;by_cases ha:aheadL x y
 ·exact ha
 ·have:=aheadL_tri ha h2
  rw[(ltOf_cmpL y x).2 this] at h1;cases h1
abbrev LkOk:={ k:Lk // okL k }
theorem okZeroL:okL (0,0):=⟨by decide,by decide⟩
instance:Inhabited LkOk:=⟨⟨(0,0),okZeroL⟩⟩
def lkC' (k:LkOk):List Value:=lkC k.1
theorem flat_okL (l:List LkOk):l.flatMap lkC'=(l.map (·.1)).flatMap lkC:=by
 induction l with
 | nil=>rfl
 | cons k l ih=>simp[lkC',ih]
theorem LAt_okL (v:Value) (l:List LkOk):LAt 73 2 lkC' v l=LAt 73 2 lkC v (l.map (·.1)):=by
 unfold LAt;rw[flat_okL,List.length_map]
theorem tyLk:ETy Tryz.prog 369 73 2 16 lkC :=
 ⟨Tryz.underlying369,⟨.agg #[.int .i64 0,.int .i64 0],by kernel_rfl,rfl⟩,fun _=>rfl,fun b u hu=>by simp[lkC] at hu;rcases hu with rfl | rfl <;> rfl,by decide,by decide⟩
theorem link_sort (v:Value) (ks:List Lk) (hok:∀ k ∈ ks,okL k) (hlen:ks.length<=1000000) (w0 w:World) (R:HP)
  (h:St w0 w (LAt 73 2 lkC v ks*R)) :
  Calls Tryz.prog 290 #[v,.func (.func 291) #[] #[]] w fun e w'=>e=.returned (.tuple #[])/\St w0 w' (LAt 73 2 lkC v (sortL ks)*R):=by
 rcases h.l_cells tyLk.len with ⟨rfl,a,rfl⟩ | ⟨g,off,cap,rfl,_,_,_⟩
 ·have:=AnyF.slices_SortFunc_none (P:=Tryz.prog) (ρ:=sortLink_ren) { sortLink with } a 0 (.func (.func 291) #[] #[]) w
  refine Calls.mono this ?_
  rintro e w' ⟨rfl,rfl⟩;exact⟨rfl,by simpa[sortL] using h⟩
 ·by_cases hne:ks=[]
  ·subst hne
   have:=AnyF.slices_SortFunc_none (P:=Tryz.prog) (ρ:=sortLink_ren) { sortLink with } (some ⟨g,off,none⟩) cap (.func (.func 291) #[] #[]) w
   refine Calls.mono this ?_
   rintro e w' ⟨rfl,rfl⟩;exact⟨rfl,by simpa[sortL] using h⟩
  obtain⟨ks',rfl⟩:∃ ks':List LkOk,ks=ks'.map (·.1):=⟨ks.attachWith okL hok,by simp[List.attachWith,List.map_pmap]⟩;rw[← LAt_okL] at h;have hne':ks'≠[]:=fun e=>hne (by rw[e];rfl)
  rw[List.length_map] at h hlen ⊢;obtain⟨_,hH,hg⟩:=h.l_holds (fun _=>rfl) (by decide) hne';have eg:∀ args w,(callFunc 291 args).run Tryz.prog w=.ok (.enter 291 args) w:=enters_of Tryz.func291 (by kernel_rfl) rfl;have hcmp:CmpLays Tryz.prog 291 #[] lkC' 2 (fun x y:LkOk=>cmpL x.1 y.1) g off ks'.toArray.size w:=by
   intro m os dk hd x y;have h2:=h.l_sort (l':=dk.toList) (fun _=>rfl) (by decide) hne' (by simpa using hd) m os;exact link_cmp x.1 y.1 w0 _ _ h2
  have hsw:SWO (ltOf fun x y:LkOk=>cmpL x.1 y.1):=⟨fun x=>swoL.irrefl x.1,fun x y z=>swoL.trans x.1 y.1 z.1,fun x y z=>swoL.ntrans x.1 y.1 z.1⟩;have hcon:=AnyQ.slices_SortFunc_total (P:=Tryz.prog) (ρ:=sortLink_ren) sortLink 2 Tryz.isAgg73 Tryz.sizeOf73 lkC' (fun _=>rfl) (fun x v hv=>tyLk.one x.1 v hv) (fun x y:LkOk=>cmpL x.1 y.1) hsw 291 #[] g off cap ks'.toArray w eg hcmp hH hg (by simp;omega) (fun x y h1 h2=>Subtype.ext (totalL x.1 y.1 h1 h2));have hsz:ks'.toArray.size=ks'.length:=by simp
  rw[hsz] at hcon;refine Calls.mono hcon ?_
  rintro e w' ⟨rfl,n,os,rfl⟩;refine⟨rfl,?_⟩
  have hms:(ks'.mergeSort fun x y=>!(ltOf (fun x y:LkOk=>cmpL x.1 y.1) y x)).map (·.1)=sortL (ks'.map (·.1)):=List.map_mergeSort fun _ _ _ _=>rfl
  have h3:=h.l_sort (l':=ks'.mergeSort fun x y=>!(ltOf (fun x y:LkOk=>cmpL x.1 y.1) y x)) (fun _=>rfl) (by decide) hne' (by simp) n os;rw[LAt_okL,hms] at h3;exact h3
open Go.RowKit
theorem look_iffL {α β:Type} [DecidableEq α]:∀ (l:List (α × β)) (t:α),(mlook l t).isSome=true↔t ∈ l.map (·.1)
 | [],t=>by simp[mlook]
 | p :: l,t=>by
   unfold mlook;by_cases h:p.1=t
   ·rw[if_pos h];simp[h]
   ·rw[if_neg h,look_iffL l t]
    have:¬ t=p.1:=fun e=>h e.symm
    simp[this]
theorem look_mem {α β:Type} [DecidableEq α]:∀ {l:List (α × β)} {k:α} {v:β},mlook l k=some v->(k,v) ∈ l
 | p :: l,k,v,h=>by
   unfold mlook at h;split at h
   ·rename_i e
    simp at h
    subst e h;simp
   ·simp[look_mem h]
theorem mem_look {α β:Type} [DecidableEq α] {l:List (α × β)} {k:α} {v:β} (hn:(l.map (·.1)).Nodup) (h:(k,v) ∈ l):mlook l k=some v:=by
 obtain⟨j,hj⟩:=List.getElem?_of_mem h;exact mlook_at hn hj
theorem mdel_flt {α β:Type} [DecidableEq α] {k:α}:∀ {l:List (α × β)},(l.map (·.1)).Nodup->mdel l k=l.filter fun p=>decide (p.1≠k)
 | [],_=>rfl
 | p :: l,h=>by
   simp only[List.map_cons,List.nodup_cons] at h;unfold mdel;by_cases hp:p.1=k
   ·rw[if_pos hp,List.filter_cons_of_neg (by simp[hp])]
    rw[eq_comm,List.filter_eq_self];intro q hq;simp only[decide_eq_true_eq];rintro rfl;exact h.1 (List.mem_map.2 ⟨q,hq,hp.symm⟩)
   ·rw[if_neg hp,List.filter_cons_of_pos (by simp[hp]),mdel_flt h.2]
theorem mput_newL {α β:Type} [DecidableEq α] {k:α} {v:β}:∀ {l:List (α × β)},(mlook l k).isSome=false->mput l k v=l++[(k,v)]
 | [],_=>rfl
 | p :: l,h=>by
   unfold mlook at h;unfold mput;by_cases hp:p.1=k
   ·rw[if_pos hp] at h;cases h
   ·rw[if_neg hp] at h ⊢
    rw[mput_newL h];rfl
structure Rel (x:Mx) (L:List Eh):Prop where
 perm:L.Perm x.l
 str:L.Pairwise fun p q=>aheadL p.1 q.1
theorem Rel.nil (n:Int):Rel ⟨n,[]⟩ []:=⟨.refl _,by simp⟩
theorem Rel.nd {x:Mx} {L:List Eh} (h:Rel x L):(L.map (·.1)).Nodup:=by
 rw[List.Nodup,List.pairwise_map];refine h.str.imp fun hpq e=>?_
 have e2:=hpq;rw[e] at e2;exact aheadL_irr _ e2
theorem Rel.ndx {x:Mx} {L:List Eh} (h:Rel x L):(x.l.map (·.1)).Nodup:=(h.perm.map _).nodup_iff.1 h.nd
def badL (k:Lk):Prop:=k.1<0\/63<k.1\/k.2<0\/126<k.2
instance (k:Lk):Decidable (badL k):=by unfold badL;exact inferInstance
def rjoin (most:Int) (L:List Eh) (k:Lk) (id:Int):List Eh × Int :=
 if badL k then (L,2)
 else if (mlook L k).isSome=true then (L,13)
 else if (L.length:Int)=most then (L,10)
 else (insE k id L,0)
theorem Rel.isSome {x:Mx} {L:List Eh} (h:Rel x L) (k:Lk):(mlook L k).isSome=(mlook x.l k).isSome:=by
 rw[Bool.eq_iff_iff,look_iffL,look_iffL];exact (h.perm.map _).mem_iff
theorem Rel.join {x:Mx} {L:List Eh} (h:Rel x L) (ok:x.Ok) (k:Lk) (id:Int):(rjoin x.most L k id).2=(x.join k id).2/\Rel (x.join k id).1 (rjoin x.most L k id).1/\(x.join k id).1.Ok/\(x.join k id).1.most=x.most:=by
 unfold rjoin Mx.join;show (if badL k then _ else _:List Eh × Int).2=(if badL k then _ else _:Mx × Int).2/\_
 change _/\Rel (if badL k then _ else _:Mx × Int).1 _/\Mx.Ok (if badL k then _ else _:Mx × Int).1/\Mx.most (if badL k then _ else _:Mx × Int).1=_
 by_cases h1:badL k
 ·simp only[if_pos h1];refine⟨?_,h,ok,?_⟩ <;> first | rfl | trivial
 simp only[if_neg h1,h.isSome];by_cases h2:(mlook x.l k).isSome=true
 ·simp only[if_pos h2];refine⟨?_,h,ok,?_⟩ <;> first | rfl | trivial
 simp only[if_neg h2];have hl:=h.perm.length_eq;have hl2:=ok.len;by_cases h3:(L.length:Int)=x.most
 ·rw[if_pos h3,if_pos (by omega)];refine⟨?_,h,ok,?_⟩ <;> first | rfl | trivial
 rw[if_neg h3,if_neg (by omega)];have h2':(mlook x.l k).isSome=false:=by simpa using h2
 rw[mput_newL h2'];have hnk:∀ p ∈ L,p.1≠k:=fun p hp e=>h2 ((look_iffL _ _).2 ((h.perm.map _).mem_iff.1 (List.mem_map.2 ⟨p,hp,e⟩)))
 refine⟨rfl,⟨(insE_perm k id L).trans ((h.perm.cons _).trans (List.perm_append_comm (l₁:=[(k,id)]))),insE_strict k id h.str hnk⟩,⟨?_,?_,?_,ok.m1,ok.m2⟩,rfl⟩
 ·rw[List.map_append,List.nodup_append]
  refine⟨ok.nd,by simp,fun a ha b hb e=>?_⟩
  simp at hb
  subst e hb;exact h2 ((look_iffL _ _).2 ha)
 ·intro p hp
  rcases List.mem_append.1 hp with hp | hp
  ·exact ok.rng p hp
  ·simp at hp
   subst hp;unfold badL at h1;simp only[];omega
 ·simp only[List.length_append,List.length_cons,List.length_nil]
  omega
def rleave (L:List Eh) (k:Lk):List Eh × Bool:=(L.filter fun p=>decide (p.1≠k),decide ((L.filter fun p=>decide (p.1≠k)).length<L.length))
theorem Ok.sub {x:Mx} (ok:x.Ok) {l:List Eh} (h:l.Sublist x.l):Mx.Ok ⟨x.most,l⟩ :=
 ⟨(h.map _).nodup ok.nd,fun p hp=>ok.rng p (h.subset hp),by have:=h.length_le;have:=ok.len;simp only[];omega,ok.m1,ok.m2⟩
theorem Rel.leave {x:Mx} {L:List Eh} (h:Rel x L) (ok:x.Ok) (k:Lk):(rleave L k).2=(x.leave k).2/\Rel (x.leave k).1 (rleave L k).1/\(x.leave k).1.Ok/\(x.leave k).1.most=x.most:=by
 unfold rleave Mx.leave;simp only[];rw[mdel_flt ok.nd];refine⟨?_,⟨h.perm.filter _,List.Pairwise.sublist List.filter_sublist h.str⟩,Ok.sub ok List.filter_sublist,by first | rfl | trivial⟩
 rw[Bool.eq_iff_iff,decide_eq_true_eq,look_iffL,List.length_filter_lt_length_iff_exists];constructor
 ·rintro ⟨p,hp,he⟩
  simp at he
  exact (h.perm.map _).mem_iff.1 (List.mem_map.2 ⟨p,hp,he⟩)
 ·intro hk
  obtain⟨p,hp,e⟩:=List.mem_map.1 ((h.perm.map (·.1)).mem_iff.2 hk);exact⟨p,hp,by simp[e]⟩
def hasId (id:Int) (l:List Eh):List Eh:=l.filter fun p=>decide (p.2=id)
def Mx.drop (x:Mx) (id:Int):Mx × Nat:=(⟨x.most,x.l.filter fun p=>decide (p.2≠id)⟩,(hasId id x.l).length)
def rdrop (L:List Eh) (id:Int):List Eh × Nat:=(L.filter fun p=>decide (p.2≠id),L.length - (L.filter fun p=>decide (p.2≠id)).length)
theorem Rel.drop {x:Mx} {L:List Eh} (h:Rel x L) (ok:x.Ok) (id:Int):(rdrop L id).2=(x.drop id).2/\Rel (x.drop id).1 (rdrop L id).1/\(x.drop id).1.Ok/\(x.drop id).1.most=x.most:=by
 unfold rdrop Mx.drop;refine⟨?_,⟨h.perm.filter _,List.Pairwise.sublist List.filter_sublist h.str⟩,Ok.sub ok List.filter_sublist,rfl⟩
 simp only[];have e1:=h.perm.length_eq;have e2:=(h.perm.filter fun p=>decide (p.2≠id)).length_eq;have e3:=List.length_eq_countP_add_countP (fun p:Eh=>decide (p.2=id)) (l:=x.l);rw[List.countP_eq_length_filter,List.countP_eq_length_filter] at e3;have e4:(x.l.filter fun p=>decide ¬(decide (p.2=id)=true))=x.l.filter fun p=>decide (p.2≠id):=List.filter_congr fun p _=>by simp
 rw[e4] at e3;unfold hasId;omega
def Mx.links (x:Mx) (id:Int) (ks:List Lk):Prop:=ks.Pairwise aheadL/\∀ k,k ∈ ks↔(k,id) ∈ x.l
def rlinks (L:List Eh) (id:Int):List Eh:=hasId id L
theorem Rel.links {x:Mx} {L:List Eh} (h:Rel x L) (id:Int) {ks:List Lk} (hk:x.links id ks):ks=(rlinks L id).map (·.1):=by
 refine strict_ext aheadL_irr aheadL_asy hk.1 ?_ fun k=>?_
 ·exact List.pairwise_map.2 (List.Pairwise.sublist List.filter_sublist h.str)
 ·rw[hk.2]
  unfold rlinks hasId;constructor
  ·intro hm
   exact List.mem_map.2 ⟨(k,id),List.mem_filter.2 ⟨h.perm.mem_iff.2 hm,by simp⟩,rfl⟩
  ·intro hm
   obtain⟨⟨k',i'⟩,hp,rfl⟩:=List.mem_map.1 hm;have:=List.mem_filter.1 hp
   have e:i'=id:=by simpa using this.2
   subst e;exact h.perm.mem_iff.1 this.1
def Mx.route (x:Mx) (k:Lk):List Int:=if k.2≠127 then (match mlook x.l k with | some id=>[id] | none=>[]) else setI ((x.l.filter fun p=>decide (p.1.1=k.1)).map (·.2))
def fitsR (k:Lk) (p:Eh):Bool:=decide (p.1.1=k.1) && (decide (k.2=127) || decide (p.1.2=k.2))
def rroute (L:List Eh) (k:Lk):List Int:=setI ((L.filter (fitsR k)).map (·.2))
theorem setI_ext {l m:List Int} (h:∀ a,a ∈ l↔a ∈ m):setI l=setI m :=
 strict_ext (fun a=>by omega) (fun a b h=>by omega) (setI_strict l) (setI_strict m) fun a=>by rw[setI_mem,setI_mem,h]
theorem Rel.route {x:Mx} {L:List Eh} (h:Rel x L) (k:Lk):rroute L k=x.route k:=by
 unfold rroute Mx.route;obtain⟨s,t⟩:=k;simp only[];by_cases ht:t=127
 ·rw[if_neg (by simpa using ht)]
  refine setI_ext fun a=>?_
  have e:fitsR (s,t)=fun p=>decide (p.1.1=s):=by funext p;simp[fitsR,ht]
  rw[e];exact ((h.perm.filter _).map _).mem_iff
 ·rw[if_pos ht]
  have hm:∀ a,a ∈ (L.filter (fitsR (s,t))).map (·.2)↔mlook x.l (s,t)=some a:=fun a=>by
   constructor
   ·intro ha
    obtain⟨⟨⟨s',t'⟩,i⟩,hp,rfl⟩:=List.mem_map.1 ha;have:=List.mem_filter.1 hp
    have h2:=this.2;simp[fitsR,ht] at h2
    obtain⟨rfl,rfl⟩:=h2;exact mem_look h.ndx (h.perm.mem_iff.1 this.1)
   ·intro ha
    exact List.mem_map.2 ⟨((s,t),a),List.mem_filter.2 ⟨h.perm.mem_iff.2 (look_mem ha),by simp[fitsR]⟩,rfl⟩
  cases hl:mlook x.l (s,t) with
  | none =>
    refine strict_ext (r:=(·<·)) (fun a=>by omega) (fun a b h=>by omega) (setI_strict _) (by simp) fun a=>?_
    rw[setI_mem,hm,hl];simp
  | some id =>
    refine strict_ext (r:=(·<·)) (fun a=>by omega) (fun a b h=>by omega) (setI_strict _) (by simp) fun a=>?_
    rw[setI_mem,hm,hl];simp
    exact eq_comm
end Go.Proofs.YtjcldoejpldcmaaGreatDoor
