/- Parts of a proof (LayBS, BldC, BitsC, OctP, LayTrim, OctC). No condition. -/
import Derived.Shelf.Strings.Builder1
import Derived.Ground.Names2Prog
import Derived.Test.YtjcldoejpldcmaaGreatDoorProg
import Derived.Test.YtjcldoejpldcmaaGreatDoorC1
import Derived.Test.YtjcldoejpldcmaaGreatDoorC2
import Derived.Laws.IdiomStrings
import Derived.Shelf.Strings.SlTrimAscii
import Derived.Laws.MakeOwn
namespace Go.Proofs.YtjcldoejpldcmaaGreatDoor
set_option maxRecDepth 100000
set_option maxHeartbeats 6400000
open Go.Shelf
def layBS_ren:Go.Shelf.Ren:=⟨fun | 169=>141 | n=>n,fun | 70=>281 | 9=>9 | 0=>0 | 72=>283 | 37=>126 | 127=>355 | 3=>3 | 5=>5 | n=>n,fun | n=>n⟩
theorem layBS:Go.Proofs.Lays.n169 Tryz.prog layBS_ren:={
 mixed:=by kernel_rfl
 f169:=Tryz.func141.trans (congrArg some (by kernel_rfl))
 t0:=Tryz.underlying0
 a0:=Tryz.isAgg0
 z0:=Tryz.sizeOf0
 v0:=Tryz.zeroValue0
 t3:=Tryz.underlying3
 a3:=Tryz.isAgg3
 z3:=Tryz.sizeOf3
 v3:=Tryz.zeroValue3
 t9:=Tryz.underlying9
 a9:=Tryz.isAgg9
 z9:=Tryz.sizeOf9
 v9:=Tryz.zeroValue9
 t37:=Tryz.underlying126
 a37:=Tryz.isAgg126
 z37:=Tryz.sizeOf126
 v37:=Tryz.zeroValue126
 t70:=Tryz.underlying281
 a70:=Tryz.isAgg281
 z70:=Tryz.sizeOf281
 v70:=Tryz.zeroValue281
 t72:=Tryz.underlying283
 a72:=Tryz.isAgg283
 z72:=Tryz.sizeOf283
 v72:=Tryz.zeroValue283
 t127:=Tryz.underlying355
 a127:=Tryz.isAgg355
 z127:=Tryz.sizeOf355
 v127:=Tryz.zeroValue355 }
open Go.RowKit Go.Shelf
theorem St.below {w0 w w':World} {A:HP} (h:St w0 w A) {n:Nat} (hb:Below n w w') (hn:w.heap.size<=n):St w0 w' A:=by
 obtain⟨h1,h2,h3,f,h4,h5⟩:=h;refine⟨hb.os.trans h1,hb.tape.trans h2,hb.output.trans h3,f,fun k o ho=>?_,h5⟩
 have hk:=h4 k o ho;have hlt:k<w.heap.size:=by
  rcases Nat.lt_or_ge k w.heap.size with h' | h'
  ·exact h'
  ·simp[Array.getElem?_eq_none h'] at hk
 rw[hb.block k (by omega)];exact hk
abbrev TB:TypeId:=283
theorem bExtra:Builder.Extra Tryz.prog layBS_ren where
 sizeBuilder:=by kernel_rfl
 liesBuilder:=by kernel_rfl
 t5:=Tryz.underlying5
 a5:=Tryz.isAgg5
 z5:=Tryz.sizeOf5
 v5:=Tryz.zeroValue5
 infoByte:=by kernel_rfl
 cellsByte:=by kernel_rfl
 sizeByte:=by kernel_rfl
 neB5:=by decide
theorem b_check (B b:Nat) (bs:List Value) (w:World) (h:Lib.IsBuilder TB 5 B b bs w) :
  Calls Tryz.prog 216 #[.pointer (some ⟨b,0,none⟩)] w fun e w'=>e=.returned (.tuple #[])/\(Lib.BuilderAt TB 5 B b (.pointer (some ⟨b,0,none⟩)) bs w'/\Below B w w'):=by
 obtain⟨j,hj,hjs⟩:=Option.map_eq_some_iff.1 bExtra.sizeBuilder;rcases h with h | h
 ·have c0:=h.cell0
  have hsh:=h.shape;have hfz:=h.frozen0;go_enter Tryz.func216,Tryz.ntmps216
  go_wp2;rw[Lib.run_to_unsafe w ⟨b,0,none⟩ Tryz.underlying281 Tryz.underlying403 hj (by rw[hjs];decide) hsh (Nat.zero_lt_succ 1)];simp only[Result.andThen];rw[Oper.upon_value];go_wp2;rw[run_callFunc_extern Tryz.func283 (by kernel_rfl) (by kernel_rfl) (by kernel_rfl) (e:=Extern.AbiNoEscape.same) (by kernel_rfl)];rw[Lib.run_noEscape];simp only[Result.andThen];rw[Oper.upon_value];go_wp2;rw[Lib.run_from_unsafe w ⟨b,0,none⟩ Tryz.underlying403 Tryz.underlying281 hj hsh bExtra.liesBuilder];simp only[Result.andThen];rw[Oper.upon_value];go_wp2;go_end0
  exact⟨rfl,h.used _,(Below.refl B w).setCell (p:=⟨b,0,none⟩) h.1 _⟩
 ·have h0:=h.cell0
  go_enter Tryz.func216,Tryz.ntmps216
  go_wp2;rw[Lib.run_neq_ptr_same w _ Tryz.underlying281 hj];go_wp2;go_end0
  exact⟨rfl,h,Below.refl B _⟩
theorem b_write (B b:Nat) (bs:List Value) (c:Int) (w:World) (h:Lib.IsBuilder TB 5 B b bs w) (hlen:bs.length+1<=140737488355328) (hBw:B<=w.heap.size) :
  Calls Tryz.prog 140 #[.pointer (some ⟨b,0,none⟩),.int .u8 c] w fun e w'=>e=.returned .nilIface/\(Lib.IsBuilder TB 5 B b (bs++[.int .u8 c]) w'/\Below B w w'):=by
 obtain⟨i0,hi,hz0,hz1,hz2⟩:=info_parts bExtra.infoByte;have hck:=b_check B b bs w h;go_enter Tryz.func140,Tryz.ntmps140
 go_wp2_with fail
 refine hck.mono ?_
 rintro e w1 ⟨rfl,h1,hb1⟩;clear hck;obtain⟨hB,v,hbk,hown,hne⟩:=h1;have c0:w1.cell? ⟨b,0,none⟩=some (.pointer (some ⟨b,0,none⟩)):=by rw[Lib.cell_of_heap hbk];rfl
 have c1:w1.cell? ⟨b,1,none⟩=some v:=by rw[Lib.cell_of_heap hbk];rfl
 go_wp2_with (at_builtin;refine wpList_append_own _ rfl _ _ 126 rfl B 5 i0 (.int .u8 0) 1 1 Tryz.underlying126 hi hz0 hz1 hz2 rfl (by decide) _ _ _ rfl (hown.alloc _) ⟨w1.heap.size,0,none⟩ 1 1 [.int .u8 c] rfl rfl ?c1 ?c2 ?c3 ?c4 ?c5 ?_)
 case c1 =>
  intro j u hj;match j,hj with
  | 0,hj=>simp at hj;subst hj;simp[Addr.add]
 case c2=>intro u hu;simp at hu;subst hu;rfl
 case c3=>unfold maxLen;omega
 case c4=>omega
 case c5=>have:=hb1.size;simp;omega
 intro v' w2 hown' hgrow _;have hlt:b<w1.heap.size:=by
  rcases Nat.lt_or_ge b w1.heap.size with h' | h'
  ·exact h'
  ·simp[Array.getElem?_eq_none h'] at hbk
 have hb2:w2.heap[b]?=some (.cells #[.pointer (some ⟨b,0,none⟩),v] TB (0,0)):=by
  rw[hgrow.block b (by simp;omega) (fun e=>hne e.symm),Lib.alloc_old w1 _ b hlt];exact hbk
 have d0:w2.cell? ⟨b,0,none⟩=some (.pointer (some ⟨b,0,none⟩)):=by rw[Lib.cell_of_heap hb2];rfl
 have d1:w2.cell? ⟨b,1,none⟩=some v:=by rw[Lib.cell_of_heap hb2];rfl
 have f1:w2.frozen? ⟨b,1,none⟩=false:=Lib.frozen_of_heap hb2 1;obtain⟨g,cap,rfl⟩:∃ g cap,v'=.slice (some ⟨g,0,none⟩) (bs.length+1) cap:=by
  rcases hown'.2 with ⟨_,h0⟩ | ⟨g,cap,cur,hv,_⟩
  ·omega
  ·exact⟨g,cap,hv⟩
 go_wp2;go_ret
 refine⟨rfl,Or.inr ?_,?_⟩
 ·exact Lib.BuilderAt.put (T:=TB) (e:=5) hB hb2 (bs':=bs++[.int .u8 c]) (by simpa using hown') bExtra.neB5
 ·exact ((hb1.alloc (by have:=hb1.size;omega) _).grown hgrow (by have:=hb1.size;simp;omega) (fun k hk=>(hown.lt k hk).1)).setCell (p:=⟨b,1,none⟩) hB _
theorem b_string (B b:Nat) (l:List UInt8) (w:World) (h:Lib.IsBuilder TB 5 B b (Lib.byteCells l) w) (hBw:B<=w.heap.size) :
  Calls Tryz.prog 141 #[.pointer (some ⟨b,0,none⟩)] w fun e w'=>e=.returned (.string ⟨l.toArray⟩)/\Below B w w':=Any.Builder_String_any layBS bExtra B b l w h hBw
theorem b_new (B:Nat) (w:World) (hB:B<=w.heap.size):Lib.IsBuilder TB 5 B w.heap.size [] (w.alloc (.cells #[.pointer none,.slice none 0 0] TB)):=by
 exact Or.inl ⟨hB,.slice none 0 0,((St.start w).alloc (.cells #[.pointer none,.slice none 0 0] TB)).heap,⟨rfl,Or.inl ⟨rfl,rfl⟩⟩,by simp[Value.ownBlock]⟩
open Go.RowKit
def bch (b:Bool):UInt8:=if b=true then 49 else 48
def bstr (l:List Bool):ByteArray:=⟨(l.map bch).toArray⟩
theorem cells_one (l:List UInt8) (c:UInt8):Lib.byteCells l++[.int .u8 c.toNat]=Lib.byteCells (l++[c]):=by
 unfold Lib.byteCells;rw[List.map_append];rfl
theorem bit_ch:∀ (o:Fin 256) (j:Fin 8),(48+bits .and .u8 (((o:Nat):Int) / 2 ^ (j:Nat)) 1) % 256=((bch ((o:Nat).testBit j)).toNat:Int):=by decide +kernel
theorem bit_chU (o:UInt8) (j:Nat) (hj:j<8):(48+bits .and .u8 ((o.toNat:Int) / 2 ^ j) 1) % 256=((bch (o.toNat.testBit j)).toNat:Int):=bit_ch ⟨o.toNat,o.toNat_lt⟩ ⟨j,hj⟩
theorem bt_of (s:ByteArray) (w0 w:World) (R:HP) (h:St w0 w R) (hs:s.size<=100000000) :
  Calls Tryz.prog 78 #[.string s] w fun e w'=>e=.returned (.string (bstr (ofBits s.data.toList)))/\St w0 w' R:=by
 obtain⟨n,hn⟩:∃ n,s.size=n:=⟨_,rfl⟩;have hb0:=b_new w.heap.size w (Nat.le_refl _);have hbl:=(Below.refl w.heap.size w).alloc (Nat.le_refl _) (.cells #[.pointer none,.slice none 0 0] TB);have HN:=Lib.hid hn;rw[hn] at hs;go_enter Tryz.func78,Tryz.ntmps78
 go_upto_region 2 with fail
 generalize w.alloc _=wa at *;obtain⟨B,hB⟩:∃ B,w.heap.size=B:=⟨_,rfl⟩;rw[hB] at hb0 hbl ⊢;go_wp2;go_loopw [8] (fun s8 wr=>∃ k:Nat,k<=n/\s8=.int .i64 k/\Hid (Lib.IsBuilder TB 5 B B (Lib.byteCells ((ofBits (s.data.toList.take k)).map bch)) wr/\Below B w wr)) (fun s8 _=>n - (intOf s8).toNat)
 case atStart=>exact⟨0,by omega,rfl,Lib.hid ⟨hb0,hbl⟩⟩
 case round =>
  clear hb0 hbl;obtain⟨k,hk,rfl,HI⟩:=hrel;by_cases hlt:k<n
  ·have hkn:(k:Int)<(n:Int):=by omega
   have hi:k<s.data.toList.length:=by have h1:s.data.size=n:=HN.out;rw[Array.length_toList,h1];exact hlt
   obtain⟨o,ho⟩:∃ o,s.data.toList[k]=o:=⟨_,rfl⟩;have htk:s.data.toList.take (k+1)=s.data.toList.take k++[o]:=by rw[List.take_add_one,List.getElem?_eq_getElem hi,ho];rfl
   have hx:∀ w,(Instr.index 9 (.string s) (.int .i64 (k:Int))).run Tryz.prog w=.ok (.int .u8 o.toNat) w:=fun w=>by
    have h1:=HN.out;rw[run_index_string (P:=Tryz.prog) w 9 s .i64 k Tryz.underlying9,dif_pos ⟨by omega,by omega⟩];have:s[(k:Int).toNat]'(by omega)=o:=ho
    rw[this]
   have HT:=Lib.hid htk;clear hi ho htk hn;go_wp2;go_loopw [11] (fun s11 wr=>∃ j:Nat,j<=8/\s11=.int .i64 j/\Hid (Lib.IsBuilder TB 5 B B (Lib.byteCells ((ofBits (s.data.toList.take k)++(octBits o).take j).map bch)) wr/\Below B w wr)) (fun s11 _=>8 - (intOf s11).toNat)
   case atStart=>exact⟨0,by omega,rfl,by rw[List.take_zero,List.append_nil];exact HI⟩
   case round =>
    clear HI;obtain⟨j,hj,rfl,HI⟩:=hrel;rcases (show j=0\/j=1\/j=2\/j=3\/j=4\/j=5\/j=6\/j=7\/j=8 by omega) with rfl | rfl | rfl | rfl | rfl | rfl | rfl | rfl | rfl
    ·have hv:=bit_chU o 0 (by decide)
     have hv:(48+bits .and .u8 (o.toNat:Int) 1) % 256=((bch (o.toNat.testBit 0)).toNat:Int):=by
      first | (simpa using hv) | exact hv
     obtain⟨c,hcc⟩:∃ c,bch (o.toNat.testBit 0)=c:=⟨_,rfl⟩;rw[hcc] at hv;have hlen:(ofBits (s.data.toList.take k)++(octBits o).take 0).length<=1000000000:=by
      rw[List.length_append,ofBits_len,List.length_take,List.length_take];omega
     have hw:=b_write B B _ (c.toNat:Int) wr HI.out.1 (by unfold Lib.byteCells;rw[List.length_map,List.length_map];omega) (by have:=HI.out.2.size;omega);have hnew:Lib.byteCells ((ofBits (s.data.toList.take k)++(octBits o).take 0).map bch)++[.int .u8 c.toNat]=Lib.byteCells ((ofBits (s.data.toList.take k)++(octBits o).take 1).map bch):=by
      rw[cells_one];congr 1
      rw[← hcc,show (octBits o).take 1=(octBits o).take 0++[o.toNat.testBit 0] from rfl,← List.append_assoc,List.map_append (l₂:=[o.toNat.testBit 0])];rfl
     rw[hnew] at hw;have HW:=Lib.hid hw;clear hw hnew hcc hlen;go_wp2_with fail
     rw[hv];refine HW.out.mono ?_
     rintro e w5 ⟨rfl,h5,hb5⟩;clear hv HW;go_wp2;go_roundw
     case rel=>exact⟨1,by omega,by go_num,Lib.hid ⟨h5,HI.out.2.trans hb5⟩⟩
     case measure=>simp[intOf]
    ·have hv:=bit_chU o 1 (by decide)
     have hv:(48+bits .and .u8 ((o.toNat:Int) / 2) 1) % 256=((bch (o.toNat.testBit 1)).toNat:Int):=by
      first | (simpa using hv) | exact hv
     obtain⟨c,hcc⟩:∃ c,bch (o.toNat.testBit 1)=c:=⟨_,rfl⟩;rw[hcc] at hv;have hlen:(ofBits (s.data.toList.take k)++(octBits o).take 1).length<=1000000000:=by
      rw[List.length_append,ofBits_len,List.length_take,List.length_take];omega
     have hw:=b_write B B _ (c.toNat:Int) wr HI.out.1 (by unfold Lib.byteCells;rw[List.length_map,List.length_map];omega) (by have:=HI.out.2.size;omega);have hnew:Lib.byteCells ((ofBits (s.data.toList.take k)++(octBits o).take 1).map bch)++[.int .u8 c.toNat]=Lib.byteCells ((ofBits (s.data.toList.take k)++(octBits o).take 2).map bch):=by
      rw[cells_one];congr 1
      rw[← hcc,show (octBits o).take 2=(octBits o).take 1++[o.toNat.testBit 1] from rfl,← List.append_assoc,List.map_append (l₂:=[o.toNat.testBit 1])];rfl
     rw[hnew] at hw;have HW:=Lib.hid hw;clear hw hnew hcc hlen;go_wp2_with fail
     rw[hv];refine HW.out.mono ?_
     rintro e w5 ⟨rfl,h5,hb5⟩;clear hv HW;go_wp2;go_roundw
     case rel=>exact⟨2,by omega,by go_num,Lib.hid ⟨h5,HI.out.2.trans hb5⟩⟩
     case measure=>simp[intOf]
    ·have hv:=bit_chU o 2 (by decide)
     have hv:(48+bits .and .u8 ((o.toNat:Int) / 4) 1) % 256=((bch (o.toNat.testBit 2)).toNat:Int):=by
      first | (simpa using hv) | exact hv
     obtain⟨c,hcc⟩:∃ c,bch (o.toNat.testBit 2)=c:=⟨_,rfl⟩;rw[hcc] at hv;have hlen:(ofBits (s.data.toList.take k)++(octBits o).take 2).length<=1000000000:=by
      rw[List.length_append,ofBits_len,List.length_take,List.length_take];omega
     have hw:=b_write B B _ (c.toNat:Int) wr HI.out.1 (by unfold Lib.byteCells;rw[List.length_map,List.length_map];omega) (by have:=HI.out.2.size;omega);have hnew:Lib.byteCells ((ofBits (s.data.toList.take k)++(octBits o).take 2).map bch)++[.int .u8 c.toNat]=Lib.byteCells ((ofBits (s.data.toList.take k)++(octBits o).take 3).map bch):=by
      rw[cells_one];congr 1
      rw[← hcc,show (octBits o).take 3=(octBits o).take 2++[o.toNat.testBit 2] from rfl,← List.append_assoc,List.map_append (l₂:=[o.toNat.testBit 2])];rfl
     rw[hnew] at hw;have HW:=Lib.hid hw;clear hw hnew hcc hlen;go_wp2_with fail
     rw[hv];refine HW.out.mono ?_
     rintro e w5 ⟨rfl,h5,hb5⟩;clear hv HW;go_wp2;go_roundw
     case rel=>exact⟨3,by omega,by go_num,Lib.hid ⟨h5,HI.out.2.trans hb5⟩⟩
     case measure=>simp[intOf]
    ·have hv:=bit_chU o 3 (by decide)
     have hv:(48+bits .and .u8 ((o.toNat:Int) / 8) 1) % 256=((bch (o.toNat.testBit 3)).toNat:Int):=by
      first | (simpa using hv) | exact hv
     obtain⟨c,hcc⟩:∃ c,bch (o.toNat.testBit 3)=c:=⟨_,rfl⟩;rw[hcc] at hv;have hlen:(ofBits (s.data.toList.take k)++(octBits o).take 3).length<=1000000000:=by
      rw[List.length_append,ofBits_len,List.length_take,List.length_take];omega
     have hw:=b_write B B _ (c.toNat:Int) wr HI.out.1 (by unfold Lib.byteCells;rw[List.length_map,List.length_map];omega) (by have:=HI.out.2.size;omega);have hnew:Lib.byteCells ((ofBits (s.data.toList.take k)++(octBits o).take 3).map bch)++[.int .u8 c.toNat]=Lib.byteCells ((ofBits (s.data.toList.take k)++(octBits o).take 4).map bch):=by
      rw[cells_one];congr 1
      rw[← hcc,show (octBits o).take 4=(octBits o).take 3++[o.toNat.testBit 3] from rfl,← List.append_assoc,List.map_append (l₂:=[o.toNat.testBit 3])];rfl
     rw[hnew] at hw;have HW:=Lib.hid hw;clear hw hnew hcc hlen;go_wp2_with fail
     rw[hv];refine HW.out.mono ?_
     rintro e w5 ⟨rfl,h5,hb5⟩;clear hv HW;go_wp2;go_roundw
     case rel=>exact⟨4,by omega,by go_num,Lib.hid ⟨h5,HI.out.2.trans hb5⟩⟩
     case measure=>simp[intOf]
    ·have hv:=bit_chU o 4 (by decide)
     have hv:(48+bits .and .u8 ((o.toNat:Int) / 16) 1) % 256=((bch (o.toNat.testBit 4)).toNat:Int):=by
      first | (simpa using hv) | exact hv
     obtain⟨c,hcc⟩:∃ c,bch (o.toNat.testBit 4)=c:=⟨_,rfl⟩;rw[hcc] at hv;have hlen:(ofBits (s.data.toList.take k)++(octBits o).take 4).length<=1000000000:=by
      rw[List.length_append,ofBits_len,List.length_take,List.length_take];omega
     have hw:=b_write B B _ (c.toNat:Int) wr HI.out.1 (by unfold Lib.byteCells;rw[List.length_map,List.length_map];omega) (by have:=HI.out.2.size;omega);have hnew:Lib.byteCells ((ofBits (s.data.toList.take k)++(octBits o).take 4).map bch)++[.int .u8 c.toNat]=Lib.byteCells ((ofBits (s.data.toList.take k)++(octBits o).take 5).map bch):=by
      rw[cells_one];congr 1
      rw[← hcc,show (octBits o).take 5=(octBits o).take 4++[o.toNat.testBit 4] from rfl,← List.append_assoc,List.map_append (l₂:=[o.toNat.testBit 4])];rfl
     rw[hnew] at hw;have HW:=Lib.hid hw;clear hw hnew hcc hlen;go_wp2_with fail
     rw[hv];refine HW.out.mono ?_
     rintro e w5 ⟨rfl,h5,hb5⟩;clear hv HW;go_wp2;go_roundw
     case rel=>exact⟨5,by omega,by go_num,Lib.hid ⟨h5,HI.out.2.trans hb5⟩⟩
     case measure=>simp[intOf]
    ·have hv:=bit_chU o 5 (by decide)
     have hv:(48+bits .and .u8 ((o.toNat:Int) / 32) 1) % 256=((bch (o.toNat.testBit 5)).toNat:Int):=by
      first | (simpa using hv) | exact hv
     obtain⟨c,hcc⟩:∃ c,bch (o.toNat.testBit 5)=c:=⟨_,rfl⟩;rw[hcc] at hv;have hlen:(ofBits (s.data.toList.take k)++(octBits o).take 5).length<=1000000000:=by
      rw[List.length_append,ofBits_len,List.length_take,List.length_take];omega
     have hw:=b_write B B _ (c.toNat:Int) wr HI.out.1 (by unfold Lib.byteCells;rw[List.length_map,List.length_map];omega) (by have:=HI.out.2.size;omega);have hnew:Lib.byteCells ((ofBits (s.data.toList.take k)++(octBits o).take 5).map bch)++[.int .u8 c.toNat]=Lib.byteCells ((ofBits (s.data.toList.take k)++(octBits o).take 6).map bch):=by
      rw[cells_one];congr 1
      rw[← hcc,show (octBits o).take 6=(octBits o).take 5++[o.toNat.testBit 5] from rfl,← List.append_assoc,List.map_append (l₂:=[o.toNat.testBit 5])];rfl
     rw[hnew] at hw;have HW:=Lib.hid hw;clear hw hnew hcc hlen;go_wp2_with fail
     rw[hv];refine HW.out.mono ?_
     rintro e w5 ⟨rfl,h5,hb5⟩;clear hv HW;go_wp2;go_roundw
     case rel=>exact⟨6,by omega,by go_num,Lib.hid ⟨h5,HI.out.2.trans hb5⟩⟩
     case measure=>simp[intOf]
    ·have hv:=bit_chU o 6 (by decide)
     have hv:(48+bits .and .u8 ((o.toNat:Int) / 64) 1) % 256=((bch (o.toNat.testBit 6)).toNat:Int):=by
      first | (simpa using hv) | exact hv
     obtain⟨c,hcc⟩:∃ c,bch (o.toNat.testBit 6)=c:=⟨_,rfl⟩;rw[hcc] at hv;have hlen:(ofBits (s.data.toList.take k)++(octBits o).take 6).length<=1000000000:=by
      rw[List.length_append,ofBits_len,List.length_take,List.length_take];omega
     have hw:=b_write B B _ (c.toNat:Int) wr HI.out.1 (by unfold Lib.byteCells;rw[List.length_map,List.length_map];omega) (by have:=HI.out.2.size;omega);have hnew:Lib.byteCells ((ofBits (s.data.toList.take k)++(octBits o).take 6).map bch)++[.int .u8 c.toNat]=Lib.byteCells ((ofBits (s.data.toList.take k)++(octBits o).take 7).map bch):=by
      rw[cells_one];congr 1
      rw[← hcc,show (octBits o).take 7=(octBits o).take 6++[o.toNat.testBit 6] from rfl,← List.append_assoc,List.map_append (l₂:=[o.toNat.testBit 6])];rfl
     rw[hnew] at hw;have HW:=Lib.hid hw;clear hw hnew hcc hlen;go_wp2_with fail
     rw[hv];refine HW.out.mono ?_
     rintro e w5 ⟨rfl,h5,hb5⟩;clear hv HW;go_wp2;go_roundw
     case rel=>exact⟨7,by omega,by go_num,Lib.hid ⟨h5,HI.out.2.trans hb5⟩⟩
     case measure=>simp[intOf]
    ·have hv:=bit_chU o 7 (by decide)
     have hv:(48+bits .and .u8 ((o.toNat:Int) / 128) 1) % 256=((bch (o.toNat.testBit 7)).toNat:Int):=by
      first | (simpa using hv) | exact hv
     obtain⟨c,hcc⟩:∃ c,bch (o.toNat.testBit 7)=c:=⟨_,rfl⟩;rw[hcc] at hv;have hlen:(ofBits (s.data.toList.take k)++(octBits o).take 7).length<=1000000000:=by
      rw[List.length_append,ofBits_len,List.length_take,List.length_take];omega
     have hw:=b_write B B _ (c.toNat:Int) wr HI.out.1 (by unfold Lib.byteCells;rw[List.length_map,List.length_map];omega) (by have:=HI.out.2.size;omega);have hnew:Lib.byteCells ((ofBits (s.data.toList.take k)++(octBits o).take 7).map bch)++[.int .u8 c.toNat]=Lib.byteCells ((ofBits (s.data.toList.take k)++(octBits o).take 8).map bch):=by
      rw[cells_one];congr 1
      rw[← hcc,show (octBits o).take 8=(octBits o).take 7++[o.toNat.testBit 7] from rfl,← List.append_assoc,List.map_append (l₂:=[o.toNat.testBit 7])];rfl
     rw[hnew] at hw;have HW:=Lib.hid hw;clear hw hnew hcc hlen;go_wp2_with fail
     rw[hv];refine HW.out.mono ?_
     rintro e w5 ⟨rfl,h5,hb5⟩;clear hv HW;go_wp2;go_roundw
     case rel=>exact⟨8,by omega,by go_num,Lib.hid ⟨h5,HI.out.2.trans hb5⟩⟩
     case measure=>simp[intOf]
    ·go_wp2
     go_roundw
     case rel =>
      refine⟨k+1,by omega,by go_num,?_⟩
      rw[HT.out];have e:ofBits (s.data.toList.take k++[o])=ofBits (s.data.toList.take k)++(octBits o).take 8:=by
       unfold ofBits;rw[List.flatMap_append];simp[octBits]
      rw[e];exact HI
     case measure=>simp[intOf];omega
  ·obtain rfl:k=n:=by omega
   have hc:=b_string B B ((ofBits s.data.toList).map bch) wr;have htk:s.data.toList.take k=s.data.toList:=List.take_of_length_le (by rw[Array.length_toList];exact Nat.le_of_eq hn);rw[htk] at HI;have hc2:=hc HI.out.1 (by have:=HI.out.2.size;omega);clear hc htk;go_wp2_with fail
   refine hc2.mono ?_
   rintro e w5 ⟨rfl,hb5⟩;have hbb:=HI.out.2.trans hb5;go_wp2;go_ret
   exact⟨rfl,h.below hbb (by omega)⟩
theorem bstr_size (l:List Bool):(bstr l).size=l.length:=by
 show (l.map bch).toArray.size=_
 simp
theorem bstr_list (l:List Bool):(bstr l).data.toList=l.map bch:=by unfold bstr;simp
theorem bstr_at (l:List Bool) (k:Nat) (b:Bool) (hb:l[k]?=some b) (w:World):(Instr.index 9 (.string (bstr l)) (.int .i64 (k:Int))).run Tryz.prog w=.ok (.int .u8 (bch b).toNat) w:=by
 have hk:k<l.length:=(List.getElem?_eq_some_iff.1 hb).1;have hs:=bstr_size l;rw[run_index_string (P:=Tryz.prog) w 9 (bstr l) .i64 k Tryz.underlying9,dif_pos ⟨by omega,by omega⟩];have e:(bstr l)[(k:Int).toNat]'(by omega)=bch b:=by
  show (bstr l).data[(k:Int).toNat]'(by have:(bstr l).data.size=l.length:=hs;omega)=_
  have h1:(bstr l).data.toList[k]?=some (bch b):=by rw[bstr_list,List.getElem?_map,hb];rfl
  have h2:(bstr l).data[k]?=some (bch b):=by rw[← h1];simp
  have:=(Array.getElem?_eq_some_iff.1 h2).2
  simpa using this
 rw[e]
theorem h_stuff (l:List Bool) (w0 w:World) (R:HP) (h:St w0 w R) (hs:l.length<=100000000) :
  Calls Tryz.prog 77 #[.string (bstr l)] w fun e w'=>e=.returned (.string (bstr (stuffK l 0)))/\St w0 w' R:=by
 obtain⟨n,hn⟩:∃ n,l.length=n:=⟨_,rfl⟩;have hz:(bstr l).size=n:=(bstr_size l).trans hn;have hb0:=b_new w.heap.size w (Nat.le_refl _);have hbl:=(Below.refl w.heap.size w).alloc (Nat.le_refl _) (.cells #[.pointer none,.slice none 0 0] TB);have hat:=bstr_at l;obtain⟨S,hS⟩:∃ S,stuffK l 0=S:=⟨_,rfl⟩;have HS:=Lib.hid hS;rw[hS];rw[hn] at hs;generalize bstr l=s at *;have HN:=Lib.hid hn;clear hn hS;go_enter Tryz.func77,Tryz.ntmps77
 go_upto_region 2 with fail
 generalize w.alloc _=wa at *;obtain⟨B,hB⟩:∃ B,w.heap.size=B:=⟨_,rfl⟩;rw[hB] at hb0 hbl ⊢;go_wp2;go_loopw [4,9] (fun s4 s9 wr=>∃ (k m:Nat) (acc:List Bool),k<=n/\m<=4/\acc.length<=2*k/\s9=.int .i64 k/\s4=.int .i64 m/\Hid (S=acc++stuffK (l.drop k) m)/\Hid (Lib.IsBuilder TB 5 B B (Lib.byteCells (acc.map bch)) wr/\Below B w wr)) (fun _ s9 _=>n - (intOf s9).toNat)
 case atStart=>exact⟨0,0,[],by omega,by omega,by simp,rfl,rfl,Lib.hid (by rw[List.drop_zero,HS.out];rfl),Lib.hid ⟨hb0,hbl⟩⟩
 case round =>
  clear hb0 hbl HS;obtain⟨k,m,acc,hk,hm,hacc,rfl,rfl,HS,HI⟩:=hrel;obtain⟨HB,hbl⟩:=HI.out;by_cases hlt:k<n
  ·have hkn:(k:Int)<(n:Int):=by omega
   have hi:k<l.length:=by rw[HN.out];exact hlt
   obtain⟨b,hb⟩:∃ b,l[k]?=some b:=⟨l[k],List.getElem?_eq_getElem hi⟩;have hd:l.drop k=b :: l.drop (k+1):=by
    rw[List.drop_eq_getElem_cons hi];rw[List.getElem?_eq_getElem hi] at hb;rw[Option.some.inj hb]
   have hx:=hat k b hb;have hS:=HS.out;rw[hd] at hS;clear hat hd hi hb HS HI;cases b with
   | true =>
     have hbt:((bch true).toNat:Int)=49:=rfl;rw[hbt] at hx;have hw:=b_write B B _ ((bch true).toNat:Int) wr HB (by unfold Lib.byteCells;rw[List.length_map,List.length_map];omega) (by have:=hbl.size;omega);rw[cells_one] at hw;rw[hbt] at hw;by_cases m4:m=4
     ·subst m4
      have hS2:S=(acc++[true,false])++stuffK (l.drop (k+1)) 0:=by rw[hS,List.append_assoc];rfl
      have HS:=Lib.hid hS2;clear hS hS2;go_wp2_with fail
      refine hw.mono ?_
      rintro e w1 ⟨rfl,h1,hb1⟩;have hw2:=b_write B B _ 48 w1 h1 (by unfold Lib.byteCells;rw[List.length_map,List.length_append,List.length_map];simp;omega) (by have:=hbl.size;have:=hb1.size;omega);rw[show (Value.int .u8 48)=.int .u8 (bch false).toNat from rfl,cells_one] at hw2;clear hw HB;go_wp2_with fail
      refine hw2.mono ?_
      rintro e w2 ⟨rfl,h2,hb2⟩;clear hw2 h1;go_wp2;go_roundw
      case rel =>
       refine⟨k+1,0,acc++[true,false],by omega,by omega,by simp;omega,by go_num,by go_num,HS,Lib.hid ⟨?_,(hbl.trans hb1).trans hb2⟩⟩
       rw[show (acc++[true,false]).map bch=acc.map bch++[bch true]++[bch false] from by simp];exact h2
      case measure=>simp[intOf];omega
     ·have hS2:S=(acc++[true])++stuffK (l.drop (k+1)) (m+1):=by rw[hS,List.append_assoc,stuffK,if_neg m4];rfl
      have HS:=Lib.hid hS2;have b5:(((m:Int)+1) == 5)=false:=by simp;omega
      clear hS hS2;go_wp2_with fail
      refine hw.mono ?_
      rintro e w1 ⟨rfl,h1,hb1⟩;clear hw HB;go_wp2;go_roundw
      case rel =>
       refine⟨k+1,m+1,acc++[true],by omega,by omega,by simp;omega,by go_num,by go_num,HS,Lib.hid ⟨?_,hbl.trans hb1⟩⟩
       rw[show (acc++[true]).map bch=acc.map bch++[bch true] from by simp];exact h1
      case measure=>simp[intOf];omega
   | false =>
     have hbt:((bch false).toNat:Int)=48:=rfl;rw[hbt] at hx;have hw:=b_write B B _ ((bch false).toNat:Int) wr HB (by unfold Lib.byteCells;rw[List.length_map,List.length_map];omega) (by have:=hbl.size;omega);rw[cells_one] at hw;rw[hbt] at hw;have hS2:S=(acc++[false])++stuffK (l.drop (k+1)) 0:=by rw[hS,List.append_assoc];rfl
     have HS:=Lib.hid hS2;clear hS hS2;go_wp2_with fail
     refine hw.mono ?_
     rintro e w1 ⟨rfl,h1,hb1⟩;clear hw HB;go_wp2;go_roundw
     case rel =>
      refine⟨k+1,0,acc++[false],by omega,by omega,by simp;omega,by go_num,by go_num,HS,Lib.hid ⟨?_,hbl.trans hb1⟩⟩
      rw[show (acc++[false]).map bch=acc.map bch++[bch false] from by simp];exact h1
     case measure=>simp[intOf];omega
  ·obtain rfl:k=n:=by omega
   have hS:=HS.out;rw[List.drop_of_length_le (by rw[HN.out];exact Nat.le_refl _),stuffK,List.append_nil] at hS;have hc:=b_string B B (acc.map bch) wr HB (by have:=hbl.size;omega);rw[← hS] at hc;clear hS hat;go_wp2_with fail
   refine hc.mono ?_
   rintro e w5 ⟨rfl,hb5⟩;have hbb:=hbl.trans hb5;go_wp2;go_ret
   exact⟨rfl,h.below hbb (by omega)⟩
theorem stuffK_len:∀ (l:List Bool) (n:Nat),(stuffK l n).length<=2*l.length
 | [],_=>Nat.le_refl _
 | true :: l,n=>by
   unfold stuffK;have h0:=stuffK_len l 0;have h1:=stuffK_len l (n+1);split <;> simp <;> omega
 | false :: l,_=>by
   unfold stuffK;have h0:=stuffK_len l 0;simp
   omega
theorem bstr_app (a b:List Bool):bstr (a++b)=bstr a++bstr b:=by
 unfold bstr;rw[List.map_append];apply ByteArray.ext
 rw[ByteArray.data_append];simp
theorem h_encode (s:ByteArray) (w0 w:World) (R:HP) (h:St w0 w R) (hs:s.size<=10000000) :
  Calls Tryz.prog 36 #[.string s] w fun e w'=>e=.returned (.string (bstr (encB s.data.toList)))/\St w0 w' R:=by
 have hof:=bt_of s w0 w R h (by omega);have hl:(ofBits s.data.toList).length<=100000000:=by
  rw[ofBits_len];have:s.data.toList.length=s.size:=Array.length_toList
  omega
 have hst:=fun v h=>h_stuff (ofBits s.data.toList) w0 v R h hl
 have hfl:bstr flagB=(⟨#[48,49,49,49,49,49,49,48]⟩:ByteArray):=rfl;have hen:bstr (encB s.data.toList)=(⟨#[48,49,49,49,49,49,49,48]⟩:ByteArray)++bstr (stuffK (ofBits s.data.toList) 0)++⟨#[48,49,49,49,49,49,49,48]⟩:=by
  unfold encB;rw[bstr_app,bstr_app,hfl]
 rw[hen];have hz:(bstr (stuffK (ofBits s.data.toList) 0)).size<=400000000:=by
  rw[bstr_size];have:=stuffK_len (ofBits s.data.toList) 0
  omega
 generalize bstr (ofBits s.data.toList)=x at *;generalize bstr (stuffK (ofBits s.data.toList) 0)=y at *;have z1:¬ 9223372036854775807<(⟨#[48,49,49,49,49,49,49,48]⟩:ByteArray).size+y.size:=by show ¬ 9223372036854775807<8+y.size;omega
 have z2:¬ 9223372036854775807<((⟨#[48,49,49,49,49,49,49,48]⟩:ByteArray)++y).size+(⟨#[48,49,49,49,49,49,49,48]⟩:ByteArray).size:=by rw[ByteArray.size_append];show ¬ 9223372036854775807<8+y.size+8;omega
 clear hz hl hfl hen;go_enter Tryz.func36,Tryz.ntmps36
 go_wp2_with fail
 refine hof.mono ?_
 rintro e w1 ⟨rfl,h1⟩;have hc:=hst w1 h1;clear hof hst;go_wp2_with fail
 refine hc.mono ?_
 rintro e w2 ⟨rfl,h2⟩;go_wp2;go_ret
 exact⟨rfl,h2⟩
def pb (l:List Bool) (i n:Nat):Nat:=if n<i then bitN (l.getD n false) else 0
def pv (l:List Bool) (t i:Nat):Nat:=pb l i (8*t)+2*pb l i (8*t+1)+4*pb l i (8*t+2)+8*pb l i (8*t+3)+16*pb l i (8*t+4)+32*pb l i (8*t+5)+64*pb l i (8*t+6)+128*pb l i (8*t+7)
theorem pb_le (l:List Bool) (i n:Nat):pb l i n<=1:=by
 unfold pb bitN;split
 ·split <;> omega
 ·omega
theorem pb_off {l:List Bool} {i n:Nat} (h:i<=n):pb l i n=0:=by unfold pb;rw[if_neg (by omega)]
theorem pb_next {l:List Bool} {i n:Nat} (h:n≠i):pb l (i+1) n=pb l i n:=by
 unfold pb;by_cases h1:n<i
 ·rw[if_pos h1,if_pos (by omega)]
 ·rw[if_neg h1,if_neg (by omega)]
theorem pb_now {l:List Bool} {i:Nat}:pb l (i+1) i=bitN (l.getD i false):=by unfold pb;rw[if_pos (by omega)]
theorem pv_lt (l:List Bool) (t i:Nat):pv l t i<256:=by
 unfold pv;have:=fun n=>pb_le l i n
 have h0:=this (8*t);have h1:=this (8*t+1);have h2:=this (8*t+2);have h3:=this (8*t+3);have h4:=this (8*t+4);have h5:=this (8*t+5);have h6:=this (8*t+6);have h7:=this (8*t+7);omega
theorem pv_zero (l:List Bool) (t:Nat):pv l t 0=0:=by
 unfold pv;rw[pb_off (by omega),pb_off (by omega),pb_off (by omega),pb_off (by omega),pb_off (by omega),pb_off (by omega),pb_off (by omega),pb_off (by omega)]
theorem pv_other {l:List Bool} {t i:Nat} (h:t≠i / 8):pv l t (i+1)=pv l t i:=by
 unfold pv;rw[pb_next (by omega),pb_next (by omega),pb_next (by omega),pb_next (by omega),pb_next (by omega),pb_next (by omega),pb_next (by omega),pb_next (by omega)]
theorem pv_step (l:List Bool) (i:Nat):pv l (i / 8) i<2 ^ (i % 8)/\pv l (i / 8) (i+1)=pv l (i / 8) i+bitN (l.getD i false)*2 ^ (i % 8):=by
 have hk:=pb_now (l:=l) (i:=i);obtain⟨j,hj⟩:∃ j,i / 8=j:=⟨_,rfl⟩;rw[hj];have le:=fun n=>pb_le l i n
 have h0:=le (8*j);have h1:=le (8*j+1);have h2:=le (8*j+2);have h3:=le (8*j+3);have h4:=le (8*j+4);have h5:=le (8*j+5);have h6:=le (8*j+6);have nx:∀ n,n≠i->pb l (i+1) n=pb l i n:=fun n h=>pb_next h
 have of:∀ n,i<=n->pb l i n=0:=fun n h=>pb_off h
 unfold pv;rcases (show i % 8=0\/i % 8=1\/i % 8=2\/i % 8=3\/i % 8=4\/i % 8=5\/i % 8=6\/i % 8=7 by omega) with e | e | e | e | e | e | e | e
 ·obtain rfl:i=8*j:=by omega
  rw[e,hk,nx _ (by omega),nx _ (by omega),nx _ (by omega),nx _ (by omega),nx _ (by omega),nx _ (by omega),nx _ (by omega),of (8*j) (by omega),of (8*j+1) (by omega),of (8*j+2) (by omega),of (8*j+3) (by omega),of (8*j+4) (by omega),of (8*j+5) (by omega),of (8*j+6) (by omega),of (8*j+7) (by omega)];omega
 ·obtain rfl:i=8*j+1:=by omega
  rw[e,hk,nx (8*j) (by omega),nx (8*j+2) (by omega),nx (8*j+3) (by omega),nx (8*j+4) (by omega),nx (8*j+5) (by omega),nx (8*j+6) (by omega),nx (8*j+7) (by omega),of (8*j+1) (by omega),of (8*j+2) (by omega),of (8*j+3) (by omega),of (8*j+4) (by omega),of (8*j+5) (by omega),of (8*j+6) (by omega),of (8*j+7) (by omega)];omega
 ·obtain rfl:i=8*j+2:=by omega
  rw[e,hk,nx (8*j) (by omega),nx (8*j+1) (by omega),nx (8*j+3) (by omega),nx (8*j+4) (by omega),nx (8*j+5) (by omega),nx (8*j+6) (by omega),nx (8*j+7) (by omega),of (8*j+2) (by omega),of (8*j+3) (by omega),of (8*j+4) (by omega),of (8*j+5) (by omega),of (8*j+6) (by omega),of (8*j+7) (by omega)];omega
 ·obtain rfl:i=8*j+3:=by omega
  rw[e,hk,nx (8*j) (by omega),nx (8*j+1) (by omega),nx (8*j+2) (by omega),nx (8*j+4) (by omega),nx (8*j+5) (by omega),nx (8*j+6) (by omega),nx (8*j+7) (by omega),of (8*j+3) (by omega),of (8*j+4) (by omega),of (8*j+5) (by omega),of (8*j+6) (by omega),of (8*j+7) (by omega)];omega
 ·obtain rfl:i=8*j+4:=by omega
  rw[e,hk,nx (8*j) (by omega),nx (8*j+1) (by omega),nx (8*j+2) (by omega),nx (8*j+3) (by omega),nx (8*j+5) (by omega),nx (8*j+6) (by omega),nx (8*j+7) (by omega),of (8*j+4) (by omega),of (8*j+5) (by omega),of (8*j+6) (by omega),of (8*j+7) (by omega)];omega
 ·obtain rfl:i=8*j+5:=by omega
  rw[e,hk,nx (8*j) (by omega),nx (8*j+1) (by omega),nx (8*j+2) (by omega),nx (8*j+3) (by omega),nx (8*j+4) (by omega),nx (8*j+6) (by omega),nx (8*j+7) (by omega),of (8*j+5) (by omega),of (8*j+6) (by omega),of (8*j+7) (by omega)];omega
 ·obtain rfl:i=8*j+6:=by omega
  rw[e,hk,nx (8*j) (by omega),nx (8*j+1) (by omega),nx (8*j+2) (by omega),nx (8*j+3) (by omega),nx (8*j+4) (by omega),nx (8*j+5) (by omega),nx (8*j+7) (by omega),of (8*j+6) (by omega),of (8*j+7) (by omega)];omega
 ·obtain rfl:i=8*j+7:=by omega
  rw[e,hk,nx (8*j) (by omega),nx (8*j+1) (by omega),nx (8*j+2) (by omega),nx (8*j+3) (by omega),nx (8*j+4) (by omega),nx (8*j+5) (by omega),nx (8*j+6) (by omega),of (8*j+7) (by omega)];omega
theorem pb_all {l:List Bool} {i n:Nat} (h:n<i):pb l i n=bitN (l.getD n false):=by unfold pb;rw[if_pos h]
theorem octs_len:∀ (m:Nat) (l:List Bool),l.length=8*m->(octs l).length=m/\∀ t,t<m->(octs l)[t]?=some (UInt8.ofNat (pv l t (8*m)))
 | 0,l,h=>by
   obtain rfl:l=[]:=List.length_eq_zero_iff.1 (by omega);exact⟨rfl,fun t ht=>by omega⟩
 | m+1,l,hl=>by
   match l,hl with
   | a :: b :: c :: d :: e :: f :: g :: h :: l,hl =>
     have h':l.length=8*m:=by simp at hl;omega
     obtain⟨i1,i2⟩:=octs_len m l h';refine⟨by simp[octs,i1],fun t ht=>?_⟩
     match t with
     | 0 =>
       show some _=some _
       unfold pv;rw[pb_all (by omega),pb_all (by omega),pb_all (by omega),pb_all (by omega),pb_all (by omega),pb_all (by omega),pb_all (by omega),pb_all (by omega)];rfl
     | t+1 =>
       have e1:=i2 t (by omega);show (octs l)[t]?=_
       rw[e1];congr 2
       unfold pv;have sh:∀ q,q<8->pb (a :: b :: c :: d :: e :: f :: g :: h :: l) (8*(m+1)) (8*(t+1)+q)=pb l (8*m) (8*t+q):=fun q hq=>by
        rw[pb_all (by omega),pb_all (by omega),show 8*(t+1)+q=(8*t+q)+8 by omega];rfl
       have s0:=sh 0 (by omega);simp only[Nat.add_zero] at s0;rw[s0,sh 1 (by omega),sh 2 (by omega),sh 3 (by omega),sh 4 (by omega),sh 5 (by omega),sh 6 (by omega),sh 7 (by omega)]
open Go.Shelf
def layTrim_ren:Go.Shelf.Ren:=⟨fun | 160=>303 | 232=>327 | 231=>326 | 227=>328 | 234=>330 | 233=>329 | 236=>332 | 235=>331 | 228=>348 | 271=>351 | 151=>350 | 197=>349 | 120=>357 | 152=>356 | 260=>355 | 137=>359 | 119=>360 | 224=>361 | 225=>362 | 217=>363 | 266=>364 | n=>n,fun | 9=>9 | 4=>4 | 3=>3 | 5=>5 | 117=>436 | 116=>435 | 0=>0 | 124=>439 | 21=>21 | 105=>448 | 46=>270 | 119=>455 | 139=>458 | 138=>457 | n=>n,fun | 3=>3 | 4=>4 | n=>n⟩
theorem layTrim:Go.Proofs.Lays.n160 Tryz.prog layTrim_ren:={
 mixed:=by kernel_rfl
 f119:=Tryz.func360.trans (congrArg some (by kernel_rfl))
 f120:=Tryz.func357.trans (congrArg some (by kernel_rfl))
 f137:=Tryz.func359.trans (congrArg some (by kernel_rfl))
 f151:=Tryz.func350.trans (congrArg some (by kernel_rfl))
 f152:=Tryz.func356.trans (congrArg some (by kernel_rfl))
 f160:=Tryz.func303.trans (congrArg some (by kernel_rfl))
 f197:=Tryz.func349.trans (congrArg some (by kernel_rfl))
 f217:=Tryz.func363.trans (congrArg some (by kernel_rfl))
 f224:=Tryz.func361.trans (congrArg some (by kernel_rfl))
 f225:=Tryz.func362.trans (congrArg some (by kernel_rfl))
 f227:=Tryz.func328.trans (congrArg some (by kernel_rfl))
 f228:=Tryz.func348.trans (congrArg some (by kernel_rfl))
 f231:=Tryz.func326.trans (congrArg some (by kernel_rfl))
 f232:=Tryz.func327.trans (congrArg some (by kernel_rfl))
 f233:=Tryz.func329.trans (congrArg some (by kernel_rfl))
 f234:=Tryz.func330.trans (congrArg some (by kernel_rfl))
 f235:=Tryz.func331.trans (congrArg some (by kernel_rfl))
 f236:=Tryz.func332.trans (congrArg some (by kernel_rfl))
 f260:=Tryz.func355.trans (congrArg some (by kernel_rfl))
 f266:=Tryz.func364.trans (congrArg some (by kernel_rfl))
 f271:=Tryz.func351.trans (congrArg some (by kernel_rfl))
 t0:=Tryz.underlying0
 a0:=Tryz.isAgg0
 z0:=Tryz.sizeOf0
 v0:=Tryz.zeroValue0
 t3:=Tryz.underlying3
 a3:=Tryz.isAgg3
 z3:=Tryz.sizeOf3
 v3:=Tryz.zeroValue3
 t4:=Tryz.underlying4
 a4:=Tryz.isAgg4
 z4:=Tryz.sizeOf4
 v4:=Tryz.zeroValue4
 t5:=Tryz.underlying5
 a5:=Tryz.isAgg5
 z5:=Tryz.sizeOf5
 v5:=Tryz.zeroValue5
 t9:=Tryz.underlying9
 a9:=Tryz.isAgg9
 z9:=Tryz.sizeOf9
 v9:=Tryz.zeroValue9
 t21:=Tryz.underlying21
 a21:=Tryz.isAgg21
 z21:=Tryz.sizeOf21
 v21:=Tryz.zeroValue21
 t46:=Tryz.underlying270
 a46:=Tryz.isAgg270
 z46:=Tryz.sizeOf270
 v46:=Tryz.zeroValue270
 t105:=Tryz.underlying448
 a105:=Tryz.isAgg448
 z105:=Tryz.sizeOf448
 v105:=Tryz.zeroValue448
 t116:=Tryz.underlying435
 a116:=Tryz.isAgg435
 z116:=Tryz.sizeOf435
 t117:=Tryz.underlying436
 a117:=Tryz.isAgg436
 z117:=Tryz.sizeOf436
 v117:=Tryz.zeroValue436
 t119:=Tryz.underlying455
 a119:=Tryz.isAgg455
 z119:=Tryz.sizeOf455
 t124:=Tryz.underlying439
 a124:=Tryz.isAgg439
 z124:=Tryz.sizeOf439
 v124:=Tryz.zeroValue439
 t138:=Tryz.underlying457
 a138:=Tryz.isAgg457
 z138:=Tryz.sizeOf457
 v138:=Tryz.zeroValue457
 t139:=Tryz.underlying458
 a139:=Tryz.isAgg458
 z139:=Tryz.sizeOf458
 v139:=Tryz.zeroValue458
 g3:=by kernel_rfl
 g4:=by kernel_rfl }
theorem trim_bits (l:List Bool):Lib.trimS (l.map bch) [48,49]=[]:=by
 have hc:∀ b:Bool,([48,49]:List UInt8).contains (bch b)=true:=by decide
 have hd:∀ l:List UInt8,(∀ x ∈ l,([48,49]:List UInt8).contains x=true)->l.dropWhile (([48,49]:List UInt8).contains ·)=[]:=fun l=>by
  induction l with
  | nil=>intro _;rfl
  | cons x l ih =>
    intro h;rw[List.dropWhile_cons,if_pos (h x (by simp))];exact ih (fun y hy=>h y (by simp[hy]))
 have h1:Lib.trimRightS (l.map bch) [48,49]=[]:=by
  unfold Lib.trimRightS;rw[hd _ (fun x hx=>by
   rw[List.mem_reverse,List.mem_map] at hx;obtain⟨b,_,rfl⟩:=hx;exact hc b)]
  rfl
 unfold Lib.trimS;rw[h1];rfl
theorem bt_good (l:List Bool) (w0 w:World) (R:HP) (h:St w0 w R) (hl:l.length<=100000000) :
  Calls Tryz.prog 264 #[.string (bstr l)] w fun e w'=>e=.returned (.bool true)/\St w0 w' R:=by
 have hz:=bstr_size l;have ht:=Any.strings_Trim_laid layTrim (by kernel_rfl) (bstr l) ⟨#[48,49]⟩ w (by omega) (by decide) (ascii_of_all (by decide));rw[bstr_list,show (⟨#[48,49]⟩:ByteArray).data.toList=[48,49] from rfl,trim_bits] at ht;have ht2:Calls Tryz.prog 303 #[.string (bstr l),.string ⟨#[48,49]⟩] w fun e w'=>e=.returned (.string ⟨#[]⟩)/\Below w.heap.size w w':=ht
 clear ht;go_enter Tryz.func264,Tryz.ntmps264
 go_wp2_with fail
 refine ht2.mono ?_
 rintro e w1 ⟨rfl,hb⟩;go_wp2;go_ret
 exact⟨rfl,h.below hb (Nat.le_refl _)⟩
def pvArr (l:List Bool) (m i:Nat):Array Value:=((List.range m).map fun t=>Value.int .u8 (pv l t i:Nat)).toArray
theorem pvArr_at (l:List Bool) (m i t:Nat):(pvArr l m i)[t]?=if t<m then some (.int .u8 (pv l t i:Nat)) else none:=by
 unfold pvArr;by_cases h:t<m
 ·rw[if_pos h]
  simp[h]
 ·rw[if_neg h]
  simp[h]
theorem pvArr_set (l:List Bool) (m i:Nat) (h:i / 8<m):(pvArr l m i).setIfInBounds (i / 8) (.int .u8 (pv l (i / 8) (i+1):Nat))=pvArr l m (i+1):=by
 apply Array.ext_getElem?
 intro t;rw[Array.getElem?_setIfInBounds,pvArr_at,pvArr_at];by_cases ht:i / 8=t
 ·subst ht
  rw[if_pos rfl,if_pos h,if_pos (by unfold pvArr;simp;exact h)]
 ·rw[if_neg ht]
  by_cases h2:t<m
  ·rw[if_pos h2,if_pos h2,pv_other (by omega)]
  ·rw[if_neg h2,if_neg h2]
theorem pvArr_zero (l:List Bool) (m:Nat):madeCells #[.int .u8 0] m=pvArr l m 0:=by
 apply Array.ext_getElem?
 intro t;rw[pvArr_at];by_cases h2:t<m
 ·rw[if_pos h2,pv_zero]
  unfold madeCells;simp[h2,Nat.mod_one]
 ·rw[if_neg h2]
  unfold madeCells;simp[h2]
theorem or_bit:∀ (k:Fin 8) (b:Bool) (p:Fin 128),(p:Nat)<2 ^ (k:Nat)->bits .or .u8 ((p:Nat):Int) (((bitN b*2 ^ (k:Nat):Nat)):Int)=((p:Nat)+bitN b*2 ^ (k:Nat):Nat):=by decide +kernel
theorem bt_octets (l:List Bool) (m:Nat) (hm:l.length=8*m) (hl:m<=10000000) (w0 w:World) (R:HP) (h:St w0 w R) :
  Calls Tryz.prog 198 #[.string (bstr l)] w fun e w'=>e=.returned (.tuple #[.string ⟨(octs l).toArray⟩,.int .i64 0])/\St w0 w' R:=by
 have hz:(bstr l).size=8*m:=(bstr_size l).trans hm;have hg:=bt_good l w0 w R h (by omega);have hat:=bstr_at l;have hbig:∀ b:Bool,((bch b).toNat:Int)=48+(bitN b:Nat):=by decide
 obtain⟨i0,hi,hz0,hz1,hz2⟩:=info_parts bExtra.infoByte;have hmk:∀ v,(Instr.makeSlice 126 (.int .i64 (m:Int)) (.int .i64 (m:Int))).run Tryz.prog v=.ok (.slice (some ⟨v.heap.size,0,none⟩) m m) (v.alloc (.cells (pvArr l m 0) 5)):=fun v=>by
  have:=run_makeSlice (P:=Tryz.prog) (w:=v) 126 5 i0 (.int .u8 0) Tryz.underlying126 hi hz0 .i64 .i64 m m (by omega) (by omega) (by rw[hz1];simp;omega) (by rw[hz2];omega) (by omega)
  rw[hz1] at this;simp only[Int.toNat_natCast,Nat.mul_one] at this;rw[← pvArr_zero];exact this
 have HM:=Lib.hid hm;generalize bstr l=s at *;obtain⟨n,hn⟩:∃ n,8*m=n:=⟨_,rfl⟩;rw[hn] at hz;have q1:Int.tmod (n:Int) 8=0:=by rw[Int.tmod_eq_emod_of_nonneg (by omega)];omega
 have q2:Int.tdiv (n:Int) 8=(m:Int):=by rw[Int.tdiv_eq_ediv_of_nonneg (by omega)];omega
 have HNN:=Lib.hid hn;have hn9:n<=100000000:=by omega
 clear hm hn hi hz0 hz1 hz2;go_enter Tryz.func198,Tryz.ntmps198
 go_wp2_with fail
 refine hg.mono ?_
 rintro e w1 ⟨rfl,h1⟩;clear hg;have h2:=h1.alloc (.cells (pvArr l m 0) 5);go_upto_region 6 with fail
 generalize w1.alloc _=w2 at *;generalize w1.heap.size=g at *;clear h1 hmk q1 q2;go_wp2;go_loopw [21] (fun s21 wr=>∃ i:Nat,i<=n/\s21=.int .i64 i/\St w0 wr (blk g (.cells (pvArr l m i) 5 (0,0))*R)) (fun s21 _=>n - (intOf s21).toNat)
 case atStart=>exact⟨0,by omega,rfl,h2⟩
 case round =>
  clear h2;obtain⟨i,hi,rfl,h3⟩:=hrel;by_cases hlt:i<n
  ·have hin:(i:Int)<(n:Int):=by omega
   have hil:i<l.length:=by rw[HM.out,HNN.out];exact hlt
   obtain⟨b,hb⟩:∃ b,l[i]?=some b:=⟨l[i],List.getElem?_eq_getElem hil⟩;have hx:=hat i b hb;have hbd:l.getD i false=b:=by rw[List.getD_eq_getElem?_getD,hb];rfl
   have hjm:i / 8<m:=by have:=HNN.out;omega
   obtain⟨p1,p2⟩:=pv_step l i;rw[hbd] at p2;have c:=(h3.cell (i / 8)).trans (by rw[pvArr_at,if_pos hjm]);have f:=h3.free (i / 8);have h4:=h3.drew.set (i / 8) (.int .u8 (pv l (i / 8) (i+1):Nat));rw[pvArr_set l m i hjm] at h4;have qd:Int.tdiv (i:Int) 8=((i / 8:Nat):Int):=by rw[Int.tdiv_eq_ediv_of_nonneg (by omega)];omega
   have qm:Int.tmod (i:Int) 8=((i % 8:Nat):Int):=by rw[Int.tmod_eq_emod_of_nonneg (by omega)];omega
   have hjm2:((i / 8:Nat):Int)<(m:Int):=by omega
   have hr8:i % 8<8:=Nat.mod_lt _ (by decide);have ha:bits .and .u8 ((bch b).toNat:Int) 1=((bitN b:Nat):Int):=by cases b <;> decide
   have wj:IntKind.i64.wrap ((i / 8:Nat):Int)=((i / 8:Nat):Int):=by rw[IntKind.wrap_i64];have:=HNN.out;omega
   have wr8:IntKind.i64.wrap ((i % 8:Nat):Int)=((i % 8:Nat):Int):=by rw[IntKind.wrap_i64];omega
   have j0:0<=((i / 8:Nat):Int):=by omega
   have r0:0<=((i % 8:Nat):Int):=by omega
   have r8:((i % 8:Nat):Int)<8:=by omega
   generalize i / 8=j at *;generalize i % 8=r at *;generalize pv l j i=x at *;generalize pv l j (i+1)=y at *;have hv:bits .or .u8 (x:Int) (IntKind.u8.wrap (((bitN b:Nat):Int)*2 ^ r))=(y:Int):=by
    have hx2:x<128:=by
     have:2 ^ r<=2 ^ 7:=Nat.pow_le_pow_right (by decide) (by omega)
     omega
    have hb1:bitN b<=1:=by cases b <;> decide
    have hp7:2 ^ r<=128:=Nat.pow_le_pow_right (show 0<2 by decide) (show r<=7 by omega);have hmul:bitN b*2 ^ r<=128:=by
     have:=Nat.mul_le_mul hb1 hp7
     omega
    have h1:=or_bit ⟨r,hr8⟩ b ⟨x,hx2⟩ p1;simp only[] at h1;have hcast:((bitN b:Nat):Int)*2 ^ r=((bitN b*2 ^ r:Nat):Int):=by push_cast;rfl
    rw[hcast,show IntKind.u8.wrap ((bitN b*2 ^ r:Nat):Int)=((bitN b*2 ^ r:Nat):Int) from by rw[IntKind.wrap_u8];omega,h1,p2]
   clear hat hb hbd hbig p1 p2;go_upto_region 9 with fail
   have cd:=(h3.drew.cell j).trans ((h3.cell j).symm.trans c);have fd:=h3.drew.free j;go_still_tail 14,(by kernel_rfl)
   change wpList _ _ _ _ _ wr.drew
   clear c f h3 hx ha;generalize wr.drew=wd at *;go_wp2;go_roundw
   case rel=>exact⟨i+1,by omega,by go_num,h4⟩
   case measure=>simp[intOf];omega
  ·obtain rfl:i=n:=by omega
   obtain⟨e1,e2⟩:=octs_len m l HM.out;have hi8:=HNN.out;have hq:=run_convert_bytes_back (P:=Tryz.prog) wr 126 9 5 ⟨g,0,none⟩ m (octs l) Tryz.underlying126 Tryz.underlying5 Tryz.underlying9 (fun j hj=>by
    rw[add_none,Nat.zero_add,h3.cell j,pvArr_at,if_pos (by omega)];have h5:=e2 j (by omega);rw[hi8] at h5;rw[List.getElem?_eq_getElem hj] at h5;rw[Option.some.inj h5,UInt8.toNat_ofNat',Nat.mod_eq_of_lt (pv_lt l j i)])
   rw[e1] at hq;clear hat e2;go_wp2;go_ret2
   exact⟨rfl,h3.drop⟩
end Go.Proofs.YtjcldoejpldcmaaGreatDoor
