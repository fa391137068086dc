/- Parts of a proof (DecC, DecB, DecF). No condition. -/
import Derived.Test.YtjcldoejpldcmaaGreatDoorC14
import Derived.Test.YtjcldoejpldcmaaGreatDoorC2
namespace Go.Proofs.YtjcldoejpldcmaaGreatDoor
set_option maxRecDepth 100000
set_option maxHeartbeats 6400000
open Go.RowKit
abbrev encCh (b:Bool):List Value:=[.int .u8 (bch b).toNat]
theorem tyCh:ETy Tryz.prog 126 5 1 1 encCh :=
 ⟨Tryz.underlying126,⟨.int .u8 0,by kernel_rfl,rfl⟩,fun _=>rfl,fun b u hu=>by simp[encCh] at hu;subst hu;rfl,by decide,by decide⟩
abbrev TDe:TypeId:=141
abbrev TEv:TypeId:=71
abbrev ptrD (b:Nat):Value:=.pointer (some ⟨b,0,none⟩)
def DeAt (p:Nat) (d:De):HP:=hex fun v:Value=>blk p (.cells #[v,.bool d.w,.int .i64 d.o] TDe (0,0))*LAt 5 1 encCh v d.c
abbrev Ev.cells (v:Ev):List Value:=[.int .i64 v.kind,.string ⟨v.s.toArray⟩]
abbrev Ev.zero:Ev:=⟨0,[]⟩
section
variable {w0 w:World} {R:HP} {p:Nat} {d:De}
theorem St.d_open (h:St w0 w (DeAt p d*R)):∃ v,St w0 w (blk p (.cells #[v,.bool d.w,.int .i64 d.o] TDe (0,0))*(LAt 5 1 encCh v d.c*R)):=by
 obtain⟨v,h⟩:=h.ex;exact⟨v,h.eq (star_assoc _ _ _)⟩
theorem St.d_shut {v:Value} {c:Array Value} {l:List Bool} (h:St w0 w (blk p (.cells c TDe (0,0))*(LAt 5 1 encCh v l*R))) (hc:c=#[v,.bool d.w,.int .i64 d.o]) (hl:l=d.c):St w0 w (DeAt p d*R):=by
 subst hc hl;exact St.mk_ex v (h.eq (star_assoc _ _ _).symm)
end
theorem d_new (w0 w:World) (R:HP) (h:St w0 w R) :
  Calls Tryz.prog 22 #[] w fun e w'=>∃ p,e=.returned (ptrD p)/\St w0 w' (DeAt p .new*R):=by
 have h1:=(h.l_nil 5 1 encCh).alloc (.cells #[.slice none 0 0,.bool false,.int .i64 0] TDe);go_enter Tryz.func22,Tryz.ntmps22
 go_wp2;go_ret
 exact⟨_,rfl,h1.d_shut rfl rfl⟩
theorem ch_cells {g off n cap:Nat} {l:List Bool} {w0 w:World} {R:HP} (h:St w0 w (LAt 5 1 encCh (.slice (some ⟨g,off,none⟩) n cap) l*R)) (i:Nat) (b:Bool) (hb:l[i]?=some b):w.cell? ⟨g,off+i,none⟩=some (.int .u8 (bch b).toNat):=by
 have hi:i<l.length:=(List.getElem?_eq_some_iff.1 hb).1;have:=h.row_cell (i*1+0) (by have:=Nat.mul_le_mul_right 1 (show i+1<=l.length from hi);omega)
 rw[encs_at tyCh.len l i b 0 hb (by decide)] at this;rw[show off+i=off+(i*1+0) by omega];exact this
theorem St.d_fresh {w0 w:World} {R E:HP} {p:Nat} {v:Value} {c:List Bool} (h:St w0 w (E*(blk p (.cells #[.slice none 0 0,.bool true,.int .i64 0] TDe (0,0))*(LAt 5 1 encCh v c*R)))):St w0 w (DeAt p ⟨[],true,0⟩*R) :=
 (h.drop.f2.drop.l_nil 5 1 encCh).f2.d_shut (d:=⟨[],true,0⟩) rfl rfl
theorem d_flag (p:Nat) (d:De) (ho:d.o=0) (hc:d.c.length<=3000) (w0 w:World) (R:HP) (h:St w0 w (DeAt p d*R)) :
  Calls Tryz.prog 111 #[ptrD p] w fun e w'=>e=.returned (.tuple #[.agg (d.flag.2.getD .zero).cells.toArray,.bool d.flag.2.isSome])/\St w0 w' (DeAt p d.flag.1*R):=by
 obtain⟨v,h1⟩:=h.d_open;obtain⟨c,wn,o⟩:=d;simp only[] at *;subst ho;have h2:=h1.alloc (.cells #[.int .i64 0,.string ⟨#[]⟩] TEv);clear h h1;obtain⟨va,vc,rfl,_,_⟩:=h2.f3.l_shape;obtain⟨n,hn⟩:∃ n,c.length=n:=⟨_,rfl⟩;rw[hn] at h2 hc;have HN:=Lib.hid hn;have c2:=h2.f2.cell;have f2:=h2.f2.free;have h3:St w0 _ (blk w.heap.size (.cells #[.int .i64 0,.string ⟨#[]⟩] TEv (0,0))*(blk p (.cells #[.slice none 0 0,.bool true,.int .i64 0] TDe (0,0))*(LAt 5 1 encCh (.slice va n vc) c*R))):=((h2.f2.set 0 (.slice none 0 0)).set 1 (.bool true)).f2;obtain⟨X,hX⟩:∃ X,De.flag ⟨c,wn,0⟩=X:=⟨_,rfl⟩;rw[hX];have hA:wn=false\/n<=6->X=(⟨[],true,0⟩,none):=fun e=>by
  rw[← hX,De.flag,if_pos (by rw[← hn] at e;exact e)]
 have hB:¬ (wn=false\/n<=6)->(2128<n - 6\/(n - 6) % 8≠0)->X=(⟨[],true,0⟩,some ⟨2,[]⟩):=fun e1 e2=>by
  rw[← hX,De.flag,if_neg (by rw[← hn] at e1;exact e1),if_pos (by rw[← hn] at e2;exact e2)]
 have hC:¬ (wn=false\/n<=6)->¬ (2128<n - 6\/(n - 6) % 8≠0)->X=(⟨[],true,0⟩,some ⟨0,octs (c.take (n - 6))⟩):=fun e1 e2=>by
  rw[← hX,De.flag,if_neg (by rw[← hn] at e1;exact e1),if_neg (by rw[← hn] at e2;exact e2),← hn]
 clear hX hn h2;obtain⟨q,hq⟩:∃ q:Int,(n:Int) - 5 - 1=q:=⟨_,rfl⟩;have w5:IntKind.i64.wrap ((n:Int) - 5)=(n:Int) - 5:=by rw[IntKind.wrap_i64];omega
 have w6:IntKind.i64.wrap q=q:=by rw[IntKind.wrap_i64];omega
 by_cases eA:wn=false\/n<=6
 ·obtain rfl:=hA eA
  clear hA hB hC;cases wn with
  | false =>
    clear eA;go_enter Tryz.func111,Tryz.ntmps111
    go_upto_region 4 with fail
    generalize ((w.alloc _).setCell _ _).setCell _ _=wb at *;generalize w.heap.size=ge at *;clear c2 f2;have c3:=h3.cell;have f3:=h3.free;have h4:St w0 _ (blk ge (.cells #[.int .i64 0,.string ⟨#[]⟩] TEv (0,0))*(blk p (.cells #[.slice none 0 0,.bool true,.int .i64 0] TDe (0,0))*(LAt 5 1 encCh (.slice va n vc) c*R))):=(h3.set 0 (.int .i64 0)).set 1 (.string ⟨#[]⟩);go_wp2;have cr:=h4.cell;refine bodyPost_ret (v:=.tuple #[.agg #[.int .i64 0,.string ⟨#[]⟩],.bool false]) (by simp[results,Tryz.results111,go_sem,cr]) rfl ⟨rfl,h4.d_fresh⟩
  | true =>
    have n6:n<=6:=by
     rcases eA with e | e
     ·cases e
     ·exact e
    have bq:decide (q<=0)=true:=by simp;omega
    clear eA n6;go_enter Tryz.func111,Tryz.ntmps111
    go_upto_region 4 with fail
    generalize ((w.alloc _).setCell _ _).setCell _ _=wb at *;generalize w.heap.size=ge at *;clear c2 f2;have c3:=h3.cell;have f3:=h3.free;have h4:St w0 _ (blk ge (.cells #[.int .i64 0,.string ⟨#[]⟩] TEv (0,0))*(blk p (.cells #[.slice none 0 0,.bool true,.int .i64 0] TDe (0,0))*(LAt 5 1 encCh (.slice va n vc) c*R))):=(h3.set 0 (.int .i64 0)).set 1 (.string ⟨#[]⟩);go_wp2;have cr:=h4.cell;refine bodyPost_ret (v:=.tuple #[.agg #[.int .i64 0,.string ⟨#[]⟩],.bool false]) (by simp[results,Tryz.results111,go_sem,cr]) rfl ⟨rfl,h4.d_fresh⟩
 ·have ewn:wn=true:=by simpa using fun e=>eA (Or.inl e)
  subst ewn;have n6:6<n:=by omega
  have bq:decide (q<=0)=false:=by simp;omega
  by_cases eB:2128<n - 6\/(n - 6) % 8≠0
  ·obtain rfl:=hB eA eB
   clear hA hB hC eA;by_cases e1:2128<n - 6
   ·have b1:decide (q > 2128)=true:=by simp;omega
    clear eB;go_enter Tryz.func111,Tryz.ntmps111
    go_upto_region 4 with fail
    generalize ((w.alloc _).setCell _ _).setCell _ _=wb at *;generalize w.heap.size=ge at *;clear c2 f2;have c3:=h3.cell;have f3:=h3.free;have h4:St w0 _ (blk ge (.cells #[.int .i64 2,.string ⟨#[]⟩] TEv (0,0))*(blk p (.cells #[.slice none 0 0,.bool true,.int .i64 0] TDe (0,0))*(LAt 5 1 encCh (.slice va n vc) c*R))):=(h3.set 0 (.int .i64 2)).set 1 (.string ⟨#[]⟩);go_wp2;have cr:=h4.cell;refine bodyPost_ret (v:=.tuple #[.agg #[.int .i64 2,.string ⟨#[]⟩],.bool true]) (by simp[results,Tryz.results111,go_sem,cr]) rfl ⟨rfl,h4.d_fresh⟩
   ·have b1:decide (q > 2128)=false:=by simp;omega
    have b2:(q % 8 == 0)=false:=by
     simp
     omega
    have b3:(q % 8 != 0)=true:=by simpa using b2
    have q0:0<=q:=by omega
    clear eB;go_enter Tryz.func111,Tryz.ntmps111
    go_upto_region 4 with fail
    generalize ((w.alloc _).setCell _ _).setCell _ _=wb at *;generalize w.heap.size=ge at *;clear c2 f2;have c3:=h3.cell;have f3:=h3.free;have h4:St w0 _ (blk ge (.cells #[.int .i64 2,.string ⟨#[]⟩] TEv (0,0))*(blk p (.cells #[.slice none 0 0,.bool true,.int .i64 0] TDe (0,0))*(LAt 5 1 encCh (.slice va n vc) c*R))):=(h3.set 0 (.int .i64 2)).set 1 (.string ⟨#[]⟩);go_wp2;have cr:=h4.cell;refine bodyPost_ret (v:=.tuple #[.agg #[.int .i64 2,.string ⟨#[]⟩],.bool true]) (by simp[results,Tryz.results111,go_sem,cr]) rfl ⟨rfl,h4.d_fresh⟩
  ·obtain rfl:=hC eA eB
   clear hA hB hC eA;obtain⟨m,hm⟩:∃ m,n - 6=8*m:=⟨(n - 6) / 8,by omega⟩;rw[hm] at eB ⊢;obtain rfl:q=((8*m:Nat):Int):=by omega
   have b1:decide (((8*m:Nat):Int) > 2128)=false:=by simp;omega
   have b2:((8*m:Nat):Int) % 8=0:=by omega
   have hl:(c.take (8*m)).length=8*m:=by rw[List.length_take,HN.out];omega
   have hoc:=fun w R h=>bt_octets (c.take (8*m)) m hl (by omega) w0 w R h
   obtain⟨g,off,rfl⟩:∃ g off,va=some ⟨g,off,none⟩:=by
    rcases h3.f3.l_cells tyCh.len with ⟨h0,_⟩ | ⟨g,off,cp,hv,_⟩
    ·have:=HN.out;rw[h0] at this;simp at this;omega
    ·simp only[Value.slice.injEq] at hv;exact⟨g,off,hv.1⟩
   obtain⟨S,hS⟩:∃ S,bstr (c.take (8*m))=S:=⟨_,rfl⟩;have hcv:∀ v,St w0 v (blk w.heap.size (.cells #[.int .i64 0,.string ⟨#[]⟩] TEv (0,0))*(blk p (.cells #[.slice none 0 0,.bool true,.int .i64 0] TDe (0,0))*(LAt 5 1 encCh (.slice (some ⟨g,off,none⟩) n vc) c*R)))->∀ cp,(convert 126 9 (.slice (some ⟨g,off,none⟩) (8*m) cp)).run Tryz.prog v=.ok (.string S) v:=fun v hv cp=>by
    have:=run_convert_bytes_back (P:=Tryz.prog) v 126 9 5 ⟨g,off,none⟩ cp ((c.take (8*m)).map bch) Tryz.underlying126 Tryz.underlying5 Tryz.underlying9 (fun j hj=>by
     rw[List.length_map,hl] at hj;rw[add_none,List.getElem_map];have hcj:j<c.length:=by rw[HN.out];omega
     have:=ch_cells hv.f3 j c[j] (List.getElem?_eq_getElem hcj)
     rw[this];simp)
    rw[List.length_map,hl] at this;rw[this,← hS];rfl
   rw[hS] at hoc;have hkc:((8*m:Nat):Int)<=(vc:Int):=by have:=HN.out;omega
   have hk0:0<=((8*m:Nat):Int):=by omega
   generalize octs (c.take (8*m))=O at *;generalize 8*m=k at *;have HCV:=Lib.hid hcv;clear hcv hS hl eB hm;go_enter Tryz.func111,Tryz.ntmps111
   go_upto_region 4 with fail
   generalize ((w.alloc _).setCell _ _).setCell _ _=wb at *;have hcx:=HCV.out wb h3;generalize w.heap.size=ge at *;clear c2 f2 HCV;go_wp2_with fail
   refine (hoc wb _ h3).mono ?_
   rintro e w5 ⟨rfl,h5⟩;clear hcx h3;have c3:=h5.cell;have f3:=h5.free;have h4:St w0 _ (blk ge (.cells #[.int .i64 0,.string ⟨O.toArray⟩] TEv (0,0))*(blk p (.cells #[.slice none 0 0,.bool true,.int .i64 0] TDe (0,0))*(LAt 5 1 encCh (.slice (some ⟨g,off,none⟩) n vc) c*R))):=(h5.set 0 (.int .i64 0)).set 1 (.string ⟨O.toArray⟩);go_wp2;have cr:=h4.cell;refine bodyPost_ret (v:=.tuple #[.agg #[.int .i64 0,.string ⟨O.toArray⟩],.bool true]) (by simp[results,Tryz.results111,go_sem,cr]) rfl ⟨rfl,h4.d_fresh⟩
theorem St.d_back {w0 w:World} {R E:HP} {p:Nat} {v:Value} {c:List Bool} {wn:Bool} {o:Nat} (h:St w0 w (E*(blk p (.cells #[v,.bool wn,.int .i64 o] TDe (0,0))*(LAt 5 1 encCh v c*R)))):St w0 w (DeAt p ⟨c,wn,o⟩*R):=h.drop.d_shut rfl rfl
theorem St.d_none {w0 w:World} {R E:HP} {p:Nat} {v:Value} {c:List Bool} {wn:Bool} {o:Nat} (h:St w0 w (E*(blk p (.cells #[.slice none 0 0,.bool wn,.int .i64 o] TDe (0,0))*(LAt 5 1 encCh v c*R)))):St w0 w (DeAt p ⟨[],wn,o⟩*R) :=
 (h.drop.f2.drop.l_nil 5 1 encCh).f2.d_shut (d:=⟨[],wn,o⟩) rfl rfl
theorem St.ev_set {w0 w:World} {R:HP} {g:Nat} {c:Array Value} (k:Int) (s:ByteArray) (hc:c.size=2) (h:St w0 w (blk g (.cells c TEv (0,0))*R)):St w0 ((w.setCell ⟨g,0,none⟩ (.int .i64 k)).setCell ⟨g,1,none⟩ (.string s)) (blk g (.cells #[.int .i64 k,.string s] TEv (0,0))*R):=by
 have h1:=(h.set 0 (.int .i64 k)).set 1 (.string s);have e:((c.setIfInBounds 0 (.int .i64 k)).setIfInBounds 1 (.string s))=#[.int .i64 k,.string s]:=by
  apply Array.ext_getElem?
  intro i;rw[Array.getElem?_setIfInBounds,Array.getElem?_setIfInBounds];match i with
  | 0=>simp[hc]
  | 1=>simp[hc]
  | i+2=>simp[hc]
 rw[e] at h1;exact h1
theorem d_bit (p:Nat) (d:De) (b:Bool) (ho:d.o<=1000000000000000000) (hc:d.c.length<=2135) (w0 w:World) (R:HP) (h:St w0 w (DeAt p d*R)) :
  Calls Tryz.prog 54 #[ptrD p,.int .u8 (bch b).toNat] w fun e w'=>e=.returned (.tuple #[.agg ((d.bit b).2.getD .zero).cells.toArray,.bool (d.bit b).2.isSome])/\St w0 w' (DeAt p (d.bit b).1*R):=by
 have hfl:=fun v R h=>d_flag p ⟨d.c,d.w,0⟩ rfl (by show d.c.length<=3000;omega) w0 v R h
 obtain⟨v,h1⟩:=h.d_open;obtain⟨c,wn,o⟩:=d;simp only[] at *;have h2:=h1.alloc (.cells #[.int .i64 0,.string ⟨#[]⟩] TEv);clear h h1;obtain⟨va,vc,rfl,_,_⟩:=h2.f3.l_shape;obtain⟨n,hn⟩:∃ n,c.length=n:=⟨_,rfl⟩;rw[hn] at h2 hc;have HN:=Lib.hid hn;have c2:=h2.f2.cell;have f2:=h2.f2.free;cases b with
 | true =>
   have hbt:((bch true).toNat:Int)=49:=rfl;rw[hbt];have w1:IntKind.i64.wrap ((o:Int)+1)=(o:Int)+1:=by rw[IntKind.wrap_i64];omega
   have h3:St w0 _ (blk w.heap.size (.cells #[.int .i64 0,.string ⟨#[]⟩] TEv (0,0))*(blk p (.cells #[.slice va n vc,.bool wn,.int .i64 ((o:Int)+1)] TDe (0,0))*(LAt 5 1 encCh (.slice va n vc) c*R))):=(h2.f2.set 2 (.int .i64 ((o:Int)+1))).f2;by_cases e7:o=6/\wn=true
   ·obtain⟨rfl,rfl⟩:=e7
    have hX:De.bit ⟨c,true,6⟩ true=(⟨[],false,7⟩,some ⟨1,[]⟩):=by
     unfold De.bit;rw[if_pos rfl,if_pos ⟨rfl,rfl⟩]
    rw[hX];clear h3;have h3:St w0 _ (blk w.heap.size (.cells #[.int .i64 0,.string ⟨#[]⟩] TEv (0,0))*(blk p (.cells #[.slice va n vc,.bool true,.int .i64 7] TDe (0,0))*(LAt 5 1 encCh (.slice va n vc) c*R))):=(h2.f2.set 2 (.int .i64 7)).f2;clear hX hn h2 hfl w1;go_enter Tryz.func54,Tryz.ntmps54
    go_upto_region 3 with fail
    generalize (w.alloc _).setCell _ _=wb at *;generalize w.heap.size=ge at *;clear c2 f2;have c3:=h3.f2.cell;have f3:=h3.f2.free;have h4:St w0 _ (blk ge (.cells #[.int .i64 0,.string ⟨#[]⟩] TEv (0,0))*(blk p (.cells #[.slice none 0 0,.bool false,.int .i64 7] TDe (0,0))*(LAt 5 1 encCh (.slice va n vc) c*R))):=((h3.f2.set 0 (.slice none 0 0)).set 1 (.bool false)).f2;go_upto_region 5 with fail
    generalize (wb.setCell _ _).setCell _ _=wc at *;clear c3 f3 h3;have c8:=h4.cell;have f8:=h4.free;have h8:=h4.ev_set 1 ⟨#[]⟩ rfl;go_wp2;have cr:=h8.cell;refine bodyPost_ret (v:=.tuple #[.agg #[.int .i64 1,.string ⟨#[]⟩],.bool true]) (by simp[results,Tryz.results54,go_sem,cr]) rfl ⟨rfl,?_⟩
    exact (show St w0 _ (blk ge _*(blk p (.cells #[.slice none 0 0,.bool false,.int .i64 ((7:Nat):Int)] TDe (0,0))*(LAt 5 1 encCh (.slice va n vc) c*R))) from h8).d_none
   ·have hX:De.bit ⟨c,wn,o⟩ true=(De.put ⟨c,wn,o+1⟩ true,none):=by
     unfold De.bit;rw[if_pos rfl,if_neg (fun h=>e7 ⟨by have:=h.1;show o=6;simp only[] at this;omega,h.2⟩)]
    rw[hX];clear hX hn h2 hfl;obtain⟨q,hq⟩:∃ q,o+1=q:=⟨_,rfl⟩;have hqi:(o:Int)+1=(q:Int):=by omega
    rw[hqi] at h3 w1;rw[hq];have b7:((q:Int) == 7)=false\/wn=false:=by
     by_cases h6:o=6
     ·right
      simpa using fun e=>e7 ⟨h6,e⟩
     ·left
      simp
      omega
    have B7:=Lib.hid b7;clear b7 e7;by_cases eP:wn=true/\q<=5/\n<=2134
    ·obtain⟨rfl,q5,n5⟩:=eP
     have hX:De.put ⟨c,true,q⟩ true=⟨c++[true],true,q⟩:=by
      unfold De.put;rw[if_pos ⟨rfl,q5,by show c.length<=2134;rw[HN.out];exact n5⟩]
     rw[hX];have b7:((q:Int) == 7)=false:=by simp;omega
     have b5:decide ((q:Int)<=5)=true:=by simp;omega
     have bn:decide ((n:Int)<=2134)=true:=by simp;omega
     clear hX B7 hq;go_enter Tryz.func54,Tryz.ntmps54
     go_upto_region 3 with fail
     generalize (w.alloc _).setCell _ _=wb at *;generalize w.heap.size=ge at *;clear c2 f2;have c3:=h3.f2.cell;have f3:=h3.f2.free;go_upto_region 14 with fail
     have hA:=((h3.eq (show _=LAt 5 1 encCh (.slice va n vc) c*(blk ge (.cells #[.int .i64 0,.string ⟨#[]⟩] TEv (0,0))*(blk p _*R)) by ac_rfl)).alloc (.cells #[.int .u8 (bch true).toNat] 5)).drop;go_upto_region 15 with (at_builtin;refine wp_append_elem rfl (.tmp 86) (.tmp 88) rfl tyCh hA true rfl _ rfl (new_cells _ [.int .u8 (bch true).toNat] _ _ (by simp)) (by have:=HN.out;omega) ?hk1;(case' hk1=>(intro g off cap w8 h8;have c8:=h8.f3.cell;have f8:=h8.f3.free;have c9:=h8.f2.cell;have f9:=h8.f2.free)))
     have h9:St w0 _ (blk ge (.cells #[.int .i64 0,.string ⟨#[]⟩] TEv (0,0))*(blk p (.cells #[.slice (some ⟨g,off,none⟩) (c.length+1) cap,.bool true,.int .i64 q] TDe (0,0))*(LAt 5 1 encCh (.slice (some ⟨g,off,none⟩) (c.length+1) cap) (c++[true])*R))):=((h8.f3.set 0 (.slice (some ⟨g,off,none⟩) (c.length+1) cap)).eq (show _=blk ge _*(blk p _*(LAt 5 1 encCh (.slice (some ⟨g,off,none⟩) (c.length+1) cap) (c++[true])*R)) by ac_rfl));generalize w8.setCell _ _=w9 at *;clear c8 f8 c9 f9 h8 c3 f3;have c8:=h9.cell;have f8:=h9.free;have h10:=h9.ev_set 0 ⟨#[]⟩ rfl;go_wp2;have cr:=h10.cell;refine bodyPost_ret (v:=.tuple #[.agg #[.int .i64 0,.string ⟨#[]⟩],.bool false]) (by simp[results,Tryz.results54,go_sem,cr]) rfl ⟨rfl,h10.d_back⟩
    ·have hX:De.put ⟨c,wn,q⟩ true=⟨c,wn,q⟩:=by
      unfold De.put;rw[if_neg (fun h=>eP ⟨h.1,h.2.1,by have:=h.2.2;simp only[] at this;rw[HN.out] at this;exact this⟩)]
     rw[hX];clear hX hq;cases wn with
     | false =>
       clear eP B7;by_cases q7:(q:Int)=7
       ·have b7:((q:Int) == 7)=true:=by simpa using q7
        clear q7;go_enter Tryz.func54,Tryz.ntmps54
        go_upto_region 3 with fail
        generalize (w.alloc _).setCell _ _=wb at *;generalize w.heap.size=ge at *;clear c2 f2;have c3:=h3.f2.cell;have f3:=h3.f2.free;have c8:=(h3).cell;have f8:=(h3).free;have h8:=(h3).ev_set 0 ⟨#[]⟩ rfl;go_wp2;have cr:=h8.cell;refine bodyPost_ret (v:=.tuple #[.agg #[.int .i64 0,.string ⟨#[]⟩],.bool false]) (by simp[results,Tryz.results54,go_sem,cr]) rfl ⟨rfl,h8.d_back⟩
       ·have b7:((q:Int) == 7)=false:=by simpa using q7
        clear q7;go_enter Tryz.func54,Tryz.ntmps54
        go_upto_region 3 with fail
        generalize (w.alloc _).setCell _ _=wb at *;generalize w.heap.size=ge at *;clear c2 f2;have c3:=h3.f2.cell;have f3:=h3.f2.free;have c8:=(h3).cell;have f8:=(h3).free;have h8:=(h3).ev_set 0 ⟨#[]⟩ rfl;go_wp2;have cr:=h8.cell;refine bodyPost_ret (v:=.tuple #[.agg #[.int .i64 0,.string ⟨#[]⟩],.bool false]) (by simp[results,Tryz.results54,go_sem,cr]) rfl ⟨rfl,h8.d_back⟩
     | true =>
       have b7:((q:Int) == 7)=false:=by
        rcases B7.out with e | e
        ·exact e
        ·cases e
       clear B7;by_cases q5:q<=5
       ·have b5:decide ((q:Int)<=5)=true:=by simp;omega
        have hn9:¬ n<=2134:=fun h=>eP ⟨rfl,q5,h⟩
        have bn:decide ((n:Int)<=2134)=false:=by simp;omega
        clear eP;go_enter Tryz.func54,Tryz.ntmps54
        go_upto_region 3 with fail
        generalize (w.alloc _).setCell _ _=wb at *;generalize w.heap.size=ge at *;clear c2 f2;have c3:=h3.f2.cell;have f3:=h3.f2.free;have c8:=(h3).cell;have f8:=(h3).free;have h8:=(h3).ev_set 0 ⟨#[]⟩ rfl;go_wp2;have cr:=h8.cell;refine bodyPost_ret (v:=.tuple #[.agg #[.int .i64 0,.string ⟨#[]⟩],.bool false]) (by simp[results,Tryz.results54,go_sem,cr]) rfl ⟨rfl,h8.d_back⟩
       ·have b5:decide ((q:Int)<=5)=false:=by simp;omega
        clear eP;go_enter Tryz.func54,Tryz.ntmps54
        go_upto_region 3 with fail
        generalize (w.alloc _).setCell _ _=wb at *;generalize w.heap.size=ge at *;clear c2 f2;have c3:=h3.f2.cell;have f3:=h3.f2.free;have c8:=(h3).cell;have f8:=(h3).free;have h8:=(h3).ev_set 0 ⟨#[]⟩ rfl;go_wp2;have cr:=h8.cell;refine bodyPost_ret (v:=.tuple #[.agg #[.int .i64 0,.string ⟨#[]⟩],.bool false]) (by simp[results,Tryz.results54,go_sem,cr]) rfl ⟨rfl,h8.d_back⟩
 | false =>
   have hbt:((bch false).toNat:Int)=48:=rfl;rw[hbt];have h3:St w0 _ (blk w.heap.size (.cells #[.int .i64 0,.string ⟨#[]⟩] TEv (0,0))*(blk p (.cells #[.slice va n vc,.bool wn,.int .i64 ((0:Nat):Int)] TDe (0,0))*(LAt 5 1 encCh (.slice va n vc) c*R))):=(h2.f2.set 2 (.int .i64 ((0:Nat):Int))).f2;by_cases o5:5<=o
   ·by_cases o6:o=6
    ·subst o6
     have hX:De.bit ⟨c,wn,6⟩ false=De.flag ⟨c,wn,0⟩:=by
      unfold De.bit;rw[if_neg (by decide),if_pos (show 5<=6 by decide),if_pos rfl];rfl
     rw[hX];generalize De.flag ⟨c,wn,0⟩=X at *;obtain⟨X1,X2⟩:=X;simp only[] at hfl ⊢;obtain⟨V,hV⟩:∃ V,X2.getD .zero=V:=⟨_,rfl⟩;rw[hV] at hfl ⊢;generalize X2.isSome=B at *;obtain⟨vk,vs⟩:=V;clear hX hn hV h2;go_enter Tryz.func54,Tryz.ntmps54
     go_upto_region 9 with fail
     generalize (w.alloc _).setCell _ _=wb at *;generalize w.heap.size=ge at *;clear c2 f2;have c3:=h3.f2.cell;have f3:=h3.f2.free;have h4:=(show St w0 wb (blk ge (.cells #[.int .i64 0,.string ⟨#[]⟩] TEv (0,0))*(blk p (.cells #[.slice va n vc,.bool wn,.int .i64 ((0:Nat):Int)] TDe (0,0))*(LAt 5 1 encCh (.slice va n vc) c*R))) from h3).f2;have h5:St w0 wb (DeAt p ⟨c,wn,0⟩*(blk ge (.cells #[.int .i64 0,.string ⟨#[]⟩] TEv (0,0))*R)):=St.d_shut (d:=⟨c,wn,0⟩) (h4.eq (show _=blk p _*(LAt 5 1 encCh (.slice va n vc) c*(blk ge _*R)) by ac_rfl)) rfl rfl;have hc:=hfl wb _ h5;clear h4 h5 hfl;go_wp2_with fail
     refine hc.mono ?_
     rintro e w5 ⟨rfl,h6⟩;clear hc h3 c3 f3;have h7:=h6.f2;have c8:=h7.cell;have f8:=h7.free;have h8:=h7.ev_set vk ⟨vs.toArray⟩ rfl;go_wp2;have cr:=h8.cell;refine bodyPost_ret (v:=.tuple #[.agg #[.int .i64 vk,.string ⟨vs.toArray⟩],.bool B]) (by simp[results,Tryz.results54,go_sem,cr]) rfl ⟨rfl,h8.drop⟩
    ·have hX:De.bit ⟨c,wn,o⟩ false=(⟨c,wn,0⟩,none):=by
      unfold De.bit;rw[if_neg (by decide),if_pos o5,if_neg o6]
     rw[hX];have b6:((o:Int) == 6)=false:=by simp;omega
     clear hX hn h2 hfl o6;by_cases o9:o=5
     ·subst o9
      go_enter Tryz.func54,Tryz.ntmps54
      go_upto_region 9 with fail
      generalize (w.alloc _).setCell _ _=wb at *;generalize w.heap.size=ge at *;clear c2 f2;have c3:=h3.f2.cell;have f3:=h3.f2.free;have c8:=(h3).cell;have f8:=(h3).free;have h8:=(h3).ev_set 0 ⟨#[]⟩ rfl;go_wp2;have cr:=h8.cell;refine bodyPost_ret (v:=.tuple #[.agg #[.int .i64 0,.string ⟨#[]⟩],.bool false]) (by simp[results,Tryz.results54,go_sem,cr]) rfl ⟨rfl,h8.d_back⟩
     ·have b5:decide ((o:Int) > 5)=true:=by simp;omega
      clear o9;go_enter Tryz.func54,Tryz.ntmps54
      go_upto_region 9 with fail
      generalize (w.alloc _).setCell _ _=wb at *;generalize w.heap.size=ge at *;clear c2 f2;have c3:=h3.f2.cell;have f3:=h3.f2.free;have c8:=(h3).cell;have f8:=(h3).free;have h8:=(h3).ev_set 0 ⟨#[]⟩ rfl;go_wp2;have cr:=h8.cell;refine bodyPost_ret (v:=.tuple #[.agg #[.int .i64 0,.string ⟨#[]⟩],.bool false]) (by simp[results,Tryz.results54,go_sem,cr]) rfl ⟨rfl,h8.d_back⟩
   ·have hX:De.bit ⟨c,wn,o⟩ false=(De.put ⟨c,wn,0⟩ false,none):=by
     unfold De.bit;rw[if_neg (by decide),if_neg o5]
    rw[hX];have b5:decide ((o:Int) > 5)=false:=by simp;omega
    have b6:((o:Int) == 5)=false:=by simp;omega
    clear hX hn h2 hfl o5;by_cases eP:wn=true/\n<=2134
    ·obtain⟨rfl,n5⟩:=eP
     have hX:De.put ⟨c,true,0⟩ false=⟨c++[false],true,0⟩:=by
      unfold De.put;rw[if_pos ⟨rfl,Nat.zero_le _,by show c.length<=2134;rw[HN.out];exact n5⟩]
     rw[hX];have bn:decide ((n:Int)<=2134)=true:=by simp;omega
     clear hX;go_enter Tryz.func54,Tryz.ntmps54
     go_upto_region 13 with fail
     generalize (w.alloc _).setCell _ _=wb at *;generalize w.heap.size=ge at *;clear c2 f2;have c3:=h3.f2.cell;have f3:=h3.f2.free;go_upto_region 14 with fail
     have hA:=((h3.eq (show _=LAt 5 1 encCh (.slice va n vc) c*(blk ge (.cells #[.int .i64 0,.string ⟨#[]⟩] TEv (0,0))*(blk p _*R)) by ac_rfl)).alloc (.cells #[.int .u8 (bch false).toNat] 5)).drop;go_upto_region 15 with (at_builtin;refine wp_append_elem rfl (.tmp 86) (.tmp 88) rfl tyCh hA false rfl _ rfl (new_cells _ [.int .u8 (bch false).toNat] _ _ (by simp)) (by have:=HN.out;omega) ?hk2;(case' hk2=>(intro g off cap w8 h8;have c8:=h8.f3.cell;have f8:=h8.f3.free;have c9:=h8.f2.cell;have f9:=h8.f2.free)))
     have h9:St w0 _ (blk ge (.cells #[.int .i64 0,.string ⟨#[]⟩] TEv (0,0))*(blk p (.cells #[.slice (some ⟨g,off,none⟩) (c.length+1) cap,.bool true,.int .i64 ((0:Nat):Int)] TDe (0,0))*(LAt 5 1 encCh (.slice (some ⟨g,off,none⟩) (c.length+1) cap) (c++[false])*R))):=((h8.f3.set 0 (.slice (some ⟨g,off,none⟩) (c.length+1) cap)).eq (show _=blk ge _*(blk p _*(LAt 5 1 encCh (.slice (some ⟨g,off,none⟩) (c.length+1) cap) (c++[false])*R)) by ac_rfl));generalize w8.setCell _ _=w9 at *;clear c8 f8 c9 f9 h8 c3 f3;have c8:=h9.cell;have f8:=h9.free;have h10:=h9.ev_set 0 ⟨#[]⟩ rfl;go_wp2;have cr:=h10.cell;refine bodyPost_ret (v:=.tuple #[.agg #[.int .i64 0,.string ⟨#[]⟩],.bool false]) (by simp[results,Tryz.results54,go_sem,cr]) rfl ⟨rfl,h10.d_back⟩
    ·have hX:De.put ⟨c,wn,0⟩ false=⟨c,wn,0⟩:=by
      unfold De.put;rw[if_neg (fun h=>eP ⟨h.1,by have:=h.2.2;simp only[] at this;rw[HN.out] at this;exact this⟩)]
     rw[hX];clear hX;cases wn with
     | false =>
       clear eP;go_enter Tryz.func54,Tryz.ntmps54
       go_upto_region 13 with fail
       generalize (w.alloc _).setCell _ _=wb at *;generalize w.heap.size=ge at *;clear c2 f2;have c3:=h3.f2.cell;have f3:=h3.f2.free;have c8:=(h3).cell;have f8:=(h3).free;have h8:=(h3).ev_set 0 ⟨#[]⟩ rfl;go_wp2;have cr:=h8.cell;refine bodyPost_ret (v:=.tuple #[.agg #[.int .i64 0,.string ⟨#[]⟩],.bool false]) (by simp[results,Tryz.results54,go_sem,cr]) rfl ⟨rfl,h8.d_back⟩
     | true =>
       have hn9:¬ n<=2134:=fun h=>eP ⟨rfl,h⟩
       have bn:decide ((n:Int)<=2134)=false:=by simp;omega
       clear eP hn9;go_enter Tryz.func54,Tryz.ntmps54
       go_upto_region 13 with fail
       generalize (w.alloc _).setCell _ _=wb at *;generalize w.heap.size=ge at *;clear c2 f2;have c3:=h3.f2.cell;have f3:=h3.f2.free;have c8:=(h3).cell;have f8:=(h3).free;have h8:=(h3).ev_set 0 ⟨#[]⟩ rfl;go_wp2;have cr:=h8.cell;refine bodyPost_ret (v:=.tuple #[.agg #[.int .i64 0,.string ⟨#[]⟩],.bool false]) (by simp[results,Tryz.results54,go_sem,cr]) rfl ⟨rfl,h8.d_back⟩
def bitsIn:List UInt8->List Bool
 | []=>[]
 | x :: l=>if x=49 then true :: bitsIn l else if x=48 then false :: bitsIn l else bitsIn l
theorem bitsIn_bstr (l:List Bool):bitsIn (bstr l).data.toList=l:=by
 rw[bstr_list];induction l with
 | nil=>rfl
 | cons b l ih =>
   cases b with
   | true =>
     show bitsIn (49 :: l.map bch)=_
     unfold bitsIn;rw[if_pos rfl,ih]
   | false =>
     show bitsIn (48 :: l.map bch)=_
     unfold bitsIn;rw[if_neg (by decide),if_pos rfl,ih]
def De.Fits (d:De):Prop:=d.c.length<=2135
theorem fits_bit {d:De} (h:d.Fits) (b:Bool):(d.bit b).1.Fits:=by
 have hp:∀ x:De,x.c.length<=2135->(x.put b).c.length<=2135:=fun x hx=>by
  unfold De.put;split
  ·rename_i h2
   show (x.c++[b]).length<=2135
   rw[List.length_append,List.length_singleton];omega
  ·exact hx
 have hf:(d.flag).1.c.length<=2135:=by
  unfold De.flag;repeat' split
  all_goals exact Nat.zero_le _
 unfold De.Fits De.bit;cases b with
 | true =>
   rw[if_pos rfl];split
   ·exact Nat.zero_le _
   ·exact hp _ h
 | false =>
   rw[if_neg (by decide)];split
   ·split
    ·exact hf
    ·exact h
   ·exact hp _ h
theorem ones_bit (d:De) (b:Bool):(d.bit b).1.o<=d.o+1\/(d.bit b).1.o<=7:=by
 have hp:∀ x:De,(x.put b).o=x.o:=fun x=>by
  unfold De.put;split <;> rfl
 unfold De.bit;cases b with
 | true =>
   rw[if_pos rfl];split
   ·exact Or.inr (Nat.le_refl _)
   ·exact Or.inl (Nat.le_of_eq (hp _))
 | false =>
   rw[if_neg (by decide)];split
   ·split
    ·right
     unfold De.flag;repeat' split
     all_goals exact Nat.zero_le _
    ·exact Or.inr (Nat.zero_le _)
   ·right
    show (De.put _ false).o<=7
    rw[hp];exact Nat.zero_le _
theorem tyEv:ETy Tryz.prog 65 TEv 2 24 Ev.cells :=
 ⟨Tryz.underlying65,⟨.agg #[.int .i64 0,.string ⟨#[]⟩],by kernel_rfl,rfl⟩,fun _=>rfl,fun b u hu=>by simp[Ev.cells] at hu;rcases hu with rfl | rfl <;> rfl,by decide,by decide⟩
theorem is_bit:∀ x:Fin 256,(bits .or .u8 ((x:Nat):Int) 1 != 49)=!(decide ((x:Nat)=49) || decide ((x:Nat)=48)):=by decide +kernel
theorem feed_snoc (d:De) (l:List Bool) (b:Bool):d.feed (l++[b])=(((d.feed l).1.bit b).1,(d.feed l).2++((d.feed l).1.bit b).2.toList):=by
 rw[feed_app];simp only[De.feed,List.append_nil]
theorem bitsIn_cons (x:UInt8) (l:List UInt8):bitsIn (x :: l)=if x=49 then true :: bitsIn l else if x=48 then false :: bitsIn l else bitsIn l:=rfl
theorem bitsIn_app (a b:List UInt8):bitsIn (a++b)=bitsIn a++bitsIn b:=by
 induction a with
 | nil=>rfl
 | cons x a ih =>
   show bitsIn (x :: (a++b))=bitsIn (x :: a)++bitsIn b
   rw[bitsIn_cons x (a++b),bitsIn_cons x a,ih];repeat' split
   all_goals rfl
theorem feed_len (l:List Bool):∀ d:De,(d.feed l).2.length<=l.length:=by
 induction l with
 | nil=>intro d;exact Nat.le_refl _
 | cons b l ih =>
   intro d;show ((d.bit b).2.toList++_).length<=_
   rw[List.length_append];have:=ih (d.bit b).1
   have h2:(d.bit b).2.toList.length<=1:=by cases (d.bit b).2 <;> simp
   simp only[List.length_cons];omega
theorem bitsIn_len (l:List UInt8):(bitsIn l).length<=l.length:=by
 induction l with
 | nil=>exact Nat.le_refl _
 | cons x l ih =>
   unfold bitsIn;repeat' split
   all_goals (simp only[List.length_cons];omega)
theorem d_feed (p:Nat) (d:De) (s:ByteArray) (hd:d.Fits) (ho:d.o<=100000000000000000) (hs:s.size<=10000000) (w0 w:World) (R:HP) (h:St w0 w (DeAt p d*R)) :
  Calls Tryz.prog 23 #[ptrD p,.string s] w fun e w'=>∃ v,e=.returned v/\St w0 w' (LAt TEv 2 Ev.cells v (d.feed (bitsIn s.data.toList)).2*(DeAt p (d.feed (bitsIn s.data.toList)).1*R)):=by
 obtain⟨n,hn⟩:∃ n,s.size=n:=⟨_,rfl⟩;rw[hn] at hs;have HN:=Lib.hid hn;obtain⟨Z,hZ⟩:∃ Z,d.feed (bitsIn s.data.toList)=Z:=⟨_,rfl⟩;rw[hZ];have HZ:=Lib.hid hZ;clear hZ;have h2:=h.l_nil TEv 2 Ev.cells;go_enter Tryz.func23,Tryz.ntmps23
 go_wp2;go_loopw [5,13] (fun s5 s13 wr=>∃ (k:Nat) (X:De × List Ev),k<=n/\s13=.int .i64 k/\Hid (d.feed (bitsIn (s.data.toList.take k))=X/\X.1.Fits/\X.1.o<=100000000000000010+k/\X.2.length<=k)/\St w0 wr (LAt TEv 2 Ev.cells s5 X.2*(DeAt p X.1*R))) (fun _ s13 _=>n - (intOf s13).toNat)
 case atStart=>exact⟨0,(d,[]),by omega,rfl,Lib.hid ⟨rfl,hd,by show d.o<=_;omega,Nat.le_refl _⟩,h2⟩
 case round =>
  clear h2 h;obtain⟨k,⟨X1,X2⟩,hk,rfl,HX,h3⟩:=hrel;by_cases hlt:k<n
  ·have hkn:(k:Int)<(n:Int):=by omega
   have hi:k<s.data.toList.length:=by have h1:s.data.size=n:=HN.out;rw[Array.length_toList,h1];exact hlt
   obtain⟨o,hoo⟩:∃ o,s.data.toList[k]=o:=⟨_,rfl⟩;have htk:s.data.toList.take (k+1)=s.data.toList.take k++[o]:=by rw[List.take_add_one,List.getElem?_eq_getElem hi,hoo];rfl
   have hx:∀ w,(Instr.index 9 (.string s) (.int .i64 (k:Int))).run Tryz.prog w=.ok (.int .u8 o.toNat) w:=fun w=>by
    have h1:=HN.out;rw[run_index_string (P:=Tryz.prog) w 9 s .i64 k Tryz.underlying9,dif_pos ⟨by omega,by omega⟩];have:s[(k:Int).toNat]'(by omega)=o:=hoo
    rw[this]
   have hib:=is_bit ⟨o.toNat,o.toNat_lt⟩;simp only[] at hib;obtain⟨x1,x2,x3,x4⟩:=HX.out;simp only[] at x2 x3 x4;have hsn:=feed_snoc d (bitsIn (s.data.toList.take k));rw[x1] at hsn;simp only[] at hsn;clear hoo hi hn;obtain⟨la,ca,rfl,_,_⟩:=h3.l_shape;by_cases hbit:o.toNat=49\/o.toNat=48
   ·obtain⟨b,hb⟩:∃ b:Bool,bch b=o:=by
     rcases hbit with e | e
     ·exact⟨true,by apply UInt8.toNat_inj.1;rw[e];rfl⟩
     ·exact⟨false,by apply UInt8.toNat_inj.1;rw[e];rfl⟩
    have hbi:bitsIn (s.data.toList.take (k+1))=bitsIn (s.data.toList.take k)++[b]:=by
     rw[htk,bitsIn_app,← hb];cases b <;> rfl
    have hsn2:=hsn b;rw[← hbi] at hsn2;have hc:=d_bit p X1 b (by omega) x2 w0 wr _ h3.f2;rw[show ((bch b).toNat:Int)=(o.toNat:Int) from by rw[hb]] at hc;have hfb:=fits_bit x2 b;have hob:=ones_bit X1 b;have hib2:(bits .or .u8 (o.toNat:Int) 1 != 49)=false:=by
     rw[hib];rcases hbit with e | e <;> simp[e]
    generalize X1.bit b=Y at *;obtain⟨Y1,Y2⟩:=Y;simp only[] at hc hsn2 hfb hob;clear hsn hib hbit hbi htk hb HX x1 x2 h3;cases Y2 with
    | none =>
      have HY:=Lib.hid (show d.feed (bitsIn (s.data.toList.take (k+1)))=(Y1,X2)/\Y1.Fits/\Y1.o<=100000000000000010+(k+1)/\X2.length<=k+1 from ⟨by rw[hsn2];simp,hfb,by omega,by omega⟩);clear hsn2 hfb hob;go_wp2_with fail
      refine hc.mono ?_
      rintro e w1 ⟨rfl,h4⟩;clear hc;have h5:=h4.alloc (.cells Ev.zero.cells.toArray TEv);go_upto_region 9 with fail
      generalize w1.alloc _=w2 at *;go_wp2;go_roundw
      case rel=>exact⟨k+1,(Y1,X2),by omega,by go_num,HY,h5.drop.f2⟩
      case measure=>simp[intOf];omega
    | some v =>
      have HY:=Lib.hid (show d.feed (bitsIn (s.data.toList.take (k+1)))=(Y1,X2++[v])/\Y1.Fits/\Y1.o<=100000000000000010+(k+1)/\(X2++[v]).length<=k+1 from ⟨by rw[hsn2];simp,hfb,by omega,by simp;omega⟩);obtain⟨vk,vs⟩:=v;have hX4:X2.length<=10000000:=by omega
      clear hsn2 hfb hob;go_wp2_with fail
      refine hc.mono ?_
      rintro e w1 ⟨rfl,h4⟩;clear hc;have h5:=h4.alloc (.cells #[.int .i64 vk,.string ⟨vs.toArray⟩] TEv);go_upto_region 10 with fail
      generalize w1.alloc _=w2 at *;generalize w1.heap.size=g2 at *;have c5:=h5.cell;have hA:=((h5.drop.f2).alloc (.cells #[.int .i64 vk,.string ⟨vs.toArray⟩] TEv)).drop;go_wp2_with (at_builtin;refine wp_append_elem rfl (.tmp 30) (.tmp 32) rfl tyEv hA ⟨vk,vs⟩ rfl _ rfl (new_cells _ [.int .i64 vk,.string ⟨vs.toArray⟩] _ _ (by simp)) (by omega) ?hk;(case' hk=>(intro g off cap w8 h8)))
      go_roundw
      case rel=>exact⟨k+1,(Y1,X2++[⟨vk,vs⟩]),by omega,by go_num,HY,h8⟩
      case measure=>simp[intOf];omega
   ·have hbi:bitsIn (s.data.toList.take (k+1))=bitsIn (s.data.toList.take k):=by
     rw[htk,bitsIn_app,bitsIn_cons,if_neg (fun e=>hbit (Or.inl (by rw[e];rfl))),if_neg (fun e=>hbit (Or.inr (by rw[e];rfl)))];simp[bitsIn]
    have hib2:(bits .or .u8 (o.toNat:Int) 1 != 49)=true:=by
     rw[hib];simp
     omega
    have HY:=Lib.hid (show d.feed (bitsIn (s.data.toList.take (k+1)))=(X1,X2)/\X1.Fits/\X1.o<=100000000000000010+(k+1)/\X2.length<=k+1 from ⟨by rw[hbi];exact x1,x2,by omega,by omega⟩);clear hsn hib hbit hbi htk HX x1 x2 x3 x4;go_wp2;go_roundw
    case rel=>exact⟨k+1,(X1,X2),by omega,by go_num,HY,h3⟩
    case measure=>simp[intOf];omega
  ·obtain rfl:k=n:=by omega
   have htk:s.data.toList.take k=s.data.toList:=List.take_of_length_le (by rw[Array.length_toList];exact Nat.le_of_eq hn);obtain⟨x1,_,_,_⟩:=HX.out;rw[htk,HZ.out] at x1;subst x1;clear htk HX;go_wp2;go_ret
   exact⟨_,rfl,h3⟩
end Go.Proofs.YtjcldoejpldcmaaGreatDoor
