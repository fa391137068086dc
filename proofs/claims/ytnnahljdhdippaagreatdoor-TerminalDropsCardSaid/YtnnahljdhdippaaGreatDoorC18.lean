/- Parts of a proof (DrawC, LayClone, DrawN, UserC, UserD, UserE). No condition. -/
import Derived.Test.YtnnahljdhdippaaGreatDoorC11
import Derived.Test.YtnnahljdhdippaaGreatDoorC15
import Derived.Shelf.Slices.Clone
import Derived.Ground.Names2Prog
import Derived.Test.YtnnahljdhdippaaGreatDoorProg
import Derived.Test.YtnnahljdhdippaaGreatDoorC14
import Derived.Test.YtnnahljdhdippaaGreatDoorC13
namespace Go.Proofs.YtnnahljdhdippaaGreatDoor
set_option maxRecDepth 100000
set_option maxHeartbeats 6400000
open Go.RowKit
abbrev encI (n:Int):List Value:=[.int .i64 n]
abbrev TSrc:TypeId:=111
theorem tyI:ETy Tryz.prog 108 3 1 8 encI :=
 ⟨Tryz.underlying108,⟨.int .i64 0,by kernel_rfl,rfl⟩,fun _=>rfl,fun b u hu=>by simp[encI] at hu;rcases hu with rfl;rfl,by decide,by decide⟩
section
variable {w0 w:World} {R:HP}
theorem St.l_rest {β:Type} {E:TypeId} {sz n:Nat} {enc:β->List Value} {b:β} {l:List β} {g off cap:Nat} (h:St w0 w (LAt E sz enc (.slice (some ⟨g,off,none⟩) n cap) (b :: l)*R)) (T:∀ b,(enc b).length=sz) :
  St w0 w (LAt E sz enc (.slice (if cap=1 then some ⟨g,off,none⟩ else some ⟨g,off+sz,none⟩) l.length (cap - 1)) l*R):=by
 by_cases hc1:cap=1
 ·subst hc1
  have hlen:n=(b :: l).length/\(b :: l).length<=1:=by
   obtain⟨a,cap,hv,h1,_⟩:=h.l_shape;simp only[Value.slice.injEq] at hv;obtain⟨_,rfl,rfl⟩:=hv;exact⟨rfl,h1⟩
  cases l with
  | nil=>exact h.drop.l_nil E sz enc _
  | cons c l=>simp at hlen
 rw[if_neg hc1];rcases h.row with ⟨a0,_,h0,_⟩ | ⟨g',off',cap',cur,hv,h1,h2,h3,h4,hs⟩
 ·simp at h0
 ·simp only[Value.slice.injEq,Option.some.injEq,Addr.mk.injEq] at hv
  obtain⟨⟨rfl,rfl,_⟩,hn,rfl⟩:=hv;obtain⟨c,rfl⟩:∃ c,cap=c+1:=⟨cap - 1,by simp at h1;omega⟩;have hl:=encs_len T l;refine St.row_mk (off:=off+sz) (cap:=c+1 - 1) hs hl (by simp at h1;omega) (by omega) (by rw[Nat.add_sub_cancel];rw[Nat.add_mul] at h3;omega) (fun j hj=>?_)
  have:=h4 (sz+j) (by rw[List.length_cons,Nat.add_mul];omega)
  rw[Nat.add_assoc,this,List.flatMap_cons,List.getElem?_append_right (by rw[T];omega),T,Nat.add_sub_cancel_left]
end
def DrAt (p:Nat) (d:Dr):HP:=hex fun v:Value=>blk p (.cells #[v,.int .u64 d.state] TSrc (0,0))*LAt 3 1 encI v d.first
section
variable {w0 w:World} {R:HP} {p:Nat} {d:Dr}
theorem St.dr_open (h:St w0 w (DrAt p d*R)):∃ v,St w0 w (blk p (.cells #[v,.int .u64 d.state] TSrc (0,0))*(LAt 3 1 encI v d.first*R)):=by
 obtain⟨b,h⟩:=h.ex;exact⟨b,h.eq (star_assoc _ _ _)⟩
theorem St.dr_shut {v:Value} (h:St w0 w (blk p (.cells #[v,.int .u64 d.state] TSrc (0,0))*(LAt 3 1 encI v d.first*R))):St w0 w (DrAt p d*R) :=
 St.mk_ex v (h.eq (star_assoc _ _ _).symm)
end
theorem u64_range (x:Int):0<=IntKind.u64.wrap x/\IntKind.u64.wrap x<18446744073709551616:=by
 show 0<=x % 18446744073709551616/\x % 18446744073709551616<18446744073709551616
 omega
theorem dr_next (p:Nat) (d:Dr) (w0 w:World) (R:HP) (h:St w0 w (DrAt p d*R)) (hno:d.no=false) :
  Calls Tryz.prog 76 #[ptr p] w fun e w'=>e=.returned (.int .i64 d.next.2)/\St w0 w' (DrAt p d.next.1*R):=by
 obtain⟨no,L,st⟩:=d;subst hno;obtain⟨v,h1⟩:=h.dr_open;simp only[] at h1;unfold Dr.next;rw[if_neg (show ¬ false=true by decide)];cases L with
 | nil =>
   obtain⟨a,cap,rfl,_,_⟩:=h1.f2.l_shape;have c:=h1.cell;have f:=h1.free;obtain⟨S,hS⟩:∃ S,IntKind.u64.wrap (IntKind.u64.wrap (st*6364136223846793005)+1442695040888963407)=S:=⟨_,rfl⟩;obtain⟨s0,s1⟩:=u64_range (IntKind.u64.wrap (st*6364136223846793005)+1442695040888963407);rw[hS] at s0 s1;simp only[List.length_nil] at *;simp only[hS];have wq:IntKind.i64.wrap (S / 281474976710656)=S / 281474976710656:=by rw[IntKind.wrap_i64];omega
   obtain⟨X,hX⟩:∃ X,S / 281474976710656=X:=⟨_,rfl⟩;rw[hX] at wq ⊢;go_enter Tryz.func76,Tryz.ntmps76
   go_upto_region 8 with fail
   have h2:=h1.set 1 (.int .u64 S);generalize w.setCell _ _=w2 at *;have c2:=h2.cell;clear c f h1 h;go_wp2;go_ret
   exact⟨rfl,St.dr_shut (d:=⟨false,[],S⟩) h2⟩
 | cons n L =>
   obtain⟨m,hm⟩:∃ m,L.length=m:=⟨_,rfl⟩;rcases h1.f2.l_cells tyI.len with ⟨h0,_⟩ | ⟨g,off,cap,rfl,hc,hc2,hcell⟩
   ·cases h0
   have d0:w.cell? ⟨g,off,none⟩=some (.int .i64 n):=hcell 0 _ rfl 0 _ rfl;rw[List.length_cons,hm] at hc h1;have c:=h1.cell;have f:=h1.free;obtain⟨X,hX⟩:∃ X,IntKind.u16.wrap n=X:=⟨_,rfl⟩;have x01:0<=X/\X<65536:=by rw[← hX];show 0<=n % 65536/\n % 65536<65536;omega
   have wq:IntKind.i64.wrap X=X:=by rw[IntKind.wrap_i64];omega
   simp only[hX];clear hcell;go_enter Tryz.func76,Tryz.ntmps76
   go_upto_region 6 with fail
   have h2:=(h1.set 0 (.slice (if cap=1 then some ⟨g,off,none⟩ else some ⟨g,off+1,none⟩) m (cap - 1))).f2.l_rest tyI.len;rw[hm] at h2;generalize w.setCell _ _=w2 at *;clear c f h1 h d0;have h3:St w0 w2 (DrAt p ⟨false,L,st⟩*R):=St.dr_shut (d:=⟨false,L,st⟩) h2.f2;clear h2;go_wp2;all_goals
    go_ret
    exact⟨rfl,h3⟩
open Go.Shelf
def layClone_ren:Go.Shelf.Ren:=⟨fun | 15=>36 | n=>n,fun | 22=>108 | 3=>3 | 4=>4 | n=>n,fun | n=>n⟩
theorem layClone:Go.Proofs.Lays2.n15 Tryz.prog layClone_ren:={
 mixed:=by kernel_rfl
 f15:=Tryz.func36.trans (congrArg some (by kernel_rfl))
 t3:=Tryz.underlying3
 a3:=Tryz.isAgg3
 z3:=Tryz.sizeOf3
 v3:=Tryz.zeroValue3
 t4:=Tryz.underlying4
 a4:=Tryz.isAgg4
 z4:=Tryz.sizeOf4
 v4:=Tryz.zeroValue4
 t22:=Tryz.underlying108
 a22:=Tryz.isAgg108
 z22:=Tryz.sizeOf108
 v22:=Tryz.zeroValue108
 i3:=by kernel_rfl }
open Go.RowKit Go.Lib Go.Shelf
section
variable {w0 W w':World} {A R:HP} {E:TypeId} {k n:Nat} {v:Value} {xs:List Value}
theorem St.row_own (h:St w0 W A) (hb:Below W.heap.size W w') (hr:w'.ownsRow W.heap.size E k v n xs):St w0 w' (Row E k v n xs*A):=by
 obtain⟨hl,hr⟩:=hr;rcases hr with ⟨rfl,rfl⟩ | ⟨gb,cap,cur,rfl,h1,h2,h3,h4,h5,h6⟩
 ·have:xs=[]:=List.eq_nil_of_length_eq_zero (by simpa using hl)
  subst this;exact (h.below hb (Nat.le_refl _)).row_nil E k
 ·have hs:St w0 w' (blk gb (.cells cur E (0,0))*A):=by
   obtain⟨o,t,u,g,hg,x⟩:=h;have hn:∀ j,W.heap.size<=j->g j=none:=by
    intro j hj;cases hgj:g j with
    | none=>rfl
    | some ob =>
      have:=(Array.getElem?_eq_some_iff.1 (hg j ob hgj)).1
      omega
   refine⟨hb.os.trans o,hb.tape.trans t,hb.output.trans u,hjoin (fun j=>if j=gb then some (.cells cur E (0,0)) else none) g,?_,_,g,?_,rfl,rfl,x⟩
   ·intro j ob hj
    unfold hjoin at hj;by_cases hk:j=gb
    ·simp[hk] at hj
     rw[hk,h2,hj]
    ·simp[hk] at hj
     have:=hg j ob hj
     rw[hb.block j (Array.getElem?_eq_some_iff.1 this).1];exact this
   ·intro j
    by_cases hk:j=gb
    ·right;exact hn j (by omega)
    ·left;simp[hk]
  refine St.row_mk (off:=0) hs hl h3 h4 (by omega) (fun j hj=>?_)
  rw[Nat.zero_add,← h6,List.getElem?_take_of_lt hj,Array.getElem?_toList]
end
theorem map_encI:∀ zs:List Int,zs.map (Value.int .i64)=zs.flatMap encI
 | []=>rfl
 | z :: zs=>by rw[List.map_cons,List.flatMap_cons,map_encI zs];rfl
theorem dr_new (seed:Int) (b off c:Nat) (zs:List Int) (n:Nat) (hn:zs.length=n) (w0 w:World) (R:HP) (h:St w0 w R) (hl:n<=1000000) (hc:∀ j,j<zs.length->w.cell? ⟨b,off+j,none⟩=some (.int .i64 (zs.getD j 0))) :
  Calls Tryz.prog 12 #[.int .u64 seed,.slice (some ⟨b,off,none⟩) n c] w fun e w'=>∃ p,e=.returned (ptr p)/\St w0 w' (DrAt p ⟨false,zs,seed⟩*R):=by
 have hcl:=Any.slices_Clone_int layClone b off n c zs w (by omega) (by omega) hc;have hcl:Calls Tryz.prog 36 #[.slice (some ⟨b,off,none⟩) n c] w fun e w'=>∃ v',e=.returned v'/\w'.ownsRow w.heap.size 3 1 v' n ((zs.take n).map (Value.int .i64))/\v'≠.slice none 0 0/\Below w.heap.size w w':=hcl
 have hm:(zs.take n).map (Value.int .i64)=zs.flatMap encI:=by
  rw[List.take_of_length_le (by omega),map_encI]
 rw[hm] at hcl;go_enter Tryz.func12,Tryz.ntmps12
 go_wp2_with fail
 refine hcl.mono ?_
 rintro e w5 ⟨v,rfl,hrow,_,hb⟩;have h2:St w0 w5 (LAt 3 1 encI v zs*R):=by
  unfold LAt;rw[hn];exact h.row_own hb hrow
 obtain⟨a,cap,rfl,_,_⟩:=h2.l_shape;have h3:=h2.alloc (.cells #[.slice a zs.length cap,.int .u64 seed] TSrc);rw[hn] at h3 hrow;clear hcl hrow hb hc hm;go_wp2;go_ret
 exact⟨_,rfl,St.dr_shut (d:=⟨false,zs,seed⟩) h3⟩
theorem dr_new0 (seed:Int) (w0 w:World) (R:HP) (h:St w0 w R) :
  Calls Tryz.prog 12 #[.int .u64 seed,.slice none 0 0] w fun e w'=>∃ p,e=.returned (ptr p)/\St w0 w' (DrAt p ⟨false,[],seed⟩*R):=by
 have hcl:=Any.slices_Clone_int_nil layClone 0 0 w;have hcl:Calls Tryz.prog 36 #[.slice none 0 0] w fun e w'=>e=.returned (.slice none 0 0)/\w'=w:=hcl
 have h2:=h.l_nil 3 1 encI;have h3:=h2.alloc (.cells #[.slice none 0 0,.int .u64 seed] TSrc);go_enter Tryz.func12,Tryz.ntmps12
 go_wp2_with fail
 refine hcl.mono ?_
 rintro e w5 ⟨rfl,rfl⟩;go_wp2;go_ret
 exact⟨_,rfl,St.dr_shut (d:=⟨false,[],seed⟩) h3⟩
def DrV (v:Value) (d:Dr):HP:=if d.no=true then fact (v=.pointer none) else hex fun p:Nat=>fact (v=ptr p)*DrAt p d
section
variable {w0 w:World} {R:HP} {v:Value} {d:Dr}
theorem St.dv_none (hd:d.no=true) (h:St w0 w R):St w0 w (DrV (.pointer none) d*R):=by
 unfold DrV;rw[if_pos hd];exact h.inn rfl
theorem St.dv_some {p:Nat} (hd:d.no=false) (h:St w0 w (DrAt p d*R)):St w0 w (DrV (ptr p) d*R):=by
 unfold DrV;rw[if_neg (by rw[hd];decide)];exact St.mk_ex p ((h.inn rfl).eq (star_assoc _ _ _).symm)
theorem St.dv_out (h:St w0 w (DrV v d*R)):(d.no=true/\v=.pointer none/\St w0 w R)\/(d.no=false/\∃ p,v=ptr p/\St w0 w (DrAt p d*R)):=by
 unfold DrV at h;cases hd:d.no with
 | true =>
   rw[if_pos hd] at h;obtain⟨hv,h⟩:=h.out;exact .inl ⟨rfl,hv,h⟩
 | false =>
   rw[if_neg (by rw[hd];decide)] at h;obtain⟨p,h⟩:=h.ex;obtain⟨hv,h⟩:=(h.eq (star_assoc _ _ _)).out;exact .inr ⟨rfl,p,hv,h⟩
end
theorem dr_no (d:Dr):d.next.1.no=d.no:=by
 unfold Dr.next;split
 ·rfl
 ·split <;> rfl
theorem dv_next (v:Value) (d:Dr) (w0 w:World) (R:HP) (h:St w0 w (DrV v d*R)) :
  Calls Tryz.prog 76 #[v] w fun e w'=>e=.returned (.int .i64 d.next.2)/\St w0 w' (DrV v d.next.1*R):=by
 rcases h.dv_out with ⟨hd,rfl,h1⟩ | ⟨hd,p,rfl,h1⟩
 ·have e1:d.next=(d,0):=by unfold Dr.next;rw[if_pos hd]
  rw[e1];have h2:=h1.dv_none hd;clear h h1 e1;go_enter Tryz.func76,Tryz.ntmps76
  go_wp2;go_ret
  exact⟨rfl,h2⟩
 ·refine (dr_next p d w0 w R h1 hd).mono ?_
  rintro e w1 ⟨rfl,h2⟩;exact⟨rfl,h2.dv_some ((dr_no d).trans hd)⟩
abbrev TUs:TypeId:=207
abbrev TUe:TypeId:=270
theorem tyUe:ETy Tryz.prog 188 TUe 5 40 Ue.cells :=
 ⟨Tryz.underlying188,⟨.agg #[.int .i64 0,.int .i64 0,.int .i64 0,.int .i64 0,.int .i64 0],by kernel_rfl,rfl⟩,fun _=>rfl,fun b u hu=>by simp[Ue.cells] at hu;rcases hu with rfl | rfl | rfl | rfl | rfl <;> rfl,by decide,by decide⟩
abbrev nextF (v:Value):Value:=.func (.func 76) #[v] #[]
def UsAt (u:Nat) (x:Us):HP:=hex fun v:Value=>blk u (.cells #[.int .i64 x.v.tei,.bool x.v.asking,.int .i64 x.v.ri,.int .i64 x.v.tries,.int .i64 x.most,nextF v] TUs (0,0))*DrV v x.d
section
variable {w0 w:World} {R:HP} {u:Nat} {x:Us}
theorem St.us_open (h:St w0 w (UsAt u x*R)):∃ v,St w0 w (blk u (.cells #[.int .i64 x.v.tei,.bool x.v.asking,.int .i64 x.v.ri,.int .i64 x.v.tries,.int .i64 x.most,nextF v] TUs (0,0))*(DrV v x.d*R)):=by
 obtain⟨b,h⟩:=h.ex;exact⟨b,h.eq (star_assoc _ _ _)⟩
theorem St.us_shut {v:Value} (h:St w0 w (blk u (.cells #[.int .i64 x.v.tei,.bool x.v.asking,.int .i64 x.v.ri,.int .i64 x.v.tries,.int .i64 x.most,nextF v] TUs (0,0))*(DrV v x.d*R))):St w0 w (UsAt u x*R) :=
 St.mk_ex v (h.eq (star_assoc _ _ _).symm)
end
def newUs (n:Int) (d:Dr):Us:=⟨.zero,max 1 (min n 32),d⟩
theorem u_new (n:Int) (v:Value) (d:Dr) (w0 w:World) (R:HP) (h:St w0 w (DrV v d*R)) :
  Calls Tryz.prog 34 #[.int .i64 n,v] w fun e w'=>∃ u,e=.returned (ptr u)/\St w0 w' (UsAt u (newUs n d)*R):=by
 have h3:=h.alloc (.cells #[.int .i64 (-1),.bool false,.int .i64 0,.int .i64 0,.int .i64 (max 1 (min n 32)),nextF v] TUs);rcases h.dv_out with ⟨hd,rfl,h1⟩ | ⟨hd,p,rfl,h1⟩
 ·go_enter Tryz.func34,Tryz.ntmps34
  go_wp2;go_ret
  exact⟨_,rfl,St.us_shut (x:=newUs n d) h3⟩
 ·go_enter Tryz.func34,Tryz.ntmps34
  go_wp2;go_ret
  exact⟨_,rfl,St.us_shut (x:=newUs n d) h3⟩
theorem u_said (t r a:Int) (w0 w:World) (R:HP) (h:St w0 w R) :
  Calls Tryz.prog 183 #[.int .i64 t,.int .i64 r,.int .i64 a] w fun e w'=>e=.returned (.agg (Ue.say t r a).cells.toArray)/\St w0 w' R:=by
 have h1:=h.alloc (.cells #[.int .i64 0,.int .i64 0,.int .i64 0,.int .i64 0,.int .i64 0] TUe);have c:=h1.cell;have f:=h1.free;go_enter Tryz.func183,Tryz.ntmps183
 go_upto_region 1 with fail
 generalize w.alloc _=wa at *;generalize w.heap.size=ga at *;have h9:=(((((h1.set 0 (.int .i64 0)).set 1 (.int .i64 t)).set 2 (.int .i64 r)).set 3 (.int .i64 a)).set 4 (.int .i64 0));go_wp2;have cr:=h9.cell;refine bodyPost_ret (v:=.agg #[.int .i64 0,.int .i64 t,.int .i64 r,.int .i64 a,.int .i64 0]) (by simp[results,Tryz.results183,go_sem,cr]) rfl ⟨rfl,h9.drop⟩
theorem u_ask (u:Nat) (x:Us) (t:Int) (w0 w:World) (R:HP) (h:St w0 w (UsAt u x*R)) :
  Calls Tryz.prog 130 #[ptr u,.int .i64 t] w fun e w'=>∃ l,e=.returned l/\St w0 w' (LAt TUe 5 Ue.cells l (x.ask t).2*(UsAt u (x.ask t).1*R)):=by
 obtain⟨v,h1⟩:=h.us_open;obtain⟨⟨a1,a2,a3,a4⟩,m,d⟩:=x;simp only[] at h1;have hn:=dv_next v d w0 w _ h1.f2;unfold Us.ask;simp only[];generalize d.next=D at *;obtain⟨d',n⟩:=D;simp only[] at *;have c:=h1.cell;have f:=h1.free;go_enter Tryz.func130,Tryz.ntmps130
 go_wp2_with fail
 refine hn.mono ?_
 rintro e w1 ⟨rfl,h2⟩;clear c f hn h1;have c:=h2.f2.cell;have f:=h2.f2.free;go_upto_region 2 with fail
 have h3:=((((h2.f2.set 0 (.int .i64 (-1))).set 1 (.bool true)).set 2 (.int .i64 n)).set 3 (.int .i64 t));generalize (((w1.setCell _ _).setCell _ _).setCell _ _).setCell _ _=w3 at *;clear c f h2 h;have c:=h3.cell;go_wp2_with fail
 refine (u_said 1 n 127 w0 _ _ h3).mono ?_
 rintro e w4 ⟨rfl,h4⟩;have h5:St w0 w4 (UsAt u ⟨⟨-1,true,n,t⟩,m,d'⟩*R):=St.us_shut (x:=⟨⟨-1,true,n,t⟩,m,d'⟩) (v:=v) h4;have h6:=(h5.alloc (.cells #[.int .i64 0,.int .i64 1,.int .i64 n,.int .i64 127,.int .i64 0,.int .i64 4,.int .i64 0,.int .i64 0,.int .i64 0,.int .i64 0] TUe)).l_mk tyUe.len [.say 1 n 127,.of 4 0] 2 rfl rfl (by decide);clear c h4 h5 h3;go_wp2;go_ret
 exact⟨_,rfl,h6⟩
theorem u_view (u:Nat) (x:Us) (w0 w:World) (R:HP) (h:St w0 w (UsAt u x*R)) :
  Calls Tryz.prog 53 #[ptr u] w fun e w'=>e=.returned (.agg x.v.cells.toArray)/\St w0 w' (UsAt u x*R):=by
 obtain⟨v,h1⟩:=h.us_open;obtain⟨⟨a1,a2,a3,a4⟩,m,d⟩:=x;simp only[] at h1;have h2:=h1.alloc (.cells #[.int .i64 0,.bool false,.int .i64 0,.int .i64 0] 63);have lt:=h1.lt;have c:=h2.cell;have f:=h2.free;have c2:=h2.f2.cell;go_enter Tryz.func53,Tryz.ntmps53
 go_upto_region 1 with fail
 generalize w.alloc _=wa at *;generalize w.heap.size=ga at *;have ne1:u≠ga:=by omega
 have ne2:ga≠u:=by omega
 have h9:=((((h2.set 0 (.int .i64 a1)).set 1 (.bool a2)).set 2 (.int .i64 a3)).set 3 (.int .i64 a4));clear h1 h;go_wp2;have cr:=h9.cell;refine bodyPost_ret (v:=.agg #[.int .i64 a1,.bool a2,.int .i64 a3,.int .i64 a4]) (by simp[results,Tryz.results53,go_sem,cr]) rfl ⟨rfl,St.us_shut (x:=⟨⟨a1,a2,a3,a4⟩,m,d⟩) (v:=v) h9.drop⟩
theorem u_lose (u:Nat) (x:Us) (w0 w:World) (R:HP) (h:St w0 w (UsAt u x*R)) :
  Calls Tryz.prog 134 #[ptr u] w fun e w'=>∃ l,e=.returned l/\St w0 w' (LAt TUe 5 Ue.cells l x.lose.2*(UsAt u x.lose.1*R)):=by
 obtain⟨v,h1⟩:=h.us_open;obtain⟨⟨a1,a2,a3,a4⟩,m,d⟩:=x;simp only[] at h1;have c:=h1.cell;have f:=h1.free;unfold Us.lose;go_enter Tryz.func134,Tryz.ntmps134
 go_upto_region 3 with fail
 have h3:=((((h1.set 0 (.int .i64 (-1))).set 1 (.bool false)).set 2 (.int .i64 0)).set 3 (.int .i64 0));generalize (((w.setCell _ _).setCell _ _).setCell _ _).setCell _ _=w3 at *;have h5:St w0 w3 (UsAt u ⟨.zero,m,d⟩*R):=St.us_shut (x:=⟨.zero,m,d⟩) (v:=v) h3;have h6:=(h5.alloc (.cells #[.int .i64 2,.int .i64 0,.int .i64 0,.int .i64 0,.int .i64 a1] TUe)).l_mk tyUe.len [.of 2 a1] 1 rfl rfl (by decide);clear c f h1 h3 h5 h;go_wp2;go_ret
 exact⟨_,rfl,h6⟩
theorem u_want (u:Nat) (x:Us) (w0 w:World) (R:HP) (h:St w0 w (UsAt u x*R)) :
  Calls Tryz.prog 91 #[ptr u] w fun e w'=>∃ l,e=.returned (.tuple #[l,.int .i64 x.want.2.2])/\St w0 w' (LAt TUe 5 Ue.cells l x.want.2.1*(UsAt u x.want.1*R)):=by
 have ha:=u_ask u x 1 w0 w R h;have h0:=h.l_nil TUe 5 Ue.cells;unfold Us.want;obtain⟨v,h1⟩:=h.us_open;obtain⟨⟨a1,a2,a3,a4⟩,m,d⟩:=x;simp only[] at h1;have c:=h1.cell;have f:=h1.free;simp only[];by_cases e1:a1= -1
 ·rw[if_neg (fun h=>h e1)]
  subst e1;cases a2 with
  | true =>
    rw[if_pos rfl];clear ha;go_enter Tryz.func91,Tryz.ntmps91
    go_wp2;go_ret2
    exact⟨_,rfl,h0⟩
  | false =>
    rw[if_neg (by decide)];clear h0 h;go_enter Tryz.func91,Tryz.ntmps91
    go_wp2_with fail
    refine ha.mono ?_
    rintro e w1 ⟨l,rfl,h2⟩;clear ha c f h1;go_wp2;go_ret2
    exact⟨_,rfl,h2⟩
 ·rw[if_pos e1]
  have q1:(a1 != -1)=true:=by simp[e1]
  clear ha e1;go_enter Tryz.func91,Tryz.ntmps91
  go_wp2;go_ret2
  exact⟨_,rfl,h0⟩
theorem u_drop (u:Nat) (x:Us) (w0 w:World) (R:HP) (h:St w0 w (UsAt u x*R)) :
  Calls Tryz.prog 67 #[ptr u] w fun e w'=>∃ l,e=.returned (.tuple #[l,.int .i64 x.drop.2.2])/\St w0 w' (LAt TUe 5 Ue.cells l x.drop.2.1*(UsAt u x.drop.1*R)):=by
 have ha:=u_lose u x w0 w R h;have h0:=h.l_nil TUe 5 Ue.cells;unfold Us.drop;obtain⟨v,h1⟩:=h.us_open;obtain⟨⟨a1,a2,a3,a4⟩,m,d⟩:=x;simp only[] at h1;have c:=h1.cell;have f:=h1.free;simp only[];cases a2 with
 | true =>
   rw[if_pos rfl];clear ha h0;go_enter Tryz.func67,Tryz.ntmps67
   go_upto_region 5 with fail
   have h3:=((((h1.set 0 (.int .i64 (-1))).set 1 (.bool false)).set 2 (.int .i64 0)).set 3 (.int .i64 0));generalize (((w.setCell _ _).setCell _ _).setCell _ _).setCell _ _=w3 at *;have h5:St w0 w3 (UsAt u ⟨.zero,m,d⟩*R):=St.us_shut (x:=⟨.zero,m,d⟩) (v:=v) h3;have h6:=(h5.alloc (.cells #[.int .i64 5,.int .i64 0,.int .i64 0,.int .i64 0,.int .i64 0] TUe)).l_mk tyUe.len [.of 5 0] 1 rfl rfl (by decide);clear c f h1 h3 h5 h;go_wp2;go_ret2
   exact⟨_,rfl,h6⟩
 | false =>
   rw[if_neg (by decide)];by_cases e1:a1= -1
   ·rw[if_pos e1]
    subst e1;clear ha;go_enter Tryz.func67,Tryz.ntmps67
    go_wp2;go_ret2
    exact⟨_,rfl,h0⟩
   ·rw[if_neg e1]
    have q1:(a1 == -1)=false:=by simp[e1]
    clear h0 h e1;go_enter Tryz.func67,Tryz.ntmps67
    go_wp2_with fail
    refine ha.mono ?_
    rintro e w1 ⟨l,rfl,h2⟩;clear ha c f h1;go_wp2;go_ret2
    exact⟨_,rfl,h2⟩
theorem u_timeout (u:Nat) (x:Us) (w0 w:World) (R:HP) (h:St w0 w (UsAt u x*R)) (hm:0<=x.v.tries/\x.v.tries<=1000) :
  Calls Tryz.prog 65 #[ptr u] w fun e w'=>∃ l,e=.returned l/\St w0 w' (LAt TUe 5 Ue.cells l x.timeout.2*(UsAt u x.timeout.1*R)):=by
 have ha:=fun w h=>u_ask u x (x.v.tries+1) w0 w R h
 have h0:=h.l_nil TUe 5 Ue.cells;unfold Us.timeout;obtain⟨v,h1⟩:=h.us_open;obtain⟨⟨a1,a2,a3,a4⟩,m,d⟩:=x;simp only[] at h1;have c:=h1.cell;have f:=h1.free;simp only[] at *;cases a2 with
 | false =>
   rw[if_pos rfl];clear ha;go_enter Tryz.func65,Tryz.ntmps65
   go_wp2;go_ret
   exact⟨_,rfl,h0⟩
 | true =>
   rw[if_neg (by decide)];by_cases e1:a4=m
   ·rw[if_pos e1]
    subst e1;clear ha h0;go_enter Tryz.func65,Tryz.ntmps65
    go_upto_region 3 with fail
    go_quiet (fail)
    have hd:=h1.drewN nq;clear c f;generalize w.drewN nq=wq at *;have c:=hd.cell;have f:=hd.free;go_upto_region 5 with fail
    have h3:=((((hd.set 0 (.int .i64 (-1))).set 1 (.bool false)).set 2 (.int .i64 0)).set 3 (.int .i64 0));generalize (((wq.setCell _ _).setCell _ _).setCell _ _).setCell _ _=w3 at *;have h5:St w0 w3 (UsAt u ⟨.zero,a4,d⟩*R):=St.us_shut (x:=⟨.zero,a4,d⟩) (v:=v) h3;have h6:=(h5.alloc (.cells #[.int .i64 3,.int .i64 0,.int .i64 0,.int .i64 0,.int .i64 0] TUe)).l_mk tyUe.len [.of 3 0] 1 rfl rfl (by decide);clear c f h1 h3 h5 h hd;go_wp2;go_ret
    exact⟨_,rfl,h6⟩
   ·rw[if_neg e1]
    have q1:(a4 == m)=false:=by simp[e1]
    have wq:IntKind.i64.wrap (a4+1)=a4+1:=by rw[IntKind.wrap_i64];omega
    clear h0 e1;go_enter Tryz.func65,Tryz.ntmps65
    go_upto_region 3 with fail
    go_quiet (fail)
    have hd:=h1.drewN nq;have hd2:=h.drewN nq;clear c f h h1;generalize w.drewN nq=wq at *;have c:=hd.cell;have f:=hd.free;go_wp2_with fail
    refine (ha _ hd2).mono ?_
    rintro e w1 ⟨l,rfl,h2⟩;clear ha c f hd hd2;go_wp2;go_ret
    exact⟨_,rfl,h2⟩
def kindU (t:Int):Int:=if t<0\/127<t then 0 else if t<64 then 1 else if t<=126 then 2 else 3
theorem k_kind (t:Int) (w:World):Calls Tryz.prog 182 #[.int .i64 t] w fun e w'=>e=.returned (.int .i64 (kindU t))/\w=w':=by
 unfold kindU;by_cases a:t<0
 ·rw[if_pos (.inl a)]
  go_enter Tryz.func182,Tryz.ntmps182
  go_wp2;go_ret
  exact⟨rfl,rfl⟩
 by_cases b:127<t
 ·rw[if_pos (.inr b)]
  go_enter Tryz.func182,Tryz.ntmps182
  go_wp2;go_ret
  exact⟨rfl,rfl⟩
 rw[if_neg (by omega)];have a':¬ t<0/\¬ 127<t:=⟨a,b⟩;have ha:decide (t<0)=false:=by simpa using a
 have hb:decide (127<t)=false:=by simpa using b
 by_cases c:t<64
 ·rw[if_pos c]
  go_enter Tryz.func182,Tryz.ntmps182
  go_wp2;go_ret
  exact⟨rfl,rfl⟩
 rw[if_neg c];by_cases d:t<=126
 ·rw[if_pos d]
  go_enter Tryz.func182,Tryz.ntmps182
  go_wp2;go_ret
  exact⟨rfl,rfl⟩
 rw[if_neg d];go_enter Tryz.func182,Tryz.ntmps182
 go_wp2;go_ret
 exact⟨rfl,rfl⟩
theorem kind_auto (t:Int):(kindU t == 2)=autoTei t:=by
 unfold kindU autoTei;by_cases a:t<0\/127<t
 ·rw[if_pos a]
  have:¬ (64<=t/\t<=126):=by omega
  simp at *
  omega
 ·rw[if_neg a]
  by_cases c:t<64
  ·rw[if_pos c]
   simp
   omega
  ·rw[if_neg c]
   by_cases d:t<=126
   ·rw[if_pos d]
    simp
    omega
   ·rw[if_neg d]
    simp
    omega
theorem u_message (u:Nat) (x:Us) (m:Tm) (w0 w:World) (R:HP) (h:St w0 w (UsAt u x*R)) :
  Calls Tryz.prog 111 #[ptr u,.agg m.cells.toArray] w fun e w'=>∃ l,e=.returned l/\St w0 w' (LAt TUe 5 Ue.cells l (x.message m).2*(UsAt u (x.message m).1*R)):=by
 obtain⟨v,h1⟩:=h.us_open;have h2:=h1.alloc (.cells #[.int .i64 m.ty,.int .i64 m.ri,.int .i64 m.ai] TTm);have hp:=m_put m w0 _ _ h2;have c2:=h2.cell;unfold Us.message;by_cases hb:m.bad=0
 ·rw[if_neg (fun h=>h hb)]
  rw[hb] at hp;obtain⟨ty,ri,ai⟩:=m;obtain⟨⟨a1,a2,a3,a4⟩,mo,d⟩:=x;simp only[Tm.cells] at *;generalize Tm.oct _=oc at *;obtain⟨M,hM⟩:∃ M,Us.mine ⟨⟨a1,a2,a3,a4⟩,mo,d⟩ ⟨ty,ri,ai⟩=M:=⟨_,rfl⟩;rw[hM];obtain⟨A,hA⟩:∃ A:Bool,decide (ty=2/\a2=true/\ri=a3/\autoTei ai=true)=A:=⟨_,rfl⟩;obtain⟨X,hX⟩:∃ X,(if ty=2/\a2=true/\ri=a3/\autoTei ai=true then ((⟨⟨ai,false,0,0⟩,mo,d⟩:Us),[Ue.of 5 0,.of 1 ai])
   else if (ty=2/\M=true/\ai=a1)\/(ty=6/\M=true) then Us.lose ⟨⟨a1,a2,a3,a4⟩,mo,d⟩
   else if ty=4/\M=true then (⟨⟨a1,a2,a3,a4⟩,mo,d.next.1⟩,[.say 5 d.next.2 a1])
   else (⟨⟨a1,a2,a3,a4⟩,mo,d⟩,[]))=X:=⟨_,rfl⟩
  show Calls _ _ _ _ (fun e w'=>∃ l,e=.returned l/\St w0 w' (LAt TUe 5 Ue.cells l (if ty=2/\a2=true/\ri=a3/\autoTei ai=true then ((⟨⟨ai,false,0,0⟩,mo,d⟩:Us),[Ue.of 5 0,.of 1 ai])
   else if (ty=2/\M=true/\ai=a1)\/(ty=6/\M=true) then Us.lose ⟨⟨a1,a2,a3,a4⟩,mo,d⟩
   else if ty=4/\M=true then (⟨⟨a1,a2,a3,a4⟩,mo,d.next.1⟩,[.say 5 d.next.2 a1])
   else (⟨⟨a1,a2,a3,a4⟩,mo,d⟩,[])).2*(UsAt u (if ty=2/\a2=true/\ri=a3/\autoTei ai=true then ((⟨⟨ai,false,0,0⟩,mo,d⟩:Us),[Ue.of 5 0,.of 1 ai])
   else if (ty=2/\M=true/\ai=a1)\/(ty=6/\M=true) then Us.lose ⟨⟨a1,a2,a3,a4⟩,mo,d⟩
   else if ty=4/\M=true then (⟨⟨a1,a2,a3,a4⟩,mo,d.next.1⟩,[.say 5 d.next.2 a1])
   else (⟨⟨a1,a2,a3,a4⟩,mo,d⟩,[])).1*R)))
  rw[hX];have HX:=Lib.hid hX;have HA:=Lib.hid hA;have HM:=Lib.hid hM;clear hX hA hM hb h;go_enter Tryz.func111,Tryz.ntmps111
  go_upto_region 1 with fail
  have lt1:=h1.lt;generalize w.alloc _=wa at *;generalize hgm:w.heap.size=gm at *;go_upto_region 2 with (go_at_call 145;refine hp.mono ?_;rintro e w5 ⟨rfl,h5⟩)
  clear c2 hp h2 h1;have c5:=h5.f2.cell;have lt2:=h5.lt;go_upto_region 5 with fail
  have h6:=h5.alloc (.cells #[.int .i64 a1,.bool a2,.int .i64 a3,.int .i64 a4] 63);generalize w5.alloc _=w6 at *;generalize hgv:w5.heap.size=gv at *;have ne1:gv≠gm:=by omega
  have ne2:gm≠gv:=by omega
  have ne3:gv≠u:=by omega
  have ne4:u≠gv:=by omega
  have ne5:gm≠u:=by omega
  have ne6:u≠gm:=by omega
  clear c5 h5;have c6:=h6.cell;have c7:=h6.f2.cell;go_cut [8] (fun s8 wx=>s8=.bool M/\w6=wx)
  case first =>
   have hm:M=(a1 != -1 && (ai == a1 || ai == 127)):=HM.out.symm;clear HX HA HM;by_cases e1:a1= -1
   ·have hmv:M=false:=by rw[hm,e1];rfl
    have q1:(a1 != -1)=false:=by simp[e1]
    clear hm e1;go_wp2;go_meet
    exact⟨by rw[hmv],rfl⟩
   ·have q1:(a1 != -1)=true:=by simp[e1]
    by_cases e2:ai=a1
    ·have q2:(ai == a1)=true:=by simp[e2]
     have hmv:M=true:=by rw[hm,q1,q2];rfl
     clear hm e1 e2;go_wp2;go_meet
     exact⟨by rw[hmv],rfl⟩
    ·have q2:(ai == a1)=false:=by simp[e2]
     by_cases e3:ai=127
     ·have q3:(ai == 127)=true:=by simp[e3]
      have hmv:M=true:=by rw[hm,q1,q2,q3];rfl
      clear hm e1 e2 e3;go_wp2;go_meet
      exact⟨by rw[hmv],rfl⟩
     ·have q3:(ai == 127)=false:=by simp[e3]
      have hmv:M=false:=by rw[hm,q1,q2,q3];rfl
      clear hm e1 e2 e3;go_wp2;go_meet
      exact⟨by rw[hmv],rfl⟩
  case rest =>
   obtain⟨rfl,rfl⟩:=hcut;have hk:=fun w=>k_kind ai w
   have hka:=kind_auto ai;go_upto_region 6 with fail
   go_cut [39] (fun s39 wx=>s39=.bool A/\w6=wx)
   case first =>
    have hA:=HA.out;clear HX HA HM;generalize kindU ai=K at *;by_cases e1:ty=2
    ·have q1:(ty == 2)=true:=by simp[e1]
     cases a2 with
     | false =>
       have hmv:A=false:=by rw[← hA];simp
       clear hA e1;go_wp2;go_meet
       exact⟨by rw[hmv],rfl⟩
     | true =>
       by_cases e2:ri=a3
       ·have q2:(ri == a3)=true:=by simp[e2]
        cases hu:autoTei ai with
        | true =>
          have hmv:A=true:=by rw[← hA];simp[e1,e2,hu]
          rw[hu] at hka;clear hA e1 e2 hu;go_wp2_with (go_at_call 182;refine (hk _).mono ?_;rintro e w8 ⟨rfl,rfl⟩)
          go_meet
          exact⟨by rw[hmv],rfl⟩
        | false =>
          have hmv:A=false:=by rw[← hA];simp[hu]
          rw[hu] at hka;clear hA e1 e2 hu;go_wp2_with (go_at_call 182;refine (hk _).mono ?_;rintro e w8 ⟨rfl,rfl⟩)
          go_meet
          exact⟨by rw[hmv],rfl⟩
       ·have q2:(ri == a3)=false:=by simp[e2]
        have hmv:A=false:=by rw[← hA];simp[e2]
        clear hA e1 e2;go_wp2;go_meet
        exact⟨by rw[hmv],rfl⟩
    ·have q1:(ty == 2)=false:=by simp[e1]
     have hmv:A=false:=by rw[← hA];simp[e1]
     clear hA e1;go_wp2;go_meet
     exact⟨by rw[hmv],rfl⟩
   case rest =>
    obtain⟨rfl,rfl⟩:=hcut;clear hk hka HM;cases A with
    | true =>
      have hc:=of_decide_eq_true HA.out;have hX:=(if_pos hc).symm.trans HX.out;subst hX;have c8:=h6.f3.cell;have f8:=h6.f3.free;clear hc HA HX;go_upto_region 8 with fail
      have h7:=((((h6.f3.set 0 (.int .i64 ai)).set 1 (.bool false)).set 2 (.int .i64 0)).set 3 (.int .i64 0));generalize (((w6.setCell _ _).setCell _ _).setCell _ _).setCell _ _=w7 at *;clear c6 c7 c8 f8 h6;have cm:=h7.b3.f2.cell;have h8:St w0 w7 (UsAt u ⟨⟨ai,false,0,0⟩,mo,d⟩*R):=St.us_shut (x:=⟨⟨ai,false,0,0⟩,mo,d⟩) (v:=v) h7.b3.drop.drop;have h9:=(h8.alloc (.cells #[.int .i64 5,.int .i64 0,.int .i64 0,.int .i64 0,.int .i64 0,.int .i64 1,.int .i64 0,.int .i64 0,.int .i64 0,.int .i64 ai] TUe)).l_mk tyUe.len [.of 5 0,.of 1 ai] 2 rfl rfl (by decide);clear h7 h8;go_wp2;go_ret
      exact⟨_,rfl,h9⟩
    | false =>
      have hc:=of_decide_eq_false HA.out;have hX:=(if_neg hc).symm.trans HX.out;clear hc HA HX;by_cases e2:ty=2
      ·subst e2
       cases M with
       | false =>
         have hX2:((⟨⟨a1,a2,a3,a4⟩,mo,d⟩:Us),([]:List Ue))=X:=by rw[← hX,if_neg (by simp),if_neg (by simp)]
         subst hX2;have h9:=(St.us_shut (x:=⟨⟨a1,a2,a3,a4⟩,mo,d⟩) h6.drop.drop).l_nil TUe 5 Ue.cells;clear hX;go_wp2;go_ret
         exact⟨_,rfl,h9⟩
       | true =>
         by_cases e3:ai=a1
         ·have q3:(ai == a1)=true:=by simp[e3]
          have HP:((2:Int)=2/\true=true/\ai=a1)\/((2:Int)=6/\true=true):=.inl ⟨rfl,rfl,e3⟩;clear e3;have hX2:=(if_pos HP).symm.trans hX;subst hX2;have hl:=u_lose u ⟨⟨a1,a2,a3,a4⟩,mo,d⟩ w0 w6 R (St.us_shut (x:=⟨⟨a1,a2,a3,a4⟩,mo,d⟩) h6.drop.drop);clear hX h6;go_wp2_with fail
          refine hl.mono ?_
          rintro e w8 ⟨l,rfl,h8⟩;clear hl c6 c7;go_wp2;go_ret
          exact⟨_,rfl,h8⟩
         ·have q3:(ai == a1)=false:=by simp[e3]
          have HP:¬ (((2:Int)=2/\true=true/\ai=a1)\/((2:Int)=6/\true=true)):=by simp[e3]
          clear e3;have hX2:((⟨⟨a1,a2,a3,a4⟩,mo,d⟩:Us),([]:List Ue))=X:=by rw[← hX,if_neg HP,if_neg (by simp)]
          subst hX2;have h9:=(St.us_shut (x:=⟨⟨a1,a2,a3,a4⟩,mo,d⟩) h6.drop.drop).l_nil TUe 5 Ue.cells;clear hX;go_wp2;go_ret
          exact⟨_,rfl,h9⟩
      ·by_cases e6:ty=6
       ·subst e6
        cases M with
        | false =>
          have hX2:((⟨⟨a1,a2,a3,a4⟩,mo,d⟩:Us),([]:List Ue))=X:=by rw[← hX,if_neg (by simp),if_neg (by simp)]
          subst hX2;have h9:=(St.us_shut (x:=⟨⟨a1,a2,a3,a4⟩,mo,d⟩) h6.drop.drop).l_nil TUe 5 Ue.cells;clear hX;go_wp2;go_ret
          exact⟨_,rfl,h9⟩
        | true =>
          have HP:((6:Int)=2/\true=true/\ai=a1)\/((6:Int)=6/\true=true):=.inr ⟨rfl,rfl⟩;have hX2:=(if_pos HP).symm.trans hX;subst hX2;have hl:=u_lose u ⟨⟨a1,a2,a3,a4⟩,mo,d⟩ w0 w6 R (St.us_shut (x:=⟨⟨a1,a2,a3,a4⟩,mo,d⟩) h6.drop.drop);clear hX h6;go_wp2_with fail
          refine hl.mono ?_
          rintro e w8 ⟨l,rfl,h8⟩;clear hl c6 c7;go_wp2;go_ret
          exact⟨_,rfl,h8⟩
       ·by_cases e4:ty=4
        ·subst e4
         cases M with
         | false =>
           have hX2:((⟨⟨a1,a2,a3,a4⟩,mo,d⟩:Us),([]:List Ue))=X:=by rw[← hX,if_neg (by simp),if_neg (by simp)]
           subst hX2;have h9:=(St.us_shut (x:=⟨⟨a1,a2,a3,a4⟩,mo,d⟩) h6.drop.drop).l_nil TUe 5 Ue.cells;clear hX;go_wp2;go_ret
           exact⟨_,rfl,h9⟩
         | true =>
           have hX2:=((if_neg (show ¬ (((4:Int)=2/\true=true/\ai=a1)\/((4:Int)=6/\true=true)) by simp)).symm.trans hX);have hX3:=((if_pos (show (4:Int)=4/\true=true from ⟨rfl,rfl⟩)).symm.trans hX2);subst hX3;have hn:=dv_next v d w0 w6.drew _ h6.f4.drew;obtain⟨D,hD⟩:∃ D,d.next=D:=⟨_,rfl⟩;rw[hD] at hn;obtain⟨d',n⟩:=D;have HD:=Lib.hid hD;simp only[] at hn;clear hX hX2 e2 e6 hD;have k1:w6.drew.cell? ⟨u,5,none⟩=some (nextF v):=(h6.f3.drew.cell 5).trans rfl;have k2:w6.drew.cell? ⟨gv,0,none⟩=some (.int .i64 a1):=(h6.drew.cell 0).trans rfl;go_upto_region 13 with fail
           clear c6 c7 h6;refine wp_region_held_drew (S:=fun wx=>wx.cell? ⟨u,5,none⟩=some (nextF v)/\wx.cell? ⟨gv,0,none⟩=some (.int .i64 a1)) (by kernel_rfl) ⟨k1,k2⟩ (fun hHeld=>?_)
           clear k1 k2;generalize w6.drew=wd at *;refine tk 0 ?_ rfl (fun w hSw=>?_) ?_
           rotate_left 1
           ·try dsimp only at hSw
            go_simp
            try with_reducible rfl
           try simp only[Act.put,sl]
           refine tk 1 ?_ rfl (fun w hSw=>?_) ?_
           rotate_left 1
           ·try dsimp only at hSw
            go_simp
            try with_reducible rfl
           try simp only[Act.put,sl]
           refine tk 2 ?_ rfl (fun w hSw=>?_) ?_
           rotate_left 1
           ·try dsimp only at hSw
            go_simp
            try with_reducible rfl
           try simp only[Act.put,sl]
           refine tk 3 ?_ rfl (fun w hSw=>?_) ?_
           rotate_left 1
           ·try dsimp only at hSw
            go_simp
            try with_reducible rfl
           try simp only[Act.put,sl]
           refine tk 5 ?_ rfl (fun w hSw=>?_) ?_
           rotate_left 1
           ·try dsimp only at hSw
            go_simp
            try with_reducible rfl
           try simp only[Act.put,sl]
           refine tk 6 ?_ rfl (fun w hSw=>?_) ?_
           rotate_left 1
           ·try dsimp only at hSw
            go_simp
            try with_reducible rfl
           try simp only[Act.put,sl]
           refine rd 4 rfl (fun K hK=>?_)
           go_simp
           go_at_call 76
           refine hn.mono ?_
           rintro e w8 ⟨rfl,h8⟩;clear hn;go_simp
           refine hK.out _ _ ⟨(h8.f4.cell 5).trans rfl,(h8.f2.cell 0).trans rfl⟩ (fun hHeld=>?_)
           clear hK K;try simp only[Act.put,sl]
           clear hHeld;refine rd 7 rfl (fun K hK=>?_)
           go_simp
           go_at_call 183
           refine (u_said 5 n a1 w0 _ _ h8).mono ?_
           rintro e w9 ⟨rfl,h9⟩;clear h8;have hu:=h9.f4;have h10:=h9.alloc (.cells #[.int .i64 0,.int .i64 5,.int .i64 n,.int .i64 a1,.int .i64 0] TUe);go_simp
           refine hK.out _ _ ⟨(h9.f4.cell 5).trans rfl,(h9.f2.cell 0).trans rfl⟩ (fun hHeld=>?_)
           clear hK K;try simp only[Act.put,sl]
           refine rd 8 rfl (fun K hK=>?_)
           go_simp
           go_simp
           refine hK.out _ _ ⟨(h10.f5.cell 5).trans rfl,(h10.f3.cell 0).trans rfl⟩ (fun hHeld=>?_)
           clear hK K;try simp only[Act.put,sl]
           refine tk 9 ?_ rfl (fun w hSw=>?_) ?_
           rotate_left 1
           ·try dsimp only at hSw
            go_simp
            try with_reducible rfl
           try simp only[Act.put,sl]
           refine wpAnyH_done (by kernel_rfl) ?_ _
           have hus:St w0 w9 (UsAt u ⟨⟨a1,a2,a3,a4⟩,mo,d'⟩*R):=(St.us_shut (x:=⟨⟨a1,a2,a3,a4⟩,mo,d'⟩) (v:=v) hu).b3.drop.drop;have h12:=(hus.alloc (.cells #[.int .i64 0,.int .i64 5,.int .i64 n,.int .i64 a1,.int .i64 0] TUe)).l_mk tyUe.len [.say 5 n a1] 1 rfl rfl (by decide);clear h10 h9 hu hus;go_wp2;go_ret
           refine⟨_,rfl,?_⟩
           rw[HD.out];exact h12
        ·have q2:(ty == 2)=false:=by simp[e2]
         have q6:(ty == 6)=false:=by simp[e6]
         have q4:(ty == 4)=false:=by simp[e4]
         have HP:¬ ((ty=2/\M=true/\ai=a1)\/(ty=6/\M=true)):=by simp[e2,e6]
         have HQ:¬ (ty=4/\M=true):=by simp[e4]
         clear e2 e4 e6;have hX2:((⟨⟨a1,a2,a3,a4⟩,mo,d⟩:Us),([]:List Ue))=X:=by rw[← hX,if_neg HP,if_neg HQ]
         subst hX2;have h9:=(St.us_shut (x:=⟨⟨a1,a2,a3,a4⟩,mo,d⟩) h6.drop.drop).l_nil TUe 5 Ue.cells;clear hX;go_wp2;go_ret
         exact⟨_,rfl,h9⟩
 ·rw[if_pos hb]
  have q:(m.bad != 0)=true:=by simp[hb]
  generalize m.bad=bd at *;obtain⟨ty,ri,ai⟩:=m;simp only[Tm.cells] at *;generalize Tm.oct _=oc at *;clear hb h;go_enter Tryz.func111,Tryz.ntmps111
  go_upto_region 1 with fail
  generalize w.alloc _=wa at *;generalize w.heap.size=gm at *;go_wp2_with (go_at_call 145;refine hp.mono ?_;rintro e w5 ⟨rfl,h5⟩)
  have h6:=(St.us_shut (x:=x) h5.drop).l_nil TUe 5 Ue.cells;go_ret
  exact⟨_,rfl,h6⟩
end Go.Proofs.YtnnahljdhdippaaGreatDoor
