/- Parts of a proof (List, HdlcP, Bits, Oct, FcsC, Queue, QueueRef). No condition. -/
import Derived.Test.YtnnahljdhdippaaGreatDoorC1
import Derived.Deep.RegionLaw
import Derived.Test.YtnnahljdhdippaaGreatDoorProg
import Derived.Laws.IdiomStrings
namespace Go.Proofs.YtnnahljdhdippaaGreatDoor
set_option maxRecDepth 100000
set_option maxHeartbeats 6400000
open Go.RowKit
def LAt {β:Type} (E:TypeId) (sz:Nat) (enc:β->List Value) (v:Value) (l:List β):HP:=Row E sz v l.length (l.flatMap enc)
structure ETy (P:Program) (t E:TypeId) (sz bytes:Nat) {β:Type} (enc:β->List Value):Prop where
 ht:P.underlying t=some (.slice E)
 info:∃ z,(P.info? E).map (fun i=>(i.zero,i.size,i.bytes))=some (some z,sz,bytes)/\z.cells.size=sz
 len:∀ b,(enc b).length=sz
 one:∀ b,∀ u ∈ enc b,u.oneCell'=true
 pos:0<sz
 bpos:0<bytes
section
variable {β:Type} {P:Program} {w0 w:World} {R:HP} {t E:TypeId} {sz bytes:Nat} {enc:β->List Value} {v:Value} {l:List β}
theorem encs_len (T:∀ b,(enc b).length=sz):∀ l:List β,(l.flatMap enc).length=l.length*sz
 | []=>by simp
 | b :: l=>by rw[List.flatMap_cons,List.length_append,encs_len T l,T b,List.length_cons,Nat.add_mul,Nat.one_mul,Nat.add_comm]
theorem encs_at (T:∀ b,(enc b).length=sz):∀ (l:List β) (i:Nat) (b:β) (j:Nat),l[i]?=some b->j<sz->(l.flatMap enc)[i*sz+j]?=(enc b)[j]?
 | [],_,_,_,h,_=>by simp at h
 | c :: l,0,b,j,h,hj=>by
   simp at h
   subst h;rw[List.flatMap_cons,Nat.zero_mul,Nat.zero_add,List.getElem?_append_left (by rw[T];exact hj)]
 | c :: l,i+1,b,j,h,hj=>by
   rw[List.flatMap_cons,List.getElem?_append_right (by rw[T,Nat.add_mul];omega),T];rw[← encs_at T l i b j (by simpa using h) hj];congr 1
   rw[Nat.add_mul];omega
theorem St.l_nil (E:TypeId) (sz:Nat) (enc:β->List Value) (h:St w0 w R) (a:Option Addr:=none):St w0 w (LAt E sz enc (.slice a 0 0) []*R):=h.row_nil E sz a
theorem St.l_shape (h:St w0 w (LAt E sz enc v l*R)):∃ a cap,v=.slice a l.length cap/\l.length<=cap/\cap<=maxLen:=h.row_shape
theorem St.l_mk {g:Nat} {cs:Array Value} (h:St w0 w (blk g (.cells cs E (0,0))*R)) (T:∀ b,(enc b).length=sz) (l:List β) (n:Nat) (hn:n=l.length) (hc:cs=(l.flatMap enc).toArray) (hm:n<=maxLen):St w0 w (LAt E sz enc (.slice (some ⟨g,0,none⟩) n n) l*R):=by
 subst hc hn;have hl:=encs_len T l;refine St.row_mk h hl (Nat.le_refl _) hm (by simp[hl]) (fun j hj=>?_)
 rw[Nat.zero_add,List.getElem?_toArray]
theorem St.l_cells (h:St w0 w (LAt E sz enc v l*R)) (T:∀ b,(enc b).length=sz):(l=[]/\∃ a,v=.slice a 0 0)\/∃ g off cap,v=.slice (some ⟨g,off,none⟩) l.length cap/\l.length<=cap/\cap<=maxLen /\
  ∀ i b,l[i]?=some b->∀ j u,(enc b)[j]?=some u->w.cell? ⟨g,off+i*sz+j,none⟩=some u:=by
 rcases h.row with ⟨a0,hv,h0,_⟩ | ⟨g,off,cap,cur,rfl,h1,h2,h3,h4,hs⟩
 ·exact .inl ⟨List.eq_nil_of_length_eq_zero h0,a0,hv⟩
 ·refine .inr ⟨g,off,cap,rfl,h1,h2,fun i b hi j u hu=>?_⟩
  have hj:j<sz:=by rw[← T b];exact (List.getElem?_eq_some_iff.1 hu).1
  have hil:i<l.length:=(List.getElem?_eq_some_iff.1 hi).1;have:i*sz+j<l.length*sz:=by
   have:=Nat.mul_le_mul_right sz (show i+1<=l.length from hil)
   rw[Nat.add_mul] at this;omega
  rw[Nat.add_assoc,h.row_cell _ this,encs_at T l i b j hi hj,hu]
theorem new_cells (w:World) (cs:List Value) (t:TypeId) (g:Nat) (hg:g=w.heap.size) (j:Nat) (u:Value) (h:cs[j]?=some u):(w.alloc (.cells cs.toArray t)).cell? ⟨g,j,none⟩=some u:=by
 subst hg;simp[h]
theorem wp_append_elem {ops:Array Oper} {rest:List Oper} {o:Oper} {a:Act} {Q:Exit->Act->World->Prop} (hgd:o.guard=none) (s x:Operand)
  (ho:o.op=.call { callee:=.builtin .append,args:=#[s,x],argTypes:=#[t,t] })
  (T:ETy P t E sz bytes enc) (h:St w0 w (LAt E sz enc v l*R)) (b:β)
  (hs:a.eval s=v) (g:Nat) (hx:a.eval x=.slice (some ⟨g,0,none⟩) 1 1) (hc:∀ j u,(enc b)[j]?=some u->w.cell? ⟨g,j,none⟩=some u)
  (hbytes:(l.length+1)*bytes<=140737488355328)
  (hk:∀ g off cap w',St w0 w' (LAt E sz enc (.slice (some ⟨g,off,none⟩) (l.length+1) cap) (l++[b])*R)->wpList P ops Q rest (a.put o.dst (.slice (some ⟨g,off,none⟩) (l.length+1) cap)) w'):wpList P ops Q (o :: rest) a w:=by
 obtain⟨z,hi,hz⟩:=T.info;obtain⟨i0,hi,hz0,hz1,hz2⟩:=info_parts hi;have hb:=T.bpos;have h63:l.length+1<=maxLen:=by
  have:(l.length+1)*1<=(l.length+1)*bytes:=Nat.mul_le_mul_left _ hb
  unfold maxLen;omega
 refine wpList_append_row hgd s x t ho h T.ht hi hz0 hz1 hz2 hz T.pos hs ⟨g,0,none⟩ 1 1 (enc b) hx (by decide) (by rw[T.len,Nat.one_mul]) (fun j u hu=>?_) (T.one b) h63 hbytes (fun g off cap w' h'=>hk g off cap w' ?_)
 ·rw[add_none,Nat.zero_add]
  exact hc j u hu
 ·have e:l.flatMap enc++enc b=(l++[b]).flatMap enc:=by simp
  unfold LAt;rw[List.length_append,List.length_singleton,← e];exact h'
theorem wp_append_l {o:Oper} {a:Act} {K:Act->World->Prop} {Q:Exit->Act->World->Prop} (s x:Operand)
  (ho:o.op=.call { callee:=.builtin .append,args:=#[s,x],argTypes:=#[t,t] })
  (T:ETy P t E sz bytes enc) {v2:Value} {l2:List β} (h:St w0 w (LAt E sz enc v l*(LAt E sz enc v2 l2*R))) (hne:l2≠[])
  (hs:a.eval s=v) (hx:a.eval x=v2) (hbytes:(l.length+l2.length)*bytes<=140737488355328)
  (hk:∀ g off cap w',St w0 w' (LAt E sz enc (.slice (some ⟨g,off,none⟩) (l.length+l2.length) cap) (l++l2)*R)->K (a.put o.dst (.slice (some ⟨g,off,none⟩) (l.length+l2.length) cap)) w'):o.wp P a w K Q:=by
 obtain⟨z,hi,hz⟩:=T.info;obtain⟨i0,hi,hz0,hz1,hz2⟩:=info_parts hi;have hb:=T.bpos;have hm:0<l2.length:=by cases l2 with | nil=>exact absurd rfl hne | cons _ _=>simp
 have h63:l.length+l2.length<=maxLen:=by
  have:(l.length+l2.length)*1<=(l.length+l2.length)*bytes:=Nat.mul_le_mul_left _ hb
  unfold maxLen;omega
 rcases h.f2.row with ⟨a0,_,h0,_⟩ | ⟨g2,off2,cap2,cur,rfl,h1,h2,h3,h4,hs2⟩
 ·omega
 have hrow:=h.f2;refine wp_append_row s x t ho h T.ht hi hz0 hz1 hz2 hz T.pos hs ⟨g2,off2,none⟩ l2.length cap2 (l2.flatMap enc) hx hm (encs_len T.len l2) (fun j u hu=>?_) (fun u hu=>?_) h63 hbytes (fun g off cap w' h'=>hk g off cap w' ?_)
 ·rw[add_none]
  have hj:j<l2.length*sz:=by rw[← encs_len T.len l2];exact (List.getElem?_eq_some_iff.1 hu).1
  have:=hrow.row_cell j hj
  rw[this,hu]
 ·obtain⟨b,hb,hu'⟩:=List.mem_flatMap.1 hu
  exact T.one b u hu'
 ·have e:l.flatMap enc++l2.flatMap enc=(l++l2).flatMap enc:=by simp
  have h'':=h'.f2.drop;unfold LAt;rw[List.length_append,← e];exact h''
theorem step_append_l {ops:Array Oper} {o:Oper} {a:Act} {K:Act->World->Prop} {Q:Exit->Act->World->Prop} {F:Prop} (hg:o.guard=none) (s x:Operand)
  (ho:o.op=.call { callee:=.builtin .append,args:=#[s,x],argTypes:=#[t,t] })
  (T:ETy P t E sz bytes enc) {v2:Value} {l2:List β} (h:St w0 w (LAt E sz enc v l*(LAt E sz enc v2 l2*R))) (hne:l2≠[])
  (hs:a.eval s=v) (hx:a.eval x=v2) (hbytes:(l.length+l2.length)*bytes<=140737488355328)
  (hk:∀ g off cap w',St w0 w' (LAt E sz enc (.slice (some ⟨g,off,none⟩) (l.length+l2.length) cap) (l++l2)*R)->K (a.put o.dst (.slice (some ⟨g,off,none⟩) (l.length+l2.length) cap)) w') :
  if Region.wanted o (yielded ops a.tmps)=true then Oper.wp P o a w K Q else F:=by
 have hw:Region.wanted o (yielded ops a.tmps)=true:=by simp[Region.wanted,hg]
 rw[if_pos hw];exact wp_append_l s x ho T h hne hs hx hbytes hk
end
def octBits (o:UInt8):List Bool:=[o.toNat.testBit 0,o.toNat.testBit 1,o.toNat.testBit 2,o.toNat.testBit 3,o.toNat.testBit 4,o.toNat.testBit 5,o.toNat.testBit 6,o.toNat.testBit 7]
def ofBits (s:List UInt8):List Bool:=s.flatMap octBits
def bitN (b:Bool):Nat:=if b=true then 1 else 0
def octs:List Bool->List UInt8
 | a :: b :: c :: d :: e :: f :: g :: h :: l=>UInt8.ofNat (bitN a+2*bitN b+4*bitN c+8*bitN d+16*bitN e+32*bitN f+64*bitN g+128*bitN h) :: octs l
 | _=>[]
theorem octs_one:∀ o:UInt8,octs (octBits o)=[o]:=by
 intro o;have:∀ n:Fin 256,octs (octBits (UInt8.ofNat n))=[UInt8.ofNat n]:=by decide +kernel
 have h:=this ⟨o.toNat,o.toNat_lt⟩;rw[show UInt8.ofNat (⟨o.toNat,o.toNat_lt⟩:Fin 256)=o from by simp] at h;exact h
theorem octs_app (o:UInt8) (l:List Bool):octs (octBits o++l)=o :: octs l:=by
 have h:=octs_one o;unfold octBits at h ⊢;simp only[octs,List.cons_append,List.nil_append,List.cons.injEq,and_true] at h ⊢;exact h
theorem octs_of (s:List UInt8):octs (ofBits s)=s:=by
 induction s with
 | nil=>rfl
 | cons o s ih =>
   show octs (octBits o++ofBits s)=_
   rw[octs_app,ih]
theorem ofBits_len (s:List UInt8):(ofBits s).length=8*s.length:=by
 induction s with
 | nil=>rfl
 | cons o s ih =>
   show (octBits o++ofBits s).length=_
   rw[List.length_append,ih,List.length_cons];show 8+_=_
   omega
def stuffK:List Bool->Nat->List Bool
 | [],_=>[]
 | true :: l,n=>if n=4 then true :: false :: stuffK l 0 else true :: stuffK l (n+1)
 | false :: l,_=>false :: stuffK l 0
abbrev flagB:List Bool:=[false,true,true,true,true,true,true,false]
def encB (s:List UInt8):List Bool:=flagB++stuffK (ofBits s) 0++flagB
structure De where
 c:List Bool
 w:Bool
 o:Nat
structure Ev where
 kind:Int
 s:List UInt8
def De.flag (d:De):De × Option Ev :=
 if d.w=false\/d.c.length<=6 then (⟨[],true,0⟩,none)
 else if 2128<d.c.length - 6\/(d.c.length - 6) % 8≠0 then (⟨[],true,0⟩,some ⟨2,[]⟩)
 else (⟨[],true,0⟩,some ⟨0,octs (d.c.take (d.c.length - 6))⟩)
def De.put (d:De) (b:Bool):De:=if d.w=true/\d.o<=5/\d.c.length<=2134 then { d with c:=d.c++[b] } else d
def De.bit (d:De) (b:Bool):De × Option Ev :=
 if b=true then
  if d.o+1=7/\d.w=true then (⟨[],false,7⟩,some ⟨1,[]⟩)
  else (De.put { d with o:=d.o+1 } true,none)
 else if 5<=d.o then (if d.o=6 then d.flag else ({ d with o:=0 },none))
 else (De.put { d with o:=0 } false,none)
def De.feed:De->List Bool->De × List Ev
 | d,[]=>(d,[])
 | d,b :: l=>((De.feed (d.bit b).1 l).1,(d.bit b).2.toList++(De.feed (d.bit b).1 l).2)
theorem feed_app (a b:List Bool):∀ d:De,d.feed (a++b)=(((d.feed a).1.feed b).1,(d.feed a).2++((d.feed a).1.feed b).2):=by
 induction a with
 | nil=>intro d;rfl
 | cons x a ih =>
   intro d;show ((De.feed (d.bit x).1 (a++b)).1,(d.bit x).2.toList++(De.feed (d.bit x).1 (a++b)).2)=_
   rw[ih];simp only[De.feed,List.append_assoc]
theorem feed_stuff (l:List Bool):∀ (c:List Bool) (n:Nat),n<5->c.length+l.length<=2128->∃ m,m<5/\De.feed ⟨c,true,n⟩ (stuffK l n)=(⟨c++l,true,m⟩,[]):=by
 induction l with
 | nil =>
   intro c n hn _;exact⟨n,hn,by rw[List.append_nil];rfl⟩
 | cons b l ih =>
   intro c n hn hl;rw[List.length_cons] at hl;cases b with
   | true =>
     have hb:De.bit ⟨c,true,n⟩ true=(⟨c++[true],true,n+1⟩,none):=by
      unfold De.bit De.put;rw[if_pos rfl,if_neg (show ¬ (n+1=7/\true=true) by omega),if_pos ⟨rfl,by show n+1<=5;omega,by show c.length<=2134;omega⟩]
     unfold stuffK;by_cases h4:n=4
     ·subst h4
      rw[if_pos rfl];have hz:De.bit ⟨c++[true],true,5⟩ false=(⟨c++[true],true,0⟩,none):=by
       unfold De.bit;rw[if_neg (by decide),if_pos (show 5<=5 by decide),if_neg (show ¬ 5=6 by decide)]
      obtain⟨m,hm,e⟩:=ih (c++[true]) 0 (by decide) (by rw[List.length_append,List.length_singleton];omega);refine⟨m,hm,?_⟩
      simp only[De.feed,hb,hz,e,Option.toList_none,List.nil_append,List.append_assoc,List.singleton_append]
     ·rw[if_neg h4]
      obtain⟨m,hm,e⟩:=ih (c++[true]) (n+1) (by omega) (by rw[List.length_append,List.length_singleton];omega);refine⟨m,hm,?_⟩
      simp only[De.feed,hb,e,Option.toList_none,List.nil_append,List.append_assoc,List.singleton_append]
   | false =>
     have hb:De.bit ⟨c,true,n⟩ false=(⟨c++[false],true,0⟩,none):=by
      unfold De.bit De.put;rw[if_neg (by decide),if_neg (show ¬ 5<=n by omega),if_pos ⟨rfl,by show 0<=5;omega,by show c.length<=2134;omega⟩]
     unfold stuffK;obtain⟨m,hm,e⟩:=ih (c++[false]) 0 (by decide) (by rw[List.length_append,List.length_singleton];omega);refine⟨m,hm,?_⟩
     simp only[De.feed,hb,e,Option.toList_none,List.nil_append,List.append_assoc,List.singleton_append]
theorem bit_one {c:List Bool} {n:Nat} (hn:n<5) (hc:c.length<=2134):De.bit ⟨c,true,n⟩ true=(⟨c++[true],true,n+1⟩,none):=by
 unfold De.bit De.put;rw[if_pos rfl,if_neg (show ¬ (n+1=7/\true=true) by omega),if_pos ⟨rfl,by show n+1<=5;omega,hc⟩]
theorem feed_flag (c:List Bool) (n:Nat) (hn:n<5) (hc:c.length<=2128) (h0:0<c.length) (h8:c.length % 8=0):De.feed ⟨c,true,n⟩ flagB=(⟨[],true,0⟩,[⟨0,octs c⟩]):=by
 have e0:De.bit ⟨c,true,n⟩ false=(⟨c++[false],true,0⟩,none):=by
  unfold De.bit De.put;rw[if_neg (by decide),if_neg (show ¬ 5<=n by omega),if_pos ⟨rfl,by show 0<=5;omega,by show c.length<=2134;omega⟩]
 have l1:(c++[false]).length=c.length+1:=by simp
 have e1:=bit_one (c:=c++[false]) (n:=0) (by decide) (by omega);have l2:(c++[false]++[true]).length=c.length+2:=by simp
 have e2:=bit_one (c:=c++[false]++[true]) (n:=1) (by decide) (by omega);have l3:(c++[false]++[true]++[true]).length=c.length+3:=by simp
 have e3:=bit_one (c:=c++[false]++[true]++[true]) (n:=2) (by decide) (by omega);have l4:(c++[false]++[true]++[true]++[true]).length=c.length+4:=by simp
 have e4:=bit_one (c:=c++[false]++[true]++[true]++[true]) (n:=3) (by decide) (by omega);have l5:(c++[false]++[true]++[true]++[true]++[true]).length=c.length+5:=by simp
 have e5:=bit_one (c:=c++[false]++[true]++[true]++[true]++[true]) (n:=4) (by decide) (by omega);obtain⟨k,hk⟩:∃ k,c++[false]++[true]++[true]++[true]++[true]++[true]=k:=⟨_,rfl⟩;have l6:k.length=c.length+6:=by rw[← hk];simp
 have t6:k.take c.length=c:=by
  rw[← hk];simp only[List.append_assoc];exact List.take_left
 have e6:De.bit ⟨k,true,5⟩ true=(⟨k,true,6⟩,none):=by
  unfold De.bit De.put;rw[if_pos rfl,if_neg (show ¬ (5+1=7/\true=true) by decide),if_neg (fun h=>by have:6<=5:=h.2.1;omega)]
 have e7:De.bit ⟨k,true,6⟩ false=(⟨[],true,0⟩,some ⟨0,octs c⟩):=by
  unfold De.bit De.flag;rw[if_neg (by decide),if_pos (show 5<=6 by decide),if_pos rfl,if_neg (fun h=>by
   rcases h with h | h
   ·cases h
   ·have:k.length<=6:=h
    omega),if_neg (by
   show ¬ (2128<k.length - 6\/(k.length - 6) % 8≠0)
   omega)]
  show (_,some (⟨0,octs (k.take (k.length - 6))⟩:Ev))=_
  rw[show k.length - 6=c.length by omega,t6]
 rw[hk] at e5;simp only[De.feed,e0,e1,e2,e3,e4,e5,e6,e7,Nat.zero_add,Nat.reduceAdd,Option.toList_none,Option.toList_some,List.nil_append,List.append_nil]
abbrev De.new:De:=⟨[],false,0⟩
theorem feed_new:De.new.feed flagB=(⟨[],true,0⟩,[]):=rfl
theorem feed_enc (s:List UInt8) (h0:s≠[]) (h1:s.length<=266):De.new.feed (encB s)=(⟨[],true,0⟩,[⟨0,s⟩]):=by
 have hl:=ofBits_len s;have h2:0<s.length:=List.length_pos_iff.2 h0;unfold encB;rw[feed_app,feed_app,feed_new];obtain⟨m,hm,e⟩:=feed_stuff (ofBits s) [] 0 (by decide) (by rw[List.length_nil];omega);dsimp only;rw[e];dsimp only;rw[List.nil_append,feed_flag (ofBits s) m hm (by omega) (by omega) (by omega),octs_of];rfl
abbrev pairC (l:List (Int × Int)):List Value:=l.flatMap fun f=>[.int .i64 f.1,.int .i64 f.2]
theorem pairC_at:∀ (l:List (Int × Int)) (k:Nat) (f:Int × Int),l[k]?=some f->(pairC l)[k*2]?=some (.int .i64 f.1)/\(pairC l)[k*2+1]?=some (.int .i64 f.2)
 | [],_,_,h=>by simp at h
 | g :: l,0,f,h=>by simp at h;subst h;simp[pairC]
 | g :: l,k+1,f,h=>by
   have:=pairC_at l k f (by simpa using h)
   rw[show (k+1)*2=k*2+2 by omega,show k*2+2+1=(k*2+1)+2 by omega];simpa[pairC] using this
def packs:List (Int × Int)->Int->Nat->Int × Int
 | [],out,low=>if 8<low then (0,5) else (IntKind.u8.wrap out,0)
 | f :: l,out,low=>if f.1<1\/8<f.1\/f.2<0\/f.2 / 2 ^ f.1.toNat≠0 then (0,2) else packs l (bits .or .i64 out (wrap64 (f.2*2 ^ (min low 8)))) (min (low+f.1.toNat) 9)
theorem b_pack (l:List (Int × Int)) (v:Value) (w0 w:World) (R:HP) (h:St w0 w (Row 336 2 v l.length (pairC l)*R)) (hl:l.length<=1000) :
  Calls Tryz.prog 218 #[v] w fun e w'=>e=.returned (.tuple #[.int .u8 (packs l 0 0).1,.int .i64 (packs l 0 0).2])/\St w0 w' (Row 336 2 v l.length (pairC l)*R):=by
 obtain⟨a,cap,rfl,_,_⟩:=h.row_shape;generalize hS:packs l 0 0=res;have HS:=Lib.hid hS;clear hS;go_enter Tryz.func218,Tryz.ntmps218
 go_wp2;go_loopw [4,5,10] (fun s4 s5 i wr=>∃ (k:Nat) (out:Int) (low:Nat),k<=l.length/\i=.int .i64 k/\s4=.int .i64 out/\s5=.int .i64 low/\low<=9/\Hid (packs (l.drop k) out low=res)/\St w0 wr (Row 336 2 (.slice a l.length cap) l.length (pairC l)*R)) (fun _ _ i _=>l.length - (intOf i).toNat)
 case atStart=>exact⟨0,0,0,by omega,rfl,rfl,rfl,by omega,HS,h⟩
 case round =>
  clear h HS;obtain⟨k,out,low,hk,rfl,rfl,rfl,hlow,He,h1⟩:=hrel;by_cases hlt:k<l.length
  ·obtain⟨f,hf⟩:∃ f,l[k]?=some f:=⟨_,List.getElem?_eq_getElem hlt⟩
   have he:=He.out;have hd:l.drop k=f :: l.drop (k+1):=by
    rw[List.drop_eq_getElem_cons hlt];congr 1
    rw[List.getElem?_eq_getElem hlt] at hf;exact Option.some.inj hf
   rw[hd,packs] at he;obtain⟨c0,c1⟩:=pairC_at l k f hf;obtain⟨x,y⟩:=f;simp only[] at he c0 c1;rcases h1.row with ⟨a0,hv,h0,_⟩ | ⟨g,off,cap',cur,hv,b1,b2,b3,b4,hs⟩
   ·omega
   ·simp only[Value.slice.injEq] at hv
    obtain⟨rfl,_,rfl⟩:=hv;have d0:=(h1.row_cell (k*2) (by omega)).trans c0;have d1:=(h1.row_cell (k*2+1) (by omega)).trans c1;have e1:off+(k*2+1)=off+k*2+1:=by omega
    rw[e1] at d1;have H1:=Lib.hid h1;clear b1 b3 b4 hs hf hd c0 c1 e1 He;by_cases p1:x<1
    ·rw[if_pos (.inl p1)] at he
     subst he;go_wp2;go_ret2
     exact⟨rfl,(H1.out.alloc _).drop⟩
    by_cases p2:8<x
    ·rw[if_pos (.inr (.inl p2))] at he
     subst he;go_wp2;go_ret2
     exact⟨rfl,(H1.out.alloc _).drop⟩
    by_cases p3:y<0
    ·rw[if_pos (.inr (.inr (.inl p3)))] at he
     subst he;have q2:x<=8:=by omega
     go_wp2;go_ret2
     exact⟨rfl,(H1.out.alloc _).drop⟩
    have q1:1<=x:=by omega
    have q0:0<=x:=by omega
    have q2:x<=8:=by omega
    have q3:0<=y:=by omega
    obtain⟨z,hz⟩:∃ z,y / 2 ^ x.toNat=z:=⟨_,rfl⟩;rw[hz] at he;by_cases p4:z=0
    ·rw[if_neg (by omega)] at he
     have HE:=Lib.hid he;clear he;go_wp2;go_roundw
     case rel =>
      have he:=HE.out;refine⟨k+1,_,min (low+x.toNat) 9,by omega,by go_num,rfl,congrArg (Value.int .i64) ?_,by omega,?_,(H1.out.alloc _).drop⟩
      ·split <;> omega
      ·have ee:(if 8<(low:Int) then (8:Int) else low).toNat=min low 8:=by split <;> omega
       rw[ee];exact Lib.hid he
     case measure=>simp[intOf];omega
    ·rw[if_pos (.inr (.inr (.inr p4)))] at he
     subst he;go_wp2;go_ret2
     exact⟨rfl,(H1.out.alloc _).drop⟩
  ·obtain rfl:k=l.length:=by omega
   have he:=He.out;rw[List.drop_length,packs] at he;by_cases p:8<low
   ·rw[if_pos p] at he
    subst he;go_wp2;go_ret2
    exact⟨rfl,h1⟩
   ·rw[if_neg p] at he
    subst he;go_wp2;go_ret2
    exact⟨rfl,h1⟩
theorem packs_17 (a:Int):(packs [(1,1),(7,a)] 0 0)=if 0<=a/\a<=127 then (2*a+1,0) else (0,2):=by
 by_cases h:0<=a/\a<=127
 ·rw[if_pos h]
  obtain⟨n,rfl⟩:∃ n:Nat,a=n:=⟨a.toNat,by omega⟩;have:∀ n:Fin 128,packs [(1,1),(7,(n:Nat))] 0 0=(2*((n:Nat):Int)+1,0):=by decide +kernel
  exact this ⟨n,by omega⟩
 ·rw[if_neg h]
  unfold packs;rw[if_neg (by simp)];unfold packs;rw[if_pos];by_cases h0:a<0
  ·exact .inr (.inr (.inl h0))
  ·refine .inr (.inr (.inr ?_))
   show a / 128≠0
   omega
def octets (ns:List Int):ByteArray:=⟨(ns.map fun n=>UInt8.ofNat n.toNat).toArray⟩
theorem run_octets {P:Program} {src dst e:TypeId} (hs:P.underlying src=some (.slice e)) (he:P.underlying e=some (.int .u8)) (hd:P.underlying dst=some .string) (w:World) (a:Addr) (cap:Nat) (ns:List Int) (k:Nat) (hk:ns.length=k)
  (hn:∀ n ∈ ns,0<=n/\n<256) (hc:∀ j (hj:j<ns.length),w.cell? (a.add j)=some (.int .u8 ns[j])):(convert src dst (.slice (some a) k cap)).run P w=.ok (.string (octets ns)) w:=by
 subst hk;have:=run_convert_bytes_back (P:=P) w src dst e a cap (ns.map fun n=>UInt8.ofNat n.toNat) hs he hd (fun j hj=>by
  have hj':j<ns.length:=by simpa using hj
  rw[hc j hj'];have:=hn ns[j] (List.getElem_mem hj')
  simp only[List.getElem_map,UInt8.toNat_ofNat'];congr 2
  omega)
 simpa[octets] using this
def bitStep (r:Int):Int:=bits .xor .u16 (r / 2) (IntKind.u16.wrap (bits .and .u16 r 1*33800))
def bitSteps:Nat->Int->Int
 | 0,r=>r
 | n+1,r=>bitSteps n (bitStep r)
def stepR (r o:Int):Int:=bitSteps 8 (bits .xor .u16 r o)
theorem s_step (r:Int) (o:UInt8) (w:World):Calls Tryz.prog 243 #[.int .u16 r,.int .u8 o.toNat] w fun e w'=>e=.returned (.int .u16 (stepR r o.toNat))/\w=w':=by
 obtain⟨X,hX⟩:∃ X,stepR r o.toNat=X:=⟨_,rfl⟩;rw[hX];rw[stepR,show 8=8 - 0 from rfl] at hX;have HX:=Lib.hid hX;have hw:IntKind.u16.wrap (o.toNat:Int)=o.toNat:=by have:=o.toNat_lt;rw[IntKind.wrap_u16];omega
 clear hX;go_enter Tryz.func243,Tryz.ntmps243
 go_wp2;go_loop [10,0] (fun s t=>∃ (k:Nat) (q:Int),k<=8/\s=.int .i64 k/\t=.int .u16 q/\Hid (bitSteps (8 - k) q=X)) (fun s _=>8 - (intOf s).toNat)
 case atStart=>exact⟨0,bits .xor .u16 r o.toNat,by omega,rfl,rfl,HX⟩
 case round =>
  clear HX;obtain⟨k,q,hk,rfl,rfl,HX⟩:=hrel;by_cases hlt:k<8
  ·have h8:(k:Int)<8:=by omega
   go_wp2;go_round
   case rel =>
    refine⟨k+1,_,by omega,by go_num,rfl,?_⟩
    have:=HX.out
    rw[show 8 - k=(8 - (k+1))+1 by omega] at this;exact Lib.hid this
   case measure=>simp[intOf];omega
  ·obtain rfl:k=8:=by omega
   go_wp2;go_ret
   exact⟨by rw[← HX.out];rfl,rfl⟩
def sumR:List UInt8->Int->Int
 | [],r=>r
 | o :: l,r=>sumR l (stepR r o.toNat)
def sumOf (s:ByteArray):Int:=bits .xor .u16 IntKind.u16.max (sumR s.data.toList 65535)
theorem s_sum (s:ByteArray) (w:World) (hs:s.size<2 ^ 62):Calls Tryz.prog 207 #[.string s] w fun e w'=>e=.returned (.int .u16 (sumOf s))/\w=w':=by
 obtain⟨X,hX⟩:∃ X,sumR (s.data.toList.drop 0) 65535=X:=⟨_,rfl⟩;have hY:sumOf s=bits .xor .u16 IntKind.u16.max X:=by rw[← hX];rfl
 rw[hY];have HX:=Lib.hid hX;clear hX hY;obtain⟨n,hn⟩:∃ n,s.size=n:=⟨_,rfl⟩;rw[hn] at hs;have HN:=Lib.hid hn;go_enter Tryz.func207,Tryz.ntmps207
 go_wp2;go_loop [7,3] (fun i t=>∃ (k:Nat) (q:Int),k<=n/\i=.int .i64 k/\t=.int .u16 q/\Hid (sumR (s.data.toList.drop k) q=X)) (fun i _=>n - (intOf i).toNat)
 case atStart=>exact⟨0,65535,by omega,rfl,rfl,HX⟩
 case round =>
  clear HX;obtain⟨k,q,hk,rfl,rfl,HX⟩:=hrel;by_cases hlt:k<n
  ·have h8:(k:Int)<n:=by omega
   have hi:k<s.data.toList.length:=by have h1:s.data.size=n:=HN.out;rw[Array.length_toList,h1];exact hlt
   obtain⟨o,ho⟩:∃ o,s.data.toList[k]=o:=⟨_,rfl⟩;have hd:s.data.toList.drop k=o :: s.data.toList.drop (k+1):=by rw[List.drop_eq_getElem_cons hi,ho]
   have hx:∀ w,(Instr.index 9 (.string s) (.int .i64 (k:Int))).run Tryz.prog w=.ok (.int .u8 o.toNat) w:=fun w=>by
    have h1:=HN.out;rw[run_index_string (P:=Tryz.prog) w 9 s .i64 k Tryz.underlying9,dif_pos ⟨by omega,by omega⟩];have:s[(k:Int).toNat]'(by omega)=o:=ho
    rw[this]
   have he:=HX.out;rw[hd,sumR] at he;have HE:=Lib.hid he;have hc:=s_step q o w;obtain⟨y,hy⟩:∃ y,stepR q o.toNat=y:=⟨_,rfl⟩;rw[hy] at hc HE;clear he hd ho hi hy hn;go_wp2_with fail
   refine hc.mono ?_
   rintro e w1 ⟨rfl,rfl⟩;go_wp2;go_round
   case rel=>exact⟨k+1,y,by omega,by go_num,rfl,HE⟩
   case measure=>simp[intOf];omega
  ·obtain rfl:k=n:=by omega
   have he:=HX.out;rw[List.drop_of_length_le (by rw[Array.length_toList];exact Nat.le_of_eq hn)] at he;obtain rfl:q=X:=he;go_wp2;go_ret
   exact⟨rfl,rfl⟩
theorem octets_size (l:List Int):(octets l).size=l.length:=by
 show (l.map _).toArray.size=_
 simp
def sealed (s:ByteArray):ByteArray:=s++octets [IntKind.u8.wrap (sumOf s),IntKind.u8.wrap (sumOf s / 256)]
theorem s_seal (s:ByteArray) (w0 w:World) (R:HP) (h:St w0 w R) (hs:s.size<2 ^ 62):Calls Tryz.prog 119 #[.string s] w fun e w'=>e=.returned (.string (sealed s))/\St w0 w' R:=by
 have hc:=s_sum s w hs;obtain⟨X,hX⟩:∃ X,sumOf s=X:=⟨_,rfl⟩;have hY:sealed s=s++octets [IntKind.u8.wrap X,IntKind.u8.wrap (X / 256)]:=by rw[← hX];rfl
 rw[hY];rw[hX] at hc;clear hX hY;obtain⟨p,hp⟩:∃ p,IntKind.u8.wrap X=p:=⟨_,rfl⟩;obtain⟨q,hq⟩:∃ q,IntKind.u8.wrap (X / 256)=q:=⟨_,rfl⟩;have hp0:0<=p/\p<256:=by rw[← hp,IntKind.wrap_u8];omega
 have hq0:0<=q/\q<256:=by rw[← hq,IntKind.wrap_u8];omega
 rw[hp,hq];go_enter Tryz.func119,Tryz.ntmps119
 go_wp2_with fail
 refine hc.mono ?_
 rintro e w1 ⟨rfl,rfl⟩;have hb:=run_octets (P:=Tryz.prog) (src:=121) (dst:=9) (e:=5) Tryz.underlying121 Tryz.underlying5 Tryz.underlying9 (w.alloc (.cells #[.int .u8 p,.int .u8 q] 5)) ⟨w.heap.size,0,none⟩ 2 [p,q] 2 rfl
   (by intro n hn;simp at hn;omega) (by intro j hj;rw[add_none];match j,hj with | 0,_=>simp | 1,_=>simp)
 have hz:¬ 9223372036854775807<s.size+(octets [p,q]).size:=by rw[octets_size];simp;omega
 clear hp0 hq0 hs;go_wp2;go_ret
 exact⟨rfl,(h.alloc _).drop⟩
structure Q where
 most:Nat
 l:List ByteArray
 sent:Nat
structure Q.Ok (q:Q):Prop where
 m1:1<=q.most
 m2:q.most<=256
 ll:q.l.length<=q.most
 sl:q.sent<=q.l.length
abbrev strs (l:List ByteArray):List Value:=l.map Value.string
abbrev ptr (b:Nat):Value:=.pointer (some ⟨b,0,none⟩)
def QAt (T:TypeId) (p:Nat) (q:Q):HP:=hex fun lv:Value=>blk p (.cells #[.int .i64 q.most,lv,.int .i64 q.sent] T (0,0))*Row 9 1 lv q.l.length (strs q.l)
theorem St.q_open {w0 w:World} {R:HP} {T:TypeId} {p:Nat} {q:Q} (h:St w0 w (QAt T p q*R)) :
  ∃ lv,St w0 w (blk p (.cells #[.int .i64 q.most,lv,.int .i64 q.sent] T (0,0))*(Row 9 1 lv q.l.length (strs q.l)*R)):=by
 obtain⟨lv,h⟩:=h.ex;exact⟨lv,h.eq (star_assoc _ _ _)⟩
theorem St.q_shut {w0 w:World} {R:HP} {T:TypeId} {p:Nat} {m s:Int} {lv:Value} {q:Q} {xs:List Value} {k:Nat}
  (h:St w0 w (blk p (.cells #[.int .i64 m,lv,.int .i64 s] T (0,0))*(Row 9 1 lv k xs*R)))
  (hm:m=q.most) (hs:s=q.sent) (hk:k=q.l.length) (hx:xs=strs q.l):St w0 w (QAt T p q*R):=by
 subst hm hs hk hx;exact St.mk_ex lv (h.eq (star_assoc _ _ _).symm)
def Q.push (q:Q) (s:ByteArray):Q × Int:=if 260<s.size then (q,5) else if q.most<=q.l.length then (q,10) else ({ q with l:=q.l++[s] },0)
theorem infoStr:(Tryz.prog.info? 9).map (fun i=>(i.zero,i.size,i.bytes))=some (some (.string ⟨#[]⟩),1,16):=by kernel_rfl
theorem q_push (p:Nat) (q:Q) (s:ByteArray) (w0 w:World) (R:HP) (h:St w0 w (QAt 333 p q*R)) (ok:q.Ok) :
  Calls Tryz.prog 224 #[ptr p,.string s] w fun e w'=>e=.returned (.int .i64 (q.push s).2)/\St w0 w' (QAt 333 p (q.push s).1*R):=by
 obtain⟨lv,h1⟩:=h.q_open;obtain⟨_,m2,ll,_⟩:=ok;have c:=h1.cell;have f:=h1.free;unfold Q.push;by_cases a1:260<s.size
 ·rw[if_pos a1]
  go_enter Tryz.func224,Tryz.ntmps224
  go_wp2;go_ret
  exact⟨rfl,h⟩
 rw[if_neg a1];obtain⟨a,cap,rfl,hc1,hc2⟩:=h1.drop.row_shape;by_cases a2:q.most<=q.l.length
 ·rw[if_pos a2]
  go_enter Tryz.func224,Tryz.ntmps224
  go_wp2;go_quiet (fail)
  go_wp2;go_ret
  exact⟨rfl,h.drewN _⟩
 ·rw[if_neg a2]
  obtain⟨i0,hi,hz0,hz1,hz2⟩:=info_parts infoStr;have h2:∀ nq,St w0 ((w.drewN nq).alloc (.cells #[.string s] 9)) (Row 9 1 (.slice a q.l.length cap) q.l.length (strs q.l)*(blk p (.cells #[.int .i64 q.most,.slice a q.l.length cap,.int .i64 q.sent] 333 (0,0))*R)) :=
   fun nq=>(((h1.drewN nq).alloc (.cells #[.string s] 9)).drop).eq (by ac_rfl)
  have H2:=Lib.hid h2;clear h2;go_enter Tryz.func224,Tryz.ntmps224
  go_wp2;go_quiet (fail)
  go_wp2_with (at_builtin;refine wpList_append_row rfl (.tmp 27) (.tmp 29) 51 rfl (H2.out _) Tryz.underlying51 hi hz0 hz1 hz2 rfl (by decide) rfl ⟨w.heap.size,0,none⟩ 1 1 [.string s] rfl (by decide) rfl ?c1 ?c2 ?c3 ?c4 ?c5)
  case c1=>exact one_new _ _ _ _ rfl
  case c2=>intro u hu;simp at hu;subst hu;rfl
  case c3=>unfold maxLen;omega
  case c4=>omega
  case c5 =>
   intro g off cap1 w1 h3;have h4:=h3.eq (star_comm _ _) |>.eq (star_assoc _ _ _)
   have c:=h4.cell;have f:=h4.free;go_wp2;go_ret
   refine⟨rfl,?_⟩
   have h5:=(h4.set 1 (.slice (some ⟨g,off,none⟩) (q.l.length+1) cap1)).eq (show _=_*(Row _ _ _ _ _*R) by ac_rfl);exact h5.q_shut rfl rfl (by simp) (by simp)
theorem q_new (n:Int) (w0 w:World) (R:HP) (hs:St w0 w R) :
  Calls Tryz.prog 143 #[.int .i64 n] w fun e w'=>∃ p,e=.returned (ptr p)/\St w0 w' (QAt 333 p ⟨(max 1 (min n 256)).toNat,[],0⟩*R):=by
 have fin:∀ m:Int,m=max 1 (min n 256)->St w0 (w.alloc (.cells #[.int .i64 m,.slice none 0 0,.int .i64 0] 333)) (QAt 333 w.heap.size ⟨(max 1 (min n 256)).toNat,[],0⟩*R):=fun m hm =>
  ((hs.row_nil 9 1).alloc (.cells #[_,.slice none 0 0,.int .i64 0] 333)).q_shut (by simp only[];omega) rfl rfl rfl
 by_cases h2:n<=1
 ·go_enter Tryz.func143,Tryz.ntmps143
  go_wp2;go_ret
  exact⟨w.heap.size,rfl,fin _ (by omega)⟩
 by_cases h1:256<n
 ·go_enter Tryz.func143,Tryz.ntmps143
  go_wp2;go_ret
  exact⟨w.heap.size,rfl,fin _ (by omega)⟩
 ·go_enter Tryz.func143,Tryz.ntmps143
  go_wp2;go_ret
  exact⟨w.heap.size,rfl,fin _ (by omega)⟩
def Q.take (q:Q):Q × ByteArray × Bool:=if q.sent<q.l.length then ({ q with sent:=q.sent+1 },q.l.getD q.sent ⟨#[]⟩,true) else (q,⟨#[]⟩,false)
theorem q_left (p:Nat) (q:Q) (w0 w:World) (R:HP) (h:St w0 w (QAt 333 p q*R)) (ok:q.Ok) :
  Calls Tryz.prog 152 #[ptr p] w fun e w'=>e=.returned (.int .i64 (q.l.length - q.sent))/\∃ n,w'=w.drewN n:=by
 obtain⟨lv,h1⟩:=h.q_open;obtain⟨_,m2,ll,sl⟩:=ok;have c:=h1.cell;obtain⟨a,cap,rfl,hc1,hc2⟩:=h1.drop.row_shape;go_enter Tryz.func152,Tryz.ntmps152
 go_wp2;go_quiet (fail)
 go_wp2;go_ret
 exact⟨rfl,_,rfl⟩
theorem q_sent (p:Nat) (q:Q) (w0 w:World) (R:HP) (h:St w0 w (QAt 333 p q*R)) :
  Calls Tryz.prog 151 #[ptr p] w fun e w'=>e=.returned (.int .i64 q.sent)/\w=w':=by
 obtain⟨lv,h1⟩:=h.q_open;have c:=h1.cell;go_enter Tryz.func151,Tryz.ntmps151
 go_wp2;go_ret
 exact⟨rfl,rfl⟩
theorem q_take (p:Nat) (q:Q) (w0 w:World) (R:HP) (h:St w0 w (QAt 333 p q*R)) (ok:q.Ok) :
  Calls Tryz.prog 256 #[ptr p] w fun e w'=>e=.returned (.tuple #[.string q.take.2.1,.bool q.take.2.2])/\St w0 w' (QAt 333 p q.take.1*R):=by
 obtain⟨_,m2,ll,sl⟩:=id ok;unfold Q.take;by_cases a1:q.sent<q.l.length
 ·rw[if_pos a1]
  go_enter Tryz.func256,Tryz.ntmps256
  go_wp2_with fail
  refine (q_left p q w0 w R h ok).mono ?_
  rintro e w1 ⟨rfl,n,rfl⟩;obtain⟨lv,h1⟩:=(h.drewN n).q_open;rcases (h1.eq (star_left_comm _ _ _)).row with ⟨_,rfl,e0,_⟩ | ⟨g,off,cap,cur,rfl,b1,b2,b3,b4,hr⟩
  ·omega
  have c:=h1.cell;have f:=h1.free;have ec:w.cell? ⟨g,off+q.sent,none⟩=some (.string (q.l.getD q.sent ⟨#[]⟩)):=by
   have:=hr.cell (off+q.sent)
   rw[b4 _ (by omega)] at this;exact this.trans (by simp[a1])
  have hgp:g≠p:=by
   have:=hr.eq (show _=blk g _*(blk p _*R) by ac_rfl)
   exact this.ne
  go_wp2;go_quiet (fail)
  go_wp2;go_ret2
  refine⟨by simp[a1],?_⟩
  exact ((h1.set 2 (.int .i64 (q.sent+1))).drewN _).q_shut rfl (by simp) rfl rfl
 ·rw[if_neg a1]
  go_enter Tryz.func256,Tryz.ntmps256
  go_wp2_with fail
  refine (q_left p q w0 w R h ok).mono ?_
  rintro e w1 ⟨rfl,n,rfl⟩;go_wp2;go_ret2
  exact⟨rfl,h.drewN n⟩
def Q.back (q:Q) (n:Int):Q × Bool:=if n<0\/(q.sent:Int)<n then (q,false) else ({ q with sent:=n.toNat },true)
theorem q_back (p:Nat) (q:Q) (n:Int) (w0 w:World) (R:HP) (h:St w0 w (QAt 333 p q*R)) :
  Calls Tryz.prog 284 #[ptr p,.int .i64 n] w fun e w'=>e=.returned (.bool (q.back n).2)/\St w0 w' (QAt 333 p (q.back n).1*R):=by
 obtain⟨lv,h1⟩:=h.q_open;have c:=h1.cell;have f:=h1.free;unfold Q.back;by_cases a1:n<0
 ·rw[if_pos (.inl a1)]
  go_enter Tryz.func284,Tryz.ntmps284
  go_wp2;go_ret
  exact⟨rfl,h⟩
 by_cases a2:(q.sent:Int)<n
 ·rw[if_pos (.inr a2)]
  go_enter Tryz.func284,Tryz.ntmps284
  go_wp2;go_ret
  exact⟨rfl,h⟩
 rw[if_neg (by omega)];go_enter Tryz.func284,Tryz.ntmps284
 go_wp2;go_ret
 exact⟨rfl,(h1.set 2 _).q_shut rfl (by simp only[];omega) rfl rfl⟩
def Q.done (q:Q) (n:Int):Q × Bool:=if n<0\/(q.sent:Int)<n then (q,false) else ({ q with l:=q.l.drop n.toNat,sent:=q.sent - n.toNat },true)
theorem q_done (p:Nat) (q:Q) (n:Int) (w0 w:World) (R:HP) (h:St w0 w (QAt 333 p q*R)) (ok:q.Ok) :
  Calls Tryz.prog 286 #[ptr p,.int .i64 n] w fun e w'=>e=.returned (.bool (q.done n).2)/\St w0 w' (QAt 333 p (q.done n).1*R):=by
 obtain⟨_,m2,ll,sl⟩:=id ok;obtain⟨lv,h1⟩:=h.q_open;have c:=h1.cell;have f:=h1.free;unfold Q.done;by_cases a1:n<0
 ·rw[if_pos (.inl a1)]
  go_enter Tryz.func286,Tryz.ntmps286
  go_wp2;go_ret
  exact⟨rfl,h⟩
 by_cases a2:(q.sent:Int)<n
 ·rw[if_pos (.inr a2)]
  go_enter Tryz.func286,Tryz.ntmps286
  go_wp2;go_ret
  exact⟨rfl,h⟩
 rw[if_neg (by omega)];obtain⟨a,cap,rfl,hc1,hc2⟩:=h1.drop.row_shape;go_enter Tryz.func286,Tryz.ntmps286
 go_wp2;go_region
 go_wp2
 ·have e:q.l.length=n.toNat:=by assumption
  go_ret
  refine⟨rfl,?_⟩
  exact (((h1.set 1 (.slice a 0 0)).set 2 (.int .i64 (q.sent - n))).drew).row_off a |>.q_shut rfl (by simp only[];omega) (by simp;omega) (by rw[← e];simp)
 ·have e:¬ q.l.length=n.toNat:=by assumption
  go_ret
  refine⟨rfl,?_⟩
  have h2:=(((h1.set 1 (.slice (a.map (fun x=>x.add n.toNat)) (q.l.length - n.toNat) (q.l.length - n.toNat))).set 2 (.int .i64 (q.sent - n))).drew).eq (star_left_comm _ _ _);have h3:=(h2.row_from n.toNat (by omega));exact (h3.eq (star_left_comm _ _ _)).q_shut rfl (by simp only[];omega) (by simp) (by simp)
theorem q_clear (p:Nat) (q:Q) (w0 w:World) (R:HP) (h:St w0 w (QAt 333 p q*R)) (ok:q.Ok) :
  Calls Tryz.prog 223 #[ptr p] w fun e w'=>e=.returned (.int .i64 q.l.length)/\St w0 w' (QAt 333 p ⟨q.most,[],0⟩*R):=by
 obtain⟨lv,h1⟩:=h.q_open;obtain⟨_,m2,ll,sl⟩:=ok;have c:=h1.cell;have f:=h1.free;obtain⟨a,cap,rfl,hc1,hc2⟩:=h1.drop.row_shape;go_enter Tryz.func223,Tryz.ntmps223
 go_wp2;go_ret
 refine⟨rfl,?_⟩
 exact ((h1.set 1 (.slice none 0 0)).set 2 (.int .i64 0)).row_off.q_shut rfl rfl rfl rfl
theorem Q.Ok.len {q:Q} (ok:q.Ok):q.l.length<=65536:=by obtain⟨_,_,_,_⟩:=ok;omega
theorem q_nil_take (w:World):Calls Tryz.prog 256 #[.pointer none] w fun e w'=>e=.returned (.tuple #[.string ⟨#[]⟩,.bool false])/\w=w':=by
 go_enter Tryz.func256,Tryz.ntmps256
 go_wp2_with fail
 have:Calls Tryz.prog 152 #[.pointer none] w fun e w'=>e=.returned (.int .i64 0)/\w=w':=by
  go_enter Tryz.func152,Tryz.ntmps152
  go_wp2;go_ret
  exact⟨rfl,rfl⟩
 refine this.mono ?_
 rintro e w1 ⟨rfl,rfl⟩;go_wp2;go_ret2
 exact⟨rfl,rfl⟩
theorem Q.Ok.push {q:Q} (ok:q.Ok) (s:ByteArray):(q.push s).1.Ok:=by
 obtain⟨_,_,_,_⟩:=id ok;unfold Q.push;split
 ·exact ok
 ·split
  ·exact ok
  ·exact⟨by assumption,by assumption,by simp only[List.length_append,List.length_singleton];omega,by simp only[List.length_append,List.length_singleton];omega⟩
theorem Q.Ok.take {q:Q} (ok:q.Ok):q.take.1.Ok:=by
 obtain⟨_,_,_,_⟩:=id ok;unfold Q.take;split
 ·exact⟨by assumption,by assumption,by assumption,by simp only[];omega⟩
 ·exact ok
theorem Q.Ok.back {q:Q} (ok:q.Ok) (n:Int):(q.back n).1.Ok:=by
 obtain⟨_,_,_,_⟩:=id ok;unfold Q.back;split
 ·exact ok
 ·exact⟨by assumption,by assumption,by assumption,by simp only[];omega⟩
theorem Q.Ok.done {q:Q} (ok:q.Ok) (n:Int):(q.done n).1.Ok:=by
 obtain⟨_,_,_,_⟩:=id ok;unfold Q.done;split
 ·exact ok
 ·exact⟨by assumption,by assumption,by simp only[List.length_drop];omega,by simp only[List.length_drop];omega⟩
theorem Q.Ok.new (n:Int):Q.Ok ⟨(max 1 (min n 256)).toNat,[],0⟩:=⟨by simp only[];omega,by simp only[];omega,by simp,by simp⟩
theorem Q.Ok.clear {q:Q} (ok:q.Ok):Q.Ok ⟨q.most,[],0⟩:=⟨ok.m1,ok.m2,by simp,by simp⟩
theorem r_new (n:Int) (w0 w:World) (R:HP) (hs:St w0 w R) :
  Calls Tryz.prog 144 #[.int .i64 n] w fun e w'=>∃ p,e=.returned (ptr p)/\St w0 w' (QAt 199 p ⟨(max 1 (min n 256)).toNat,[],0⟩*R):=by
 have fin:∀ m:Int,m=max 1 (min n 256)->St w0 (w.alloc (.cells #[.int .i64 m,.slice none 0 0,.int .i64 0] 199)) (QAt 199 w.heap.size ⟨(max 1 (min n 256)).toNat,[],0⟩*R):=fun m hm =>
  ((hs.row_nil 9 1).alloc (.cells #[_,.slice none 0 0,.int .i64 0] 199)).q_shut (by simp only[];omega) rfl rfl rfl
 by_cases h2:n<1
 ·go_enter Tryz.func144,Tryz.ntmps144
  go_wp2;go_ret
  exact⟨w.heap.size,rfl,fin _ (by omega)⟩
 by_cases h1:256<n
 ·go_enter Tryz.func144,Tryz.ntmps144
  go_wp2;go_ret
  exact⟨w.heap.size,rfl,fin _ (by omega)⟩
 ·go_enter Tryz.func144,Tryz.ntmps144
  go_wp2;go_ret
  exact⟨w.heap.size,rfl,fin _ (by omega)⟩
theorem r_push (p:Nat) (q:Q) (s:ByteArray) (w0 w:World) (R:HP) (h:St w0 w (QAt 199 p q*R)) (ok:q.Ok) :
  Calls Tryz.prog 172 #[ptr p,.string s] w fun e w'=>e=.returned (.int .i64 (q.push s).2)/\St w0 w' (QAt 199 p (q.push s).1*R):=by
 obtain⟨lv,h1⟩:=h.q_open;obtain⟨_,m2,ll,_⟩:=ok;have c:=h1.cell;have f:=h1.free;unfold Q.push;by_cases a1:260<s.size
 ·rw[if_pos a1]
  go_enter Tryz.func172,Tryz.ntmps172
  go_wp2;go_ret
  exact⟨rfl,h⟩
 rw[if_neg a1];obtain⟨a,cap,rfl,hc1,hc2⟩:=h1.drop.row_shape;by_cases a2:q.most<=q.l.length
 ·rw[if_pos a2]
  have a3:((q.l.length:Int) == (q.most:Int))=true:=by simp;omega
  go_enter Tryz.func172,Tryz.ntmps172
  go_wp2;go_quiet (fail)
  go_wp2;go_ret
  exact⟨rfl,h.drewN _⟩
 ·rw[if_neg a2]
  have a3:((q.l.length:Int) == (q.most:Int))=false:=by simp;omega
  obtain⟨i0,hi,hz0,hz1,hz2⟩:=info_parts infoStr;have h2:∀ nq,St w0 ((w.drewN nq).alloc (.cells #[.string s] 9)) (Row 9 1 (.slice a q.l.length cap) q.l.length (strs q.l)*(blk p (.cells #[.int .i64 q.most,.slice a q.l.length cap,.int .i64 q.sent] 199 (0,0))*R)) :=
   fun nq=>(((h1.drewN nq).alloc (.cells #[.string s] 9)).drop).eq (by ac_rfl)
  have H2:=Lib.hid h2;clear h2;go_enter Tryz.func172,Tryz.ntmps172
  go_wp2;go_quiet (fail)
  go_wp2_with (at_builtin;refine wpList_append_row rfl (.tmp 22) (.tmp 24) 51 rfl (H2.out _) Tryz.underlying51 hi hz0 hz1 hz2 rfl (by decide) rfl ⟨w.heap.size,0,none⟩ 1 1 [.string s] rfl (by decide) rfl ?c1 ?c2 ?c3 ?c4 ?c5)
  case c1=>exact one_new _ _ _ _ rfl
  case c2=>intro u hu;simp at hu;subst hu;rfl
  case c3=>unfold maxLen;omega
  case c4=>omega
  case c5 =>
   intro g off cap1 w1 h3;have h4:=h3.eq (star_comm _ _) |>.eq (star_assoc _ _ _)
   have c:=h4.cell;have f:=h4.free;go_wp2;go_ret
   refine⟨rfl,?_⟩
   have h5:=(h4.set 1 (.slice (some ⟨g,off,none⟩) (q.l.length+1) cap1)).eq (show _=_*(Row _ _ _ _ _*R) by ac_rfl);exact h5.q_shut rfl rfl (by simp) (by simp)
theorem r_take (p:Nat) (q:Q) (w0 w:World) (R:HP) (h:St w0 w (QAt 199 p q*R)) (ok:q.Ok) :
  Calls Tryz.prog 259 #[ptr p] w fun e w'=>e=.returned (.tuple #[.string q.take.2.1,.bool q.take.2.2])/\St w0 w' (QAt 199 p q.take.1*R):=by
 obtain⟨_,m2,ll,sl⟩:=id ok;obtain⟨lv,h1⟩:=h.q_open;have c:=h1.cell;have f:=h1.free;unfold Q.take;by_cases a1:q.sent<q.l.length
 ·rw[if_pos a1]
  have a3:((q.sent:Int) == (q.l.length:Int))=false:=by simp;omega
  rcases (h1.eq (star_left_comm _ _ _)).row with ⟨_,rfl,e0,_⟩ | ⟨g,off,cap,cur,rfl,b1,b2,b3,b4,hr⟩
  ·omega
  have ec:w.cell? ⟨g,off+q.sent,none⟩=some (.string (q.l.getD q.sent ⟨#[]⟩)):=by
   have:=hr.cell (off+q.sent)
   rw[b4 _ (by omega)] at this;exact this.trans (by simp[a1])
  have hgp:g≠p:=by
   have:=hr.eq (show _=blk g _*(blk p _*R) by ac_rfl)
   exact this.ne
  go_enter Tryz.func259,Tryz.ntmps259
  go_wp2;go_quiet (fail)
  go_wp2;go_quiet (fail)
  go_wp2;go_ret2
  refine⟨by simp[a1],?_⟩
  exact St.q_shut (q:={ q with sent:=q.sent+1 }) ((h1.drewN _).set 2 (.int .i64 (q.sent+1))) rfl (by simp) rfl rfl
 ·rw[if_neg a1]
  have a3:((q.sent:Int) == (q.l.length:Int))=true:=by simp;omega
  obtain⟨a,cap,rfl,hc1,hc2⟩:=h1.drop.row_shape;go_enter Tryz.func259,Tryz.ntmps259
  go_wp2;go_quiet (fail)
  go_wp2;go_ret2
  exact⟨rfl,h.drewN _⟩
theorem r_back (p:Nat) (q:Q) (n:Int) (w0 w:World) (R:HP) (h:St w0 w (QAt 199 p q*R)) :
  Calls Tryz.prog 287 #[ptr p,.int .i64 n] w fun e w'=>e=.returned (.bool (q.back n).2)/\St w0 w' (QAt 199 p (q.back n).1*R):=by
 obtain⟨lv,h1⟩:=h.q_open;have c:=h1.cell;have f:=h1.free;unfold Q.back;by_cases a1:n<0
 ·rw[if_pos (.inl a1)]
  go_enter Tryz.func287,Tryz.ntmps287
  go_wp2;go_ret
  exact⟨rfl,h⟩
 by_cases a2:(q.sent:Int)<n
 ·rw[if_pos (.inr a2)]
  go_enter Tryz.func287,Tryz.ntmps287
  go_wp2;go_ret
  exact⟨rfl,h⟩
 rw[if_neg (by omega)];go_enter Tryz.func287,Tryz.ntmps287
 go_wp2;go_ret
 exact⟨rfl,(h1.set 2 _).q_shut rfl (by simp only[];omega) rfl rfl⟩
theorem r_clear (p:Nat) (q:Q) (w0 w:World) (R:HP) (h:St w0 w (QAt 199 p q*R)) (ok:q.Ok) :
  Calls Tryz.prog 226 #[ptr p] w fun e w'=>e=.returned (.int .i64 q.l.length)/\St w0 w' (QAt 199 p ⟨q.most,[],0⟩*R):=by
 obtain⟨lv,h1⟩:=h.q_open;obtain⟨_,m2,ll,sl⟩:=ok;have c:=h1.cell;have f:=h1.free;obtain⟨a,cap,rfl,hc1,hc2⟩:=h1.drop.row_shape;go_enter Tryz.func226,Tryz.ntmps226
 go_wp2;go_ret
 refine⟨rfl,?_⟩
 exact ((h1.set 1 (.slice none 0 0)).set 2 (.int .i64 0)).row_off.q_shut rfl rfl rfl rfl
theorem r_done (p:Nat) (q:Q) (n:Int) (w0 w:World) (R:HP) (h:St w0 w (QAt 199 p q*R)) (ok:q.Ok) :
  Calls Tryz.prog 289 #[ptr p,.int .i64 n] w fun e w'=>e=.returned (.bool (q.done n).2)/\St w0 w' (QAt 199 p (q.done n).1*R):=by
 obtain⟨_,m2,ll,sl⟩:=id ok;obtain⟨lv,h1⟩:=h.q_open;have c:=h1.cell;have f:=h1.free;unfold Q.done;by_cases a1:n<0
 ·rw[if_pos (.inl a1)]
  go_enter Tryz.func289,Tryz.ntmps289
  go_wp2;go_ret
  exact⟨rfl,h⟩
 by_cases a2:(q.sent:Int)<n
 ·rw[if_pos (.inr a2)]
  go_enter Tryz.func289,Tryz.ntmps289
  go_wp2;go_ret
  exact⟨rfl,h⟩
 rw[if_neg (by omega)];obtain⟨j,rfl⟩:=Int.eq_ofNat_of_zero_le (show 0<=n by omega);have hj:j<=q.sent:=by omega
 obtain⟨a,cap,rfl,hc1,hc2⟩:=h1.drop.row_shape;obtain⟨i0,hi,hz0,hz1,hz2⟩:=info_parts infoStr;clear a1 a2;have b0:decide ((j:Int)<0)=false:=by simp
 have b1:decide (q.sent<j)=false:=by simpa using hj
 go_enter Tryz.func289,Tryz.ntmps289
 go_wp2;go_loopw [5,6] (fun v i wr=>∃ k:Nat,j<=k/\k<=q.l.length/\i=.int .i64 k /\
   St w0 wr (Row 9 1 v (k - j) (strs ((q.l.drop j).take (k - j)))*(blk p (.cells #[.int .i64 q.most,.slice a q.l.length cap,.int .i64 q.sent] 199 (0,0))*(Row 9 1 (.slice a q.l.length cap) q.l.length (strs q.l)*R)))) (fun _ i _=>q.l.length - (intOf i).toNat)
 case atStart=>exact⟨j,Nat.le_refl _,by omega,rfl,by simpa using h1.row_nil 9 1⟩
 case round =>
  obtain⟨k,hk1,hk2,rfl,h2⟩:=hrel;have h3:=h2.eq (star_left_comm _ _ _);clear c f;have c:=h3.cell;have f:=h3.free;by_cases hlt:k<q.l.length
  ·rcases (h2.eq (show _=Row _ _ (.slice a q.l.length cap) _ _*(Row _ _ u5 _ _*(blk p _*R)) by ac_rfl)).row with ⟨_,e0,e1,_⟩ | ⟨g,off,cap',cur,e0,b1,b2,b3,b4,hr⟩
   ·omega
   simp only[Value.slice.injEq] at e0;obtain⟨rfl,_,rfl⟩:=e0;have ec:wr.cell? ⟨g,off+k,none⟩=some (.string (q.l[k])):=by
    have:=hr.cell (off+k)
    rw[b4 _ (by omega)] at this;exact this.trans (by simp[hlt])
   have h4:=(h2.alloc (.cells #[.string q.l[k]] 9)).drop;have H4:=Lib.hid h4;have H2:=Lib.hid h2;have B4:=Lib.hid b4;clear h2 h4 b4;go_wp2_with (at_builtin;refine wpList_append_row rfl (.tmp 27) (.tmp 35) 51 rfl H4.out Tryz.underlying51 hi hz0 hz1 hz2 rfl (by decide) rfl ⟨wr.heap.size,0,none⟩ 1 1 [.string q.l[k]] rfl (by decide) rfl ?c1 ?c2 ?c3 ?c4 ?c5)
   case c1=>exact one_new _ _ _ _ rfl
   case c2=>intro u hu;simp at hu;subst hu;rfl
   case c3=>unfold maxLen;omega
   case c4=>omega
   case c5 =>
    intro g2 off2 cap2 w1 h5;go_wp2;go_roundw
    case rel =>
     refine⟨k+1,by omega,by omega,by go_num,?_⟩
     have e1:k+1 - j=(k - j)+1:=by omega
     have e2:(q.l.drop j).take (k - j+1)=(q.l.drop j).take (k - j)++[q.l[k]]:=by
      rw[List.take_succ_eq_append_getElem (by simp;omega)];congr 2
      simp only[List.getElem_drop];congr 1
      omega
     rw[e1,e2];simpa[strs] using h5
    case measure=>simp[intOf];omega
  ·obtain rfl:k=q.l.length:=by omega
   obtain⟨av,capv,rfl,_,_⟩:=h2.row_shape;go_wp2;go_ret
   refine⟨rfl,?_⟩
   have h4:=(h3.set 1 (.slice av (q.l.length - j) capv)).set 2 (.int .i64 (q.sent - j));have h5:=(h4.eq (star_3 _ _ _ _)).drop;exact h5.q_shut rfl (by simp only[];omega) (by simp) (by simp[List.take_of_length_le])
end Go.Proofs.YtnnahljdhdippaaGreatDoor
