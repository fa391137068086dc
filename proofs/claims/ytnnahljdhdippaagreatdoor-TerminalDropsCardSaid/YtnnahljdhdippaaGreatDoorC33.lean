/- Parts of a proof (RefX, RefY, RefZ, RefI). No condition. -/
import Derived.Test.YtnnahljdhdippaaGreatDoorC2
import Derived.Test.YtnnahljdhdippaaGreatDoorC15
import Derived.Test.YtnnahljdhdippaaGreatDoorC25
namespace Go.Proofs.YtnnahljdhdippaaGreatDoor
set_option maxRecDepth 100000
set_option maxHeartbeats 6400000
open Go.RowKit
def un:Nat->List Bool->List Bool
 | _,[]=>[]
 | n,true :: l=>if n+1<=5 then true :: un (n+1) l else un (n+1) l
 | n,false :: l=>if n<5 then false :: un 0 l else un 0 l
def onesIn:Nat->List Bool->Nat
 | n,[]=>n
 | n,true :: l=>onesIn (n+1) l
 | _,false :: l=>onesIn 0 l
def unOne (n:Nat) (b:Bool):List Bool:=if b=true then (if n+1<=5 then [true] else []) else if n<5 then [false] else []
theorem un_snoc (l:List Bool) (b:Bool):∀ n,un n (l++[b])=un n l++unOne (onesIn n l) b:=by
 induction l with
 | nil =>
   intro n;cases b with
   | true=>show (if n+1<=5 then true :: un (n+1) [] else un (n+1) [])=_;unfold unOne onesIn;rw[if_pos rfl];rfl
   | false =>
     show (if n<5 then [false] else [])=[]++(if false=true then (if n+1<=5 then [true] else []) else if n<5 then [false] else [])
     rw[List.nil_append,if_neg (show ¬ (false=true) by decide)]
 | cons x l ih =>
   intro n;cases x with
   | true =>
     show (if n+1<=5 then true :: un (n+1) (l++[b]) else un (n+1) (l++[b]))=(if n+1<=5 then true :: un (n+1) l else un (n+1) l)++unOne (onesIn (n+1) l) b
     rw[ih];split <;> rfl
   | false =>
     show (if n<5 then false :: un 0 (l++[b]) else un 0 (l++[b]))=(if n<5 then false :: un 0 l else un 0 l)++unOne (onesIn 0 l) b
     rw[ih];split <;> rfl
theorem onesIn_snoc (l:List Bool) (b:Bool):∀ n,onesIn n (l++[b])=if b=true then onesIn n l+1 else 0:=by
 induction l with
 | nil=>intro n;cases b <;> rfl
 | cons x l ih =>
   intro n;cases x with
   | true=>exact ih (n+1)
   | false=>exact ih 0
theorem un_len (l:List Bool):∀ n,(un n l).length<=l.length:=by
 induction l with
 | nil=>intro n;exact Nat.le_refl 0
 | cons x l ih =>
   intro n;cases x with
   | true =>
     show (if n+1<=5 then true :: un (n+1) l else un (n+1) l).length<=l.length+1
     have:=ih (n+1)
     split <;> simp <;> omega
   | false =>
     show (if n<5 then false :: un 0 l else un 0 l).length<=l.length+1
     have:=ih 0
     split <;> simp <;> omega
structure Rde where
 s:List Bool
 w:Bool
 o:Nat
def endedB (s:List Bool):Option Ev :=
 if (un 0 s).length<=6 then none
 else if 2128<(un 0 s).length - 6\/((un 0 s).length - 6) % 8≠0 then some ⟨2,[]⟩
 else some ⟨0,octs ((un 0 s).take ((un 0 s).length - 6))⟩
def Rde.since (r:Rde) (b:Bool):List Bool:=if r.w=true then r.s++[b] else r.s
def Rde.bit (r:Rde) (b:Bool):Rde × Option Ev :=
 if b=true then
  if r.o+1=7/\r.w=true then (⟨[],false,7⟩,some ⟨1,[]⟩)
  else (⟨r.since true,r.w,r.o+1⟩,none)
 else if r.o=6 then (⟨[],true,0⟩,if r.w=true then endedB (r.since false) else none)
 else (⟨r.since false,r.w,0⟩,none)
def Rde.feed:Rde->List Bool->Rde × List Ev
 | r,[]=>(r,[])
 | r,b :: l=>((Rde.feed (r.bit b).1 l).1,(r.bit b).2.toList++(Rde.feed (r.bit b).1 l).2)
structure De.Like (d:De) (r:Rde):Prop where
 w:d.w=r.w
 o:d.o=r.o
 on:r.w=true->onesIn 0 r.s=r.o/\d.c=(un 0 r.s).take 2135
 off:r.w=false->d.c=[]/\r.s=[]
theorem like_new:De.Like ⟨[],false,0⟩ ⟨[],false,0⟩:=⟨rfl,rfl,fun h=>Bool.noConfusion (show false=true from h),fun _=>⟨rfl,rfl⟩⟩
theorem take_snoc (l u:List Bool) (hu:u.length<=1):(l++u).take 2135=if (l.take 2135).length<=2134 then l.take 2135++u else l.take 2135:=by
 rw[List.length_take];by_cases h:l.length<=2134
 ·rw[if_pos (by omega),List.take_of_length_le (by rw[List.length_append];omega),List.take_of_length_le (by omega)]
 ·rw[if_neg (by omega),List.take_append_of_le_length (by omega)]
theorem like_put {d:De} {r:Rde} (h:d.Like r) (b:Bool) (o':Nat) (hb:b=true->o'=d.o+1) (hb0:b=false->o'=0) (hlt:b=false->d.o<5) (h7:b=true->¬ (d.o+1=7/\d.w=true)) :
  De.Like (De.put { d with o:=o' } b) ⟨r.since b,r.w,o'⟩:=by
 unfold De.put Rde.since;cases hw:r.w with
 | false =>
   have hdw:d.w=false:=h.w.trans hw;rw[if_neg (fun hh=>by have:=hh.1;rw[hdw] at this;exact Bool.noConfusion this),if_neg (by decide)];exact⟨hdw,rfl,fun hh=>Bool.noConfusion (show false=true from hh),fun _=>h.off hw⟩
 | true =>
   have hdw:d.w=true:=h.w.trans hw;obtain⟨h1,h2⟩:=h.on hw;rw[if_pos rfl];have hun:(un 0 (r.s++[b])).take 2135=if d.c.length<=2134 then d.c++unOne d.o b else d.c:=by
    rw[un_snoc,h1,← h.o,take_snoc _ _ (by unfold unOne;split <;> split <;> simp),← h2]
   have hon:onesIn 0 (r.s++[b])=o':=by
    rw[onesIn_snoc,h1,← h.o];cases b with
    | true=>rw[if_pos rfl];exact (hb rfl).symm
    | false=>rw[if_neg (by decide)];exact (hb0 rfl).symm
   by_cases hc:o'<=5/\d.c.length<=2134
   ·have h1':unOne d.o b=[b]:=by
     unfold unOne;cases b with
     | true=>rw[if_pos rfl,if_pos (by have:=hb rfl;omega)]
     | false=>rw[if_neg (by decide),if_pos (hlt rfl)]
    rw[if_pos ⟨hdw,hc.1,hc.2⟩];refine⟨hdw,rfl,fun _=>⟨hon,?_⟩,fun hh=>Bool.noConfusion (show true=false from hh)⟩
    show d.c++[b]=(un 0 (r.s++[b])).take 2135
    rw[hun,if_pos hc.2,h1']
   ·rw[if_neg (fun hh=>hc ⟨hh.2.1,hh.2.2⟩)]
    refine⟨hdw,rfl,fun _=>⟨hon,?_⟩,fun hh=>Bool.noConfusion (show true=false from hh)⟩
    show d.c=(un 0 (r.s++[b])).take 2135
    rw[hun];split
    ·have h1':unOne d.o b=[]:=by
      unfold unOne;cases b with
      | true=>rw[if_pos rfl,if_neg (by have:=hb rfl;omega)]
      | false=>have:=hb0 rfl;exact absurd (by omega) hc
     rw[h1',List.append_nil]
    ·rfl
theorem like_bit {d:De} {r:Rde} (h:d.Like r) (b:Bool):(d.bit b).1.Like (r.bit b).1/\(d.bit b).2=(r.bit b).2:=by
 unfold De.bit Rde.bit;cases b with
 | true =>
   rw[if_pos rfl,if_pos rfl];by_cases h7:d.o+1=7/\d.w=true
   ·rw[if_pos h7,if_pos (by rw[← h.o,← h.w];exact h7)]
    exact⟨⟨rfl,rfl,fun hh=>Bool.noConfusion (show false=true from hh),fun _=>⟨rfl,rfl⟩⟩,rfl⟩
   ·rw[if_neg h7,if_neg (by rw[← h.o,← h.w];exact h7)]
    refine⟨?_,rfl⟩
    have:=like_put h true (d.o+1) (fun _=>rfl) (fun e=>Bool.noConfusion e) (fun e=>Bool.noConfusion e) (fun _=>h7)
    rw[← h.o];exact this
 | false =>
   rw[if_neg (show ¬ (false=true) by decide),if_neg (show ¬ (false=true) by decide)];by_cases h5:5<=d.o
   ·rw[if_pos h5]
    have hsn:r.w=true->un 0 (r.s++[false])=un 0 r.s:=fun hw=>by
     rw[un_snoc,(h.on hw).1,← h.o];unfold unOne;rw[if_neg (by decide),if_neg (by omega),List.append_nil]
    by_cases h6:d.o=6
    ·rw[if_pos h6,if_pos (by rw[← h.o];exact h6)]
     unfold De.flag endedB Rde.since;cases hw:r.w with
     | false =>
       rw[if_pos (.inl (h.w.trans hw)),if_neg (show ¬ (false=true) by decide)];exact⟨⟨rfl,rfl,fun _=>⟨rfl,rfl⟩,fun hh=>Bool.noConfusion (show true=false from hh)⟩,rfl⟩
     | true =>
       obtain⟨h1,h2⟩:=h.on hw;simp only[↓reduceIte];rw[hsn hw];have hl:d.c.length=min 2135 (un 0 r.s).length:=by rw[h2,List.length_take]
       by_cases c1:d.c.length<=6
       ·rw[if_pos (.inr c1),if_pos (show (un 0 r.s).length<=6 by omega)]
        exact⟨⟨rfl,rfl,fun _=>⟨rfl,rfl⟩,fun hh=>Bool.noConfusion (show true=false from hh)⟩,rfl⟩
       ·rw[if_neg (fun hh=>by
         rcases hh with hh | hh
         ·rw[h.w,hw] at hh;exact Bool.noConfusion hh
         ·exact c1 hh),if_neg (show ¬ (un 0 r.s).length<=6 by omega)]
        by_cases c2:2128<(un 0 r.s).length - 6
        ·rw[if_pos (show 2128<d.c.length - 6\/(d.c.length - 6) % 8≠0 from .inl (by omega)),if_pos (show 2128<(un 0 r.s).length - 6\/((un 0 r.s).length - 6) % 8≠0 from .inl c2)]
         exact⟨⟨rfl,rfl,fun _=>⟨rfl,rfl⟩,fun hh=>Bool.noConfusion (show true=false from hh)⟩,rfl⟩
        ·have hle:(un 0 r.s).length<=2135:=by omega
         have hd:d.c=un 0 r.s:=by rw[h2,List.take_of_length_le hle]
         rw[hd];split
         ·exact⟨⟨rfl,rfl,fun _=>⟨rfl,rfl⟩,fun hh=>Bool.noConfusion (show true=false from hh)⟩,rfl⟩
         ·exact⟨⟨rfl,rfl,fun _=>⟨rfl,rfl⟩,fun hh=>Bool.noConfusion (show true=false from hh)⟩,rfl⟩
    ·rw[if_neg h6,if_neg (by rw[← h.o];exact h6)]
     refine⟨⟨h.w,rfl,fun hw=>?_,fun hw=>?_⟩,rfl⟩
     ·have hs:Rde.since r false=r.s++[false]:=by unfold Rde.since;rw[if_pos hw]
      show onesIn 0 (r.since false)=0/\d.c=(un 0 (r.since false)).take 2135
      rw[hs,onesIn_snoc,hsn hw];exact⟨rfl,(h.on hw).2⟩
     ·have hs:Rde.since r false=r.s:=by unfold Rde.since;rw[if_neg (by rw[show r.w=false from hw];decide)]
      show d.c=[]/\r.since false=[]
      rw[hs];exact h.off hw
   ·rw[if_neg h5,if_neg (by rw[← h.o];omega)]
    refine⟨?_,rfl⟩
    exact like_put h false 0 (fun e=>Bool.noConfusion e) (fun _=>rfl) (fun _=>by omega) (fun e=>Bool.noConfusion e)
theorem like_feed (l:List Bool):∀ {d:De} {r:Rde},d.Like r->(d.feed l).1.Like (r.feed l).1/\(d.feed l).2=(r.feed l).2:=by
 induction l with
 | nil=>intro d r h;exact⟨h,rfl⟩
 | cons b l ih =>
   intro d r h;obtain⟨h1,h2⟩:=like_bit h b;obtain⟨h3,h4⟩:=ih h1;exact⟨h3,by show _++_=_++_;rw[h2,h4]⟩
theorem rde_since_len (r:Rde) (b:Bool):(r.bit b).1.s.length<=r.s.length+1:=by
 have:(r.since b).length<=r.s.length+1:=by unfold Rde.since;split <;> simp
 unfold Rde.bit;cases b with
 | true=>rw[if_pos rfl];split <;> simp <;> omega
 | false=>rw[if_neg (by decide)];split <;> simp <;> omega
abbrev encU (o:UInt8):List Value:=[.int .u8 o.toNat]
theorem tyU:ETy Tryz.prog 121 5 1 1 encU :=
 ⟨Tryz.underlying121,⟨.int .u8 0,by kernel_rfl,rfl⟩,fun _=>rfl,fun b u hu=>by simp[encU] at hu;subst hu;rfl,by decide,by decide⟩
theorem St.l_octs {w0 w:World} {R:HP} {v:Value} {l:List UInt8} (h:St w0 w (LAt 5 1 encU v l*R)):(convert 121 9 v).run Tryz.prog w=.ok (.string ⟨l.toArray⟩) w:=by
 rcases h.l_cells tyU.len with ⟨rfl,a,rfl⟩ | ⟨g,off,cap,rfl,_,_,hc⟩
 ·cases a with
  | none=>exact run_convert_bytes_nil (P:=Tryz.prog) (w:=w) 121 5 Tryz.underlying121 Tryz.underlying5 0 0 9 Tryz.underlying9
  | some ad=>exact run_convert_bytes_back (P:=Tryz.prog) w 121 9 5 ad 0 [] Tryz.underlying121 Tryz.underlying5 Tryz.underlying9 (fun j hj=>absurd hj (by simp))
 ·exact run_convert_bytes_back (P:=Tryz.prog) w 121 9 5 ⟨g,off,none⟩ cap l Tryz.underlying121 Tryz.underlying5 Tryz.underlying9 (fun j hj=>by
   have h1:=hc j l[j] (List.getElem?_eq_getElem hj) 0 _ rfl;rw[add_none];simpa using h1)
theorem St.l_take {β:Type} {E:TypeId} {sz n cap:Nat} {enc:β->List Value} {l:List β} {a:Option Addr} {w0 w:World} {R:HP} (h:St w0 w (LAt E sz enc (.slice a n cap) l*R)) (T:∀ b,(enc b).length=sz) (m:Nat) (hm:m<=l.length):St w0 w (LAt E sz enc (.slice a m cap) (l.take m)*R):=by
 rcases h.row with ⟨a0,hv,h0,_⟩ | ⟨g,off,cap',cur,hv,h1,h2,h3,h4,hs⟩
 ·obtain rfl:l=[]:=List.eq_nil_of_length_eq_zero h0
  obtain rfl:m=0:=by simpa using hm
  simp only[Value.slice.injEq] at hv;obtain⟨rfl,_,rfl⟩:=hv;exact h.drop.l_nil E sz enc _
 ·simp only[Value.slice.injEq] at hv
  obtain⟨rfl,_,rfl⟩:=hv;have hl:=encs_len T (l.take m);have hlt:(l.take m).length=m:=by rw[List.length_take];omega
  have hr:=St.row_mk (E:=E) (n:=m) (xs:=(l.take m).flatMap enc) (sz:=sz) (off:=off) (cap:=cap) hs (by rw[hl,hlt]) (by omega) (by omega) (by omega) (fun j hj=>by
   have hm2:m*sz<=l.length*sz:=Nat.mul_le_mul_right _ hm;have:=h4 j (by omega)
   rw[this];conv=>lhs;rw[← List.take_append_drop m l,List.flatMap_append]
   rw[List.getElem?_append_left (by rw[hl,hlt];exact hj)])
  have e:LAt E sz enc (.slice (some ⟨g,off,none⟩) m cap) (l.take m)=Row E sz (.slice (some ⟨g,off,none⟩) m cap) m ((l.take m).flatMap enc):=by unfold LAt;rw[hlt]
  rw[e];exact hr
theorem rb_good (l:List Bool) (hl:l.length<=100000000) (w:World):Calls Tryz.prog 235 #[.string (bstr l)] w fun e w'=>e=.returned (.bool true)/\w=w':=by
 obtain⟨n,hnl⟩:∃ n,l.length=n:=⟨_,rfl⟩;have hn:(bstr l).size=n:=(bstr_size l).trans hnl;have hat:=bstr_at l;generalize bstr l=s at *;have HN:=Lib.hid hnl;rw[hnl] at hl;clear hnl;go_enter Tryz.func235,Tryz.ntmps235
 go_wp2;go_loopw [3] (fun s3 wr=>∃ k:Nat,k<=n/\s3=.int .i64 k/\w=wr) (fun s3 _=>n - (intOf s3).toNat)
 case atStart=>exact⟨0,by omega,rfl,rfl⟩
 case round =>
  obtain⟨k,hk,rfl,rfl⟩:=hrel;by_cases hlt:k<n
  ·have hkn:(k:Int)<n:=by omega
   have hil:k<l.length:=by rw[HN.out];exact hlt
   cases hb:l[k] with
   | true =>
     have hx:∀ w,(Instr.index 9 (.string s) (.int .i64 (k:Int))).run Tryz.prog w=.ok (.int .u8 49) w:=hat k true (by rw[List.getElem?_eq_getElem hil,hb]);clear hat hb;go_wp2;go_roundw
     case rel=>exact⟨k+1,by omega,by go_num,trivial⟩
     case measure =>
      simp[intOf]
      omega
   | false =>
     have hx:∀ w,(Instr.index 9 (.string s) (.int .i64 (k:Int))).run Tryz.prog w=.ok (.int .u8 48) w:=hat k false (by rw[List.getElem?_eq_getElem hil,hb]);clear hat hb;go_wp2;go_roundw
     case rel=>exact⟨k+1,by omega,by go_num,trivial⟩
     case measure =>
      simp[intOf]
      omega
  ·obtain rfl:k=n:=by omega
   go_wp2;go_ret
   exact⟨rfl,rfl⟩
def hiN (f:Nat->Nat):Nat->Nat
 | 0=>0
 | c+1=>2*hiN f c+f (7 - c)
theorem hiN_8 (f:Nat->Nat):hiN f 8=f 0+2*f 1+4*f 2+8*f 3+16*f 4+32*f 5+64*f 6+128*f 7:=by
 have e:hiN f 8=2*(2*(2*(2*(2*(2*(2*(2*0+f 7)+f 6)+f 5)+f 4)+f 3)+f 2)+f 1)+f 0:=rfl;rw[e];omega
theorem hiN_lt (f:Nat->Nat) (hf:∀ i,f i<=1):∀ c,hiN f c<2 ^ c
 | 0=>by show 0<2 ^ 0;decide
 | c+1=>by
   show 2*hiN f c+f (7 - c)<_
   have h1:=hiN_lt f hf c;have h2:=hf (7 - c);rw[Nat.pow_succ];omega
theorem rb_octs (l:List Bool) (m:Nat) (hm:l.length=8*m) (hl:m<=1000000) (w0 w:World) (R:HP) (h:St w0 w R) :
  Calls Tryz.prog 189 #[.string (bstr l)] w fun e w'=>e=.returned (.tuple #[.string ⟨(octs l).toArray⟩,.int .i64 0])/\St w0 w' R:=by
 have hg:=fun w=>rb_good l (by omega) w
 have hn:(bstr l).size=8*m:=(bstr_size l).trans hm;have hat:=bstr_at l;obtain⟨ol,oa⟩:=octs_len m l hm;generalize bstr l=s at *;obtain⟨n,hnm⟩:∃ n,8*m=n:=⟨_,rfl⟩;rw[hnm] at hn;have q1:Int.tmod (n:Int) 8=0:=by rw[Int.tmod_eq_emod_of_nonneg (by omega)];omega
 have hle:n<=8000000:=by omega
 obtain⟨O,hO⟩:∃ O,octs l=O:=⟨_,rfl⟩;rw[hO] at ol oa ⊢;have HM:=Lib.hid hm;have HNM:=Lib.hid hnm;have HO:=Lib.hid (And.intro ol oa);have HH:=Lib.hid (h.l_nil 5 1 encU);clear h hm hnm hO ol oa;go_enter Tryz.func189,Tryz.ntmps189
 go_wp2_with fail
 refine (hg _).mono ?_
 rintro e w1 ⟨rfl,rfl⟩;clear hg;go_wp2;clear q1;go_loopw [5,6] (fun s5 s6 wr=>∃ (v:Value) (t:Nat),v=s5/\t<=m/\s6=.int .i64 ((8*t:Nat):Int)/\Hid (St w0 wr (LAt 5 1 encU v (O.take t)*R))) (fun _ s6 _=>n - (intOf s6).toNat)
 case atStart=>exact⟨_,0,rfl,by omega,rfl,HH⟩
 case round =>
  clear HH;obtain⟨v,t,rfl,ht,rfl,HI⟩:=hrel;by_cases hlt:t<m
  ·have h8:((8*t:Nat):Int)<n:=by have:=HNM.out;omega
   obtain⟨f,hf⟩:∃ f:Nat->Nat,f=fun j=>bitN (l.getD (8*t+j) false):=⟨_,rfl⟩
   have hf1:∀ i,f i<=1:=fun i=>by rw[hf];show bitN _<=1;unfold bitN;split <;> omega
   have hfi:∀ j,j<8->∀ w,(Instr.index 9 (.string s) (.int .i64 ((8*t+j:Nat):Int))).run Tryz.prog w=.ok (.int .u8 (48+(f j:Nat))) w:=fun j hj w=>by
    have hil:8*t+j<l.length:=by rw[HM.out];omega
    have:=hat (8*t+j) (l[8*t+j]) (List.getElem?_eq_getElem hil) w
    have e:((bch l[8*t+j]).toNat:Int)=48+((f j:Nat):Int):=by
     rw[hf];show _=48+((bitN (l.getD (8*t+j) false):Nat):Int)
     rw[List.getD_eq_getElem?_getD,List.getElem?_eq_getElem hil];show ((bch l[8*t+j]).toNat:Int)=48+((bitN l[8*t+j]:Nat):Int)
     cases l[8*t+j] <;> rfl
    rw[e] at this;exact this
   have hot:O[t]?=some (UInt8.ofNat (hiN f 8)):=by
    rw[HO.out.2 t hlt,hiN_8,hf];unfold pv;rw[pb_all (by omega),pb_all (by omega),pb_all (by omega),pb_all (by omega),pb_all (by omega),pb_all (by omega),pb_all (by omega),pb_all (by omega)];rfl
   obtain⟨b,hb⟩:∃ b,UInt8.ofNat (hiN f 8)=b:=⟨_,rfl⟩;have hbn:hiN f 8=b.toNat:=by
    rw[← hb];have:=hiN_lt f hf1 8
    simp
    omega
   rw[hb] at hot;have hot2:O.take (t+1)=O.take t++[b]:=by rw[List.take_add_one,hot,Option.toList_some]
   have HOT:=Lib.hid (And.intro hbn hot2);have HLN:=Lib.hid (show ((O.take t).length+1)*1<=140737488355328 by rw[List.length_take];omega);clear hb hbn hot2;generalize O.take t=L at HI HOT HLN;have HF:=Lib.hid hfi;have HAT:=Lib.hid hat;clear hf hat hfi hot;obtain⟨i0,hi0e⟩:∃ i0,8*t=i0:=⟨_,rfl⟩;have HI0:=Lib.hid hi0e;rw[hi0e] at h8 HF ⊢;clear hi0e;have hi0:i0<=8000000:=by omega
   go_wp2;go_loopw [7,8] (fun s7 s8 wr=>∃ c:Nat,c<=8/\s8=.int .i64 (7 - (c:Int))/\s7=.int .i64 ((hiN f c:Nat):Int)/\Hid (St w0 wr (LAt 5 1 encU v L*R))) (fun _ s8 _=>(intOf s8+1).toNat)
   case atStart=>exact⟨0,by omega,rfl,rfl,HI⟩
   case round =>
    clear HI;obtain⟨c,hc,rfl,rfl,HI⟩:=hrel;by_cases hc8:c<8
    ·have hge:(0:Int)<=7 - (c:Int):=by omega
     obtain⟨j,hj⟩:∃ j:Nat,7 - (c:Int)=(j:Int):=⟨7 - c,by omega⟩;have hj8:j<8:=by omega
     have hx:=HF.out j hj8;have hs:hiN f (c+1)=2*hiN f c+f j:=by show 2*hiN f c+f (7 - c)=_;rw[show 7 - c=j by omega]
     have hlt2:=hiN_lt f hf1 c;have hp:2 ^ c<=2 ^ 8:=Nat.pow_le_pow_right (by decide) hc;have hfj:=hf1 j;have hb9:hiN f c<=256:=by omega
     have HS:=Lib.hid hs;replace hx:∀ w,(Instr.index 9 (.string s) (.int .i64 ((i0:Int)+(j:Int)))).run Tryz.prog w=.ok (.int .u8 (48+(f j:Nat))) w:=fun w=>by have:=hx w;rwa [show ((i0+j:Nat):Int)=(i0:Int)+(j:Int) by omega] at this
     have hwp:IntKind.i64.wrap ((i0:Int)+(j:Int))=(i0:Int)+(j:Int):=by rw[IntKind.wrap_i64];omega
     have hw8:IntKind.u8.wrap (48+((f j:Nat):Int) - 48)=((f j:Nat):Int):=by rw[IntKind.wrap_u8];omega
     rw[hj];clear hs hlt2 hp hge;generalize hiN f c=q at *;generalize f j=fj at *;have hj0:(0:Int)<=(j:Int):=by omega
     go_wp2;go_roundw
     case rel=>exact⟨c+1,by omega,by go_num,by rw[HS.out];go_num,HI⟩
     case measure=>simp[intOf]
    ·obtain rfl:c=8:=by omega
     rw[HOT.out.1];have hA:=(HI.out.alloc (.cells #[.int .u8 b.toNat] 5)).drop;have hg:=HI.out.alloc (.cells #[.int .u8 b.toNat] 5);have hz:=HLN.out;have hu:IntKind.u8.wrap (b.toNat:Int)=b.toNat:=by have:=b.toNat_lt;rw[IntKind.wrap_u8];omega
     clear HI;go_wp2_with (at_builtin;refine wp_append_elem rfl (.tmp 37) (.tmp 40) rfl tyU hA b rfl _ rfl (new_cells _ [.int .u8 b.toNat] _ _ (by simp)) (by omega) ?hk9;(case' hk9=>(intro g off cap w8 h8)))
     have HS:=Lib.hid h8;clear h8 hA hg hz hu;go_wp2;go_roundw
     case rel =>
      refine⟨_,t+1,rfl,by omega,?_,Lib.hid ?_⟩
      ·rw[show 8*(t+1)=i0+8 by have:=HI0.out;omega]
       go_num
      ·rw[HOT.out.2]
       have e:=HS.out;exact e
     case measure =>
      simp[intOf]
      omega
  ·obtain rfl:t=m:=by omega
   have hno:((8*t:Nat):Int)=n:=by have:=HNM.out;omega
   rw[hno];have hz:=HI.out;rw[List.take_of_length_le (by have:=HO.out.1;omega)] at hz;have hq:=hz.l_octs;clear HI hno;go_wp2;go_ret2
   exact⟨rfl,hz.drop⟩
def contB (l:List Bool):List Bool:=if (un 0 l).length<6 then [] else (un 0 l).take ((un 0 l).length - 6)
theorem rh_content (v0:Value) (l:List Bool) (hl:l.length<=100000000) (w0 w:World) (R:HP) (h:St w0 w (LAt 5 1 encCh v0 l*R)) :
  Calls Tryz.prog 188 #[v0] w fun e w'=>∃ v,e=.returned v/\St w0 w' (LAt 5 1 encCh v (contB l)*(LAt 5 1 encCh v0 l*R)):=by
 obtain⟨a,cap,rfl,_,_⟩:=h.l_shape;obtain⟨n,hn⟩:∃ n,l.length=n:=⟨_,rfl⟩;unfold contB;obtain⟨Z,hZ⟩:∃ Z,un 0 l=Z:=⟨_,rfl⟩;have hZl:Z.length<=n:=by rw[← hZ,← hn];exact un_len l 0
 rw[hZ];obtain⟨Y,hY⟩:∃ Y,(if Z.length<6 then ([]:List Bool) else Z.take (Z.length - 6))=Y:=⟨_,rfl⟩;rw[hY];have HY:=Lib.hid hY;clear hY;rw[hn] at h hl ⊢;have HN:=Lib.hid hn;have HZ0:=Lib.hid hZ;have HH:=Lib.hid (h.l_nil 5 1 encCh);clear h hn hZ;go_enter Tryz.func188,Tryz.ntmps188
 go_wp2;go_loopw [3,4,5] (fun s3 s4 s5 wr=>∃ (v:Value) (k o:Nat) (acc:List Bool),v=s3/\k<=n/\o<=k/\acc.length<=k/\s5=.int .i64 k/\s4=.int .i64 o/\Hid (acc++un o (l.drop k)=Z)/\Hid (St w0 wr (LAt 5 1 encCh v acc*(LAt 5 1 encCh (.slice a n cap) l*R)))) (fun _ _ s5 _=>n - (intOf s5).toNat)
 case atStart=>exact⟨_,0,0,[],rfl,by omega,by omega,by simp,rfl,rfl,HZ0,HH⟩
 case round =>
  clear HH HZ0;obtain⟨v,k,o,acc,rfl,hk,ho,hacc,rfl,rfl,HE,HI⟩:=hrel;by_cases hlt:k<n
  ·have hkn:(k:Int)<n:=by omega
   have hil:k<l.length:=by rw[HN.out];exact hlt
   obtain⟨b,hb⟩:∃ b,l[k]?=some b:=⟨l[k],List.getElem?_eq_getElem hil⟩;have hd:l.drop k=b :: l.drop (k+1):=by
    rw[List.drop_eq_getElem_cons hil];rw[List.getElem?_eq_getElem hil] at hb;rw[Option.some.inj hb]
   have he:=HE.out;rw[hd] at he;rcases HI.out.f2.l_cells tyCh.len with ⟨h0,_⟩ | ⟨g,off,cap',hv,hc1,hc2,hc⟩
   ·rw[h0] at hil;exact absurd hil (by simp)
   simp only[Value.slice.injEq] at hv;obtain⟨rfl,hq,rfl⟩:=hv;clear hq;have hx:wr.cell? ⟨g,off+k,none⟩=some (.int .u8 (bch b).toNat):=by
    have:=hc k b hb 0 _ rfl
    rwa [Nat.mul_one,Nat.add_zero] at this
   have HZ:=Lib.hid (show (acc.length+1)*1<=140737488355328 by omega);have HI2:=HI;clear hc hb hd HE HI hc1 hc2 hil;cases b with
   | true =>
     have hx:wr.cell? ⟨g,off+k,none⟩=some (.int .u8 49):=hx;by_cases h5:o+1<=5
     ·have he2:(acc++[true])++un (o+1) (l.drop (k+1))=Z:=by
       rw[← he];show _=acc++(if o+1<=5 then true :: un (o+1) (l.drop (k+1)) else un (o+1) (l.drop (k+1)))
       rw[if_pos h5,List.append_assoc];rfl
      have HE:=Lib.hid he2;clear he he2;have h5i:(o:Int)+1<=5:=by omega
      have hA:=(HI2.out.alloc (.cells #[.int .u8 49] 5)).drop;have hg:=HI2.out.alloc (.cells #[.int .u8 49] 5);have hz:=HZ.out;clear HI2;go_wp2_with (at_builtin;refine wp_append_elem rfl (.tmp 21) (.tmp 22) rfl tyCh hA true rfl _ rfl (new_cells _ [.int .u8 (bch true).toNat] _ _ (by simp)) (by omega) ?hk21;(case' hk21=>(intro g2 off2 cap2 w8 h8)))
      have HS:=Lib.hid h8;clear h8 hA hg hz;go_wp2;go_roundw
      case rel=>exact⟨_,k+1,o+1,_,rfl,by omega,by omega,by simp;omega,by go_num,by go_num,HE,HS⟩
      case measure =>
       simp[intOf]
       omega
     ·have he2:acc++un (o+1) (l.drop (k+1))=Z:=by
       rw[← he];show _=acc++(if o+1<=5 then true :: un (o+1) (l.drop (k+1)) else un (o+1) (l.drop (k+1)))
       rw[if_neg h5]
      have HE:=Lib.hid he2;clear he he2 HZ;have h5i:¬ (o:Int)+1<=5:=by omega
      go_wp2;go_roundw
      case rel=>exact⟨_,k+1,o+1,_,rfl,by omega,by omega,by omega,by go_num,by go_num,HE,HI2⟩
      case measure =>
       simp[intOf]
       omega
   | false =>
     have hx:wr.cell? ⟨g,off+k,none⟩=some (.int .u8 48):=hx;by_cases h5:o<5
     ·have he2:(acc++[false])++un 0 (l.drop (k+1))=Z:=by
       rw[← he];show _=acc++(if o<5 then false :: un 0 (l.drop (k+1)) else un 0 (l.drop (k+1)))
       rw[if_pos h5,List.append_assoc];rfl
      have HE:=Lib.hid he2;clear he he2;have h5i:(o:Int)<5:=by omega
      have hA:=(HI2.out.alloc (.cells #[.int .u8 48] 5)).drop;have hg:=HI2.out.alloc (.cells #[.int .u8 48] 5);have hz:=HZ.out;clear HI2;go_wp2_with (at_builtin;refine wp_append_elem rfl (.tmp 26) (.tmp 27) rfl tyCh hA false rfl _ rfl (new_cells _ [.int .u8 (bch false).toNat] _ _ (by simp)) (by omega) ?hk26;(case' hk26=>(intro g2 off2 cap2 w8 h8)))
      have HS:=Lib.hid h8;clear h8 hA hg hz;go_wp2;go_roundw
      case rel=>exact⟨_,k+1,0,_,rfl,by omega,by omega,by simp;omega,by go_num,rfl,HE,HS⟩
      case measure =>
       simp[intOf]
       omega
     ·have he2:acc++un 0 (l.drop (k+1))=Z:=by
       rw[← he];show _=acc++(if o<5 then false :: un 0 (l.drop (k+1)) else un 0 (l.drop (k+1)))
       rw[if_neg h5]
      have HE:=Lib.hid he2;clear he he2 HZ;have h5i:¬ (o:Int)<5:=by omega
      go_wp2;go_roundw
      case rel=>exact⟨_,k+1,0,_,rfl,by omega,by omega,by omega,by go_num,rfl,HE,HI2⟩
      case measure =>
       simp[intOf]
       omega
  ·obtain rfl:k=n:=by omega
   have he:=HE.out;rw[List.drop_eq_nil_of_le (by rw[HN.out];exact Nat.le_refl _)] at he;have he:acc=Z:=by rw[← he];show acc=acc++[];rw[List.append_nil]
   have hz:=HI.out;rw[he] at hz;clear HE HI he hacc;obtain⟨z,hzz⟩:∃ z,Z.length=z:=⟨_,rfl⟩;by_cases h6:z<6
   ·obtain⟨a2,cap2,rfl,_,_⟩:=hz.l_shape
    have hr:=hz.drop.l_nil 5 1 encCh;have hh:[]=Y:=(if_pos (by omega)).symm.trans HY.out;have HHH:=Lib.hid hh;have HR:=Lib.hid hr;rw[hzz];have h6i:(z:Int)<6:=by omega
    clear hr hz hh hzz;go_wp2;go_ret
    refine⟨_,rfl,?_⟩
    rw[← HHH.out];exact HR.out
   ·rcases hz.l_cells tyCh.len with ⟨h0,_⟩ | ⟨g,off,cap2,rfl,hc1,hc2,hc⟩
    ·rw[h0] at hzz;exact absurd hzz (by simp;omega)
    have hr:=hz.l_take tyCh.len (Z.length - 6) (by omega);have hh:Z.take (Z.length - 6)=Y:=(if_neg (by omega)).symm.trans HY.out;have HHH:=Lib.hid hh;have hwz:wrap64 ((z - 6:Nat):Int)=((z - 6:Nat):Int):=by unfold wrap64;omega
    rw[show Z.length - 6=z - 6 by omega] at hr;have HR:=Lib.hid hr;rw[hzz] at hc1 ⊢;have hi6:((z:Int) - 6)=((z - 6:Nat):Int):=by omega
    have h6i:¬ (z:Int)<6:=by omega
    have HZZ:=Lib.hid hzz;clear hr hz hh hc hzz;go_wp2;go_ret
    refine⟨_,rfl,?_⟩
    rw[← HHH.out,show Z.length - 6=z - 6 by have:=HZZ.out;omega];exact HR.out
abbrev TREv:TypeId:=162
abbrev TRdd:TypeId:=123
theorem ended_eq (l:List Bool):endedB l=if (contB l).length=0 then none else if 2128<(contB l).length\/(contB l).length % 8≠0 then some ⟨2,[]⟩ else some ⟨0,octs (contB l)⟩:=by
 unfold endedB contB;by_cases h:(un 0 l).length<6
 ·rw[if_pos h,if_pos (by omega),if_pos (by rfl)]
 ·have e:((un 0 l).take ((un 0 l).length - 6)).length=(un 0 l).length - 6:=by rw[List.length_take];omega
  rw[if_neg h,e];by_cases h6:(un 0 l).length<=6
  ·rw[if_pos h6,if_pos (by omega)]
  ·rw[if_neg h6,if_neg (show ¬ (un 0 l).length - 6=0 by omega)]
theorem rh_ended (v0:Value) (l:List Bool) (hl:l.length<=100000000) (w0 w:World) (R:HP) (h:St w0 w (LAt 5 1 encCh v0 l*R)) :
  Calls Tryz.prog 113 #[v0] w fun e w'=>e=.returned (.tuple #[.agg ((endedB l).getD .zero).cells.toArray,.bool (endedB l).isSome])/\St w0 w' (LAt 5 1 encCh v0 l*R):=by
 have h1:=h.alloc (.cells #[.int .i64 0,.string ⟨#[]⟩] TREv);have hc:=fun w R h=>rh_content v0 l hl w0 w R h
 obtain⟨Z,hZ⟩:∃ Z,endedB l=Z:=⟨_,rfl⟩;rw[hZ];have hz2:=(ended_eq l).symm.trans hZ;generalize contB l=C at *;obtain⟨m,hm⟩:∃ m,C.length=m:=⟨_,rfl⟩;rw[hm] at hz2;have HM:=Lib.hid hm;clear hZ hm;by_cases a0:m=0
 ·rw[if_pos a0] at hz2
  subst hz2;have b0:((m:Int) == 0)=true:=by simp[a0]
  clear a0;go_enter Tryz.func113,Tryz.ntmps113
  go_upto_region 1 with fail
  generalize w.alloc _=wa at *;generalize w.heap.size=ga at *;go_upto_region 3 with (go_at_call 188;refine (hc _ _ h1.f2).mono ?_;rintro e w5 ⟨v,rfl,h5⟩;obtain⟨a,cap,hv,_,_⟩:=h5.l_shape;rw[HM.out] at hv;subst hv)
  have c:=h5.f3.cell;have f:=h5.f3.free;have h9:=(h5.f3.set 0 (.int .i64 0)).set 1 (.string ⟨#[]⟩);clear hc h1 h;go_wp2;have cr:=h9.cell;refine bodyPost_ret (v:=.tuple #[.agg #[.int .i64 0,.string ⟨#[]⟩],.bool false]) (by simp[results,Tryz.results113,go_sem,cr]) rfl ⟨?_,h9.drop.drop⟩
  rfl
 ·rw[if_neg a0] at hz2
  have b0:((m:Int) == 0)=false:=by simp[a0]
  by_cases a1:2128<m
  ·rw[if_pos (.inl a1)] at hz2
   subst hz2;have b1:decide (2128<(m:Int))=true:=by simp;omega
   clear a0 a1;go_enter Tryz.func113,Tryz.ntmps113
   go_upto_region 1 with fail
   generalize w.alloc _=wa at *;generalize w.heap.size=ga at *;go_upto_region 5 with (go_at_call 188;refine (hc _ _ h1.f2).mono ?_;rintro e w5 ⟨v,rfl,h5⟩;obtain⟨a,cap,hv,_,_⟩:=h5.l_shape;rw[HM.out] at hv;subst hv)
   have c:=h5.f3.cell;have f:=h5.f3.free;have h9:=(h5.f3.set 0 (.int .i64 2)).set 1 (.string ⟨#[]⟩);clear hc h1 h;go_wp2;have cr:=h9.cell;refine bodyPost_ret (v:=.tuple #[.agg #[.int .i64 2,.string ⟨#[]⟩],.bool true]) (by simp[results,Tryz.results113,go_sem,cr]) rfl ⟨?_,h9.drop.drop⟩
   rfl
  ·have b1:decide (2128<(m:Int))=false:=by simp;omega
   by_cases a2:m % 8≠0
   ·rw[if_pos (.inr a2)] at hz2
    subst hz2;have b2:Int.tmod (m:Int) 8=((m % 8:Nat):Int):=by rw[Int.tmod_eq_emod_of_nonneg (by omega)];rfl
    have b3:(((m % 8:Nat):Int) != 0)=true:=by simp;omega
    generalize m % 8=m8 at *;clear a2;clear a0 a1;go_enter Tryz.func113,Tryz.ntmps113
    go_upto_region 1 with fail
    generalize w.alloc _=wa at *;generalize w.heap.size=ga at *;go_upto_region 5 with (go_at_call 188;refine (hc _ _ h1.f2).mono ?_;rintro e w5 ⟨v,rfl,h5⟩;obtain⟨a,cap,hv,_,_⟩:=h5.l_shape;rw[HM.out] at hv;subst hv)
    have c:=h5.f3.cell;have f:=h5.f3.free;have h9:=(h5.f3.set 0 (.int .i64 2)).set 1 (.string ⟨#[]⟩);clear hc h1 h;go_wp2;have cr:=h9.cell;refine bodyPost_ret (v:=.tuple #[.agg #[.int .i64 2,.string ⟨#[]⟩],.bool true]) (by simp[results,Tryz.results113,go_sem,cr]) rfl ⟨?_,h9.drop.drop⟩
    rfl
   ·rw[if_neg (by omega)] at hz2
    subst hz2;have b2:Int.tmod (m:Int) 8=0:=by rw[Int.tmod_eq_emod_of_nonneg (by omega)];omega
    obtain⟨m8,hm8⟩:∃ m8,m=8*m8:=⟨m / 8,by omega⟩;have ho:=fun w R h=>rb_octs C m8 (HM.out.trans hm8) (by omega) w0 w R h
    have HOC:=Lib.hid hm8;clear hm8 a0 a1 a2;go_enter Tryz.func113,Tryz.ntmps113
    go_upto_region 1 with fail
    generalize w.alloc _=wa at *;generalize w.heap.size=ga at *;go_upto_region 6 with (go_at_call 188;refine (hc _ _ h1.f2).mono ?_;rintro e w5 ⟨v,rfl,h5⟩;obtain⟨a,cap,hv,_,_⟩:=h5.l_shape;rw[HM.out] at hv;subst hv)
    have hq:=h5.l_bits;have c:=h5.f3.cell;clear hc h1 h c;go_upto_region 7 with (go_at_call 189;refine (ho _ _ h5).mono ?_;rintro e w6 ⟨rfl,h6⟩)
    have c:=h6.f3.cell;have f:=h6.f3.free;have h9:=(h6.f3.set 0 (.int .i64 0)).set 1 (.string ⟨(octs C).toArray⟩);clear h5 hq ho;go_wp2;have cr:=h9.cell;refine bodyPost_ret (v:=.tuple #[.agg #[.int .i64 0,.string ⟨(octs C).toArray⟩],.bool true]) (by simp[results,Tryz.results113,go_sem,cr]) rfl ⟨?_,h9.drop.drop⟩
    rfl
theorem tyREv:ETy Tryz.prog 159 TREv 2 24 Ev.cells :=
 ⟨Tryz.underlying159,⟨.agg #[.int .i64 0,.string ⟨#[]⟩],by kernel_rfl,rfl⟩,fun _=>rfl,fun b u hu=>by simp[Ev.cells] at hu;rcases hu with rfl | rfl <;> rfl,by decide,by decide⟩
def RdeAt (p:Nat) (r:Rde):HP:=hex fun v:Value=>blk p (.cells #[v,.bool r.w,.int .i64 r.o] TRdd (0,0))*LAt 5 1 encCh v r.s
section
variable {w0 w:World} {R:HP} {p:Nat} {r:Rde}
theorem St.rd_open (h:St w0 w (RdeAt p r*R)):∃ v,St w0 w (blk p (.cells #[v,.bool r.w,.int .i64 r.o] TRdd (0,0))*(LAt 5 1 encCh v r.s*R)):=by
 obtain⟨v,h⟩:=h.ex;exact⟨v,h.eq (star_assoc _ _ _)⟩
theorem St.rd_shut {v:Value} {c:Array Value} {l:List Bool} (h:St w0 w (blk p (.cells c TRdd (0,0))*(LAt 5 1 encCh v l*R))) (hc:c=#[v,.bool r.w,.int .i64 r.o]) (hl:l=r.s):St w0 w (RdeAt p r*R):=by
 subst hc hl;exact St.mk_ex v (h.eq (star_assoc _ _ _).symm)
end
theorem rde_app (a b:List Bool):∀ d:Rde,d.feed (a++b)=(((d.feed a).1.feed b).1,(d.feed a).2++((d.feed a).1.feed b).2):=by
 induction a with
 | nil=>intro d;rfl
 | cons x a ih =>
   intro d;show ((Rde.feed (d.bit x).1 (a++b)).1,(d.bit x).2.toList++(Rde.feed (d.bit x).1 (a++b)).2)=_
   rw[ih];simp only[Rde.feed,List.append_assoc]
theorem rde_snoc (d:Rde) (l:List Bool) (b:Bool):d.feed (l++[b])=(((d.feed l).1.bit b).1,(d.feed l).2++((d.feed l).1.bit b).2.toList):=by
 rw[rde_app];simp only[Rde.feed,List.append_nil]
theorem rde_ones (r:Rde) (b:Bool):(r.bit b).1.o<=r.o+1:=by
 unfold Rde.bit;cases b with
 | true =>
   rw[if_pos rfl];split
   ·rename_i h;show 7<=r.o+1;omega
   ·exact Nat.le_refl _
 | false =>
   rw[if_neg (by decide)];split <;> exact Nat.zero_le _
end Go.Proofs.YtnnahljdhdippaaGreatDoor
