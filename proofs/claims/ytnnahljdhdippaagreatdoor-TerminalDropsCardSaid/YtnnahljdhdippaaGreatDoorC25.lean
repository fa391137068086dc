/- Parts of a proof (RefA, RefB). No condition. -/
import Derived.Test.YtnnahljdhdippaaGreatDoorC15
import Derived.Test.YtnnahljdhdippaaGreatDoorC11
import Derived.Laws.BitsAllLaws
namespace Go.Proofs.YtnnahljdhdippaaGreatDoor
set_option maxRecDepth 100000
set_option maxHeartbeats 6400000
open Go.RowKit
theorem St.l_bits {w0 w:World} {R:HP} {v:Value} {l:List Bool} (h:St w0 w (LAt 5 1 encCh v l*R)):(convert 121 9 v).run Tryz.prog w=.ok (.string (bstr l)) w:=by
 rcases h.l_cells tyCh.len with ⟨rfl,a,rfl⟩ | ⟨g,off,cap,rfl,_,_,hc⟩
 ·cases a with
  | none=>exact run_convert_bytes_nil (P:=Tryz.prog) (w:=w) 121 5 Tryz.underlying121 Tryz.underlying5 0 0 9 Tryz.underlying9
  | some ad=>exact run_convert_bytes_back (P:=Tryz.prog) w 121 9 5 ad 0 [] Tryz.underlying121 Tryz.underlying5 Tryz.underlying9 (fun j hj=>absurd hj (by simp))
 ·have hl:(l.map bch).length=l.length:=List.length_map ..
  have:=run_convert_bytes_back (P:=Tryz.prog) w 121 9 5 ⟨g,off,none⟩ cap (l.map bch) Tryz.underlying121 Tryz.underlying5 Tryz.underlying9 (fun j hj=>by
   have hj':j<l.length:=by rw[← hl];exact hj
   have h1:=hc j l[j] (List.getElem?_eq_getElem hj') 0 _ rfl;rw[add_none,List.getElem_map];simpa using h1)
  rw[hl] at this;exact this
theorem str_ix (s:ByteArray) (n k:Nat) (o:UInt8) (hn:s.size=n) (hk:k<n) (ho:s.data.toList[k]?=some o) (w:World):(Instr.index 9 (.string s) (.int .i64 (k:Int))).run Tryz.prog w=.ok (.int .u8 o.toNat) w:=by
 have hi:k<s.data.toList.length:=by rw[Array.length_toList];show k<s.size;omega
 rw[run_index_string (P:=Tryz.prog) w 9 s .i64 k Tryz.underlying9,dif_pos ⟨by omega,by omega⟩];rw[List.getElem?_eq_getElem hi] at ho;have:s[(k:Int).toNat]'(by omega)=o:=Option.some.inj ho
 rw[this]
theorem octBits_at (o:UInt8) (j:Nat) (hj:j<8):(octBits o)[j]?=some (o.toNat.testBit j):=by
 match j,hj with
 | 0,_=>rfl
 | 1,_=>rfl
 | 2,_=>rfl
 | 3,_=>rfl
 | 4,_=>rfl
 | 5,_=>rfl
 | 6,_=>rfl
 | 7,_=>rfl
theorem ofBits_app (a b:List UInt8):ofBits (a++b)=ofBits a++ofBits b:=by unfold ofBits;rw[List.flatMap_append]
theorem rb_of (s:ByteArray) (w0 w:World) (R:HP) (h:St w0 w R) (hs:s.size<=100000000) :
  Calls Tryz.prog 109 #[.string s] w fun r w'=>r=.returned (.string (bstr (ofBits s.data.toList)))/\St w0 w' R:=by
 obtain⟨n,hn⟩:∃ n,s.size=n:=⟨_,rfl⟩;have h2:=h.l_nil 5 1 encCh;have HN:=Lib.hid hn;rw[hn] at hs;have HH:=Lib.hid h2;clear h h2;go_enter Tryz.func109,Tryz.ntmps109
 go_wp2;go_loopw [3,4] (fun s3 s4 wr=>∃ (v3:Value) (k:Nat),v3=s3/\k<=n/\s4=.int .i64 k/\Hid (St w0 wr (LAt 5 1 encCh s3 (ofBits (s.data.toList.take k))*R))) (fun _ s4 _=>n - (intOf s4).toNat)
 case atStart=>exact⟨_,0,rfl,by omega,rfl,HH⟩
 case round =>
  clear HH;obtain⟨v3,k,rfl,hk,rfl,HI⟩:=hrel;by_cases hlt:k<n
  ·have hkn:(k:Int)<n:=by omega
   have hi:k<s.data.toList.length:=by rw[Array.length_toList];show k<s.size;rw[HN.out];exact hlt
   obtain⟨o,ho⟩:∃ o,s.data.toList[k]?=some o:=⟨s.data.toList[k],List.getElem?_eq_getElem hi⟩;have hx:=str_ix s n k o HN.out hlt ho;have htk:ofBits (s.data.toList.take (k+1))=ofBits (s.data.toList.take k)++octBits o:=by
    rw[List.take_add_one,ho,Option.toList_some,ofBits_app];show _++(octBits o++[])=_
    rw[List.append_nil]
   have HT:=Lib.hid htk;have hll:(ofBits (s.data.toList.take k)).length<=800000000:=by rw[ofBits_len,List.length_take];omega
   generalize ofBits (s.data.toList.take k)=pre at *;have HI1:=Lib.hid (show St w0 _ (LAt 5 1 encCh v3 (pre++(octBits o).take 0)*R) from by rw[List.take_zero,List.append_nil];exact HI.out);have HL:=Lib.hid hll;clear HI htk hi ho hll;go_wp2;go_loopw [3,5,6] (fun s3 s5 s6 wr=>∃ (v4:Value) (j:Nat),v4=s3/\j<=8/\s6=.int .i64 j/\s5=.int .i64 ((o.toNat / 2 ^ j:Nat):Int)/\Hid (St w0 wr (LAt 5 1 encCh s3 (pre++(octBits o).take j)*R))) (fun _ _ s6 _=>8 - (intOf s6).toNat)
   case atStart=>exact⟨_,0,rfl,by omega,rfl,by have h1:=o.toNat_lt;rw[Nat.pow_zero,Nat.div_one];congr 1;unfold wrap64;omega,HI1⟩
   case round =>
    clear HI1 hx;obtain⟨v4,j,rfl,hj,rfl,rfl,HI2⟩:=hrel;by_cases hj8:j<8
    ·have hji:(j:Int)<8:=by omega
     have hb:=octBits_at o j hj8;have hn2:pre++(octBits o).take (j+1)=(pre++(octBits o).take j)++[o.toNat.testBit j]:=by rw[List.take_add_one,hb,Option.toList_some,List.append_assoc]
     have hq2:o.toNat / 2 ^ (j+1)=o.toNat / 2 ^ j / 2:=by rw[Nat.pow_succ,Nat.div_div_eq_div_mul]
     have hmod:o.toNat / 2 ^ j % 2=bitN (o.toNat.testBit j):=by
      unfold bitN;rw[Nat.testBit_eq_decide_div_mod_eq];by_cases e:o.toNat / 2 ^ j % 2=1 <;> simp[e] <;> omega
     have hlen:((octBits o).take j).length=j:=by rw[List.length_take];show min j 8=j;omega
     have HZ:=Lib.hid (show ((pre++(octBits o).take j).length+1)*1<=140737488355328 by have:=HL.out;rw[List.length_append,hlen];omega);generalize hq:o.toNat / 2 ^ j=q at *;have hq3:q<256:=by have:=o.toNat_lt;rw[← hq];exact Nat.lt_of_le_of_lt (Nat.div_le_self _ _) this
     have hd:(q:Int) / 2=((q / 2:Nat):Int):=by omega
     have hd2:Int.tdiv (q:Int) 2=((q / 2:Nat):Int):=by rw[Int.tdiv_eq_ediv_of_nonneg (by omega)];omega
     generalize q / 2=q2 at *;have HQ:=Lib.hid hq2;generalize pre++(octBits o).take j=L at *;clear hb hq2 hlen;cases hbb:o.toNat.testBit j with
     | true =>
       rw[hbb] at hmod hn2;have hr:(q:Int) % 2=1:=by have:q % 2=1:=hmod;omega
       have hr2:Int.tmod (q:Int) 2=1:=by rw[Int.tmod_eq_emod_of_nonneg (by omega)];exact hr
       clear hmod hbb hq;have hA:=(HI2.out.alloc (.cells #[.int .u8 (bch true).toNat] 5)).drop;have hg:=HI2.out.alloc (.cells #[.int .u8 (bch true).toNat] 5);have hz:=HZ.out;clear HI2;go_wp2_with (at_builtin;refine wp_append_elem rfl (.tmp 21) (.tmp 26) rfl tyCh hA true rfl _ rfl (new_cells _ [.int .u8 (bch true).toNat] _ _ (by simp)) (by omega) ?hk1;(case' hk1=>(intro g off cap w8 h8)))
       have HS:=Lib.hid h8;clear h8 hA hg hz;go_wp2;go_roundw
       case rel =>
        refine⟨_,j+1,rfl,by omega,by go_num,by rw[HQ.out],Lib.hid ?_⟩
        rw[hn2];exact HS.out
       case measure=>simp[intOf];omega
     | false =>
       rw[hbb] at hmod hn2;have hr:(q:Int) % 2=0:=by have:q % 2=0:=hmod;omega
       have hr2:Int.tmod (q:Int) 2=0:=by rw[Int.tmod_eq_emod_of_nonneg (by omega)];exact hr
       clear hmod hbb hq;have hA:=(HI2.out.alloc (.cells #[.int .u8 (bch false).toNat] 5)).drop;have hg:=HI2.out.alloc (.cells #[.int .u8 (bch false).toNat] 5);have hz:=HZ.out;clear HI2;go_wp2_with (at_builtin;refine wp_append_elem rfl (.tmp 21) (.tmp 26) rfl tyCh hA false rfl _ rfl (new_cells _ [.int .u8 (bch false).toNat] _ _ (by simp)) (by omega) ?hk2;(case' hk2=>(intro g off cap w8 h8)))
       have HS:=Lib.hid h8;clear h8 hA hg hz;go_wp2;go_roundw
       case rel =>
        refine⟨_,j+1,rfl,by omega,by go_num,by rw[HQ.out],Lib.hid ?_⟩
        rw[hn2];exact HS.out
       case measure=>simp[intOf];omega
    ·obtain rfl:j=8:=by omega
     have hz:St w0 wr (LAt 5 1 encCh v4 (ofBits (s.data.toList.take (k+1)))*R):=by
      rw[HT.out];have:=HI2.out
      rwa [show (octBits o).take 8=octBits o from rfl] at this
     have HS:=Lib.hid hz;clear HI2 hz;go_wp2;go_roundw
     case rel=>exact⟨_,k+1,rfl,by omega,by go_num,HS⟩
     case measure=>simp[intOf];omega
  ·obtain rfl:k=n:=by omega
   have hz:=HI.out;rw[List.take_of_length_le (by rw[Array.length_toList];show s.size<=_;rw[HN.out];exact Nat.le_refl _)] at hz;have hq:=hz.l_bits;clear HI;go_wp2;go_ret
   exact⟨rfl,hz.drop⟩
theorem rh_stuff (l:List Bool) (w0 w:World) (R:HP) (h:St w0 w R) (hs:l.length<=100000000) :
  Calls Tryz.prog 110 #[.string (bstr l)] w fun r w'=>r=.returned (.string (bstr (stuffK l 0)))/\St w0 w' R:=by
 obtain⟨n,hnl⟩:∃ n,l.length=n:=⟨_,rfl⟩;have hn:(bstr l).size=n:=(bstr_size l).trans hnl;have hat:=bstr_at l;generalize bstr l=s at *;obtain⟨Z,hZ⟩:∃ Z,stuffK l 0=Z:=⟨_,rfl⟩;rw[hZ];have HZ:=Lib.hid hZ;have HN:=Lib.hid hnl;have HH:=Lib.hid (h.l_nil 5 1 encCh);rw[hnl] at hs;clear h hZ hnl;go_enter Tryz.func110,Tryz.ntmps110
 go_wp2;go_loopw [3,4,5] (fun s3 s4 s5 wr=>∃ (v:Value) (k m:Nat) (acc:List Bool),v=s3/\k<=n/\m<5/\acc.length<=2*k/\s5=.int .i64 k/\s4=.int .i64 m/\Hid (acc++stuffK (l.drop k) m=Z/\St w0 wr (LAt 5 1 encCh v acc*R))) (fun _ _ s5 _=>n - (intOf s5).toNat)
 case atStart=>exact⟨_,0,0,[],rfl,by omega,by omega,by simp,rfl,rfl,Lib.hid ⟨HZ.out,HH.out⟩⟩
 case round =>
  clear HH;obtain⟨v,k,m,acc,rfl,hk,hm,hacc,rfl,rfl,HI⟩:=hrel;by_cases hlt:k<n
  ·have hkn:(k:Int)<n:=by omega
   have hil:k<l.length:=by rw[HN.out];exact hlt
   obtain⟨b,hb⟩:∃ b,l[k]?=some b:=⟨l[k],List.getElem?_eq_getElem hil⟩;have hx:=hat k b hb;have hd:l.drop k=b :: l.drop (k+1):=by
    rw[List.drop_eq_getElem_cons hil];rw[List.getElem?_eq_getElem hil] at hb;rw[Option.some.inj hb]
   obtain⟨he,hst⟩:=HI.out;rw[hd] at he;obtain⟨na,hna⟩:∃ na,acc.length=na:=⟨_,rfl⟩;clear hat hb hd hil HI;cases b with
   | true =>
     have hA:=(hst.alloc (.cells #[.int .u8 (bch true).toNat] 5)).drop;have hg:=hst.alloc (.cells #[.int .u8 (bch true).toNat] 5);by_cases h4:m=4
     ·subst h4
      have HE:=Lib.hid (show acc++(true :: false :: stuffK (l.drop (k+1)) 0)=Z from he);clear he hst;go_upto_region 8 with (at_builtin;refine wp_append_elem rfl (.tmp 16) (.tmp 17) rfl tyCh hA true rfl _ rfl (new_cells _ [.int .u8 (bch true).toNat] _ _ (by simp)) (by omega) ?ha;(case' ha=>(intro g off cap w8 h8;rw[hna] at h8)))
      obtain⟨a2,ha2⟩:∃ a2,acc++[true]=a2:=⟨_,rfl⟩;rw[ha2] at h8;have hn2:a2.length=na+1:=by rw[← ha2,List.length_append,hna];rfl
      have hA2:=(h8.alloc (.cells #[.int .u8 (bch false).toNat] 5)).drop;have hg2:=h8.alloc (.cells #[.int .u8 (bch false).toNat] 5);have HA2:=Lib.hid ha2;clear hA hg h8 ha2;go_wp2_with (at_builtin;refine wp_append_elem rfl (.tmp 26) (.tmp 27) rfl tyCh hA2 false rfl _ rfl (new_cells _ [.int .u8 (bch false).toNat] _ _ (by simp)) (by omega) ?hb;(case' hb=>(intro g2 off2 cap2 w9 h9;rw[hn2] at h9)))
      rw[← HA2.out] at h9;have HS:=Lib.hid h9;clear hA2 hg2 h9 hn2 HA2;go_wp2;go_roundw
      case rel =>
       refine⟨_,k+1,0,_,rfl,by omega,by omega,?_,by go_num,by go_num,Lib.hid ⟨?_,HS.out⟩⟩
       ·simp only[List.length_append,List.length_cons,List.length_nil];omega
       ·rw[← HE.out];simp
      case measure=>simp[intOf];omega
     ·have HE:=Lib.hid (show acc++(true :: stuffK (l.drop (k+1)) (m+1))=Z from by rw[← he];show _=acc++(if m=4 then _ else _);rw[if_neg h4])
      have q5:(((m:Int)+1) == 5)=false:=by simp;omega
      clear he hst;go_wp2_with (at_builtin;refine wp_append_elem rfl (.tmp 16) (.tmp 17) rfl tyCh hA true rfl _ rfl (new_cells _ [.int .u8 (bch true).toNat] _ _ (by simp)) (by omega) ?hc;(case' hc=>(intro g off cap w8 h8;rw[hna] at h8)))
      have HS:=Lib.hid h8;clear hA hg h8 q5;go_wp2;go_roundw
      case rel =>
       refine⟨_,k+1,(m+1),_,rfl,by omega,by omega,?_,by go_num,by go_num,Lib.hid ⟨?_,HS.out⟩⟩
       ·simp only[List.length_append,List.length_cons,List.length_nil];omega
       ·rw[← HE.out];simp
      case measure=>simp[intOf];omega
   | false =>
     have hA:=(hst.alloc (.cells #[.int .u8 (bch false).toNat] 5)).drop;have hg:=hst.alloc (.cells #[.int .u8 (bch false).toNat] 5);have HE:=Lib.hid (show acc++(false :: stuffK (l.drop (k+1)) 0)=Z from he);clear he hst;go_wp2_with (at_builtin;refine wp_append_elem rfl (.tmp 21) (.tmp 22) rfl tyCh hA false rfl _ rfl (new_cells _ [.int .u8 (bch false).toNat] _ _ (by simp)) (by omega) ?hd;(case' hd=>(intro g off cap w8 h8;rw[hna] at h8)))
     have HS:=Lib.hid h8;clear hA hg h8;go_wp2;go_roundw
     case rel =>
      refine⟨_,k+1,0,_,rfl,by omega,by omega,?_,by go_num,by go_num,Lib.hid ⟨?_,HS.out⟩⟩
      ·simp only[List.length_append,List.length_cons,List.length_nil];omega
      ·rw[← HE.out];simp
     case measure=>simp[intOf];omega
  ·obtain rfl:k=n:=by omega
   obtain⟨he,hst⟩:=HI.out;rw[List.drop_eq_nil_of_le (by rw[HN.out];exact Nat.le_refl _)] at he;have he:acc=Z:=by rw[← he];unfold stuffK;rw[List.append_nil]
   rw[he] at hst;have hq:=hst.l_bits;clear HI hat he;go_wp2;go_ret
   exact⟨rfl,hst.drop⟩
theorem rh_encode (s:ByteArray) (w0 w:World) (R:HP) (h:St w0 w R) (hs:s.size<=10000000) :
  Calls Tryz.prog 49 #[.string s] w fun e w'=>e=.returned (.string (bstr (encB s.data.toList)))/\St w0 w' R:=by
 have hof:=rb_of s w0 w R h (by omega);have hl:(ofBits s.data.toList).length<=100000000:=by
  rw[ofBits_len];have:s.data.toList.length=s.size:=Array.length_toList
  omega
 have hst:=fun v h=>rh_stuff (ofBits s.data.toList) w0 v R h hl
 have hfl:bstr flagB=(⟨#[48,49,49,49,49,49,49,48]⟩:ByteArray):=rfl;have hen:bstr (encB s.data.toList)=(⟨#[48,49,49,49,49,49,49,48]⟩:ByteArray)++bstr (stuffK (ofBits s.data.toList) 0)++⟨#[48,49,49,49,49,49,49,48]⟩:=by
  unfold encB;rw[bstr_app,bstr_app,hfl]
 rw[hen];have hz:(bstr (stuffK (ofBits s.data.toList) 0)).size<=400000000:=by
  rw[bstr_size];have:=stuffK_len (ofBits s.data.toList) 0
  omega
 generalize bstr (ofBits s.data.toList)=x at *;generalize bstr (stuffK (ofBits s.data.toList) 0)=y at *;have z1:¬ 9223372036854775807<(⟨#[48,49,49,49,49,49,49,48]⟩:ByteArray).size+y.size:=by show ¬ 9223372036854775807<8+y.size;omega
 have z2:¬ 9223372036854775807<((⟨#[48,49,49,49,49,49,49,48]⟩:ByteArray)++y).size+(⟨#[48,49,49,49,49,49,49,48]⟩:ByteArray).size:=by rw[ByteArray.size_append];show ¬ 9223372036854775807<8+y.size+8;omega
 clear hz hl hfl hen;go_enter Tryz.func49,Tryz.ntmps49
 go_wp2_with fail
 refine hof.mono ?_
 rintro e w1 ⟨rfl,h1⟩;have hc:=hst w1 h1;clear hof hst;go_wp2_with fail
 refine hc.mono ?_
 rintro e w2 ⟨rfl,h2⟩;go_wp2;go_ret
 exact⟨rfl,h2⟩
def refBit (r b:Nat):Nat:=if r % 2≠b then (r / 2) ^^^ 33800 else r / 2
def refBits:Nat->Nat->Nat->Nat
 | 0,r,_=>r
 | n+1,r,o=>refBits n (refBit r (o % 2)) (o / 2)
theorem xor16 {a b:Nat} (ha:a<65536) (hb:b<65536):a ^^^ b<65536:=Nat.xor_lt_two_pow (n:=16) ha hb
theorem refBit_lt {r:Nat} (h:r<65536) (b:Nat):refBit r b<65536:=by
 unfold refBit;split
 ·exact xor16 (by omega) (by decide)
 ·omega
theorem bitStep_nat {r:Nat} (h:r<65536):bitStep (r:Int)=((if r % 2=1 then (r / 2) ^^^ 33800 else r / 2:Nat):Int):=by
 unfold bitStep;have e1:bits .and .u16 (r:Int) 1=((r % 2:Nat):Int):=by
  have:=u16_and_nat r 1 h (by decide)
  rw[Nat.and_one_is_mod] at this;exact this
 have e2:((r:Int) / 2)=((r / 2:Nat):Int):=by omega
 rw[e1,e2];by_cases hr:r % 2=1
 ·rw[if_pos hr,hr]
  exact u16_xor_nat (r / 2) 33800 (by omega) (by decide)
 ·have h0:r % 2=0:=by omega
  rw[if_neg hr,h0];have:=u16_xor_nat (r / 2) 0 (by omega) (by decide)
  rw[Nat.xor_zero] at this;exact this
theorem bitSteps_nat:∀ (n r o:Nat),r<65536->o<65536->bitSteps n ((r ^^^ o:Nat):Int)=((refBits n r o ^^^ (o / 2 ^ n):Nat):Int)
 | 0,r,o,_,_=>by show _=((r ^^^ (o / 1):Nat):Int);rw[Nat.div_one];rfl
 | n+1,r,o,hr,ho=>by
   show bitSteps n (bitStep ((r ^^^ o:Nat):Int))=((refBits n (refBit r (o % 2)) (o / 2) ^^^ (o / 2 ^ (n+1)):Nat):Int)
   have e:bitStep ((r ^^^ o:Nat):Int)=((refBit r (o % 2) ^^^ (o / 2):Nat):Int):=by
    rw[bitStep_nat (xor16 hr ho)];have hd:(r ^^^ o) / 2=(r / 2) ^^^ (o / 2):=Nat.xor_div_two;have hm:(r ^^^ o) % 2=1↔r % 2≠o % 2:=by
     have h1:=Nat.testBit_xor r o 0;simp only[Nat.testBit_zero] at h1;have er:=Nat.mod_two_eq_zero_or_one r;have eo:=Nat.mod_two_eq_zero_or_one o;have ex:=Nat.mod_two_eq_zero_or_one (r ^^^ o);rcases er with er | er <;> rcases eo with eo | eo <;> rcases ex with ex | ex <;> simp[er,eo,ex] at h1 ⊢
    rw[hd];unfold refBit;by_cases hc:r % 2≠o % 2
    ·rw[if_pos (hm.2 hc),if_pos hc,Nat.xor_assoc,Nat.xor_assoc,Nat.xor_comm (o / 2) 33800]
    ·rw[if_neg (fun h=>hc (hm.1 h)),if_neg hc]
   rw[e,bitSteps_nat n _ _ (refBit_lt hr _) (by omega),Nat.pow_succ,Nat.mul_comm (2 ^ n) 2,← Nat.div_div_eq_div_mul]
theorem stepR_nat {r o:Nat} (hr:r<65536) (ho:o<256):stepR (r:Int) (o:Int)=(refBits 8 r o:Int):=by
 unfold stepR;rw[u16_xor_nat r o hr (by omega),bitSteps_nat 8 r o hr (by omega)];have:o / 2 ^ 8=0:=Nat.div_eq_of_lt ho
 rw[this,Nat.xor_zero]
theorem refBits_lt:∀ (n r o:Nat),r<65536->refBits n r o<65536
 | 0,_,_,h=>h
 | n+1,_,_,h=>refBits_lt n _ _ (refBit_lt h _)
def sumN:List UInt8->Nat->Nat
 | [],r=>r
 | o :: l,r=>sumN l (refBits 8 r o.toNat)
theorem sumN_lt:∀ (l:List UInt8) (r:Nat),r<65536->sumN l r<65536
 | [],_,h=>h
 | _ :: l,r,h=>sumN_lt l _ (refBits_lt 8 r _ h)
theorem sumR_nat:∀ (l:List UInt8) (r:Nat),r<65536->sumR l (r:Int)=(sumN l r:Int)
 | [],_,_=>rfl
 | o :: l,r,h=>by
   show sumR l (stepR (r:Int) (o.toNat:Int))=_
   rw[stepR_nat h o.toNat_lt];exact sumR_nat l _ (refBits_lt 8 r _ h)
theorem xor_max {r:Nat} (h:r<65536):65535 ^^^ r=65535 - r:=by
 have e:65535 - r=2 ^ 16 - (r+1):=by omega
 rw[e];apply Nat.eq_of_testBit_eq
 intro i;rw[Nat.testBit_two_pow_sub_succ h,Nat.testBit_xor,show (65535:Nat)=2 ^ 16 - 1 from rfl,Nat.testBit_two_pow_sub_one];by_cases hi:i<16
 ·simp[hi]
 ·have:r.testBit i=false:=Nat.testBit_lt_two_pow (Nat.lt_of_lt_of_le h (Nat.pow_le_pow_right (show 0<2 by decide) (show 16<=i by omega)))
  simp[hi,this]
theorem sumOf_nat (s:ByteArray):sumOf s=((65535 - sumN s.data.toList 65535:Nat):Int):=by
 have h:=sumN_lt s.data.toList 65535 (by decide);unfold sumOf;rw[show (65535:Int)=((65535:Nat):Int) from rfl,sumR_nat s.data.toList 65535 (by decide)];exact (u16_xor_nat 65535 _ (by decide) h).trans (by rw[xor_max h])
theorem rf_unlike (a b:Nat) (ha:a<65536) (hb:b<65536) (w0 w:World) (R:HP) (h:St w0 w R):Calls Tryz.prog 283 #[.int .i64 a,.int .i64 b] w fun r w'=>r=.returned (.int .i64 ((a ^^^ b:Nat):Int))/\St w0 w' R:=by
 have hx:=xor16 ha hb;have HX:=Lib.hid hx;clear hx;go_enter Tryz.func283,Tryz.ntmps283
 go_wp2;go_loopw [5,6,7] (fun s5 s6 s7 wr=>∃ i:Nat,St w0 wr R/\i<=16/\s7=.int .i64 i/\s6=.int .i64 ((2 ^ i:Nat):Int)/\s5=.int .i64 (((a ^^^ b) % 2 ^ i:Nat):Int)) (fun _ _ s7 _=>16 - (intOf s7).toNat)
 case atStart=>exact⟨0,h,by omega,rfl,rfl,by simp⟩
 case round =>
  clear h;obtain⟨i,h1,hi,rfl,rfl,rfl⟩:=hrel;by_cases hlt:i<16
  ·have hil:(i:Int)<16:=by omega
   have hp0:0<2 ^ i:=Nat.two_pow_pos i;have hp1:2 ^ i<=2 ^ 15:=Nat.pow_le_pow_right (by decide) (by omega);have HP:=Lib.hid (show 2*2 ^ i=2 ^ (i+1) by rw[Nat.pow_succ];omega);have hm:(a ^^^ b) % 2 ^ (i+1)=(a ^^^ b) % 2 ^ i+2 ^ i*((a ^^^ b) / 2 ^ i % 2):=Nat.mod_pow_succ;have ht:(a ^^^ b) / 2 ^ i % 2=if a / 2 ^ i % 2=b / 2 ^ i % 2 then 0 else 1:=by
    have h1:=Nat.testBit_xor a b i;rw[Nat.testBit_eq_decide_div_mod_eq,Nat.testBit_eq_decide_div_mod_eq,Nat.testBit_eq_decide_div_mod_eq] at h1;have ea:=Nat.mod_two_eq_zero_or_one (a / 2 ^ i);have eb:=Nat.mod_two_eq_zero_or_one (b / 2 ^ i);have ex:=Nat.mod_two_eq_zero_or_one ((a ^^^ b) / 2 ^ i);rcases ea with ea | ea <;> rcases eb with eb | eb <;> rcases ex with ex | ex <;> simp[ea,eb,ex] at h1 ⊢
   rw[ht] at hm;have hn:(a ^^^ b) % 2 ^ i<2 ^ i:=Nat.mod_lt _ hp0;generalize (a ^^^ b) % 2 ^ i=n1 at *;generalize 2 ^ i=p at *;have hpn:(p:Int)≠0:=by omega
   have d1:Int.tdiv (a:Int) (p:Int)=((a / p:Nat):Int):=by rw[Int.tdiv_eq_ediv_of_nonneg (Int.natCast_nonneg _)];rfl
   have d2:Int.tdiv (b:Int) (p:Int)=((b / p:Nat):Int):=by rw[Int.tdiv_eq_ediv_of_nonneg (Int.natCast_nonneg _)];rfl
   have d3:(a:Int) / (p:Int)=((a / p:Nat):Int):=rfl;have d4:(b:Int) / (p:Int)=((b / p:Nat):Int):=rfl;have m1:((a / p:Nat):Int) % 2=((a / p % 2:Nat):Int):=rfl;have m2:((b / p:Nat):Int) % 2=((b / p % 2:Nat):Int):=rfl;have m3:Int.tmod ((a / p:Nat):Int) 2=((a / p % 2:Nat):Int):=by rw[Int.tmod_eq_emod_of_nonneg (Int.natCast_nonneg _)];rfl
   have m4:Int.tmod ((b / p:Nat):Int) 2=((b / p % 2:Nat):Int):=by rw[Int.tmod_eq_emod_of_nonneg (Int.natCast_nonneg _)];rfl
   have b1:a / p<=a:=Nat.div_le_self _ _;have b2:b / p<=b:=Nat.div_le_self _ _;have b3:a / p % 2<2:=Nat.mod_lt _ (by decide);have b4:b / p % 2<2:=Nat.mod_lt _ (by decide);generalize a / p % 2=x at *;generalize b / p % 2=y at *;generalize a / p=qa at *;generalize b / p=qb at *;by_cases hxy:x=y
   ·rw[if_pos hxy,Nat.mul_zero,Nat.add_zero] at hm
    have HQ:=Lib.hid hm;have q:((x:Int) != (y:Int))=false:=by simp[hxy]
    clear hm ht hxy;go_upto_region 6 with fail
    go_quiet (fail)
    go_wp2;go_roundw
    case rel=>exact⟨i+1,h1.drewN _,by omega,by go_num,by rw[← HP.out];simp,by rw[HQ.out,Nat.add_zero]⟩
    case measure=>simp[intOf];omega
   ·rw[if_neg hxy,Nat.mul_one] at hm
    have HQ:=Lib.hid hm;have q:((x:Int) != (y:Int))=true:=by simp;omega
    clear hm ht hxy;go_upto_region 6 with fail
    go_quiet (fail)
    go_wp2;go_roundw
    case rel=>exact⟨i+1,h1.drewN _,by omega,by go_num,by rw[← HP.out];simp,by rw[HQ.out];simp⟩
    case measure=>simp[intOf];omega
  ·obtain rfl:i=16:=by omega
   go_wp2;go_ret
   refine⟨?_,h1⟩
   show Ending.returned (.int .i64 (((a ^^^ b) % 2 ^ 16:Nat):Int))=_
   rw[Nat.mod_eq_of_lt HX.out]
theorem rf_bit (r b:Nat) (hr:r<65536) (w0 w:World) (R:HP) (h:St w0 w R) :
  Calls Tryz.prog 261 #[.int .i64 r,.int .i64 b] w fun e w'=>e=.returned (.int .i64 ((refBit r b:Nat):Int))/\St w0 w' R:=by
 have d1:(r:Int) % 2=((r % 2:Nat):Int):=rfl;have d2:Int.tmod (r:Int) 2=((r % 2:Nat):Int):=by rw[Int.tmod_eq_emod_of_nonneg (Int.natCast_nonneg _)];rfl
 have d3:(r:Int) / 2=((r / 2:Nat):Int):=rfl;have d4:Int.tdiv (r:Int) 2=((r / 2:Nat):Int):=by rw[Int.tdiv_eq_ediv_of_nonneg (Int.natCast_nonneg _)];rfl
 have hm:r % 2<2:=Nat.mod_lt _ (by decide);have hq:r / 2<65536:=by omega
 unfold refBit;have hu:=fun w h=>rf_unlike (r / 2) 33800 hq (by decide) w0 w R h
 generalize r % 2=x at *;generalize r / 2=q at *;by_cases hx:x=b
 ·rw[if_neg (by simpa using hx)]
  have e:((x:Int) != (b:Int))=false:=by simp[hx]
  clear hu hx;go_enter Tryz.func261,Tryz.ntmps261
  go_wp2;go_ret
  exact⟨rfl,h⟩
 ·rw[if_pos hx]
  have e:((x:Int) != (b:Int))=true:=by simp;omega
  have hc:=hu w h;clear hx hu;go_enter Tryz.func261,Tryz.ntmps261
  go_wp2_with fail
  refine hc.mono ?_
  rintro r w1 ⟨rfl,h1⟩;go_wp2;go_ret
  exact⟨rfl,h1⟩
theorem testBit_div (o j:Nat):bitN (o.testBit j)=o / 2 ^ j % 2:=by
 unfold bitN;rw[Nat.testBit_eq_decide_div_mod_eq];by_cases e:o / 2 ^ j % 2=1 <;> simp[e];omega
theorem refBits_step:∀ (j n r o:Nat),refBits (n+1) (refBits j r o) (o / 2 ^ j)=refBits n (refBits (j+1) r o) (o / 2 ^ (j+1))
 | 0,n,r,o=>by
   show refBits n (refBit r (o / 2 ^ 0 % 2)) (o / 2 ^ 0 / 2)=refBits n (refBit r (o % 2)) (o / 2 ^ 1)
   rw[Nat.pow_zero,Nat.div_one]
 | j+1,n,r,o=>by
   have h:=refBits_step j n (refBit r (o % 2)) (o / 2);rw[Nat.div_div_eq_div_mul,Nat.div_div_eq_div_mul,show 2*2 ^ j=2 ^ (j+1) by rw[Nat.pow_succ];omega,show 2*2 ^ (j+1)=2 ^ (j+1+1) by rw[Nat.pow_succ 2 (j+1)];omega] at h;exact h
theorem refBits_snoc (j r o:Nat):refBits (j+1) r o=refBit (refBits j r o) (o / 2 ^ j % 2):=by
 have:=refBits_step j 0 r o
 exact this.symm
theorem rf_step (r:Nat) (o:UInt8) (hr:r<65536) (w0 w:World) (R:HP) (h:St w0 w R) :
  Calls Tryz.prog 228 #[.int .i64 r,.int .u8 o.toNat] w fun e w'=>e=.returned (.int .i64 ((refBits 8 r o.toNat:Nat):Int))/\St w0 w' R:=by
 have h1:=h.alloc (.cells #[.int .u8 o.toNat] 5);have hcv:=run_convert_bytes_back (P:=Tryz.prog) (w.alloc (.cells #[.int .u8 o.toNat] 5)) 121 9 5 ⟨w.heap.size,0,none⟩ 1 [o] Tryz.underlying121 Tryz.underlying5 Tryz.underlying9 (fun j hj=>by
  obtain rfl:j=0:=by simp at hj;omega
  rw[add_none];exact (h1.cell 0).trans rfl)
 simp only[List.length_singleton] at hcv;have hof:=rb_of ⟨#[o]⟩ w0 _ _ h1 (by show 1<=100000000;decide);have e1:ofBits ((⟨#[o]⟩:ByteArray).data.toList)=octBits o:=by show octBits o++[]=octBits o;rw[List.append_nil]
 rw[e1] at hof;have hat:=fun j hj=>bstr_at (octBits o) j _ (octBits_at o j hj)
 have e2:(⟨[o].toArray⟩:ByteArray)=⟨#[o]⟩:=rfl;rw[e2] at hcv;generalize bstr (octBits o)=s at *;generalize (⟨#[o]⟩:ByteArray)=os at *;have HH:=Lib.hid hr;clear e1 e2 h;go_enter Tryz.func228,Tryz.ntmps228
 go_wp2_with fail
 refine hof.mono ?_
 rintro e w1 ⟨rfl,h2⟩;have h3:=h2.drop;clear hof hcv h1 h2;go_wp2;go_loopw [0,6] (fun s0 s6 wr=>∃ j:Nat,j<=8/\St w0 wr R/\s6=.int .i64 j/\s0=.int .i64 ((refBits j r o.toNat:Nat):Int)) (fun _ s6 _=>8 - (intOf s6).toNat)
 case atStart=>exact⟨0,by omega,h3,rfl,rfl⟩
 case round =>
  clear h3;obtain⟨j,hj,h3,rfl,rfl⟩:=hrel;by_cases hlt:j<8
  ·have hil:(j:Int)<8:=by omega
   have hx:=hat j hlt;have hs:=refBits_snoc j r o.toNat;rw[← testBit_div] at hs;have hl:=refBits_lt j r o.toNat HH.out;have HS:=Lib.hid hs;generalize refBits j r o.toNat=q at *;have hc:=rf_bit q (bitN (o.toNat.testBit j)) hl w0 wr R h3;have HT:=Lib.hid hat;clear hs hat h3;cases hb:o.toNat.testBit j with
   | true =>
     rw[hb] at hx hc HS;have hc:Calls Tryz.prog 261 #[.int .i64 q,.int .i64 1] wr fun e w'=>e=.returned (.int .i64 ((refBit q (bitN true):Nat):Int))/\St w0 w' R:=hc
     clear hb;go_wp2_with fail
     refine hc.mono ?_
     rintro e w2 ⟨rfl,h4⟩;clear hc hx;go_wp2;go_roundw
     case rel=>exact⟨j+1,by omega,h4,by go_num,by rw[HS.out]⟩
     case measure=>simp[intOf];omega
   | false =>
     rw[hb] at hx hc HS;have hc:Calls Tryz.prog 261 #[.int .i64 q,.int .i64 0] wr fun e w'=>e=.returned (.int .i64 ((refBit q (bitN false):Nat):Int))/\St w0 w' R:=hc
     clear hb;go_wp2_with fail
     refine hc.mono ?_
     rintro e w2 ⟨rfl,h4⟩;clear hc hx;go_wp2;go_roundw
     case rel=>exact⟨j+1,by omega,h4,by go_num,by rw[HS.out]⟩
     case measure=>simp[intOf];omega
  ·obtain rfl:j=8:=by omega
   go_wp2;go_ret
   exact⟨rfl,h3⟩
theorem rf_sum (s:ByteArray) (w0 w:World) (R:HP) (h:St w0 w R) (hs:s.size<=1000000000) :
  Calls Tryz.prog 181 #[.string s] w fun e w'=>e=.returned (.int .i64 (sumOf s))/\St w0 w' R:=by
 rw[sumOf_nat];obtain⟨X,hX⟩:∃ X,sumN (s.data.toList.drop 0) 65535=X:=⟨_,rfl⟩;have hX2:sumN s.data.toList 65535=X:=hX;rw[hX2];have hl:=sumN_lt s.data.toList 65535 (by decide);rw[hX2] at hl;have HX:=Lib.hid hX;obtain⟨n,hn⟩:∃ n,s.size=n:=⟨_,rfl⟩;rw[hn] at hs;have HN:=Lib.hid hn;clear hX hX2;go_enter Tryz.func181,Tryz.ntmps181
 go_wp2;go_loopw [3,4] (fun s3 s4 wr=>∃ (k q:Nat),k<=n/\q<65536/\s4=.int .i64 k/\s3=.int .i64 q/\Hid (sumN (s.data.toList.drop k) q=X)/\St w0 wr R) (fun _ s4 _=>n - (intOf s4).toNat)
 case atStart=>exact⟨0,65535,by omega,by omega,rfl,rfl,HX,h⟩
 case round =>
  clear HX h;obtain⟨k,q,hk,hq,rfl,rfl,HX,h1⟩:=hrel;by_cases hlt:k<n
  ·have h8:(k:Int)<n:=by omega
   have hi:k<s.data.toList.length:=by rw[Array.length_toList];show k<s.size;rw[HN.out];exact hlt
   obtain⟨o,ho⟩:∃ o,s.data.toList[k]?=some o:=⟨s.data.toList[k],List.getElem?_eq_getElem hi⟩;have hd:s.data.toList.drop k=o :: s.data.toList.drop (k+1):=by
    rw[List.drop_eq_getElem_cons hi];rw[List.getElem?_eq_getElem hi] at ho;rw[Option.some.inj ho]
   have hx:=str_ix s n k o HN.out hlt ho;have he:=HX.out;rw[hd,sumN] at he;have hc:=rf_step q o hq w0 wr R h1;have hq2:=refBits_lt 8 q o.toNat hq;generalize refBits 8 q o.toNat=q2 at *;have HE:=Lib.hid he;clear he hd ho hi HX h1;go_wp2_with fail
   refine hc.mono ?_
   rintro e w2 ⟨rfl,h2⟩;clear hc hx;go_wp2;go_roundw
   case rel=>exact⟨k+1,q2,by omega,hq2,by go_num,rfl,HE,h2⟩
   case measure=>simp[intOf];omega
  ·obtain rfl:k=n:=by omega
   have he:=HX.out;rw[List.drop_eq_nil_of_le (by rw[Array.length_toList];show s.size<=_;rw[HN.out];exact Nat.le_refl _)] at he;have HE:=Lib.hid (show q=X from he);clear HX he;go_wp2;go_ret
   refine⟨?_,h1⟩
   have he:=HE.out;subst he;show Ending.returned (.int .i64 (65535 - (q:Int)))=_
   congr 2
   omega
theorem sumOf_range (s:ByteArray):0<=sumOf s/\sumOf s<=65535:=by rw[sumOf_nat];omega
theorem rf_seal (s:ByteArray) (w0 w:World) (R:HP) (h:St w0 w R) (hs:s.size<=1000000000):Calls Tryz.prog 108 #[.string s] w fun e w'=>e=.returned (.string (sealed s))/\St w0 w' R:=by
 have hc:=rf_sum s w0 w R h hs;have hr:=sumOf_range s;obtain⟨X,hX⟩:∃ X,sumOf s=X:=⟨_,rfl⟩;have hY:sealed s=s++octets [X % 256,X / 256]:=by
  unfold sealed;rw[hX] at hr ⊢;rw[IntKind.wrap_u8,IntKind.wrap_u8,show X / 256 % 256=X / 256 by omega]
 rw[hY];rw[hX] at hc hr;clear hX hY;have d1:Int.tmod X 256=X % 256:=Int.tmod_eq_emod_of_nonneg hr.1;have d2:Int.tdiv X 256=X / 256:=Int.tdiv_eq_ediv_of_nonneg hr.1;obtain⟨p,hp⟩:∃ p,X % 256=p:=⟨_,rfl⟩;obtain⟨q,hq⟩:∃ q,X / 256=q:=⟨_,rfl⟩;have hp0:0<=p/\p<256:=by omega
 have hq0:0<=q/\q<256:=by omega
 have wp:IntKind.u8.wrap p=p:=by rw[IntKind.wrap_u8];omega
 have wq:IntKind.u8.wrap q=q:=by rw[IntKind.wrap_u8];omega
 rw[hp,hq];rw[hp] at d1;rw[hq] at d2;have hz:¬ 9223372036854775807<s.size+(octets [p,q]).size:=by rw[octets_size];simp;omega
 go_enter Tryz.func108,Tryz.ntmps108
 go_wp2_with fail
 refine hc.mono ?_
 rintro e w1 ⟨rfl,h1⟩;have hb:=run_octets (P:=Tryz.prog) (src:=121) (dst:=9) (e:=5) Tryz.underlying121 Tryz.underlying5 Tryz.underlying9 (w1.alloc (.cells #[.int .u8 p,.int .u8 q] 5)) ⟨w1.heap.size,0,none⟩ 2 [p,q] 2 rfl
   (by intro n hn;simp at hn;omega) (by intro j hj;rw[add_none];match j,hj with | 0,_=>simp | 1,_=>simp)
 clear hc hs;go_wp2;go_ret
 exact⟨rfl,(h1.alloc _).drop⟩
theorem rf_check (s:ByteArray) (w0 w:World) (R:HP) (h:St w0 w R) (hs:s.size<=1000000000) :
  Calls Tryz.prog 190 #[.string s] w fun e w'=>e=.returned (.tuple #[.string (checkO s).1,.int .i64 (checkO s).2])/\St w0 w' R:=by
 obtain⟨n,hn⟩:∃ n,s.size=n:=⟨_,rfl⟩;unfold checkO;rw[hn] at hs ⊢;by_cases h2:n<2
 ·rw[if_pos h2]
  have b2:decide ((n:Int)<2)=true:=by simp;omega
  go_enter Tryz.func190,Tryz.ntmps190
  go_wp2;go_ret2
  exact⟨rfl,h⟩
 ·rw[if_neg h2]
  have b2:decide ((n:Int)<2)=false:=by simp;omega
  have w2:IntKind.i64.wrap ((n:Int) - 2)=(n:Int) - 2:=by rw[IntKind.wrap_i64];omega
  have hb:(s.extract 0 (n - 2)).size=n - 2:=by rw[ByteArray.size_extract];omega
  have hse:=rf_seal (s.extract 0 (n - 2)) w0 w R h (by omega);have hcut:((n:Int) - 2).toNat=n - 2:=by omega
  obtain⟨y,hy⟩:∃ y,sealed (s.extract 0 (n - 2))=y:=⟨_,rfl⟩;obtain⟨z,hz⟩:∃ z,s.extract 0 (n - 2)=z:=⟨_,rfl⟩;rw[hy,hz] at hse;rw[hy];have hq:(if y=s then (s.extract 0 (n - 2),(0:Int)) else (noStr,6))=(if y=s then s.extract 0 (n - 2) else noStr,if y=s then 0 else 6):=by split <;> rfl
  rw[hq];obtain⟨X,hX⟩:∃ X,(if y=s then s.extract 0 (n - 2) else noStr)=X:=⟨_,rfl⟩;obtain⟨Z,hZ⟩:∃ Z,(if y=s then (0:Int) else 6)=Z:=⟨_,rfl⟩;show Calls _ _ _ _ (fun e w'=>e=.returned (.tuple #[.string (if y=s then s.extract 0 (n - 2) else noStr),.int .i64 (if y=s then (0:Int) else 6)])/\St w0 w' R)
  rw[hX,hZ];rw[hz] at hX;clear hq;go_enter Tryz.func190,Tryz.ntmps190
  go_wp2_with fail
  refine hse.mono ?_
  rintro e w5 ⟨rfl,h5⟩;by_cases he:y=s
  ·have hd:(y.toList == s.toList)=true:=by rw[str_eq];exact decide_eq_true he
   rw[if_pos he] at hX hZ;go_wp2;go_ret2
   rw[← hX,← hZ];exact⟨rfl,h5⟩
  ·have hd:(y.toList == s.toList)=false:=by rw[str_eq];exact decide_eq_false he
   rw[if_neg he] at hX hZ;go_wp2;go_ret2
   rw[← hX,← hZ];exact⟨rfl,h5⟩
end Go.Proofs.YtnnahljdhdippaaGreatDoor
