/- Parts of a proof (Law, TermM, TermN, LawT, Laid, LaidF, LaidK). No condition. -/
import Derived.Test.YtnnahljdhdippaaGreatDoorRows
import Derived.Test.YtnnahljdhdippaaGreatDoorC1
import Derived.ProofKit
import Derived.OpenShut
import Derived.ShutString
import Derived.ChangeOld
import Derived.Deep.Slices
import Derived.Lib.LaidTab
import Derived.Test.YtnnahljdhdippaaGreatDoorC22
import Derived.Test.YtnnahljdhdippaaGreatDoorC6
import Derived.Handed
import Derived.LaidHandle
import Derived.Test.YtnnahljdhdippaaGreatDoorC11
namespace Go.Proofs.YtnnahljdhdippaaGreatDoor
set_option maxRecDepth 100000
set_option maxHeartbeats 6400000
open Go.ChangeShapes Go.WideShapes Go.ChangeAt Go.RowKit Go.Deep
inductive Sh where
 | int (k:IntKind)
 | bool
 | string
 | slice (e:Sh)
 | unit
 | pair (a b:Sh)
 | arr (n:Nat) (e:Sh)
def Sh.size:Sh->Nat
 | .unit=>0
 | .arr n e=>n*e.size
 | .pair a b=>a.size+b.size
 | _=>1
def Sh.ok (w:World):Sh->List Value->Prop
 | .int k,cs=>∃ n,cs=[.int k n]/\(Lit.int k n).wf=true
 | .bool,cs=>∃ b,cs=[.bool b]
 | .string,cs=>∃ s:ByteArray,cs=[.string s]/\s.size<=maxLen
 | .slice e,cs=>∃ a len cap,cs=[.slice a len cap]/\len<=cap/\cap<=maxLen /\
    ∀ i,i<len->∃ ad xs,a=some ad/\xs.length=e.size/\(∀ j,j<e.size->w.cell? (ad.add (i*e.size+j))=xs[j]?)/\e.ok w xs
 | .unit,cs=>cs=[]
 | .pair a b,cs=>∃ x y,cs=x++y/\x.length=a.size/\a.ok w x/\b.ok w y
 | .arr n e,cs=>cs.length=n*e.size/\∀ i,i<n->e.ok w ((cs.drop (i*e.size)).take e.size)
def Sh.fits (P:Program):Sh->TypeId ⊕ (Nat × List Field)->Bool
 | .int k,.inl t=>match P.underlying t with
   | some (.int k')=>k' == k
   | _=>false
 | .bool,.inl t=>match P.underlying t with
   | some .bool=>true
   | _=>false
 | .string,.inl t=>match P.underlying t with
   | some .string=>true
   | _=>false
 | .slice e,.inl t=>match P.underlying t with
   | some (.slice u)=>P.cellsOf u == e.size && e.fits P (.inl u)
   | _=>false
 | .pair a b,.inl t=>match P.underlying t with
   | some (.struct fs)=>match fs.toList with
     | f :: fs=>P.cellsOf t == a.size+b.size && f.offset == 0 && P.cellsOf f.type == a.size && a.fits P (.inl f.type) && b.fits P (.inr (a.size,fs))
     | []=>false
   | _=>false
 | .pair a b,.inr (o,f :: fs)=>f.offset == o && P.cellsOf f.type == a.size && a.fits P (.inl f.type) && b.fits P (.inr (o+a.size,fs))
 | .unit,.inr (_,[])=>true
 | .arr n e,.inl t=>match P.underlying t with
   | some (.array m u)=>m == n && P.cellsOf u == e.size && P.cellsOf t == n*e.size && e.fits P (.inl u)
   | _=>false
 | _,_=>false
section
variable {H:Type} {enc:TypeId × Value->H} {P:Program} {w:World} {base:Nat} {spare:Nat->Bool} {held:Bool}
theorem Sh.ok_of (sh:Sh) :
  (∀ t cs fuel (x:DataW H × List MemPlace),sh.fits P (.inl t)=true->DataW.trod enc P w base spare held fuel t cs=some x->sh.ok w cs) /\
  (∀ o (fs:List Field) n (cs:List Value),sh.fits P (.inr (o,fs))=true->(∀ f ∈ fs,∃ y:DataW H × List MemPlace,DataW.trod enc P w base spare held n f.type ((cs.drop f.offset).take (P.cellsOf f.type))=some y)->cs.length=o+sh.size->sh.ok w (cs.drop o)):=by
 induction sh with
 | int k =>
   refine⟨fun t cs fuel x hf h=>?_,fun o fs n cs hf=>by simp[Sh.fits] at hf⟩
   unfold Sh.fits at hf;split at hf
   ·rename_i k' ht
    obtain rfl:k'=k:=by simpa using hf
    obtain⟨n,rfl,_,hw⟩:=DataW.trod_int ht h;exact⟨n,rfl,hw⟩
   ·cases hf
 | bool =>
   refine⟨fun t cs fuel x hf h=>?_,fun o fs n cs hf=>by simp[Sh.fits] at hf⟩
   unfold Sh.fits at hf;split at hf
   ·rename_i ht
    obtain⟨n,rfl,_⟩:=DataW.trod_bool ht h;exact⟨n,rfl⟩
   ·cases hf
 | string =>
   refine⟨fun t cs fuel x hf h=>?_,fun o fs n cs hf=>by simp[Sh.fits] at hf⟩
   unfold Sh.fits at hf;split at hf
   ·rename_i ht
    obtain⟨n,rfl,_,hw⟩:=DataW.trod_string ht h;exact⟨n,rfl,hw⟩
   ·cases hf
 | slice e ih =>
   refine⟨fun t cs fuel x hf h=>?_,fun o fs n cs hf=>by simp[Sh.fits] at hf⟩
   unfold Sh.fits at hf;split at hf
   ·rename_i u ht
    simp only[Bool.and_eq_true,beq_iff_eq] at hf;rcases open_slice ht h with ⟨rfl,_⟩ | ⟨a,len,cap,m,n,D,Pl,rfl,_,hl,hm,hmm,_,hi⟩
    ·exact⟨none,0,0,rfl,Nat.le_refl _,Nat.zero_le _,fun i hi=>by omega⟩
    ·refine⟨some a,len,cap,rfl,hl,hm,fun i him=>?_⟩
     obtain⟨cs',hc,ht'⟩:=hi i (by rw[hmm];split <;> omega);rw[hf.1] at hc;obtain⟨_,hcl,hat⟩:=World.cells?_some hc;refine⟨a,cs',rfl,hcl,fun j hj=>?_,ih.1 u cs' n _ hf.2 ht'⟩
     rw[← Go.Deep.add_add];exact hat j hj
   ·cases hf
 | unit =>
   refine⟨fun t cs fuel x hf=>by simp[Sh.fits] at hf,fun o fs n cs _ _ hl=>?_⟩
   show cs.drop o=[]
   exact List.drop_eq_nil_of_le (by simp[Sh.size] at hl;omega)
 | arr n e ih =>
   refine⟨fun t cs fuel x hf h=>?_,fun o fs n cs hf=>by simp[Sh.fits] at hf⟩
   unfold Sh.fits at hf;split at hf
   ·rename_i m u ht
    simp only[Bool.and_eq_true,beq_iff_eq] at hf;obtain⟨⟨⟨rfl,hc⟩,hz⟩,he⟩:=hf;cases fuel with
    | zero=>simp[DataW.trod] at h
    | succ fuel =>
      simp only[DataW.trod,ht] at h;split at h
      ·rename_i hl
       obtain⟨xs,hm,_⟩:=Option.map_eq_some_iff.1 h;refine⟨hl.trans hz,fun i hi=>?_⟩
       obtain⟨b,_,hf⟩:=Lib.mapM_at hm i i (by simp[hi]);rw[hc] at hf;exact ih.1 _ _ _ _ he hf
      ·cases h
   ·cases hf
 | pair a b iha ihb =>
   have key:∀ o (f:Field) (fs:List Field) n (cs:List Value),f.offset=o->P.cellsOf f.type=a.size->a.fits P (.inl f.type)=true->b.fits P (.inr (o+a.size,fs))=true ->
     (∀ g ∈ f :: fs,∃ y:DataW H × List MemPlace,DataW.trod enc P w base spare held n g.type ((cs.drop g.offset).take (P.cellsOf g.type))=some y)->cs.length=o+(a.size+b.size)->(Sh.pair a b).ok w (cs.drop o):=by
    intro o f fs n cs h1 h2 h3 h4 h5 h6;refine⟨(cs.drop o).take a.size,(cs.drop o).drop a.size,(List.take_append_drop _ _).symm,by simp;omega,?_,?_⟩
    ·obtain⟨y,hy⟩:=h5 f (by simp)
     rw[h1,h2] at hy;exact iha.1 _ _ _ _ h3 hy
    ·rw[List.drop_drop]
     exact ihb.2 (o+a.size) fs n cs h4 (fun g hg=>h5 g (by simp[hg])) (by omega)
   refine⟨fun t cs fuel x hf h=>?_,fun o fs n cs hf hall hl=>?_⟩
   ·unfold Sh.fits at hf
    split at hf
    ·rename_i fs ht
     split at hf
     ·rename_i f gs hfs
      simp only[Bool.and_eq_true,beq_iff_eq] at hf;obtain⟨⟨⟨⟨e0,e1⟩,e2⟩,e3⟩,e4⟩:=hf;obtain⟨xs,n,_,_,hlen,hxl,hg⟩:=DataW.trod_struct ht h;have:=key 0 f gs n cs e1 e2 e3 (by simpa using e4) (fun g hg'=>?_) (by omega)
      ·simpa using this
      ·rw[← hfs] at hg'
       obtain⟨i,hi,hgi⟩:=List.getElem_of_mem hg';have hi':i<fs.size:=by simpa using hi
       have h1:=hg i g (by rw[Array.getElem?_eq_getElem hi'];simpa using hgi);rw[List.getElem?_eq_getElem (by omega)] at h1;exact⟨_,h1⟩
     ·cases hf
    ·cases hf
   ·cases fs with
    | nil=>simp[Sh.fits] at hf
    | cons f fs =>
      simp only[Sh.fits,Bool.and_eq_true,beq_iff_eq] at hf;obtain⟨⟨⟨e1,e2⟩,e3⟩,e4⟩:=hf;exact key o f fs n cs e1 e2 e3 e4 hall (by simpa[Sh.size] using hl)
theorem Sh.opened {sh:Sh} {t:TypeId} {v:Value} {d:DataW H} {p:List MemPlace} (hf:sh.fits P (.inl t)=true) (h:DataW.Trod enc P w base spare held t v d p):sh.ok w v.cells.toList:=by
 obtain⟨n,hn⟩:=h;exact sh.ok_of.1 t _ n _ hf hn
theorem Sh.slice_ok {e:Sh} {a:Option Addr} {len cap:Nat} (h:(Sh.slice e).ok w [.slice a len cap]) (he:0<e.size) :
  len<=cap/\cap<=maxLen/\(0<len->∃ b off,a=some ⟨b,off,none⟩/\b<w.heap.size /\
   ∀ i,i<len->∃ xs,xs.length=e.size/\(∀ j,j<e.size->w.cell? ⟨b,off+i*e.size+j,none⟩=xs[j]?)/\e.ok w xs):=by
 obtain⟨a',len',cap',hv,h1,h2,h3⟩:=h;simp only[List.cons.injEq,Value.slice.injEq,and_true] at hv;obtain⟨rfl,rfl,rfl⟩:=hv;refine⟨h1,h2,fun h0=>?_⟩
 obtain⟨ad,xs,rfl,hl,hc,_⟩:=h3 0 h0;obtain⟨b,off,spot⟩:=ad;have hc0:=hc 0 he;rw[List.getElem?_eq_getElem (by omega)] at hc0;have hspot:spot=none:=by simpa[Addr.add] using World.cell?_spot hc0
 subst hspot;refine⟨b,off,rfl,?_,fun i hi=>?_⟩
 ·have:=World.block_lt_of_cell? _ _ hc0
  simpa[Addr.add] using this
 ·obtain⟨ad,xs,e1,hl,hc,hx⟩:=h3 i hi
  obtain rfl:ad=⟨b,off,none⟩:=by simpa using e1.symm
  refine⟨xs,hl,fun j hj=>?_,hx⟩
  have:=hc j hj
  rw[← this];congr 1
  unfold Addr.add;split <;> simp_all [Nat.add_assoc]
end
open Go.RowKit
def msgB (m:Tm):ByteArray:=bstr (encB (putO m.fr true).data.toList)
theorem l_message (m:Tm) (hb:m.bad=0) (w0 w:World) (R:HP) (hN:∀ w',St w0 w' R->NamesAt w') (hF:∀ w',St w0 w' R->FirstAt w') (hL:∀ w',St w0 w' R->LinkAt w') (h:St w0 w R) :
  Calls Tryz.prog 39 #[.agg m.cells.toArray] w fun r w'=>r=.returned (.string (msgB m))/\St w0 w' R:=by
 have h1:=h.alloc (.cells m.cells.toArray TTm);have hk:=m_frame m w0 _ _ (fun w' h=>hL w' h.drop) h1;have hput:=(tm_fr hb).1;have hz:=putO_size (net:=true) hput;rw[hb] at hk;unfold msgB;generalize m.fr=fr at *;have hp:=fun w R hN hF h=>p_put fr true hput w0 w R hN hF h
 generalize putO fr true=oc at *;have he:=fun w R h=>h_encode oc w0 w R h (by omega)
 generalize bstr (encB oc.data.toList)=bs at *;obtain⟨a1,a2,cmd,k,pf,ns,nr,inf⟩:=fr;obtain⟨ty,ri,ai⟩:=m;simp only[Tm.cells,Fr.cells] at *;have cg:=h1.cell;clear hput hz hb h;go_enter Tryz.func39,Tryz.ntmps39
 go_upto_region 1 with fail
 generalize w.alloc _=wa at *;generalize w.heap.size=ga at *;go_upto_region 2 with (go_at_call 78;refine hk.mono ?_;rintro r w5 ⟨rfl,h5⟩)
 have h6:=h5.alloc (.cells #[.int .i64 a1,.int .i64 a2,.bool cmd,.int .i64 k,.bool pf,.int .i64 ns,.int .i64 nr,.string inf] TFr);generalize w5.alloc _=w6 at *;generalize w5.heap.size=gf at *;have c6:=h6.cell;have hq:=hp w6 _ (fun w' h=>hN w' h.drop.drop) (fun w' h=>hF w' h.drop.drop) h6;clear hk h5 hp h1 cg;go_upto_region 3 with (go_at_call 79;refine hq.mono ?_;rintro r w7 ⟨rfl,h7⟩)
 have hq2:=he w7 _ h7;clear hq he h6 c6;go_wp2_with fail
 refine hq2.mono ?_
 rintro r w8 ⟨rfl,h8⟩;clear hq2 h7;go_wp2;go_ret
 exact⟨rfl,h8.drop.drop⟩
theorem putO_len {f:Fr} {net:Bool} (ok:PutOk f):(putO f net).data.toList≠[]/\(putO f net).data.toList.length<=266:=by
 obtain⟨i1,_,_⟩:=carries_le ok.car;have h2:=ctlO_len f.kind f.pf f.ns f.nr;have h3:(putO f net).size=2+(ctlO f.kind f.pf f.ns f.nr).length+f.info.size+2:=by
  unfold putO;rw[sealed_size,ByteArray.size_append,ByteArray.size_append,octets_size,octets_size];rfl
 have h4:(putO f net).data.toList.length=(putO f net).size:=by rw[Array.length_toList];rfl
 refine⟨fun e=>?_,by omega⟩
 rw[e] at h4;simp only[List.length_nil] at h4;omega
theorem feed_msg (m:Tm) (hb:m.bad=0):De.new.feed (bitsIn (msgB m).data.toList)=(⟨[],true,0⟩,[⟨0,(putO m.fr true).data.toList⟩]):=by
 unfold msgB;rw[bitsIn_bstr];obtain⟨h1,h2⟩:=putO_len (net:=true) (tm_fr hb).1;exact feed_enc _ h1 h2
theorem come_msg (x:Tt) (m:Tm) (hb:m.bad=0) (hn:fromNet m.ty=true):x.event ⟨0,(putO m.fr true).data.toList⟩=(x.setU (x.u.message m).1).users (x.u.message m).2:=by
 obtain⟨hp,hk⟩:=tm_fr hb;have hg:=get_put true hp;rw[hk] at hg;have ho:=tm_of hb true hn;have e:(⟨(putO m.fr true).data.toList.toArray⟩:ByteArray)=putO m.fr true:=by rw[Array.toArray_toList]
 unfold Tt.event;rw[if_pos rfl];show x.come ⟨(putO m.fr true).data.toList.toArray⟩=_
 rw[e];unfold Tt.come;rw[hg];dsimp only;rw[ho,if_neg (by decide),if_pos rfl]
abbrev wkT:Tt:=newTt ⟨7,3,3,10,10,100⟩ ⟨false,[7],0⟩
abbrev wkM:Tm:=⟨2,7,64⟩
abbrev wkU:Tt:=(wkT.ask 0 0 noStr).1
theorem wk_ask:(wkT.ask 0 0 noStr).2=0/\wkU.sent.length=1/\wkU.d=.new:=⟨by kernel_rfl,by kernel_rfl,by kernel_rfl⟩
theorem wk_fit:wkU.Fit:=fit_tt_ask (fit_tt_new _ _) _ _ _
theorem bits_msg (x:Tt) (now:Int) (hb:badNow now=false) (hd:x.d=.new) (m:Tm) (h0:m.bad=0) (hn:fromNet m.ty=true) :
  x.bits now (msgB m)=((((x.begin now).setD ⟨[],true,0⟩).setU (x.u.message m).1).users (x.u.message m).2,0):=by
 unfold Tt.bits;rw[hb,if_neg (by decide),hd,feed_msg m h0];have e:((x.begin now).setD ⟨[],true,0⟩).u=x.u:=rfl;generalize hx:(x.begin now).setD ⟨[],true,0⟩=y at *;simp only[List.foldl_cons,List.foldl_nil];rw[come_msg _ m h0 hn,e]
theorem wk_bits:(wkU.bits 1 (msgB wkM)).2=0/\(wkU.bits 1 (msgB wkM)).1.sent.length=1/\(wkU.bits 1 (msgB wkM)).1.e.state=5/\(wkU.bits 1 (msgB wkM)).1.u.v.tei=64:=by
 rw[bits_msg wkU 1 (by kernel_rfl) wk_ask.2.2 wkM (by kernel_rfl) (by kernel_rfl)];exact⟨by kernel_rfl,by kernel_rfl,by kernel_rfl,by kernel_rfl⟩
theorem pair_eq {α β:Type} {q:α × β} {b:β} (h:q.2=b):q=(q.1,b):=by rw[← h]
theorem wk_all:∃ U Z:Tt,wkT.ask 0 0 noStr=(U,0)/\U.sent.length=1/\U.Fit/\U.d=.new/\U.bits 1 (msgB wkM)=(Z,0)/\Z.sent.length=1/\Z.e.state=5/\Z.u.v.tei=64/\Z.Fit:=by
 have h1:=pair_eq wk_ask.1;have h2:=wk_ask.2.1;have h3:=wk_ask.2.2;have h4:=wk_fit;have h5:=pair_eq wk_bits.1;have h6:=wk_bits.2.1;have h7:=wk_bits.2.2.1;have h8:=wk_bits.2.2.2;have h9:=fit_tt_bits wk_fit 1 (msgB wkM);exact⟨_,_,h1,h2,h4,h3,h5,h6,h7,h8,h9⟩
theorem msgB_size (m:Tm) (hb:m.bad=0):(msgB m).size<=100000:=by
 obtain⟨_,h2⟩:=putO_len (net:=true) (tm_fr hb).1;unfold msgB;have h3:=stuffK_len (ofBits (putO m.fr true).data.toList) 0;rw[ofBits_len] at h3;show (bstr (encB (putO m.fr true).data.toList)).data.size<=_
 unfold bstr encB;simp only[List.size_toArray,List.length_map,List.length_append,List.length_cons,List.length_nil];omega
theorem St.res_shape {w0 w:World} {R:HP} {sv tv:Value} {l:List ByteArray} {m:List (Int × ByteArray)} {n k:Nat} (h:St w0 w (LAt 9 1 encS sv l*(LAt TTold 2 tolC tv m*R))) (hn:l.length=n) (hk:m.length=k) :
  ∃ sa sc ta tc,sv=.slice sa n sc/\tv=.slice ta k tc:=by
 obtain⟨sa,sc,rfl,_,_⟩:=h.l_shape;obtain⟨ta,tc,rfl,_,_⟩:=h.f2.l_shape;subst hn hk;exact⟨sa,sc,ta,tc,rfl,rfl⟩
theorem usv_f0 (v0 v1 v2 v3:Value) (w:World):(Instr.field 63 (.agg #[v0,v1,v2,v3]) 0).run Tryz.prog w=.ok v0 w:=by kernel_rfl
theorem env_f0 (v0 v1 v2 v3 v4 v5 v6 v7 v8 v9 v10 v11 v12 v13 v14:Value) (w:World):(Instr.field 49 (.agg #[v0,v1,v2,v3,v4,v5,v6,v7,v8,v9,v10,v11,v12,v13,v14]) 0).run Tryz.prog w=.ok v0 w:=by kernel_rfl
theorem env_state (x:En) (w:World):(Instr.field 49 (.agg x.view) 0).run Tryz.prog w=.ok (.int .i64 x.state) w:=env_f0 _ _ _ _ _ _ _ _ _ _ _ _ _ _ _ w
theorem usv_tei (v:Uv) (w:World):(Instr.field 63 (.agg v.cells.toArray) 0).run Tryz.prog w=.ok (.int .i64 v.tei) w:=usv_f0 _ _ _ _ w
theorem tt_wakes (w0 w:World) (R:HP) (hN:∀ w',St w0 w' R->NamesAt w') (hF:∀ w',St w0 w' R->FirstAt w') (hL:∀ w',St w0 w' R->LinkAt w') (h:St w0 w R) :
  Calls Tryz.prog 15 #[] w fun r w'=>r=.returned (.bool true)/\St w0 w' R:=by
 have h1:=h.alloc (.cells #[.int .i64 7] 3);have hk:=dr_new 0 w.heap.size 0 1 [7] 1 rfl w0 _ _ h1 (by decide) (fun j hj=>by
  obtain rfl:j=0:=by simp at hj;omega
  exact (h1.cell 0).trans rfl)
 go_enter Tryz.func15,Tryz.ntmps15
 go_wp2_with fail
 refine hk.mono ?_
 rintro r w2 ⟨p,rfl,h2⟩;clear hk h1;have h3:=h2.f2.drop;have hk:=t_new ⟨7,3,3,10,10,100⟩ (ptr p) ⟨false,[7],0⟩ (by kernel_rfl) w0 w2 R (h3.dv_some rfl);clear h2 h3;go_upto_region 2 with (go_at_call 11;refine hk.mono ?_;rintro r w4 ⟨t,rfl,h4⟩)
 clear hk;have hk:=t_ask t wkT 0 0 noStr (fit_tt_new _ _) w0 w4 R hN hF hL h4;obtain⟨U,Z,k1,k2,k3,k4,k5,k6,k7,k8,k9⟩:=wk_all;rw[k1] at hk;simp only[] at hk;clear k1 h4;obtain⟨nt,hnt⟩:∃ n,U.told.length=n:=⟨_,rfl⟩;go_upto_region 3 with (go_at_call 17;refine hk.mono ?_;rintro r w5 ⟨sv,tv,rfl,h5⟩;obtain⟨sa,sc,ta,tc,rfl,rfl⟩:=h5.res_shape k2 hnt)
 clear hk;have h6:=h5.alloc (.cells #[.slice sa 1 sc,.slice ta nt tc] TRes);generalize w5.alloc _=w6 at *;generalize w5.heap.size=gr at *;have hm:=l_message wkM (by kernel_rfl) w0 w6 _ (fun w' h=>hN w' h.drop.drop.drop.drop) (fun w' h=>hF w' h.drop.drop.drop.drop) (fun w' h=>hL w' h.drop.drop.drop.drop) h6;have hms:=msgB_size wkM (by kernel_rfl);generalize msgB wkM=mb at *;clear h5 hnt;go_wp2_with fail
 refine hm.mono ?_
 rintro r w7 ⟨rfl,h7⟩;clear hm h6;have hk:=t_bits t U 1 mb k3 (by rw[k4];decide) (by omega) w0 w7 _ (fun w' h=>hN w' h.drop.drop.drop) (fun w' h=>hF w' h.drop.drop.drop) (fun w' h=>hL w' h.drop.drop.drop) (h7.eq (show _=TtOff t U*(blk gr (.cells #[.slice sa 1 sc,.slice ta nt tc] TRes (0,0))*(LAt 9 1 encS (.slice sa 1 sc) U.sent*(LAt TTold 2 tolC (.slice ta nt tc) U.told*R))) by ac_rfl));rw[k5] at hk;simp only[] at hk;clear k5 k3 h7 hms;obtain⟨nt2,hnt⟩:∃ n,Z.told.length=n:=⟨_,rfl⟩;go_upto_region 4 with (go_at_call 20;refine hk.mono ?_;rintro r w9 ⟨sv,tv,rfl,h9⟩;obtain⟨sa2,sc2,ta2,tc2,rfl,rfl⟩:=h9.res_shape k6 hnt)
 clear hk;have h10:=h9.alloc (.cells #[.slice sa2 1 sc2,.slice ta2 nt2 tc2] TRes);generalize w9.alloc _=w11 at *;generalize w9.heap.size=gs at *;have h11:=h10.eq (show _=TtOff t Z*(blk gs (.cells #[.slice sa2 1 sc2,.slice ta2 nt2 tc2] TRes (0,0))*(blk gr (.cells #[.slice sa 1 sc,.slice ta nt tc] TRes (0,0))*(LAt 9 1 encS (.slice sa2 1 sc2) Z.sent*(LAt TTold 2 tolC (.slice ta2 nt2 tc2) Z.told*(LAt 9 1 encS (.slice sa 1 sc) U.sent*(LAt TTold 2 tolC (.slice ta nt tc) U.told*R)))))) by ac_rfl);have c1:=h11.f2.cell;have c2:=h11.f3.cell;have hv:=t_link t Z k9.e.ok.b.fl w0 w11 _ h11;have e1:=env_state Z.e;have e2:=usv_tei Z.u.v;rw[k7] at e1;rw[k8] at e2;obtain⟨V,hV⟩:∃ V,Z.e.view=V:=⟨_,rfl⟩;rw[hV] at hv e1;clear hV h9 h10 hnt k2 k4 k6 k7 k8;go_wp2_with fail
 refine hv.mono ?_
 rintro r wa ⟨rfl,ha⟩;have hu:=t_user t Z w0 wa _ ha;generalize Z.u.v.cells.toArray=Vu at *;clear hv h11 c1 c2;go_wp2_with fail
 refine hu.mono ?_
 rintro r wb ⟨rfl,hb⟩;clear hu ha;go_wp2;go_ret
 exact⟨rfl,hb.drop.drop.drop.drop.drop.drop.drop⟩
theorem LinkAt.old {w w':World} {n:Nat} (h:LinkAt w) (hb:Below n w w') (hn:0<n):LinkAt w':=⟨(hb.cell (p:=⟨0,0,none⟩) hn).trans h.1,(hb.cell (p:=⟨0,1,none⟩) hn).trans h.2⟩
theorem LinkAt.pos {w:World} (h:LinkAt w):0<w.heap.size:=World.block_lt_of_cell? _ _ h.1
structure AcT where
 Do:Int
 ask:Int
 later:Int
 data:ByteArray
 m0:Int
 m1:Int
 m2:Int
 own:Bool
 fa:Option Addr
 fn:Nat
 fc:Nat
 near:Bool
 N:Int
 M:Int
 raw:ByteArray
abbrev AcT.cells (a:AcT):List Value:=[.int .i64 a.Do,.int .i64 a.ask,.int .i64 a.later,.string a.data,.int .i64 a.m0,.int .i64 a.m1,.int .i64 a.m2,.bool a.own,.slice a.fa a.fn a.fc,.bool a.near,.int .i64 a.N,.int .i64 a.M,.string a.raw]
abbrev TAct:TypeId:=44
abbrev frShT:Sh:=.pair (.int .i64) (.pair (.int .i64) (.pair .bool (.pair (.int .i64) (.pair .bool (.pair (.int .i64) (.pair (.int .i64) (.pair .string .unit)))))))
abbrev atSh:Sh:=.pair (.int .i64) (.pair (.int .i64) (.pair (.int .i64) (.pair .string (.pair (.arr 3 (.int .i64)) (.pair .bool (.pair (.slice frShT) (.pair .bool (.pair (.int .i64) (.pair (.int .i64) (.pair .string .unit))))))))))
structure AcT.Wf (w:World) (a:AcT):Prop where
 Do:(Lit.int .i64 a.Do).wf=true
 ask:(Lit.int .i64 a.ask).wf=true
 later:(Lit.int .i64 a.later).wf=true
 data:a.data.size<=maxLen
 m0:(Lit.int .i64 a.m0).wf=true
 m1:(Lit.int .i64 a.m1).wf=true
 m2:(Lit.int .i64 a.m2).wf=true
 fr:(Sh.slice frShT).ok w [.slice a.fa a.fn a.fc]
 N:(Lit.int .i64 a.N).wf=true
 M:(Lit.int .i64 a.M).wf=true
 raw:a.raw.size<=maxLen
theorem arr3_of {w:World} {cs:List Value} (h:(Sh.arr 3 (.int .i64)).ok w cs):∃ a b c:Int,cs=[.int .i64 a,.int .i64 b,.int .i64 c]/\(Lit.int .i64 a).wf=true/\(Lit.int .i64 b).wf=true/\(Lit.int .i64 c).wf=true:=by
 obtain⟨hl,hi⟩:=h;match cs,hl with
 | [x,y,z],_ =>
   obtain⟨a,ha,wa⟩:=hi 0 (by decide);obtain⟨b,hb,wb⟩:=hi 1 (by decide);obtain⟨c,hc,wc⟩:=hi 2 (by decide);have ha':[x]=[.int .i64 a]:=ha;have hb':[y]=[.int .i64 b]:=hb;have hc':[z]=[.int .i64 c]:=hc;simp only[List.cons.injEq,and_true] at ha' hb' hc';subst ha' hb' hc';exact⟨a,b,c,rfl,wa,wb,wc⟩
theorem at_of {w:World} {cs:List Value} (h:atSh.ok w cs):∃ a:AcT,cs=a.cells/\a.Wf w:=by
 obtain⟨_,_,rfl,_,⟨n1,rfl,w1⟩,_,_,rfl,_,⟨n2,rfl,w2⟩,_,_,rfl,_,⟨n3,rfl,w3⟩,_,_,rfl,_,⟨s4,rfl,w4⟩,_,_,rfl,_,h5,_,_,rfl,_,⟨b6,rfl⟩,_,_,rfl,_,h7,_,_,rfl,_,⟨b8,rfl⟩,_,_,rfl,_,⟨n9,rfl,w9⟩,_,_,rfl,_,⟨n10,rfl,w10⟩,_,_,rfl,_,⟨s11,rfl,w11⟩,h12⟩:=h;obtain rfl:=h12;obtain⟨a,b,c,rfl,wa,wb,wc⟩:=arr3_of h5;have h7':=h7;obtain⟨fa,fn,fc,rfl,_⟩:=h7';exact⟨⟨n1,n2,n3,s4,a,b,c,b6,fa,fn,fc,b8,n9,n10,s11⟩,rfl,⟨w1,w2,w3,w4,wa,wb,wc,h7,w9,w10,w11⟩⟩
abbrev nmB:List (List UInt8):=[[73],[82,82],[82,78,82],[82,69,74],[83,65,66,77,69],[68,77],[85,73],[68,73,83,67],[85,65],[70,82,77,82]]
section
variable {H:Type} {enc:TypeId × Value->H} {P:Program} {w:World} {base:Nat} {sp:Nat->Bool} {held:Bool}
theorem cells_strs {fuel:Nat} {t e:TypeId} {n:Nat} {cs:List Value} {ss:List (List UInt8)} {p:List MemPlace}
  (ht:P.underlying t=some (.array n e)) (he:P.underlying e=some .string) (hce:P.cellsOf e=1) (hct:P.cellsOf t=n)
  (h:DataW.trod enc P w base sp held fuel t cs=some (.agg (ss.map fun s=>.lit (.string s)),p)):∀ i,i<n->∃ b:ByteArray,cs[i]?=some (.string b)/\ss[i]?=some b.data.toList:=by
 cases fuel with
 | zero=>simp[DataW.trod] at h
 | succ fuel =>
   simp only[DataW.trod,ht,hce,hct,Nat.mul_one] at h;split at h
   ·rename_i hl
    obtain⟨xs,hm,hx⟩:=Option.map_eq_some_iff.1 h;have hxs:xs.map (·.1)=ss.map fun s=>(DataW.lit (.string s):DataW H):=by
     have:=congrArg Prod.fst hx
     simpa using this
    intro i hi;obtain⟨b,hb,hf⟩:=Lib.mapM_at hm i i (by simp[hi]);obtain⟨s,hc,rfl,_⟩:=DataW.trod_string he hf;have h1:cs[i]?=some (.string s):=by
     have:=congrArg (·[0]?) hc
     simpa[List.getElem?_take,List.getElem?_drop] using this
    have h2:(xs.map (·.1))[i]?=some (DataW.lit (.string s.data.toList):DataW H):=by simp[hb]
    rw[hxs] at h2;simp only[List.getElem?_map,Option.map_eq_some_iff,DataW.lit.injEq,Lit.string.injEq] at h2;obtain⟨z',hz',hz2⟩:=h2;exact⟨s,h1,by rw[hz',hz2]⟩
   ·cases h
end
def Reads1 (P:Program) (w:World) (n:String) (d:DataW Unit):Prop :=
 ∃ g t cs fuel p,P.globalNamed n=some g/\(P.globals[g]?).map (·.type)=some t/\w.var? P n=some cs/\DataW.trod (fun _=>()) P w 0 (fun _=>true) false fuel t cs.toList=some (d,p)
theorem laid_reads {P:Program} {w:World}:∀ {l:List (String × DataW Unit)} {ps:List MemPlace},DataW.LaidVars P w l ps->∀ n d,(n,d) ∈ l->Reads1 P w n d
 | [],_,_,_,_,hm=>by cases hm
 | (n',d') :: r,ps,h,n,d,hm=>by
  obtain⟨g,t,cs,fuel,p,q,h1,h2,h3,h4,h5,_⟩:=h;rcases List.mem_cons.1 hm with e | e
  ·cases e
   exact⟨g,t,cs,fuel,p,h1,h2,h3,h4⟩
  ·exact laid_reads h5 n d e
theorem nm_full:∀ i,i<10->(!(⟨(nmB.getD i []).toArray⟩:ByteArray).toList.isEmpty)=true:=by decide +kernel
theorem names_of_laid {W : World} {l : List (String × DataW Unit)} (h : laidMet Tryz.prog l W) (hm : ("lapwing/ctrl.names", (.agg (nmB.map fun s => .lit (.string s)) : DataW Unit)) ∈ l) : NamesAt W := by
 obtain⟨ps,hv,_⟩:=h;obtain⟨g,t,cs,fuel,p,hg,ht,hvar,hd⟩:=laid_reads hv _ _ hm;obtain rfl := Option.some.inj ((show Tryz.prog.globalNamed "lapwing/ctrl.names" = some 2 by kernel_rfl).symm.trans hg)
 obtain rfl:=Option.some.inj ((show (Tryz.prog.globals[2]?).map (·.type)=some 326 by kernel_rfl).symm.trans ht);have hc:=cells_strs (n:=10) (e:=9) Tryz.underlying326 Tryz.underlying9 (by kernel_rfl) (by kernel_rfl) hd;intro i hi;obtain⟨b,h1,h2⟩:=hc i hi;refine⟨b,?_,?_⟩
 ·have e:b=⟨(nmB.getD i []).toArray⟩:=by
   have:nmB.getD i []=b.data.toList:=by simp[List.getD,h2]
   rw[this]
  rw[e];exact nm_full i hi
 ·have := World.var?_cell (show Tryz.prog.globalNamed "lapwing/ctrl.names" = some 2 by kernel_rfl) hvar i
  rw[this];simpa using h1
section
variable {H:Type} {enc:TypeId × Value->H} {P:Program} {w:World} {base:Nat} {sp:Nat->Bool} {held:Bool}
theorem cells_octs {fuel:Nat} {t e:TypeId} {n:Nat} {cs:List Value} {ks:List Int} {p:List MemPlace}
  (ht:P.underlying t=some (.array n e)) (he:P.underlying e=some (.int .u8)) (hce:P.cellsOf e=1) (hct:P.cellsOf t=n)
  (h:DataW.trod enc P w base sp held fuel t cs=some (.agg (ks.map fun s=>.lit (.int .u8 s)),p)):∀ i,i<n->cs[i]?=some (.int .u8 (ks.getD i 0)):=by
 cases fuel with
 | zero=>simp[DataW.trod] at h
 | succ fuel =>
   simp only[DataW.trod,ht,hce,hct,Nat.mul_one] at h;split at h
   ·rename_i hl
    obtain⟨xs,hm,hx⟩:=Option.map_eq_some_iff.1 h;have hxs:xs.map (·.1)=ks.map fun s=>(DataW.lit (.int .u8 s):DataW H):=by
     have:=congrArg Prod.fst hx
     simpa using this
    intro i hi;obtain⟨b,hb,hf⟩:=Lib.mapM_at hm i i (by simp[hi]);obtain⟨s,hc,rfl,_⟩:=DataW.trod_int he hf;have h1:cs[i]?=some (.int .u8 s):=by
     have:=congrArg (·[0]?) hc
     simpa[List.getElem?_take,List.getElem?_drop] using this
    have h2:(xs.map (·.1))[i]?=some (DataW.lit (.int .u8 s):DataW H):=by simp[hb]
    rw[hxs] at h2;simp only[List.getElem?_map,Option.map_eq_some_iff,DataW.lit.injEq,Lit.int.injEq] at h2;obtain⟨z',hz',_,hz2⟩:=h2;rw[h1,List.getD_eq_getElem?_getD,hz',← hz2];rfl
   ·cases h
end
theorem first_of_laid {W : World} {l : List (String × DataW Unit)} (h : laidMet Tryz.prog l W) (hm : ("lapwing/ctrl.first", (.agg (firstK.map fun s => .lit (.int .u8 s)) : DataW Unit)) ∈ l) : FirstAt W := by
 obtain⟨ps,hv,_⟩:=h;obtain⟨g,t,cs,fuel,p,hg,ht,hvar,hd⟩:=laid_reads hv _ _ hm;obtain rfl := Option.some.inj ((show Tryz.prog.globalNamed "lapwing/ctrl.first" = some 1 by kernel_rfl).symm.trans hg)
 obtain rfl:=Option.some.inj ((show (Tryz.prog.globals[1]?).map (·.type)=some 258 by kernel_rfl).symm.trans ht);have hc:=cells_octs (n:=10) (e:=5) Tryz.underlying258 Tryz.underlying5 (by kernel_rfl) (by kernel_rfl) hd;intro i hi;have := World.var?_cell (show Tryz.prog.globalNamed "lapwing/ctrl.first" = some 1 by kernel_rfl) hvar i
 rw[this];simpa using hc i hi
theorem link_of_laid {W : World} {l : List (String × DataW Unit)} (h : laidMet Tryz.prog l W) (hm : ("lapwing/teimsg.link", (.agg [.lit (.int .i64 63), .lit (.int .i64 127)] : DataW Unit)) ∈ l) : LinkAt W := by
 obtain⟨ps,hv,_⟩:=h;obtain⟨g,t,cs,fuel,p,hg,ht,hvar,hd⟩:=laid_reads hv _ _ hm;obtain rfl := Option.some.inj ((show Tryz.prog.globalNamed "lapwing/teimsg.link" = some 0 by kernel_rfl).symm.trans hg)
 obtain rfl:=Option.some.inj ((show (Tryz.prog.globals[0]?).map (·.type)=some 73 by kernel_rfl).symm.trans ht);obtain⟨xs,n,_,hx,hlen,hxl,hf⟩:=DataW.trod_struct Tryz.underlying73 hd;have hcl:cs.toList.length=2:=hlen.trans (by kernel_rfl);have h0:=hf 0 _ rfl;have h1:=hf 1 _ rfl;have hx2:xs.map (·.1)=[.lit (.int .i64 63),.lit (.int .i64 127)]:=by
  have:=congrArg Prod.fst hx
  simpa using this.symm
 match xs,hx2 with
 | [x0,x1],hx2 =>
   simp only[List.map_cons,List.map_nil,List.cons.injEq,and_true] at hx2;obtain⟨e0,e1⟩:=hx2;obtain⟨n0,c0,d0,_⟩:=DataW.trod_int Tryz.underlying3 h0;obtain⟨n1,c1,d1,_⟩:=DataW.trod_int Tryz.underlying3 h1;have g0:n0=63:=by rw[d0] at e0;simpa using e0
   have g1:n1=127:=by rw[d1] at e1;simpa using e1
   subst g0 g1;have hz := World.var?_cell (show Tryz.prog.globalNamed "lapwing/teimsg.link" = some 0 by kernel_rfl) hvar
   have k0:cs[0]?=some (.int .i64 63):=by
    have:=congrArg (·[0]?) c0
    simpa[List.getElem?_take,List.getElem?_drop,show Tryz.prog.cellsOf 3=1 by kernel_rfl] using this
   have k1:cs[1]?=some (.int .i64 127):=by
    have:=congrArg (·[0]?) c1
    simpa[List.getElem?_take,List.getElem?_drop,show Tryz.prog.cellsOf 3=1 by kernel_rfl] using this
   exact⟨(hz 0).trans k0,(hz 1).trans k1⟩
noncomputable def laidWorldK (os:Os):World :=
 let w0:=World.holding Tryz.prog os ⟨#[],#[],[]⟩
 let lay (cs:List Value) (o:Obj):Obj:=match o with
  | .cells _ t frozen=>.cells cs.toArray t frozen
  | o=>o
 { w0 with heap:=((((w0.heap.modify 2 (lay (nmB.map fun s=>Value.string ⟨s.toArray⟩))).modify 1 (lay (firstK.map fun s=>Value.int .u8 s))).modify 0 (lay [.int .i64 63,.int .i64 127])).modify 3 (lay (Pinned.utf8FirstZ.map fun (n:Nat)=>Value.int .u8 (n:Int)))).modify 4 (lay ([128,191,160,191,128,159,144,191,128,143,0,0,0,0,0,0,0,0,0,0,0,0,0,0,0,0,0,0,0,0,0,0].map fun n=>Value.int .u8 n)) }
end Go.Proofs.YtnnahljdhdippaaGreatDoor
