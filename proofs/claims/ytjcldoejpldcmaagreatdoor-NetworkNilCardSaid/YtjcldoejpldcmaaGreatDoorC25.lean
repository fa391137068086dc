/- Parts of a proof (NetI, NetJ). No condition. -/
import Derived.Test.YtjcldoejpldcmaaGreatDoorC24
namespace Go.Proofs.YtjcldoejpldcmaaGreatDoor
set_option maxRecDepth 100000
set_option maxHeartbeats 6400000
open Go.RowKit
theorem adrG_range (s:ByteArray):0<=(adrG s).1.s/\(adrG s).1.s<=63/\0<=(adrG s).1.t/\(adrG s).1.t<=127:=by
 obtain⟨x0,x1⟩:=byteAt_range s 0;obtain⟨y0,y1⟩:=byteAt_range s 1;unfold adrG;split
 ·exact⟨Int.le_refl _,by show (0:Int)<=63;decide,Int.le_refl _,by show (0:Int)<=127;decide⟩
 ·split
  ·exact⟨Int.le_refl _,by show (0:Int)<=63;decide,Int.le_refl _,by show (0:Int)<=127;decide⟩
  ·dsimp only
   omega
theorem getO_tei (s:ByteArray) (net:Bool):0<=(getO s net).1.sapi/\(getO s net).1.sapi<=63/\0<=(getO s net).1.tei/\(getO s net).1.tei<=127:=by
 have z:0<=Fr.none.sapi/\Fr.none.sapi<=63/\0<=Fr.none.tei/\Fr.none.tei<=127:=⟨Int.le_refl _,by show (0:Int)<=63;decide,Int.le_refl _,by show (0:Int)<=127;decide⟩;unfold getO;split
 ·exact z
 ·dsimp only
  split
  ·exact z
  ·split
   ·exact z
   ·split
    ·exact z
    ·split
     ·exact z
     ·exact adrG_range _
theorem St.nw_look {w0 w:World} {R:HP} {t:Nat} {q:Np} {lk:List (Int × Nat)} {x:Nw} {i:Int} {p:Nat} (h:St w0 w (NwAt t q lk x*R)) (hk:kInt.ok i) (hp:mlook lk i=some p) :
  w.cell? ⟨t,7,none⟩=some (.map (some q.b))/\(Instr.lookup 93 (.map (some q.b)) (.int .i64 i) false).run Tryz.prog w=.ok (ptr p) w:=by
 obtain⟨m7,_,_,⟨A,hA⟩,_⟩:=h.nw_map;exact⟨m7,hA.lk_some hk hp⟩
structure NComeIs (x:Nw) (f:Fr) (m:Tm) (ok:Bool) (Z:Nw):Prop where
 a:ok=true->Z=(x.setS (x.s.message m).1).srcs (x.s.message m).2
 b:ok=false->f.tei=127->Z=x
 c:ok=false->f.tei≠127->f.sapi≠0->Z=x
 d:ok=false->f.tei≠127->f.sapi=0->mlook x.l f.tei=none->Z=x
 e:ok=false->f.tei≠127->f.sapi=0->∀ e,mlook x.l f.tei=some e->Z=(x.putE f.tei (e.frame f).1).links f.tei (e.frame f).2
theorem ncome_is (x:Nw) (s:ByteArray) (h0:(getO s false).2=0):NComeIs x (getO s false).1 (tmOf (getO s false).1 false).1 (tmOf (getO s false).1 false).2 (x.come s):=by
 unfold Nw.come;dsimp only;rw[if_neg (fun e=>e h0)];refine⟨fun h=>by rw[if_pos h],fun h h1=>?_,fun h h1 h2=>?_,fun h h1 h2 h3=>?_,fun h h1 h2 e h3=>?_⟩
 ·rw[if_neg (by rw[h];decide),if_pos (.inl h1)]
 ·rw[if_neg (by rw[h];decide),if_pos (.inr h2)]
 ·rw[if_neg (by rw[h];decide),if_neg (by rw[h2];simpa using h1)]
  unfold Nw.mayE;rw[h3]
 ·rw[if_neg (by rw[h];decide),if_neg (by rw[h2];simpa using h1)]
  unfold Nw.mayE;rw[h3]
theorem mux_route (l:List (Int × En)) (a i:Int) (hi:i≠127):(muxOf l).route (a,i)=if a=0/\(mlook l i).isSome=true then [i] else []:=by
 unfold Mx.route;rw[if_pos hi,mux_look];by_cases ha:a=0
 ·rw[if_pos ha]
  cases mlook l i with
  | none=>rw[if_neg (by simp)];rfl
  | some e=>rw[if_pos ⟨ha,rfl⟩];rfl
 ·rw[if_neg ha,if_neg (fun e=>ha e.1)]
theorem St.nw_mux {w0 w:World} {R:HP} {t:Nat} {q:Np} {lk:List (Int × Nat)} {x:Nw} (h:St w0 w (NwAt t q lk x*R)):∃ Z,St w0 w (XAt q.m (muxOf x.l)*(Z*R))/\(∀ w' A,St w0 w' (Z*A)->w'.cell? ⟨t,6,none⟩=some (ptrX q.m))/\∀ w' A,St w0 w' (XAt q.m (muxOf x.l)*(Z*A))->St w0 w' (NwAt t q lk x*A):=by
 obtain⟨sv,tv,L,hL,h1⟩:=h.nw_open;refine⟨blk t (.cells (x.cells q sv tv) TNt (0,0))*(SAt q.s x.s*(MAt kInt ptr q.b (lkOf L)*(ensAt L*(CAt q.c x.c*(DeAt q.p x.d*(LAt 9 1 encS sv x.sent*LAt TNold 3 tolN tv x.told)))))),h1.eq (by unfold NwIn;ac_rfl),fun w' A h'=>((h'.eq (star_assoc _ _ _)).cell 6).trans rfl,fun w' A h'=>?_⟩
 exact St.nw_shut (q:=q) (sv:=sv) (tv:=tv) hL (h'.eq (by unfold NwIn;ac_rfl))
abbrev frB (gf:Nat) (a1 a2:Int) (cmd:Bool) (k:Int) (pf:Bool) (ns nr:Int) (inf:ByteArray):HP:=blk gf (.cells #[.int .i64 a1,.int .i64 a2,.bool cmd,.int .i64 k,.bool pf,.int .i64 ns,.int .i64 nr,.string inf] TFr (0,0))
theorem nw_come (t:Nat) (q:Np) (lk:List (Int × Nat)) (x:Nw) (s:ByteArray) (hfit:x.Fit) (hl:x.len<=700000000000) (hs:s.size<=1000000) (w0 w:World) (R:HP) (hN:∀ w',St w0 w' R->NamesAt w') (hF:∀ w',St w0 w' R->FirstAt w') (hL:∀ w',St w0 w' R->LinkAt w')
  (h:St w0 w (NwAt t q lk x*R)) :
  Calls Tryz.prog 33 #[ptr t,.string s] w fun r w'=>∃ k',r=.returned (.tuple #[])/\St w0 w' (NwAt t q k' (x.come s)*R):=by
 have hg:=p_get s false w0 w _ (fun w' h=>hN w' h.drop) (fun w' h=>hF w' h.drop) h (by omega);have hsz:=getO_info s false;by_cases h0:(getO s false).2=0
 ·have hci:=ncome_is x s h0
  obtain⟨Z,hZ⟩:∃ Z,x.come s=Z:=⟨_,rfl⟩;rw[hZ] at hci ⊢;clear hZ;have hm:=fun w R hL h=>m_of (getO s false).1 false w0 w R hL h (by omega)
  have hrg:=getO_tei s false;rw[h0] at hg;generalize getO s false=G at *;obtain⟨⟨a1,a2,cmd,k,pf,ns,nr,inf⟩,ec⟩:=G;simp only[] at hci hm hg hsz hrg;generalize tmOf ⟨a1,a2,cmd,k,pf,ns,nr,inf⟩ false=M at *;obtain⟨⟨f1,f2,f3⟩,ok⟩:=M;simp only[Fr.cells,Tm.cells] at hci hm hg hsz;have HC:=Lib.hid hci;have HN:=Lib.hid hN;have HF:=Lib.hid hF;have HK:=Lib.hid hL;have HI:=Lib.hid hfit;have HL:=Lib.hid hl;have HR:=Lib.hid hrg;clear h h0 hsz hs hci hN hF hL hfit hl hrg;go_enter Tryz.func33,Tryz.ntmps33
  go_upto_region 1 with (go_at_call 24;refine hg.mono ?_;rintro r w5 ⟨rfl,h5⟩)
  clear hg;have h6:=h5.alloc (.cells #[.int .i64 a1,.int .i64 a2,.bool cmd,.int .i64 k,.bool pf,.int .i64 ns,.int .i64 nr,.string inf] TFr);generalize w5.alloc _=w6 at *;generalize w5.heap.size=gf at *;have h6:St w0 w6 (frB gf a1 a2 cmd k pf ns nr inf*(NwAt t q lk x*R)):=h6;have c6:=h6.cell;have hm2:=hm w6 _ (fun w' h=>HK.out w' h.drop.drop) h6;clear hm h5;go_upto_region 3 with (go_at_call 31;refine hm2.mono ?_;rintro r w7 ⟨rfl,h7⟩)
  clear hm2 h6 c6;have h8:=h7.alloc (.cells #[.int .i64 f1,.int .i64 f2,.int .i64 f3] TTm);generalize w7.alloc _=w8 at *;generalize w7.heap.size=gm at *;clear h7;cases ok with
  | true =>
    have hz:=HC.out.a rfl;obtain⟨Z0,h1,hcl,hback⟩:=(h8.eq (show _=NwAt t q lk x*(blk gm (.cells #[.int .i64 f1,.int .i64 f2,.int .i64 f3] TTm (0,0))*(frB gf a1 a2 cmd k pf ns nr inf*R)) by ac_rfl)).nw_src;have e1:w8.drew.cell? ⟨t,5,none⟩=some (ptr q.s):=hcl _ _ h1.drew.drop;have m0:w8.drew.cell? ⟨gm,0,none⟩=some (.int .i64 f1):=(h8.drew.cell 0).trans rfl;have m1:w8.drew.cell? ⟨gm,1,none⟩=some (.int .i64 f2):=(h8.drew.cell 1).trans rfl;have m2:w8.drew.cell? ⟨gm,2,none⟩=some (.int .i64 f3):=(h8.drew.cell 2).trans rfl;have hq:=so_message q.s x.s ⟨f1,f2,f3⟩ w0 w8.drew _ h1.drew HI.out.ok;obtain⟨fa,fb,_,_⟩:=src_message HI.out ⟨f1,f2,f3⟩;have ln:=(eg_message HI.out.ok ⟨f1,f2,f3⟩).1;have HE:=Lib.hid hz;generalize x.s.message ⟨f1,f2,f3⟩=A at *;obtain⟨A1,A2⟩:=A;simp only[] at *;have hs:=fun v w R hN hF hL h=>nw_srcs t q lk (x.setS A1) v A2 fa fb (by omega) (by have h2:=HL.out;show x.len+100000*A2.length<=_;omega) w0 w R hN hF hL h
    have HB:=Lib.hid hback;have HCL:=Lib.hid hcl;clear hz fa fb ln hback hcl;go_upto_region 4 with fail
    refine wp_region_held_drew (S:=fun wx=>wx.cell? ⟨t,5,none⟩=some (ptr q.s)/\wx.cell? ⟨gm,0,none⟩=some (.int .i64 f1)/\wx.cell? ⟨gm,1,none⟩=some (.int .i64 f2)/\wx.cell? ⟨gm,2,none⟩=some (.int .i64 f3)) (by kernel_rfl) ⟨e1,m0,m1,m2⟩ (fun hHeld=>?_)
    clear e1 m0 m1 m2 h1 h8;generalize w8.drew=wd at *;refine tk 0 ?_ rfl (fun w hSw=>?_) ?_
    rotate_left 1
    ·try dsimp only at hSw
     go_simp
     try with_reducible rfl
    try simp only[Act.put,sl]
    refine tk 1 ?_ rfl (fun w hSw=>?_) ?_
    rotate_left 1
    ·try dsimp only at hSw
     go_simp
     try with_reducible rfl
    try simp only[Act.put,sl]
    refine tk 2 ?_ rfl (fun w hSw=>?_) ?_
    rotate_left 1
    ·try dsimp only at hSw
     go_simp
     try with_reducible rfl
    try simp only[Act.put,sl]
    refine tk 3 ?_ rfl (fun w hSw=>?_) ?_
    rotate_left 1
    ·try dsimp only at hSw
     go_simp
     try with_reducible rfl
    try simp only[Act.put,sl]
    refine tk 4 ?_ rfl (fun w hSw=>?_) ?_
    rotate_left 1
    ·try dsimp only at hSw
     go_simp
     try with_reducible rfl
    try simp only[Act.put,sl]
    refine tk 5 ?_ rfl (fun w hSw=>?_) ?_
    rotate_left 1
    ·try dsimp only at hSw
     go_simp
     try with_reducible rfl
    try simp only[Act.put,sl]
    refine rd 6 rfl (fun K hK=>?_)
    go_simp
    go_at_call 69
    refine hq.mono ?_
    rintro r wa ⟨va,rfl,ha⟩;have hb:=HB.out wa A1 (EAt va A2*(blk gm (.cells #[.int .i64 f1,.int .i64 f2,.int .i64 f3] TTm (0,0))*(frB gf a1 a2 cmd k pf ns nr inf*R))) (ha.eq (by ac_rfl));have hm:=hb.f3;clear ha hq;go_simp
    refine hK.out _ _ ⟨hb.nw_map.2.2.1,(hm.cell 0).trans rfl,(hm.cell 1).trans rfl,(hm.cell 2).trans rfl⟩ (fun hHeld=>?_)
    clear hK K;try simp only[Act.put,sl]
    have hs:=hs va wa _ (fun w' h=>HN.out w' h.drop.drop) (fun w' h=>HF.out w' h.drop.drop) (fun w' h=>HK.out w' h.drop.drop) hb.f2;clear hb hm;refine rd 7 rfl (fun K hK=>?_)
    go_simp
    go_at_call 41
    refine hs.mono ?_
    rintro r wb ⟨k',rfl,hb⟩;clear hs;have hm:=hb.f3;have hn:=hb.f2;go_simp
    refine hK.out _ _ ⟨hn.nw_map.2.2.1,(hm.cell 0).trans rfl,(hm.cell 1).trans rfl,(hm.cell 2).trans rfl⟩ (fun hHeld=>?_)
    clear hK K;try simp only[Act.put,sl]
    refine wpAnyH_done (by kernel_rfl) ?_ _
    have h9:=hb.drop.f2.drop.f2.drop;clear hb hm hn hHeld;go_wp2;exact bodyPost_ret (v:=.tuple #[]) (by simp[results,Tryz.results33,go_sem]) rfl ⟨_,rfl,by rw[HE.out];exact h9⟩
  | false =>
    have hd:=h8.drop;clear h8;by_cases t127:a2=127
    ·have HE:=Lib.hid (HC.out.b rfl t127)
     have h9:=hd.drop;have c8:=hd.cell;subst t127;go_wp2;exact bodyPost_ret (v:=.tuple #[]) (by simp[results,Tryz.results33,go_sem]) rfl ⟨_,rfl,by rw[HE.out];exact h9⟩
    have q127:(a2 == 127)=false:=by simp[t127]
    have hk:kInt.ok a2:=kok a2 (by have:=HR.out;omega) (by have:=HR.out;omega);obtain⟨Z0,h1,hcl,hback⟩:=(hd.eq (show _=NwAt t q lk x*(frB gf a1 a2 cmd k pf ns nr inf*R) by ac_rfl)).nw_mux;have hq:=x_route q.m (muxOf x.l) (a1,a2) (okL_tei (by have:=HR.out;omega) (by have:=HR.out;omega)) w0 w8.drew _ h1.drew (by rw[mux_len];have:=HI.out.f0.l_len;omega);rw[mux_route x.l a1 a2 t127] at hq;have e1:w8.drew.cell? ⟨t,6,none⟩=some (ptrX q.m):=hcl _ _ h1.drew.drop;have g0:w8.drew.cell? ⟨gf,0,none⟩=some (.int .i64 a1):=(hd.drew.cell 0).trans rfl;have g1:w8.drew.cell? ⟨gf,1,none⟩=some (.int .i64 a2):=(hd.drew.cell 1).trans rfl;have c8:=hd.cell;have HB:=Lib.hid hback;clear hcl hback h1;by_cases hso:a1=0/\(mlook x.l a2).isSome=true
    ·obtain⟨rfl,hso⟩:=hso
     rw[if_pos ⟨rfl,hso⟩] at hq;obtain⟨e,he⟩:=Option.isSome_iff_exists.1 hso;have HE:=Lib.hid (HC.out.e rfl t127 rfl e he);have HEE:=Lib.hid he;clear hso he HC t127;go_upto_region 6 with fail
     refine wp_region_held_drew (S:=fun wx=>wx.cell? ⟨t,6,none⟩=some (ptrX q.m)/\wx.cell? ⟨gf,0,none⟩=some (.int .i64 0)/\wx.cell? ⟨gf,1,none⟩=some (.int .i64 a2)) (by kernel_rfl) ⟨e1,g0,g1⟩ (fun hHeld=>?_)
     clear e1 g0 g1;generalize w8.drew=wd at *;refine tk 0 ?_ rfl (fun w hSw=>?_) ?_
     rotate_left 1
     ·try dsimp only at hSw
      go_simp
      try with_reducible rfl
     try simp only[Act.put,sl]
     refine tk 1 ?_ rfl (fun w hSw=>?_) ?_
     rotate_left 1
     ·try dsimp only at hSw
      go_simp
      try with_reducible rfl
     try simp only[Act.put,sl]
     refine tk 2 ?_ rfl (fun w hSw=>?_) ?_
     rotate_left 1
     ·try dsimp only at hSw
      go_simp
      try with_reducible rfl
     try simp only[Act.put,sl]
     refine tk 3 ?_ rfl (fun w hSw=>?_) ?_
     rotate_left 1
     ·try dsimp only at hSw
      go_simp
      try with_reducible rfl
     try simp only[Act.put,sl]
     refine tk 4 ?_ rfl (fun w hSw=>?_) ?_
     rotate_left 1
     ·try dsimp only at hSw
      go_simp
      try with_reducible rfl
     try simp only[Act.put,sl]
     refine tk 5 ?_ rfl (fun w hSw=>?_) ?_
     rotate_left 1
     ·try dsimp only at hSw
      go_simp
      try with_reducible rfl
     try simp only[Act.put,sl]
     refine tk 8 ?_ rfl (fun w hSw=>?_) ?_
     rotate_left 1
     ·try dsimp only at hSw
      go_simp
      try with_reducible rfl
     try simp only[Act.put,sl]
     refine rd 6 rfl (fun K hK=>?_)
     go_simp
     go_at_call 70
     refine hq.mono ?_
     rintro r wa ⟨va,rfl,ha⟩;clear hq;have sh:∃ a cap,va=.slice a 1 cap/\(1:Nat)<=cap/\cap<=maxLen:=ha.l_shape;obtain⟨sa,sc,rfl,_,_⟩:=sh;have hb:=HB.out wa (LAt 3 1 intL (.slice sa 1 sc) [a2]*(frB gf 0 a2 cmd k pf ns nr inf*R)) (ha.eq (by ac_rfl));have hb2:=hb.eq (show _=frB gf 0 a2 cmd k pf ns nr inf*(NwAt t q lk x*(LAt 3 1 intL (.slice sa 1 sc) [a2]*R)) by ac_rfl);go_simp
     refine hK.out _ _ ⟨hb.nw_map.2.1,(hb2.cell 0).trans rfl,(hb2.cell 1).trans rfl⟩ (fun hHeld=>?_)
     clear hK K;try simp only[Act.put,sl]
     refine tk 7 ?_ rfl (fun w hSw=>?_) ?_
     rotate_left 1
     ·try dsimp only at hSw
      go_simp
      try with_reducible rfl
     try simp only[Act.put,sl]
     refine wpAnyH_done (by kernel_rfl) ?_ _
     clear hHeld ha;clear hd c8 q127 HB hb2;have HH:=Lib.hid (hb.eq (show _=LAt 3 1 intL (.slice sa 1 sc) [a2]*(NwAt t q lk x*(frB gf 0 a2 cmd k pf ns nr inf*R)) by ac_rfl));clear hb;go_wp2;go_loopw [43] (fun s43 wr=>∃ j:Nat,j<=1/\s43=.int .i64 j/\Hid (St w0 wr (LAt 3 1 intL (.slice sa 1 sc) [a2]*(NwAt t q lk (if j=0 then x else Z)*(frB gf 0 a2 cmd k pf ns nr inf*R))))) (fun s43 _=>1 - (intOf s43).toNat)
     case atStart=>exact⟨0,by omega,rfl,HH⟩
     case round =>
      clear HH;obtain⟨j,hj,rfl,HJ⟩:=hrel;by_cases hlt:j<1
      ·obtain rfl:j=0:=by omega
       have HJ:Hid (St w0 wr (LAt 3 1 intL (.slice sa 1 sc) [a2]*(NwAt t q lk x*(frB gf 0 a2 cmd k pf ns nr inf*R)))):=HJ;rcases HJ.out.l_cells (fun _=>rfl) with ⟨h0,_⟩ | ⟨g,off,cap',hv,_,_,hcell⟩
       ·cases h0
       ·simp only[Value.slice.injEq] at hv
        obtain⟨rfl,hq,rfl⟩:=hv;clear hq;have d0:wr.cell? ⟨g,off,none⟩=some (.int .i64 a2):=hcell 0 a2 rfl 0 _ rfl;have h1:=HJ.out.f2;obtain⟨p,Z0,h2,hp,_,hback⟩:=h1.nw_ent HEE.out;have fe:=(look_range HI.out.f0 HEE.out).2.2;have hg:=e_frame p e ⟨0,a2,cmd,k,pf,ns,nr,inf⟩ fe.ok.b.fl (fun h=>⟨fe.ok.tei.1 h,fe.ok.s8⟩) (by rw[fe.out];decide) w0 wr.drew _ (HN.out _ h1.drop.drop.drop.drew) h2.drew;have hfx:=nxs_frame fe ⟨0,a2,cmd,k,pf,ns,nr,inf⟩;have ln:=frame_len e (out0 fe) ⟨0,a2,cmd,k,pf,ns,nr,inf⟩;have hr:=look_range HI.out.f0 HEE.out;generalize e.frame ⟨0,a2,cmd,k,pf,ns,nr,inf⟩=A at *;obtain⟨A1,A2⟩:=A;simp only[Fr.cells] at *;have hs:=fun v w R hN hF h=>nw_links t q lk (x.putE a2 A1) a2 ⟨hr.1,hr.2.1⟩ v A2 hfx (by omega) (by have h2:=HL.out;show x.len+_<=_;omega) w0 w R hN hF h
        have HB:=Lib.hid hback;have HP:=Lib.hid hp;have hgf:=h1.f3.drew;have S0:wr.drew.cell? ⟨t,7,none⟩=some (.map (some q.b))/\(Instr.lookup 93 (.map (some q.b)) (.int .i64 a2) false).run Tryz.prog wr.drew=.ok (ptr p) wr.drew:=h1.drew.nw_look hk hp;have g0:wr.drew.cell? ⟨gf,0,none⟩=some (.int .i64 0):=(hgf.cell 0).trans rfl;have g1:wr.drew.cell? ⟨gf,1,none⟩=some (.int .i64 a2):=(hgf.cell 1).trans rfl;have g2:wr.drew.cell? ⟨gf,2,none⟩=some (.bool cmd):=(hgf.cell 2).trans rfl;have g3:wr.drew.cell? ⟨gf,3,none⟩=some (.int .i64 k):=(hgf.cell 3).trans rfl;have g4:wr.drew.cell? ⟨gf,4,none⟩=some (.bool pf):=(hgf.cell 4).trans rfl;have g5:wr.drew.cell? ⟨gf,5,none⟩=some (.int .i64 ns):=(hgf.cell 5).trans rfl;have g6:wr.drew.cell? ⟨gf,6,none⟩=some (.int .i64 nr):=(hgf.cell 6).trans rfl;have g7:wr.drew.cell? ⟨gf,7,none⟩=some (.string inf):=(hgf.cell 7).trans rfl;clear HJ h1 h2 hback hp fe hfx ln hr hcell hgf;go_upto_region 9 with fail
        refine wp_region_held_drew (S:=fun wx=>(wx.cell? ⟨t,7,none⟩=some (.map (some q.b))/\(Instr.lookup 93 (.map (some q.b)) (.int .i64 a2) false).run Tryz.prog wx=.ok (ptr p) wx)/\(wx.cell? ⟨gf,0,none⟩=some (.int .i64 0)/\wx.cell? ⟨gf,1,none⟩=some (.int .i64 a2)/\wx.cell? ⟨gf,2,none⟩=some (.bool cmd)/\wx.cell? ⟨gf,3,none⟩=some (.int .i64 k)/\wx.cell? ⟨gf,4,none⟩=some (.bool pf)/\wx.cell? ⟨gf,5,none⟩=some (.int .i64 ns)/\wx.cell? ⟨gf,6,none⟩=some (.int .i64 nr)/\wx.cell? ⟨gf,7,none⟩=some (.string inf))) (by kernel_rfl) ⟨S0,g0,g1,g2,g3,g4,g5,g6,g7⟩ (fun hHeld=>?_)
        clear S0 g0 g1 g2 g3 g4 g5 g6 g7 d0;generalize wr.drew=wd at *;refine tk 0 ?_ rfl (fun w hSw=>?_) ?_
        rotate_left 1
        ·try dsimp only at hSw
         go_simp
         try with_reducible rfl
        try simp only[Act.put,sl]
        refine tk 1 ?_ rfl (fun w hSw=>?_) ?_
        rotate_left 1
        ·try dsimp only at hSw
         go_simp
         try with_reducible rfl
        try simp only[Act.put,sl]
        refine tk 2 ?_ rfl (fun w hSw=>?_) ?_
        rotate_left 1
        ·try dsimp only at hSw
         go_simp
         try with_reducible rfl
        try simp only[Act.put,sl]
        refine tk 3 ?_ rfl (fun w hSw=>?_) ?_
        rotate_left 1
        ·try dsimp only at hSw
         go_simp
         try with_reducible rfl
        try simp only[Act.put,sl]
        refine tk 4 ?_ rfl (fun w hSw=>?_) ?_
        rotate_left 1
        ·try dsimp only at hSw
         go_simp
         try with_reducible rfl
        try simp only[Act.put,sl]
        refine tk 5 ?_ rfl (fun w hSw=>?_) ?_
        rotate_left 1
        ·try dsimp only at hSw
         go_simp
         try with_reducible rfl
        try simp only[Act.put,sl]
        refine tk 6 ?_ rfl (fun w hSw=>?_) ?_
        rotate_left 1
        ·try dsimp only at hSw
         go_simp
         try with_reducible rfl
        try simp only[Act.put,sl]
        refine tk 7 ?_ rfl (fun w hSw=>?_) ?_
        rotate_left 1
        ·try dsimp only at hSw
         go_simp
         try with_reducible rfl
        try simp only[Act.put,sl]
        refine tk 8 ?_ rfl (fun w hSw=>?_) ?_
        rotate_left 1
        ·try dsimp only at hSw
         go_simp
         try with_reducible rfl
        try simp only[Act.put,sl]
        refine rd 9 rfl (fun K hK=>?_)
        go_simp
        go_at_call 71
        refine hg.mono ?_
        rintro r wb ⟨vb,rfl,hb⟩;clear hg;have hc:=HB.out wb A1 (LAt TFx 11 Fx.cells vb A2*(LAt 3 1 intL (.slice (some ⟨g,off,none⟩) 1 sc) [a2]*(frB gf 0 a2 cmd k pf ns nr inf*R))) (hb.eq (by ac_rfl));have cg:=hc.f4.cell;have hs:=hs vb wb _ (fun w' h=>HN.out w' h.drop.drop) (fun w' h=>HF.out w' h.drop.drop) hc.f2;go_simp
        refine hK.out _ _ ⟨hc.nw_look hk HP.out,(cg 0).trans rfl,(cg 1).trans rfl,(cg 2).trans rfl,(cg 3).trans rfl,(cg 4).trans rfl,(cg 5).trans rfl,(cg 6).trans rfl,(cg 7).trans rfl⟩ (fun hHeld=>?_)
        clear hK K;try simp only[Act.put,sl]
        clear hb hc cg;refine rd 10 rfl (fun K hK=>?_)
        go_simp
        go_at_call 43
        refine hs.mono ?_
        rintro r wc ⟨rfl,hb⟩;clear hs;have hz:=hb.drop;have cg:=hz.f3.cell;go_simp
        refine hK.out _ _ ⟨hz.nw_look hk HP.out,(cg 0).trans rfl,(cg 1).trans rfl,(cg 2).trans rfl,(cg 3).trans rfl,(cg 4).trans rfl,(cg 5).trans rfl,(cg 6).trans rfl,(cg 7).trans rfl⟩ (fun hHeld=>?_)
        clear hK K;try simp only[Act.put,sl]
        refine wpAnyH_done (by kernel_rfl) ?_ _
        have h9:=hz.f2;clear hb cg hz hHeld;go_wp2;go_roundw
        case rel =>
         refine⟨1,by omega,by go_num,Lib.hid ?_⟩
         rw[if_neg (by decide),HE.out];exact h9
        case measure=>simp[intOf]
      ·obtain rfl:j=1:=by omega
       have hz:=HJ.out.drop;rw[if_neg (by decide)] at hz;have hz2:=hz.f2.drop;clear HJ hz;go_wp2;go_end0
       exact⟨_,rfl,hz2⟩
    ·rw[if_neg hso] at hq
     have hZ:Z=x:=by
      by_cases z1:a1=0
      ·have z2:mlook x.l a2=none:=by
        cases e:mlook x.l a2 with
        | none=>rfl
        | some _=>exact absurd ⟨z1,by rw[e];rfl⟩ hso
       exact HC.out.d rfl t127 z1 z2
      ·exact HC.out.c rfl t127 z1
     have HE:=Lib.hid hZ;clear hZ hso t127 HC;go_upto_region 6 with fail
     refine wp_region_held_drew (S:=fun wx=>wx.cell? ⟨t,6,none⟩=some (ptrX q.m)/\wx.cell? ⟨gf,0,none⟩=some (.int .i64 a1)/\wx.cell? ⟨gf,1,none⟩=some (.int .i64 a2)) (by kernel_rfl) ⟨e1,g0,g1⟩ (fun hHeld=>?_)
     clear e1 g0 g1;generalize w8.drew=wd at *;refine tk 0 ?_ rfl (fun w hSw=>?_) ?_
     rotate_left 1
     ·try dsimp only at hSw
      go_simp
      try with_reducible rfl
     try simp only[Act.put,sl]
     refine tk 1 ?_ rfl (fun w hSw=>?_) ?_
     rotate_left 1
     ·try dsimp only at hSw
      go_simp
      try with_reducible rfl
     try simp only[Act.put,sl]
     refine tk 2 ?_ rfl (fun w hSw=>?_) ?_
     rotate_left 1
     ·try dsimp only at hSw
      go_simp
      try with_reducible rfl
     try simp only[Act.put,sl]
     refine tk 3 ?_ rfl (fun w hSw=>?_) ?_
     rotate_left 1
     ·try dsimp only at hSw
      go_simp
      try with_reducible rfl
     try simp only[Act.put,sl]
     refine tk 4 ?_ rfl (fun w hSw=>?_) ?_
     rotate_left 1
     ·try dsimp only at hSw
      go_simp
      try with_reducible rfl
     try simp only[Act.put,sl]
     refine tk 5 ?_ rfl (fun w hSw=>?_) ?_
     rotate_left 1
     ·try dsimp only at hSw
      go_simp
      try with_reducible rfl
     try simp only[Act.put,sl]
     refine tk 8 ?_ rfl (fun w hSw=>?_) ?_
     rotate_left 1
     ·try dsimp only at hSw
      go_simp
      try with_reducible rfl
     try simp only[Act.put,sl]
     refine rd 6 rfl (fun K hK=>?_)
     go_simp
     go_at_call 70
     refine hq.mono ?_
     rintro r wa ⟨va,rfl,ha⟩;clear hq;have sh:∃ a cap,va=.slice a 0 cap/\(0:Nat)<=cap/\cap<=maxLen:=ha.l_shape;obtain⟨sa,sc,rfl,_,_⟩:=sh;have hb:=HB.out wa (LAt 3 1 intL (.slice sa 0 sc) []*(frB gf a1 a2 cmd k pf ns nr inf*R)) (ha.eq (by ac_rfl));have hb2:=hb.eq (show _=frB gf a1 a2 cmd k pf ns nr inf*(NwAt t q lk x*(LAt 3 1 intL (.slice sa 0 sc) []*R)) by ac_rfl);go_simp
     refine hK.out _ _ ⟨hb.nw_map.2.1,(hb2.cell 0).trans rfl,(hb2.cell 1).trans rfl⟩ (fun hHeld=>?_)
     clear hK K;try simp only[Act.put,sl]
     refine tk 7 ?_ rfl (fun w hSw=>?_) ?_
     rotate_left 1
     ·try dsimp only at hSw
      go_simp
      try with_reducible rfl
     try simp only[Act.put,sl]
     refine wpAnyH_done (by kernel_rfl) ?_ _
     clear hHeld ha;have h9:=hb2.drop.f2.drop;clear hd c8 q127 HB hb hb2;go_wp2;go_loopw [43] (fun s43 wr=>s43=.int .i64 0/\wa=wr) (fun _ _=>0)
     case atStart=>exact⟨rfl,rfl⟩
     case round =>
      obtain⟨rfl,rfl⟩:=hrel;go_wp2;go_end0
      exact⟨_,rfl,by rw[HE.out];exact h9⟩
 ·have hz:x.come s=x:=by unfold Nw.come;dsimp only;rw[if_pos h0]
  rw[hz];have q0:((getO s false).2 != 0)=true:=by simp[h0]
  generalize getO s false=G at *;obtain⟨⟨a1,a2,cmd,k,pf,ns,nr,inf⟩,ec⟩:=G;simp only[Fr.cells] at hg q0;clear h h0 hsz hs hN hF hL hfit hl hz;go_enter Tryz.func33,Tryz.ntmps33
  go_wp2_with fail
  refine hg.mono ?_
  rintro r w5 ⟨rfl,h5⟩;clear hg;go_wp2;exact bodyPost_ret (v:=.tuple #[]) (by simp[results,Tryz.results33,go_sem]) rfl ⟨_,rfl,(h5.alloc _).drop⟩
theorem nevents_snoc (x:Nw) (l:List Ev) (y:Ev):(l++[y]).foldl Nw.event x=(l.foldl Nw.event x).event y:=by rw[List.foldl_append];rfl
theorem St.nw_dec {w0 w:World} {R:HP} {t:Nat} {q:Np} {lk:List (Int × Nat)} {x:Nw} (h:St w0 w (NwAt t q lk x*R)):∃ Z,St w0 w (DeAt q.p x.d*(Z*R))/\(∀ w' A,St w0 w' (Z*A)->w'.cell? ⟨t,9,none⟩=some (ptrD q.p))/\∀ w' d' A,St w0 w' (DeAt q.p d'*(Z*A))->St w0 w' (NwAt t q lk (x.setD d')*A):=by
 obtain⟨sv,tv,L,hL,h1⟩:=h.nw_open;refine⟨blk t (.cells (x.cells q sv tv) TNt (0,0))*(SAt q.s x.s*(XAt q.m (muxOf x.l)*(MAt kInt ptr q.b (lkOf L)*(ensAt L*(CAt q.c x.c*(LAt 9 1 encS sv x.sent*LAt TNold 3 tolN tv x.told)))))),h1.eq (by unfold NwIn;ac_rfl),fun w' A h'=>((h'.eq (star_assoc _ _ _)).cell 9).trans rfl,fun w' d' A h'=>?_⟩
 exact St.nw_shut (x:=x.setD d') (q:=q) (sv:=sv) (tv:=tv) hL (h'.eq (show _=blk t (.cells (x.cells q sv tv) TNt (0,0))*(SAt q.s x.s*(XAt q.m (muxOf x.l)*(MAt kInt ptr q.b (lkOf L)*(ensAt L*(CAt q.c x.c*(DeAt q.p d'*(LAt 9 1 encS sv x.sent*(LAt TNold 3 tolN tv x.told*A)))))))) by ac_rfl))
theorem nw_bits (t:Nat) (x:Nw) (now:Int) (b:ByteArray) (hfit:x.Fit) (ho:x.d.o<=100000000000000000) (hs:b.size<=10000) (w0 w:World) (R:HP) (hN:∀ w',St w0 w' R->NamesAt w') (hF:∀ w',St w0 w' R->FirstAt w') (hL:∀ w',St w0 w' R->LinkAt w') (h:St w0 w (NwOff t x*R)) :
  Calls Tryz.prog 12 #[ptr t,.int .i64 now,.string b] w fun r w'=>∃ sv tv,r=.returned (.tuple #[.agg #[sv,tv],.int .i64 (x.bits now b).2])/\St w0 w' (LAt 9 1 encS sv (x.bits now b).1.sent*(LAt TNold 3 tolN tv (x.bits now b).1.told*(NwOff t (x.bits now b).1*R))):=by
 have h1:=h.alloc (.cells #[.slice none 0 0,.slice none 0 0] TNRes);unfold Nw.bits;by_cases hb:badNow now=true
 ·rw[if_pos hb]
  have hc:=nw_begin_bad t x now hb w0 _ _ h1.f2;go_enter Tryz.func12,Tryz.ntmps12
  go_upto_region 1 with fail
  generalize w.alloc _=wa at *;generalize w.heap.size=ga at *;go_wp2_with fail
  refine hc.mono ?_
  rintro r w5 ⟨rfl,h5⟩;clear hc h1;have h6:=h5.f2;have c6:=h6.cell;have f6:=h6.free;have h9:=(h6.set 0 (.slice none 0 0)).set 1 (.slice none 0 0);clear h5 h6;go_wp2;have c9:=h9.cell;refine bodyPost_ret (v:=.tuple #[.agg #[.slice none 0 0,.slice none 0 0],.int .i64 2]) (by simp[results,Tryz.results12,go_sem,c9]) rfl ⟨_,_,rfl,?_⟩
  exact (h9.drop.l_nil TNold 3 tolN).l_nil 9 1 encS
 ·rw[if_neg hb]
  have hb:badNow now=false:=by simpa using hb
  have hc:=nw_begin t x now hb w0 _ _ h1.f2;have hft:=nfit_begin hfit now;have HN:=Lib.hid hN;have HF:=Lib.hid hF;have HK:=Lib.hid hL;have hlen:(x.begin now).len=0:=rfl;have hd:(x.begin now).d=x.d:=rfl;clear hN hF hL hb h;rw[← hd] at ho ⊢;generalize x.begin now=X at *;dsimp only;have hk:=fun p w R h=>d_feed p X.d b hft.f0.d ho (by omega) w0 w R h
  have hfs:=feed_small (bitsIn b.data.toList) hft.f0.d;have hfx:=nfit_setD hft (fits_feed (bitsIn b.data.toList) hft.f0.d);have hfl:=feed_len (bitsIn b.data.toList) X.d;have hbl:=bitsIn_len b.data.toList;have hbs:b.data.toList.length=b.size:=by rw[Array.length_toList];rfl
  generalize X.d.feed (bitsIn b.data.toList)=A at *;obtain⟨A1,l⟩:=A;simp only[] at *;obtain⟨n,hn⟩:∃ n,l.length=n:=⟨_,rfl⟩;have hn6:n<=10000:=by omega
  have hlen2:(X.setD A1).len=0:=hlen;obtain⟨Z,hZ⟩:∃ Z,l.foldl Nw.event (X.setD A1)=Z:=⟨_,rfl⟩;rw[hZ];have HZ:=Lib.hid hZ;have HA:=Lib.hid (And.intro hfx (And.intro hfs hlen2));have HNn:=Lib.hid hn;clear hlen hft hd hfit hfs hfl hbl hbs hfx hlen2 hs ho hn hZ;go_enter Tryz.func12,Tryz.ntmps12
  go_upto_region 1 with fail
  generalize w.alloc _=wa at *;generalize w.heap.size=ga at *;go_upto_region 2 with (go_at_call 32;refine hc.mono ?_;rintro r w5 ⟨q,lk,rfl,h5⟩)
  clear hc h1;obtain⟨Z0,h6,hcl,hback⟩:=h5.nw_dec;have c6:=hcl _ _ h6.drop;have hq:=hk q.p w5 _ h6;clear hk;go_wp2_with fail
  refine hq.mono ?_
  rintro r w7 ⟨v7,rfl,h7⟩;have h8:=(hback w7 A1 (LAt TEv 2 Ev.cells v7 l*(blk ga (.cells #[.slice none 0 0,.slice none 0 0] TNRes (0,0))*R)) (h7.eq (by ac_rfl))).f2;clear hq h5 h6 c6 hcl hback h7;have sh:=h8.l_shape;rw[HNn.out] at sh;obtain⟨a,cap,rfl,hcap,hmax⟩:=sh;have HH:=Lib.hid h8;clear h8;generalize X.setD A1=Y at *;go_wp2;go_loopw [25] (fun s25 wr=>∃ (i:Nat) (lk:List (Int × Nat)),i<=n/\s25=.int .i64 i/\Hid (St w0 wr (LAt TEv 2 Ev.cells (.slice a n cap) l*(NwAt t q lk ((l.take i).foldl Nw.event Y)*(blk ga (.cells #[.slice none 0 0,.slice none 0 0] TNRes (0,0))*R))))) (fun s25 _=>n - (intOf s25).toNat)
  case atStart=>exact⟨0,lk,by omega,rfl,HH⟩
  case round =>
   clear HH;clear lk;obtain⟨i,lk,hi,rfl,HI⟩:=hrel;by_cases hlt:i<n
   ·have hil:i<l.length:=by have:=HNn.out;omega
    obtain⟨y,hy⟩:∃ y,l[i]?=some y:=⟨l[i],List.getElem?_eq_getElem hil⟩;have htk:(l.take (i+1)).foldl Nw.event Y=((l.take i).foldl Nw.event Y).event y:=by
     rw[List.take_add_one,hy,Option.toList_some,nevents_snoc]
    have hsm:=HA.out.2.1 y (List.mem_of_getElem? hy);obtain⟨s1,s2⟩:=nfit_events (l.take i) HA.out.1;have s3:(l.take i).length=i:=by rw[List.length_take];omega
    have hl0:=HA.out.2.2;generalize (l.take i).foldl Nw.event Y=z at *;have hsz:=Lib.hid (show z.Fit/\z.len<=700000000000 from ⟨s1,by omega⟩);rcases HI.out.l_cells tyEv.len with ⟨h0,_⟩ | ⟨g,off,cap',hv,_,_,hcell⟩
    ·rw[h0] at hil;exact absurd hil (by simp)
    ·simp only[Value.slice.injEq] at hv
     obtain⟨rfl,hq,rfl⟩:=hv;clear hq;have hce:=hcell i y hy;obtain⟨kd,ls⟩:=y;have d0:wr.cell? ⟨g,off+i*2,none⟩=some (.int .i64 kd):=hce 0 _ rfl;have d1:wr.cell? ⟨g,off+i*2+1,none⟩=some (.string ⟨ls.toArray⟩):=hce 1 _ rfl;have HT:=Lib.hid htk;have hss:(⟨ls.toArray⟩:ByteArray).size<=1000000:=by have h1:ls.length<=10000:=hsm;show ls.toArray.size<=_;rw[List.size_toArray];omega
     have hev:z.event ⟨kd,ls⟩=if kd=0 then z.come ⟨ls.toArray⟩ else z:=rfl
     rw[hev] at HT;generalize (⟨ls.toArray⟩:ByteArray)=so at *;have hd:=HI.out.alloc (.cells #[.int .i64 kd,.string so] TEv);clear htk hce hcell hy hil s1 s2 s3 hl0 hsm hev;go_upto_region 7 with fail
     clear d0 d1;generalize wr.alloc _=w2 at *;generalize wr.heap.size=gy at *;have c2:=hd.cell;by_cases k0:kd=0
     ·have hs:=nw_come t q lk z so hsz.out.1 hsz.out.2 hss w0 w2 _ (fun w' h=>HN.out w' h.drop.drop.drop) (fun w' h=>HF.out w' h.drop.drop.drop) (fun w' h=>HK.out w' h.drop.drop.drop) (hd.eq (show _=NwAt t q lk z*(blk gy _*(LAt TEv 2 Ev.cells (.slice (some ⟨g,off,none⟩) n cap) l*(blk ga (.cells #[.slice none 0 0,.slice none 0 0] TNRes (0,0))*R))) by ac_rfl))
      rw[if_pos k0] at HT;subst k0;clear HI hd hss;go_wp2_with fail
      refine hs.mono ?_
      rintro r w5 ⟨k5,rfl,h5⟩;have h6:=h5.f2.drop.f2;clear c2 hs h5;go_wp2;go_roundw
      case rel =>
       have hh:=h6;rw[← HT.out] at hh;exact⟨i+1,_,by omega,by go_num,Lib.hid hh⟩
      case measure=>simp[intOf];omega
     ·rw[if_neg k0] at HT
      have q0:(kd == 0)=false:=by simp[k0]
      have h6:=hd.drop;clear HI hd hss k0;go_wp2;go_roundw
      case rel =>
       have hh:=h6;rw[← HT.out] at hh;exact⟨i+1,_,by omega,by go_num,Lib.hid hh⟩
      case measure=>simp[intOf];omega
   ·obtain rfl:i=n:=by omega
    have hz:=HI.out.drop;rw[List.take_of_length_le (by have:=HNn.out;omega)] at hz;clear HI;rw[HZ.out] at hz;obtain⟨sv,tv,L,⟨hL,_⟩,h1⟩:=hz.nw_open;have h2:=h1.eq (show _=blk ga _*(LAt 9 1 encS sv Z.sent*(LAt TNold 3 tolN tv Z.told*(blk t _*NwIn q Z L R))) by unfold NwIn;ac_rfl);have s1:=h2.f2.l_shape;have s2:=h2.f3.l_shape;obtain⟨ns,hns⟩:∃ n,Z.sent.length=n:=⟨_,rfl⟩;obtain⟨nt,hnt⟩:∃ n,Z.told.length=n:=⟨_,rfl⟩;rw[hns] at s1;rw[hnt] at s2;obtain⟨sa,sc,rfl,_,_⟩:=s1;obtain⟨ta,tc,rfl,_,_⟩:=s2;have c1:=h2.f4.cell;have cg:=h2.cell;have fg:=h2.free;have h9:=(h2.set 0 (.slice sa ns sc)).set 1 (.slice ta nt tc);have HLQ:=Lib.hid hL;clear h1 h2 hz hns hnt hL;go_wp2;have c9:=h9.cell;refine bodyPost_ret (v:=.tuple #[.agg #[.slice sa ns sc,.slice ta nt tc],.int .i64 0]) (by simp[results,Tryz.results12,go_sem,c9]) rfl ⟨_,_,rfl,?_⟩
    have h10:St w0 _ (NwOff t Z*(LAt 9 1 encS (.slice sa ns sc) Z.sent*(LAt TNold 3 tolN (.slice ta nt tc) Z.told*R))):=St.noff_shut HLQ.out (h9.drop.eq (by unfold NwIn;ac_rfl));exact h10.b3
end Go.Proofs.YtjcldoejpldcmaaGreatDoor
