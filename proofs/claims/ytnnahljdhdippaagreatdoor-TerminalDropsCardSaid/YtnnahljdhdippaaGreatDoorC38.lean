/- Parts of a proof (ActT, LawA). No condition. -/
import Derived.Test.YtnnahljdhdippaaGreatDoorC37
import Derived.Test.YtnnahljdhdippaaGreatDoorC23
namespace Go.Proofs.YtnnahljdhdippaaGreatDoor
set_option maxRecDepth 100000
set_option maxHeartbeats 6400000
open Go.RowKit
theorem feed_o:∀ (l:List Bool) (d:De),(d.feed l).1.o<=d.o+l.length\/(d.feed l).1.o<=7+l.length
 | [],d=>.inl (Nat.le_refl _)
 | b :: l,d=>by
   have e:(d.feed (b :: l)).1=((d.bit b).1.feed l).1:=rfl;rw[e,List.length_cons];rcases feed_o l (d.bit b).1 with h | h
   ·rcases ones_bit d b with h2 | h2
    ·exact .inl (by omega)
    ·exact .inr (by omega)
   ·exact .inr (by omega)
structure Tt.Well (cf:Tcf) (n:Nat) (x:Tt):Prop where
 fit:x.Fit
 tidy:x.u.Tidy
 o:x.d.o<=n+7
 cf:x.cf=cf
section
variable {cf:Tcf} {n:Nat} {x:Tt}
theorem users_cf:∀ (l:List Ue) (x:Tt),(x.users l).cf=x.cf/\(x.users l).d=x.d
 | [],_=>⟨rfl,rfl⟩
 | y :: l,x=>by
   have h1:(x.user1 y).cf=x.cf/\(x.user1 y).d=x.d:=by
    unfold Tt.user1;repeat' split
    all_goals first | exact⟨rfl,rfl⟩ | exact⟨links0_cf _,links0_d _⟩
   obtain⟨a,b⟩:=users_cf l (x.user1 y);exact⟨a.trans h1.1,b.trans h1.2⟩
theorem links_cf:∀ (l:List Fx) (x:Tt),(x.links l).cf=x.cf/\(x.links l).d=x.d
 | [],_=>⟨rfl,rfl⟩
 | y :: l,x=>by
   have h1:(x.link1 y).cf=x.cf/\(x.link1 y).d=x.d:=by
    unfold Tt.link1;split
    ·exact users_cf _ _
    ·exact⟨link0_cf y,link0_d y⟩
   obtain⟨a,b⟩:=links_cf l (x.link1 y);exact⟨a.trans h1.1,b.trans h1.2⟩
theorem come_cf (x:Tt) (s:ByteArray):(x.come s).cf=x.cf/\(x.come s).d=x.d:=by
 unfold Tt.come;dsimp only;repeat' split
 all_goals first | exact⟨rfl,rfl⟩ | exact users_cf _ _ | exact links_cf _ _
theorem events_cf:∀ (l:List Ev) (x:Tt),(l.foldl Tt.event x).cf=x.cf/\(l.foldl Tt.event x).d=x.d
 | [],_=>⟨rfl,rfl⟩
 | y :: l,x=>by
   have h1:(x.event y).cf=x.cf/\(x.event y).d=x.d:=by
    unfold Tt.event;split
    ·exact come_cf _ _
    ·exact⟨rfl,rfl⟩
   obtain⟨a,b⟩:=events_cf l (x.event y);exact⟨a.trans h1.1,b.trans h1.2⟩
theorem over_cf (x:Tt) (k:Key):(x.over k).cf=x.cf/\(x.over k).d=x.d:=by
 unfold Tt.over;split
 ·exact users_cf _ _
 ·exact links_cf _ _
theorem overs_cf:∀ (l:List Key) (x:Tt),(l.foldl Tt.over x).cf=x.cf/\(l.foldl Tt.over x).d=x.d
 | [],_=>⟨rfl,rfl⟩
 | y :: l,x=>by
   have h1:=over_cf x y;obtain⟨a,b⟩:=overs_cf l (x.over y);exact⟨a.trans h1.1,b.trans h1.2⟩
theorem Tt.Well.mono {m:Nat} (h:x.Well cf n) (hm:n<=m):x.Well cf m:=⟨h.fit,h.tidy,by have:=h.o;omega,h.cf⟩
theorem well_hush (h:x.Well cf n):x.hush.Well cf n:=⟨fit_hush h.fit,h.tidy,h.o,h.cf⟩
theorem well_ask (h:x.Well cf n) (now a:Int) (d:ByteArray):(x.ask now a d).1.Well cf n:=by
 have hf:=fit_tt_ask h.fit now a d;unfold Tt.ask at hf ⊢;split
 ·exact well_hush h
 ·rename_i hb
  rw[if_neg hb] at hf;exact⟨hf,tidy_links _ h.tidy,by rw[(links_cf _ _).2];exact h.o,by rw[(links_cf _ _).1];exact h.cf⟩
theorem well_bits (h:x.Well cf n) (now:Int) (b:ByteArray):(x.bits now b).1.Well cf (n+b.size):=by
 have hf:=fit_tt_bits h.fit now b;unfold Tt.bits at hf ⊢;split
 ·exact (well_hush h).mono (by omega)
 ·rename_i hb
  rw[if_neg hb] at hf;refine⟨hf,tidy_events _ h.tidy,?_,by rw[(events_cf _ _).1];exact h.cf⟩
  rw[(events_cf _ _).2];have h1:=feed_o (bitsIn b.data.toList) x.d;have h2:=bitsIn_len b.data.toList;have h3:b.data.toList.length=b.size:=rfl;have h4:=h.o;show (x.d.feed (bitsIn b.data.toList)).1.o<=_
  omega
theorem well_tick (h:x.Well cf n) (now:Int):(x.tick now).1.Well cf n:=by
 have hf:=fit_tick h.fit now;unfold Tt.tick at hf ⊢;split
 ·exact well_hush h
 ·rename_i hb
  rw[if_neg hb] at hf;exact⟨hf,tidy_overs _ ⟨h.fit.e,h.fit.u,h.fit.d,keys_left h.fit.k now⟩ h.tidy,by rw[(overs_cf _ _).2];exact h.o,by rw[(overs_cf _ _).1];exact h.cf⟩
theorem well_drop (h:x.Well cf n) (now:Int):(x.drop now).1.Well cf n:=by
 have hf:=fit_drop h.fit now;unfold Tt.drop at hf ⊢;split
 ·exact well_hush h
 ·rename_i hb
  rw[if_neg hb] at hf;dsimp only at hf ⊢;refine⟨hf,?_,Nat.zero_le _,?_⟩
  ·refine tidy_links _ ?_
   show (((x.begin now).setU x.u.drop.1).users x.u.drop.2.1).u.Tidy
   rw[users_u];exact tidy_drop h.tidy
  ·show (Tt.links _ _).cf=cf
   rw[(links_cf _ _).1];show (Tt.users _ _).cf=cf
   rw[(users_cf _ _).1];exact h.cf
theorem well_new (cf:Tcf) (d:Dr):(newTt cf d).Well cf 0:=⟨fit_tt_new cf d,newUs_tidy _ _,Nat.zero_le _,rfl⟩
theorem hush_out (x:Tt):x.hush.sent=[]/\x.hush.told=[]:=⟨rfl,rfl⟩
theorem ask_quiet (h:x.Fit) (now a:Int) (d:ByteArray) (he:(x.ask now a d).2≠0):(x.ask now a d).1.sent=[]/\(x.ask now a d).1.told=[]:=by
 unfold Tt.ask at he ⊢;split
 ·exact hush_out x
 ·rename_i hb
  rw[if_neg hb] at he;dsimp only at he ⊢;rw[(ask_out2 x.e h.e.out a d).2 he];exact⟨rfl,rfl⟩
theorem bits_quiet (now:Int) (b:ByteArray) (he:(x.bits now b).2≠0):(x.bits now b).1.sent=[]/\(x.bits now b).1.told=[]:=by
 unfold Tt.bits at he ⊢;split
 ·exact hush_out x
 ·rename_i hb
  rw[if_neg hb] at he;exact absurd rfl he
theorem tick_quiet (now:Int) (he:(x.tick now).2≠0):(x.tick now).1.sent=[]/\(x.tick now).1.told=[]:=by
 unfold Tt.tick at he ⊢;split
 ·exact hush_out x
 ·rename_i hb
  rw[if_neg hb] at he;exact absurd rfl he
theorem drop_quiet (now:Int) (he:(x.drop now).2≠0):(x.drop now).1.sent=[]/\(x.drop now).1.told=[]:=by
 unfold Tt.drop at he ⊢;split
 ·exact hush_out x
 ·rename_i hb
  rw[if_neg hb] at he;exact absurd rfl he
end
abbrev RtOpen (r:Nat) (x:Tt) (e u c q fp qp pp:Nat) (sv tv ov ou lv:Value) (ua:Option Addr) (uc:Nat) (L:Tms) (R:HP):HP :=
 blk r (.cells (x.cells e u c q sv tv) TRt (0,0))*(blk u (.cells (x.u.rcells pp ou) TRu (0,0))*(blk e (.cells (x.e.rcells fp (.slice ua x.e.units.length uc) ov) TRe (0,0))*(blk fp (.cells (x.e.fl.cells qp) TG (0,0))*(blk qp (.cells #[.int .i64 x.e.fl.q.most,lv,.int .i64 x.e.fl.q.sent] TR (0,0))*(CRef c L*R)))))
theorem St.rt_read {N r:Nat} {x:Tt} {w0 w:World} {R:HP} (h:St w0 w (RtOff N r x*R)) :
  ∃ e u c q fp qp pp sv tv ov ou lv ua uc L Z,Same x.c L/\St w0 w (RtOpen r x e u c q fp qp pp sv tv ov ou lv ua uc L (Z*R)) /\
   ∀ w' R,St w0 w' (RtOpen r x e u c q fp qp pp sv tv ov ou lv ua uc L (Z*R))->St w0 w' (RtOff N r x*R):=by
 obtain⟨e,u,c,q,ov,ou,lo,lu,h1⟩:=h.rtoff_open;obtain⟨sv,tv,L,rr,hi,h2⟩:=h1.f3.rt_open;obtain⟨⟨fp,uv⟩,h3⟩:=h2.f2.ex;simp only[star_assoc] at h3;obtain⟨qp,h4⟩:=h3.f2.f_open;obtain⟨lv,h5⟩:=h4.f2.q_open;obtain⟨ua,uc,rfl,_,_⟩:=h5.f5.row_shape;obtain⟨pp,h6⟩:=(h5.eq (show _=RuB u x.u ou*(blk qp (.cells #[.int .i64 x.e.fl.q.most,lv,.int .i64 x.e.fl.q.sent] TR (0,0))*(Row 9 1 lv x.e.fl.q.l.length (strs x.e.fl.q.l)*(blk fp (.cells (x.e.fl.cells qp) TG (0,0))*(blk e (.cells (x.e.rcells fp (.slice ua x.e.units.length uc) ov) TRe (0,0))*(Row 9 1 (.slice ua x.e.units.length uc) x.e.units.length (strs x.e.units)*(blk r (.cells (x.cells e u c q sv tv) TRt (0,0))*(CRef c L*(RdeAt q rr*(LAt 9 1 encS sv x.sent*(LAt TRtold 2 tolC tv x.told*(LAt TRx 11 Fx.cells ov lo*(LAt TRue 5 Ue.cells ou lu*R)))))))))))) by ac_rfl)).ex;simp only[star_assoc] at h6;refine⟨e,u,c,q,fp,qp,pp,sv,tv,ov,ou,lv,ua,uc,L,blk pp (.cells x.u.d.rcells TRd (0,0))*(fact x.u.d.Plain*(Row 9 1 lv x.e.fl.q.l.length (strs x.e.fl.q.l)*(Row 9 1 (.slice ua x.e.units.length uc) x.e.units.length (strs x.e.units)*(RdeAt q rr*(LAt 9 1 encS sv x.sent*(LAt TRtold 2 tolC tv x.told*(LAt TRx 11 Fx.cells ov lo*LAt TRue 5 Ue.cells ou lu))))))),hi.clock,h6.eq (by unfold RtOpen;ac_rfl),fun w' R h'=>?_⟩
 have a1:=(h'.eq (show _=blk qp (.cells #[.int .i64 x.e.fl.q.most,lv,.int .i64 x.e.fl.q.sent] TR (0,0))*(Row 9 1 lv x.e.fl.q.l.length (strs x.e.fl.q.l)*(blk fp (.cells (x.e.fl.cells qp) TG (0,0))*(blk pp (.cells x.u.d.rcells TRd (0,0))*(fact x.u.d.Plain*(blk r (.cells (x.cells e u c q sv tv) TRt (0,0))*(blk u (.cells (x.u.rcells pp ou) TRu (0,0))*(blk e (.cells (x.e.rcells fp (.slice ua x.e.units.length uc) ov) TRe (0,0))*(CRef c L*(Row 9 1 (.slice ua x.e.units.length uc) x.e.units.length (strs x.e.units)*(RdeAt q rr*(LAt 9 1 encS sv x.sent*(LAt TRtold 2 tolC tv x.told*(LAt TRx 11 Fx.cells ov lo*(LAt TRue 5 Ue.cells ou lu*R)))))))))))))) by unfold RtOpen;ac_rfl));have a2:=a1.q_shut (q:=x.e.fl.q) rfl rfl rfl rfl;have a3:=a2.f2.f_shut (s:=x.e.fl) rfl rfl;have a4:St w0 w' (RuB u x.u ou*(FAt TG TR fp x.e.fl*(blk r (.cells (x.cells e u c q sv tv) TRt (0,0))*(blk e (.cells (x.e.rcells fp (.slice ua x.e.units.length uc) ov) TRe (0,0))*(CRef c L*(Row 9 1 (.slice ua x.e.units.length uc) x.e.units.length (strs x.e.units)*(RdeAt q rr*(LAt 9 1 encS sv x.sent*(LAt TRtold 2 tolC tv x.told*(LAt TRx 11 Fx.cells ov lo*(LAt TRue 5 Ue.cells ou lu*R))))))))))):=St.mk_ex pp (a3.eq (by ac_rfl));have a5:St w0 w' (RnB e x.e ov*(RuB u x.u ou*(blk r (.cells (x.cells e u c q sv tv) TRt (0,0))*(CRef c L*(RdeAt q rr*(LAt 9 1 encS sv x.sent*(LAt TRtold 2 tolC tv x.told*(LAt TRx 11 Fx.cells ov lo*(LAt TRue 5 Ue.cells ou lu*R))))))))):=St.mk_ex (fp,.slice ua x.e.units.length uc) (a4.eq (by ac_rfl));have a6:=(a5.eq (show _=blk r (.cells (x.cells e u c q sv tv) TRt (0,0))*(RnB e x.e ov*(RuB u x.u ou*(CRef c L*(RdeAt q rr*(LAt 9 1 encS sv x.sent*(LAt TRtold 2 tolC tv x.told*(LAt TRx 11 Fx.cells ov lo*(LAt TRue 5 Ue.cells ou lu*R)))))))) by ac_rfl)).rt_shut (N:=N) rfl hi
 exact (a6.eq (show _=LAt TRx 11 Fx.cells ov lo*(LAt TRue 5 Ue.cells ou lu*(RtAt N r e u c q ov ou x*R)) by ac_rfl)).rtoff_shut
theorem fr_ofT {w:World} {cs:List Value} (h:frShT.ok w cs):∃ f:Fr,cs=f.cells/\f.info.size<=maxLen:=by
 obtain⟨_,_,rfl,_,⟨n1,rfl,w1⟩,_,_,rfl,_,⟨n2,rfl,w2⟩,_,_,rfl,_,⟨b3,rfl⟩,_,_,rfl,_,⟨n4,rfl,w4⟩,_,_,rfl,_,⟨b5,rfl⟩,_,_,rfl,_,⟨n6,rfl,w6⟩,_,_,rfl,_,⟨n7,rfl,w7⟩,_,_,rfl,_,⟨s8,rfl,w8⟩,h12⟩:=h;obtain rfl:=h12;exact⟨⟨n1,n2,b3,n4,b5,n6,n7,s8⟩,rfl,w8⟩
structure FrsAt (w:World) (n:Nat) (a:AcT):Prop where
 cap:a.fn<=a.fc
 max:a.fc<=maxLen
 raw:a.raw.size<=maxLen
 fr:0<a.fn->∃ b off,a.fa=some ⟨b,off,none⟩/\b<n/\∀ i,i<a.fn->∃ f:Fr,f.info.size<=maxLen/\∀ j,j<8->w.cell? ⟨b,off+i*8+j,none⟩=f.cells[j]?
theorem frs_of {w:World} {a:AcT} (h:a.Wf w):FrsAt w w.heap.size a:=by
 obtain⟨h1,h2,h3⟩:=Sh.slice_ok h.fr (by decide);refine⟨h1,h2,h.raw,fun h0=>?_⟩
 obtain⟨b,off,e,hb,hx⟩:=h3 h0;refine⟨b,off,e,hb,fun i hi=>?_⟩
 obtain⟨xs,_,hc,ho⟩:=hx i hi;obtain⟨f,rfl,hf⟩:=fr_ofT ho;exact⟨f,hf,hc⟩
theorem FrsAt.old {w w':World} {n:Nat} {a:AcT} (h:FrsAt w n a) (hb:Below n w w'):FrsAt w' n a:=by
 refine⟨h.cap,h.max,h.raw,fun h0=>?_⟩
 obtain⟨b,off,e,hbn,hx⟩:=h.fr h0;refine⟨b,off,e,hbn,fun i hi=>?_⟩
 obtain⟨f,hf,hc⟩:=hx i hi;exact⟨f,hf,fun j hj=>(hb.cell (p:=⟨b,off+i*8+j,none⟩) hbn).trans (hc j hj)⟩
theorem stuffK_bits (s:ByteArray):(bstr (encB s.data.toList)).size<=16*s.size+100:=by
 have h3:=stuffK_len (ofBits s.data.toList) 0;rw[ofBits_len] at h3;have h4:s.data.toList.length=s.size:=rfl;rw[bstr_size];unfold encB;simp only[List.length_append,List.length_cons,List.length_nil];omega
abbrev TMr:TypeId:=143
abbrev TLfT:TypeId:=154
theorem l_bitsOf (N r n:Nat) (x:Tt) (a:AcT) (ok:x.e.fl.Ok) (w0 w:World) (R:HP) (hS:∀ w',St w0 w' R->FrsAt w' n a) (h:St w0 w (RtOff N r x*R)) :
  Calls Tryz.prog 19 #[ptr r,.agg a.cells.toArray] w fun e w'=>∃ b:ByteArray,b.size<=100000/\e=.returned (.string b)/\St w0 w' (RtOff N r x*R):=by
 have hS0:=hS w h.drop;obtain⟨e,u,c,q,fp,qp,pp,sv,tv,ov,ou,lv,ua,uc,L,Z,_,h0,hback⟩:=h.rt_read;have h1:=h0.alloc (.cells a.cells.toArray TAct);obtain⟨Do,ask,later,data,m0,m1,m2,own,fa,fn,fc,near,NN,MM,raw⟩:=a;obtain⟨l1,l2,l3,_⟩:=hS0;simp only[] at l1 l2 l3;unfold maxLen at l2 l3;have d:=h1.cell;have HS:=Lib.hid hS;have HB:=Lib.hid hback;clear h h0 hback hS;go_enter Tryz.func19,Tryz.ntmps19
 go_upto_if 18 with fail
 generalize w.alloc _=wa at *;generalize w.heap.size=ga at *;go_cut [5] (fun s5 wx=>∃ o:ByteArray,o.size<=20000/\s5=.string o/\Hid (St w0 wx (blk ga (.cells #[.int .i64 Do,.int .i64 ask,.int .i64 later,.string data,.int .i64 m0,.int .i64 m1,.int .i64 m2,.bool own,.slice fa fn fc,.bool near,.int .i64 NN,.int .i64 MM,.string raw] TAct (0,0))*RtOpen r x e u c q fp qp pp sv tv ov ou lv ua uc L (Z*R))))
 case first =>
  by_cases hm:m0=0
  ·have b0:(m0 != 0)=false:=by simp[hm]
   clear hm;go_wp2;go_meet
   exact⟨noStr,by decide,rfl,Lib.hid h1⟩
  ·have b0:(m0 != 0)=true:=by simp[hm]
   clear hm;have h2:=h1.alloc (.cells #[.int .i64 m0,.int .i64 m1,.int .i64 m2] TMr);cases own with
   | false =>
     have d1:=h2.f2.cell;go_upto_region 6 with fail
     generalize wa.alloc _=wb at *;generalize wa.heap.size=gm at *;clear d d1 h1;have hc:=rm_frame ⟨m0,m1,m2⟩ w0 _ _ h2;generalize hfr:Tm.fr ⟨m0,m1,m2⟩=fr at *;obtain⟨bad,hbad⟩:∃ bad:Int,Tm.bad ⟨m0,m1,m2⟩=bad:=⟨_,rfl⟩;rw[hbad] at hc;clear hbad;have cm:=(h2).cell;go_upto_region 7 with (go_at_call 47;refine hc.mono ?_;rintro q1 wc ⟨rfl,h4⟩;have cf0:=h4.cell)
     have hinf:fr.info.size<=maxLen:=by
      rw[← hfr];unfold Tm.fr;split
      ·rw[tm_bounds ‹_›];decide
      ·exact Nat.zero_le _
     clear hc cm hfr;have h5:=h4.alloc (.cells fr.cells.toArray TRf);have hp:=rfr_put fr true hinf w0 _ _ h5;have hps:=putD_size fr true;obtain⟨P,hP⟩:∃ P,putD fr true=P:=⟨_,rfl⟩;rw[hP] at hp hps;obtain⟨p1,p2⟩:=P;simp only[] at hp hps;clear hP hinf;obtain⟨f1,f2,f3,f4,f5,f6,f7,f8⟩:=fr;have cf:=h5.cell;generalize wc.alloc _=wd at *;generalize wc.heap.size=gf at *;go_upto_region 8 with (go_at_call 48;refine hp.mono ?_;rintro q2 we ⟨rfl,h6⟩)
     clear hp h4 h5 cf;have h7:=h6.drop.drop;by_cases hb:bad=0
     ·have b0:(bad == 0)=true:=by simp[hb]
      cases hE:p1.toList.isEmpty with
      | true =>
        have hE2:(!p1.toList.isEmpty)=false:=by rw[hE];rfl
        clear hE hps hb;go_wp2;go_meet
        exact⟨noStr,by decide,rfl,Lib.hid h7⟩
      | false =>
        have hE2:(!p1.toList.isEmpty)=true:=by rw[hE];rfl
        have he:=rh_encode p1 w0 we _ h7 (by omega);have hz:=stuffK_bits p1;generalize bstr (encB p1.data.toList)=B at *;have hov:¬ 9223372036854775807<(⟨#[]⟩:ByteArray).size+B.size:=by show ¬ 9223372036854775807<0+B.size;omega
        clear hE hb;go_wp2_with fail
        refine he.mono ?_
        rintro q3 wf ⟨rfl,h8⟩;go_wp2;go_meet
        exact⟨_,by rw[ByteArray.size_append];show 0+B.size<=20000;omega,rfl,Lib.hid h8⟩
     ·have b0:(bad == 0)=false:=by simp[hb]
      clear hb;go_wp2;go_meet
      exact⟨noStr,by decide,rfl,Lib.hid h7⟩
   | true =>
     have d1:=h2.f2.cell;have d2:=h2.f3.cell;have d3:=h2.f4.cell;have h3:=h1.alloc (.cells #[.int .i64 m0,.int .i64 x.u.v.ri,.int .i64 m2] TMr);go_upto_region 6 with fail
     generalize wa.alloc (.cells #[.int .i64 m0,.int .i64 x.u.v.ri,.int .i64 m2] TMr)=wb at *;generalize wa.heap.size=gm at *;clear d d1 d2 d3 h1 h2;have hc:=rm_frame ⟨m0,x.u.v.ri,m2⟩ w0 _ _ h3;generalize hfr:Tm.fr ⟨m0,x.u.v.ri,m2⟩=fr at *;obtain⟨bad,hbad⟩:∃ bad:Int,Tm.bad ⟨m0,x.u.v.ri,m2⟩=bad:=⟨_,rfl⟩;rw[hbad] at hc;clear hbad;have cm:=(h3).cell;go_upto_region 7 with (go_at_call 47;refine hc.mono ?_;rintro q1 wc ⟨rfl,h4⟩;have cf0:=h4.cell)
     have hinf:fr.info.size<=maxLen:=by
      rw[← hfr];unfold Tm.fr;split
      ·rw[tm_bounds ‹_›];decide
      ·exact Nat.zero_le _
     clear hc cm hfr;have h5:=h4.alloc (.cells fr.cells.toArray TRf);have hp:=rfr_put fr true hinf w0 _ _ h5;have hps:=putD_size fr true;obtain⟨P,hP⟩:∃ P,putD fr true=P:=⟨_,rfl⟩;rw[hP] at hp hps;obtain⟨p1,p2⟩:=P;simp only[] at hp hps;clear hP hinf;obtain⟨f1,f2,f3,f4,f5,f6,f7,f8⟩:=fr;have cf:=h5.cell;generalize wc.alloc _=wd at *;generalize wc.heap.size=gf at *;go_upto_region 8 with (go_at_call 48;refine hp.mono ?_;rintro q2 we ⟨rfl,h6⟩)
     clear hp h4 h5 cf;have h7:=h6.drop.drop;by_cases hb:bad=0
     ·have b0:(bad == 0)=true:=by simp[hb]
      cases hE:p1.toList.isEmpty with
      | true =>
        have hE2:(!p1.toList.isEmpty)=false:=by rw[hE];rfl
        clear hE hps hb;go_wp2;go_meet
        exact⟨noStr,by decide,rfl,Lib.hid h7⟩
      | false =>
        have hE2:(!p1.toList.isEmpty)=true:=by rw[hE];rfl
        have he:=rh_encode p1 w0 we _ h7 (by omega);have hz:=stuffK_bits p1;generalize bstr (encB p1.data.toList)=B at *;have hov:¬ 9223372036854775807<(⟨#[]⟩:ByteArray).size+B.size:=by show ¬ 9223372036854775807<0+B.size;omega
        clear hE hb;go_wp2_with fail
        refine he.mono ?_
        rintro q3 wf ⟨rfl,h8⟩;go_wp2;go_meet
        exact⟨_,by rw[ByteArray.size_append];show 0+B.size<=20000;omega,rfl,Lib.hid h8⟩
     ·have b0:(bad == 0)=false:=by simp[hb]
      clear hb;go_wp2;go_meet
      exact⟨noStr,by decide,rfl,Lib.hid h7⟩
 case rest =>
  clear d h1;obtain⟨o0,ho0,rfl,H0⟩:=hcut;have d:=H0.out.cell;go_upto_region 10 with fail
  go_cut [65,66,67] (fun s65 s66 s67 wy=>∃ m:Nat,m<=fn/\m<=4/\s65=.slice fa m fc/\s66=.int .i64 m/\s67=.int .i64 0/\wc=wy)
  case first =>
   go_wp2;all_goals (go_meet;first | exact⟨fn,Nat.le_refl _,by omega,rfl,rfl,rfl,rfl⟩ | exact⟨4,by omega,by omega,rfl,rfl,rfl,rfl⟩ | (refine⟨(min (fn:Int) 4).toNat,by omega,by omega,?_,?_,rfl,rfl⟩ <;> (first | rfl | (congr 1;omega))))
  case rest =>
   obtain⟨m,hm,hm4,rfl,rfl,rfl,rfl⟩:=hcut;clear d;have HK:=Lib.hid ok;clear ok;go_wp2;go_loopw [5,67] (fun s5 s67 wr=>∃ (k:Nat) (o:ByteArray),k<=m/\o.size<=20000+10000*k/\s5=.string o/\s67=.int .i64 k/\Hid (St w0 wr (blk ga (.cells #[.int .i64 Do,.int .i64 ask,.int .i64 later,.string data,.int .i64 m0,.int .i64 m1,.int .i64 m2,.bool own,.slice fa fn fc,.bool near,.int .i64 NN,.int .i64 MM,.string raw] TAct (0,0))*RtOpen r x e u c q fp qp pp sv tv ov ou lv ua uc L (Z*R)))) (fun _ s67 _=>m - (intOf s67).toNat)
   case atStart=>exact⟨0,o0,by omega,by omega,rfl,rfl,H0⟩
   case round =>
    clear H0 ho0;obtain⟨k,o,hk,ho,rfl,rfl,H⟩:=hrel;by_cases hlt:k<m
    ·have hlti:(k:Int)<(m:Int):=by omega
     have hA:=HS.out wr H.out.drop.drop.drop.drop.drop.drop.drop.drop;obtain⟨b,off,rfl,_,hi⟩:=hA.fr (show 0<fn by omega);obtain⟨f,hf,hcl⟩:=hi k (show k<fn by omega);obtain⟨z1,z2,z3,z4,z5,z6,z7,z8⟩:=f;have d0:wr.cell? ⟨b,off+k*8,none⟩=some (Value.int .i64 z1):=(hcl 0 (by decide)).trans (show _=some (Value.int .i64 z1) from rfl);have d1:=(hcl 1 (by decide)).trans (show _=some (Value.int .i64 z2) from rfl);have d2:=(hcl 2 (by decide)).trans (show _=some (Value.bool z3) from rfl);have d3:=(hcl 3 (by decide)).trans (show _=some (Value.int .i64 z4) from rfl);have d4:=(hcl 4 (by decide)).trans (show _=some (Value.bool z5) from rfl);have d5:=(hcl 5 (by decide)).trans (show _=some (Value.int .i64 z6) from rfl);have d6:=(hcl 6 (by decide)).trans (show _=some (Value.int .i64 z7) from rfl);have d7:=(hcl 7 (by decide)).trans (show _=some (Value.string z8) from rfl);clear hcl hi hA;have h2:=H.out.alloc (.cells #[.int .i64 z1,.int .i64 z2,.bool z3,.int .i64 z4,.bool z5,.int .i64 z6,.int .i64 z7,.string z8] TLfT);go_upto_region 13 with fail
     generalize wr.alloc _=wa2 at *;generalize wr.heap.size=gf at *;clear d0 d1 d2 d3 d4 d5 d6 d7 H;have hp:=fun (F:Fr) (hF:F.info.size<=maxLen) w R h=>rfr_put F true hF w0 w R h
     have ca:=h2.f2.cell;have cr:=h2.f3.cell;have ce:=h2.f5.cell;by_cases hnr:near=true/\0<=x.e.tei
     ·obtain⟨rfl,ht⟩:=hnr
      have bt:decide (0<=x.e.tei)=true:=by simpa using ht
      obtain⟨va1,hva1⟩:∃ v:Int,(x.e.fl.va:Int)+NN % 128=v:=⟨_,rfl⟩;obtain⟨vr1,hvr1⟩:∃ v:Int,(x.e.fl.vr:Int)+MM % 128=v:=⟨_,rfl⟩;have wa1:IntKind.i64.wrap (x.e.fl.va+NN % 128)=va1:=by have oa:=HK.out.a1;rw[IntKind.wrap_i64,hva1];omega
      have wr1:IntKind.i64.wrap (x.e.fl.vr+MM % 128)=vr1:=by have oa:=HK.out.r1;rw[IntKind.wrap_i64,hvr1];omega
      have bN:=i64_and127 NN;have bM:=i64_and127 MM;have bva:=i64_and127 va1;have bvr:=i64_and127 vr1;clear hva1 hvr1 ht;go_upto_region 14 with fail
      clear ca cr ce;have H:=h2.eq (show _=blk gf (.cells #[.int .i64 z1,.int .i64 z2,.bool z3,.int .i64 z4,.bool z5,.int .i64 z6,.int .i64 z7,.string z8] TLfT (0,0))*(blk r (.cells (x.cells e u c q sv tv) TRt (0,0))*(blk e (.cells (x.e.rcells fp (.slice ua x.e.units.length uc) ov) TRe (0,0))*(blk fp (.cells (x.e.fl.cells qp) TG (0,0))*(blk ga (.cells #[.int .i64 Do,.int .i64 ask,.int .i64 later,.string data,.int .i64 m0,.int .i64 m1,.int .i64 m2,.bool own,.slice (some ⟨b,off,none⟩) fn fc,.bool true,.int .i64 NN,.int .i64 MM,.string raw] TAct (0,0))*(blk u (.cells (x.u.rcells pp ou) TRu (0,0))*(blk qp (.cells #[.int .i64 x.e.fl.q.most,lv,.int .i64 x.e.fl.q.sent] TR (0,0))*(CRef c L*(Z*R)))))))) by unfold RtOpen;ac_rfl);have H0:=H.drew;clear h2 H;have p1:=((H0).f2.cell 6).trans (show _=some (ptr e) from rfl);have p2:=((H0).f3.cell 2).trans (show _=some (Value.int .i64 x.e.tei) from rfl);have p3:=((H0).f3.cell 8).trans (show _=some (ptr fp) from rfl);have p4:=((H0).f4.cell 1).trans (show _=some (Value.int .i64 x.e.fl.va) from rfl);have p5:=((H0).f4.cell 2).trans (show _=some (Value.int .i64 x.e.fl.vr) from rfl);have p6:=((H0).f5.cell 10).trans (show _=some (Value.int .i64 NN) from rfl);have p7:=((H0).f5.cell 11).trans (show _=some (Value.int .i64 MM) from rfl);have cf:=H0.cell;have ff:=H0.free;have H1:=H0.set 0 (.int .i64 0);have q1:=((H1).f2.cell 6).trans (show _=some (ptr e) from rfl);have q2:=((H1).f3.cell 2).trans (show _=some (Value.int .i64 x.e.tei) from rfl);have q3:=((H1).f3.cell 8).trans (show _=some (ptr fp) from rfl)
      have q4:=((H1).f4.cell 1).trans (show _=some (Value.int .i64 x.e.fl.va) from rfl);have q5:=((H1).f4.cell 2).trans (show _=some (Value.int .i64 x.e.fl.vr) from rfl);have q6:=((H1).f5.cell 10).trans (show _=some (Value.int .i64 NN) from rfl);have q7:=((H1).f5.cell 11).trans (show _=some (Value.int .i64 MM) from rfl);have cf1:=H1.cell;have ff1:=H1.free;have H2:=H1.set 1 (.int .i64 x.e.tei);have s1:=((H2).f2.cell 6).trans (show _=some (ptr e) from rfl);have s2:=((H2).f3.cell 2).trans (show _=some (Value.int .i64 x.e.tei) from rfl);have s3:=((H2).f3.cell 8).trans (show _=some (ptr fp) from rfl);have s4:=((H2).f4.cell 1).trans (show _=some (Value.int .i64 x.e.fl.va) from rfl);have s5:=((H2).f4.cell 2).trans (show _=some (Value.int .i64 x.e.fl.vr) from rfl);have s6:=((H2).f5.cell 10).trans (show _=some (Value.int .i64 NN) from rfl);have s7:=((H2).f5.cell 11).trans (show _=some (Value.int .i64 MM) from rfl);have cf2:=H2.cell;have ff2:=H2.free;have H3:=H2.set 6 (.int .i64 (va1 % 128));have t1:=((H3).f2.cell 6).trans (show _=some (ptr e) from rfl);have t2:=((H3).f3.cell 2).trans (show _=some (Value.int .i64 x.e.tei) from rfl);have t3:=((H3).f3.cell 8).trans (show _=some (ptr fp) from rfl);have t4:=((H3).f4.cell 1).trans (show _=some (Value.int .i64 x.e.fl.va) from rfl);have t5:=((H3).f4.cell 2).trans (show _=some (Value.int .i64 x.e.fl.vr) from rfl);have t6:=((H3).f5.cell 10).trans (show _=some (Value.int .i64 NN) from rfl);have t7:=((H3).f5.cell 11).trans (show _=some (Value.int .i64 MM) from rfl)
      have cf3:=H3.cell;have ff3:=H3.free;have H4:=H3.set 5 (.int .i64 (vr1 % 128));have v1:=((H4).f2.cell 6).trans (show _=some (ptr e) from rfl);have v2:=((H4).f3.cell 2).trans (show _=some (Value.int .i64 x.e.tei) from rfl);have v3:=((H4).f3.cell 8).trans (show _=some (ptr fp) from rfl);have v4:=((H4).f4.cell 1).trans (show _=some (Value.int .i64 x.e.fl.va) from rfl);have v5:=((H4).f4.cell 2).trans (show _=some (Value.int .i64 x.e.fl.vr) from rfl);have v6:=((H4).f5.cell 10).trans (show _=some (Value.int .i64 NN) from rfl);have v7:=((H4).f5.cell 11).trans (show _=some (Value.int .i64 MM) from rfl);refine wp_region_held_drew (S:=fun wx=>wx.cell? ⟨r,6,none⟩=some (ptr e)/\wx.cell? ⟨e,2,none⟩=some (.int .i64 x.e.tei)/\wx.cell? ⟨e,8,none⟩=some (ptr fp)/\wx.cell? ⟨fp,1,none⟩=some (.int .i64 x.e.fl.va)/\wx.cell? ⟨fp,2,none⟩=some (.int .i64 x.e.fl.vr)/\wx.cell? ⟨ga,10,none⟩=some (.int .i64 NN)/\wx.cell? ⟨ga,11,none⟩=some (.int .i64 MM)) (by kernel_rfl) ?_ (fun hHeld=>?_)
      ·with_reducible exact⟨p1,p2,p3,p4,p5,p6,p7⟩
      clear H0 H1 H2 H3;generalize wa2.drew=we0 at *;refine tk 0 ?_ rfl (fun w hSw=>?_) ?_
      rotate_left 1
      ·try dsimp only at hSw
       go_simp
       try with_reducible rfl
      try simp only[Act.put,sl]
      refine tk 1 ?_ rfl (fun w hSw=>?_) ?_
      rotate_left 1
      ·try dsimp only at hSw
       go_simp
       try with_reducible rfl
      try simp only[Act.put,sl]
      refine tk 2 ?_ rfl (fun w hSw=>?_) ?_
      rotate_left 1
      ·try dsimp only at hSw
       go_simp
       try with_reducible rfl
      try simp only[Act.put,sl]
      refine tk 3 ?_ rfl (fun w hSw=>?_) ?_
      rotate_left 1
      ·try dsimp only at hSw
       go_simp
       try with_reducible rfl
      try simp only[Act.put,sl]
      refine tk 4 ?_ rfl (fun w hSw=>?_) ?_
      rotate_left 1
      ·try dsimp only at hSw
       go_simp
       try with_reducible rfl
      try simp only[Act.put,sl]
      refine tk 5 ?_ rfl (fun w hSw=>?_) ?_
      rotate_left 1
      ·try dsimp only at hSw
       go_simp
       try with_reducible rfl
      try simp only[Act.put,sl]
      refine tk 6 ?_ rfl (fun w hSw=>?_) ?_
      rotate_left 1
      ·try dsimp only at hSw
       go_simp
       try with_reducible rfl
      try simp only[Act.put,sl]
      refine tk 7 ?_ rfl (fun w hSw=>?_) ?_
      rotate_left 1
      ·try dsimp only at hSw
       go_simp
       try with_reducible rfl
      try simp only[Act.put,sl]
      refine tk 8 ?_ rfl (fun w hSw=>?_) ?_
      rotate_left 1
      ·try dsimp only at hSw
       go_simp
       try with_reducible rfl
      try simp only[Act.put,sl]
      refine tk 9 ?_ rfl (fun w hSw=>?_) ?_
      rotate_left 1
      ·try dsimp only at hSw
       go_simp
       try with_reducible rfl
      try simp only[Act.put,sl]
      refine tk 10 ?_ rfl (fun w hSw=>?_) ?_
      rotate_left 1
      ·try dsimp only at hSw
       go_simp
       try with_reducible rfl
      try simp only[Act.put,sl]
      refine tk 11 ?_ rfl (fun w hSw=>?_) ?_
      rotate_left 1
      ·try dsimp only at hSw
       go_simp
       try with_reducible rfl
      try simp only[Act.put,sl]
      refine tk 12 ?_ rfl (fun w hSw=>?_) ?_
      rotate_left 1
      ·try dsimp only at hSw
       go_simp
       try with_reducible rfl
      try simp only[Act.put,sl]
      refine tk 13 ?_ rfl (fun w hSw=>?_) ?_
      rotate_left 1
      ·try dsimp only at hSw
       go_simp
       try with_reducible rfl
      try simp only[Act.put,sl]
      refine tk 14 ?_ rfl (fun w hSw=>?_) ?_
      rotate_left 1
      ·try dsimp only at hSw
       go_simp
       try with_reducible rfl
      try simp only[Act.put,sl]
      refine tk 15 ?_ rfl (fun w hSw=>?_) ?_
      rotate_left 1
      ·try dsimp only at hSw
       go_simp
       try with_reducible rfl
      try simp only[Act.put,sl]
      refine tk 16 ?_ rfl (fun w hSw=>?_) ?_
      rotate_left 1
      ·try dsimp only at hSw
       go_simp
       try with_reducible rfl
      try simp only[Act.put,sl]
      refine tk 17 ?_ rfl (fun w hSw=>?_) ?_
      rotate_left 1
      ·try dsimp only at hSw
       go_simp
       try with_reducible rfl
      try simp only[Act.put,sl]
      refine tk 18 ?_ rfl (fun w hSw=>?_) ?_
      rotate_left 1
      ·try dsimp only at hSw
       go_simp
       try with_reducible rfl
      try simp only[Act.put,sl]
      refine tk 19 ?_ rfl (fun w hSw=>?_) ?_
      rotate_left 1
      ·try dsimp only at hSw
       go_simp
       try with_reducible rfl
      try simp only[Act.put,sl]
      refine tk 20 ?_ rfl (fun w hSw=>?_) ?_
      rotate_left 1
      ·try dsimp only at hSw
       go_simp
       try with_reducible rfl
      try simp only[Act.put,sl]
      refine tk 21 ?_ rfl (fun w hSw=>?_) ?_
      rotate_left 1
      ·try dsimp only at hSw
       go_simp
       try with_reducible rfl
      try simp only[Act.put,sl]
      refine tk 22 ?_ rfl (fun w hSw=>?_) ?_
      rotate_left 1
      ·try dsimp only at hSw
       go_simp
       try with_reducible rfl
      try simp only[Act.put,sl]
      refine tk 23 ?_ rfl (fun w hSw=>?_) ?_
      rotate_left 1
      ·try dsimp only at hSw
       go_simp
       try with_reducible rfl
      try simp only[Act.put,sl]
      refine tk 24 ?_ rfl (fun w hSw=>?_) ?_
      rotate_left 1
      ·try dsimp only at hSw
       go_simp
       try with_reducible rfl
      try simp only[Act.put,sl]
      refine tk 25 ?_ rfl (fun w hSw=>?_) ?_
      rotate_left 1
      ·try dsimp only at hSw
       go_simp
       try with_reducible rfl
      try simp only[Act.put,sl]
      refine tk 26 ?_ rfl (fun w hSw=>?_) ?_
      rotate_left 1
      ·try dsimp only at hSw
       go_simp
       try with_reducible rfl
      try simp only[Act.put,sl]
      refine tk 27 ?_ rfl (fun w hSw=>?_) ?_
      rotate_left 1
      ·try dsimp only at hSw
       go_simp
       try with_reducible rfl
      try simp only[Act.put,sl]
      refine tk 28 ?_ rfl (fun w hSw=>?_) ?_
      rotate_left 1
      ·try dsimp only at hSw
       go_simp
       try with_reducible rfl
      try simp only[Act.put,sl]
      refine tk 29 ?_ rfl (fun w hSw=>?_) ?_
      rotate_left 1
      ·try dsimp only at hSw
       go_simp
       try with_reducible rfl
      try simp only[Act.put,sl]
      refine tk 30 ?_ rfl (fun w hSw=>?_) ?_
      rotate_left 1
      ·try dsimp only at hSw
       go_simp
       try with_reducible rfl
      try simp only[Act.put,sl]
      refine tk 31 ?_ rfl (fun w hSw=>?_) ?_
      rotate_left 1
      ·try dsimp only at hSw
       go_simp
       try with_reducible rfl
      try simp only[Act.put,sl]
      refine tk 32 ?_ rfl (fun w hSw=>?_) ?_
      rotate_left 1
      ·try dsimp only at hSw
       go_simp
       try with_reducible rfl
      try simp only[Act.put,sl]
      refine tk 33 ?_ rfl (fun w hSw=>?_) ?_
      rotate_left 1
      ·try dsimp only at hSw
       go_simp
       try with_reducible rfl
      try simp only[Act.put,sl]
      refine tk 34 ?_ rfl (fun w hSw=>?_) ?_
      rotate_left 1
      ·try dsimp only at hSw
       go_simp
       try with_reducible rfl
      try simp only[Act.put,sl]
      refine tk 35 ?_ rfl (fun w hSw=>?_) ?_
      rotate_left 1
      ·try dsimp only at hSw
       go_simp
       try with_reducible rfl
      try simp only[Act.put,sl]
      refine tk 36 ?_ rfl (fun w hSw=>?_) ?_
      rotate_left 1
      ·try dsimp only at hSw
       go_simp
       try with_reducible rfl
      try simp only[Act.put,sl]
      refine tk 37 ?_ rfl (fun w hSw=>?_) ?_
      rotate_left 1
      ·try dsimp only at hSw
       go_simp
       try with_reducible rfl
      try simp only[Act.put,sl]
      refine rd 38 rfl (fun K hK=>?_)
      go_simp
      go_simp
      refine hK.out _ _ (by with_reducible exact⟨q1,q2,q3,q4,q5,q6,q7⟩) (fun hHeld=>?_)
      clear hK K;try simp only[Act.put,sl]
      clear p1 p2 p3 p4 p5 p6 p7 q1 q2 q3 q4 q5 q6 q7 cf ff;generalize we0.setCell _ _=we1 at *;refine tk 39 ?_ rfl (fun w hSw=>?_) ?_
      rotate_left 1
      ·try dsimp only at hSw
       go_simp
       try with_reducible rfl
      try simp only[Act.put,sl]
      refine rd 40 rfl (fun K hK=>?_)
      go_simp
      go_simp
      refine hK.out _ _ (by with_reducible exact⟨s1,s2,s3,s4,s5,s6,s7⟩) (fun hHeld=>?_)
      clear hK K;try simp only[Act.put,sl]
      clear s1 s2 s3 s4 s5 s6 s7 cf1 ff1;generalize we1.setCell _ _=we2 at *;refine tk 41 ?_ rfl (fun w hSw=>?_) ?_
      rotate_left 1
      ·try dsimp only at hSw
       go_simp
       try with_reducible rfl
      try simp only[Act.put,sl]
      refine rd 42 rfl (fun K hK=>?_)
      go_simp
      go_simp
      refine hK.out _ _ (by with_reducible exact⟨t1,t2,t3,t4,t5,t6,t7⟩) (fun hHeld=>?_)
      clear hK K;try simp only[Act.put,sl]
      clear t1 t2 t3 t4 t5 t6 t7 cf2 ff2;generalize we2.setCell _ _=we3 at *;refine tk 43 ?_ rfl (fun w hSw=>?_) ?_
      rotate_left 1
      ·try dsimp only at hSw
       go_simp
       try with_reducible rfl
      try simp only[Act.put,sl]
      refine rd 44 rfl (fun K hK=>?_)
      go_simp
      go_simp
      refine hK.out _ _ (by with_reducible exact⟨v1,v2,v3,v4,v5,v6,v7⟩) (fun hHeld=>?_)
      clear hK K;try simp only[Act.put,sl]
      clear v1 v2 v3 v4 v5 v6 v7 cf3 ff3;generalize we3.setCell _ _=we4 at *;refine wpAnyH_done (by kernel_rfl) ?_ _
      clear hHeld;have h3:St w0 we4 (blk gf (.cells #[.int .i64 0,.int .i64 x.e.tei,.bool z3,.int .i64 z4,.bool z5,.int .i64 (vr1 % 128),.int .i64 (va1 % 128),.string z8] TLfT (0,0))*(blk ga (.cells #[.int .i64 Do,.int .i64 ask,.int .i64 later,.string data,.int .i64 m0,.int .i64 m1,.int .i64 m2,.bool own,.slice (some ⟨b,off,none⟩) fn fc,.bool true,.int .i64 NN,.int .i64 MM,.string raw] TAct (0,0))*RtOpen r x e u c q fp qp pp sv tv ov ou lv ua uc L (Z*R))):=H4.eq (show blk gf (.cells #[.int .i64 0,.int .i64 x.e.tei,.bool z3,.int .i64 z4,.bool z5,.int .i64 (vr1 % 128),.int .i64 (va1 % 128),.string z8] TLfT (0,0))*_=_ by unfold RtOpen;ac_rfl);clear H4;have cf:=h3.cell;have hp:=hp ⟨0,x.e.tei,z3,z4,z5,(vr1 % 128),(va1 % 128),z8⟩ hf we4 _ h3;have hps:=putD_size ⟨0,x.e.tei,z3,z4,z5,(vr1 % 128),(va1 % 128),z8⟩ true;obtain⟨P,hP⟩:∃ P,putD ⟨0,x.e.tei,z3,z4,z5,(vr1 % 128),(va1 % 128),z8⟩ true=P:=⟨_,rfl⟩;rw[hP] at hp hps;obtain⟨p1,p2⟩:=P;simp only[] at hp hps;clear hP h3;go_upto_region 16 with (go_at_call 48;refine hp.mono ?_;rintro q2 wf ⟨rfl,h6⟩)
      have h7:=h6.drop;clear hp h6 cf;cases hE:p1.toList.isEmpty with
      | true =>
        have hE2:(!p1.toList.isEmpty)=false:=by rw[hE];rfl
        have HH:=Lib.hid h7;clear hE h7;go_wp2;go_roundw
        case rel=>exact⟨k+1,o,by omega,by omega,rfl,by go_num,HH⟩
        case measure=>simp[intOf];omega
      | false =>
        have hE2:(!p1.toList.isEmpty)=true:=by rw[hE];rfl
        have he:=rh_encode p1 w0 wf _ h7 (by omega);have hz:=stuffK_bits p1;generalize bstr (encB p1.data.toList)=B at *;have hov:¬ 9223372036854775807<o.size+B.size:=by omega
        have hnb:(o++B).size<=20000+10000*(k+1):=by rw[ByteArray.size_append];omega
        clear hE h7;go_wp2_with fail
        refine he.mono ?_
        rintro q3 wg ⟨rfl,h8⟩;have HH:=Lib.hid h8;clear he h8;go_wp2;go_roundw
        case rel=>exact⟨k+1,o++B,by omega,hnb,rfl,by go_num,HH⟩
        case measure=>simp[intOf];omega
     ·cases near with
      | false =>
        go_upto_region 15 with fail
        clear ca cr ce;have h3:=h2;clear h2;have cf:=h3.cell;have hp:=hp ⟨z1,z2,z3,z4,z5,z6,z7,z8⟩ hf wa2 _ h3;have hps:=putD_size ⟨z1,z2,z3,z4,z5,z6,z7,z8⟩ true;obtain⟨P,hP⟩:∃ P,putD ⟨z1,z2,z3,z4,z5,z6,z7,z8⟩ true=P:=⟨_,rfl⟩;rw[hP] at hp hps;obtain⟨p1,p2⟩:=P;simp only[] at hp hps;clear hP h3;go_upto_region 16 with (go_at_call 48;refine hp.mono ?_;rintro q2 wf ⟨rfl,h6⟩)
        have h7:=h6.drop;clear hp h6 cf;cases hE:p1.toList.isEmpty with
        | true =>
          have hE2:(!p1.toList.isEmpty)=false:=by rw[hE];rfl
          have HH:=Lib.hid h7;clear hE h7;go_wp2;go_roundw
          case rel=>exact⟨k+1,o,by omega,by omega,rfl,by go_num,HH⟩
          case measure=>simp[intOf];omega
        | false =>
          have hE2:(!p1.toList.isEmpty)=true:=by rw[hE];rfl
          have he:=rh_encode p1 w0 wf _ h7 (by omega);have hz:=stuffK_bits p1;generalize bstr (encB p1.data.toList)=B at *;have hov:¬ 9223372036854775807<o.size+B.size:=by omega
          have hnb:(o++B).size<=20000+10000*(k+1):=by rw[ByteArray.size_append];omega
          clear hE h7;go_wp2_with fail
          refine he.mono ?_
          rintro q3 wg ⟨rfl,h8⟩;have HH:=Lib.hid h8;clear he h8;go_wp2;go_roundw
          case rel=>exact⟨k+1,o++B,by omega,hnb,rfl,by go_num,HH⟩
          case measure=>simp[intOf];omega
      | true =>
        have bt:decide (0<=x.e.tei)=false:=by simp at hnr ⊢;exact hnr
        go_upto_region 15 with fail
        clear ca cr ce;have h3:=h2;clear h2;have cf:=h3.cell;have hp:=hp ⟨z1,z2,z3,z4,z5,z6,z7,z8⟩ hf wa2 _ h3;have hps:=putD_size ⟨z1,z2,z3,z4,z5,z6,z7,z8⟩ true;obtain⟨P,hP⟩:∃ P,putD ⟨z1,z2,z3,z4,z5,z6,z7,z8⟩ true=P:=⟨_,rfl⟩;rw[hP] at hp hps;obtain⟨p1,p2⟩:=P;simp only[] at hp hps;clear hP h3;go_upto_region 16 with (go_at_call 48;refine hp.mono ?_;rintro q2 wf ⟨rfl,h6⟩)
        have h7:=h6.drop;clear hp h6 cf;cases hE:p1.toList.isEmpty with
        | true =>
          have hE2:(!p1.toList.isEmpty)=false:=by rw[hE];rfl
          have HH:=Lib.hid h7;clear hE h7;go_wp2;go_roundw
          case rel=>exact⟨k+1,o,by omega,by omega,rfl,by go_num,HH⟩
          case measure=>simp[intOf];omega
        | false =>
          have hE2:(!p1.toList.isEmpty)=true:=by rw[hE];rfl
          have he:=rh_encode p1 w0 wf _ h7 (by omega);have hz:=stuffK_bits p1;generalize bstr (encB p1.data.toList)=B at *;have hov:¬ 9223372036854775807<o.size+B.size:=by omega
          have hnb:(o++B).size<=20000+10000*(k+1):=by rw[ByteArray.size_append];omega
          clear hE h7;go_wp2_with fail
          refine he.mono ?_
          rintro q3 wg ⟨rfl,h8⟩;have HH:=Lib.hid h8;clear he h8;go_wp2;go_roundw
          case rel=>exact⟨k+1,o++B,by omega,hnb,rfl,by go_num,HH⟩
          case measure=>simp[intOf];omega
    ·obtain rfl:k=m:=by omega
     have ca:=H.out.cell;have hE:=HB.out wr R H.out.drop;have HL:=Lib.hid hE;clear H hE HB HS HK;have hsz:(o++raw.extract 0 (min (raw.size:Int) 2000).toNat).size<=100000:=by
      rw[ByteArray.size_append,ByteArray.size_extract];omega
     go_wp2;go_ret
     exact⟨_,hsz,rfl,HL.out⟩
end Go.Proofs.YtnnahljdhdippaaGreatDoor
