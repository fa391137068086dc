/- Parts of a proof (RefO, RefP, RefQ, RefR). No condition. -/
import Derived.Test.YtnnahljdhdippaaGreatDoorC35
import Derived.Test.YtnnahljdhdippaaGreatDoorC21
namespace Go.Proofs.YtnnahljdhdippaaGreatDoor
set_option maxRecDepth 100000
set_option maxHeartbeats 6400000
open Go.RowKit
theorem want_err (x:Us) (h:x.want.2.2≠0):x.want.2.1=[]:=by
 unfold Us.want at h ⊢;split
 ·rfl
 ·rename_i h1
  rw[if_neg h1] at h;split
  ·rfl
  ·rename_i h2
   rw[if_neg h2] at h;exact absurd rfl h
theorem rt_wish (N t e u c p:Nat) (ov ou:Value) (x:Tt) (lu:List Ue) (hfit:x.Fit) (htidy:x.u.Tidy) (hl:x.len<=800000000000) (w0 w:World) (R:HP)
  (h:St w0 w (LAt TRx 11 Fx.cells ov [Fx.of 8 noStr]*(LAt TRue 5 Ue.cells ou lu*(RtAt N t e u c p ov ou x*R)))) :
  Calls Tryz.prog 46 #[ptr t,ov] w fun r w'=>∃ ov' lo' ou' lu',r=.returned (.tuple #[])/\St w0 w' (LAt TRx 11 Fx.cells ov' lo'*(LAt TRue 5 Ue.cells ou' lu'*(RtAt N t e u c p ov' ou' (x.links [Fx.of 8 noStr])*R))):=by
 obtain⟨a,cap,rfl,hcap,hmax⟩:=h.l_shape;have HH:=Lib.hid h;have HI0:=Lib.hid (And.intro hfit htidy);have HL:=Lib.hid hl;clear h hl hfit htidy;simp only[List.length_singleton] at *;obtain⟨Z,hZ⟩:∃ Z,x.links [Fx.of 8 noStr]=Z:=⟨_,rfl⟩;rw[hZ];have HZ:=Lib.hid ((show (x.setU x.u.want.1).users x.u.want.2.1=x.links [Fx.of 8 noStr] from rfl).trans hZ);clear hZ;go_enter Tryz.func46,Tryz.ntmps46
 go_wp2;go_loopw [4] (fun s4 wr=>(s4=.int .i64 0/\Hid (St w0 wr (LAt TRx 11 Fx.cells (.slice a 1 cap) [Fx.of 8 noStr]*(LAt TRue 5 Ue.cells ou lu*(RtAt N t e u c p (.slice a 1 cap) ou x*R)))))\/(s4=.int .i64 1/\∃ ov' lo' ou' lu',Hid (St w0 wr (LAt TRx 11 Fx.cells ov' lo'*(LAt TRue 5 Ue.cells ou' lu'*(RtAt N t e u c p ov' ou' Z*R)))))) (fun s4 _=>1 - (intOf s4).toNat)
 case atStart=>exact .inl ⟨rfl,HH⟩
 case round =>
  clear HH;rcases hrel with ⟨rfl,HI⟩ | ⟨rfl,ov',lo',ou',lu',HI⟩
  ·rcases HI.out.l_cells tyRx.len with ⟨h0,_⟩ | ⟨g,off,cap',hv,_,_,hcell⟩
   ·exact absurd h0 (by simp)
   ·simp only[Value.slice.injEq] at hv
    obtain⟨rfl,hq,rfl⟩:=hv;clear hq;have hce:=hcell 0 _ rfl;have d0:wr.cell? ⟨g,off,none⟩=some (.int .i64 8):=hce 0 _ rfl;have d1:wr.cell? ⟨g,off+1,none⟩=some (.int .i64 0):=hce 1 _ rfl;have d2:wr.cell? ⟨g,off+2,none⟩=some (.int .i64 0):=hce 2 _ rfl;have d3:wr.cell? ⟨g,off+3,none⟩=some (.bool false):=hce 3 _ rfl;have d4:wr.cell? ⟨g,off+4,none⟩=some (.int .i64 0):=hce 4 _ rfl;have d5:wr.cell? ⟨g,off+5,none⟩=some (.bool false):=hce 5 _ rfl;have d6:wr.cell? ⟨g,off+6,none⟩=some (.int .i64 0):=hce 6 _ rfl;have d7:wr.cell? ⟨g,off+7,none⟩=some (.int .i64 0):=hce 7 _ rfl;have d8:wr.cell? ⟨g,off+8,none⟩=some (.string ⟨#[]⟩):=hce 8 _ rfl;have d9:wr.cell? ⟨g,off+9,none⟩=some (.string ⟨#[]⟩):=hce 9 _ rfl;have d10:wr.cell? ⟨g,off+10,none⟩=some (.int .i64 0):=hce 10 _ rfl;have hd:=HI.out.alloc (.cells (Fx.of 8 noStr).cells.toArray TRx);clear hce hcell;go_upto_region 4 with fail
    clear d0 d1 d2 d3 d4 d5 d6 d7 d8 d9 d10;generalize wr.alloc _=w2 at *;generalize wr.heap.size=gy at *;have c2:=hd.cell;obtain⟨R',e7,hU,back⟩:=(hd.eq (show _=LAt TRue 5 Ue.cells ou lu*(RtAt N t e u c p (.slice (some ⟨g,off,none⟩) 1 cap) ou x*(blk gy _*(LAt TRx 11 Fx.cells (.slice (some ⟨g,off,none⟩) 1 cap) [Fx.of 8 noStr]*R))) by ac_rfl)).rt_u;have hw:=ru_want u x.u lu HI0.out.2 w0 w2 _ hU;have hwo:=us_want HI0.out.1.u;have hwl:=us_want_len x.u;have hwe:=want_err x.u;generalize x.u.want=A at *;obtain⟨A1,A2,A3⟩:=A;simp only[] at hw HZ hwo hwl hwe;have HA:=Lib.hid (And.intro hwo (And.intro hwl hwe));clear HI hd hU hwo hwl hwe;go_wp2_with fail
    refine hw.mono ?_
    rintro q w5 ⟨rfl,h5⟩;clear e7;obtain⟨e7,ou2,e6,h6⟩:=back _ _ _ h5;clear h5 hw back c2;by_cases a0:A3=0
    ·have b0:(A3 == 0)=true:=by simp[a0]
     have hs:=rt_users N t e u c p (.slice (some ⟨g,off,none⟩) 1 cap) ou2 (x.setU A1) ou2 A2 [Fx.of 8 noStr] HA.out.1.2 ⟨HI0.out.1.e,HA.out.1.1,HI0.out.1.d,HI0.out.1.k⟩ (by have:=HA.out.2.1;omega) (by have:=HA.out.2.1;have h2:=HL.out;show x.len+_<=_;omega) w0 w5 _ (h6.eq (show _=LAt TRue 5 Ue.cells ou2 A2*(LAt TRx 11 Fx.cells (.slice (some ⟨g,off,none⟩) 1 cap) [Fx.of 8 noStr]*(RtAt N t e u c p (.slice (some ⟨g,off,none⟩) 1 cap) ou2 (x.setU A1)*(blk gy _*R))) by ac_rfl));clear a0 h6;go_wp2_with fail
     refine hs.mono ?_
     rintro q w7 ⟨ov3,lo3,rfl,h7⟩;have h8:=(h7.eq (show _=blk gy _*(LAt TRx 11 Fx.cells ov3 lo3*(LAt TRue 5 Ue.cells ou2 A2*(RtAt N t e u c p ov3 ou2 _*R))) by ac_rfl)).drop;rw[HZ.out] at h8;have HS:=Lib.hid h8;clear hs h7 e6 e7 h8;go_wp2;go_roundw
     case rel=>exact .inr ⟨by go_num,ov3,lo3,ou2,A2,HS⟩
     case measure=>simp[intOf]
    ·have b0:(A3 == 0)=false:=by simp[a0]
     have hn2:=HA.out.2.2 a0;subst hn2;clear a0;have h8:=(h6.eq (show _=blk gy _*(LAt TRx 11 Fx.cells (.slice (some ⟨g,off,none⟩) 1 cap) [Fx.of 8 noStr]*(LAt TRue 5 Ue.cells ou2 []*(RtAt N t e u c p (.slice (some ⟨g,off,none⟩) 1 cap) ou2 (x.setU A1)*R))) by ac_rfl)).drop;have hz:x.setU A1=Z:=HZ.out;rw[hz] at h8;have HS:=Lib.hid h8;clear h6 e6 e7 h8 hz;go_wp2;go_roundw
     case rel=>exact .inr ⟨by go_num,_,_,ou2,[],HS⟩
     case measure=>simp[intOf]
  ·go_wp2
   go_end0
   exact⟨ov',lo',ou',lu',rfl,HI.out⟩
theorem rt_links (N t e u c p:Nat) (ov ou:Value) (x:Tt) (l:List Fx) (lu:List Ue) (s:Int) (hx:Fxs s l\/l=[Fx.of 8 noStr]) (hs:s<=126) (hfit:x.Fit) (htidy:x.u.Tidy) (hl0:l.length<=100000) (hl:x.len<=800000000000) (w0 w:World) (R:HP)
  (h:St w0 w (LAt TRx 11 Fx.cells ov l*(LAt TRue 5 Ue.cells ou lu*(RtAt N t e u c p ov ou x*R)))) :
  Calls Tryz.prog 46 #[ptr t,ov] w fun r w'=>∃ ov' lo' ou' lu',r=.returned (.tuple #[])/\St w0 w' (LAt TRx 11 Fx.cells ov' lo'*(LAt TRue 5 Ue.cells ou' lu'*(RtAt N t e u c p ov' ou' (x.links l)*R))):=by
 rcases hx with hx | rfl
 ·rw[links_eq l x (fun z hz=>(hx z hz).1.2.2)]
  refine (rt_links0 N t e u c p ov ou x ov l (canR_of hx (fun _=>hs)) hfit.k (by omega) (by unfold Tt.len at hl;omega) w0 w _ (h.eq (show _=LAt TRx 11 Fx.cells ov l*(RtAt N t e u c p ov ou x*(LAt TRue 5 Ue.cells ou lu*R)) by ac_rfl))).mono ?_
  rintro r w1 ⟨rfl,h1⟩;exact⟨ov,l,ou,lu,rfl,h1.eq (by ac_rfl)⟩
 ·exact rt_wish N t e u c p ov ou x lu hfit htidy hl w0 w R h
def RtOff (N t:Nat) (x:Tt):HP:=hex fun z:(Nat × Nat × Nat × Nat) × (Value × Value) × (List Fx × List Ue) =>
 LAt TRx 11 Fx.cells z.2.1.1 z.2.2.1*(LAt TRue 5 Ue.cells z.2.1.2 z.2.2.2*RtAt N t z.1.1 z.1.2.1 z.1.2.2.1 z.1.2.2.2 z.2.1.1 z.2.1.2 x)
section
variable {w0 w:World} {R:HP} {N t:Nat} {x:Tt}
theorem St.rtoff_open (h:St w0 w (RtOff N t x*R)):∃ e u c p ov ou lo lu,St w0 w (LAt TRx 11 Fx.cells ov lo*(LAt TRue 5 Ue.cells ou lu*(RtAt N t e u c p ov ou x*R))):=by
 obtain⟨⟨⟨e,u,c,p⟩,⟨ov,ou⟩,⟨lo,lu⟩⟩,h⟩:=h.ex;exact⟨e,u,c,p,ov,ou,lo,lu,h.eq (by simp only[star_assoc])⟩
theorem St.rtoff_shut {e u c p:Nat} {ov ou:Value} {lo:List Fx} {lu:List Ue} (h:St w0 w (LAt TRx 11 Fx.cells ov lo*(LAt TRue 5 Ue.cells ou lu*(RtAt N t e u c p ov ou x*R)))):St w0 w (RtOff N t x*R) :=
 St.mk_ex ((e,u,c,p),(ov,ou),(lo,lu)) (h.eq (by simp only[star_assoc]))
end
theorem rt_begin_bad (N t e u c p:Nat) (ov ou:Value) (x:Tt) (now:Int) (hb:badNow now=true) (w0 w:World) (R:HP) (h:St w0 w (RtAt N t e u c p ov ou x*R)) :
  Calls Tryz.prog 44 #[ptr t,.int .i64 now] w fun r w'=>r=.returned (.bool false)/\St w0 w' (RtAt N t e u c p ov ou x.hush*R):=by
 obtain⟨sv,tv,L,r,hi,h1⟩:=h.rt_open;have cc:=h1.cell;have ff:=h1.free;have h2:=(h1.set 11 (.slice none 0 0)).set 12 (.slice none 0 0);have h3:=(h2.l_nil TRtold 2 tolC).l_nil 9 1 encS;have h4:St w0 _ (RtAt N t e u c p ov ou x.hush*(LAt 9 1 encS sv x.sent*(LAt TRtold 2 tolC tv x.told*R))):=St.rt_shut (x:=x.hush) (sv:=.slice none 0 0) (tv:=.slice none 0 0) (L:=L) (r:=r) (h3.eq (show _=blk t _*(RnB e x.e ov*(RuB u x.u ou*(CRef c L*(RdeAt p r*(LAt 9 1 encS (.slice none 0 0) []*(LAt TRtold 2 tolC (.slice none 0 0) []*(LAt 9 1 encS sv x.sent*(LAt TRtold 2 tolC tv x.told*R)))))))) by ac_rfl)) rfl ⟨hi.clock,hi.dec,hi.len⟩;have h5:=h4.f2.drop.f2.drop;unfold badNow at hb;by_cases a:now<0
 ·have qa:decide (now<0)=true:=decide_eq_true a
  clear a hb h h1 h2 h3 h4;go_enter Tryz.func44,Tryz.ntmps44
  go_wp2;go_ret
  exact⟨rfl,h5⟩
 ·have qa:decide (now<0)=false:=decide_eq_false a
  have b:9007199254740992<now:=(of_decide_eq_true hb).resolve_left a;have qb:decide (9007199254740992<now)=true:=decide_eq_true b;clear a b hb h h1 h2 h3 h4;go_enter Tryz.func44,Tryz.ntmps44
  go_wp2;go_ret
  exact⟨rfl,h5⟩
theorem ask_out2 (x:En) (h:x.out=[]) (a:Int) (d:ByteArray):(x.ask a d).1.out=[]/\((x.ask a d).2.2≠0->(x.ask a d).2.1=[]):=by
 unfold En.ask;split
 ·exact⟨h,fun _=>rfl⟩
 ·split
  ·exact⟨h,fun _=>rfl⟩
  ·refine⟨rfl,?_⟩
   simp only[];split
   ·unfold En.establish
    repeat' split
    all_goals first | exact fun e=>absurd rfl e | exact fun _=>h
   ·split
    ·unfold En.release
     repeat' split
     all_goals first | exact fun e=>absurd rfl e | exact fun _=>h
    ·split
     ·unfold En.data
      repeat' split
      all_goals first | exact fun e=>absurd rfl e | exact fun _=>h
     ·split
      ·unfold En.unit
       repeat' split
       all_goals first | exact fun e=>absurd rfl e | exact fun _=>h
      ·unfold En.own
       repeat' split
       all_goals first | exact fun e=>absurd rfl e | exact fun _=>h
theorem rt_ask (N t:Nat) (x:Tt) (now a:Int) (d:ByteArray) (hfit:x.Fit) (htidy:x.u.Tidy) (w0 w:World) (R:HP) (h:St w0 w (RtOff N t x*R)) :
  Calls Tryz.prog 18 #[ptr t,.int .i64 now,.int .i64 a,.string d] w fun r w'=>r=.returned (.int .i64 (x.ask now a d).2)/\St w0 w' (RtOff N t (x.ask now a d).1*R):=by
 obtain⟨e,u,c,p,ov,ou,lo,lu,h1⟩:=h.rtoff_open;unfold Tt.ask;by_cases hb:badNow now=true
 ·rw[if_pos hb]
  have hc:=rt_begin_bad N t e u c p ov ou x now hb w0 w _ h1.f3;clear h h1 hb hfit htidy;go_enter Tryz.func18,Tryz.ntmps18
  go_wp2_with fail
  refine hc.mono ?_
  rintro q w1 ⟨rfl,h2⟩;have h3:St w0 w1 (RtOff N t x.hush*R):=(h2.eq (show _=LAt TRx 11 Fx.cells ov lo*(LAt TRue 5 Ue.cells ou lu*(RtAt N t e u c p ov ou x.hush*R)) by ac_rfl)).rtoff_shut;clear hc h2;go_wp2;go_ret
  exact⟨rfl,h3⟩
 ·rw[if_neg hb]
  have hb:badNow now=false:=by simpa using hb
  have hc:=rt_begin N t e u c p ov ou x now hb w0 w _ h1.f3;have hfb:(x.begin now).Fit:=⟨hfit.e,hfit.u,hfit.d,hfit.k⟩;have htb:(x.begin now).u.Tidy:=htidy;have hlen:(x.begin now).len=0:=rfl;rw[show x.e=(x.begin now).e from rfl];generalize x.begin now=X at *;obtain⟨fa,fb⟩:=fit_ask hfb.e a d;have ln:=ask_len X.e (out0 hfb.e) a d;have hfx:=fit_setE hfb fa;have er:=(ask_out2 X.e hfb.e.out a d).2;have hso:∀ l,(X.e.setOut l).setOut []=X.e:=fun l=>En.setOut_nil hfb.e.out
  have hk:=fun w R h=>n_ask e (X.e.setOut lo) a d hfb.e.ok.b.fl (by have:=hfb.e.ok.b.un;show X.e.units.length<=256;omega) w0 w R h
  rw[hso] at hk;obtain⟨A,hA⟩:∃ A,X.e.ask a d=A:=⟨_,rfl⟩;rw[hA] at fa fb ln hfx hk er ⊢;obtain⟨A1,A2,A3⟩:=A;simp only[] at *;have HA:=Lib.hid (show (Fxs X.e.tei A2\/A2=[Fx.of 8 noStr])/\X.e.tei<=126/\(X.setE A1).Fit/\A2.length<=100000/\(X.setE A1).len=0/\(X.setE A1).u.Tidy/\(A3≠0->A2=[]) from ⟨fb.imp id (fun e=>e.1),hfb.e.wd.t,hfx,ln,hlen,htb,er⟩);obtain⟨Y,hY⟩:∃ Y,(X.setE A1).links A2=Y:=⟨_,rfl⟩;rw[hY];have HY:=Lib.hid hY;clear hA hlen fa fb ln hfx hfb hY h h1 hb hfit htidy htb er hso;go_enter Tryz.func18,Tryz.ntmps18
  go_wp2_with fail
  refine hc.mono ?_
  rintro q w1 ⟨rfl,h2⟩;clear hc;obtain⟨R',e6,hE,back⟩:=(h2.eq (show _=LAt TRx 11 Fx.cells ov lo*(RtAt N t e u c p ov ou X*(LAt TRue 5 Ue.cells ou lu*R)) by ac_rfl)).rt_e;clear h2;go_wp2_with fail
  refine (hk _ _ hE).mono ?_
  rintro q w5 ⟨rfl,h5⟩;clear e6 hE hk;obtain⟨e6,ov2,e9,h6⟩:=back _ _ _ h5;clear h5 back;by_cases a0:A3=0
  ·have b0:(A3 == 0)=true:=by simp[a0]
   have hs:=rt_links N t e u c p ov2 ou (X.setE A1) A2 lu X.e.tei HA.out.1 HA.out.2.1 HA.out.2.2.1 HA.out.2.2.2.2.2.1 HA.out.2.2.2.1 (by rw[HA.out.2.2.2.2.1];decide) w0 w5 _ (h6.eq (show _=LAt TRx 11 Fx.cells ov2 A2*(LAt TRue 5 Ue.cells ou lu*(RtAt N t e u c p ov2 ou (X.setE A1)*R)) by ac_rfl));rw[HY.out] at hs;clear h6 a0;go_wp2_with fail
   refine hs.mono ?_
   rintro q w7 ⟨ov3,lo3,ou3,lu3,rfl,h7⟩;have h8:=h7.rtoff_shut;clear hs h7 e6 e9;go_wp2;go_ret
   exact⟨rfl,h8⟩
  ·have b0:(A3 == 0)=false:=by simp[a0]
   have hn2:=HA.out.2.2.2.2.2.2 a0;subst hn2;have hy:X.setE A1=Y:=HY.out;rw[hy] at h6;have h8:St w0 w5 (RtOff N t Y*R):=(h6.eq (show _=LAt TRx 11 Fx.cells ov2 []*(LAt TRue 5 Ue.cells ou lu*(RtAt N t e u c p ov2 ou Y*R)) by ac_rfl)).rtoff_shut;clear h6 a0 e6 e9 hy;go_wp2;go_ret
   exact⟨rfl,h8⟩
theorem rt_come (N t:Nat) (x:Tt) (s:ByteArray) (hfit:x.Fit) (htidy:x.u.Tidy) (hl:x.len<=700000000000) (hs:s.size<=1000000) (w0 w:World) (R:HP) (h:St w0 w (RtOff N t x*R)) :
  Calls Tryz.prog 52 #[ptr t,.string s] w fun r w'=>r=.returned (.tuple #[])/\St w0 w' (RtOff N t (x.come s)*R):=by
 obtain⟨e,u,c,p,ov,ou,lo,lu,h1⟩:=h.rtoff_open;have hg:=fun w R h=>rfr_get s true w0 w R h (by omega)
 have hi:=getO_info s true;obtain⟨Y,hY⟩:∃ Y,x.come s=Y:=⟨_,rfl⟩;rw[hY];unfold Tt.come at hY;dsimp only at hY;have HI:=Lib.hid (And.intro hfit htidy);have HL:=Lib.hid hl;clear h hfit htidy hl;generalize getO s true=G at *;obtain⟨f,c0⟩:=G;simp only[] at hi;have ho:=fun w R h=>rm_of f true w0 w R h (by omega)
 generalize tmOf f true=M at *;obtain⟨⟨m1,m2,m3⟩,mb⟩:=M;obtain⟨a1,a2,cmd,k,pf,ns,nr,inf⟩:=f;simp only[Fr.cells,Tm.cells] at *;by_cases c1:c0=0
 ·rw[if_neg (fun h=>h c1)] at hY
  have b0:(c0 != 0)=false:=by simp[c1]
  clear c1;cases mb with
  | true =>
    rw[if_pos rfl] at hY;have HY:=Lib.hid hY;have hwo:=us_message HI.out.1.u ⟨m1,m2,m3⟩;have hwl:=us_message_len x.u ⟨m1,m2,m3⟩;have hm:=fun w R h=>ru_message u x.u lu ⟨m1,m2,m3⟩ HI.out.2 w0 w R h
    generalize x.u.message ⟨m1,m2,m3⟩=A at *;obtain⟨A1,A2⟩:=A;simp only[Tm.cells] at hm HY hwo hwl;have HA:=Lib.hid (And.intro hwo hwl);clear hY hwo hwl;go_enter Tryz.func52,Tryz.ntmps52
    go_upto_region 1 with (go_at_call 114;refine (hg _ _ h1).mono ?_;rintro q w1 ⟨rfl,h2⟩)
    clear hg h1;have h3:=h2.alloc (.cells #[.int .i64 a1,.int .i64 a2,.bool cmd,.int .i64 k,.bool pf,.int .i64 ns,.int .i64 nr,.string inf] TRf);generalize w1.alloc _=w2 at *;generalize hgf:w1.heap.size=gf at *;have cf:=h3.cell;go_upto_region 3 with (go_at_call 115;refine (ho _ _ h3).mono ?_;rintro q w3 ⟨rfl,h4⟩)
    clear ho cf;have ltf:=h4.lt;have h5:=h4.alloc (.cells #[.int .i64 m1,.int .i64 m2,.int .i64 m3] TTmR);generalize w3.alloc _=w4 at *;generalize hgm:w3.heap.size=gm at *;have ne1:gf≠gm:=by omega
    have ne2:gm≠gf:=by omega
    clear h4 h3;have cm:=h5.cell;have cf:=h5.f2.cell;go_upto_region 4 with fail
    obtain⟨R',e7,hU,back⟩:=(h5.eq (show _=LAt TRue 5 Ue.cells ou lu*(RtAt N t e u c p ov ou x*(blk gm (.cells #[.int .i64 m1,.int .i64 m2,.int .i64 m3] TTmR (0,0))*(blk gf _*(LAt TRx 11 Fx.cells ov lo*R)))) by ac_rfl)).drew.rt_u;have em:=h5.drew.cell;refine wp_region_held_drew (S:=fun wx=>wx.cell? ⟨t,7,none⟩=some (ptr u)/\wx.cell? ⟨gm,0,none⟩=some (.int .i64 m1)/\wx.cell? ⟨gm,1,none⟩=some (.int .i64 m2)/\wx.cell? ⟨gm,2,none⟩=some (.int .i64 m3)) (by kernel_rfl) ⟨e7,(em 0).trans rfl,(em 1).trans rfl,(em 2).trans rfl⟩ (fun hHeld=>?_)
    clear e7 em cf cm h5;generalize w4.drew=wd at *;refine tk 0 ?_ rfl (fun w hSw=>?_) ?_
    rotate_left 1
    ·try dsimp only at hSw
     go_simp
     try with_reducible rfl
    try simp only[Act.put,sl]
    refine tk 1 ?_ rfl (fun w hSw=>?_) ?_
    rotate_left 1
    ·try dsimp only at hSw
     go_simp
     try with_reducible rfl
    try simp only[Act.put,sl]
    refine tk 2 ?_ rfl (fun w hSw=>?_) ?_
    rotate_left 1
    ·try dsimp only at hSw
     go_simp
     try with_reducible rfl
    try simp only[Act.put,sl]
    refine tk 3 ?_ rfl (fun w hSw=>?_) ?_
    rotate_left 1
    ·try dsimp only at hSw
     go_simp
     try with_reducible rfl
    try simp only[Act.put,sl]
    refine tk 4 ?_ rfl (fun w hSw=>?_) ?_
    rotate_left 1
    ·try dsimp only at hSw
     go_simp
     try with_reducible rfl
    try simp only[Act.put,sl]
    refine rd 5 rfl (fun K hK=>?_)
    go_simp
    go_at_call 116
    refine (hm _ _ hU).mono ?_
    rintro q w5 ⟨rfl,h6⟩;obtain⟨e7,ou2,e6,h7⟩:=back _ _ _ h6;clear hU hm back h6;have em:=h7.f3.cell;go_simp
    refine hK.out _ _ ⟨e7,(em 0).trans rfl,(em 1).trans rfl,(em 2).trans rfl⟩ (fun hHeld=>?_)
    clear hK K;try simp only[Act.put,sl]
    refine wpAnyH_done (by kernel_rfl) ?_ _
    clear em hHeld;have hs2:=rt_users N t e u c p ov ou2 (x.setU A1) ou2 A2 lo HA.out.1.2 (fit_setU HI.out.1 HA.out.1.1) (by have:=HA.out.2;omega) (by have:=HA.out.2;have h2:=HL.out;show x.len+_<=_;omega) w0 w5 _ (h7.eq (show _=LAt TRue 5 Ue.cells ou2 A2*(LAt TRx 11 Fx.cells ov lo*(RtAt N t e u c p ov ou2 (x.setU A1)*(blk gm (.cells #[.int .i64 m1,.int .i64 m2,.int .i64 m3] TTmR (0,0))*(blk gf _*R)))) by ac_rfl));rw[HY.out] at hs2;clear h7;go_wp2_with fail
    refine hs2.mono ?_
    rintro q w7 ⟨ov3,lo3,rfl,h8⟩;have h9:St w0 w7 (RtOff N t Y*R):=((h8.eq (show _=blk gm (.cells #[.int .i64 m1,.int .i64 m2,.int .i64 m3] TTmR (0,0))*(blk gf _*(LAt TRx 11 Fx.cells ov3 lo3*(LAt TRue 5 Ue.cells ou2 A2*(RtAt N t e u c p ov3 ou2 Y*R)))) by ac_rfl)).drop.drop).rtoff_shut;clear h8 hs2 e7 e6;go_wp2;refine bodyPost_ret (v:=.tuple #[]) (by simp[results,Tryz.results52,go_sem]) rfl ⟨rfl,?_⟩
    exact h9
  | false =>
    rw[if_neg (by decide)] at hY;by_cases s0:a1=0
    ·rw[if_neg (fun h=>h s0)] at hY
     subst s0;go_enter Tryz.func52,Tryz.ntmps52
     go_upto_region 1 with (go_at_call 114;refine (hg _ _ h1).mono ?_;rintro q w1 ⟨rfl,h2⟩)
     clear hg h1;have h3:=h2.alloc (.cells #[.int .i64 0,.int .i64 a2,.bool cmd,.int .i64 k,.bool pf,.int .i64 ns,.int .i64 nr,.string inf] TRf);generalize w1.alloc _=w2 at *;generalize hgf:w1.heap.size=gf at *;have cf:=h3.cell;go_upto_region 3 with (go_at_call 115;refine (ho _ _ h3).mono ?_;rintro q w3 ⟨rfl,h4⟩)
     clear ho cf;have ltf:=h4.lt;have h5:=h4.alloc (.cells #[.int .i64 m1,.int .i64 m2,.int .i64 m3] TTmR);generalize w3.alloc _=w4 at *;generalize hgm:w3.heap.size=gm at *;have ne1:gf≠gm:=by omega
     have ne2:gm≠gf:=by omega
     clear h4 h3;have cm:=h5.cell;have cf:=h5.f2.cell;by_cases st:a2=127/\k=6
     ·rw[if_pos st] at hY
      subst hY;have q1:(a2 == 127)=true:=by simp[st.1]
      have q2:(k == 6)=true:=by simp[st.2]
      clear st;go_upto_region 8 with fail
      obtain⟨sv,tv,L,r,his,h6⟩:=(h5.eq (show _=RtAt N t e u c p ov ou x*(blk gm (.cells #[.int .i64 m1,.int .i64 m2,.int .i64 m3] TTmR (0,0))*(blk gf (.cells #[.int .i64 0,.int .i64 a2,.bool cmd,.int .i64 k,.bool pf,.int .i64 ns,.int .i64 nr,.string inf] TRf (0,0))*(LAt TRx 11 Fx.cells ov lo*(LAt TRue 5 Ue.cells ou lu*R)))) by ac_rfl)).rt_open;have HIS:=Lib.hid his;have c3:=h6.cell;have h7:=h6.alloc (.cells #[.int .i64 6,.string inf] TRtold);have c4:=h7.f2.cell;have c5:=(h5.alloc (.cells #[.int .i64 6,.string inf] TRtold)).f3.cell;have HX:=((h7.l_mk (enc:=tolC) (sz:=2) tyRtold.len [(6,inf)] 1 rfl rfl (by decide)).eq (show _=LAt TRtold 2 tolC tv x.told*(LAt TRtold 2 tolC (.slice (some ⟨w4.heap.size,0,none⟩) 1 1) [(6,inf)]*(blk t _*(RnB e x.e ov*(RuB u x.u ou*(CRef c L*(RdeAt p r*(LAt 9 1 encS sv x.sent*(blk gm (.cells #[.int .i64 m1,.int .i64 m2,.int .i64 m3] TTmR (0,0))*(blk gf (.cells #[.int .i64 0,.int .i64 a2,.bool cmd,.int .i64 k,.bool pf,.int .i64 ns,.int .i64 nr,.string inf] TRf (0,0))*(LAt TRx 11 Fx.cells ov lo*(LAt TRue 5 Ue.cells ou lu*R))))))))))) by ac_rfl)).drew;have hle:(x.told.length+[((6:Int),inf)].length)*24<=140737488355328:=by have:=HL.out;unfold Tt.len at this;show (x.told.length+1)*24<=_;omega
      obtain⟨nt,hnt⟩:∃ nt,x.told.length=nt:=⟨_,rfl⟩;clear his h6 h7 h5 cm;go_region_law (refine step_append_l rfl (.tmp 51) (.tmp 55) rfl tyRtold HX (by simp) rfl rfl hle ?_;intro g2 off2 cap2 w8 h12;have c8:=h12.f2.cell;have f8:=h12.f2.free)
      all_goals
       rw[hnt] at h12;have h13:=h12.f2.set 12 (.slice (some ⟨g2,off2,none⟩) (nt+1) cap2);generalize w8.setCell _ _=w9 at *;have h14:=(h13.eq (show _=blk gm (.cells #[.int .i64 m1,.int .i64 m2,.int .i64 m3] TTmR (0,0))*(blk gf (.cells #[.int .i64 0,.int .i64 a2,.bool cmd,.int .i64 k,.bool pf,.int .i64 ns,.int .i64 nr,.string inf] TRf (0,0))*(blk t _*(RnB e x.e ov*(RuB u x.u ou*(CRef c L*(RdeAt p r*(LAt 9 1 encS sv x.sent*(LAt TRtold 2 tolC (.slice (some ⟨g2,off2,none⟩) (nt+1) cap2) (x.told++[(6,inf)])*(LAt TRx 11 Fx.cells ov lo*(LAt TRue 5 Ue.cells ou lu*R)))))))))) by ac_rfl)).drop.drop;have h15:St w0 w9 (RtAt N t e u c p ov ou (x.tell 6 inf)*(LAt TRx 11 Fx.cells ov lo*(LAt TRue 5 Ue.cells ou lu*R))):=St.rt_shut (x:=x.tell 6 inf) (sv:=sv) (tv:=.slice (some ⟨g2,off2,none⟩) (nt+1) cap2) (L:=L) (r:=r) h14 rfl ⟨HIS.out.clock,HIS.out.dec,HIS.out.len⟩;have h9:St w0 w9 (RtOff N t (x.tell 6 inf)*R):=(h15.eq (show _=LAt TRx 11 Fx.cells ov lo*(LAt TRue 5 Ue.cells ou lu*(RtAt N t e u c p ov ou (x.tell 6 inf)*R)) by ac_rfl)).rtoff_shut;clear c3 c4 c5 c8 f8 HX h12 h13 h14 h15 hnt;go_wp2;refine bodyPost_ret (v:=.tuple #[]) (by simp[results,Tryz.results52,go_sem]) rfl ⟨rfl,?_⟩
       exact h9
     ·rw[if_neg st] at hY
      have HST:=Lib.hid st;have HY0:=Lib.hid hY;clear hY st;go_upto_region 7 with fail
      go_cut [46] (fun s46 wx=>s46=.bool false/\w4=wx)
      case first =>
       have st:=HST.out;clear HST HY0;by_cases z1:a2=127
       ·have q1:(a2 == 127)=true:=by simp[z1]
        have q2:(k == 6)=false:=by simp;exact fun z2=>st ⟨z1,z2⟩
        clear st z1;go_wp2;go_meet
        exact⟨rfl,rfl⟩
       ·have q1:(a2 == 127)=false:=by simp[z1]
        clear st z1;go_wp2;go_meet
        exact⟨rfl,rfl⟩
      case rest =>
       obtain⟨rfl,rfl⟩:=hcut;obtain⟨R',e6,hE,back⟩:=(h5.eq (show _=LAt TRx 11 Fx.cells ov lo*(RtAt N t e u c p ov ou x*(blk gm (.cells #[.int .i64 m1,.int .i64 m2,.int .i64 m3] TTmR (0,0))*(blk gf (.cells #[.int .i64 0,.int .i64 a2,.bool cmd,.int .i64 k,.bool pf,.int .i64 ns,.int .i64 nr,.string inf] TRf (0,0))*(LAt TRue 5 Ue.cells ou lu*R)))) by ac_rfl)).rt_e;have e2:w4.cell? ⟨e,2,none⟩=some (.int .i64 x.e.tei):=hE.n_c2;have hY:=HY0.out;have hso:(x.e.setOut lo).setOut []=x.e:=En.setOut_nil HI.out.1.e.out;obtain⟨T,hT⟩:∃ T,x.e.tei=T:=⟨_,rfl⟩;rw[hT] at e2 hY;by_cases z2:a2=T
       ·rw[if_pos z2] at hY
        have HY:=Lib.hid hY;have q3:(a2 == T)=true:=by simp[z2]
        have ha:=fun w R h=>n_frame e (x.e.setOut lo) ⟨0,a2,cmd,k,pf,ns,nr,inf⟩ HI.out.1.e.ok.b.fl (fun h=>⟨HI.out.1.e.ok.tei.1 h,HI.out.1.e.ok.s8⟩) w0 w R h
        rw[hso] at ha;obtain⟨fa,fb⟩:=fit_frame HI.out.1.e ⟨0,a2,cmd,k,pf,ns,nr,inf⟩;have ln:=frame_len x.e (out0 HI.out.1.e) ⟨0,a2,cmd,k,pf,ns,nr,inf⟩;have lt:=HI.out.1.e.wd.t;rw[hT] at fb lt;generalize x.e.frame ⟨0,a2,cmd,k,pf,ns,nr,inf⟩=A at *;obtain⟨A1,A2⟩:=A;simp only[Fr.cells] at ha HY fa fb ln;have HA:=Lib.hid (And.intro fa (And.intro fb (And.intro ln lt)));clear hY HY0 fa fb ln lt hso z2 hT HST;go_upto_region 9 with fail
        go_quiet (fail)
        have e6:(w4.drewN nq).drew.cell? ⟨t,6,none⟩=some (ptr e):=e6;go_upto_region 10 with fail
        have em:=(h5.drewN nq).drew.f2.cell;have hE2:=(hE.drewN nq).drew;refine wp_region_held_drew (S:=fun wx=>wx.cell? ⟨t,6,none⟩=some (ptr e)/\wx.cell? ⟨gf,0,none⟩=some (.int .i64 0)/\wx.cell? ⟨gf,1,none⟩=some (.int .i64 a2)/\wx.cell? ⟨gf,2,none⟩=some (.bool cmd)/\wx.cell? ⟨gf,3,none⟩=some (.int .i64 k)/\wx.cell? ⟨gf,4,none⟩=some (.bool pf)/\wx.cell? ⟨gf,5,none⟩=some (.int .i64 ns)/\wx.cell? ⟨gf,6,none⟩=some (.int .i64 nr)/\wx.cell? ⟨gf,7,none⟩=some (.string inf)) (by kernel_rfl) ⟨e6,(em 0).trans rfl,(em 1).trans rfl,(em 2).trans rfl,(em 3).trans rfl,(em 4).trans rfl,(em 5).trans rfl,(em 6).trans rfl,(em 7).trans rfl⟩ (fun hHeld=>?_)
        clear e6 e2 em cf cm h5 hE;generalize (w4.drewN nq).drew=wd at *;refine tk 0 ?_ rfl (fun w hSw=>?_) ?_
        rotate_left 1
        ·try dsimp only at hSw
         go_simp
         try with_reducible rfl
        try simp only[Act.put,sl]
        refine tk 1 ?_ rfl (fun w hSw=>?_) ?_
        rotate_left 1
        ·try dsimp only at hSw
         go_simp
         try with_reducible rfl
        try simp only[Act.put,sl]
        refine tk 2 ?_ rfl (fun w hSw=>?_) ?_
        rotate_left 1
        ·try dsimp only at hSw
         go_simp
         try with_reducible rfl
        try simp only[Act.put,sl]
        refine tk 3 ?_ rfl (fun w hSw=>?_) ?_
        rotate_left 1
        ·try dsimp only at hSw
         go_simp
         try with_reducible rfl
        try simp only[Act.put,sl]
        refine tk 4 ?_ rfl (fun w hSw=>?_) ?_
        rotate_left 1
        ·try dsimp only at hSw
         go_simp
         try with_reducible rfl
        try simp only[Act.put,sl]
        refine rd 5 rfl (fun K hK=>?_)
        go_simp
        go_at_call 117
        refine (ha _ _ hE2).mono ?_
        rintro q w5 ⟨rfl,h6⟩;obtain⟨e6,ov2,e9,h7⟩:=back _ _ _ h6;clear hE2 ha back h6;have em:=h7.f4.cell;go_simp
        refine hK.out _ _ ⟨e6,(em 0).trans rfl,(em 1).trans rfl,(em 2).trans rfl,(em 3).trans rfl,(em 4).trans rfl,(em 5).trans rfl,(em 6).trans rfl,(em 7).trans rfl⟩ (fun hHeld=>?_)
        clear hK K;try simp only[Act.put,sl]
        refine wpAnyH_done (by kernel_rfl) ?_ _
        clear em hHeld;have hs2:=rt_links N t e u c p ov2 ou (x.setE A1) A2 lu T (.inl HA.out.2.1) HA.out.2.2.2 (fit_setE HI.out.1 HA.out.1) HI.out.2 (by have:=HA.out.2.2.1;omega) (by have h2:=HL.out;show x.len<=_;omega) w0 w5 _ (h7.eq (show _=LAt TRx 11 Fx.cells ov2 A2*(LAt TRue 5 Ue.cells ou lu*(RtAt N t e u c p ov2 ou (x.setE A1)*(blk gm (.cells #[.int .i64 m1,.int .i64 m2,.int .i64 m3] TTmR (0,0))*(blk gf (.cells #[.int .i64 0,.int .i64 a2,.bool cmd,.int .i64 k,.bool pf,.int .i64 ns,.int .i64 nr,.string inf] TRf (0,0))*R)))) by ac_rfl));rw[HY.out] at hs2;clear h7;go_wp2_with fail
        refine hs2.mono ?_
        rintro q w7 ⟨ov3,lo3,ou3,lu3,rfl,h8⟩;have h9:St w0 w7 (RtOff N t Y*R):=((h8.eq (show _=blk gm (.cells #[.int .i64 m1,.int .i64 m2,.int .i64 m3] TTmR (0,0))*(blk gf (.cells #[.int .i64 0,.int .i64 a2,.bool cmd,.int .i64 k,.bool pf,.int .i64 ns,.int .i64 nr,.string inf] TRf (0,0))*(LAt TRx 11 Fx.cells ov3 lo3*(LAt TRue 5 Ue.cells ou3 lu3*(RtAt N t e u c p ov3 ou3 Y*R)))) by ac_rfl)).drop.drop).rtoff_shut;clear h8 hs2 e6 e9;go_wp2;go_end0
        exact⟨rfl,h9⟩
       ·rw[if_neg z2] at hY
        subst hY;have q3:(a2 == T)=false:=by simp[z2]
        clear z2 hT hso HST HY0;go_upto_region 9 with fail
        go_quiet (fail)
        have h9:St w0 _ (RtOff N t x*R):=((h5.drewN nq).drop.drop).rtoff_shut;go_wp2;go_end0
        exact⟨rfl,h9⟩
    ·rw[if_pos s0] at hY
     subst hY;have b1:(a1 != 0)=true:=by simp[s0]
     clear s0;go_enter Tryz.func52,Tryz.ntmps52
     go_upto_region 1 with (go_at_call 114;refine (hg _ _ h1).mono ?_;rintro q w1 ⟨rfl,h2⟩)
     clear hg h1;have h3:=h2.alloc (.cells #[.int .i64 a1,.int .i64 a2,.bool cmd,.int .i64 k,.bool pf,.int .i64 ns,.int .i64 nr,.string inf] TRf);generalize w1.alloc _=w2 at *;generalize hgf:w1.heap.size=gf at *;have cf:=h3.cell;go_upto_region 3 with (go_at_call 115;refine (ho _ _ h3).mono ?_;rintro q w3 ⟨rfl,h4⟩)
     clear ho cf;have ltf:=h4.lt;have h5:=h4.alloc (.cells #[.int .i64 m1,.int .i64 m2,.int .i64 m3] TTmR);generalize w3.alloc _=w4 at *;generalize hgm:w3.heap.size=gm at *;have ne1:gf≠gm:=by omega
     have ne2:gm≠gf:=by omega
     clear h4 h3;have cm:=h5.cell;have cf:=h5.f2.cell;have h9:St w0 _ (RtOff N t x*R):=(h5.drop.drop).rtoff_shut;clear h5;go_wp2;refine bodyPost_ret (v:=.tuple #[]) (by simp[results,Tryz.results52,go_sem]) rfl ⟨rfl,?_⟩
     exact h9
 ·rw[if_pos c1] at hY
  subst hY;have b0:(c0 != 0)=true:=by simp[c1]
  clear c1 ho;go_enter Tryz.func52,Tryz.ntmps52
  go_upto_region 1 with (go_at_call 114;refine (hg _ _ h1).mono ?_;rintro q w1 ⟨rfl,h2⟩)
  clear hg h1;have h3:=h2.alloc (.cells #[.int .i64 a1,.int .i64 a2,.bool cmd,.int .i64 k,.bool pf,.int .i64 ns,.int .i64 nr,.string inf] TRf);generalize w1.alloc _=w2 at *;generalize hgf:w1.heap.size=gf at *;have cf:=h3.cell;have h9:St w0 _ (RtOff N t x*R):=(h3.drop).rtoff_shut;clear h3 h2 cf;go_wp2;refine bodyPost_ret (v:=.tuple #[]) (by simp[results,Tryz.results52,go_sem]) rfl ⟨rfl,?_⟩
  exact h9
theorem rde_feed_len (l:List Bool):∀ r:Rde,(r.feed l).1.s.length<=r.s.length+l.length:=by
 induction l with
 | nil=>intro r;exact Nat.le_refl _
 | cons b l ih =>
   intro r;have h1:=rde_since_len r b;have h2:=ih (r.bit b).1;show ((r.bit b).1.feed l).1.s.length<=_
   rw[List.length_cons];omega
theorem link0_us (x:Tt) (y:Fx):(x.link0 y).u=x.u:=by
 unfold Tt.link0;repeat' split
 all_goals rfl
theorem links0_us:∀ (l:List Fx) (x:Tt),(x.links0 l).u=x.u
 | [],_=>rfl
 | y :: l,x=>(links0_us l (x.link0 y)).trans (link0_us x y)
theorem user1_u (x:Tt) (y:Ue):(x.user1 y).u=x.u:=by
 unfold Tt.user1;split
 ·rfl
 split
 ·rfl
 split
 ·rfl
 split
 ·exact links0_us _ _
 ·exact links0_us _ _
theorem users_u:∀ (l:List Ue) (x:Tt),(x.users l).u=x.u
 | [],_=>rfl
 | y :: l,x=>(users_u l (x.user1 y)).trans (user1_u x y)
theorem tidy_link1 {x:Tt} (h:x.u.Tidy) (y:Fx):(x.link1 y).u.Tidy:=by
 unfold Tt.link1;split
 ·rw[users_u];exact tidy_want h
 ·rw[link0_us];exact h
theorem tidy_links:∀ (l:List Fx) {x:Tt},x.u.Tidy->(x.links l).u.Tidy
 | [],_,h=>h
 | y :: l,_,h=>tidy_links l (tidy_link1 h y)
theorem tidy_come {x:Tt} (h:x.u.Tidy) (s:ByteArray):(x.come s).u.Tidy:=by
 unfold Tt.come;dsimp only;split
 ·exact h
 split
 ·rw[users_u];exact tidy_message h _
 split
 ·exact h
 split
 ·exact h
 split
 ·exact tidy_links _ h
 ·exact h
theorem tidy_event {x:Tt} (h:x.u.Tidy) (v:Ev):(x.event v).u.Tidy:=by
 unfold Tt.event;split
 ·exact tidy_come h _
 ·exact h
theorem tidy_events:∀ (l:List Ev) {x:Tt},x.u.Tidy->(l.foldl Tt.event x).u.Tidy
 | [],_,h=>h
 | y :: l,_,h=>tidy_events l (tidy_event h y)
section
variable {w0 w:World} {R:HP} {N M t e u c p:Nat} {ov ou:Value} {x:Tt}
theorem St.rt_mono (hn:N<=M) (h:St w0 w (RtOff N t x*R)):St w0 w (RtOff M t x*R):=by
 obtain⟨e,u,c,p,ov,ou,lo,lu,h1⟩:=h.rtoff_open;obtain⟨sv,tv,L,r,hi,h2⟩:=(h1.eq (show _=RtAt N t e u c p ov ou x*(LAt TRx 11 Fx.cells ov lo*(LAt TRue 5 Ue.cells ou lu*R)) by ac_rfl)).rt_open;exact ((St.rt_shut (x:=x) h2 rfl ⟨hi.clock,hi.dec,Nat.le_trans hi.len hn⟩).eq (show _=LAt TRx 11 Fx.cells ov lo*(LAt TRue 5 Ue.cells ou lu*(RtAt M t e u c p ov ou x*R)) by ac_rfl)).rtoff_shut
end
theorem rt_bits (N t:Nat) (x:Tt) (now:Int) (b:ByteArray) (hfit:x.Fit) (htidy:x.u.Tidy) (ho:x.d.o<=100000000000000000) (hs:b.size<=1000000) (hN:N<=50000000) (w0 w:World) (R:HP) (h:St w0 w (RtOff N t x*R)) :
  Calls Tryz.prog 21 #[ptr t,.int .i64 now,.string b] w fun r w'=>r=.returned (.int .i64 (x.bits now b).2)/\St w0 w' (RtOff (N+b.size) t (x.bits now b).1*R):=by
 obtain⟨e,u,c,p,ov,ou,lo,lu,h1⟩:=h.rtoff_open;unfold Tt.bits;by_cases hb:badNow now=true
 ·rw[if_pos hb]
  have hc:=rt_begin_bad N t e u c p ov ou x now hb w0 w _ h1.f3;clear h h1 hb hfit htidy;go_enter Tryz.func21,Tryz.ntmps21
  go_wp2_with fail
  refine hc.mono ?_
  rintro q w1 ⟨rfl,h2⟩;have h3:St w0 w1 (RtOff N t x.hush*R):=(h2.eq (show _=LAt TRx 11 Fx.cells ov lo*(LAt TRue 5 Ue.cells ou lu*(RtAt N t e u c p ov ou x.hush*R)) by ac_rfl)).rtoff_shut;have h4:=h3.rt_mono (Nat.le_add_right N b.size);clear hc h2 h3;go_wp2;go_ret
  exact⟨rfl,h4⟩
 ·rw[if_neg hb]
  have hb:badNow now=false:=by simpa using hb
  have hc:=rt_begin N t e u c p ov ou x now hb w0 w _ h1.f3;have hft:(x.begin now).Fit:=⟨hfit.e,hfit.u,hfit.d,hfit.k⟩;have htb:(x.begin now).u.Tidy:=htidy;have hlen:(x.begin now).len=0:=rfl;have hd:(x.begin now).d=x.d:=rfl;clear hb h h1 hfit htidy;rw[← hd] at ho ⊢;generalize x.begin now=X at *;dsimp only;have hk:=fun p r hr ho w R h=>rh_feed p r b hr ho (by omega) w0 w R h
  have hlk:=fun r (hr:X.d.Like r)=>like_feed (bitsIn b.data.toList) hr
  have hrl:=fun r=>rde_feed_len (bitsIn b.data.toList) r
  have hfs:=feed_small (bitsIn b.data.toList) hft.d;have hff:=fits_feed (bitsIn b.data.toList) hft.d;have hfl:=feed_len (bitsIn b.data.toList) X.d;have hbl:=bitsIn_len b.data.toList;have hbs:b.data.toList.length=b.size:=by rw[Array.length_toList];rfl
  generalize X.d.feed (bitsIn b.data.toList)=A at *;obtain⟨A1,l⟩:=A;simp only[] at *;have hfx:(X.setD A1).Fit:=⟨hft.e,hft.u,hff,hft.k⟩;obtain⟨n,hn⟩:∃ n,l.length=n:=⟨_,rfl⟩;have hn6:n<=1000000:=by omega
  have hlen2:(X.setD A1).len=0:=hlen;have htb2:(X.setD A1).u.Tidy:=htb;obtain⟨Z,hZ⟩:∃ Z,l.foldl Tt.event (X.setD A1)=Z:=⟨_,rfl⟩;rw[hZ];have HZ:=Lib.hid hZ;have HA:=Lib.hid (And.intro hfx (And.intro hfs (And.intro hlen2 htb2)));have HNn:=Lib.hid hn;have HD:=Lib.hid (And.intro hlk (And.intro hrl (And.intro hbl hbs)));obtain⟨M,hM⟩:∃ M,N+b.size=M:=⟨_,rfl⟩;rw[hM];have HM:=Lib.hid hM;clear hlen hft hd hfs hff hfl hbl hbs hfx hlen2 hs hn hZ hlk hrl htb htb2 hM;go_enter Tryz.func21,Tryz.ntmps21
  go_wp2_with fail
  refine hc.mono ?_
  rintro q w5 ⟨rfl,h5⟩;clear hc;obtain⟨sv,tv,L,r,hi,h6⟩:=h5.rt_open;have c6:=h6.cell;have hq:=hk p r (by have:=hi.len;omega) (by rw[← hi.dec.o];exact ho) w5 _ h6.f5;clear hk;go_wp2_with fail
  refine hq.mono ?_
  rintro q w7 ⟨v7,rfl,h7⟩;obtain⟨k1,k2⟩:=HD.out.1 r hi.dec;have k3:=HD.out.2.1 r;have k4:=HD.out.2.2;generalize r.feed (bitsIn b.data.toList)=B at *;obtain⟨B1,l2⟩:=B;simp only[] at k1 k2 k3 h7;subst k2;have h8:St w0 w7 (RtOff M t (X.setD A1)*(LAt TREv 2 Ev.cells v7 l*R)):=((St.rt_shut (N:=M) (x:=X.setD A1) (sv:=sv) (tv:=tv) (L:=L) (r:=B1) (R:=LAt TREv 2 Ev.cells v7 l*(LAt TRx 11 Fx.cells ov lo*(LAt TRue 5 Ue.cells ou lu*R))) (h7.eq (show _=blk t (.cells (X.cells e u c p sv tv) TRt (0,0))*(RnB e X.e ov*(RuB u X.u ou*(CRef c L*(RdeAt p B1*(LAt 9 1 encS sv X.sent*(LAt TRtold 2 tolC tv X.told*(LAt TREv 2 Ev.cells v7 l*(LAt TRx 11 Fx.cells ov lo*(LAt TRue 5 Ue.cells ou lu*R))))))))) by ac_rfl)) rfl ⟨hi.clock,k1,by have:=hi.len;have:=HM.out;omega⟩).eq (show _=LAt TRx 11 Fx.cells ov lo*(LAt TRue 5 Ue.cells ou lu*(RtAt M t e u c p ov ou (X.setD A1)*(LAt TREv 2 Ev.cells v7 l*R))) by ac_rfl)).rtoff_shut;have sh:=h7.l_shape;rw[HNn.out] at sh;obtain⟨a,cap,rfl,hcap,hmax⟩:=sh;have HH:=Lib.hid h8.f2;clear h7 h8 hq h5 h6 c6 hi k1 k3 k4 HD;generalize X.setD A1=Y at *;go_wp2;go_loopw [9] (fun s9 wr=>∃ i:Nat,i<=n/\s9=.int .i64 i/\Hid (St w0 wr (LAt TREv 2 Ev.cells (.slice a n cap) l*(RtOff M t ((l.take i).foldl Tt.event Y)*R)))) (fun s9 _=>n - (intOf s9).toNat)
  case atStart=>exact⟨0,by omega,rfl,HH⟩
  case round =>
   clear HH;obtain⟨i,hi,rfl,HI⟩:=hrel;by_cases hlt:i<n
   ·have hil:i<l.length:=by have:=HNn.out;omega
    have hin:(i:Int)<n:=by omega
    obtain⟨y,hy⟩:∃ y,l[i]?=some y:=⟨l[i],List.getElem?_eq_getElem hil⟩;have htk:(l.take (i+1)).foldl Tt.event Y=((l.take i).foldl Tt.event Y).event y:=by
     rw[List.take_add_one,hy,Option.toList_some,events_snoc]
    obtain⟨s1,s2⟩:=fit_events (l.take i) HA.out.1;have s5:=tidy_events (l.take i) HA.out.2.2.2;have s3:(l.take i).length<=1000000:=by rw[List.length_take];omega
    have s4:=HA.out.2.1 y (List.mem_of_getElem? hy);have s6:=HA.out.2.2.1;generalize (l.take i).foldl Tt.event Y=z at *;rcases HI.out.l_cells tyREv.len with ⟨h0,_⟩ | ⟨g,off,cap',hv,_,_,hcell⟩
    ·rw[h0] at hil;exact absurd hil (by simp)
    simp only[Value.slice.injEq] at hv;obtain⟨rfl,hq,rfl⟩:=hv;clear hq;have hce:=hcell i y hy;obtain⟨yk,ys⟩:=y;have d0:wr.cell? ⟨g,off+i*2,none⟩=some (.int .i64 yk):=hce 0 _ rfl;have d1:wr.cell? ⟨g,off+i*2+1,none⟩=some (.string ⟨ys.toArray⟩):=hce 1 _ rfl;have HT:=Lib.hid htk;have hcm:=rt_come M t z ⟨ys.toArray⟩ s1 s5 (by omega) (by show ys.toArray.size<=_;simp at s4 ⊢;omega) w0 wr _ HI.out.f2;clear hce hcell htk hy hil s1 s2 s3 s4 s5 s6;by_cases k0:yk=0
    ·have hz:z.event ⟨yk,ys⟩=z.come ⟨ys.toArray⟩:=by unfold Tt.event;rw[if_pos k0]
     rw[hz] at HT;subst k0;clear hz HI;go_wp2_with fail
     refine hcm.mono ?_
     rintro q w9 ⟨rfl,h9⟩;have HS:=Lib.hid h9.f2;clear hcm d0 d1 h9;go_wp2;go_roundw
     case rel =>
      refine⟨i+1,by omega,by go_num,Lib.hid ?_⟩
      rw[HT.out];exact HS.out
     case measure =>
      simp only[intOf];omega
    ·have hz:z.event ⟨yk,ys⟩=z:=by unfold Tt.event;rw[if_neg k0]
     rw[hz] at HT;have q0:(yk == 0)=false:=by simp[k0]
     clear hz k0 hcm d1;go_wp2;go_roundw
     case rel =>
      refine⟨i+1,by omega,by go_num,Lib.hid ?_⟩
      rw[HT.out];exact HI.out
     case measure =>
      simp only[intOf];omega
   ·obtain rfl:i=n:=by omega
    have hz:=HI.out;rw[List.take_of_length_le (by have:=HNn.out;omega),HZ.out] at hz;clear HI;go_wp2;go_ret
    exact⟨rfl,hz.drop⟩
end Go.Proofs.YtnnahljdhdippaaGreatDoor
