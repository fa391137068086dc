/- Parts of a proof (RefL, RefM, RefN). No condition. -/
import Derived.Test.YtnnahljdhdippaaGreatDoorC34
import Derived.Test.YtnnahljdhdippaaGreatDoorC19
import Derived.Test.YtnnahljdhdippaaGreatDoorC20
import Derived.Test.YtnnahljdhdippaaGreatDoorC10
namespace Go.Proofs.YtnnahljdhdippaaGreatDoor
set_option maxRecDepth 100000
set_option maxHeartbeats 6400000
open Go.RowKit
structure Fx.CanR (y:Fx):Prop where
 can:y.Can
 tm:y.kind=9->y.timer=200\/y.timer=203
theorem link0_keys {x:Tt} {y:Fx} (h:Keys x.c) (hy:y.CanR):Keys (x.link0 y).c:=by
 unfold Tt.link0;by_cases k0:y.kind=0
 ·rw[if_pos k0];exact h
 rw[if_neg k0];by_cases k9:y.kind=9
 ·rw[if_pos k9]
  exact keys_start h ((hy.tm k9).imp id .inr) _ _
 rw[if_neg k9];by_cases k10:y.kind=10
 ·rw[if_pos k10];exact keys_stop h _
 rw[if_neg k10];exact h
theorem links0_keys:∀ (l:List Fx) {x:Tt},Keys x.c->(∀ y ∈ l,y.CanR)->Keys (x.links0 l).c
 | [],_,h,_=>h
 | y :: l,_,h,hc=>links0_keys l (link0_keys h (hc y (List.mem_cons_self ..))) (fun z hz=>hc z (List.mem_cons_of_mem _ hz))
theorem Same.start {l L:Tms} (h:Same l L) (k:Key) (now per:Int):Same (cstart l k now per).1 (rstart L k now per).1:=by
 unfold cstart rstart;cases badStart now per with
 | true=>exact h
 | false=>exact h.put k (now+per)
theorem Same.len {l L:Tms} (h:Same l L):L.length=l.length:=h.perm.length_eq
theorem rt_send (N t eP u cP p:Nat) (ov ou:Value) (x:Tt) (f:Fr) (ok:PutOk f) (hl:x.sent.length<=1000000000000) (w0 w:World) (R:HP) (h:St w0 w (RtAt N t eP u cP p ov ou x*R)) :
  Calls Tryz.prog 97 #[ptr t,.agg f.cells.toArray] w fun r w'=>r=.returned (.tuple #[])/\St w0 w' (RtAt N t eP u cP p ov ou (x.send f)*R):=by
 have hz:=putO_size (net:=false) ok;have h1:=h.alloc (.cells f.cells.toArray TRf);have hp:=rfr_put f false (by have:=(carries_le ok.car).1;unfold maxLen;omega) w0 _ _ h1;rw[putD_ok false ok] at hp;simp only[] at hp;have c1:=h1.cell;unfold Tt.send;generalize putO f false=oc at *;have he:=fun v A h=>rh_encode oc w0 v A h (by omega)
 generalize bstr (encB oc.data.toList)=bs at *;obtain⟨a1,a2,cmd,k,pf,ns,nr,inf⟩:=f;simp only[Fr.cells] at *;clear h ok hz;go_enter Tryz.func97,Tryz.ntmps97
 go_upto_region 1 with fail
 generalize w.alloc _=wa at *;generalize w.heap.size=gf at *;go_upto_region 2 with (go_at_call 48;refine hp.mono ?_;rintro e w5 ⟨rfl,h5⟩)
 clear c1 hp h1;go_wp2_with fail
 refine (he _ _ h5.drop).mono ?_
 rintro e w6 ⟨rfl,h6⟩;clear he h5;obtain⟨sv,tv,L,r,hi,h7⟩:=h6.rt_open;have HI:=Lib.hid hi;obtain⟨n,hn⟩:∃ n,x.sent.length=n:=⟨_,rfl⟩;have c:=h7.cell;have hA:=((h7.alloc (.cells #[.string bs] 9)).drop).eq (show _=LAt 9 1 encS sv x.sent*(blk t (.cells (x.cells eP u cP p sv tv) TRt (0,0))*(RnB eP x.e ov*(RuB u x.u ou*(CRef cP L*(RdeAt p r*(LAt TRtold 2 tolC tv x.told*R)))))) by ac_rfl);clear h6 h7 hi;go_wp2_with (at_builtin;refine wp_append_elem rfl (.tmp 18) (.tmp 20) rfl tyStr hA bs rfl _ rfl (new_cells _ [.string bs] _ _ (by simp)) (by omega) ?ha;(case' ha=>(intro g off cap w8 h8;have c8:=h8.f2.cell;have f8:=h8.f2.free)))
 rw[hn] at h8;have h9:=h8.f2.set 11 (.slice (some ⟨g,off,none⟩) (n+1) cap);go_end0
 refine⟨rfl,St.rt_shut (x:={ x with sent:=x.sent++[bs] }) (sv:=.slice (some ⟨g,off,none⟩) (n+1) cap) (tv:=tv) (L:=L) (r:=r) (h9.eq (by ac_rfl)) rfl ⟨HI.out.clock,HI.out.dec,HI.out.len⟩⟩
theorem rt_links0 (N t e u c p:Nat) (ov ou:Value) (x:Tt) (v:Value) (l:List Fx) (hc:∀ y ∈ l,y.CanR) (hk:Keys x.c) (hl0:l.length<=1000000) (hl:x.sent.length+x.told.length+l.length<=1000000000000) (w0 w:World) (R:HP)
  (h:St w0 w (LAt TRx 11 Fx.cells v l*(RtAt N t e u c p ov ou x*R))) :
  Calls Tryz.prog 46 #[ptr t,v] w fun r w'=>r=.returned (.tuple #[])/\St w0 w' (LAt TRx 11 Fx.cells v l*(RtAt N t e u c p ov ou (x.links0 l)*R)):=by
 obtain⟨n,hn⟩:∃ n,l.length=n:=⟨_,rfl⟩;have sh:=h.l_shape;rw[hn] at sh;obtain⟨a,cap,rfl,hcap,hmax⟩:=sh;have HH:=Lib.hid h;have HC:=Lib.hid hc;have HL:=Lib.hid (And.intro hl hk);have HNn:=Lib.hid hn;have hn9:n<=1000000:=by omega
 clear h hc hl hl0 hk hn;go_enter Tryz.func46,Tryz.ntmps46
 go_wp2;go_loopw [4] (fun s4 wr=>∃ i:Nat,i<=n/\s4=.int .i64 i/\Hid (St w0 wr (LAt TRx 11 Fx.cells (.slice a n cap) l*(RtAt N t e u c p ov ou (x.links0 (l.take i))*R)))) (fun s4 _=>n - (intOf s4).toNat)
 case atStart=>exact⟨0,by omega,rfl,HH⟩
 case round =>
  clear HH;obtain⟨i,hi,rfl,HI⟩:=hrel;by_cases hlt:i<n
  ·have hil:i<l.length:=by have:=HNn.out;omega
   have hin:(i:Int)<n:=by omega
   obtain⟨y,hy⟩:∃ y,l[i]?=some y:=⟨l[i],List.getElem?_eq_getElem hil⟩;have htk:x.links0 (l.take (i+1))=(x.links0 (l.take i)).link0 y:=by
    rw[List.take_add_one,hy,Option.toList_some,links0_snoc]
   have hcan:=HC.out y (List.mem_of_getElem? hy);obtain⟨s1,s2⟩:=links0_len (l.take i) x;have s4:=keys_len (links0_keys (l.take i) HL.out.2 (fun y hy=>HC.out y (List.mem_of_mem_take hy)));have s3:(l.take i).length=i:=by rw[List.length_take];omega
   have hll:=HL.out;have hnn:=HNn.out;generalize x.links0 (l.take i)=z at *;rcases HI.out.l_cells tyRx.len with ⟨h0,_⟩ | ⟨g,off,cap',hv,_,_,hcell⟩
   ·rw[h0] at hil;exact absurd hil (by simp)
   ·simp only[Value.slice.injEq] at hv
    obtain⟨rfl,hq,rfl⟩:=hv;clear hq;have hce:=hcell i y hy;obtain⟨kd,⟨f1,f2,f3,f4,f5,f6,f7,f8⟩,dt,tm⟩:=y;have d0:wr.cell? ⟨g,off+i*11,none⟩=some (.int .i64 kd):=hce 0 _ rfl;have d1:wr.cell? ⟨g,off+i*11+1,none⟩=some (.int .i64 f1):=hce 1 _ rfl;have d2:wr.cell? ⟨g,off+i*11+2,none⟩=some (.int .i64 f2):=hce 2 _ rfl;have d3:wr.cell? ⟨g,off+i*11+3,none⟩=some (.bool f3):=hce 3 _ rfl;have d4:wr.cell? ⟨g,off+i*11+4,none⟩=some (.int .i64 f4):=hce 4 _ rfl;have d5:wr.cell? ⟨g,off+i*11+5,none⟩=some (.bool f5):=hce 5 _ rfl;have d6:wr.cell? ⟨g,off+i*11+6,none⟩=some (.int .i64 f6):=hce 6 _ rfl;have d7:wr.cell? ⟨g,off+i*11+7,none⟩=some (.int .i64 f7):=hce 7 _ rfl;have d8:wr.cell? ⟨g,off+i*11+8,none⟩=some (.string f8):=hce 8 _ rfl;have d9:wr.cell? ⟨g,off+i*11+9,none⟩=some (.string dt):=hce 9 _ rfl;have d10:wr.cell? ⟨g,off+i*11+10,none⟩=some (.int .i64 tm):=hce 10 _ rfl;have HT:=Lib.hid htk;have hd:=HI.out.alloc (.cells #[.int .i64 kd,.int .i64 f1,.int .i64 f2,.bool f3,.int .i64 f4,.bool f5,.int .i64 f6,.int .i64 f7,.string f8,.string dt,.int .i64 tm] TRx);have hsz:=Lib.hid (show z.sent.length<=1000000000000/\z.told.length<=1000000000000/\z.c.length<=90000 by omega);have hcan:=Lib.hid hcan;clear htk hce hcell hy hil s1 s2 s3 s4 hll hnn;go_upto_region 4 with fail
    clear d0 d1 d2 d3 d4 d5 d6 d7 d8 d9 d10;generalize wr.alloc _=w2 at *;generalize wr.heap.size=gy at *;have c2:=hd.cell;by_cases k0:kd=0
    ·have hs:=rt_send N t e u c p ov ou z ⟨f1,f2,f3,f4,f5,f6,f7,f8⟩ (hcan.out.can.put k0) hsz.out.1 w0 w2 _ (hd.eq (show _=RtAt N t e u c p ov ou z*(blk gy _*(LAt TRx 11 Fx.cells (.slice (some ⟨g,off,none⟩) n cap) l*R)) by ac_rfl))
     have hz:z.link0 ⟨kd,⟨f1,f2,f3,f4,f5,f6,f7,f8⟩,dt,tm⟩=z.send ⟨f1,f2,f3,f4,f5,f6,f7,f8⟩:=by unfold Tt.link0;rw[if_pos k0]
     rw[hz] at HT;subst k0;clear HI hz hd;go_wp2_with fail
     refine hs.mono ?_
     rintro q w5 ⟨rfl,h5⟩;have h6:=(h5.eq (show _=blk gy _*(LAt TRx 11 Fx.cells (.slice (some ⟨g,off,none⟩) n cap) l*(RtAt N t e u c p ov ou _*R)) by ac_rfl)).drop;clear c2 hs h5;go_wp2;go_roundw
     case rel =>
      refine⟨i+1,by omega,by go_num,Lib.hid ?_⟩
      rw[HT.out];exact h6
     case measure =>
      simp only[intOf];omega
    have q0:(kd == 0)=false:=by simp[k0]
    obtain⟨sv,tv,L,r,his,h1⟩:=(hd.eq (show _=RtAt N t e u c p ov ou z*(blk gy _*(LAt TRx 11 Fx.cells (.slice (some ⟨g,off,none⟩) n cap) l*R)) by ac_rfl)).rt_open;have HIS:=Lib.hid his;have hL9:L.length<=100000:=by have h8:=his.clock.len;have:=hsz.out.2.2;omega
    clear his;have c1:=h1.cell;by_cases k9:kd=9
    ·have hz:z.link0 ⟨kd,⟨f1,f2,f3,f4,f5,f6,f7,f8⟩,dt,tm⟩=z.start tm:=by unfold Tt.link0;rw[if_neg k0,if_pos k9]
     rw[hz] at HT;have htm:=hcan.out.tm k9;simp only[] at htm;subst k9;clear HI hz k0 q0;by_cases t2:tm=200
     ·have HP:=Lib.hid (show z.start tm={ z with c:=(cstart z.c (0,tm) z.now z.cf.t200).1 } by unfold Tt.start;rw[if_pos t2])
      have q2:(tm == 200)=true:=by simp[t2]
      clear htm t2;have hs:=fun w R h=>r_start c L hL9 0 tm z.now z.cf.t200 w0 w R h
      go_upto_region 12 with fail
      have e1:w2.drew.cell? ⟨t,8,none⟩=some (ptrC c):=(h1.drew.cell 8).trans rfl;have e2:w2.drew.cell? ⟨t,10,none⟩=some (.int .i64 z.now):=(h1.drew.cell 10).trans rfl;have e3:w2.drew.cell? ⟨gy,10,none⟩=some (.int .i64 tm):=(hd.drew.cell 10).trans rfl;have h4:=(h1.eq (show _=CRef c L*(blk t _*(RnB e z.e ov*(RuB u z.u ou*(RdeAt p r*(LAt 9 1 encS sv z.sent*(LAt TRtold 2 tolC tv z.told*(blk gy _*(LAt TRx 11 Fx.cells (.slice (some ⟨g,off,none⟩) n cap) l*R)))))))) by ac_rfl)).drew;refine wp_region_held_drew (S:=fun wx=>wx.cell? ⟨t,8,none⟩=some (ptrC c)/\wx.cell? ⟨t,10,none⟩=some (.int .i64 z.now)/\wx.cell? ⟨gy,10,none⟩=some (.int .i64 tm)) (by kernel_rfl) ⟨e1,e2,e3⟩ (fun hHeld=>?_)
      clear e1 e2 e3 c1 c2 h1 hd;generalize w2.drew=wd at *;refine tk 0 ?_ rfl (fun w hSw=>?_) ?_
      rotate_left 1
      ·try dsimp only at hSw
       go_simp
       try with_reducible rfl
      try simp only[Act.put,sl]
      refine tk 1 ?_ rfl (fun w hSw=>?_) ?_
      rotate_left 1
      ·try dsimp only at hSw
       go_simp
       try with_reducible rfl
      try simp only[Act.put,sl]
      refine tk 2 ?_ rfl (fun w hSw=>?_) ?_
      rotate_left 1
      ·try dsimp only at hSw
       go_simp
       try with_reducible rfl
      try simp only[Act.put,sl]
      refine tk 3 ?_ rfl (fun w hSw=>?_) ?_
      rotate_left 1
      ·try dsimp only at hSw
       go_simp
       try with_reducible rfl
      try simp only[Act.put,sl]
      refine tk 4 ?_ rfl (fun w hSw=>?_) ?_
      rotate_left 1
      ·try dsimp only at hSw
       go_simp
       try with_reducible rfl
      try simp only[Act.put,sl]
      refine tk 5 ?_ rfl (fun w hSw=>?_) ?_
      rotate_left 1
      ·try dsimp only at hSw
       go_simp
       try with_reducible rfl
      try simp only[Act.put,sl]
      refine tk 6 ?_ rfl (fun w hSw=>?_) ?_
      rotate_left 1
      ·try dsimp only at hSw
       go_simp
       try with_reducible rfl
      try simp only[Act.put,sl]
      refine tk 7 ?_ rfl (fun w hSw=>?_) ?_
      rotate_left 1
      ·try dsimp only at hSw
       go_simp
       try with_reducible rfl
      try simp only[Act.put,sl]
      refine tk 8 ?_ rfl (fun w hSw=>?_) ?_
      rotate_left 1
      ·try dsimp only at hSw
       go_simp
       try with_reducible rfl
      try simp only[Act.put,sl]
      refine tk 9 ?_ rfl (fun w hSw=>?_) ?_
      rotate_left 1
      ·try dsimp only at hSw
       go_simp
       try with_reducible rfl
      try simp only[Act.put,sl]
      refine tk 10 ?_ rfl (fun w hSw=>?_) ?_
      rotate_left 1
      ·try dsimp only at hSw
       go_simp
       try with_reducible rfl
      try simp only[Act.put,sl]
      refine rd 11 rfl (fun K hK=>?_)
      go_simp
      go_at_call 98
      refine (hs _ _ h4).mono ?_
      rintro q w5 ⟨rfl,h5⟩;have c5:=h5.eq (show _=blk t _*(blk gy _*(RnB e z.e ov*(RuB u z.u ou*(CRef c _*(RdeAt p r*(LAt 9 1 encS sv z.sent*(LAt TRtold 2 tolC tv z.told*(LAt TRx 11 Fx.cells (.slice (some ⟨g,off,none⟩) n cap) l*R)))))))) by ac_rfl);go_simp
      refine hK.out _ _ ⟨(c5.cell 8).trans rfl,(c5.cell 10).trans rfl,(c5.f2.cell 10).trans rfl⟩ (fun hHeld=>?_)
      clear hK K;try simp only[Act.put,sl]
      refine wpAnyH_done (by kernel_rfl) ?_ _
      have h6:St w0 w5 (RtAt N t e u c p ov ou (z.start tm)*(LAt TRx 11 Fx.cells (.slice (some ⟨g,off,none⟩) n cap) l*R)):=St.rt_shut (x:=z.start tm) (sv:=sv) (tv:=tv) (L:=(rstart L (0,tm) z.now z.cf.t200).1) (r:=r) c5.f2.drop rfl ⟨by rw[HP.out];exact HIS.out.clock.start _ _ _,HIS.out.dec,HIS.out.len⟩;have h7:=h6.f2;clear c5 h5 hs h6 hHeld h4;go_wp2;go_roundw
      case rel =>
       refine⟨i+1,by omega,by go_num,Lib.hid ?_⟩
       rw[HT.out];exact h7
      case measure =>
       simp only[intOf];omega
     ·have q2:(tm == 200)=false:=by simp[t2]
      have HP:=Lib.hid (show z.start tm={ z with c:=(cstart z.c (0,tm) z.now z.cf.t203).1 } by unfold Tt.start;rw[if_neg t2,if_neg (by omega)]);clear htm t2;have hs:=fun w R h=>r_start c L hL9 0 tm z.now z.cf.t203 w0 w R h
      go_upto_region 12 with fail
      have e1:w2.drew.cell? ⟨t,8,none⟩=some (ptrC c):=(h1.drew.cell 8).trans rfl;have e2:w2.drew.cell? ⟨t,10,none⟩=some (.int .i64 z.now):=(h1.drew.cell 10).trans rfl;have e3:w2.drew.cell? ⟨gy,10,none⟩=some (.int .i64 tm):=(hd.drew.cell 10).trans rfl;have h4:=(h1.eq (show _=CRef c L*(blk t _*(RnB e z.e ov*(RuB u z.u ou*(RdeAt p r*(LAt 9 1 encS sv z.sent*(LAt TRtold 2 tolC tv z.told*(blk gy _*(LAt TRx 11 Fx.cells (.slice (some ⟨g,off,none⟩) n cap) l*R)))))))) by ac_rfl)).drew;refine wp_region_held_drew (S:=fun wx=>wx.cell? ⟨t,8,none⟩=some (ptrC c)/\wx.cell? ⟨t,10,none⟩=some (.int .i64 z.now)/\wx.cell? ⟨gy,10,none⟩=some (.int .i64 tm)) (by kernel_rfl) ⟨e1,e2,e3⟩ (fun hHeld=>?_)
      clear e1 e2 e3 c1 c2 h1 hd;generalize w2.drew=wd at *;refine tk 0 ?_ rfl (fun w hSw=>?_) ?_
      rotate_left 1
      ·try dsimp only at hSw
       go_simp
       try with_reducible rfl
      try simp only[Act.put,sl]
      refine tk 1 ?_ rfl (fun w hSw=>?_) ?_
      rotate_left 1
      ·try dsimp only at hSw
       go_simp
       try with_reducible rfl
      try simp only[Act.put,sl]
      refine tk 2 ?_ rfl (fun w hSw=>?_) ?_
      rotate_left 1
      ·try dsimp only at hSw
       go_simp
       try with_reducible rfl
      try simp only[Act.put,sl]
      refine tk 3 ?_ rfl (fun w hSw=>?_) ?_
      rotate_left 1
      ·try dsimp only at hSw
       go_simp
       try with_reducible rfl
      try simp only[Act.put,sl]
      refine tk 4 ?_ rfl (fun w hSw=>?_) ?_
      rotate_left 1
      ·try dsimp only at hSw
       go_simp
       try with_reducible rfl
      try simp only[Act.put,sl]
      refine tk 5 ?_ rfl (fun w hSw=>?_) ?_
      rotate_left 1
      ·try dsimp only at hSw
       go_simp
       try with_reducible rfl
      try simp only[Act.put,sl]
      refine tk 6 ?_ rfl (fun w hSw=>?_) ?_
      rotate_left 1
      ·try dsimp only at hSw
       go_simp
       try with_reducible rfl
      try simp only[Act.put,sl]
      refine tk 7 ?_ rfl (fun w hSw=>?_) ?_
      rotate_left 1
      ·try dsimp only at hSw
       go_simp
       try with_reducible rfl
      try simp only[Act.put,sl]
      refine tk 8 ?_ rfl (fun w hSw=>?_) ?_
      rotate_left 1
      ·try dsimp only at hSw
       go_simp
       try with_reducible rfl
      try simp only[Act.put,sl]
      refine tk 9 ?_ rfl (fun w hSw=>?_) ?_
      rotate_left 1
      ·try dsimp only at hSw
       go_simp
       try with_reducible rfl
      try simp only[Act.put,sl]
      refine tk 10 ?_ rfl (fun w hSw=>?_) ?_
      rotate_left 1
      ·try dsimp only at hSw
       go_simp
       try with_reducible rfl
      try simp only[Act.put,sl]
      refine rd 11 rfl (fun K hK=>?_)
      go_simp
      go_at_call 98
      refine (hs _ _ h4).mono ?_
      rintro q w5 ⟨rfl,h5⟩;have c5:=h5.eq (show _=blk t _*(blk gy _*(RnB e z.e ov*(RuB u z.u ou*(CRef c _*(RdeAt p r*(LAt 9 1 encS sv z.sent*(LAt TRtold 2 tolC tv z.told*(LAt TRx 11 Fx.cells (.slice (some ⟨g,off,none⟩) n cap) l*R)))))))) by ac_rfl);go_simp
      refine hK.out _ _ ⟨(c5.cell 8).trans rfl,(c5.cell 10).trans rfl,(c5.f2.cell 10).trans rfl⟩ (fun hHeld=>?_)
      clear hK K;try simp only[Act.put,sl]
      refine wpAnyH_done (by kernel_rfl) ?_ _
      have h6:St w0 w5 (RtAt N t e u c p ov ou (z.start tm)*(LAt TRx 11 Fx.cells (.slice (some ⟨g,off,none⟩) n cap) l*R)):=St.rt_shut (x:=z.start tm) (sv:=sv) (tv:=tv) (L:=(rstart L (0,tm) z.now z.cf.t203).1) (r:=r) c5.f2.drop rfl ⟨by rw[HP.out];exact HIS.out.clock.start _ _ _,HIS.out.dec,HIS.out.len⟩;have h7:=h6.f2;clear c5 h5 hs h6 hHeld h4;go_wp2;go_roundw
      case rel =>
       refine⟨i+1,by omega,by go_num,Lib.hid ?_⟩
       rw[HT.out];exact h7
      case measure =>
       simp only[intOf];omega
    have q9:(kd == 9)=false:=by simp[k9]
    by_cases k10:kd=10
    ·have hz:z.link0 ⟨kd,⟨f1,f2,f3,f4,f5,f6,f7,f8⟩,dt,tm⟩=z.stop tm:=by unfold Tt.link0;rw[if_neg k0,if_neg k9,if_pos k10]
     rw[hz] at HT;subst k10;clear HI hz k0 q0 k9 q9;have hs:=fun w R h=>r_stop c L hL9 0 tm w0 w R h
     go_upto_region 14 with fail
     have e1:w2.drew.cell? ⟨t,8,none⟩=some (ptrC c):=(h1.drew.cell 8).trans rfl;have e3:w2.drew.cell? ⟨gy,10,none⟩=some (.int .i64 tm):=(hd.drew.cell 10).trans rfl;have h4:=(h1.eq (show _=CRef c L*(blk t _*(RnB e z.e ov*(RuB u z.u ou*(RdeAt p r*(LAt 9 1 encS sv z.sent*(LAt TRtold 2 tolC tv z.told*(blk gy _*(LAt TRx 11 Fx.cells (.slice (some ⟨g,off,none⟩) n cap) l*R)))))))) by ac_rfl)).drew;refine wp_region_held_drew (S:=fun wx=>wx.cell? ⟨t,8,none⟩=some (ptrC c)/\wx.cell? ⟨gy,10,none⟩=some (.int .i64 tm)) (by kernel_rfl) ⟨e1,e3⟩ (fun hHeld=>?_)
     clear e1 e3 c1 c2 h1 hd;generalize w2.drew=wd at *;refine tk 0 ?_ rfl (fun w hSw=>?_) ?_
     rotate_left 1
     ·try dsimp only at hSw
      go_simp
      try with_reducible rfl
     try simp only[Act.put,sl]
     refine tk 1 ?_ rfl (fun w hSw=>?_) ?_
     rotate_left 1
     ·try dsimp only at hSw
      go_simp
      try with_reducible rfl
     try simp only[Act.put,sl]
     refine tk 2 ?_ rfl (fun w hSw=>?_) ?_
     rotate_left 1
     ·try dsimp only at hSw
      go_simp
      try with_reducible rfl
     try simp only[Act.put,sl]
     refine tk 3 ?_ rfl (fun w hSw=>?_) ?_
     rotate_left 1
     ·try dsimp only at hSw
      go_simp
      try with_reducible rfl
     try simp only[Act.put,sl]
     refine tk 4 ?_ rfl (fun w hSw=>?_) ?_
     rotate_left 1
     ·try dsimp only at hSw
      go_simp
      try with_reducible rfl
     try simp only[Act.put,sl]
     refine tk 5 ?_ rfl (fun w hSw=>?_) ?_
     rotate_left 1
     ·try dsimp only at hSw
      go_simp
      try with_reducible rfl
     try simp only[Act.put,sl]
     refine rd 6 rfl (fun K hK=>?_)
     go_simp
     go_at_call 99
     refine (hs _ _ h4).mono ?_
     rintro q w5 ⟨rfl,h5⟩;have c5:=h5.eq (show _=blk t _*(blk gy _*(RnB e z.e ov*(RuB u z.u ou*(CRef c _*(RdeAt p r*(LAt 9 1 encS sv z.sent*(LAt TRtold 2 tolC tv z.told*(LAt TRx 11 Fx.cells (.slice (some ⟨g,off,none⟩) n cap) l*R)))))))) by ac_rfl);go_simp
     refine hK.out _ _ ⟨(c5.cell 8).trans rfl,(c5.f2.cell 10).trans rfl⟩ (fun hHeld=>?_)
     clear hK K;try simp only[Act.put,sl]
     refine wpAnyH_done (by kernel_rfl) ?_ _
     have h6:St w0 w5 (RtAt N t e u c p ov ou (z.stop tm)*(LAt TRx 11 Fx.cells (.slice (some ⟨g,off,none⟩) n cap) l*R)):=St.rt_shut (x:=z.stop tm) (sv:=sv) (tv:=tv) (L:=but L (0,tm)) (r:=r) c5.f2.drop rfl ⟨HIS.out.clock.but _,HIS.out.dec,HIS.out.len⟩;have h7:=h6.f2;clear c5 h5 hs h6 hHeld h4;go_wp2;go_roundw
     case rel =>
      refine⟨i+1,by omega,by go_num,Lib.hid ?_⟩
      rw[HT.out];exact h7
     case measure =>
      simp only[intOf];omega
    have q10:(kd == 10)=false:=by simp[k10]
    have q8:(kd == 8)=false:=by simp;exact hcan.out.can.no8
    have hz:z.link0 ⟨kd,⟨f1,f2,f3,f4,f5,f6,f7,f8⟩,dt,tm⟩=z.tell kd dt:=by unfold Tt.link0;rw[if_neg k0,if_neg k9,if_neg k10]
    rw[hz] at HT;have cy:=hd.cell;have h3:=h1.alloc (.cells #[.int .i64 kd,.string dt] TRtold);have c4:=h3.f2.cell;have HX:=((h3.l_mk (enc:=tolC) (sz:=2) tyRtold.len [(kd,dt)] 1 rfl rfl (by decide)).eq (show _=LAt TRtold 2 tolC tv z.told*(LAt TRtold 2 tolC (.slice (some ⟨w2.heap.size,0,none⟩) 1 1) [(kd,dt)]*(blk t _*(RnB e z.e ov*(RuB u z.u ou*(CRef c L*(RdeAt p r*(LAt 9 1 encS sv z.sent*(blk gy _*(LAt TRx 11 Fx.cells (.slice (some ⟨g,off,none⟩) n cap) l*R))))))))) by ac_rfl)).drew;have hle:(z.told.length+[(kd,dt)].length)*24<=140737488355328:=by have:=hsz.out.2.1;show (z.told.length+1)*24<=_;omega
    have c5:=(hd.alloc (.cells #[.int .i64 kd,.string dt] TRtold)).f2.cell;obtain⟨nt,hnt⟩:∃ nt,z.told.length=nt:=⟨_,rfl⟩;clear HI hz k0 k9 k10 h1 h3;go_upto_region 5 with fail
    clear c2;go_region_law (refine step_append_l rfl (.tmp 24) (.tmp 30) rfl tyRtold HX (by simp) rfl rfl hle ?_;intro g2 off2 cap2 w8 h12;have c8:=h12.f2.cell;have f8:=h12.f2.free)
    all_goals
     rw[hnt] at h12;have h13:=h12.f2.set 12 (.slice (some ⟨g2,off2,none⟩) (nt+1) cap2);generalize w8.setCell _ _=w9 at *;have h14:=(h13.eq (show _=blk gy _*(blk t _*(RnB e z.e ov*(RuB u z.u ou*(CRef c L*(RdeAt p r*(LAt 9 1 encS sv z.sent*(LAt TRtold 2 tolC (.slice (some ⟨g2,off2,none⟩) (nt+1) cap2) (z.told++[(kd,dt)])*(LAt TRx 11 Fx.cells (.slice (some ⟨g,off,none⟩) n cap) l*R)))))))) by ac_rfl)).drop;have h15:St w0 w9 (RtAt N t e u c p ov ou (z.tell kd dt)*(LAt TRx 11 Fx.cells (.slice (some ⟨g,off,none⟩) n cap) l*R)):=St.rt_shut (x:=z.tell kd dt) (sv:=sv) (tv:=.slice (some ⟨g2,off2,none⟩) (nt+1) cap2) (L:=L) (r:=r) h14 rfl ⟨HIS.out.clock,HIS.out.dec,HIS.out.len⟩;have h16:=h15.f2;clear c1 cy c4 c5 c8 f8 HX h12 h13 h14 h15 hnt hd;go_wp2;go_roundw
     case rel =>
      refine⟨i+1,by omega,by go_num,Lib.hid ?_⟩
      rw[HT.out];exact h16
     case measure =>
      simp only[intOf];omega
  ·obtain rfl:i=n:=by omega
   have hz:=HI.out;rw[List.take_of_length_le (by have:=HNn.out;omega)] at hz;clear HI;go_wp2;go_end0
   exact⟨rfl,hz⟩
theorem En.setOut_nil {x:En} (h:x.out=[]):x.setOut []=x:=by
 unfold En.setOut;rw[← h]
theorem canR_of {t:Int} {l:List Fx} (h:Fxs t l) (ht:l≠[]->t<=126):∀ y ∈ l,y.CanR:=fun y hy=>by
 refine⟨can_of h ht y hy,fun k9=>?_⟩
 rcases (h y hy).1.2.1 with e | e | e
 ·exact absurd k9 e.2
 ·exact .inl e
 ·exact .inr e
theorem assign_err (x:En) (t:Int) (h:(x.assign t).2.2≠0):(x.assign t).2.1=[]:=by
 unfold En.assign at h ⊢;split
 ·rfl
 ·rename_i h1
  rw[if_neg h1] at h;split
  ·rfl
  ·rename_i h2
   rw[if_neg h2] at h;exact absurd rfl h
theorem remove_err (x:En) (h:x.remove.2.2≠0):x.remove.2.1=[]:=by
 unfold En.remove at h ⊢;split
 ·rfl
 ·rename_i h1
  rw[if_neg h1] at h;exact absurd rfl h
section
variable {w0 w:World} {R:HP} {N t e u c p:Nat} {ov ou:Value} {x:Tt} {lo:List Fx} {lu:List Ue}
theorem St.rt_e (h:St w0 w (LAt TRx 11 Fx.cells ov lo*(RtAt N t e u c p ov ou x*R))):∃ R',w.cell? ⟨t,6,none⟩=some (ptr e)/\St w0 w (RnAt e (x.e.setOut lo)*R') /\
  ∀ w' y l',St w0 w' (RnAt e (y.setOut l')*R')->w'.cell? ⟨t,6,none⟩=some (ptr e)/\∃ ov',w'.cell? ⟨e,9,none⟩=some ov'/\St w0 w' (LAt TRx 11 Fx.cells ov' l'*(RtAt N t e u c p ov' ou (x.setE y)*R)):=by
 obtain⟨sv,tv,L,r,hi,h1⟩:=h.f2.rt_open;have h2:St w0 w (RnAt e (x.e.setOut lo)*(blk t (.cells (x.cells e u c p sv tv) TRt (0,0))*(RuB u x.u ou*(CRef c L*(RdeAt p r*(LAt 9 1 encS sv x.sent*(LAt TRtold 2 tolC tv x.told*R))))))):=St.n_join (ov:=ov) (h1.eq (by ac_rfl));refine⟨_,h1.cell 6,h2,fun w' y l' h3=>?_⟩
 have c6:=h3.f2.cell 6;obtain⟨fp,uv,ov',h4⟩:=h3.n_open;have h5:St w0 w' (RnB e y ov'*(LAt TRx 11 Fx.cells ov' l'*(blk t (.cells (x.cells e u c p sv tv) TRt (0,0))*(RuB u x.u ou*(CRef c L*(RdeAt p r*(LAt 9 1 encS sv x.sent*(LAt TRtold 2 tolC tv x.told*R)))))))):=St.mk_ex (fp,uv) (h4.eq (show _=blk e (.cells (y.rcells fp uv ov') TRe (0,0))*(FAt TG TR fp y.fl*Row 9 1 uv y.units.length (strs y.units))*(LAt TRx 11 Fx.cells ov' l'*(blk t (.cells (x.cells e u c p sv tv) TRt (0,0))*(RuB u x.u ou*(CRef c L*(RdeAt p r*(LAt 9 1 encS sv x.sent*(LAt TRtold 2 tolC tv x.told*R))))))) by
  show blk e (.cells (y.rcells fp uv ov') TRe (0,0))*(LAt TRx 11 Fx.cells ov' l'*(FAt TG TR fp y.fl*(Row 9 1 uv y.units.length (strs y.units)*_)))=_
  ac_rfl))
 exact⟨c6,ov',h4.cell 9,((St.rt_shut (x:=x.setE y) (ov:=ov') (ou:=ou) (sv:=sv) (tv:=tv) (L:=L) (r:=r) (R:=LAt TRx 11 Fx.cells ov' l'*R) (h5.eq (show _=blk t (.cells (x.cells e u c p sv tv) TRt (0,0))*(RnB e y ov'*(RuB u x.u ou*(CRef c L*(RdeAt p r*(LAt 9 1 encS sv x.sent*(LAt TRtold 2 tolC tv x.told*(LAt TRx 11 Fx.cells ov' l'*R))))))) by ac_rfl)) rfl ⟨hi.clock,hi.dec,hi.len⟩).f2)⟩
theorem St.rt_u (h:St w0 w (LAt TRue 5 Ue.cells ou lu*(RtAt N t e u c p ov ou x*R))):∃ R',w.cell? ⟨t,7,none⟩=some (ptr u)/\St w0 w (RuAt u x.u lu*R') /\
  ∀ w' y l',St w0 w' (RuAt u y l'*R')->w'.cell? ⟨t,7,none⟩=some (ptr u)/\∃ ou',w'.cell? ⟨u,6,none⟩=some ou'/\St w0 w' (LAt TRue 5 Ue.cells ou' l'*(RtAt N t e u c p ov ou' (x.setU y)*R)):=by
 obtain⟨sv,tv,L,r,hi,h1⟩:=h.f2.rt_open;have h2:St w0 w (RuAt u x.u lu*(blk t (.cells (x.cells e u c p sv tv) TRt (0,0))*(RnB e x.e ov*(CRef c L*(RdeAt p r*(LAt 9 1 encS sv x.sent*(LAt TRtold 2 tolC tv x.told*R))))))):=St.u_join (ov:=ou) (h1.eq (by ac_rfl));refine⟨_,h1.cell 7,h2,fun w' y l' h3=>?_⟩
 have c7:=h3.f2.cell 7;obtain⟨q,ou',hp,h4⟩:=h3.ru_open;have h5:St w0 w' (RuB u y ou'*(LAt TRue 5 Ue.cells ou' l'*(blk t (.cells (x.cells e u c p sv tv) TRt (0,0))*(RnB e x.e ov*(CRef c L*(RdeAt p r*(LAt 9 1 encS sv x.sent*(LAt TRtold 2 tolC tv x.told*R)))))))):=St.mk_ex q ((h4.inn hp).eq (by ac_rfl));exact⟨c7,ou',h4.cell 6,((St.rt_shut (x:=x.setU y) (ov:=ov) (ou:=ou') (sv:=sv) (tv:=tv) (L:=L) (r:=r) (R:=LAt TRue 5 Ue.cells ou' l'*R) (h5.eq (show _=blk t (.cells (x.cells e u c p sv tv) TRt (0,0))*(RnB e x.e ov*(RuB u y ou'*(CRef c L*(RdeAt p r*(LAt 9 1 encS sv x.sent*(LAt TRtold 2 tolC tv x.told*(LAt TRue 5 Ue.cells ou' l'*R))))))) by ac_rfl)) rfl ⟨hi.clock,hi.dec,hi.len⟩).f2)⟩
end
theorem rt_users (N t e u c p:Nat) (ov ou:Value) (x:Tt) (v:Value) (l:List Ue) (lo:List Fx) (hu:Uxs l) (hfit:x.Fit) (hl0:l.length<=1000) (hl:x.len+100000*l.length<=900000000000) (w0 w:World) (R:HP)
  (h:St w0 w (LAt TRue 5 Ue.cells v l*(LAt TRx 11 Fx.cells ov lo*(RtAt N t e u c p ov ou x*R)))) :
  Calls Tryz.prog 101 #[ptr t,v] w fun r w'=>∃ ov' lo',r=.returned (.tuple #[])/\St w0 w' (LAt TRue 5 Ue.cells v l*(LAt TRx 11 Fx.cells ov' lo'*(RtAt N t e u c p ov' ou (x.users l)*R))):=by
 obtain⟨n,hn⟩:∃ n,l.length=n:=⟨_,rfl⟩;have sh:=h.l_shape;rw[hn] at sh;obtain⟨a,cap,rfl,hcap,hmax⟩:=sh;have HH:=Lib.hid h;have HU:=Lib.hid hu;have HL:=Lib.hid hl;have HI0:=Lib.hid hfit;have HNn:=Lib.hid hn;have hn9:n<=1000:=by omega
 clear h hu hl hl0 hfit hn;go_enter Tryz.func101,Tryz.ntmps101
 go_wp2;go_loopw [4] (fun s4 wr=>∃ (i:Nat) (ov1:Value) (lo1:List Fx),i<=n/\s4=.int .i64 i/\Hid (St w0 wr (LAt TRue 5 Ue.cells (.slice a n cap) l*(LAt TRx 11 Fx.cells ov1 lo1*(RtAt N t e u c p ov1 ou (x.users (l.take i))*R))))) (fun s4 _=>n - (intOf s4).toNat)
 case atStart=>exact⟨0,ov,lo,by omega,rfl,HH⟩
 case round =>
  clear HH;obtain⟨i,ov1,lo1,hi,rfl,HI⟩:=hrel;by_cases hlt:i<n
  ·have hil:i<l.length:=by have:=HNn.out;omega
   have hin:(i:Int)<n:=by omega
   obtain⟨y,hy⟩:∃ y,l[i]?=some y:=⟨l[i],List.getElem?_eq_getElem hil⟩;have htk:x.users (l.take (i+1))=(x.users (l.take i)).user1 y:=by
    rw[List.take_add_one,hy,Option.toList_some,users_snoc]
   have hcan:=HU.out y (List.mem_of_getElem? hy);obtain⟨s1,s2⟩:=fit_users (l.take i) HI0.out;have s3:(l.take i).length=i:=by rw[List.length_take];omega
   have hll:=HL.out;have hnn:=HNn.out;generalize x.users (l.take i)=z at *;have hsz:=Lib.hid (show z.Fit/\z.sent.length<=900000000000/\z.sent.length+z.told.length<=900000000000 by unfold Tt.len at s2 hll;exact⟨s1,by omega,by omega⟩);rcases HI.out.l_cells tyRue.len with ⟨h0,_⟩ | ⟨g,off,cap',hv,_,_,hcell⟩
   ·rw[h0] at hil;exact absurd hil (by simp)
   ·simp only[Value.slice.injEq] at hv
    obtain⟨rfl,hq,rfl⟩:=hv;clear hq;have hce:=hcell i y hy;obtain⟨kd,⟨f1,f2,f3⟩,tm⟩:=y;have d0:wr.cell? ⟨g,off+i*5,none⟩=some (.int .i64 kd):=hce 0 _ rfl;have d1:wr.cell? ⟨g,off+i*5+1,none⟩=some (.int .i64 f1):=hce 1 _ rfl;have d2:wr.cell? ⟨g,off+i*5+2,none⟩=some (.int .i64 f2):=hce 2 _ rfl;have d3:wr.cell? ⟨g,off+i*5+3,none⟩=some (.int .i64 f3):=hce 3 _ rfl;have d4:wr.cell? ⟨g,off+i*5+4,none⟩=some (.int .i64 tm):=hce 4 _ rfl;have HT:=Lib.hid htk;have hd:=HI.out.alloc (.cells #[.int .i64 kd,.int .i64 f1,.int .i64 f2,.int .i64 f3,.int .i64 tm] TRue);have hcan:=Lib.hid hcan;clear htk hce hcell hy hil s1 s2 s3 hll hnn;go_upto_region 4 with fail
    clear d0 d1 d2 d3 d4;generalize wr.alloc _=w2 at *;generalize wr.heap.size=gy at *;have c2:=hd.cell;by_cases k0:kd=0
    ·have hb:=hcan.out.1 k0
     have hm:=rm_frame ⟨f1,f2,f3⟩ w0 w2 _ hd;rw[hb] at hm;have hz:z.user1 ⟨kd,⟨f1,f2,f3⟩,tm⟩=z.send (Tm.fr ⟨f1,f2,f3⟩):=by unfold Tt.user1;rw[if_pos k0]
     rw[hz] at HT;have hput:=Lib.hid (tm_fr hb).1;generalize Tm.fr ⟨f1,f2,f3⟩=fr at *;obtain⟨a1,a2,cmd,k,pf,ns,nr,inf⟩:=fr;simp only[Fr.cells,Tm.cells] at *;subst k0;clear HI hz hb;go_upto_region 10 with (go_at_call 47;refine hm.mono ?_;rintro q w5 ⟨rfl,h5⟩)
     clear hm c2;have h6:=h5.alloc (.cells #[.int .i64 a1,.int .i64 a2,.bool cmd,.int .i64 k,.bool pf,.int .i64 ns,.int .i64 nr,.string inf] TRf);generalize w5.alloc _=w6 at *;generalize w5.heap.size=gf at *;have c6:=h6.cell;have hs:=rt_send N t e u c p ov1 ou z ⟨a1,a2,cmd,k,pf,ns,nr,inf⟩ hput.out (by have:=hsz.out.2.1;omega) w0 w6 _ (h6.eq (show _=RtAt N t e u c p ov1 ou z*(blk gf _*(blk gy _*(LAt TRue 5 Ue.cells (.slice (some ⟨g,off,none⟩) n cap) l*(LAt TRx 11 Fx.cells ov1 lo1*R)))) by ac_rfl));simp only[Fr.cells] at hs;clear h5 hd;go_wp2_with fail
     refine hs.mono ?_
     rintro q w7 ⟨rfl,h7⟩;have h8:=(h7.eq (show _=blk gf _*(blk gy _*(LAt TRue 5 Ue.cells (.slice (some ⟨g,off,none⟩) n cap) l*(LAt TRx 11 Fx.cells ov1 lo1*(RtAt N t e u c p ov1 ou _*R)))) by ac_rfl)).drop.drop;clear c6 hs h6 h7;go_wp2;go_roundw
     case rel =>
      refine⟨i+1,ov1,lo1,by omega,by go_num,Lib.hid ?_⟩
      rw[HT.out];exact h8
     case measure =>
      simp only[intOf];omega
    have q0:(kd == 0)=false:=by simp[k0]
    by_cases k4:kd=4
    ·obtain⟨sv,tv,L,r,his,h1⟩:=(hd.eq (show _=RtAt N t e u c p ov1 ou z*(blk gy _*(LAt TRue 5 Ue.cells (.slice (some ⟨g,off,none⟩) n cap) l*(LAt TRx 11 Fx.cells ov1 lo1*R))) by ac_rfl)).rt_open
     have HIS:=Lib.hid his;have hL9:L.length<=100000:=by have h8:=his.clock.len;have:=keys_len hsz.out.1.k;omega
     clear his;have hz:z.user1 ⟨kd,⟨f1,f2,f3⟩,tm⟩=z.start 202:=by unfold Tt.user1;rw[if_neg k0,if_pos k4]
     rw[hz] at HT;have HP:=Lib.hid (show z.start 202={ z with c:=(cstart z.c (0,202) z.now z.cf.t202).1 } by unfold Tt.start;rw[if_neg (by decide),if_pos rfl]);subst k4;clear HI hz k0 q0;have hs:=fun w R h=>r_start c L hL9 0 202 z.now z.cf.t202 w0 w R h
     go_upto_region 12 with fail
     have e1:w2.drew.cell? ⟨t,8,none⟩=some (ptrC c):=(h1.drew.cell 8).trans rfl;have e2:w2.drew.cell? ⟨t,10,none⟩=some (.int .i64 z.now):=(h1.drew.cell 10).trans rfl;have e3:w2.drew.cell? ⟨t,4,none⟩=some (.int .i64 z.cf.t202):=(h1.drew.cell 4).trans rfl;have h4:=(h1.eq (show _=CRef c L*(blk t _*(RnB e z.e ov1*(RuB u z.u ou*(RdeAt p r*(LAt 9 1 encS sv z.sent*(LAt TRtold 2 tolC tv z.told*(blk gy _*(LAt TRue 5 Ue.cells (.slice (some ⟨g,off,none⟩) n cap) l*(LAt TRx 11 Fx.cells ov1 lo1*R))))))))) by ac_rfl)).drew;refine wp_region_held_drew (S:=fun wx=>wx.cell? ⟨t,8,none⟩=some (ptrC c)/\wx.cell? ⟨t,10,none⟩=some (.int .i64 z.now)/\wx.cell? ⟨t,4,none⟩=some (.int .i64 z.cf.t202)) (by kernel_rfl) ⟨e1,e2,e3⟩ (fun hHeld=>?_)
     clear e1 e2 e3 c2 h1 hd;generalize w2.drew=wd at *;refine tk 0 ?_ rfl (fun w hSw=>?_) ?_
     rotate_left 1
     ·try dsimp only at hSw
      go_simp
      try with_reducible rfl
     try simp only[Act.put,sl]
     refine tk 1 ?_ rfl (fun w hSw=>?_) ?_
     rotate_left 1
     ·try dsimp only at hSw
      go_simp
      try with_reducible rfl
     try simp only[Act.put,sl]
     refine tk 2 ?_ rfl (fun w hSw=>?_) ?_
     rotate_left 1
     ·try dsimp only at hSw
      go_simp
      try with_reducible rfl
     try simp only[Act.put,sl]
     refine tk 3 ?_ rfl (fun w hSw=>?_) ?_
     rotate_left 1
     ·try dsimp only at hSw
      go_simp
      try with_reducible rfl
     try simp only[Act.put,sl]
     refine tk 4 ?_ rfl (fun w hSw=>?_) ?_
     rotate_left 1
     ·try dsimp only at hSw
      go_simp
      try with_reducible rfl
     try simp only[Act.put,sl]
     refine tk 5 ?_ rfl (fun w hSw=>?_) ?_
     rotate_left 1
     ·try dsimp only at hSw
      go_simp
      try with_reducible rfl
     try simp only[Act.put,sl]
     refine tk 6 ?_ rfl (fun w hSw=>?_) ?_
     rotate_left 1
     ·try dsimp only at hSw
      go_simp
      try with_reducible rfl
     try simp only[Act.put,sl]
     refine tk 7 ?_ rfl (fun w hSw=>?_) ?_
     rotate_left 1
     ·try dsimp only at hSw
      go_simp
      try with_reducible rfl
     try simp only[Act.put,sl]
     refine tk 8 ?_ rfl (fun w hSw=>?_) ?_
     rotate_left 1
     ·try dsimp only at hSw
      go_simp
      try with_reducible rfl
     try simp only[Act.put,sl]
     refine tk 9 ?_ rfl (fun w hSw=>?_) ?_
     rotate_left 1
     ·try dsimp only at hSw
      go_simp
      try with_reducible rfl
     try simp only[Act.put,sl]
     refine tk 10 ?_ rfl (fun w hSw=>?_) ?_
     rotate_left 1
     ·try dsimp only at hSw
      go_simp
      try with_reducible rfl
     try simp only[Act.put,sl]
     refine tk 11 ?_ rfl (fun w hSw=>?_) ?_
     rotate_left 1
     ·try dsimp only at hSw
      go_simp
      try with_reducible rfl
     try simp only[Act.put,sl]
     refine tk 12 ?_ rfl (fun w hSw=>?_) ?_
     rotate_left 1
     ·try dsimp only at hSw
      go_simp
      try with_reducible rfl
     try simp only[Act.put,sl]
     refine rd 13 rfl (fun K hK=>?_)
     go_simp
     go_at_call 98
     refine (hs _ _ h4).mono ?_
     rintro q w5 ⟨rfl,h5⟩;have c5:=h5.eq (show _=blk t _*(blk gy _*(RnB e z.e ov1*(RuB u z.u ou*(CRef c _*(RdeAt p r*(LAt 9 1 encS sv z.sent*(LAt TRtold 2 tolC tv z.told*(LAt TRue 5 Ue.cells (.slice (some ⟨g,off,none⟩) n cap) l*(LAt TRx 11 Fx.cells ov1 lo1*R))))))))) by ac_rfl);go_simp
     refine hK.out _ _ ⟨(c5.cell 8).trans rfl,(c5.cell 10).trans rfl,(c5.cell 4).trans rfl⟩ (fun hHeld=>?_)
     clear hK K;try simp only[Act.put,sl]
     refine wpAnyH_done (by kernel_rfl) ?_ _
     have h6:St w0 w5 (RtAt N t e u c p ov1 ou (z.start 202)*(LAt TRue 5 Ue.cells (.slice (some ⟨g,off,none⟩) n cap) l*(LAt TRx 11 Fx.cells ov1 lo1*R))):=St.rt_shut (x:=z.start 202) (sv:=sv) (tv:=tv) (L:=(rstart L (0,202) z.now z.cf.t202).1) (r:=r) c5.f2.drop rfl ⟨by rw[HP.out];exact HIS.out.clock.start _ _ _,HIS.out.dec,HIS.out.len⟩;have h7:=h6.eq (show _=LAt TRue 5 Ue.cells (.slice (some ⟨g,off,none⟩) n cap) l*(LAt TRx 11 Fx.cells ov1 lo1*(RtAt N t e u c p ov1 ou _*R)) by ac_rfl);clear c5 h5 hs h6 hHeld h4;go_wp2;go_roundw
     case rel =>
      refine⟨i+1,ov1,lo1,by omega,by go_num,Lib.hid ?_⟩
      rw[HT.out];exact h7
     case measure =>
      simp only[intOf];omega
    have q4:(kd == 4)=false:=by simp[k4]
    by_cases k5:kd=5
    ·obtain⟨sv,tv,L,r,his,h1⟩:=(hd.eq (show _=RtAt N t e u c p ov1 ou z*(blk gy _*(LAt TRue 5 Ue.cells (.slice (some ⟨g,off,none⟩) n cap) l*(LAt TRx 11 Fx.cells ov1 lo1*R))) by ac_rfl)).rt_open
     have HIS:=Lib.hid his;have hL9:L.length<=100000:=by have h8:=his.clock.len;have:=keys_len hsz.out.1.k;omega
     clear his;have hz:z.user1 ⟨kd,⟨f1,f2,f3⟩,tm⟩=z.stop 202:=by unfold Tt.user1;rw[if_neg k0,if_neg k4,if_pos k5]
     rw[hz] at HT;subst k5;clear HI hz k0 q0 k4 q4;have hs:=r_stop c L hL9 0 202 w0 w2 _ (h1.eq (show _=CRef c L*(blk t _*(RnB e z.e ov1*(RuB u z.u ou*(RdeAt p r*(LAt 9 1 encS sv z.sent*(LAt TRtold 2 tolC tv z.told*(blk gy _*(LAt TRue 5 Ue.cells (.slice (some ⟨g,off,none⟩) n cap) l*(LAt TRx 11 Fx.cells ov1 lo1*R))))))))) by ac_rfl));have c3:=h1.cell;go_wp2_with fail
     refine hs.mono ?_
     rintro q w5 ⟨rfl,h5⟩;have c5:=h5.eq (show _=blk t _*(blk gy _*(RnB e z.e ov1*(RuB u z.u ou*(CRef c _*(RdeAt p r*(LAt 9 1 encS sv z.sent*(LAt TRtold 2 tolC tv z.told*(LAt TRue 5 Ue.cells (.slice (some ⟨g,off,none⟩) n cap) l*(LAt TRx 11 Fx.cells ov1 lo1*R))))))))) by ac_rfl);have h6:St w0 w5 (RtAt N t e u c p ov1 ou (z.stop 202)*(LAt TRue 5 Ue.cells (.slice (some ⟨g,off,none⟩) n cap) l*(LAt TRx 11 Fx.cells ov1 lo1*R))):=St.rt_shut (x:=z.stop 202) (sv:=sv) (tv:=tv) (L:=but L (0,202)) (r:=r) c5.f2.drop rfl ⟨HIS.out.clock.but _,HIS.out.dec,HIS.out.len⟩;have h7:=h6.eq (show _=LAt TRue 5 Ue.cells (.slice (some ⟨g,off,none⟩) n cap) l*(LAt TRx 11 Fx.cells ov1 lo1*(RtAt N t e u c p ov1 ou _*R)) by ac_rfl);clear c2 c3 c5 h5 hs h6 h1 hd;go_wp2;go_roundw
     case rel =>
      refine⟨i+1,ov1,lo1,by omega,by go_num,Lib.hid ?_⟩
      rw[HT.out];exact h7
     case measure =>
      simp only[intOf];omega
    have q5:(kd == 5)=false:=by simp[k5]
    have fe:=hsz.out.1.e;have hso:(z.e.setOut lo1).setOut []=z.e:=En.setOut_nil fe.out;by_cases k1:kd=1
    ·have hz:z.user1 ⟨kd,⟨f1,f2,f3⟩,tm⟩=(z.setE (z.e.assign tm).1).links0 (z.e.assign tm).2.1:=by unfold Tt.user1;rw[if_neg k0,if_neg k4,if_neg k5,if_pos k1]
     rw[hz] at HT;obtain⟨fa,fb,fc⟩:=fit_assign fe tm;have ln:=assign_len z.e (out0 fe) fe.ok.b.un tm;have er:=assign_err z.e tm;have HA:=Lib.hid (And.intro (canR_of fb fc) (And.intro ln er));obtain⟨R',e6,hE,back⟩:=(hd.eq (show _=LAt TRx 11 Fx.cells ov1 lo1*(RtAt N t e u c p ov1 ou z*(blk gy _*(LAt TRue 5 Ue.cells (.slice (some ⟨g,off,none⟩) n cap) l*R))) by ac_rfl)).drew.rt_e;have ha:=n_assign e (z.e.setOut lo1) tm fe.ok.b.fl (by have:=fe.ok.b.un;show z.e.units.length<=1000;omega) w0 w2.drew _ hE;rw[hso] at ha;have e2:w2.drew.cell? ⟨gy,4,none⟩=some (.int .i64 tm):=(hd.drew.cell 4).trans rfl;generalize z.e.assign tm=A at *;obtain⟨A1,A2,A3⟩:=A;simp only[] at ha HA HT;subst k1;clear HI hz k0 q0 k4 q4 k5 q5 fe fa fb fc ln er hE hso;go_upto_region 16 with fail
     refine wp_region_held_drew (S:=fun wx=>wx.cell? ⟨t,6,none⟩=some (ptr e)/\wx.cell? ⟨gy,4,none⟩=some (.int .i64 tm)) (by kernel_rfl) ⟨e6,e2⟩ (fun hHeld=>?_)
     clear e6 e2 c2 hd;generalize w2.drew=wd at *;refine tk 0 ?_ rfl (fun w hSw=>?_) ?_
     rotate_left 1
     ·try dsimp only at hSw
      go_simp
      try with_reducible rfl
     try simp only[Act.put,sl]
     refine tk 1 ?_ rfl (fun w hSw=>?_) ?_
     rotate_left 1
     ·try dsimp only at hSw
      go_simp
      try with_reducible rfl
     try simp only[Act.put,sl]
     refine tk 2 ?_ rfl (fun w hSw=>?_) ?_
     rotate_left 1
     ·try dsimp only at hSw
      go_simp
      try with_reducible rfl
     try simp only[Act.put,sl]
     refine tk 3 ?_ rfl (fun w hSw=>?_) ?_
     rotate_left 1
     ·try dsimp only at hSw
      go_simp
      try with_reducible rfl
     try simp only[Act.put,sl]
     refine tk 4 ?_ rfl (fun w hSw=>?_) ?_
     rotate_left 1
     ·try dsimp only at hSw
      go_simp
      try with_reducible rfl
     try simp only[Act.put,sl]
     refine tk 5 ?_ rfl (fun w hSw=>?_) ?_
     rotate_left 1
     ·try dsimp only at hSw
      go_simp
      try with_reducible rfl
     try simp only[Act.put,sl]
     refine rd 6 rfl (fun K hK=>?_)
     go_simp
     go_at_call 177
     refine ha.mono ?_
     rintro q w5 ⟨rfl,h5⟩;obtain⟨e6,ov2,e9,h6⟩:=back _ _ _ h5;clear h5 ha back;go_simp
     refine hK.out _ _ ⟨e6,(h6.f3.cell 4).trans rfl⟩ (fun hHeld=>?_)
     clear hK K;try simp only[Act.put,sl]
     refine tk 7 ?_ rfl (fun w hSw=>?_) ?_
     rotate_left 1
     ·try dsimp only at hSw
      go_simp
      try with_reducible rfl
     try simp only[Act.put,sl]
     refine wpAnyH_done (by kernel_rfl) ?_ _
     clear hHeld;by_cases a0:A3=0
     ·have b0:(A3 == 0)=true:=by simp[a0]
      have hs:=rt_links0 N t e u c p ov2 ou (z.setE A1) ov2 A2 HA.out.1 hsz.out.1.k (by have:=HA.out.2.1;omega) (by have h1:=HA.out.2.1;have h2:=hsz.out.2.2;show z.sent.length+z.told.length+A2.length<=_;omega) w0 w5 _ h6;clear a0 h6;go_wp2_with fail
      refine hs.mono ?_
      rintro q w7 ⟨rfl,h7⟩;have h8:=(h7.eq (show _=blk gy _*(LAt TRue 5 Ue.cells (.slice (some ⟨g,off,none⟩) n cap) l*(LAt TRx 11 Fx.cells ov2 A2*(RtAt N t e u c p ov2 ou _*R))) by ac_rfl)).drop;clear hs h7 e6 e9;go_wp2;go_roundw
      case rel =>
       refine⟨i+1,ov2,A2,by omega,by go_num,Lib.hid ?_⟩
       rw[HT.out];exact h8
      case measure =>
       simp only[intOf];omega
     ·have b0:(A3 == 0)=false:=by simp[a0]
      have hn2:=HA.out.2.2 a0;subst hn2;clear a0;have h8:=(h6.eq (show _=blk gy _*(LAt TRue 5 Ue.cells (.slice (some ⟨g,off,none⟩) n cap) l*(LAt TRx 11 Fx.cells ov2 []*(RtAt N t e u c p ov2 ou _*R))) by ac_rfl)).drop;clear h6 e6 e9;go_wp2;go_roundw
      case rel =>
       refine⟨i+1,ov2,[],by omega,by go_num,Lib.hid ?_⟩
       rw[HT.out];exact h8
      case measure =>
       simp only[intOf];omega
    have q1:(kd == 1)=false:=by simp[k1]
    have hz:z.user1 ⟨kd,⟨f1,f2,f3⟩,tm⟩=(z.setE z.e.remove.1).links0 z.e.remove.2.1:=by unfold Tt.user1;rw[if_neg k0,if_neg k4,if_neg k5,if_neg k1]
    rw[hz] at HT;obtain⟨fa,fb⟩:=fit_remove fe;have ln:=remove_len z.e (out0 fe);have er:=remove_err z.e;have HA:=Lib.hid (And.intro (canR_of fb (fun _=>fe.wd.t)) (And.intro ln er));obtain⟨R',e6,hE,back⟩:=(hd.eq (show _=LAt TRx 11 Fx.cells ov1 lo1*(RtAt N t e u c p ov1 ou z*(blk gy _*(LAt TRue 5 Ue.cells (.slice (some ⟨g,off,none⟩) n cap) l*R))) by ac_rfl)).rt_e;have ha:=n_remove e (z.e.setOut lo1) fe.ok.b.fl w0 w2 _ hE;rw[hso] at ha;generalize z.e.remove=A at *;obtain⟨A1,A2,A3⟩:=A;simp only[] at ha HA HT;clear HI hz k0 k4 k5 k1 fe fa fb ln er hE hso hd;go_wp2_with fail
    refine ha.mono ?_
    rintro q w5 ⟨rfl,h5⟩;clear e6;obtain⟨e6,ov2,e9,h6⟩:=back _ _ _ h5;clear h5 ha back c2;by_cases a0:A3=0
    ·have b0:(A3 == 0)=true:=by simp[a0]
     have hs:=rt_links0 N t e u c p ov2 ou (z.setE A1) ov2 A2 HA.out.1 hsz.out.1.k (by have:=HA.out.2.1;omega) (by have h1:=HA.out.2.1;have h2:=hsz.out.2.2;show z.sent.length+z.told.length+A2.length<=_;omega) w0 w5 _ h6;clear a0 h6;go_wp2_with fail
     refine hs.mono ?_
     rintro q w7 ⟨rfl,h7⟩;have h8:=(h7.eq (show _=blk gy _*(LAt TRue 5 Ue.cells (.slice (some ⟨g,off,none⟩) n cap) l*(LAt TRx 11 Fx.cells ov2 A2*(RtAt N t e u c p ov2 ou _*R))) by ac_rfl)).drop;clear hs h7 e6 e9;go_wp2;go_roundw
     case rel =>
      refine⟨i+1,ov2,A2,by omega,by go_num,Lib.hid ?_⟩
      rw[HT.out];exact h8
     case measure =>
      simp only[intOf];omega
    ·have b0:(A3 == 0)=false:=by simp[a0]
     have hn2:=HA.out.2.2 a0;subst hn2;clear a0;have h8:=(h6.eq (show _=blk gy _*(LAt TRue 5 Ue.cells (.slice (some ⟨g,off,none⟩) n cap) l*(LAt TRx 11 Fx.cells ov2 []*(RtAt N t e u c p ov2 ou _*R))) by ac_rfl)).drop;clear h6 e6 e9;go_wp2;go_roundw
     case rel =>
      refine⟨i+1,ov2,[],by omega,by go_num,Lib.hid ?_⟩
      rw[HT.out];exact h8
     case measure =>
      simp only[intOf];omega
  ·obtain rfl:i=n:=by omega
   have hz:=HI.out;rw[List.take_of_length_le (by have:=HNn.out;omega)] at hz;clear HI;go_wp2;go_end0
   exact⟨ov1,lo1,rfl,hz⟩
end Go.Proofs.YtnnahljdhdippaaGreatDoor
