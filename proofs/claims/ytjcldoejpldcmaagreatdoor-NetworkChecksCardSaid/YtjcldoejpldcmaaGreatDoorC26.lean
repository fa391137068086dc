/- Parts of a proof (NetK, NetL). No condition. -/
import Derived.Test.YtjcldoejpldcmaaGreatDoorC25
import Derived.Test.YtjcldoejpldcmaaGreatDoorC23
import Derived.Test.YtjcldoejpldcmaaGreatDoorC8
import Derived.Test.YtjcldoejpldcmaaGreatDoorC17
namespace Go.Proofs.YtjcldoejpldcmaaGreatDoor
set_option maxRecDepth 100000
set_option maxHeartbeats 6400000
open Go.RowKit
theorem novers_snoc (x:Nw) (l:List Key) (y:Key):(l++[y]).foldl Nw.over x=(l.foldl Nw.over x).over y:=by rw[List.foldl_append];rfl
theorem St.nw_clk {w0 w:World} {R:HP} {t:Nat} {q:Np} {lk:List (Int × Nat)} {x:Nw} (h:St w0 w (NwAt t q lk x*R)):∃ Z,St w0 w (CAt q.c x.c*(Z*R))/\(∀ w' A,St w0 w' (Z*A)->w'.cell? ⟨t,8,none⟩=some (ptrC q.c))/\∀ w' c' A,St w0 w' (CAt q.c c'*(Z*A))->St w0 w' (NwAt t q lk (x.setC c')*A):=by
 obtain⟨sv,tv,L,hL,h1⟩:=h.nw_open;refine⟨blk t (.cells (x.cells q sv tv) TNt (0,0))*(SAt q.s x.s*(XAt q.m (muxOf x.l)*(MAt kInt ptr q.b (lkOf L)*(ensAt L*(DeAt q.p x.d*(LAt 9 1 encS sv x.sent*LAt TNold 3 tolN tv x.told)))))),h1.eq (by unfold NwIn;ac_rfl),fun w' A h'=>((h'.eq (star_assoc _ _ _)).cell 8).trans rfl,fun w' c' A h'=>?_⟩
 exact St.nw_shut (x:=x.setC c') (q:=q) (sv:=sv) (tv:=tv) hL (h'.eq (show _=blk t (.cells (x.cells q sv tv) TNt (0,0))*(SAt q.s x.s*(XAt q.m (muxOf x.l)*(MAt kInt ptr q.b (lkOf L)*(ensAt L*(CAt q.c c'*(DeAt q.p x.d*(LAt 9 1 encS sv x.sent*(LAt TNold 3 tolN tv x.told*A)))))))) by ac_rfl))
theorem nw_tick (t:Nat) (x:Nw) (now:Int) (hfit:x.Fit) (w0 w:World) (R:HP) (hN:∀ w',St w0 w' R->NamesAt w') (hF:∀ w',St w0 w' R->FirstAt w') (hL:∀ w',St w0 w' R->LinkAt w') (h:St w0 w (NwOff t x*R)) :
  Calls Tryz.prog 18 #[ptr t,.int .i64 now] w fun r w'=>∃ sv tv,r=.returned (.tuple #[.agg #[sv,tv],.int .i64 (x.tick now).2])/\St w0 w' (LAt 9 1 encS sv (x.tick now).1.sent*(LAt TNold 3 tolN tv (x.tick now).1.told*(NwOff t (x.tick now).1*R))):=by
 have h1:=h.alloc (.cells #[.slice none 0 0,.slice none 0 0] TNRes);unfold Nw.tick;by_cases hb:badNow now=true
 ·rw[if_pos hb]
  have hc:=nw_begin_bad t x now hb w0 _ _ h1.f2;go_enter Tryz.func18,Tryz.ntmps18
  go_upto_region 1 with fail
  generalize w.alloc _=wa at *;generalize w.heap.size=ga at *;go_wp2_with fail
  refine hc.mono ?_
  rintro r w5 ⟨rfl,h5⟩;clear hc h1;have h6:=h5.f2;have c6:=h6.cell;have f6:=h6.free;have h9:=(h6.set 0 (.slice none 0 0)).set 1 (.slice none 0 0);clear h5 h6;go_wp2;have c9:=h9.cell;refine bodyPost_ret (v:=.tuple #[.agg #[.slice none 0 0,.slice none 0 0],.int .i64 2]) (by simp[results,Tryz.results18,go_sem,c9]) rfl ⟨_,_,rfl,?_⟩
  exact (h9.drop.l_nil TNold 3 tolN).l_nil 9 1 encS
 ·rw[if_neg hb]
  have hb:badNow now=false:=by simpa using hb
  have hc:=nw_begin t x now hb w0 _ _ h1.f2;have hft:=nfit_begin hfit now;have HN:=Lib.hid hN;have HF:=Lib.hid hF;have HK:=Lib.hid hL;have hlen:(x.begin now).len=0:=rfl;have hd:(x.begin now).c=x.c:=rfl;clear hN hF hL hb h;rw[← hd];generalize x.begin now=X at *;dsimp only;have hkl:=hft.f0.c_len;have hk:=fun c w R h=>c_due c X.c now w0 w R h (by omega)
  have hfs:∀ k ∈ dueK X.c now,nkey k:=fun k hk=>by
   obtain⟨v,hv⟩:=due_mem hk;exact hft.f0.ks _ hv
  have hfl:=due_len (c:=X.c) now;have hfx:=nfit_setC hft (c:=leftK X.c now) List.filter_sublist;generalize dueK X.c now=l at *;generalize leftK X.c now=A1 at *;obtain⟨n,hn⟩:∃ n,l.length=n:=⟨_,rfl⟩;have hn6:n<=1000:=by omega
  have hlen2:(X.setC A1).len=0:=hlen;obtain⟨Z,hZ⟩:∃ Z,l.foldl Nw.over (X.setC A1)=Z:=⟨_,rfl⟩;rw[hZ];have HZ:=Lib.hid hZ;have HA:=Lib.hid (And.intro hfx (And.intro hfs hlen2));have HNn:=Lib.hid hn;clear hlen hft hd hfit hfs hfl hfx hlen2 hn hkl hZ;go_enter Tryz.func18,Tryz.ntmps18
  go_upto_region 1 with fail
  generalize w.alloc _=wa at *;generalize w.heap.size=ga at *;go_upto_region 2 with (go_at_call 32;refine hc.mono ?_;rintro r w5 ⟨q,lk,rfl,h5⟩)
  clear hc h1;obtain⟨Z0,h6,hcl,hback⟩:=h5.nw_clk;have c6:=hcl _ _ h6.drop;have hq:=hk q.c w5 _ h6;clear hk;go_wp2_with fail
  refine hq.mono ?_
  rintro r w7 ⟨v7,rfl,h7⟩;have h8:=(hback w7 A1 (LAt 111 2 keyC v7 l*(blk ga (.cells #[.slice none 0 0,.slice none 0 0] TNRes (0,0))*R)) (h7.eq (by ac_rfl))).f2;clear hq h5 h6 c6 hcl hback h7;have sh:=h8.l_shape;rw[HNn.out] at sh;obtain⟨a,cap,rfl,hcap,hmax⟩:=sh;have HH:=Lib.hid h8;clear h8;generalize X.setC A1=Y at *;go_wp2;go_loopw [24] (fun s25 wr=>∃ (i:Nat) (lk:List (Int × Nat)),i<=n/\s25=.int .i64 i/\Hid (St w0 wr (LAt 111 2 keyC (.slice a n cap) l*(NwAt t q lk ((l.take i).foldl Nw.over Y)*(blk ga (.cells #[.slice none 0 0,.slice none 0 0] TNRes (0,0))*R))))) (fun s25 _=>n - (intOf s25).toNat)
  case atStart=>exact⟨0,lk,by omega,rfl,HH⟩
  case round =>
   clear HH;clear lk;obtain⟨i,lk,hi,rfl,HI⟩:=hrel;by_cases hlt:i<n
   ·have hil:i<l.length:=by have:=HNn.out;omega
    obtain⟨y,hy⟩:∃ y,l[i]?=some y:=⟨l[i],List.getElem?_eq_getElem hil⟩;have htk:(l.take (i+1)).foldl Nw.over Y=((l.take i).foldl Nw.over Y).over y:=by
     rw[List.take_add_one,hy,Option.toList_some,novers_snoc]
    have hsm:=HA.out.2.1 y (List.mem_of_getElem? hy);obtain⟨s1,s2⟩:=nfit_overs (l.take i) HA.out.1;have s3:(l.take i).length=i:=by rw[List.length_take];omega
    have hl0:=HA.out.2.2;generalize (l.take i).foldl Nw.over Y=z at *;have hsz:=Lib.hid (show z.Fit/\z.len<=700000000000 from ⟨s1,by omega⟩);rcases HI.out.l_cells tyKey.len with ⟨h0,_⟩ | ⟨g,off,cap',hv,_,_,hcell⟩
    ·rw[h0] at hil;exact absurd hil (by simp)
    ·simp only[Value.slice.injEq] at hv
     obtain⟨rfl,hq,rfl⟩:=hv;clear hq;have hce:=hcell i y hy;obtain⟨ko,kt⟩:=y;have d0:wr.cell? ⟨g,off+i*2,none⟩=some (.int .i64 ko):=hce 0 _ rfl;have d1:wr.cell? ⟨g,off+i*2+1,none⟩=some (.int .i64 kt):=hce 1 _ rfl;have HT:=Lib.hid htk;obtain⟨r0,r1,hkt⟩:=hsm;simp only[] at r0 r1 hkt;have hko:kInt.ok ko:=kok ko (by omega) (by omega);have hd:=HI.out.alloc (.cells #[.int .i64 ko,.int .i64 kt] 111);have HR:=Lib.hid (show (64<=ko/\ko<=126)/\(kt=200\/kt=201\/kt=203) from ⟨⟨r0,r1⟩,hkt⟩);clear htk hce hcell hy hil s1 s2 s3 hl0 HI r0 r1 hkt;go_upto_region 7 with fail
     clear d0 d1;generalize wr.alloc _=w2 at *;generalize wr.heap.size=gy at *;have hd2:=hd.eq (show _=NwAt t q lk z*(blk gy (.cells #[.int .i64 ko,.int .i64 kt] 111 (0,0))*(LAt 111 2 keyC (.slice (some ⟨g,off,none⟩) n cap) l*(blk ga (.cells #[.slice none 0 0,.slice none 0 0] TNRes (0,0))*R))) by ac_rfl);cases he:mlook z.l ko with
     | none =>
       have hz:z.over (ko,kt)=z:=by unfold Nw.over;rw[he];rfl
       rw[hz] at HT;obtain⟨m7,_,_,⟨A,hA⟩,hm⟩:=hd2.drew.nw_map;have hlk:=hA.lk_none hko (by have:=hm ko;rw[he] at this;cases e:mlook lk ko with | none=>rfl | some _=>rw[e] at this;cases this);have e0:w2.drew.cell? ⟨gy,0,none⟩=some (.int .i64 ko):=(hd.drew.cell 0).trans rfl;clear hA hm he hz hd2;refine wp_region_held_drew (S:=fun wx=>wx.cell? ⟨t,7,none⟩=some (.map (some q.b))/\wx.cell? ⟨gy,0,none⟩=some (.int .i64 ko)/\wx=w2.drew) (by kernel_rfl) ⟨m7,e0,rfl⟩ (fun hHeld=>?_)
       have h9:=hd.drew.drop;clear e0 m7 hd;generalize w2.drew=wd at *;refine tk 0 ?_ rfl (fun w hSw=>?_) ?_
       rotate_left 1
       ·try dsimp only at hSw
        go_simp
        try with_reducible rfl
       try simp only[Act.put,sl]
       refine tk 1 ?_ rfl (fun w hSw=>?_) ?_
       rotate_left 1
       ·try dsimp only at hSw
        go_simp
        try with_reducible rfl
       try simp only[Act.put,sl]
       refine tk 2 ?_ rfl (fun w hSw=>?_) ?_
       rotate_left 1
       ·try dsimp only at hSw
        go_simp
        try with_reducible rfl
       try simp only[Act.put,sl]
       refine tk 3 ?_ rfl (fun w hSw=>?_) ?_
       rotate_left 1
       ·try dsimp only at hSw
        go_simp
        try with_reducible rfl
       try simp only[Act.put,sl]
       refine tk 4 ?_ rfl (fun w hSw=>?_) ?_
       rotate_left 1
       ·try dsimp only at hSw
        go_simp
        try with_reducible rfl
       try simp only[Act.put,sl]
       refine tk 5 ?_ rfl (fun w hSw=>?_) ?_
       rotate_left 1
       ·try dsimp only at hSw
        go_simp
        try with_reducible rfl
       try simp only[Act.put,sl]
       refine tk 6 ?_ rfl (fun w hSw=>?_) ?_
       rotate_left 1
       ·obtain⟨_,_,rfl⟩:=hSw
        go_simp
        try with_reducible rfl
       try simp only[Act.put,sl]
       refine tk 7 ?_ rfl (fun w hSw=>?_) ?_
       rotate_left 1
       ·try dsimp only at hSw
        go_simp
        try with_reducible rfl
       try simp only[Act.put,sl]
       refine wpAnyH_done (by kernel_rfl) ?_ _
       clear hHeld hlk;go_wp2;go_roundw
       case rel =>
        have hh:=h9;rw[← HT.out] at hh;exact⟨i+1,_,by omega,by go_num,Lib.hid hh⟩
       case measure=>simp[intOf];omega
     | some e =>
       obtain⟨p,Z0,h2,hp,hcl,hback⟩:=hd2.nw_ent he;have S0:w2.drew.cell? ⟨t,7,none⟩=some (.map (some q.b))/\(Instr.lookup 93 (.map (some q.b)) (.int .i64 ko) false).run Tryz.prog w2.drew=.ok (ptr p) w2.drew:=hd2.drew.nw_look hko hp;have e0:w2.drew.cell? ⟨gy,0,none⟩=some (.int .i64 ko):=(hd.drew.cell 0).trans rfl;have HP:=Lib.hid hp;have HE:=Lib.hid he;have HB:=Lib.hid hback;have HD:=Lib.hid hd;have HD2:=Lib.hid hd2;clear he hp hcl hback hd hd2 h2;refine wp_region_held_drew (S:=fun wx=>(wx.cell? ⟨t,7,none⟩=some (.map (some q.b))/\(Instr.lookup 93 (.map (some q.b)) (.int .i64 ko) false).run Tryz.prog wx=.ok (ptr p) wx)/\wx.cell? ⟨gy,0,none⟩=some (.int .i64 ko)) (by kernel_rfl) ⟨S0,e0⟩ (fun hHeld=>?_)
       have h9:=HD.out.drew;have hd2:=HD2.out.drew;clear e0 S0 HD HD2;generalize w2.drew=wd at *;refine tk 0 ?_ rfl (fun w hSw=>?_) ?_
       rotate_left 1
       ·try dsimp only at hSw
        go_simp
        try with_reducible rfl
       try simp only[Act.put,sl]
       refine tk 1 ?_ rfl (fun w hSw=>?_) ?_
       rotate_left 1
       ·try dsimp only at hSw
        go_simp
        try with_reducible rfl
       try simp only[Act.put,sl]
       refine tk 2 ?_ rfl (fun w hSw=>?_) ?_
       rotate_left 1
       ·try dsimp only at hSw
        go_simp
        try with_reducible rfl
       try simp only[Act.put,sl]
       refine tk 3 ?_ rfl (fun w hSw=>?_) ?_
       rotate_left 1
       ·try dsimp only at hSw
        go_simp
        try with_reducible rfl
       try simp only[Act.put,sl]
       refine tk 4 ?_ rfl (fun w hSw=>?_) ?_
       rotate_left 1
       ·try dsimp only at hSw
        go_simp
        try with_reducible rfl
       try simp only[Act.put,sl]
       refine tk 5 ?_ rfl (fun w hSw=>?_) ?_
       rotate_left 1
       ·try dsimp only at hSw
        go_simp
        try with_reducible rfl
       try simp only[Act.put,sl]
       refine tk 6 ?_ rfl (fun w hSw=>?_) ?_
       rotate_left 1
       ·try dsimp only at hSw
        go_simp
        try with_reducible rfl
       try simp only[Act.put,sl]
       refine tk 7 ?_ rfl (fun w hSw=>?_) ?_
       rotate_left 1
       ·try dsimp only at hSw
        go_simp
        try with_reducible rfl
       try simp only[Act.put,sl]
       refine wpAnyH_done (by kernel_rfl) ?_ _
       clear hHeld;have c9:=h9.cell;have e0:wd.drew.cell? ⟨gy,0,none⟩=some (.int .i64 ko):=(h9.drew.cell 0).trans rfl;have e1:wd.drew.cell? ⟨gy,1,none⟩=some (.int .i64 kt):=(h9.drew.cell 1).trans rfl;by_cases k1:kt=201
       ·have hz:z.over (ko,kt)=(z.setS (z.s.timeout ko).1).srcs (z.s.timeout ko).2:=by unfold Nw.over;rw[HE.out,if_neg (by simp),if_pos k1]
        rw[hz] at HT;obtain⟨Z1,h3,hcl,hback⟩:=hd2.nw_src;have hq:=so_timeout q.s z.s ko w0 wd.drew _ h3.drew hsz.out.1.ok hko;have e5:wd.drew.cell? ⟨t,5,none⟩=some (ptr q.s):=hcl _ _ h3.drew.drop;obtain⟨fa,fb,_,_⟩:=src_timeout hsz.out.1 ko;have ln:=(eg_timeout hsz.out.1.ok ko).1;generalize z.s.timeout ko=A at *;obtain⟨A1,A2⟩:=A;simp only[] at *;have hs:=fun v w R hN hF hL h=>nw_srcs t q lk (z.setS A1) v A2 fa fb (by omega) (by have h2:=hsz.out.2;show z.len+100000*A2.length<=_;omega) w0 w R hN hF hL h
        have HB:=Lib.hid hback;subst k1;clear hz fa fb ln hback hcl h3 hd2 h9;go_upto_region 11 with fail
        refine wp_region_held_drew (S:=fun wx=>wx.cell? ⟨t,5,none⟩=some (ptr q.s)/\wx.cell? ⟨gy,0,none⟩=some (.int .i64 ko)) (by kernel_rfl) ⟨e5,e0⟩ (fun hHeld=>?_)
        clear e0 e1 e5 c9;generalize wd.drew=we at *;refine tk 0 ?_ rfl (fun w hSw=>?_) ?_
        rotate_left 1
        ·try dsimp only at hSw
         go_simp
         try with_reducible rfl
        try simp only[Act.put,sl]
        refine tk 1 ?_ rfl (fun w hSw=>?_) ?_
        rotate_left 1
        ·try dsimp only at hSw
         go_simp
         try with_reducible rfl
        try simp only[Act.put,sl]
        refine tk 2 ?_ rfl (fun w hSw=>?_) ?_
        rotate_left 1
        ·try dsimp only at hSw
         go_simp
         try with_reducible rfl
        try simp only[Act.put,sl]
        refine tk 3 ?_ rfl (fun w hSw=>?_) ?_
        rotate_left 1
        ·try dsimp only at hSw
         go_simp
         try with_reducible rfl
        try simp only[Act.put,sl]
        refine tk 4 ?_ rfl (fun w hSw=>?_) ?_
        rotate_left 1
        ·try dsimp only at hSw
         go_simp
         try with_reducible rfl
        try simp only[Act.put,sl]
        refine tk 5 ?_ rfl (fun w hSw=>?_) ?_
        rotate_left 1
        ·try dsimp only at hSw
         go_simp
         try with_reducible rfl
        try simp only[Act.put,sl]
        refine tk 6 ?_ rfl (fun w hSw=>?_) ?_
        rotate_left 1
        ·try dsimp only at hSw
         go_simp
         try with_reducible rfl
        try simp only[Act.put,sl]
        refine rd 7 rfl (fun K hK=>?_)
        go_simp
        go_at_call 42
        refine hq.mono ?_
        rintro r wb ⟨vb,rfl,hb⟩;have hc:=HB.out wb A1 (EAt vb A2*(blk gy (.cells #[.int .i64 ko,.int .i64 201] 111 (0,0))*(LAt 111 2 keyC (.slice (some ⟨g,off,none⟩) n cap) l*(blk ga (.cells #[.slice none 0 0,.slice none 0 0] TNRes (0,0))*R)))) (hb.eq (by ac_rfl));clear hb hq;go_simp
        refine hK.out _ _ ⟨hc.nw_map.2.2.1,(hc.f3.cell 0).trans rfl⟩ (fun hHeld=>?_)
        clear hK K;try simp only[Act.put,sl]
        have hs:=hs vb wb _ (fun w' h=>HN.out w' h.drop.drop.drop) (fun w' h=>HF.out w' h.drop.drop.drop) (fun w' h=>HK.out w' h.drop.drop.drop) hc.f2;clear hc;refine rd 8 rfl (fun K hK=>?_)
        go_simp
        go_at_call 41
        refine hs.mono ?_
        rintro r wc ⟨k5,rfl,hb⟩;clear hs;have hz:=hb.drop;go_simp
        refine hK.out _ _ ⟨hz.nw_map.2.2.1,(hz.f2.cell 0).trans rfl⟩ (fun hHeld=>?_)
        clear hK K;try simp only[Act.put,sl]
        refine wpAnyH_done (by kernel_rfl) ?_ _
        have h6:=hz.f2.drop.f2;clear hb hz hHeld;go_wp2;go_roundw
        case rel =>
         have hh:=h6;rw[← HT.out] at hh;exact⟨i+1,_,by omega,by go_num,Lib.hid hh⟩
        case measure=>simp[intOf];omega
       ·have q1:(kt == 201)=false:=by simp[k1]
        have hz:z.over (ko,kt)=(z.putE ko (e.timeout kt).1).links ko (e.timeout kt).2:=by unfold Nw.over;rw[HE.out,if_neg (by simp),if_neg k1];unfold Nw.mayE;rw[HE.out]
        rw[hz] at HT;obtain⟨p',Z1,h3,hp',hcl,hback⟩:=hd2.nw_ent HE.out;obtain rfl:p'=p:=by have:=HP.out;rw[hp'] at this;exact Option.some.inj this
        have fe:=(look_range hsz.out.1.f0 HE.out).2.2;have hq:=e_timeout p' e kt fe.ok.b.fl (by have:=HR.out.2;omega) (by rcases HR.out.2 with e | e | e <;> rw[e] <;> exact kok _ (by decide) (by decide)) (by have h1:=fe.ok.b.tr0;have h2:=fe.ok.b.trm;have h3:=fe.ok.b.m32;omega) (by rw[fe.out];decide) w0 wd.drew _ h3.drew;have hfx:=nxs_timeout fe kt;have ln:=timeout_len e (out0 fe) kt;generalize e.timeout kt=A at *;obtain⟨A1,A2⟩:=A;simp only[] at *;have hs:=fun v w R hN hF h=>nw_links t q lk (z.putE ko A1) ko HR.out.1 v A2 hfx (by omega) (by have h2:=hsz.out.2;show z.len+_<=_;omega) w0 w R hN hF h
        have HB2:=Lib.hid hback;clear hz fe hfx ln hback hcl h3 hd2 h9 HB k1 hp';go_upto_region 8 with fail
        refine wp_region_held_drew (S:=fun wx=>wx.cell? ⟨gy,0,none⟩=some (.int .i64 ko)/\wx.cell? ⟨gy,1,none⟩=some (.int .i64 kt)) (by kernel_rfl) ⟨e0,e1⟩ (fun hHeld=>?_)
        clear e0 e1 c9 q1;generalize wd.drew=we at *;refine tk 0 ?_ rfl (fun w hSw=>?_) ?_
        rotate_left 1
        ·try dsimp only at hSw
         go_simp
         try with_reducible rfl
        try simp only[Act.put,sl]
        refine tk 1 ?_ rfl (fun w hSw=>?_) ?_
        rotate_left 1
        ·try dsimp only at hSw
         go_simp
         try with_reducible rfl
        try simp only[Act.put,sl]
        refine tk 2 ?_ rfl (fun w hSw=>?_) ?_
        rotate_left 1
        ·try dsimp only at hSw
         go_simp
         try with_reducible rfl
        try simp only[Act.put,sl]
        refine tk 3 ?_ rfl (fun w hSw=>?_) ?_
        rotate_left 1
        ·try dsimp only at hSw
         go_simp
         try with_reducible rfl
        try simp only[Act.put,sl]
        refine tk 4 ?_ rfl (fun w hSw=>?_) ?_
        rotate_left 1
        ·try dsimp only at hSw
         go_simp
         try with_reducible rfl
        try simp only[Act.put,sl]
        refine tk 5 ?_ rfl (fun w hSw=>?_) ?_
        rotate_left 1
        ·try dsimp only at hSw
         go_simp
         try with_reducible rfl
        try simp only[Act.put,sl]
        refine rd 6 rfl (fun K hK=>?_)
        go_simp
        go_at_call 44
        refine hq.mono ?_
        rintro r wb ⟨vb,rfl,hb⟩;have hc:=HB2.out wb A1 (LAt TFx 11 Fx.cells vb A2*(blk gy (.cells #[.int .i64 ko,.int .i64 kt] 111 (0,0))*(LAt 111 2 keyC (.slice (some ⟨g,off,none⟩) n cap) l*(blk ga (.cells #[.slice none 0 0,.slice none 0 0] TNRes (0,0))*R)))) (hb.eq (by ac_rfl));clear hb hq;have cg:=hc.f3.cell;go_simp
        refine hK.out _ _ ⟨(cg 0).trans rfl,(cg 1).trans rfl⟩ (fun hHeld=>?_)
        clear hK K;try simp only[Act.put,sl]
        have hs:=hs vb wb _ (fun w' h=>HN.out w' h.drop.drop.drop) (fun w' h=>HF.out w' h.drop.drop.drop) hc.f2;clear hc cg;refine rd 7 rfl (fun K hK=>?_)
        go_simp
        go_at_call 43
        refine hs.mono ?_
        rintro r wc ⟨rfl,hb⟩;clear hs;have hz:=hb.drop;have cg:=hz.f2.cell;go_simp
        refine hK.out _ _ ⟨(cg 0).trans rfl,(cg 1).trans rfl⟩ (fun hHeld=>?_)
        clear hK K;try simp only[Act.put,sl]
        refine wpAnyH_done (by kernel_rfl) ?_ _
        have h6:=hz.f2.drop.f2;clear hb hz hHeld cg;go_wp2;go_roundw
        case rel =>
         have hh:=h6;rw[← HT.out] at hh;exact⟨i+1,_,by omega,by go_num,Lib.hid hh⟩
        case measure=>simp[intOf];omega
   ·obtain rfl:i=n:=by omega
    have hz:=HI.out.drop;rw[List.take_of_length_le (by have:=HNn.out;omega)] at hz;clear HI;rw[HZ.out] at hz;obtain⟨sv,tv,L,⟨hL,_⟩,h1⟩:=hz.nw_open;have h2:=h1.eq (show _=blk ga _*(LAt 9 1 encS sv Z.sent*(LAt TNold 3 tolN tv Z.told*(blk t _*NwIn q Z L R))) by unfold NwIn;ac_rfl);have s1:=h2.f2.l_shape;have s2:=h2.f3.l_shape;obtain⟨ns,hns⟩:∃ n,Z.sent.length=n:=⟨_,rfl⟩;obtain⟨nt,hnt⟩:∃ n,Z.told.length=n:=⟨_,rfl⟩;rw[hns] at s1;rw[hnt] at s2;obtain⟨sa,sc,rfl,_,_⟩:=s1;obtain⟨ta,tc,rfl,_,_⟩:=s2;have c1:=h2.f4.cell;have cg:=h2.cell;have fg:=h2.free;have h9:=(h2.set 0 (.slice sa ns sc)).set 1 (.slice ta nt tc);have HLQ:=Lib.hid hL;clear h1 h2 hz hns hnt hL;go_wp2;have c9:=h9.cell;refine bodyPost_ret (v:=.tuple #[.agg #[.slice sa ns sc,.slice ta nt tc],.int .i64 0]) (by simp[results,Tryz.results18,go_sem,c9]) rfl ⟨_,_,rfl,?_⟩
    have h10:St w0 _ (NwOff t Z*(LAt 9 1 encS (.slice sa ns sc) Z.sent*(LAt TNold 3 tolN (.slice ta nt tc) Z.told*R))):=St.noff_shut HLQ.out (h9.drop.eq (by unfold NwIn;ac_rfl));exact h10.b3
theorem nw_audit (t:Nat) (x:Nw) (now:Int) (hfit:x.Fit) (w0 w:World) (R:HP) (hN:∀ w',St w0 w' R->NamesAt w') (hF:∀ w',St w0 w' R->FirstAt w') (hL:∀ w',St w0 w' R->LinkAt w') (h:St w0 w (NwOff t x*R)) :
  Calls Tryz.prog 19 #[ptr t,.int .i64 now] w fun r w'=>∃ sv tv,r=.returned (.tuple #[.agg #[sv,tv],.int .i64 (x.audit now).2])/\St w0 w' (LAt 9 1 encS sv (x.audit now).1.sent*(LAt TNold 3 tolN tv (x.audit now).1.told*(NwOff t (x.audit now).1*R))):=by
 have h1:=h.alloc (.cells #[.slice none 0 0,.slice none 0 0] TNRes);unfold Nw.audit;by_cases hb:badNow now=true
 ·rw[if_pos hb]
  have hc:=nw_begin_bad t x now hb w0 _ _ h1.f2;go_enter Tryz.func19,Tryz.ntmps19
  go_upto_region 1 with fail
  generalize w.alloc _=wa at *;generalize w.heap.size=ga at *;go_wp2_with fail
  refine hc.mono ?_
  rintro r w5 ⟨rfl,h5⟩;clear hc h1;have h6:=h5.f2;have c6:=h6.cell;have f6:=h6.free;have h9:=(h6.set 0 (.slice none 0 0)).set 1 (.slice none 0 0);clear h5 h6;go_wp2;have c9:=h9.cell;refine bodyPost_ret (v:=.tuple #[.agg #[.slice none 0 0,.slice none 0 0],.int .i64 2]) (by simp[results,Tryz.results19,go_sem,c9]) rfl ⟨_,_,rfl,?_⟩
  exact (h9.drop.l_nil TNold 3 tolN).l_nil 9 1 encS
 ·rw[if_neg hb]
  have hb:badNow now=false:=by simpa using hb
  have hc:=nw_begin t x now hb w0 _ _ h1.f2;have hft:=nfit_begin hfit now;have HN:=Lib.hid hN;have HF:=Lib.hid hF;have HK:=Lib.hid hL;have hlen:(x.begin now).len=0:=rfl;rw[← show (x.begin now).s=x.s from rfl];clear hN hF hL hb h hfit;generalize x.begin now=X at *;dsimp only;have hk:=fun s w R h=>so_audit s X.s w0 w R h hft.ok.on
  obtain⟨fa,fb,_,_⟩:=src_audit hft;have ln:=(eg_audit X.s).1.1;generalize X.s.audit=A at *;obtain⟨A1,A2⟩:=A;simp only[] at *;have hs:=fun q lk v w R hN hF hL h=>nw_srcs t q lk (X.setS A1) v A2 fa fb (by omega) (by show X.len+100000*A2.length<=_;omega) w0 w R hN hF hL h
  generalize (X.setS A1).srcs A2=Y at *;clear hft hlen fa fb ln;go_enter Tryz.func19,Tryz.ntmps19
  go_upto_region 1 with fail
  generalize w.alloc _=wa at *;generalize w.heap.size=ga at *;go_upto_region 2 with (go_at_call 32;refine hc.mono ?_;rintro r w5 ⟨q,lk,rfl,h5⟩)
  clear hc h1;obtain⟨Z0,h6,hcl,hback⟩:=h5.nw_src;have c6:=hcl _ _ h6.drop;have hq:=hk q.s w5 _ h6;clear hk;go_wp2_with fail
  refine hq.mono ?_
  rintro r w7 ⟨v7,rfl,h7⟩;have h8:=(hback w7 A1 (EAt v7 A2*(blk ga (.cells #[.slice none 0 0,.slice none 0 0] TNRes (0,0))*R)) (h7.eq (by ac_rfl))).f2;have hs:=hs q lk v7 w7 _ (fun w' h=>HN.out w' h.drop) (fun w' h=>HF.out w' h.drop) (fun w' h=>HK.out w' h.drop) h8;clear hq h5 h6 c6 hcl hback h7 h8;go_wp2_with fail
  refine hs.mono ?_
  rintro r w9 ⟨lk,rfl,h9⟩;have hz:=h9.drop;clear hs h9;obtain⟨sv,tv,L,⟨hL,_⟩,h1⟩:=hz.nw_open;have h2:=h1.eq (show _=blk ga _*(LAt 9 1 encS sv Y.sent*(LAt TNold 3 tolN tv Y.told*(blk t _*NwIn q Y L R))) by unfold NwIn;ac_rfl);have s1:=h2.f2.l_shape;have s2:=h2.f3.l_shape;obtain⟨ns,hns⟩:∃ n,Y.sent.length=n:=⟨_,rfl⟩;obtain⟨nt,hnt⟩:∃ n,Y.told.length=n:=⟨_,rfl⟩;rw[hns] at s1;rw[hnt] at s2;obtain⟨sa,sc,rfl,_,_⟩:=s1;obtain⟨ta,tc,rfl,_,_⟩:=s2;have c1:=h2.f4.cell;have cg:=h2.cell;have fg:=h2.free;have h9:=(h2.set 0 (.slice sa ns sc)).set 1 (.slice ta nt tc);have HLQ:=Lib.hid hL;clear h1 h2 hz hns hnt hL;go_wp2;have c9:=h9.cell;refine bodyPost_ret (v:=.tuple #[.agg #[.slice sa ns sc,.slice ta nt tc],.int .i64 0]) (by simp[results,Tryz.results19,go_sem,c9]) rfl ⟨_,_,rfl,?_⟩
  have h10:St w0 _ (NwOff t Y*(LAt 9 1 encS (.slice sa ns sc) Y.sent*(LAt TNold 3 tolN (.slice ta nt tc) Y.told*R))):=St.noff_shut HLQ.out (h9.drop.eq (by unfold NwIn;ac_rfl));exact h10.b3
theorem nw_next (t:Nat) (x:Nw) (w0 w:World) (R:HP) (h:St w0 w (NwOff t x*R)) :
  Calls Tryz.prog 16 #[ptr t] w fun r w'=>∃ f b,NextIs x.c f b/\r=.returned (.tuple #[.int .i64 f,.bool b])/\St w0 w' (NwOff t x*R):=by
 obtain⟨q,sv,tv,L,hL,h1⟩:=h.noff_open;have c1:=h1.cell;have hq:=c_next q.c x.c w0 w _ (h1.eq (nw_c _ _ _ _ _));have HL:=Lib.hid hL;clear h hL;go_enter Tryz.func16,Tryz.ntmps16
 go_wp2_with fail
 refine hq.mono ?_
 rintro r w2 ⟨f,b,rfl,hi,h2⟩;have h3:St w0 w2 (NwOff t x*R):=St.noff_shut (x:=x) (q:=q) (sv:=sv) (tv:=tv) HL.out (h2.eq (nw_c _ q x L _).symm);have HI:=Lib.hid hi;clear hq h1 c1 h2 hi;go_wp2;go_ret2
 exact⟨f,b,HI.out,rfl,h3⟩
def Nw.list (x:Nw):List Int:=(x.s.pool.upto 63).map fun (i:Nat)=>64+(i:Int)
theorem teis_flat:∀ l:List Nat,teis l=(l.map fun (i:Nat)=>64+(i:Int)).flatMap intL
 | []=>rfl
 | i :: l=>by
   show _ :: teis l=_ :: ((l.map _).flatMap intL)
   rw[teis_flat l]
theorem nw_list (t:Nat) (x:Nw) (hn:x.s.pool.on<2 ^ 63) (w0 w:World) (R:HP) (h:St w0 w (NwOff t x*R)) :
  Calls Tryz.prog 14 #[ptr t] w fun r w'=>∃ v,r=.returned v/\St w0 w' (LAt 3 1 intL v x.list*(NwOff t x*R)):=by
 obtain⟨q,sv,tv,L,hL,h1⟩:=h.noff_open;have c1:=h1.cell;have hq:=so_list q.s x.s w0 w _ (h1.eq (show _=SAt q.s x.s*(blk t _*(XAt q.m (muxOf x.l)*(MAt kInt ptr q.b (lkOf L)*(ensAt L*(CAt q.c x.c*(DeAt q.p x.d*R)))))) by unfold NwIn;ac_rfl)) hn;have HL:=Lib.hid hL;clear h hL;go_enter Tryz.func14,Tryz.ntmps14
 go_wp2_with fail
 refine hq.mono ?_
 rintro r w2 ⟨v,rfl,h2⟩;have h3:=h2.eq (show _=LAt 3 1 intL v x.list*(SAt q.s x.s*(blk t _*(XAt q.m (muxOf x.l)*(MAt kInt ptr q.b (lkOf L)*(ensAt L*(CAt q.c x.c*(DeAt q.p x.d*R))))))) by unfold LAt Nw.list;rw[List.length_map,← teis_flat]);have h4:St w0 w2 (NwOff t x*(LAt 3 1 intL v x.list*R)):=St.noff_shut (x:=x) (q:=q) (sv:=sv) (tv:=tv) HL.out (h3.eq (by unfold NwIn;ac_rfl));clear hq h1 c1 h2 h3;go_wp2;go_ret
 exact⟨_,rfl,h4.f2⟩
abbrev TVw:TypeId:=49
theorem nw_link_none (t:Nat) (x:Nw) (i:Int) (hk:kInt.ok i) (he:mlook x.l i=none) (w0 w:World) (R:HP) (h:St w0 w (NwOff t x*R)) :
  Calls Tryz.prog 15 #[ptr t,.int .i64 i] w fun r w'=>r=.returned (.tuple #[.agg zeroView,.bool false])/\St w0 w' (NwOff t x*R):=by
 have h0:=h.alloc (.cells zeroView TVw);obtain⟨q,sv,tv,L,hL,h1⟩:=h0.f2.noff_open;have c1:=h1.cell;have hlk:=(h1.eq (show _=MAt kInt ptr q.b (lkOf L)*(blk t _*(SAt q.s x.s*(XAt q.m (muxOf x.l)*(ensAt L*(CAt q.c x.c*(DeAt q.p x.d*(blk w.heap.size _*R))))))) by unfold NwIn;ac_rfl)).lk_none hk (by have:=ens_look (L:=L) (i:=i);rw[hL,he] at this;cases e:mlook (lkOf L) i with | none=>rfl | some _=>rw[e] at this;cases this);clear h hL;go_enter Tryz.func15,Tryz.ntmps15
 go_upto_region 1 with fail
 generalize w.alloc _=wa at *;generalize w.heap.size=ga at *;have c0:=h0.cell;have f0:=h0.free;have h4:=(((((((((((((((h0.set 0 (.int .i64 0)).set 1 (.int .i64 0)).set 2 (.int .i64 0)).set 3 (.bool false)).set 4 (.bool false)).set 5 (.bool false)).set 6 (.int .i64 0)).set 7 (.int .i64 0)).set 8 (.int .i64 0)).set 9 (.int .i64 0)).set 10 (.bool false)).set 11 (.bool false)).set 12 (.bool false)).set 13 (.int .i64 0)).set 14 (.int .i64 0));clear h1 h0;go_wp2;have c4:=h4.cell;exact bodyPost_ret (v:=.tuple #[.agg zeroView,.bool false]) (by simp[results,Tryz.results15,go_sem,c4]) rfl ⟨rfl,h4.drop⟩
theorem nw_link (t:Nat) (x:Nw) (i:Int) (e:En) (hk:kInt.ok i) (ok:e.fl.Ok) (he:mlook x.l i=some e) (w0 w:World) (R:HP) (h:St w0 w (NwOff t x*R)) :
  Calls Tryz.prog 15 #[ptr t,.int .i64 i] w fun r w'=>r=.returned (.tuple #[.agg e.view,.bool true])/\St w0 w' (NwOff t x*R):=by
 have h0:=h.alloc (.cells zeroView TVw);obtain⟨q,sv,tv,L,hL,h1⟩:=h0.f2.noff_open;have c1:=h1.cell;obtain⟨p,Z,lkp,e1,_,_⟩:=ens_take (L:=L) (by rw[hL];exact he);have h2:=h1.eq (show _=EnAt p e*(blk t (.cells (x.cells q sv tv) TNt (0,0))*(MAt kInt ptr q.b (lkOf L)*(Z*(SAt q.s x.s*(XAt q.m (muxOf x.l)*(CAt q.c x.c*(DeAt q.p x.d*(blk w.heap.size _*R)))))))) by unfold NwIn;rw[e1];ac_rfl);have hlk:=h2.f3.lk_some hk lkp;have hq:=e_view p e ok w0 _ _ h2;have HL:=Lib.hid (And.intro hL e1);obtain⟨V,hV⟩:∃ V,e.view=V:=⟨_,rfl⟩;have hV2:∃ (a0 a1 a2:Int) (b3 b4 b5:Bool) (a6 a7 a8 a9:Int) (b10 b11 b12:Bool) (a13 a14:Int),V=#[.int .i64 a0,.int .i64 a1,.int .i64 a2,.bool b3,.bool b4,.bool b5,.int .i64 a6,.int .i64 a7,.int .i64 a8,.int .i64 a9,.bool b10,.bool b11,.bool b12,.int .i64 a13,.int .i64 a14]:=⟨_,_,_,_,_,_,_,_,_,_,_,_,_,_,_,hV.symm⟩;rw[hV] at hq ⊢;obtain⟨a0,a1,a2,b3,b4,b5,a6,a7,a8,a9,b10,b11,b12,a13,a14,rfl⟩:=hV2;clear h h0 hV lkp e1 hL h2 he;go_enter Tryz.func15,Tryz.ntmps15
 go_upto_region 1 with fail
 generalize w.alloc _=wa at *;generalize w.heap.size=ga at *;go_wp2_with fail
 refine hq.mono ?_
 rintro r w2 ⟨rfl,h2⟩;clear hq c1 h1;have h3:=h2.eq (show _=blk ga (.cells zeroView TVw (0,0))*(blk t (.cells (x.cells q sv tv) TNt (0,0))*(SAt q.s x.s*(XAt q.m (muxOf x.l)*(MAt kInt ptr q.b (lkOf L)*(ensAt L*(CAt q.c x.c*(DeAt q.p x.d*R))))))) by rw[HL.out.2];ac_rfl);have c3:=h3.cell;have f3:=h3.free;have h4:=(((((((((((((((h3.set 0 (.int .i64 a0)).set 1 (.int .i64 a1)).set 2 (.int .i64 a2)).set 3 (.bool b3)).set 4 (.bool b4)).set 5 (.bool b5)).set 6 (.int .i64 a6)).set 7 (.int .i64 a7)).set 8 (.int .i64 a8)).set 9 (.int .i64 a9)).set 10 (.bool b10)).set 11 (.bool b11)).set 12 (.bool b12)).set 13 (.int .i64 a13)).set 14 (.int .i64 a14));rw[view_set] at h4;clear h2 h3;go_wp2;have c4:=h4.cell;refine bodyPost_ret (v:=.tuple #[.agg #[.int .i64 a0,.int .i64 a1,.int .i64 a2,.bool b3,.bool b4,.bool b5,.int .i64 a6,.int .i64 a7,.int .i64 a8,.int .i64 a9,.bool b10,.bool b11,.bool b12,.int .i64 a13,.int .i64 a14],.bool true]) (by simp[results,Tryz.results15,go_sem,c4]) rfl ⟨rfl,?_⟩
 exact St.noff_shut (x:=x) (q:=q) (sv:=sv) (tv:=tv) HL.out.1 h4.drop
end Go.Proofs.YtjcldoejpldcmaaGreatDoor
