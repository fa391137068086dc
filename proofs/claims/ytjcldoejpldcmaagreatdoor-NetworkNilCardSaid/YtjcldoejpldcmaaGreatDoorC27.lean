/- Parts of a proof (NetM, Law, NetN). No condition. -/
import Derived.Test.YtjcldoejpldcmaaGreatDoorC26
import Derived.Test.YtjcldoejpldcmaaGreatDoorRows
import Derived.Test.YtjcldoejpldcmaaGreatDoorC1
import Derived.ProofKit
import Derived.OpenShut
import Derived.ShutString
import Derived.ChangeOld
import Derived.Deep.Slices
import Derived.Lib.LaidTab
import Derived.Test.YtjcldoejpldcmaaGreatDoorC25
namespace Go.Proofs.YtjcldoejpldcmaaGreatDoor
set_option maxRecDepth 100000
set_option maxHeartbeats 6400000
open Go.RowKit
abbrev TNcf:TypeId:=25
def Ncf.good (c:Ncf):Bool:=!badP c.t200 && !badP c.t201 && !badP c.t203
abbrev Ncf.cells (c:Ncf):List Value:=[.int .i64 c.k,.int .i64 c.n200,.int .i64 c.t200,.int .i64 c.t201,.int .i64 c.t203]
theorem nw_new_bad (cf:Ncf) (hg:cf.good=false) (w0 w:World) (R:HP) (h:St w0 w R) :
  Calls Tryz.prog 10 #[.agg cf.cells.toArray] w fun r w'=>r=.returned (.tuple #[.pointer none,.int .i64 2])/\St w0 w' R:=by
 have h1:=h.alloc (.cells cf.cells.toArray TNcf);obtain⟨c1,c2,c3,c4,c5⟩:=cf;simp only[Ncf.cells] at *;unfold Ncf.good at hg;simp only[] at hg;cases b4:badP c3 with
 | true =>
   rcases badP_t b4 with q1 | ⟨q1,q2⟩
   ·clear hg b4
    have cg:=h1.cell;have x0:=fun w=>(ix3 c3 c4 c5 w).1
    have x1:=fun w=>(ix3 c3 c4 c5 w).2.1
    have x2:=fun w=>(ix3 c3 c4 c5 w).2.2
    go_enter Tryz.func10,Tryz.ntmps10
    go_upto_region 1 with fail
    generalize w.alloc _=wa at *;generalize w.heap.size=ga at *;go_wp2;go_loop [13] (fun s=>∃ i:Nat,i<=0/\s=.int .i64 i) (fun s=>4 - (intOf s).toNat)
    case atStart=>exact⟨0,by omega,rfl⟩
    case round =>
     obtain⟨i,hi,rfl⟩:=hrel;obtain rfl:i=0:=by omega
     go_wp2;go_ret2
     exact⟨rfl,h1.drop⟩
   ·clear hg b4
    have cg:=h1.cell;have x0:=fun w=>(ix3 c3 c4 c5 w).1
    have x1:=fun w=>(ix3 c3 c4 c5 w).2.1
    have x2:=fun w=>(ix3 c3 c4 c5 w).2.2
    go_enter Tryz.func10,Tryz.ntmps10
    go_upto_region 1 with fail
    generalize w.alloc _=wa at *;generalize w.heap.size=ga at *;go_wp2;go_loop [13] (fun s=>∃ i:Nat,i<=0/\s=.int .i64 i) (fun s=>4 - (intOf s).toNat)
    case atStart=>exact⟨0,by omega,rfl⟩
    case round =>
     obtain⟨i,hi,rfl⟩:=hrel;obtain rfl:i=0:=by omega
     go_wp2;go_ret2
     exact⟨rfl,h1.drop⟩
 | false =>
   obtain⟨q1,q2⟩:=badP_f b4;cases b5:badP c4 with
   | true =>
     rcases badP_t b5 with q3 | ⟨q3,q4⟩
     ·clear hg b4 b5
      have cg:=h1.cell;have x0:=fun w=>(ix3 c3 c4 c5 w).1
      have x1:=fun w=>(ix3 c3 c4 c5 w).2.1
      have x2:=fun w=>(ix3 c3 c4 c5 w).2.2
      go_enter Tryz.func10,Tryz.ntmps10
      go_upto_region 1 with fail
      generalize w.alloc _=wa at *;generalize w.heap.size=ga at *;go_wp2;go_loop [13] (fun s=>∃ i:Nat,i<=1/\s=.int .i64 i) (fun s=>4 - (intOf s).toNat)
      case atStart=>exact⟨0,by omega,rfl⟩
      case round =>
       obtain⟨i,hi,rfl⟩:=hrel;rcases (show i=0\/i=1 by omega) with rfl | rfl
       ·go_wp2
        go_round
        case rel=>exact⟨0+1,by omega,rfl⟩
        case measure=>simp[intOf]
       ·go_wp2
        go_ret2
        exact⟨rfl,h1.drop⟩
     ·clear hg b4 b5
      have cg:=h1.cell;have x0:=fun w=>(ix3 c3 c4 c5 w).1
      have x1:=fun w=>(ix3 c3 c4 c5 w).2.1
      have x2:=fun w=>(ix3 c3 c4 c5 w).2.2
      go_enter Tryz.func10,Tryz.ntmps10
      go_upto_region 1 with fail
      generalize w.alloc _=wa at *;generalize w.heap.size=ga at *;go_wp2;go_loop [13] (fun s=>∃ i:Nat,i<=1/\s=.int .i64 i) (fun s=>4 - (intOf s).toNat)
      case atStart=>exact⟨0,by omega,rfl⟩
      case round =>
       obtain⟨i,hi,rfl⟩:=hrel;rcases (show i=0\/i=1 by omega) with rfl | rfl
       ·go_wp2
        go_round
        case rel=>exact⟨0+1,by omega,rfl⟩
        case measure=>simp[intOf]
       ·go_wp2
        go_ret2
        exact⟨rfl,h1.drop⟩
   | false =>
     obtain⟨q3,q4⟩:=badP_f b5;have b6:badP c5=true:=by rw[b4,b5] at hg;simpa using hg
     rcases badP_t b6 with q5 | ⟨q5,q6⟩
     ·clear hg b4 b5 b6
      have cg:=h1.cell;have x0:=fun w=>(ix3 c3 c4 c5 w).1
      have x1:=fun w=>(ix3 c3 c4 c5 w).2.1
      have x2:=fun w=>(ix3 c3 c4 c5 w).2.2
      go_enter Tryz.func10,Tryz.ntmps10
      go_upto_region 1 with fail
      generalize w.alloc _=wa at *;generalize w.heap.size=ga at *;go_wp2;go_loop [13] (fun s=>∃ i:Nat,i<=2/\s=.int .i64 i) (fun s=>4 - (intOf s).toNat)
      case atStart=>exact⟨0,by omega,rfl⟩
      case round =>
       obtain⟨i,hi,rfl⟩:=hrel;rcases (show i=0\/i=1\/i=2 by omega) with rfl | rfl | rfl
       ·go_wp2
        go_round
        case rel=>exact⟨0+1,by omega,rfl⟩
        case measure=>simp[intOf]
       ·go_wp2
        go_round
        case rel=>exact⟨1+1,by omega,rfl⟩
        case measure=>simp[intOf]
       ·go_wp2
        go_ret2
        exact⟨rfl,h1.drop⟩
     ·clear hg b4 b5 b6
      have cg:=h1.cell;have x0:=fun w=>(ix3 c3 c4 c5 w).1
      have x1:=fun w=>(ix3 c3 c4 c5 w).2.1
      have x2:=fun w=>(ix3 c3 c4 c5 w).2.2
      go_enter Tryz.func10,Tryz.ntmps10
      go_upto_region 1 with fail
      generalize w.alloc _=wa at *;generalize w.heap.size=ga at *;go_wp2;go_loop [13] (fun s=>∃ i:Nat,i<=2/\s=.int .i64 i) (fun s=>4 - (intOf s).toNat)
      case atStart=>exact⟨0,by omega,rfl⟩
      case round =>
       obtain⟨i,hi,rfl⟩:=hrel;rcases (show i=0\/i=1\/i=2 by omega) with rfl | rfl | rfl
       ·go_wp2
        go_round
        case rel=>exact⟨0+1,by omega,rfl⟩
        case measure=>simp[intOf]
       ·go_wp2
        go_round
        case rel=>exact⟨1+1,by omega,rfl⟩
        case measure=>simp[intOf]
       ·go_wp2
        go_ret2
        exact⟨rfl,h1.drop⟩
theorem nnew_end {w0 w:World} {R:HP} {g s m b c p:Nat} {c1 c2 c3 c4 c5:Int} (h:St w0 w (blk g (.cells #[.int .i64 c1,.int .i64 c2,.int .i64 c3,.int .i64 c4,.int .i64 c5,ptr s,ptrX m,.map (some b),ptrC c,ptrD p,.int .i64 0,.slice none 0 0,.slice none 0 0] TNt (0,0))*(SAt s ⟨⟨0,62⟩,[]⟩*(XAt m ⟨mostOf 128,[]⟩*(MAt kInt ptr b []*(CAt c []*(DeAt p .new*R))))))):St w0 w (NwOff g (newNw ⟨c1,c2,c3,c4,c5⟩)*R) :=
 St.noff_shut (x:=newNw ⟨c1,c2,c3,c4,c5⟩) (q:=⟨s,m,b,c,p⟩) (sv:=.slice none 0 0) (tv:=.slice none 0 0) (L:=[]) rfl (h.eq (show _=blk g _*(SAt s ⟨⟨0,62⟩,[]⟩*(XAt m ⟨128,[]⟩*(MAt kInt ptr b []*(1*(CAt c []*(DeAt p .new*R)))))) by rw[one_star];rfl))
theorem nw_new (cf:Ncf) (hg:cf.good=true) (w0 w:World) (R:HP) (h:St w0 w R) :
  Calls Tryz.prog 10 #[.agg cf.cells.toArray] w fun r w'=>∃ t,r=.returned (.tuple #[ptr t,.int .i64 0])/\St w0 w' (NwOff t (newNw cf)*R):=by
 have h1:=h.alloc (.cells cf.cells.toArray TNcf);have hmm:=@run_makeMap Tryz.prog;obtain⟨c1,c2,c3,c4,c5⟩:=cf;simp only[Ncf.cells] at *;unfold Ncf.good at hg;simp only[Bool.and_eq_true,Bool.not_eq_true'] at hg;obtain⟨⟨b4,b5⟩,b6⟩:=hg;obtain⟨q1,q2⟩:=badP_f b4;obtain⟨q3,q4⟩:=badP_f b5;obtain⟨q5,q6⟩:=badP_f b6;clear b4 b5 b6 h;have cg:=h1.cell;have x0:=fun w=>(ix3 c3 c4 c5 w).1
 have x1:=fun w=>(ix3 c3 c4 c5 w).2.1
 have x2:=fun w=>(ix3 c3 c4 c5 w).2.2
 go_enter Tryz.func10,Tryz.ntmps10
 go_upto_region 1 with fail
 generalize w.alloc _=wa at *;generalize w.heap.size=ga at *;go_wp2;go_loop [13] (fun s=>∃ i:Nat,i<=3/\s=.int .i64 i) (fun s=>4 - (intOf s).toNat)
 case atStart=>exact⟨0,by omega,rfl⟩
 case round =>
  obtain⟨i,hi,rfl⟩:=hrel;rcases (show i=0\/i=1\/i=2\/i=3 by omega) with rfl | rfl | rfl | rfl
  ·go_wp2
   go_round
   case rel=>exact⟨0+1,by omega,rfl⟩
   case measure=>simp[intOf]
  ·go_wp2
   go_round
   case rel=>exact⟨1+1,by omega,rfl⟩
   case measure=>simp[intOf]
  ·go_wp2
   go_round
   case rel=>exact⟨2+1,by omega,rfl⟩
   case measure=>simp[intOf]
  ·have h1:=h1.drew
   have e0:wa.drew.cell? ⟨ga,0,none⟩=some (.int .i64 c1):=(h1.cell 0).trans rfl;have e1:wa.drew.cell? ⟨ga,1,none⟩=some (.int .i64 c2):=(h1.cell 1).trans rfl;have e2:wa.drew.cell? ⟨ga,2,none⟩=some (.int .i64 c3):=(h1.cell 2).trans rfl;have e3:wa.drew.cell? ⟨ga,3,none⟩=some (.int .i64 c4):=(h1.cell 3).trans rfl;have e4:wa.drew.cell? ⟨ga,4,none⟩=some (.int .i64 c5):=(h1.cell 4).trans rfl;clear x0 x1 x2 q1 q2 q3 q4 q5 q6 cg;go_upto_region 7 with fail
   refine wp_region_held_drew (S:=fun wx=>wx.cell? ⟨ga,0,none⟩=some (.int .i64 c1)/\wx.cell? ⟨ga,1,none⟩=some (.int .i64 c2)/\wx.cell? ⟨ga,2,none⟩=some (.int .i64 c3)/\wx.cell? ⟨ga,3,none⟩=some (.int .i64 c4)/\wx.cell? ⟨ga,4,none⟩=some (.int .i64 c5)) (by kernel_rfl) ⟨e0,e1,e2,e3,e4⟩ (fun hHeld=>?_)
   clear e0 e1 e2 e3 e4;generalize wa.drew=wd at *;refine tk 0 ?_ rfl (fun w hSw=>?_) ?_
   rotate_left 1
   ·try dsimp only at hSw
    go_simp
    try with_reducible rfl
   try simp only[Act.put,sl]
   refine wpAnyH_ready (rs:=[1,3]) (by kernel_rfl) (by simp) ?_
   refine AllReadyH.cons (o:=⟨_,_,_,_,_,_⟩) rfl (fun K hK=>?_) (AllReadyH.cons (o:=⟨_,_,_,_,_,_⟩) rfl (fun K hK=>?_) AllReadyH.nil)
   ·go_simp
    go_at_call 28
    refine (so_new w0 _ _ h1).mono ?_
    rintro r wh1_ ⟨s,rfl,kh1_⟩;have h1_:=kh1_.f2;have cc:=h1_.cell;go_simp
    refine hK.out _ _ ⟨(cc 0).trans rfl,(cc 1).trans rfl,(cc 2).trans rfl,(cc 3).trans rfl,(cc 4).trans rfl⟩ (fun hHeld=>?_)
    clear hK K;try simp only[Act.put,sl]
    clear cc kh1_ h1;refine wpAnyH_ready (rs:=[2,3]) (by kernel_rfl) (by simp) ?_
    refine AllReadyH.cons (o:=⟨_,_,_,_,_,_⟩) rfl (fun K hK=>?_) (AllReadyH.cons (o:=⟨_,_,_,_,_,_⟩) rfl (fun K hK=>?_) AllReadyH.nil)
    ·go_simp
     go_at_call 29
     refine (x_new 128 w0 _ _ h1_).mono ?_
     rintro r wh2_ ⟨m,rfl,kh2_⟩;have h2_:=kh2_.f2;have cc:=h2_.cell;go_simp
     refine hK.out _ _ ⟨(cc 0).trans rfl,(cc 1).trans rfl,(cc 2).trans rfl,(cc 3).trans rfl,(cc 4).trans rfl⟩ (fun hHeld=>?_)
     clear hK K;try simp only[Act.put,sl]
     clear cc kh2_ h1_;refine wpAnyH_ready (rs:=[3,4]) (by kernel_rfl) (by simp) ?_
     refine AllReadyH.cons (o:=⟨_,_,_,_,_,_⟩) rfl (fun K hK=>?_) (AllReadyH.cons (o:=⟨_,_,_,_,_,_⟩) rfl (fun K hK=>?_) AllReadyH.nil)
     ·go_simp
      have h3_:=(h2_.map_new kInt ptr).f2;have cc:=h3_.cell;go_simp
      refine hK.out _ _ ⟨(cc 0).trans rfl,(cc 1).trans rfl,(cc 2).trans rfl,(cc 3).trans rfl,(cc 4).trans rfl⟩ (fun hHeld=>?_)
      clear hK K;try simp only[Act.put,sl]
      clear cc h2_;generalize World.alloc _ _=wz at *;generalize Array.size (World.heap _)=b at *;refine rd 4 rfl (fun K hK=>?_)
      go_simp
      go_at_call 30
      refine (c_new w0 _ _ h3_).mono ?_
      rintro r wh4_ ⟨c,rfl,kh4_⟩;have h4_:=kh4_.f2;have cc:=h4_.cell;go_simp
      refine hK.out _ _ ⟨(cc 0).trans rfl,(cc 1).trans rfl,(cc 2).trans rfl,(cc 3).trans rfl,(cc 4).trans rfl⟩ (fun hHeld=>?_)
      clear hK K;try simp only[Act.put,sl]
      clear cc kh4_ h3_;refine rd 5 rfl (fun K hK=>?_)
      go_simp
      go_at_call 22
      refine (d_new w0 _ _ h4_).mono ?_
      rintro r wh5_ ⟨p,rfl,kh5_⟩;have h5_:=kh5_.f2;have cc:=h5_.cell;go_simp
      refine hK.out _ _ ⟨(cc 0).trans rfl,(cc 1).trans rfl,(cc 2).trans rfl,(cc 3).trans rfl,(cc 4).trans rfl⟩ (fun hHeld=>?_)
      clear hK K;try simp only[Act.put,sl]
      clear cc kh5_ h4_;refine tk 6 ?_ rfl (fun w hSw=>?_) ?_
      rotate_left 1
      ·try dsimp only at hSw
       go_simp
       try with_reducible rfl
      try simp only[Act.put,sl]
      refine rd 7 rfl (fun K hK=>?_)
      go_simp
      have h6:=h5_.alloc (.cells #[.int .i64 c1,.int .i64 c2,.int .i64 c3,.int .i64 c4,.int .i64 c5,ptr s,ptrX m,.map (some b),ptrC c,ptrD p,.int .i64 0,.slice none 0 0,.slice none 0 0] TNt);have cc:=h6.f2.cell;go_simp
      refine hK.out _ _ ⟨(cc 0).trans rfl,(cc 1).trans rfl,(cc 2).trans rfl,(cc 3).trans rfl,(cc 4).trans rfl⟩ (fun hHeld=>?_)
      clear hK K;try simp only[Act.put,sl]
      clear cc;refine tk 8 ?_ rfl (fun w hSw=>?_) ?_
      rotate_left 1
      ·try dsimp only at hSw
       go_simp
       try with_reducible rfl
      try simp only[Act.put,sl]
      refine tk 9 ?_ rfl (fun w hSw=>?_) ?_
      rotate_left 1
      ·try dsimp only at hSw
       go_simp
       try with_reducible rfl
      try simp only[Act.put,sl]
      refine wpAnyH_done (by kernel_rfl) ?_ _
      have h8:=nnew_end (h6.f2.drop.eq (show _=blk _ _*(SAt s ⟨⟨0,62⟩,[]⟩*(XAt m ⟨mostOf 128,[]⟩*(MAt kInt ptr b []*(CAt c []*(DeAt p .new*R))))) by ac_rfl));clear h6 h5_ hHeld;go_wp2;go_ret2
      exact⟨_,rfl,h8⟩
     ·go_simp
      go_at_call 30
      refine (c_new w0 _ _ h2_).mono ?_
      rintro r wh6_ ⟨c,rfl,kh6_⟩;have h6_:=kh6_.f2;have cc:=h6_.cell;go_simp
      refine hK.out _ _ ⟨(cc 0).trans rfl,(cc 1).trans rfl,(cc 2).trans rfl,(cc 3).trans rfl,(cc 4).trans rfl⟩ (fun hHeld=>?_)
      clear hK K;try simp only[Act.put,sl]
      clear cc kh6_ h2_;refine wpAnyH_ready (rs:=[3,5]) (by kernel_rfl) (by simp) ?_
      refine AllReadyH.cons (o:=⟨_,_,_,_,_,_⟩) rfl (fun K hK=>?_) (AllReadyH.cons (o:=⟨_,_,_,_,_,_⟩) rfl (fun K hK=>?_) AllReadyH.nil)
      ·go_simp
       have h7_:=(h6_.map_new kInt ptr).f2;have cc:=h7_.cell;go_simp
       refine hK.out _ _ ⟨(cc 0).trans rfl,(cc 1).trans rfl,(cc 2).trans rfl,(cc 3).trans rfl,(cc 4).trans rfl⟩ (fun hHeld=>?_)
       clear hK K;try simp only[Act.put,sl]
       clear cc h6_;generalize World.alloc _ _=wz at *;generalize Array.size (World.heap _)=b at *;refine rd 5 rfl (fun K hK=>?_)
       go_simp
       go_at_call 22
       refine (d_new w0 _ _ h7_).mono ?_
       rintro r wh8_ ⟨p,rfl,kh8_⟩;have h8_:=kh8_.f2;have cc:=h8_.cell;go_simp
       refine hK.out _ _ ⟨(cc 0).trans rfl,(cc 1).trans rfl,(cc 2).trans rfl,(cc 3).trans rfl,(cc 4).trans rfl⟩ (fun hHeld=>?_)
       clear hK K;try simp only[Act.put,sl]
       clear cc kh8_ h7_;refine tk 6 ?_ rfl (fun w hSw=>?_) ?_
       rotate_left 1
       ·try dsimp only at hSw
        go_simp
        try with_reducible rfl
       try simp only[Act.put,sl]
       refine rd 7 rfl (fun K hK=>?_)
       go_simp
       have h6:=h8_.alloc (.cells #[.int .i64 c1,.int .i64 c2,.int .i64 c3,.int .i64 c4,.int .i64 c5,ptr s,ptrX m,.map (some b),ptrC c,ptrD p,.int .i64 0,.slice none 0 0,.slice none 0 0] TNt);have cc:=h6.f2.cell;go_simp
       refine hK.out _ _ ⟨(cc 0).trans rfl,(cc 1).trans rfl,(cc 2).trans rfl,(cc 3).trans rfl,(cc 4).trans rfl⟩ (fun hHeld=>?_)
       clear hK K;try simp only[Act.put,sl]
       clear cc;refine tk 8 ?_ rfl (fun w hSw=>?_) ?_
       rotate_left 1
       ·try dsimp only at hSw
        go_simp
        try with_reducible rfl
       try simp only[Act.put,sl]
       refine tk 9 ?_ rfl (fun w hSw=>?_) ?_
       rotate_left 1
       ·try dsimp only at hSw
        go_simp
        try with_reducible rfl
       try simp only[Act.put,sl]
       refine wpAnyH_done (by kernel_rfl) ?_ _
       have h8:=nnew_end (h6.f2.drop.eq (show _=blk _ _*(SAt s ⟨⟨0,62⟩,[]⟩*(XAt m ⟨mostOf 128,[]⟩*(MAt kInt ptr b []*(CAt c []*(DeAt p .new*R))))) by ac_rfl));clear h6 h8_ hHeld;go_wp2;go_ret2
       exact⟨_,rfl,h8⟩
      ·go_simp
       go_at_call 22
       refine (d_new w0 _ _ h6_).mono ?_
       rintro r wh9_ ⟨p,rfl,kh9_⟩;have h9_:=kh9_.f2;have cc:=h9_.cell;go_simp
       refine hK.out _ _ ⟨(cc 0).trans rfl,(cc 1).trans rfl,(cc 2).trans rfl,(cc 3).trans rfl,(cc 4).trans rfl⟩ (fun hHeld=>?_)
       clear hK K;try simp only[Act.put,sl]
       clear cc kh9_ h6_;refine rd 3 rfl (fun K hK=>?_)
       go_simp
       have h10_:=(h9_.map_new kInt ptr).f2;have cc:=h10_.cell;go_simp
       refine hK.out _ _ ⟨(cc 0).trans rfl,(cc 1).trans rfl,(cc 2).trans rfl,(cc 3).trans rfl,(cc 4).trans rfl⟩ (fun hHeld=>?_)
       clear hK K;try simp only[Act.put,sl]
       clear cc h9_;generalize World.alloc _ _=wz at *;generalize Array.size (World.heap _)=b at *;refine tk 6 ?_ rfl (fun w hSw=>?_) ?_
       rotate_left 1
       ·try dsimp only at hSw
        go_simp
        try with_reducible rfl
       try simp only[Act.put,sl]
       refine rd 7 rfl (fun K hK=>?_)
       go_simp
       have h6:=h10_.alloc (.cells #[.int .i64 c1,.int .i64 c2,.int .i64 c3,.int .i64 c4,.int .i64 c5,ptr s,ptrX m,.map (some b),ptrC c,ptrD p,.int .i64 0,.slice none 0 0,.slice none 0 0] TNt);have cc:=h6.f2.cell;go_simp
       refine hK.out _ _ ⟨(cc 0).trans rfl,(cc 1).trans rfl,(cc 2).trans rfl,(cc 3).trans rfl,(cc 4).trans rfl⟩ (fun hHeld=>?_)
       clear hK K;try simp only[Act.put,sl]
       clear cc;refine tk 8 ?_ rfl (fun w hSw=>?_) ?_
       rotate_left 1
       ·try dsimp only at hSw
        go_simp
        try with_reducible rfl
       try simp only[Act.put,sl]
       refine tk 9 ?_ rfl (fun w hSw=>?_) ?_
       rotate_left 1
       ·try dsimp only at hSw
        go_simp
        try with_reducible rfl
       try simp only[Act.put,sl]
       refine wpAnyH_done (by kernel_rfl) ?_ _
       have h8:=nnew_end (h6.f2.drop.eq (show _=blk _ _*(SAt s ⟨⟨0,62⟩,[]⟩*(XAt m ⟨mostOf 128,[]⟩*(MAt kInt ptr b []*(CAt c []*(DeAt p .new*R))))) by ac_rfl));clear h6 h10_ hHeld;go_wp2;go_ret2
       exact⟨_,rfl,h8⟩
    ·go_simp
     have h11_:=(h1_.map_new kInt ptr).f2;have cc:=h11_.cell;go_simp
     refine hK.out _ _ ⟨(cc 0).trans rfl,(cc 1).trans rfl,(cc 2).trans rfl,(cc 3).trans rfl,(cc 4).trans rfl⟩ (fun hHeld=>?_)
     clear hK K;try simp only[Act.put,sl]
     clear cc h1_;generalize World.alloc _ _=wz at *;generalize Array.size (World.heap _)=b at *;refine rd 2 rfl (fun K hK=>?_)
     go_simp
     go_at_call 29
     refine (x_new 128 w0 _ _ h11_).mono ?_
     rintro r wh12_ ⟨m,rfl,kh12_⟩;have h12_:=kh12_.f2;have cc:=h12_.cell;go_simp
     refine hK.out _ _ ⟨(cc 0).trans rfl,(cc 1).trans rfl,(cc 2).trans rfl,(cc 3).trans rfl,(cc 4).trans rfl⟩ (fun hHeld=>?_)
     clear hK K;try simp only[Act.put,sl]
     clear cc kh12_ h11_;refine rd 4 rfl (fun K hK=>?_)
     go_simp
     go_at_call 30
     refine (c_new w0 _ _ h12_).mono ?_
     rintro r wh13_ ⟨c,rfl,kh13_⟩;have h13_:=kh13_.f2;have cc:=h13_.cell;go_simp
     refine hK.out _ _ ⟨(cc 0).trans rfl,(cc 1).trans rfl,(cc 2).trans rfl,(cc 3).trans rfl,(cc 4).trans rfl⟩ (fun hHeld=>?_)
     clear hK K;try simp only[Act.put,sl]
     clear cc kh13_ h12_;refine rd 5 rfl (fun K hK=>?_)
     go_simp
     go_at_call 22
     refine (d_new w0 _ _ h13_).mono ?_
     rintro r wh14_ ⟨p,rfl,kh14_⟩;have h14_:=kh14_.f2;have cc:=h14_.cell;go_simp
     refine hK.out _ _ ⟨(cc 0).trans rfl,(cc 1).trans rfl,(cc 2).trans rfl,(cc 3).trans rfl,(cc 4).trans rfl⟩ (fun hHeld=>?_)
     clear hK K;try simp only[Act.put,sl]
     clear cc kh14_ h13_;refine tk 6 ?_ rfl (fun w hSw=>?_) ?_
     rotate_left 1
     ·try dsimp only at hSw
      go_simp
      try with_reducible rfl
     try simp only[Act.put,sl]
     refine rd 7 rfl (fun K hK=>?_)
     go_simp
     have h6:=h14_.alloc (.cells #[.int .i64 c1,.int .i64 c2,.int .i64 c3,.int .i64 c4,.int .i64 c5,ptr s,ptrX m,.map (some b),ptrC c,ptrD p,.int .i64 0,.slice none 0 0,.slice none 0 0] TNt);have cc:=h6.f2.cell;go_simp
     refine hK.out _ _ ⟨(cc 0).trans rfl,(cc 1).trans rfl,(cc 2).trans rfl,(cc 3).trans rfl,(cc 4).trans rfl⟩ (fun hHeld=>?_)
     clear hK K;try simp only[Act.put,sl]
     clear cc;refine tk 8 ?_ rfl (fun w hSw=>?_) ?_
     rotate_left 1
     ·try dsimp only at hSw
      go_simp
      try with_reducible rfl
     try simp only[Act.put,sl]
     refine tk 9 ?_ rfl (fun w hSw=>?_) ?_
     rotate_left 1
     ·try dsimp only at hSw
      go_simp
      try with_reducible rfl
     try simp only[Act.put,sl]
     refine wpAnyH_done (by kernel_rfl) ?_ _
     have h8:=nnew_end (h6.f2.drop.eq (show _=blk _ _*(SAt s ⟨⟨0,62⟩,[]⟩*(XAt m ⟨mostOf 128,[]⟩*(MAt kInt ptr b []*(CAt c []*(DeAt p .new*R))))) by ac_rfl));clear h6 h14_ hHeld;go_wp2;go_ret2
     exact⟨_,rfl,h8⟩
   ·go_simp
    have h15_:=(h1.map_new kInt ptr).f2;have cc:=h15_.cell;go_simp
    refine hK.out _ _ ⟨(cc 0).trans rfl,(cc 1).trans rfl,(cc 2).trans rfl,(cc 3).trans rfl,(cc 4).trans rfl⟩ (fun hHeld=>?_)
    clear hK K;try simp only[Act.put,sl]
    clear cc h1;generalize World.alloc _ _=wz at *;generalize Array.size (World.heap _)=b at *;refine rd 1 rfl (fun K hK=>?_)
    go_simp
    go_at_call 28
    refine (so_new w0 _ _ h15_).mono ?_
    rintro r wh16_ ⟨s,rfl,kh16_⟩;have h16_:=kh16_.f2;have cc:=h16_.cell;go_simp
    refine hK.out _ _ ⟨(cc 0).trans rfl,(cc 1).trans rfl,(cc 2).trans rfl,(cc 3).trans rfl,(cc 4).trans rfl⟩ (fun hHeld=>?_)
    clear hK K;try simp only[Act.put,sl]
    clear cc kh16_ h15_;refine rd 2 rfl (fun K hK=>?_)
    go_simp
    go_at_call 29
    refine (x_new 128 w0 _ _ h16_).mono ?_
    rintro r wh17_ ⟨m,rfl,kh17_⟩;have h17_:=kh17_.f2;have cc:=h17_.cell;go_simp
    refine hK.out _ _ ⟨(cc 0).trans rfl,(cc 1).trans rfl,(cc 2).trans rfl,(cc 3).trans rfl,(cc 4).trans rfl⟩ (fun hHeld=>?_)
    clear hK K;try simp only[Act.put,sl]
    clear cc kh17_ h16_;refine rd 4 rfl (fun K hK=>?_)
    go_simp
    go_at_call 30
    refine (c_new w0 _ _ h17_).mono ?_
    rintro r wh18_ ⟨c,rfl,kh18_⟩;have h18_:=kh18_.f2;have cc:=h18_.cell;go_simp
    refine hK.out _ _ ⟨(cc 0).trans rfl,(cc 1).trans rfl,(cc 2).trans rfl,(cc 3).trans rfl,(cc 4).trans rfl⟩ (fun hHeld=>?_)
    clear hK K;try simp only[Act.put,sl]
    clear cc kh18_ h17_;refine rd 5 rfl (fun K hK=>?_)
    go_simp
    go_at_call 22
    refine (d_new w0 _ _ h18_).mono ?_
    rintro r wh19_ ⟨p,rfl,kh19_⟩;have h19_:=kh19_.f2;have cc:=h19_.cell;go_simp
    refine hK.out _ _ ⟨(cc 0).trans rfl,(cc 1).trans rfl,(cc 2).trans rfl,(cc 3).trans rfl,(cc 4).trans rfl⟩ (fun hHeld=>?_)
    clear hK K;try simp only[Act.put,sl]
    clear cc kh19_ h18_;refine tk 6 ?_ rfl (fun w hSw=>?_) ?_
    rotate_left 1
    ·try dsimp only at hSw
     go_simp
     try with_reducible rfl
    try simp only[Act.put,sl]
    refine rd 7 rfl (fun K hK=>?_)
    go_simp
    have h6:=h19_.alloc (.cells #[.int .i64 c1,.int .i64 c2,.int .i64 c3,.int .i64 c4,.int .i64 c5,ptr s,ptrX m,.map (some b),ptrC c,ptrD p,.int .i64 0,.slice none 0 0,.slice none 0 0] TNt);have cc:=h6.f2.cell;go_simp
    refine hK.out _ _ ⟨(cc 0).trans rfl,(cc 1).trans rfl,(cc 2).trans rfl,(cc 3).trans rfl,(cc 4).trans rfl⟩ (fun hHeld=>?_)
    clear hK K;try simp only[Act.put,sl]
    clear cc;refine tk 8 ?_ rfl (fun w hSw=>?_) ?_
    rotate_left 1
    ·try dsimp only at hSw
     go_simp
     try with_reducible rfl
    try simp only[Act.put,sl]
    refine tk 9 ?_ rfl (fun w hSw=>?_) ?_
    rotate_left 1
    ·try dsimp only at hSw
     go_simp
     try with_reducible rfl
    try simp only[Act.put,sl]
    refine wpAnyH_done (by kernel_rfl) ?_ _
    have h8:=nnew_end (h6.f2.drop.eq (show _=blk _ _*(SAt s ⟨⟨0,62⟩,[]⟩*(XAt m ⟨mostOf 128,[]⟩*(MAt kInt ptr b []*(CAt c []*(DeAt p .new*R))))) by ac_rfl));clear h6 h19_ hHeld;go_wp2;go_ret2
    exact⟨_,rfl,h8⟩
open Go.ChangeShapes Go.WideShapes Go.ChangeAt Go.RowKit Go.Deep
inductive Sh where
 | int (k:IntKind)
 | bool
 | string
 | slice (e:Sh)
 | unit
 | pair (a b:Sh)
 | arr (n:Nat) (e:Sh)
def Sh.size:Sh->Nat
 | .unit=>0
 | .arr n e=>n*e.size
 | .pair a b=>a.size+b.size
 | _=>1
def Sh.ok (w:World):Sh->List Value->Prop
 | .int k,cs=>∃ n,cs=[.int k n]/\(Lit.int k n).wf=true
 | .bool,cs=>∃ b,cs=[.bool b]
 | .string,cs=>∃ s:ByteArray,cs=[.string s]/\s.size<=maxLen
 | .slice e,cs=>∃ a len cap,cs=[.slice a len cap]/\len<=cap/\cap<=maxLen /\
    ∀ i,i<len->∃ ad xs,a=some ad/\xs.length=e.size/\(∀ j,j<e.size->w.cell? (ad.add (i*e.size+j))=xs[j]?)/\e.ok w xs
 | .unit,cs=>cs=[]
 | .pair a b,cs=>∃ x y,cs=x++y/\x.length=a.size/\a.ok w x/\b.ok w y
 | .arr n e,cs=>cs.length=n*e.size/\∀ i,i<n->e.ok w ((cs.drop (i*e.size)).take e.size)
def Sh.fits (P:Program):Sh->TypeId ⊕ (Nat × List Field)->Bool
 | .int k,.inl t=>match P.underlying t with
   | some (.int k')=>k' == k
   | _=>false
 | .bool,.inl t=>match P.underlying t with
   | some .bool=>true
   | _=>false
 | .string,.inl t=>match P.underlying t with
   | some .string=>true
   | _=>false
 | .slice e,.inl t=>match P.underlying t with
   | some (.slice u)=>P.cellsOf u == e.size && e.fits P (.inl u)
   | _=>false
 | .pair a b,.inl t=>match P.underlying t with
   | some (.struct fs)=>match fs.toList with
     | f :: fs=>P.cellsOf t == a.size+b.size && f.offset == 0 && P.cellsOf f.type == a.size && a.fits P (.inl f.type) && b.fits P (.inr (a.size,fs))
     | []=>false
   | _=>false
 | .pair a b,.inr (o,f :: fs)=>f.offset == o && P.cellsOf f.type == a.size && a.fits P (.inl f.type) && b.fits P (.inr (o+a.size,fs))
 | .unit,.inr (_,[])=>true
 | .arr n e,.inl t=>match P.underlying t with
   | some (.array m u)=>m == n && P.cellsOf u == e.size && P.cellsOf t == n*e.size && e.fits P (.inl u)
   | _=>false
 | _,_=>false
section
variable {H:Type} {enc:TypeId × Value->H} {P:Program} {w:World} {base:Nat} {spare:Nat->Bool} {held:Bool}
theorem Sh.ok_of (sh:Sh) :
  (∀ t cs fuel (x:DataW H × List MemPlace),sh.fits P (.inl t)=true->DataW.trod enc P w base spare held fuel t cs=some x->sh.ok w cs) /\
  (∀ o (fs:List Field) n (cs:List Value),sh.fits P (.inr (o,fs))=true->(∀ f ∈ fs,∃ y:DataW H × List MemPlace,DataW.trod enc P w base spare held n f.type ((cs.drop f.offset).take (P.cellsOf f.type))=some y)->cs.length=o+sh.size->sh.ok w (cs.drop o)):=by
 induction sh with
 | int k =>
   refine⟨fun t cs fuel x hf h=>?_,fun o fs n cs hf=>by simp[Sh.fits] at hf⟩
   unfold Sh.fits at hf;split at hf
   ·rename_i k' ht
    obtain rfl:k'=k:=by simpa using hf
    obtain⟨n,rfl,_,hw⟩:=DataW.trod_int ht h;exact⟨n,rfl,hw⟩
   ·cases hf
 | bool =>
   refine⟨fun t cs fuel x hf h=>?_,fun o fs n cs hf=>by simp[Sh.fits] at hf⟩
   unfold Sh.fits at hf;split at hf
   ·rename_i ht
    obtain⟨n,rfl,_⟩:=DataW.trod_bool ht h;exact⟨n,rfl⟩
   ·cases hf
 | string =>
   refine⟨fun t cs fuel x hf h=>?_,fun o fs n cs hf=>by simp[Sh.fits] at hf⟩
   unfold Sh.fits at hf;split at hf
   ·rename_i ht
    obtain⟨n,rfl,_,hw⟩:=DataW.trod_string ht h;exact⟨n,rfl,hw⟩
   ·cases hf
 | slice e ih =>
   refine⟨fun t cs fuel x hf h=>?_,fun o fs n cs hf=>by simp[Sh.fits] at hf⟩
   unfold Sh.fits at hf;split at hf
   ·rename_i u ht
    simp only[Bool.and_eq_true,beq_iff_eq] at hf;rcases open_slice ht h with ⟨rfl,_⟩ | ⟨a,len,cap,m,n,D,Pl,rfl,_,hl,hm,hmm,_,hi⟩
    ·exact⟨none,0,0,rfl,Nat.le_refl _,Nat.zero_le _,fun i hi=>by omega⟩
    ·refine⟨some a,len,cap,rfl,hl,hm,fun i him=>?_⟩
     obtain⟨cs',hc,ht'⟩:=hi i (by rw[hmm];split <;> omega);rw[hf.1] at hc;obtain⟨_,hcl,hat⟩:=World.cells?_some hc;refine⟨a,cs',rfl,hcl,fun j hj=>?_,ih.1 u cs' n _ hf.2 ht'⟩
     rw[← Go.Deep.add_add];exact hat j hj
   ·cases hf
 | unit =>
   refine⟨fun t cs fuel x hf=>by simp[Sh.fits] at hf,fun o fs n cs _ _ hl=>?_⟩
   show cs.drop o=[]
   exact List.drop_eq_nil_of_le (by simp[Sh.size] at hl;omega)
 | arr n e ih =>
   refine⟨fun t cs fuel x hf h=>?_,fun o fs n cs hf=>by simp[Sh.fits] at hf⟩
   unfold Sh.fits at hf;split at hf
   ·rename_i m u ht
    simp only[Bool.and_eq_true,beq_iff_eq] at hf;obtain⟨⟨⟨rfl,hc⟩,hz⟩,he⟩:=hf;cases fuel with
    | zero=>simp[DataW.trod] at h
    | succ fuel =>
      simp only[DataW.trod,ht] at h;split at h
      ·rename_i hl
       obtain⟨xs,hm,_⟩:=Option.map_eq_some_iff.1 h;refine⟨hl.trans hz,fun i hi=>?_⟩
       obtain⟨b,_,hf⟩:=Lib.mapM_at hm i i (by simp[hi]);rw[hc] at hf;exact ih.1 _ _ _ _ he hf
      ·cases h
   ·cases hf
 | pair a b iha ihb =>
   have key:∀ o (f:Field) (fs:List Field) n (cs:List Value),f.offset=o->P.cellsOf f.type=a.size->a.fits P (.inl f.type)=true->b.fits P (.inr (o+a.size,fs))=true ->
     (∀ g ∈ f :: fs,∃ y:DataW H × List MemPlace,DataW.trod enc P w base spare held n g.type ((cs.drop g.offset).take (P.cellsOf g.type))=some y)->cs.length=o+(a.size+b.size)->(Sh.pair a b).ok w (cs.drop o):=by
    intro o f fs n cs h1 h2 h3 h4 h5 h6;refine⟨(cs.drop o).take a.size,(cs.drop o).drop a.size,(List.take_append_drop _ _).symm,by simp;omega,?_,?_⟩
    ·obtain⟨y,hy⟩:=h5 f (by simp)
     rw[h1,h2] at hy;exact iha.1 _ _ _ _ h3 hy
    ·rw[List.drop_drop]
     exact ihb.2 (o+a.size) fs n cs h4 (fun g hg=>h5 g (by simp[hg])) (by omega)
   refine⟨fun t cs fuel x hf h=>?_,fun o fs n cs hf hall hl=>?_⟩
   ·unfold Sh.fits at hf
    split at hf
    ·rename_i fs ht
     split at hf
     ·rename_i f gs hfs
      simp only[Bool.and_eq_true,beq_iff_eq] at hf;obtain⟨⟨⟨⟨e0,e1⟩,e2⟩,e3⟩,e4⟩:=hf;obtain⟨xs,n,_,_,hlen,hxl,hg⟩:=DataW.trod_struct ht h;have:=key 0 f gs n cs e1 e2 e3 (by simpa using e4) (fun g hg'=>?_) (by omega)
      ·simpa using this
      ·rw[← hfs] at hg'
       obtain⟨i,hi,hgi⟩:=List.getElem_of_mem hg';have hi':i<fs.size:=by simpa using hi
       have h1:=hg i g (by rw[Array.getElem?_eq_getElem hi'];simpa using hgi);rw[List.getElem?_eq_getElem (by omega)] at h1;exact⟨_,h1⟩
     ·cases hf
    ·cases hf
   ·cases fs with
    | nil=>simp[Sh.fits] at hf
    | cons f fs =>
      simp only[Sh.fits,Bool.and_eq_true,beq_iff_eq] at hf;obtain⟨⟨⟨e1,e2⟩,e3⟩,e4⟩:=hf;exact key o f fs n cs e1 e2 e3 e4 hall (by simpa[Sh.size] using hl)
theorem Sh.opened {sh:Sh} {t:TypeId} {v:Value} {d:DataW H} {p:List MemPlace} (hf:sh.fits P (.inl t)=true) (h:DataW.Trod enc P w base spare held t v d p):sh.ok w v.cells.toList:=by
 obtain⟨n,hn⟩:=h;exact sh.ok_of.1 t _ n _ hf hn
theorem Sh.slice_ok {e:Sh} {a:Option Addr} {len cap:Nat} (h:(Sh.slice e).ok w [.slice a len cap]) (he:0<e.size) :
  len<=cap/\cap<=maxLen/\(0<len->∃ b off,a=some ⟨b,off,none⟩/\b<w.heap.size /\
   ∀ i,i<len->∃ xs,xs.length=e.size/\(∀ j,j<e.size->w.cell? ⟨b,off+i*e.size+j,none⟩=xs[j]?)/\e.ok w xs):=by
 obtain⟨a',len',cap',hv,h1,h2,h3⟩:=h;simp only[List.cons.injEq,Value.slice.injEq,and_true] at hv;obtain⟨rfl,rfl,rfl⟩:=hv;refine⟨h1,h2,fun h0=>?_⟩
 obtain⟨ad,xs,rfl,hl,hc,_⟩:=h3 0 h0;obtain⟨b,off,spot⟩:=ad;have hc0:=hc 0 he;rw[List.getElem?_eq_getElem (by omega)] at hc0;have hspot:spot=none:=by simpa[Addr.add] using World.cell?_spot hc0
 subst hspot;refine⟨b,off,rfl,?_,fun i hi=>?_⟩
 ·have:=World.block_lt_of_cell? _ _ hc0
  simpa[Addr.add] using this
 ·obtain⟨ad,xs,e1,hl,hc,hx⟩:=h3 i hi
  obtain rfl:ad=⟨b,off,none⟩:=by simpa using e1.symm
  refine⟨xs,hl,fun j hj=>?_,hx⟩
  have:=hc j hj
  rw[← this];congr 1
  unfold Addr.add;split <;> simp_all [Nat.add_assoc]
end
def msgT (m:Tm):ByteArray:=bstr (encB (putO m.fr false).data.toList)
theorem l_messageT (m:Tm) (hb:m.bad=0) (w0 w:World) (R:HP) (hN:∀ w',St w0 w' R->NamesAt w') (hF:∀ w',St w0 w' R->FirstAt w') (hL:∀ w',St w0 w' R->LinkAt w') (h:St w0 w R) :
  Calls Tryz.prog 13 #[.agg m.cells.toArray] w fun r w'=>r=.returned (.string (msgT m))/\St w0 w' R:=by
 have h1:=h.alloc (.cells m.cells.toArray TTm);have hk:=m_frame m w0 _ _ (fun w' h=>hL w' h.drop) h1;have hput:=(tm_fr hb).1;have hz:=putO_size (net:=false) hput;rw[hb] at hk;unfold msgT;generalize m.fr=fr at *;have hp:=fun w R hN hF h=>p_put fr false hput w0 w R hN hF h
 generalize putO fr false=oc at *;have he:=fun w R h=>h_encode oc w0 w R h (by omega)
 generalize bstr (encB oc.data.toList)=bs at *;obtain⟨a1,a2,cmd,k,pf,ns,nr,inf⟩:=fr;obtain⟨ty,ri,ai⟩:=m;simp only[Tm.cells,Fr.cells] at *;have cg:=h1.cell;clear hput hz hb h;go_enter Tryz.func13,Tryz.ntmps13
 go_upto_region 1 with fail
 generalize w.alloc _=wa at *;generalize w.heap.size=ga at *;go_upto_region 2 with (go_at_call 34;refine hk.mono ?_;rintro r w5 ⟨rfl,h5⟩)
 have h6:=h5.alloc (.cells #[.int .i64 a1,.int .i64 a2,.bool cmd,.int .i64 k,.bool pf,.int .i64 ns,.int .i64 nr,.string inf] TFr);generalize w5.alloc _=w6 at *;generalize w5.heap.size=gf at *;have c6:=h6.cell;have hq:=hp w6 _ (fun w' h=>hN w' h.drop.drop) (fun w' h=>hF w' h.drop.drop) h6;clear hk h5 hp h1 cg;go_upto_region 3 with (go_at_call 35;refine hq.mono ?_;rintro r w7 ⟨rfl,h7⟩)
 have hq2:=he w7 _ h7;clear hq he h6 c6;go_wp2_with fail
 refine hq2.mono ?_
 rintro r w8 ⟨rfl,h8⟩;clear hq2 h7;go_wp2;go_ret
 exact⟨rfl,h8.drop.drop⟩
def De.idle (d:De):Prop:=d=.new\/d=⟨[],true,0⟩
theorem feed_idle {d:De} (hd:d.idle) (s:List UInt8) (h0:s≠[]) (h1:s.length<=266):d.feed (encB s)=(⟨[],true,0⟩,[⟨0,s⟩]):=by
 have hf:d.feed flagB=De.new.feed flagB:=by rcases hd with rfl | rfl <;> rfl
 have h:=feed_enc s h0 h1;unfold encB at *;rw[List.append_assoc,feed_app] at *;rw[hf];exact h
theorem feed_put {d:De} (hd:d.idle) {f:Fr} (net:Bool) (ok:PutOk f):d.feed (bitsIn (bstr (encB (putO f net).data.toList)).data.toList)=(⟨[],true,0⟩,[⟨0,(putO f net).data.toList⟩]):=by
 rw[bitsIn_bstr];obtain⟨h1,h2⟩:=putO_len (net:=net) ok;exact feed_idle hd _ h1 h2
theorem ncome_msg (x:Nw) (m:Tm) (hb:m.bad=0) (hn:fromNet m.ty=false):x.event ⟨0,(putO m.fr false).data.toList⟩=(x.setS (x.s.message m).1).srcs (x.s.message m).2:=by
 obtain⟨hp,hk⟩:=tm_fr hb;have hg:=get_put false hp;rw[hk] at hg;have ho:=tm_of hb false hn;have e:(⟨(putO m.fr false).data.toList.toArray⟩:ByteArray)=putO m.fr false:=by rw[Array.toArray_toList]
 unfold Nw.event;rw[if_pos rfl];show x.come ⟨(putO m.fr false).data.toList.toArray⟩=_
 rw[e];unfold Nw.come;rw[hg];dsimp only;rw[ho,if_neg (by decide),if_pos rfl]
theorem nbits_msg (x:Nw) (now:Int) (hb:badNow now=false) (hd:x.d.idle) (m:Tm) (h0:m.bad=0) (hn:fromNet m.ty=false) :
  x.bits now (msgT m)=((((x.begin now).setD ⟨[],true,0⟩).setS (x.s.message m).1).srcs (x.s.message m).2,0):=by
 unfold Nw.bits msgT;rw[hb,if_neg (by decide),feed_put hd false (tm_fr h0).1];have e:((x.begin now).setD ⟨[],true,0⟩).s=x.s:=rfl;generalize hx:(x.begin now).setD ⟨[],true,0⟩=y at *;simp only[List.foldl_cons,List.foldl_nil];rw[ncome_msg _ m h0 hn,e]
theorem msgT_size (m:Tm) (hb:m.bad=0):(msgT m).size<=10000:=by
 obtain⟨_,h2⟩:=putO_len (net:=false) (tm_fr hb).1;unfold msgT;have h3:=stuffK_len (ofBits (putO m.fr false).data.toList) 0;rw[ofBits_len] at h3;show (bstr (encB (putO m.fr false).data.toList)).data.size<=_
 unfold bstr encB;simp only[List.size_toArray,List.length_map,List.length_append,List.length_cons,List.length_nil];omega
abbrev wkN:Nw:=newNw ⟨7,3,10,10,100⟩
abbrev wkR:Tm:=⟨1,7,127⟩
abbrev wkA:Tm:=⟨2,7,64⟩
theorem nwk_bits:(wkN.bits 0 (msgT wkR)).2=0/\(wkN.bits 0 (msgT wkR)).1.sent=[bstr (encB (putO wkA.fr true).data.toList)]/\(wkN.bits 0 (msgT wkR)).1.list=[64]/\((mlook (wkN.bits 0 (msgT wkR)).1.l 64).map (·.state))=some 4:=by
 rw[nbits_msg wkN 0 (by kernel_rfl) (.inl rfl) wkR (by kernel_rfl) (by kernel_rfl)];exact⟨by kernel_rfl,by kernel_rfl,by kernel_rfl,by kernel_rfl⟩
theorem npair_eq {α β:Type} {q:α × β} {b:β} (h:q.2=b):q=(q.1,b):=by rw[← h]
theorem nwk_all:∃ (Z:Nw) (e:En),wkN.bits 0 (msgT wkR)=(Z,0)/\Z.sent=[bstr (encB (putO wkA.fr true).data.toList)]/\Z.list=[64]/\mlook Z.l 64=some e/\e.state=4/\Z.Fit:=by
 obtain⟨h1,h2,h3,h4⟩:=nwk_bits;obtain⟨e,he,hs⟩:=Option.map_eq_some_iff.1 h4;have h0:=npair_eq h1;have h9:=nfit_bits (nfit_new ⟨7,3,10,10,100⟩) 0 (msgT wkR);exact⟨_,e,h0,h2,h3,he,hs,h9⟩
end Go.Proofs.YtjcldoejpldcmaaGreatDoor
