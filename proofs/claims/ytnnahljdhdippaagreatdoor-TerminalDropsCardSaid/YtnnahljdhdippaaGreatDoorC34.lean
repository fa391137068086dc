/- Parts of a proof (RefJ, RefK). No condition. -/
import Derived.Test.YtnnahljdhdippaaGreatDoorC33
import Derived.Test.YtnnahljdhdippaaGreatDoorC32
import Derived.Test.YtnnahljdhdippaaGreatDoorC24
import Derived.Test.YtnnahljdhdippaaGreatDoorC19
namespace Go.Proofs.YtnnahljdhdippaaGreatDoor
set_option maxRecDepth 100000
set_option maxHeartbeats 6400000
open Go.RowKit
theorem rh_feed (p:Nat) (r:Rde) (s:ByteArray) (hr:r.s.length<=50000000) (ho:r.o<=100000000000000000) (hs:s.size<=10000000) (w0 w:World) (R:HP) (h:St w0 w (RdeAt p r*R)) :
  Calls Tryz.prog 51 #[ptrD p,.string s] w fun e w'=>∃ v,e=.returned v/\St w0 w' (LAt TREv 2 Ev.cells v (r.feed (bitsIn s.data.toList)).2*(RdeAt p (r.feed (bitsIn s.data.toList)).1*R)):=by
 obtain⟨n,hn⟩:∃ n,s.size=n:=⟨_,rfl⟩;rw[hn] at hs;have HN:=Lib.hid hn;obtain⟨Z,hZ⟩:∃ Z,r.feed (bitsIn s.data.toList)=Z:=⟨_,rfl⟩;rw[hZ];have HZ:=Lib.hid hZ;clear hZ;have h2:=h.l_nil TREv 2 Ev.cells;go_enter Tryz.func51,Tryz.ntmps51
 go_wp2;go_loopw [5,6] (fun s5 s6 wr=>∃ (k:Nat) (X:Rde × List Ev),k<=n/\s6=.int .i64 k/\Hid (r.feed (bitsIn (s.data.toList.take k))=X/\X.1.s.length<=50000000+k/\X.1.o<=100000000000000000+k/\X.2.length<=k)/\St w0 wr (LAt TREv 2 Ev.cells s5 X.2*(RdeAt p X.1*R))) (fun _ s6 _=>n - (intOf s6).toNat)
 case atStart=>exact⟨0,(r,[]),by omega,rfl,Lib.hid ⟨rfl,hr,by show r.o<=_;omega,Nat.le_refl _⟩,h2⟩
 case round =>
  clear h2 h;obtain⟨k,⟨⟨S,W,O⟩,X2⟩,hk,rfl,HX,h3⟩:=hrel;by_cases hlt:k<n
  ·have hkn:(k:Int)<(n:Int):=by omega
   have hi:k<s.data.toList.length:=by have h1:s.data.size=n:=HN.out;rw[Array.length_toList,h1];exact hlt
   obtain⟨o,hoo⟩:∃ o,s.data.toList[k]=o:=⟨_,rfl⟩;have htk:s.data.toList.take (k+1)=s.data.toList.take k++[o]:=by rw[List.take_add_one,List.getElem?_eq_getElem hi,hoo];rfl
   have hx:∀ w,(Instr.index 9 (.string s) (.int .i64 (k:Int))).run Tryz.prog w=.ok (.int .u8 o.toNat) w:=str_ix s n k o HN.out hlt (by rw[List.getElem?_eq_getElem hi,hoo]);obtain⟨x1,x2,x3,x4⟩:=HX.out;simp only[] at x2 x3 x4;have hsn:=rde_snoc r (bitsIn (s.data.toList.take k));rw[x1] at hsn;simp only[] at hsn;clear hoo hi;obtain⟨la,ca,rfl,_,_⟩:=h3.l_shape;have hX2:X2.length<=10000000:=by omega
   by_cases hbit:o.toNat=49\/o.toNat=48
   ·obtain⟨b,hb⟩:∃ b:Bool,bch b=o:=by
     rcases hbit with e | e
     ·exact⟨true,by apply UInt8.toNat_inj.1;rw[e];rfl⟩
     ·exact⟨false,by apply UInt8.toNat_inj.1;rw[e];rfl⟩
    have hbi:bitsIn (s.data.toList.take (k+1))=bitsIn (s.data.toList.take k)++[b]:=by
     rw[htk,bitsIn_app,← hb];cases b <;> rfl
    have hsn2:=hsn b;rw[← hbi] at hsn2;have hl1:=rde_since_len ⟨S,W,O⟩ b;have hl2:=rde_ones ⟨S,W,O⟩ b;have hl3:(X2++((Rde.bit ⟨S,W,O⟩ b).2.toList)).length<=k+1:=by
     have:((Rde.bit ⟨S,W,O⟩ b).2.toList).length<=1:=by cases (Rde.bit ⟨S,W,O⟩ b).2 <;> simp
     rw[List.length_append];omega
    simp only[] at hl1 hl2;have HY:=Lib.hid (show r.feed (bitsIn (s.data.toList.take (k+1)))=((Rde.bit ⟨S,W,O⟩ b).1,X2++(Rde.bit ⟨S,W,O⟩ b).2.toList)/\(Rde.bit ⟨S,W,O⟩ b).1.s.length<=50000000+(k+1)/\(Rde.bit ⟨S,W,O⟩ b).1.o<=100000000000000000+(k+1)/\(X2++(Rde.bit ⟨S,W,O⟩ b).2.toList).length<=k+1 from ⟨hsn2,by omega,by omega,hl3⟩);subst hb;obtain⟨v4,h4⟩:=h3.f2.rd_open;simp only[] at h4;have hS:S.length<=60000000:=by omega
    have hO:(O:Int)<=100000000010000000:=by omega
    have hge:(S.length+[b].length)*1<=140737488355328:=by simp;omega
    clear hsn hsn2 hbit hbi htk HX x1 x2 x3 x4 hl1 hl2 hl3 h3;obtain⟨sa,sc,rfl,_,_⟩:=h4.f2.l_shape;cases W with
    | true =>
      cases b with
      | true =>
        replace hx:∀ w,(Instr.index 9 (.string s) (.int .i64 (k:Int))).run Tryz.prog w=.ok (.int .u8 49) w:=hx
        have c:=h4.cell;have f:=h4.free;go_upto_region 7 with fail
        have hd:=h4.drew;clear c f h4;refine wp_region_held_drew (S:=fun _=>True) (by kernel_rfl) trivial (fun hHeld=>?_)
        generalize wr.drew=wd at *;have cd:=hd.cell;have fd:=hd.free;have hx1:=((hd.alloc (.cells #[.int .u8 49] 5)).l_mk tyCh.len [true] 1 rfl rfl (by decide));have hx2:=hx1.eq (show _=LAt 5 1 encCh (.slice sa S.length sc) S*(LAt 5 1 encCh (.slice (some ⟨wd.heap.size,0,none⟩) 1 1) [true]*(blk p (.cells #[.slice sa S.length sc,.bool true,.int .i64 O] TRdd (0,0))*(LAt TREv 2 Ev.cells (.slice la X2.length ca) X2*R))) by ac_rfl);have ce:=(hd.alloc (.cells #[.int .u8 49] 5)).f2.cell;have HX:=Lib.hid hx2;clear hx1 hx2 hd;refine tk 0 ?_ rfl (fun w hSw=>?_) ?_
        rotate_left 1
        ·try dsimp only at hSw
         go_simp
         try with_reducible rfl
        try simp only[Act.put,sl]
        refine tk 1 ?_ rfl (fun w hSw=>?_) ?_
        rotate_left 1
        ·try dsimp only at hSw
         go_simp
         try with_reducible rfl
        try simp only[Act.put,sl]
        refine tk 2 ?_ rfl (fun w hSw=>?_) ?_
        rotate_left 1
        ·try dsimp only at hSw
         go_simp
         try with_reducible rfl
        try simp only[Act.put,sl]
        refine tk 3 ?_ rfl (fun w hSw=>?_) ?_
        rotate_left 1
        ·try dsimp only at hSw
         go_simp
         try with_reducible rfl
        try simp only[Act.put,sl]
        refine tk 5 ?_ rfl (fun w hSw=>?_) ?_
        rotate_left 1
        ·try dsimp only at hSw
         go_simp
         try with_reducible rfl
        try simp only[Act.put,sl]
        refine tk 6 ?_ rfl (fun w hSw=>?_) ?_
        rotate_left 1
        ·try dsimp only at hSw
         go_simp
         try with_reducible rfl
        try simp only[Act.put,sl]
        refine tk 7 ?_ rfl (fun w hSw=>?_) ?_
        rotate_left 1
        ·try dsimp only at hSw
         go_simp
         try with_reducible rfl
        try simp only[Act.put,sl]
        refine wpAnyH_ready (rs:=[4,8]) (by kernel_rfl) (by simp) ?_
        refine AllReadyH.cons (o:=⟨_,_,_,_,_,_⟩) rfl (fun K hK=>?_) (AllReadyH.cons (o:=⟨_,_,_,_,_,_⟩) rfl (fun K hK=>?_) AllReadyH.nil)
        ·go_simp
         go_simp
         refine hK.out _ _ trivial (fun hHeld=>?_)
         clear hK K;try simp only[Act.put,sl]
         refine rd 8 rfl (fun K hK=>?_)
         go_simp
         go_simp
         refine hK.out _ _ trivial (fun hHeld=>?_)
         clear hK K;try simp only[Act.put,sl]
         refine rd 9 rfl (fun K hK=>?_)
         refine step_append_l rfl (.tmp 34) (.tmp 38) rfl tyCh HX.out (by simp) rfl rfl hge ?_
         intro g off cap w8 h8;have c8:=h8.f2.cell;have f8:=h8.f2.free;go_simp
         refine hK.out _ _ trivial (fun hHeld=>?_)
         clear hK K;try simp only[Act.put,sl]
         refine tk 10 ?_ rfl (fun w hSw=>?_) ?_
         rotate_left 1
         ·try dsimp only at hSw
          go_simp
          try with_reducible rfl
         try simp only[Act.put,sl]
         refine tk 11 ?_ rfl (fun w hSw=>?_) ?_
         rotate_left 1
         ·try dsimp only at hSw
          go_simp
          try with_reducible rfl
         try simp only[Act.put,sl]
         refine rd 12 rfl (fun K hK=>?_)
         go_simp
         go_simp
         refine hK.out _ _ trivial (fun hHeld=>?_)
         clear hK K;try simp only[Act.put,sl]
         refine wpAnyH_done (by kernel_rfl) ?_ _
         have h5:St w0 _ (blk p (.cells #[.slice (some ⟨g,off,none⟩) (S.length+1) cap,.bool true,.int .i64 O] TRdd (0,0))*(LAt 5 1 encCh (.slice (some ⟨g,off,none⟩) (S.length+1) cap) (S++[true])*(LAt TREv 2 Ev.cells (.slice la X2.length ca) X2*R))):=h8.f2.set 0 (.slice (some ⟨g,off,none⟩) (S.length+1) cap);generalize w8.setCell _ _=w9 at *;clear h8 c8 f8 HX;have c:=h5.cell;have f:=h5.free;go_upto_region 10 with fail
         have h6:=h5.set 2 (.int .i64 ((O:Int)+1));generalize World.setCell _ _ _=wa at *;clear c f h5;have c:=h6.cell;have f:=h6.free;by_cases h7:O+1=7
         ·have q7:((O:Int)+1 == 7)=true:=by simp;omega
          have e:Rde.bit ⟨S,true,O⟩ true=(⟨[],false,7⟩,some ⟨1,[]⟩):=by unfold Rde.bit;rw[if_pos rfl,if_pos ⟨h7,rfl⟩]
          rw[e] at HY;have HE:=Lib.hid h7;clear e h7;have hA:=(h6.f3.alloc (.cells #[.int .i64 1,.string ⟨#[]⟩] TREv)).drop;go_wp2_with (at_builtin;refine wp_append_elem rfl (.tmp 64) (.tmp 66) rfl tyREv hA ⟨1,[]⟩ rfl _ rfl (new_cells _ [.int .i64 1,.string ⟨#[]⟩] _ _ (by simp)) (by omega) ?ha1;(case' ha1=>(intro g2 off2 cap2 w12 h12;have c12:=h12.f2.cell;have f12:=h12.f2.free)))
          have h13:=(((h12.f2.set 1 (.bool false)).set 0 (.slice none 0 0)).f3.drop).l_nil 5 1 encCh;go_roundw
          case rel=>exact⟨k+1,(⟨[],false,7⟩,X2++[⟨1,[]⟩]),by omega,by go_num,HY,(h13.f2.rd_shut (r:=⟨[],false,7⟩) (by rw[show ((O:Int)+1)=7 by have:=HE.out;omega];rfl) rfl).f2⟩
          case measure =>
           simp only[intOf];omega
         ·have q7:((O:Int)+1 == 7)=false:=by simp;omega
          have e:Rde.bit ⟨S,true,O⟩ true=(⟨(S++[true]),true,O+1⟩,none):=by unfold Rde.bit;rw[if_pos rfl,if_neg (fun h=>h7 h.1)];rfl
          rw[e] at HY;simp only[Option.toList_none,List.append_nil] at HY;clear e h7;go_wp2;go_roundw
          case rel=>exact⟨k+1,((⟨(S++[true]),true,O+1⟩:Rde),X2),by omega,by go_num,HY,(h6.rd_shut (r:=(⟨(S++[true]),true,O+1⟩:Rde)) rfl rfl).f2⟩
          case measure =>
           simp only[intOf];omega
        ·go_simp
         go_simp
         refine hK.out _ _ trivial (fun hHeld=>?_)
         clear hK K;try simp only[Act.put,sl]
         refine rd 4 rfl (fun K hK=>?_)
         go_simp
         go_simp
         refine hK.out _ _ trivial (fun hHeld=>?_)
         clear hK K;try simp only[Act.put,sl]
         refine rd 9 rfl (fun K hK=>?_)
         refine step_append_l rfl (.tmp 34) (.tmp 38) rfl tyCh HX.out (by simp) rfl rfl hge ?_
         intro g off cap w8 h8;have c8:=h8.f2.cell;have f8:=h8.f2.free;go_simp
         refine hK.out _ _ trivial (fun hHeld=>?_)
         clear hK K;try simp only[Act.put,sl]
         refine tk 10 ?_ rfl (fun w hSw=>?_) ?_
         rotate_left 1
         ·try dsimp only at hSw
          go_simp
          try with_reducible rfl
         try simp only[Act.put,sl]
         refine tk 11 ?_ rfl (fun w hSw=>?_) ?_
         rotate_left 1
         ·try dsimp only at hSw
          go_simp
          try with_reducible rfl
         try simp only[Act.put,sl]
         refine rd 12 rfl (fun K hK=>?_)
         go_simp
         go_simp
         refine hK.out _ _ trivial (fun hHeld=>?_)
         clear hK K;try simp only[Act.put,sl]
         refine wpAnyH_done (by kernel_rfl) ?_ _
         have h5:St w0 _ (blk p (.cells #[.slice (some ⟨g,off,none⟩) (S.length+1) cap,.bool true,.int .i64 O] TRdd (0,0))*(LAt 5 1 encCh (.slice (some ⟨g,off,none⟩) (S.length+1) cap) (S++[true])*(LAt TREv 2 Ev.cells (.slice la X2.length ca) X2*R))):=h8.f2.set 0 (.slice (some ⟨g,off,none⟩) (S.length+1) cap);generalize w8.setCell _ _=w9 at *;clear h8 c8 f8 HX;have c:=h5.cell;have f:=h5.free;go_upto_region 10 with fail
         have h6:=h5.set 2 (.int .i64 ((O:Int)+1));generalize World.setCell _ _ _=wa at *;clear c f h5;have c:=h6.cell;have f:=h6.free;by_cases h7:O+1=7
         ·have q7:((O:Int)+1 == 7)=true:=by simp;omega
          have e:Rde.bit ⟨S,true,O⟩ true=(⟨[],false,7⟩,some ⟨1,[]⟩):=by unfold Rde.bit;rw[if_pos rfl,if_pos ⟨h7,rfl⟩]
          rw[e] at HY;have HE:=Lib.hid h7;clear e h7;have hA:=(h6.f3.alloc (.cells #[.int .i64 1,.string ⟨#[]⟩] TREv)).drop;go_wp2_with (at_builtin;refine wp_append_elem rfl (.tmp 64) (.tmp 66) rfl tyREv hA ⟨1,[]⟩ rfl _ rfl (new_cells _ [.int .i64 1,.string ⟨#[]⟩] _ _ (by simp)) (by omega) ?ha2;(case' ha2=>(intro g2 off2 cap2 w12 h12;have c12:=h12.f2.cell;have f12:=h12.f2.free)))
          have h13:=(((h12.f2.set 1 (.bool false)).set 0 (.slice none 0 0)).f3.drop).l_nil 5 1 encCh;go_roundw
          case rel=>exact⟨k+1,(⟨[],false,7⟩,X2++[⟨1,[]⟩]),by omega,by go_num,HY,(h13.f2.rd_shut (r:=⟨[],false,7⟩) (by rw[show ((O:Int)+1)=7 by have:=HE.out;omega];rfl) rfl).f2⟩
          case measure =>
           simp only[intOf];omega
         ·have q7:((O:Int)+1 == 7)=false:=by simp;omega
          have e:Rde.bit ⟨S,true,O⟩ true=(⟨(S++[true]),true,O+1⟩,none):=by unfold Rde.bit;rw[if_pos rfl,if_neg (fun h=>h7 h.1)];rfl
          rw[e] at HY;simp only[Option.toList_none,List.append_nil] at HY;clear e h7;go_wp2;go_roundw
          case rel=>exact⟨k+1,((⟨(S++[true]),true,O+1⟩:Rde),X2),by omega,by go_num,HY,(h6.rd_shut (r:=(⟨(S++[true]),true,O+1⟩:Rde)) rfl rfl).f2⟩
          case measure =>
           simp only[intOf];omega
      | false =>
        replace hx:∀ w,(Instr.index 9 (.string s) (.int .i64 (k:Int))).run Tryz.prog w=.ok (.int .u8 48) w:=hx
        have c:=h4.cell;have f:=h4.free;go_upto_region 7 with fail
        have hd:=h4.drew;clear c f h4;refine wp_region_held_drew (S:=fun _=>True) (by kernel_rfl) trivial (fun hHeld=>?_)
        generalize wr.drew=wd at *;have cd:=hd.cell;have fd:=hd.free;have hx1:=((hd.alloc (.cells #[.int .u8 48] 5)).l_mk tyCh.len [false] 1 rfl rfl (by decide));have hx2:=hx1.eq (show _=LAt 5 1 encCh (.slice sa S.length sc) S*(LAt 5 1 encCh (.slice (some ⟨wd.heap.size,0,none⟩) 1 1) [false]*(blk p (.cells #[.slice sa S.length sc,.bool true,.int .i64 O] TRdd (0,0))*(LAt TREv 2 Ev.cells (.slice la X2.length ca) X2*R))) by ac_rfl);have ce:=(hd.alloc (.cells #[.int .u8 48] 5)).f2.cell;have HX:=Lib.hid hx2;clear hx1 hx2 hd;refine tk 0 ?_ rfl (fun w hSw=>?_) ?_
        rotate_left 1
        ·try dsimp only at hSw
         go_simp
         try with_reducible rfl
        try simp only[Act.put,sl]
        refine tk 1 ?_ rfl (fun w hSw=>?_) ?_
        rotate_left 1
        ·try dsimp only at hSw
         go_simp
         try with_reducible rfl
        try simp only[Act.put,sl]
        refine tk 2 ?_ rfl (fun w hSw=>?_) ?_
        rotate_left 1
        ·try dsimp only at hSw
         go_simp
         try with_reducible rfl
        try simp only[Act.put,sl]
        refine tk 3 ?_ rfl (fun w hSw=>?_) ?_
        rotate_left 1
        ·try dsimp only at hSw
         go_simp
         try with_reducible rfl
        try simp only[Act.put,sl]
        refine tk 5 ?_ rfl (fun w hSw=>?_) ?_
        rotate_left 1
        ·try dsimp only at hSw
         go_simp
         try with_reducible rfl
        try simp only[Act.put,sl]
        refine tk 6 ?_ rfl (fun w hSw=>?_) ?_
        rotate_left 1
        ·try dsimp only at hSw
         go_simp
         try with_reducible rfl
        try simp only[Act.put,sl]
        refine tk 7 ?_ rfl (fun w hSw=>?_) ?_
        rotate_left 1
        ·try dsimp only at hSw
         go_simp
         try with_reducible rfl
        try simp only[Act.put,sl]
        refine wpAnyH_ready (rs:=[4,8]) (by kernel_rfl) (by simp) ?_
        refine AllReadyH.cons (o:=⟨_,_,_,_,_,_⟩) rfl (fun K hK=>?_) (AllReadyH.cons (o:=⟨_,_,_,_,_,_⟩) rfl (fun K hK=>?_) AllReadyH.nil)
        ·go_simp
         go_simp
         refine hK.out _ _ trivial (fun hHeld=>?_)
         clear hK K;try simp only[Act.put,sl]
         refine rd 8 rfl (fun K hK=>?_)
         go_simp
         go_simp
         refine hK.out _ _ trivial (fun hHeld=>?_)
         clear hK K;try simp only[Act.put,sl]
         refine rd 9 rfl (fun K hK=>?_)
         refine step_append_l rfl (.tmp 34) (.tmp 38) rfl tyCh HX.out (by simp) rfl rfl hge ?_
         intro g off cap w8 h8;have c8:=h8.f2.cell;have f8:=h8.f2.free;go_simp
         refine hK.out _ _ trivial (fun hHeld=>?_)
         clear hK K;try simp only[Act.put,sl]
         refine tk 10 ?_ rfl (fun w hSw=>?_) ?_
         rotate_left 1
         ·try dsimp only at hSw
          go_simp
          try with_reducible rfl
         try simp only[Act.put,sl]
         refine tk 11 ?_ rfl (fun w hSw=>?_) ?_
         rotate_left 1
         ·try dsimp only at hSw
          go_simp
          try with_reducible rfl
         try simp only[Act.put,sl]
         refine rd 12 rfl (fun K hK=>?_)
         go_simp
         go_simp
         refine hK.out _ _ trivial (fun hHeld=>?_)
         clear hK K;try simp only[Act.put,sl]
         refine wpAnyH_done (by kernel_rfl) ?_ _
         have h5:St w0 _ (blk p (.cells #[.slice (some ⟨g,off,none⟩) (S.length+1) cap,.bool true,.int .i64 O] TRdd (0,0))*(LAt 5 1 encCh (.slice (some ⟨g,off,none⟩) (S.length+1) cap) (S++[false])*(LAt TREv 2 Ev.cells (.slice la X2.length ca) X2*R))):=h8.f2.set 0 (.slice (some ⟨g,off,none⟩) (S.length+1) cap);generalize w8.setCell _ _=w9 at *;clear h8 c8 f8 HX;have c:=h5.cell;have f:=h5.free;go_upto_region 16 with fail
         have h6:=h5.set 2 (.int .i64 0);generalize World.setCell _ _ _=wa at *;clear c f h5;have c:=h6.cell;have f:=h6.free;by_cases h6o:O=6
         ·have q6:((O:Int) != 6)=false:=by simp;omega
          have e:Rde.bit ⟨S,true,O⟩ false=(⟨[],true,0⟩,endedB (S++[false])):=by unfold Rde.bit;rw[if_neg (by decide),if_pos h6o];rfl
          rw[e] at HY;clear e h6o;have hen:=fun w R h=>rh_ended (.slice (some ⟨g,off,none⟩) (S.length+1) cap) (S++[false]) (by simp;omega) w0 w R h
          obtain⟨E,hE⟩:∃ E,endedB (S++[false])=E:=⟨_,rfl⟩;rw[hE] at hen HY;clear hE;cases E with
          | none =>
            simp only[Option.toList_none,List.append_nil] at HY;replace hen:∀ w R,St w0 w (LAt 5 1 encCh (.slice (some ⟨g,off,none⟩) (S.length+1) cap) (S++[false])*R)->Calls Tryz.prog 113 #[.slice (some ⟨g,off,none⟩) (S.length+1) cap] w fun e w'=>e=.returned (.tuple #[.agg #[.int .i64 0,.string ⟨#[]⟩],.bool false])/\St w0 w' (LAt 5 1 encCh (.slice (some ⟨g,off,none⟩) (S.length+1) cap) (S++[false])*R):=hen
            go_upto_region 19 with (go_at_call 113;refine (hen _ _ h6.f2).mono ?_;rintro e w6 ⟨rfl,h7⟩)
            clear hen c f h6;have h9:=(h7.f2.alloc (.cells #[.int .i64 0,.string ⟨#[]⟩] TREv)).drop;generalize (World.alloc _ _)=w7 at *;have c:=h9.cell;have f:=h9.free;have h10:=(((h9.set 1 (.bool true)).set 0 (.slice none 0 0)).f2.drop).l_nil 5 1 encCh;clear h7 h9;go_wp2;go_roundw
            case rel=>exact⟨k+1,(⟨[],true,0⟩,X2),by omega,by go_num,HY,(h10.f2.rd_shut (r:=⟨[],true,0⟩) rfl rfl).f2⟩
            case measure =>
             simp only[intOf];omega
          | some ev =>
            obtain⟨ek,es⟩:=ev;replace hen:∀ w R,St w0 w (LAt 5 1 encCh (.slice (some ⟨g,off,none⟩) (S.length+1) cap) (S++[false])*R)->Calls Tryz.prog 113 #[.slice (some ⟨g,off,none⟩) (S.length+1) cap] w fun e w'=>e=.returned (.tuple #[.agg #[.int .i64 ek,.string ⟨es.toArray⟩],.bool true])/\St w0 w' (LAt 5 1 encCh (.slice (some ⟨g,off,none⟩) (S.length+1) cap) (S++[false])*R):=hen
            go_upto_region 19 with (go_at_call 113;refine (hen _ _ h6.f2).mono ?_;rintro e w6 ⟨rfl,h7⟩)
            clear hen c f h6;have h9:=h7.f2.alloc (.cells #[.int .i64 ek,.string ⟨es.toArray⟩] TREv);have lt:=h7.f2.lt;generalize (World.alloc _ _)=w7 at *;generalize hgb:w6.heap.size=gb at *;have ne1:p≠gb:=by omega
            have ne2:gb≠p:=by omega
            have cb:=h9.cell;have hA:=((h9.drop.f3).alloc (.cells #[.int .i64 ek,.string ⟨es.toArray⟩] TREv)).drop;clear h7 h9;go_wp2_with (at_builtin;refine wp_append_elem rfl (.tmp 96) (.tmp 98) rfl tyREv hA ⟨ek,es⟩ rfl _ rfl (new_cells _ [.int .i64 ek,.string ⟨es.toArray⟩] _ _ (by first | (simp;done) | exact hgb.symm | (simp;exact hgb.symm))) (by omega) ?hb1;(case' hb1=>(intro g2 off2 cap2 w12 h12;have c12:=h12.f2.cell;have f12:=h12.f2.free)))
            have h13:=(((h12.f2.set 1 (.bool true)).set 0 (.slice none 0 0)).f3.drop).l_nil 5 1 encCh;go_roundw
            case rel=>exact⟨k+1,(⟨[],true,0⟩,X2++[⟨ek,es⟩]),by omega,by go_num,HY,(h13.f2.rd_shut (r:=⟨[],true,0⟩) rfl rfl).f2⟩
            case measure =>
             simp only[intOf];omega
         ·have q6:((O:Int) != 6)=true:=by simp;omega
          have e:Rde.bit ⟨S,true,O⟩ false=(⟨(S++[false]),true,0⟩,none):=by unfold Rde.bit;rw[if_neg (by decide),if_neg h6o];rfl
          rw[e] at HY;simp only[Option.toList_none,List.append_nil] at HY;clear e h6o;go_wp2;go_roundw
          case rel=>exact⟨k+1,((⟨(S++[false]),true,0⟩:Rde),X2),by omega,by go_num,HY,(h6.rd_shut (r:=(⟨(S++[false]),true,0⟩:Rde)) rfl rfl).f2⟩
          case measure =>
           simp only[intOf];omega
        ·go_simp
         go_simp
         refine hK.out _ _ trivial (fun hHeld=>?_)
         clear hK K;try simp only[Act.put,sl]
         refine rd 4 rfl (fun K hK=>?_)
         go_simp
         go_simp
         refine hK.out _ _ trivial (fun hHeld=>?_)
         clear hK K;try simp only[Act.put,sl]
         refine rd 9 rfl (fun K hK=>?_)
         refine step_append_l rfl (.tmp 34) (.tmp 38) rfl tyCh HX.out (by simp) rfl rfl hge ?_
         intro g off cap w8 h8;have c8:=h8.f2.cell;have f8:=h8.f2.free;go_simp
         refine hK.out _ _ trivial (fun hHeld=>?_)
         clear hK K;try simp only[Act.put,sl]
         refine tk 10 ?_ rfl (fun w hSw=>?_) ?_
         rotate_left 1
         ·try dsimp only at hSw
          go_simp
          try with_reducible rfl
         try simp only[Act.put,sl]
         refine tk 11 ?_ rfl (fun w hSw=>?_) ?_
         rotate_left 1
         ·try dsimp only at hSw
          go_simp
          try with_reducible rfl
         try simp only[Act.put,sl]
         refine rd 12 rfl (fun K hK=>?_)
         go_simp
         go_simp
         refine hK.out _ _ trivial (fun hHeld=>?_)
         clear hK K;try simp only[Act.put,sl]
         refine wpAnyH_done (by kernel_rfl) ?_ _
         have h5:St w0 _ (blk p (.cells #[.slice (some ⟨g,off,none⟩) (S.length+1) cap,.bool true,.int .i64 O] TRdd (0,0))*(LAt 5 1 encCh (.slice (some ⟨g,off,none⟩) (S.length+1) cap) (S++[false])*(LAt TREv 2 Ev.cells (.slice la X2.length ca) X2*R))):=h8.f2.set 0 (.slice (some ⟨g,off,none⟩) (S.length+1) cap);generalize w8.setCell _ _=w9 at *;clear h8 c8 f8 HX;have c:=h5.cell;have f:=h5.free;go_upto_region 16 with fail
         have h6:=h5.set 2 (.int .i64 0);generalize World.setCell _ _ _=wa at *;clear c f h5;have c:=h6.cell;have f:=h6.free;by_cases h6o:O=6
         ·have q6:((O:Int) != 6)=false:=by simp;omega
          have e:Rde.bit ⟨S,true,O⟩ false=(⟨[],true,0⟩,endedB (S++[false])):=by unfold Rde.bit;rw[if_neg (by decide),if_pos h6o];rfl
          rw[e] at HY;clear e h6o;have hen:=fun w R h=>rh_ended (.slice (some ⟨g,off,none⟩) (S.length+1) cap) (S++[false]) (by simp;omega) w0 w R h
          obtain⟨E,hE⟩:∃ E,endedB (S++[false])=E:=⟨_,rfl⟩;rw[hE] at hen HY;clear hE;cases E with
          | none =>
            simp only[Option.toList_none,List.append_nil] at HY;replace hen:∀ w R,St w0 w (LAt 5 1 encCh (.slice (some ⟨g,off,none⟩) (S.length+1) cap) (S++[false])*R)->Calls Tryz.prog 113 #[.slice (some ⟨g,off,none⟩) (S.length+1) cap] w fun e w'=>e=.returned (.tuple #[.agg #[.int .i64 0,.string ⟨#[]⟩],.bool false])/\St w0 w' (LAt 5 1 encCh (.slice (some ⟨g,off,none⟩) (S.length+1) cap) (S++[false])*R):=hen
            go_upto_region 19 with (go_at_call 113;refine (hen _ _ h6.f2).mono ?_;rintro e w6 ⟨rfl,h7⟩)
            clear hen c f h6;have h9:=(h7.f2.alloc (.cells #[.int .i64 0,.string ⟨#[]⟩] TREv)).drop;generalize (World.alloc _ _)=w7 at *;have c:=h9.cell;have f:=h9.free;have h10:=(((h9.set 1 (.bool true)).set 0 (.slice none 0 0)).f2.drop).l_nil 5 1 encCh;clear h7 h9;go_wp2;go_roundw
            case rel=>exact⟨k+1,(⟨[],true,0⟩,X2),by omega,by go_num,HY,(h10.f2.rd_shut (r:=⟨[],true,0⟩) rfl rfl).f2⟩
            case measure =>
             simp only[intOf];omega
          | some ev =>
            obtain⟨ek,es⟩:=ev;replace hen:∀ w R,St w0 w (LAt 5 1 encCh (.slice (some ⟨g,off,none⟩) (S.length+1) cap) (S++[false])*R)->Calls Tryz.prog 113 #[.slice (some ⟨g,off,none⟩) (S.length+1) cap] w fun e w'=>e=.returned (.tuple #[.agg #[.int .i64 ek,.string ⟨es.toArray⟩],.bool true])/\St w0 w' (LAt 5 1 encCh (.slice (some ⟨g,off,none⟩) (S.length+1) cap) (S++[false])*R):=hen
            go_upto_region 19 with (go_at_call 113;refine (hen _ _ h6.f2).mono ?_;rintro e w6 ⟨rfl,h7⟩)
            clear hen c f h6;have h9:=h7.f2.alloc (.cells #[.int .i64 ek,.string ⟨es.toArray⟩] TREv);have lt:=h7.f2.lt;generalize (World.alloc _ _)=w7 at *;generalize hgb:w6.heap.size=gb at *;have ne1:p≠gb:=by omega
            have ne2:gb≠p:=by omega
            have cb:=h9.cell;have hA:=((h9.drop.f3).alloc (.cells #[.int .i64 ek,.string ⟨es.toArray⟩] TREv)).drop;clear h7 h9;go_wp2_with (at_builtin;refine wp_append_elem rfl (.tmp 96) (.tmp 98) rfl tyREv hA ⟨ek,es⟩ rfl _ rfl (new_cells _ [.int .i64 ek,.string ⟨es.toArray⟩] _ _ (by first | (simp;done) | exact hgb.symm | (simp;exact hgb.symm))) (by omega) ?hb2;(case' hb2=>(intro g2 off2 cap2 w12 h12;have c12:=h12.f2.cell;have f12:=h12.f2.free)))
            have h13:=(((h12.f2.set 1 (.bool true)).set 0 (.slice none 0 0)).f3.drop).l_nil 5 1 encCh;go_roundw
            case rel=>exact⟨k+1,(⟨[],true,0⟩,X2++[⟨ek,es⟩]),by omega,by go_num,HY,(h13.f2.rd_shut (r:=⟨[],true,0⟩) rfl rfl).f2⟩
            case measure =>
             simp only[intOf];omega
         ·have q6:((O:Int) != 6)=true:=by simp;omega
          have e:Rde.bit ⟨S,true,O⟩ false=(⟨(S++[false]),true,0⟩,none):=by unfold Rde.bit;rw[if_neg (by decide),if_neg h6o];rfl
          rw[e] at HY;simp only[Option.toList_none,List.append_nil] at HY;clear e h6o;go_wp2;go_roundw
          case rel=>exact⟨k+1,((⟨(S++[false]),true,0⟩:Rde),X2),by omega,by go_num,HY,(h6.rd_shut (r:=(⟨(S++[false]),true,0⟩:Rde)) rfl rfl).f2⟩
          case measure =>
           simp only[intOf];omega
    | false =>
      have h5:=h4;clear h4 hge;cases b with
      | true =>
        replace hx:∀ w,(Instr.index 9 (.string s) (.int .i64 (k:Int))).run Tryz.prog w=.ok (.int .u8 49) w:=hx
        have c:=h5.cell;have f:=h5.free;go_upto_region 10 with fail
        have h6:=h5.set 2 (.int .i64 ((O:Int)+1));generalize World.setCell _ _ _=wa at *;clear c f h5;have c:=h6.cell;have f:=h6.free;have e:Rde.bit ⟨S,false,O⟩ true=(⟨S,false,O+1⟩,none):=by unfold Rde.bit;rw[if_pos rfl,if_neg (fun h=>Bool.noConfusion (show false=true from h.2))];rfl
        rw[e] at HY;simp only[Option.toList_none,List.append_nil] at HY;clear e;by_cases h7:O+1=7
        ·have q7:((O:Int)+1 == 7)=true:=by simp;omega
         clear h7;go_wp2;go_roundw
         case rel=>exact⟨k+1,((⟨S,false,O+1⟩:Rde),X2),by omega,by go_num,HY,(h6.rd_shut (r:=(⟨S,false,O+1⟩:Rde)) rfl rfl).f2⟩
         case measure =>
          simp only[intOf];omega
        ·have q7:((O:Int)+1 == 7)=false:=by simp;omega
         clear h7;go_wp2;go_roundw
         case rel=>exact⟨k+1,((⟨S,false,O+1⟩:Rde),X2),by omega,by go_num,HY,(h6.rd_shut (r:=(⟨S,false,O+1⟩:Rde)) rfl rfl).f2⟩
         case measure =>
          simp only[intOf];omega
      | false =>
        replace hx:∀ w,(Instr.index 9 (.string s) (.int .i64 (k:Int))).run Tryz.prog w=.ok (.int .u8 48) w:=hx
        have c:=h5.cell;have f:=h5.free;go_upto_region 16 with fail
        have h6:=h5.set 2 (.int .i64 0);generalize World.setCell _ _ _=wa at *;clear c f h5;have c:=h6.cell;have f:=h6.free;by_cases h6o:O=6
        ·have q6:((O:Int) != 6)=false:=by simp;omega
         have e:Rde.bit ⟨S,false,O⟩ false=(⟨[],true,0⟩,none):=by unfold Rde.bit;rw[if_neg (by decide),if_pos h6o];rfl
         rw[e] at HY;simp only[Option.toList_none,List.append_nil] at HY;clear e h6o;have h10:=(((h6.set 1 (.bool true)).set 0 (.slice none 0 0)).f2.drop).l_nil 5 1 encCh;go_wp2;go_roundw
         case rel=>exact⟨k+1,(⟨[],true,0⟩,X2),by omega,by go_num,HY,(h10.f2.rd_shut (r:=⟨[],true,0⟩) rfl rfl).f2⟩
         case measure =>
          simp only[intOf];omega
        ·have q6:((O:Int) != 6)=true:=by simp;omega
         have e:Rde.bit ⟨S,false,O⟩ false=(⟨S,false,0⟩,none):=by unfold Rde.bit;rw[if_neg (by decide),if_neg h6o];rfl
         rw[e] at HY;simp only[Option.toList_none,List.append_nil] at HY;clear e h6o;go_wp2;go_roundw
         case rel=>exact⟨k+1,((⟨S,false,0⟩:Rde),X2),by omega,by go_num,HY,(h6.rd_shut (r:=(⟨S,false,0⟩:Rde)) rfl rfl).f2⟩
         case measure =>
          simp only[intOf];omega
   ·have hbi:bitsIn (s.data.toList.take (k+1))=bitsIn (s.data.toList.take k):=by
     rw[htk,bitsIn_app,bitsIn_cons,if_neg (fun e=>hbit (Or.inl (by rw[e];rfl))),if_neg (fun e=>hbit (Or.inr (by rw[e];rfl)))];simp[bitsIn]
    have q1:((o.toNat:Int) != 48)=true:=by simp;omega
    have q2:((o.toNat:Int) != 49)=true:=by simp;omega
    have HY:=Lib.hid (show r.feed (bitsIn (s.data.toList.take (k+1)))=(⟨S,W,O⟩,X2)/\S.length<=50000000+(k+1)/\O<=100000000000000000+(k+1)/\X2.length<=k+1 from ⟨by rw[hbi];exact x1,by omega,by omega,by omega⟩);clear hsn hbit hbi htk HX x1 x2 x3 x4;go_wp2;go_roundw
    case rel=>exact⟨k+1,(⟨S,W,O⟩,X2),by omega,by go_num,HY,h3⟩
    case measure=>simp[intOf];omega
  ·obtain rfl:k=n:=by omega
   have htk:s.data.toList.take k=s.data.toList:=List.take_of_length_le (by rw[Array.length_toList];exact Nat.le_of_eq hn);obtain⟨x1,_,_,_⟩:=HX.out;rw[htk,HZ.out] at x1;subst x1;clear htk HX;go_wp2;go_ret
   exact⟨_,rfl,h3⟩
def RnB (e:Nat) (x:En) (ov:Value):HP:=hex fun z:Nat × Value =>
 blk e (.cells (x.rcells z.1 z.2 ov) TRe (0,0))*(FAt TG TR z.1 x.fl*Row 9 1 z.2 x.units.length (strs x.units))
def RuB (u:Nat) (x:Us) (ov:Value):HP:=hex fun p:Nat=>blk u (.cells (x.rcells p ov) TRu (0,0))*(blk p (.cells x.d.rcells TRd (0,0))*fact x.d.Plain)
section
variable {w0 w:World} {R:HP} {e u:Nat} {x:En} {y:Us} {ov:Value} {l:List Fx} {o:List Ue}
theorem St.n_split (h:St w0 w (RnAt e x*R)):∃ ov,St w0 w (RnB e x ov*(LAt TRx 11 Fx.cells ov x.out*R)):=by
 obtain⟨fp,uv,ov,h1⟩:=h.n_open;exact⟨ov,St.mk_ex (fp,uv) (h1.eq (by ac_rfl))⟩
theorem St.n_join (h:St w0 w (RnB e x ov*(LAt TRx 11 Fx.cells ov l*R))):St w0 w (RnAt e (x.setOut l)*R):=by
 obtain⟨⟨fp,uv⟩,h1⟩:=h.ex;exact (h1.eq (show _=blk e (.cells (x.rcells fp uv ov) TRe (0,0))*(LAt TRx 11 Fx.cells ov l*(FAt TG TR fp x.fl*(Row 9 1 uv x.units.length (strs x.units)*R))) by ac_rfl)).n_shut (x:=x.setOut l) rfl rfl rfl rfl rfl
theorem St.u_split (h:St w0 w (RuAt u y o*R)):∃ ov,St w0 w (RuB u y ov*(LAt TRue 5 Ue.cells ov o*R)):=by
 obtain⟨p,ov,hp,h1⟩:=h.ru_open;exact⟨ov,St.mk_ex p ((h1.inn hp).eq (by ac_rfl))⟩
theorem St.u_join (h:St w0 w (RuB u y ov*(LAt TRue 5 Ue.cells ov o*R))):St w0 w (RuAt u y o*R):=by
 obtain⟨p,h1⟩:=h.ex;exact St.mk_ex (p,ov) (h1.eq (by ac_rfl))
end
abbrev TRt:TypeId:=126
abbrev TRtold:TypeId:=235
theorem tyRtold:ETy Tryz.prog 124 TRtold 2 24 tolC :=
 ⟨Tryz.underlying124,⟨.agg #[.int .i64 0,.string ⟨#[]⟩],by kernel_rfl,rfl⟩,fun _=>rfl,fun b u hu=>by simp[tolC] at hu;rcases hu with rfl | rfl <;> rfl,by decide,by decide⟩
structure RtIs (N:Nat) (x:Tt) (L:Tms) (r:Rde):Prop where
 clock:Same x.c L
 dec:x.d.Like r
 len:r.s.length<=N
def RtAt (N t e u c p:Nat) (ov ou:Value) (x:Tt):HP:=hex fun z:(Value × Value) × (Tms × Rde) =>
 blk t (.cells (x.cells e u c p z.1.1 z.1.2) TRt (0,0))*(RnB e x.e ov*(RuB u x.u ou*(CRef c z.2.1*(RdeAt p z.2.2*(LAt 9 1 encS z.1.1 x.sent*(LAt TRtold 2 tolC z.1.2 x.told*fact (RtIs N x z.2.1 z.2.2)))))))
section
variable {w0 w:World} {R:HP} {N t e u c p:Nat} {ov ou:Value} {x:Tt}
theorem St.rt_open (h:St w0 w (RtAt N t e u c p ov ou x*R)):∃ sv tv L r,RtIs N x L r/\St w0 w (blk t (.cells (x.cells e u c p sv tv) TRt (0,0))*(RnB e x.e ov*(RuB u x.u ou*(CRef c L*(RdeAt p r*(LAt 9 1 encS sv x.sent*(LAt TRtold 2 tolC tv x.told*R))))))):=by
 obtain⟨⟨⟨sv,tv⟩,L,r⟩,h⟩:=h.ex;obtain⟨hf,h⟩:=(h.eq (show _=fact (RtIs N x L r)*(blk t (.cells (x.cells e u c p sv tv) TRt (0,0))*(RnB e x.e ov*(RuB u x.u ou*(CRef c L*(RdeAt p r*(LAt 9 1 encS sv x.sent*(LAt TRtold 2 tolC tv x.told*R))))))) by ac_rfl)).out;exact⟨sv,tv,L,r,hf,h⟩
theorem St.rt_shut {sv tv:Value} {L:Tms} {r:Rde} {cs:Array Value} (h:St w0 w (blk t (.cells cs TRt (0,0))*(RnB e x.e ov*(RuB u x.u ou*(CRef c L*(RdeAt p r*(LAt 9 1 encS sv x.sent*(LAt TRtold 2 tolC tv x.told*R)))))))) (hc:cs=x.cells e u c p sv tv) (hi:RtIs N x L r):St w0 w (RtAt N t e u c p ov ou x*R):=by
 subst hc;exact St.mk_ex ((sv,tv),(L,r)) ((h.inn hi).eq (by ac_rfl))
end
theorem rt_begin (N t e u c p:Nat) (ov ou:Value) (x:Tt) (now:Int) (hb:badNow now=false) (w0 w:World) (R:HP) (h:St w0 w (RtAt N t e u c p ov ou x*R)) :
  Calls Tryz.prog 44 #[ptr t,.int .i64 now] w fun r w'=>r=.returned (.bool true)/\St w0 w' (RtAt N t e u c p ov ou (x.begin now)*R):=by
 unfold badNow at hb;have hb2:=of_decide_eq_false hb;have qa:decide (now<0)=false:=decide_eq_false (fun a=>hb2 (.inl a));have qb:decide (9007199254740992<now)=false:=decide_eq_false (fun a=>hb2 (.inr a));clear hb hb2;obtain⟨sv,tv,L,r,hi,h1⟩:=h.rt_open;have cc:=h1.cell;have ff:=h1.free;have h2:=((h1.set 11 (.slice none 0 0)).set 12 (.slice none 0 0)).set 10 (.int .i64 now);clear h;go_enter Tryz.func44,Tryz.ntmps44
 go_upto_region 6 with fail
 generalize ((w.setCell _ _).setCell _ _).setCell _ _=w2 at *;have h3:=(h2.l_nil TRtold 2 tolC).l_nil 9 1 encS;have h4:St w0 w2 (RtAt N t e u c p ov ou (x.begin now)*(LAt 9 1 encS sv x.sent*(LAt TRtold 2 tolC tv x.told*R))):=St.rt_shut (x:=x.begin now) (sv:=.slice none 0 0) (tv:=.slice none 0 0) (L:=L) (r:=r) (h3.eq (show _=blk t _*(RnB e x.e ov*(RuB u x.u ou*(CRef c L*(RdeAt p r*(LAt 9 1 encS (.slice none 0 0) []*(LAt TRtold 2 tolC (.slice none 0 0) []*(LAt 9 1 encS sv x.sent*(LAt TRtold 2 tolC tv x.told*R)))))))) by ac_rfl)) rfl ⟨hi.clock,hi.dec,hi.len⟩;clear h1 h2 h3 cc ff;go_wp2;go_ret
 exact⟨rfl,h4.f2.drop.f2.drop⟩
end Go.Proofs.YtnnahljdhdippaaGreatDoor
