/- Parts of a proof (GetE, GetF). No condition. -/
import Derived.Test.YtjcldoejpldcmaaGreatDoorC11
namespace Go.Proofs.YtjcldoejpldcmaaGreatDoor
set_option maxRecDepth 100000
set_option maxHeartbeats 6400000
open Go.RowKit
abbrev TCtl:TypeId:=150
theorem u8_not16:∀ y:Fin 256,bits .andNot .u8 ((y:Nat):Int) 16=noPF ((y:Nat):Int):=by decide +kernel
theorem u8_16:∀ y:Fin 256,(bits .and .u8 ((y:Nat):Int) 16 != 0)=(((y:Nat):Int) / 16 % 2 == 1):=by decide +kernel
theorem idxK_even:∀ y:Fin 256,((y:Nat):Int) % 2=0->idxK ((y:Nat):Int)=0/\idxK (noPF ((y:Nat):Int))=0:=by decide +kernel
theorem idxK_odd:∀ y:Fin 256,idxK ((y:Nat):Int)≠0->((y:Nat):Int)=firstK.getD (idxK ((y:Nat):Int)).toNat 0:=by decide +kernel
theorem idxK_nof:∀ y:Fin 256,idxK ((y:Nat):Int)=0->∀ i:Fin 10,1<=(i:Nat)->((y:Nat):Int)≠firstK.getD i 0:=by decide +kernel
theorem noPF_range:∀ y:Fin 256,0<=noPF ((y:Nat):Int)/\noPF ((y:Nat):Int)<256:=by decide +kernel
theorem str_empty {s:ByteArray}:s.toList.isEmpty=decide (s.size=0):=by
 rw[ByteArray.toList_eq];have h:s.size=s.data.toList.length:=by rw[Array.length_toList];rfl
 rw[h];cases s.data.toList <;> simp
theorem c_get (s:ByteArray) (w0 w:World) (R:HP) (hF:∀ w',St w0 w' R->FirstAt w') (h:St w0 w R) (hs:s.size<=1000000000) :
  Calls Tryz.prog 57 #[.string s] w fun e w'=>e=.returned (.tuple #[.agg (ctlG s).1.cells.toArray,.int .i64 (ctlG s).2.1,.int .i64 (ctlG s).2.2])/\St w0 w' R:=by
 obtain⟨n,hn⟩:∃ n,s.size=n:=⟨_,rfl⟩;have h1:=h.alloc (.cells #[.int .i64 0,.bool false,.int .i64 0,.int .i64 0] TCtl);have hF1:=hF _ h1.drop;have hem:s.toList.isEmpty=decide (n=0):=by rw[str_empty,hn]
 unfold ctlG;rw[hn] at hs ⊢;have c:=h1.cell;have f:=h1.free;by_cases hz:n=0
 ·rw[if_pos hz]
  rw[show decide (n=0)=true from decide_eq_true hz] at hem;clear hF1 hF;go_enter Tryz.func57,Tryz.ntmps57
  go_upto_region 2 with fail
  generalize w.alloc _=wa at *;generalize w.heap.size=ga at *;have h9:=(((h1.set 0 (.int .i64 0)).set 1 (.bool false)).set 2 (.int .i64 0)).set 3 (.int .i64 0);go_wp2;have cr:=h9.cell;refine bodyPost_ret (v:=.tuple #[.agg #[.int .i64 0,.bool false,.int .i64 0,.int .i64 0],.int .i64 0,.int .i64 3]) (by simp[results,Tryz.results57,go_sem,cr]) rfl ⟨rfl,h9.drop⟩
 ·rw[if_neg hz]
  rw[show decide (n=0)=false from decide_eq_false hz] at hem;have hx:∀ w,(Instr.index 9 (.string s) (.int .i64 0)).run Tryz.prog w=.ok (.int .u8 (byteAt s 0)) w:=str_at s 0 (by omega);obtain⟨x0,x1⟩:=byteAt_range s 0;obtain⟨y0,y1⟩:=byteAt_range s 1;generalize byteAt s 0=x at *;obtain⟨xf,hxf⟩:=oct_nat x0 x1;have v1:=u8_not16 xf;have v2:=u8_16 xf;have v3:=idxK_even xf;have v4:=idxK_odd xf;have v5:=idxK_nof xf;obtain⟨p0,p1⟩:=noPF_range xf;rw[← hxf] at v1 v2 v3 v4 v5 p0 p1;have ux:=u8_and1 x0 x1;have hi1:=sl_index x x0 x1;have hi2:=sl_index (noPF x) p0 p1;obtain⟨a0,a9⟩:=idxK_lt x0 x1;obtain⟨b0,b9⟩:=idxK_lt p0 p1;unfold kOf;dsimp only;generalize idxK x=a at *;generalize idxK (noPF x)=b at *;generalize noPF x=np at *;have wa1:IntKind.i64.wrap (a - 1+1)=a:=by rw[IntKind.wrap_i64];omega
  have wb1:IntKind.i64.wrap (b - 1+1)=b:=by rw[IntKind.wrap_i64];omega
  clear hxf xf;by_cases hev:x % 2=0
  ·have q1:(x % 2 == 0)=true:=by simp[hev]
   obtain⟨rfl,rfl⟩:=v3 hev;have hnu:=fun w=>k_numb 0 w
   rw[show numb 0=true by decide] at hnu;rw[if_neg (fun h=>h.1 hev),if_pos hev,if_neg (show ¬ numb 0=false by decide)];by_cases hn2:n<2
   ·rw[if_pos hn2]
    have b2:decide (n<2)=true:=decide_eq_true hn2;generalize (x / 16 % 2 == 1)=P at *;clear v3 v4 v5 hev hF;go_enter Tryz.func57,Tryz.ntmps57
    go_upto_region 11 with (first | (go_at_call 113;with_reducible refine (hi1 _ hF1).mono ?_;rintro e w1 ⟨rfl,rfl⟩) | (go_at_call 113;with_reducible refine (hi2 _ hF1).mono ?_;rintro e w1 ⟨rfl,rfl⟩) | (go_at_call 114;with_reducible refine (hnu _).mono ?_;rintro e w1 ⟨rfl,rfl⟩))
    clear hi1 hi2 hF1 hx;generalize w.alloc _=wa at *;generalize w.heap.size=ga at *;have lt:=h1.lt;have h2:=h1.alloc (.cells #[.int .i64 0,.bool P,.int .i64 0,.int .i64 0] TCtl);generalize hgb:wa.heap.size=gb at *;have hne:ga≠gb:=by omega
    have hne2:gb≠ga:=by omega
    go_upto_region 12 with fail
    try clear hl
    generalize wa.alloc _=wb at *;have c2:=h2.cell;have c3:=h2.f2.cell;have f3:=h2.f2.free;have h9:=((((h2.eq (star_left_comm _ _ _)).set 0 (.int .i64 0)).set 1 (.bool false)).set 2 (.int .i64 0)).set 3 (.int .i64 0);go_wp2_with (go_at_call 114;with_reducible refine (hnu _).mono ?_;rintro e w1 ⟨rfl,rfl⟩)
    have cr:=h9.cell;refine bodyPost_ret (v:=.tuple #[.agg #[.int .i64 0,.bool false,.int .i64 0,.int .i64 0],.int .i64 0,.int .i64 3]) (by simp[results,Tryz.results57,go_sem,cr]) rfl ⟨rfl,h9.drop.drop⟩
   ·rw[if_neg hn2,if_pos rfl]
    have b2:decide (n<2)=false:=decide_eq_false hn2;have hx2:∀ w,(Instr.index 9 (.string s) (.int .i64 1)).run Tryz.prog w=.ok (.int .u8 (byteAt s 1)) w:=str_at s 1 (by omega);generalize byteAt s 1=y at *;have uy:=u8_and1 y0 y1;have g2:=f_s17 y y0 y1 w0;have g1:=f_s17 x x0 x1 w0;generalize y / 2=y2 at *;generalize x / 2=x2 at *;generalize (x / 16 % 2 == 1)=P at *;clear v3 v4 v5 hev hF;go_enter Tryz.func57,Tryz.ntmps57
    go_upto_region 11 with (first | (go_at_call 113;with_reducible refine (hi1 _ hF1).mono ?_;rintro e w1 ⟨rfl,rfl⟩) | (go_at_call 113;with_reducible refine (hi2 _ hF1).mono ?_;rintro e w1 ⟨rfl,rfl⟩) | (go_at_call 114;with_reducible refine (hnu _).mono ?_;rintro e w1 ⟨rfl,rfl⟩))
    clear hi1 hi2 hF1 hx;generalize w.alloc _=wa at *;generalize w.heap.size=ga at *;have lt:=h1.lt;have h2:=h1.alloc (.cells #[.int .i64 0,.bool P,.int .i64 0,.int .i64 0] TCtl);generalize hgb:wa.heap.size=gb at *;have hne:ga≠gb:=by omega
    have hne2:gb≠ga:=by omega
    go_upto_region 12 with fail
    try clear hl
    generalize wa.alloc _=wb at *;have c2:=h2.cell;have f2:=h2.free;have c2d:=h2.drew.cell;have f2d:=h2.drew.free;go_upto_region 16 with (go_at_call 114;with_reducible refine (hnu _).mono ?_;rintro e w1 ⟨rfl,rfl⟩)
    have e2d:=(h2.drew.set 1 (.bool (y % 2 == 1))).cell;have k2d:=(h2.drew.set 1 (.bool (y % 2 == 1))).free;go_region_held3 (fun _=>True) (trivial) (first | (go_at_call 112;with_reducible refine (g2 _ _ h2.drew).mono ?_;rintro e w5 ⟨rfl,h5⟩;have c5:=h5.cell;have f5:=h5.free) | (go_at_call 112;with_reducible refine (g2 _ _ (h2.drew.set 1 (.bool (y % 2 == 1)))).mono ?_;rintro e w5 ⟨rfl,h5⟩;have c5:=h5.cell;have f5:=h5.free))
    all_goals
     have h6:=(h5.set 1 (.bool (y % 2 == 1))).set 3 (.int .i64 y2);generalize ((w5.setCell ⟨gb,1,none⟩ (.bool (y % 2 == 1))).setCell ⟨gb,3,none⟩ (.int .i64 y2))=w7 at *;clear c2 f2 c2d f2d e2d k2d c5 f5;have c2:=h6.cell;have f2:=h6.free;go_wp2_with fail
     refine (g1 _ _ h6).mono ?_
     rintro e w8 ⟨rfl,h8⟩;clear c2 f2;have f8:=h8.free;have c8:=h8.cell;go_upto_region 19 with fail
     have h7:=h8.set 2 (.int .i64 x2);generalize w8.setCell _ _=w9 at *;clear f8 c8;have c2:=h7.cell;have c3:=h7.f2.cell;have f3:=h7.f2.free;have h9:=((((h7.eq (star_left_comm _ _ _)).set 0 (.int .i64 0)).set 1 (.bool (y % 2 == 1))).set 2 (.int .i64 x2)).set 3 (.int .i64 y2);go_wp2;have cr:=h9.cell;refine bodyPost_ret (v:=.tuple #[.agg #[.int .i64 0,.bool (y % 2 == 1),.int .i64 x2,.int .i64 y2],.int .i64 2,.int .i64 0]) (by simp[results,Tryz.results57,go_sem,cr]) rfl ⟨rfl,h9.drop.drop⟩
  ·have q1:(x % 2 == 0)=false:=by simp[hev]
   by_cases ha:a=0
   ·subst ha
    by_cases hb:b=0
    ·subst hb
     rw[if_pos rfl,if_pos ⟨hev,.inl rfl⟩];clear v2 v3 v4 v5 hev hF;go_enter Tryz.func57,Tryz.ntmps57
     go_upto_region 10 with (first | (go_at_call 113;with_reducible refine (hi1 _ hF1).mono ?_;rintro e w1 ⟨rfl,rfl⟩) | (go_at_call 113;with_reducible refine (hi2 _ hF1).mono ?_;rintro e w1 ⟨rfl,rfl⟩) | (go_at_call 114;with_reducible refine (hnu _).mono ?_;rintro e w1 ⟨rfl,rfl⟩))
     generalize w.alloc _=wa at *;generalize w.heap.size=ga at *;have h9:=(((h1.set 0 (.int .i64 0)).set 1 (.bool false)).set 2 (.int .i64 0)).set 3 (.int .i64 0);go_wp2;have cr:=h9.cell;refine bodyPost_ret (v:=.tuple #[.agg #[.int .i64 0,.bool false,.int .i64 0,.int .i64 0],.int .i64 0,.int .i64 4]) (by simp[results,Tryz.results57,go_sem,cr]) rfl ⟨rfl,h9.drop⟩
    ·have hk1:¬ (b=0):=hb
     obtain⟨m,rfl⟩:∃ m:Nat,b=m:=⟨b.toNat,by omega⟩;have hm:m<10:=by omega
     have h5:x≠firstK.getD m 0:=v5 rfl ⟨m,hm⟩ (by show 1<=m;omega);have hl:=hF1 m hm;have hnu:=fun w=>k_numb (m:Int) w
     have qb:((m:Int) == 0)=false:=by simp;omega
     rw[if_pos rfl];have h6:x≠firstK.getD (m:Int).toNat 0:=h5;generalize firstK.getD m 0=F at *;by_cases hu:numb (m:Int)=true
     ·rw[if_pos ⟨hev,.inr ⟨hu,h6⟩⟩]
      rw[hu] at hnu;have qf:(x != F)=true:=by simp[h5]
      clear v2 v3 v4 v5 hev hF hb hk1 h5;go_enter Tryz.func57,Tryz.ntmps57
      go_upto_region 10 with (first | (go_at_call 113;with_reducible refine (hi1 _ hF1).mono ?_;rintro e w1 ⟨rfl,rfl⟩) | (go_at_call 113;with_reducible refine (hi2 _ hF1).mono ?_;rintro e w1 ⟨rfl,rfl⟩) | (go_at_call 114;with_reducible refine (hnu _).mono ?_;rintro e w1 ⟨rfl,rfl⟩))
      generalize w.alloc _=wa at *;generalize w.heap.size=ga at *;have h9:=(((h1.set 0 (.int .i64 0)).set 1 (.bool false)).set 2 (.int .i64 0)).set 3 (.int .i64 0);go_wp2;have cr:=h9.cell;refine bodyPost_ret (v:=.tuple #[.agg #[.int .i64 0,.bool false,.int .i64 0,.int .i64 0],.int .i64 0,.int .i64 4]) (by simp[results,Tryz.results57,go_sem,cr]) rfl ⟨rfl,h9.drop⟩
     ·have hu:numb (m:Int)=false:=by simpa using hu
      rw[if_neg (fun h=>h.2.elim hk1 (fun e=>absurd e.1 (by rw[hu];decide))),if_neg hev,if_pos hu];rw[hu] at hnu;generalize (x / 16 % 2 == 1)=P at *;clear v3 v4 v5 hev hF hb hk1 h5;go_enter Tryz.func57,Tryz.ntmps57
      go_upto_region 11 with (first | (go_at_call 113;with_reducible refine (hi1 _ hF1).mono ?_;rintro e w1 ⟨rfl,rfl⟩) | (go_at_call 113;with_reducible refine (hi2 _ hF1).mono ?_;rintro e w1 ⟨rfl,rfl⟩) | (go_at_call 114;with_reducible refine (hnu _).mono ?_;rintro e w1 ⟨rfl,rfl⟩))
      clear hi1 hi2 hF1 hx;generalize w.alloc _=wa at *;generalize w.heap.size=ga at *;have lt:=h1.lt;have h2:=h1.alloc (.cells #[.int .i64 (m:Int),.bool P,.int .i64 0,.int .i64 0] TCtl);generalize hgb:wa.heap.size=gb at *;have hne:ga≠gb:=by omega
      have hne2:gb≠ga:=by omega
      go_upto_region 12 with fail
      try clear hl
      generalize wa.alloc _=wb at *;have c2:=h2.cell;have c3:=h2.f2.cell;have f3:=h2.f2.free;have h9:=((((h2.eq (star_left_comm _ _ _)).set 0 (.int .i64 (m:Int))).set 1 (.bool P)).set 2 (.int .i64 0)).set 3 (.int .i64 0);go_wp2_with (go_at_call 114;with_reducible refine (hnu _).mono ?_;rintro e w1 ⟨rfl,rfl⟩)
      have cr:=h9.cell;refine bodyPost_ret (v:=.tuple #[.agg #[.int .i64 (m:Int),.bool P,.int .i64 0,.int .i64 0],.int .i64 1,.int .i64 0]) (by simp[results,Tryz.results57,go_sem,cr]) rfl ⟨rfl,h9.drop.drop⟩
   ·rw[if_neg ha]
    have h4:=v4 ha;obtain⟨m,rfl⟩:∃ m:Nat,a=m:=⟨a.toNat,by omega⟩;have h5:x=firstK.getD m 0:=h4;clear h4;have hm:m<10:=by omega
    have hl:=hF1 m hm;have hnu:=fun w=>k_numb (m:Int) w
    have qa:((m:Int) == 0)=false:=by simp;omega
    rw[← h5] at hl;by_cases hu:numb (m:Int)=true
    ·rw[if_neg (fun h=>h.2.elim ha (fun e=>e.2 h5)),if_neg hev,if_neg (by rw[hu];decide)]
     rw[hu] at hnu;have qf:(x != x)=false:=by simp
     by_cases hn2:n<2
     ·rw[if_pos hn2]
      have b2:decide (n<2)=true:=decide_eq_true hn2;generalize (x / 16 % 2 == 1)=P at *;clear v3 v4 v5 hev hF h5 ha;go_enter Tryz.func57,Tryz.ntmps57
      go_upto_region 11 with (first | (go_at_call 113;with_reducible refine (hi1 _ hF1).mono ?_;rintro e w1 ⟨rfl,rfl⟩) | (go_at_call 113;with_reducible refine (hi2 _ hF1).mono ?_;rintro e w1 ⟨rfl,rfl⟩) | (go_at_call 114;with_reducible refine (hnu _).mono ?_;rintro e w1 ⟨rfl,rfl⟩))
      clear hi1 hi2 hF1 hx;generalize w.alloc _=wa at *;generalize w.heap.size=ga at *;have lt:=h1.lt;have h2:=h1.alloc (.cells #[.int .i64 (m:Int),.bool P,.int .i64 0,.int .i64 0] TCtl);generalize hgb:wa.heap.size=gb at *;have hne:ga≠gb:=by omega
      have hne2:gb≠ga:=by omega
      go_upto_region 12 with fail
      try clear hl
      generalize wa.alloc _=wb at *;have c2:=h2.cell;have c3:=h2.f2.cell;have f3:=h2.f2.free;have h9:=((((h2.eq (star_left_comm _ _ _)).set 0 (.int .i64 0)).set 1 (.bool false)).set 2 (.int .i64 0)).set 3 (.int .i64 0);go_wp2_with (go_at_call 114;with_reducible refine (hnu _).mono ?_;rintro e w1 ⟨rfl,rfl⟩)
      have cr:=h9.cell;refine bodyPost_ret (v:=.tuple #[.agg #[.int .i64 0,.bool false,.int .i64 0,.int .i64 0],.int .i64 0,.int .i64 3]) (by simp[results,Tryz.results57,go_sem,cr]) rfl ⟨rfl,h9.drop.drop⟩
     ·rw[if_neg hn2]
      have b2:decide (n<2)=false:=decide_eq_false hn2;have hx2:∀ w,(Instr.index 9 (.string s) (.int .i64 1)).run Tryz.prog w=.ok (.int .u8 (byteAt s 1)) w:=str_at s 1 (by omega);rw[if_neg ha];generalize byteAt s 1=y at *;have uy:=u8_and1 y0 y1;have g2:=f_s17 y y0 y1 w0;generalize y / 2=y2 at *;generalize (x / 16 % 2 == 1)=P at *;clear v3 v4 v5 hev hF h5 ha;go_enter Tryz.func57,Tryz.ntmps57
      go_upto_region 11 with (first | (go_at_call 113;with_reducible refine (hi1 _ hF1).mono ?_;rintro e w1 ⟨rfl,rfl⟩) | (go_at_call 113;with_reducible refine (hi2 _ hF1).mono ?_;rintro e w1 ⟨rfl,rfl⟩) | (go_at_call 114;with_reducible refine (hnu _).mono ?_;rintro e w1 ⟨rfl,rfl⟩))
      clear hi1 hi2 hF1 hx;generalize w.alloc _=wa at *;generalize w.heap.size=ga at *;have lt:=h1.lt;have h2:=h1.alloc (.cells #[.int .i64 (m:Int),.bool P,.int .i64 0,.int .i64 0] TCtl);generalize hgb:wa.heap.size=gb at *;have hne:ga≠gb:=by omega
      have hne2:gb≠ga:=by omega
      go_upto_region 12 with fail
      try clear hl
      generalize wa.alloc _=wb at *;have c2:=h2.cell;have f2:=h2.free;have c2d:=h2.drew.cell;have f2d:=h2.drew.free;go_upto_region 16 with (go_at_call 114;with_reducible refine (hnu _).mono ?_;rintro e w1 ⟨rfl,rfl⟩)
      have e2d:=(h2.drew.set 1 (.bool (y % 2 == 1))).cell;have k2d:=(h2.drew.set 1 (.bool (y % 2 == 1))).free;go_region_held3 (fun _=>True) (trivial) (first | (go_at_call 112;with_reducible refine (g2 _ _ h2.drew).mono ?_;rintro e w5 ⟨rfl,h5⟩;have c5:=h5.cell;have f5:=h5.free) | (go_at_call 112;with_reducible refine (g2 _ _ (h2.drew.set 1 (.bool (y % 2 == 1)))).mono ?_;rintro e w5 ⟨rfl,h5⟩;have c5:=h5.cell;have f5:=h5.free))
      all_goals
       have h6:=(h5.set 1 (.bool (y % 2 == 1))).set 3 (.int .i64 y2);generalize ((w5.setCell ⟨gb,1,none⟩ (.bool (y % 2 == 1))).setCell ⟨gb,3,none⟩ (.int .i64 y2))=w7 at *;clear c2 f2 c2d f2d e2d k2d c5 f5;have c2:=h6.cell;have c3:=h6.f2.cell;have f3:=h6.f2.free;have h9:=((((h6.eq (star_left_comm _ _ _)).set 0 (.int .i64 (m:Int))).set 1 (.bool (y % 2 == 1))).set 2 (.int .i64 0)).set 3 (.int .i64 y2);go_wp2;have cr:=h9.cell;refine bodyPost_ret (v:=.tuple #[.agg #[.int .i64 (m:Int),.bool (y % 2 == 1),.int .i64 0,.int .i64 y2],.int .i64 2,.int .i64 0]) (by simp[results,Tryz.results57,go_sem,cr]) rfl ⟨rfl,h9.drop.drop⟩
    ·have hu:numb (m:Int)=false:=by simpa using hu
     rw[if_neg (fun h=>h.2.elim ha (fun e=>absurd e.1 (by rw[hu];decide))),if_neg hev,if_pos hu];rw[hu] at hnu;generalize (x / 16 % 2 == 1)=P at *;clear v3 v4 v5 hev hF h5 ha;go_enter Tryz.func57,Tryz.ntmps57
     go_upto_region 11 with (first | (go_at_call 113;with_reducible refine (hi1 _ hF1).mono ?_;rintro e w1 ⟨rfl,rfl⟩) | (go_at_call 113;with_reducible refine (hi2 _ hF1).mono ?_;rintro e w1 ⟨rfl,rfl⟩) | (go_at_call 114;with_reducible refine (hnu _).mono ?_;rintro e w1 ⟨rfl,rfl⟩))
     clear hi1 hi2 hF1 hx;generalize w.alloc _=wa at *;generalize w.heap.size=ga at *;have lt:=h1.lt;have h2:=h1.alloc (.cells #[.int .i64 (m:Int),.bool P,.int .i64 0,.int .i64 0] TCtl);generalize hgb:wa.heap.size=gb at *;have hne:ga≠gb:=by omega
     have hne2:gb≠ga:=by omega
     go_upto_region 12 with fail
     try clear hl
     generalize wa.alloc _=wb at *;have c2:=h2.cell;have c3:=h2.f2.cell;have f3:=h2.f2.free;have h9:=((((h2.eq (star_left_comm _ _ _)).set 0 (.int .i64 (m:Int))).set 1 (.bool P)).set 2 (.int .i64 0)).set 3 (.int .i64 0);go_wp2_with (go_at_call 114;with_reducible refine (hnu _).mono ?_;rintro e w1 ⟨rfl,rfl⟩)
     have cr:=h9.cell;refine bodyPost_ret (v:=.tuple #[.agg #[.int .i64 (m:Int),.bool P,.int .i64 0,.int .i64 0],.int .i64 1,.int .i64 0]) (by simp[results,Tryz.results57,go_sem,cr]) rfl ⟨rfl,h9.drop.drop⟩
theorem a_cmd (s t:Int) (c n:Bool) (w0 w:World) (R:HP) (h:St w0 w R) :
  Calls Tryz.prog 58 #[.agg #[.int .i64 s,.int .i64 t,.bool c],.bool n] w fun e w'=>e=.returned (.bool (c == n))/\St w0 w' R:=by
 have h2:=h.alloc (.cells #[.int .i64 s,.int .i64 t,.bool c] TAdr);have c2:=h2.cell;go_enter Tryz.func58,Tryz.ntmps58
 go_wp2;go_ret
 exact⟨rfl,h2.drop⟩
theorem checkO_size (s:ByteArray):(checkO s).1.size<=s.size:=by
 unfold checkO;split
 ·exact Nat.zero_le _
 ·split
  ·rw[ByteArray.size_extract];omega
  ·exact Nat.zero_le _
theorem adrG_two {s:ByteArray} (h:(adrG s).2=0):2<=s.size:=by
 unfold adrG at h;split at h
 ·exact absurd h (by decide)
 ·omega
theorem ctlG_or (s:ByteArray):(ctlG s).2.2≠0\/(0<=(ctlG s).2.1/\(ctlG s).2.1<=s.size):=by
 unfold ctlG;by_cases h0:s.size=0
 ·rw[if_pos h0]
  exact .inl (by decide)
 ·rw[if_neg h0]
  dsimp only;generalize (if byteAt s 0 % 2=0 then 0 else kOf (byteAt s 0))=k;split
  ·exact .inl (by show (4:Int)≠0;decide)
  ·split
   ·exact .inr (by show (0:Int)<=1/\(1:Int)<=s.size;omega)
   ·split
    ·exact .inl (by show (3:Int)≠0;decide)
    ·exact .inr (by show (0:Int)<=2/\(2:Int)<=s.size;omega)
theorem ctlG_len {s:ByteArray} (h:(ctlG s).2.2=0):0<=(ctlG s).2.1/\(ctlG s).2.1<=s.size:=(ctlG_or s).resolve_left (fun e=>e h)
theorem p_get (s:ByteArray) (net:Bool) (w0 w:World) (R:HP) (hN:∀ w',St w0 w' R->NamesAt w') (hF:∀ w',St w0 w' R->FirstAt w') (h:St w0 w R) (hs:s.size<=1000000000) :
  Calls Tryz.prog 24 #[.string s,.bool net] w fun e w'=>e=.returned (.tuple #[.agg (getO s net).1.cells.toArray,.int .i64 (getO s net).2])/\St w0 w' R:=by
 have h1:=h.alloc (.cells #[.int .i64 0,.int .i64 0,.bool false,.int .i64 0,.bool false,.int .i64 0,.int .i64 0,.string ⟨#[]⟩] TFr);have hc1:=fun v A h=>s_check s w0 v A h hs
 have hb:=checkO_size s;unfold getO;dsimp only;generalize checkO s=C at *;obtain⟨b,e1⟩:=C;simp only[] at *;by_cases he1:e1=0
 ·rw[if_neg (fun h=>h he1)]
  subst he1;have hc2:=fun v A h=>a_get b w0 v A h (by omega)
  have hb2:=@adrG_two b;generalize adrG b=A at *;obtain⟨⟨asp,atp,acr⟩,e2⟩:=A;simp only[Adr.cells] at *;have hcm:=fun v A h=>a_cmd asp atp acr net w0 v A h
  generalize (acr == net)=cmd at *;by_cases he2:e2=0
  ·rw[if_neg (fun h=>h he2)]
   subst he2;have hb3:=hb2 rfl;clear hb2;obtain⟨m,hm⟩:∃ m,b.size=m:=⟨_,rfl⟩;rw[hm] at hb hb3 ⊢;have hbs:(b.extract 2 m).size=m - 2:=by rw[ByteArray.size_extract,hm];omega
   have hc3:=fun v A hA h=>c_get (b.extract 2 m) w0 v A hA h (by omega)
   have hL:=@ctlG_len (b.extract 2 m);generalize ctlG (b.extract 2 m)=C at *;obtain⟨⟨k,pf,ns,nr⟩,L,e3⟩:=C;simp only[Ctl.cells] at *;by_cases he3:e3=0
   ·rw[if_neg (fun h=>h he3)]
    subst he3;obtain⟨l0,l1⟩:=hL rfl;rw[hbs] at l1;obtain⟨ln,rfl⟩:∃ n:Nat,L=n:=⟨L.toNat,by omega⟩;have w2:IntKind.i64.wrap (2+(ln:Int))=2+(ln:Int):=by rw[IntKind.wrap_i64];omega
    have t2:(2+(ln:Int)).toNat=2+ln:=by omega
    have l2:2+ln<=m:=by omega
    rw[t2];obtain⟨u,hu⟩:∃ u,b.extract (2+ln) m=u:=⟨_,rfl⟩;rw[hu];have hm1:=fun w=>k_may k cmd w
    have hk1:=fun w h=>k_carries k (u.size:Int) w h
    generalize mayK k cmd=M at *;generalize carries k (u.size:Int)=N at *;clear hL hbs l0 l1;cases M with
    | false =>
      rw[if_pos rfl];clear hk1;go_enter Tryz.func24,Tryz.ntmps24
      go_upto_region 1 with fail
      generalize w.alloc _=wa at *;generalize hga:w.heap.size=ga at *;go_upto_region 2 with (go_at_call 55;with_reducible refine (hc1 _ _ h1).mono ?_;rintro e w5 ⟨rfl,h5⟩)
      have c:=h5.cell;have f:=h5.free;go_upto_region 5 with (go_at_call 56;with_reducible refine (hc2 _ _ h5).mono ?_;rintro e w6 ⟨rfl,h6⟩)
      clear c f h5 hc1 hc2;have h7:=h6.alloc (.cells #[.int .i64 asp,.int .i64 atp,.bool acr] TAdr);have lt1:=h6.lt;generalize w6.alloc _=w7 at *;generalize hgb:w6.heap.size=gb at *;have ne1:ga≠gb:=by omega
      have ne2:gb≠ga:=by omega
      clear h6;have hc4:=hc3 _ _ (fun w' h=>hF w' h.drop.drop) h7;have c:=h7.f2.cell;have f:=h7.f2.free;go_upto_region 8 with (go_at_call 57;with_reducible refine hc4.mono ?_;rintro e w8 ⟨rfl,h8⟩)
      clear c f hc4 hc3 h7;have hC:=h8.alloc (.cells #[.int .i64 k,.bool pf,.int .i64 ns,.int .i64 nr] TCtl);have lt2:=h8.lt;have lt3:=h8.drop.lt;generalize w8.alloc _=w9 at *;generalize hgc:w8.heap.size=gc at *;have ne3:gc≠gb:=by omega
      have ne4:gb≠gc:=by omega
      have ne5:gc≠ga:=by omega
      have ne6:ga≠gc:=by omega
      clear h8;have ca:=hC.f2.cell;have fa:=hC.f2.free;go_wp2_with fail
      refine (hcm _ _ hC).mono ?_
      rintro e w10 ⟨rfl,h10⟩;clear ca fa hC hcm;have ca:=h10.f2.cell;have cc:=h10.cell;have c:=h10.f3.cell;have f:=h10.f3.free;go_upto_region 14 with (go_at_call 59;with_reducible refine (hm1 _).mono ?_;rintro e w11 ⟨rfl,rfl⟩)
      have h9:=(((((((((h10.f3).set 0 (.int .i64 0)).set 1 (.int .i64 0)).set 2 (.bool false)).set 3 (.int .i64 0)).set 4 (.bool false)).set 5 (.int .i64 0)).set 6 (.int .i64 0)).set 7 (.string ⟨#[]⟩));go_wp2;have cr:=h9.cell;refine bodyPost_ret (v:=.tuple #[.agg #[.int .i64 0,.int .i64 0,.bool false,.int .i64 0,.bool false,.int .i64 0,.int .i64 0,.string ⟨#[]⟩],.int .i64 4]) (by simp[results,Tryz.results24,go_sem,cr]) rfl ⟨rfl,h9.drop.drop.drop⟩
    | true =>
      rw[if_neg (by decide)];cases N with
      | false =>
        rw[if_pos rfl];go_enter Tryz.func24,Tryz.ntmps24
        go_upto_region 1 with fail
        generalize w.alloc _=wa at *;generalize hga:w.heap.size=ga at *;go_upto_region 2 with (go_at_call 55;with_reducible refine (hc1 _ _ h1).mono ?_;rintro e w5 ⟨rfl,h5⟩)
        have c:=h5.cell;have f:=h5.free;go_upto_region 5 with (go_at_call 56;with_reducible refine (hc2 _ _ h5).mono ?_;rintro e w6 ⟨rfl,h6⟩)
        clear c f h5 hc1 hc2;have h7:=h6.alloc (.cells #[.int .i64 asp,.int .i64 atp,.bool acr] TAdr);have lt1:=h6.lt;generalize w6.alloc _=w7 at *;generalize hgb:w6.heap.size=gb at *;have ne1:ga≠gb:=by omega
        have ne2:gb≠ga:=by omega
        clear h6;have hc4:=hc3 _ _ (fun w' h=>hF w' h.drop.drop) h7;have c:=h7.f2.cell;have f:=h7.f2.free;go_upto_region 8 with (go_at_call 57;with_reducible refine hc4.mono ?_;rintro e w8 ⟨rfl,h8⟩)
        clear c f hc4 hc3 h7;have hC:=h8.alloc (.cells #[.int .i64 k,.bool pf,.int .i64 ns,.int .i64 nr] TCtl);have lt2:=h8.lt;have lt3:=h8.drop.lt;generalize w8.alloc _=w9 at *;generalize hgc:w8.heap.size=gc at *;have ne3:gc≠gb:=by omega
        have ne4:gb≠gc:=by omega
        have ne5:gc≠ga:=by omega
        have ne6:ga≠gc:=by omega
        clear h8;have ca:=hC.f2.cell;have fa:=hC.f2.free;go_wp2_with fail
        refine (hcm _ _ hC).mono ?_
        rintro e w10 ⟨rfl,h10⟩;clear ca fa hC hcm;have ca:=h10.f2.cell;have cc:=h10.cell;have c:=h10.f3.cell;have f:=h10.f3.free;have hk2:=hk1 w10 (hN _ h10.drop.drop.drop);go_upto_region 16 with (first | (go_at_call 59;with_reducible refine (hm1 _).mono ?_;rintro e w11 ⟨rfl,rfl⟩) | (go_at_call 60;with_reducible refine hk2.mono ?_;rintro e w11 ⟨rfl,rfl⟩))
        have h9:=(((((((((h10.f3).set 0 (.int .i64 0)).set 1 (.int .i64 0)).set 2 (.bool false)).set 3 (.int .i64 0)).set 4 (.bool false)).set 5 (.int .i64 0)).set 6 (.int .i64 0)).set 7 (.string ⟨#[]⟩));go_wp2;have cr:=h9.cell;refine bodyPost_ret (v:=.tuple #[.agg #[.int .i64 0,.int .i64 0,.bool false,.int .i64 0,.bool false,.int .i64 0,.int .i64 0,.string ⟨#[]⟩],.int .i64 5]) (by simp[results,Tryz.results24,go_sem,cr]) rfl ⟨rfl,h9.drop.drop.drop⟩
      | true =>
        rw[if_neg (by decide)];go_enter Tryz.func24,Tryz.ntmps24
        go_upto_region 1 with fail
        generalize w.alloc _=wa at *;generalize hga:w.heap.size=ga at *;go_upto_region 2 with (go_at_call 55;with_reducible refine (hc1 _ _ h1).mono ?_;rintro e w5 ⟨rfl,h5⟩)
        have c:=h5.cell;have f:=h5.free;go_upto_region 5 with (go_at_call 56;with_reducible refine (hc2 _ _ h5).mono ?_;rintro e w6 ⟨rfl,h6⟩)
        clear c f h5 hc1 hc2;have h7:=h6.alloc (.cells #[.int .i64 asp,.int .i64 atp,.bool acr] TAdr);have lt1:=h6.lt;generalize w6.alloc _=w7 at *;generalize hgb:w6.heap.size=gb at *;have ne1:ga≠gb:=by omega
        have ne2:gb≠ga:=by omega
        clear h6;have hc4:=hc3 _ _ (fun w' h=>hF w' h.drop.drop) h7;have c:=h7.f2.cell;have f:=h7.f2.free;go_upto_region 8 with (go_at_call 57;with_reducible refine hc4.mono ?_;rintro e w8 ⟨rfl,h8⟩)
        clear c f hc4 hc3 h7;have hC:=h8.alloc (.cells #[.int .i64 k,.bool pf,.int .i64 ns,.int .i64 nr] TCtl);have lt2:=h8.lt;have lt3:=h8.drop.lt;generalize w8.alloc _=w9 at *;generalize hgc:w8.heap.size=gc at *;have ne3:gc≠gb:=by omega
        have ne4:gb≠gc:=by omega
        have ne5:gc≠ga:=by omega
        have ne6:ga≠gc:=by omega
        clear h8;have ca:=hC.f2.cell;have fa:=hC.f2.free;go_wp2_with fail
        refine (hcm _ _ hC).mono ?_
        rintro e w10 ⟨rfl,h10⟩;clear ca fa hC hcm;have ca:=h10.f2.cell;have cc:=h10.cell;have c:=h10.f3.cell;have f:=h10.f3.free;have hk2:=hk1 w10 (hN _ h10.drop.drop.drop);go_upto_region 17 with (first | (go_at_call 59;with_reducible refine (hm1 _).mono ?_;rintro e w11 ⟨rfl,rfl⟩) | (go_at_call 60;with_reducible refine hk2.mono ?_;rintro e w11 ⟨rfl,rfl⟩))
        have h9:=((((((((h10.f3.set 0 (.int .i64 asp)).set 1 (.int .i64 atp)).set 2 (.bool cmd)).set 3 (.int .i64 k)).set 4 (.bool pf)).set 5 (.int .i64 ns)).set 6 (.int .i64 nr)).set 7 (.string u));go_wp2;have cr:=h9.cell;refine bodyPost_ret (v:=.tuple #[.agg #[.int .i64 asp,.int .i64 atp,.bool cmd,.int .i64 k,.bool pf,.int .i64 ns,.int .i64 nr,.string u],.int .i64 0]) (by simp[results,Tryz.results24,go_sem,cr]) rfl ⟨rfl,h9.drop.drop.drop⟩
   ·rw[if_pos he3]
    have q1:(e3 == 0)=false:=by simp[he3]
    have q2:(e3 != 0)=true:=by simp[he3]
    clear he3 hL hbs;go_enter Tryz.func24,Tryz.ntmps24
    go_upto_region 1 with fail
    generalize w.alloc _=wa at *;generalize hga:w.heap.size=ga at *;go_upto_region 2 with (go_at_call 55;with_reducible refine (hc1 _ _ h1).mono ?_;rintro e w5 ⟨rfl,h5⟩)
    have c:=h5.cell;have f:=h5.free;go_upto_region 5 with (go_at_call 56;with_reducible refine (hc2 _ _ h5).mono ?_;rintro e w6 ⟨rfl,h6⟩)
    clear c f h5 hc1 hc2;have h7:=h6.alloc (.cells #[.int .i64 asp,.int .i64 atp,.bool acr] TAdr);have lt1:=h6.lt;generalize w6.alloc _=w7 at *;generalize hgb:w6.heap.size=gb at *;have ne1:ga≠gb:=by omega
    have ne2:gb≠ga:=by omega
    clear h6;have hc4:=hc3 _ _ (fun w' h=>hF w' h.drop.drop) h7;have c:=h7.f2.cell;have f:=h7.f2.free;go_upto_region 8 with (go_at_call 57;with_reducible refine hc4.mono ?_;rintro e w8 ⟨rfl,h8⟩)
    clear c f hc4 hc3 h7;have hC:=h8.alloc (.cells #[.int .i64 k,.bool pf,.int .i64 ns,.int .i64 nr] TCtl);have lt2:=h8.lt;have lt3:=h8.drop.lt;generalize w8.alloc _=w9 at *;generalize hgc:w8.heap.size=gc at *;have ne3:gc≠gb:=by omega
    have ne4:gb≠gc:=by omega
    have ne5:gc≠ga:=by omega
    have ne6:ga≠gc:=by omega
    clear h8;have ca:=hC.f2.cell;have fa:=hC.f2.free;go_wp2_with fail
    refine (hcm _ _ hC).mono ?_
    rintro e w10 ⟨rfl,h10⟩;clear ca fa hC hcm;have ca:=h10.f2.cell;have cc:=h10.cell;have c:=h10.f3.cell;have f:=h10.f3.free;have h9:=(((((((((h10.f3).set 0 (.int .i64 0)).set 1 (.int .i64 0)).set 2 (.bool false)).set 3 (.int .i64 0)).set 4 (.bool false)).set 5 (.int .i64 0)).set 6 (.int .i64 0)).set 7 (.string ⟨#[]⟩));go_wp2;have cr:=h9.cell;refine bodyPost_ret (v:=.tuple #[.agg #[.int .i64 0,.int .i64 0,.bool false,.int .i64 0,.bool false,.int .i64 0,.int .i64 0,.string ⟨#[]⟩],.int .i64 e3]) (by simp[results,Tryz.results24,go_sem,cr]) rfl ⟨rfl,h9.drop.drop.drop⟩
  ·rw[if_pos he2]
   have q1:(e2 != 0)=true:=by simp[he2]
   clear hb2 he2 hN hF;go_enter Tryz.func24,Tryz.ntmps24
   go_upto_region 1 with fail
   generalize w.alloc _=wa at *;generalize hga:w.heap.size=ga at *;go_upto_region 2 with (go_at_call 55;with_reducible refine (hc1 _ _ h1).mono ?_;rintro e w5 ⟨rfl,h5⟩)
   have c:=h5.cell;have f:=h5.free;go_upto_region 5 with (go_at_call 56;with_reducible refine (hc2 _ _ h5).mono ?_;rintro e w6 ⟨rfl,h6⟩)
   clear c f h5 hc1 hc2;have h7:=h6.alloc (.cells #[.int .i64 asp,.int .i64 atp,.bool acr] TAdr);have lt1:=h6.lt;generalize w6.alloc _=w7 at *;generalize hgb:w6.heap.size=gb at *;have ne1:ga≠gb:=by omega
   have ne2:gb≠ga:=by omega
   have c:=h7.f2.cell;have f:=h7.f2.free;have h9:=(((((((((h7.f2).set 0 (.int .i64 0)).set 1 (.int .i64 0)).set 2 (.bool false)).set 3 (.int .i64 0)).set 4 (.bool false)).set 5 (.int .i64 0)).set 6 (.int .i64 0)).set 7 (.string ⟨#[]⟩));go_wp2;have cr:=h9.cell;refine bodyPost_ret (v:=.tuple #[.agg #[.int .i64 0,.int .i64 0,.bool false,.int .i64 0,.bool false,.int .i64 0,.int .i64 0,.string ⟨#[]⟩],.int .i64 e2]) (by simp[results,Tryz.results24,go_sem,cr]) rfl ⟨rfl,h9.drop.drop⟩
 ·rw[if_pos he1]
  have q1:(e1 != 0)=true:=by simp[he1]
  clear he1 hN hF;go_enter Tryz.func24,Tryz.ntmps24
  go_upto_region 1 with fail
  generalize w.alloc _=wa at *;generalize hga:w.heap.size=ga at *;go_upto_region 2 with (go_at_call 55;with_reducible refine (hc1 _ _ h1).mono ?_;rintro e w5 ⟨rfl,h5⟩)
  have c:=h5.cell;have f:=h5.free;have h9:=(((((((((h5).set 0 (.int .i64 0)).set 1 (.int .i64 0)).set 2 (.bool false)).set 3 (.int .i64 0)).set 4 (.bool false)).set 5 (.int .i64 0)).set 6 (.int .i64 0)).set 7 (.string ⟨#[]⟩));go_wp2;have cr:=h9.cell;refine bodyPost_ret (v:=.tuple #[.agg #[.int .i64 0,.int .i64 0,.bool false,.int .i64 0,.bool false,.int .i64 0,.int .i64 0,.string ⟨#[]⟩],.int .i64 6]) (by simp[results,Tryz.results24,go_sem,cr]) rfl ⟨rfl,h9.drop⟩
end Go.Proofs.YtjcldoejpldcmaaGreatDoor
