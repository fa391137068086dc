/- Parts of a proof (RenJ). No condition. -/
import Derived.Test.YtnnahljdhdippaaGreatDoorC26
namespace Go.Proofs.YtnnahljdhdippaaGreatDoor
set_option maxRecDepth 100000
set_option maxHeartbeats 6400000
open Go.RowKit
theorem n_new (k n:Int) (w0 w:World) (R:HP) (h:St w0 w R) :
  Calls Tryz.prog 37 #[.int .i64 k,.int .i64 n] w fun r w'=>∃ e,r=.returned (ptr e)/\St w0 w' (RnAt e (newEn k n)*R):=by
 by_cases n32:32<n
 ·have hM:max 1 (min n 32)=32:=by omega
  have b1:decide (n<1)=false:=by simp;omega
  have b2:decide (n > 32)=true:=by simpa using n32
  rw[newEn,hM];clear hM;go_enter Tryz.func37,Tryz.ntmps37
  go_wp2_with fail
  refine (g_new k 256 w0 w R h).mono ?_
  rintro r w1 ⟨fp,rfl,h1⟩;go_wp2;go_ret
  refine⟨_,rfl,?_⟩
  have h3:=((h1.alloc (.cells #[.int .i64 32,.int .i64 1,.int .i64 (-1),.int .i64 0,.bool false,.bool false,.bool false,.slice none 0 0,ptr fp,.slice none 0 0] TRe)).row_nil 9 1).l_nil TRx 11 Fx.cells;have h4:=h3.eq (show _=blk w1.heap.size (.cells #[.int .i64 32,.int .i64 1,.int .i64 (-1),.int .i64 0,.bool false,.bool false,.bool false,.slice none 0 0,ptr fp,.slice none 0 0] TRe (0,0))*(LAt TRx 11 Fx.cells (.slice none 0 0) []*(FAt TG TR fp (newFl k)*(Row 9 1 (.slice none 0 0) 0 []*R))) by ac_rfl);exact h4.n_shut (x:=⟨32,1,-1,0,false,false,false,[],newFl k,[]⟩) rfl rfl rfl rfl rfl
 have b2:decide (n > 32)=false:=by simp;omega
 by_cases n1:n<1
 ·have hM:max 1 (min n 32)=1:=by omega
  have b1:decide (n<1)=true:=by simpa using n1
  clear b2;rw[newEn,hM];clear hM;go_enter Tryz.func37,Tryz.ntmps37
  go_wp2_with fail
  refine (g_new k 256 w0 w R h).mono ?_
  rintro r w1 ⟨fp,rfl,h1⟩;go_wp2;go_ret
  refine⟨_,rfl,?_⟩
  have h3:=((h1.alloc (.cells #[.int .i64 1,.int .i64 1,.int .i64 (-1),.int .i64 0,.bool false,.bool false,.bool false,.slice none 0 0,ptr fp,.slice none 0 0] TRe)).row_nil 9 1).l_nil TRx 11 Fx.cells;have h4:=h3.eq (show _=blk w1.heap.size (.cells #[.int .i64 1,.int .i64 1,.int .i64 (-1),.int .i64 0,.bool false,.bool false,.bool false,.slice none 0 0,ptr fp,.slice none 0 0] TRe (0,0))*(LAt TRx 11 Fx.cells (.slice none 0 0) []*(FAt TG TR fp (newFl k)*(Row 9 1 (.slice none 0 0) 0 []*R))) by ac_rfl);exact h4.n_shut (x:=⟨1,1,-1,0,false,false,false,[],newFl k,[]⟩) rfl rfl rfl rfl rfl
 ·have hM:max 1 (min n 32)=n:=by omega
  have b1:decide (n<1)=false:=by simp;omega
  rw[newEn,hM];clear hM;go_enter Tryz.func37,Tryz.ntmps37
  go_wp2_with fail
  refine (g_new k 256 w0 w R h).mono ?_
  rintro r w1 ⟨fp,rfl,h1⟩;go_wp2;go_ret
  refine⟨_,rfl,?_⟩
  have h3:=((h1.alloc (.cells #[.int .i64 n,.int .i64 1,.int .i64 (-1),.int .i64 0,.bool false,.bool false,.bool false,.slice none 0 0,ptr fp,.slice none 0 0] TRe)).row_nil 9 1).l_nil TRx 11 Fx.cells;have h4:=h3.eq (show _=blk w1.heap.size (.cells #[.int .i64 n,.int .i64 1,.int .i64 (-1),.int .i64 0,.bool false,.bool false,.bool false,.slice none 0 0,ptr fp,.slice none 0 0] TRe (0,0))*(LAt TRx 11 Fx.cells (.slice none 0 0) []*(FAt TG TR fp (newFl k)*(Row 9 1 (.slice none 0 0) 0 []*R))) by ac_rfl);exact h4.n_shut (x:=⟨n,1,-1,0,false,false,false,[],newFl k,[]⟩) rfl rfl rfl rfl rfl
theorem n_reply (e:Nat) (x:En) (k:Int) (y:Fr) (hl:x.out.length<=100000) (w0 w:World) (R:HP) (h:St w0 w (RnAt e x*R)) :
  Calls Tryz.prog 236 #[ptr e,.int .i64 k,.agg y.cells.toArray] w fun r w'=>r=.returned (.tuple #[])/\St w0 w' (RnAt e (x.send k false y.pf)*R):=by
 have h2:=h.alloc (.cells y.cells.toArray TRf);clear h;go_enter Tryz.func236,Tryz.ntmps236
 go_upto_region 1 with fail
 generalize w.alloc _=wa at *;generalize w.heap.size=ga at *;have d:=h2.cell;go_wp2_with fail
 refine (n_send e x ⟨0,0,false,k,y.pf,0,0,noStr⟩ hl w0 _ _ h2.f2).mono ?_
 rintro r w_ ⟨rfl,h3⟩;clear d h2;go_wp2;first
  | (go_end0;exact⟨rfl,h3.f2.drop⟩)
  | (refine bodyPost_ret (v:=.tuple #[]) (by simp[results,go_sem]) rfl ?_;exact⟨rfl,h3.f2.drop⟩)
theorem n_strange (e:Nat) (x:En) (y:Fr) (hl:x.out.length<=100000) (w0 w:World) (R:HP) (h:St w0 w (RnAt e x*R)) :
  Calls Tryz.prog 238 #[ptr e,.agg y.cells.toArray] w fun r w'=>r=.returned (.tuple #[])/\St w0 w' (RnAt e (x.strange y)*R):=by
 obtain⟨a1,a2,a3,a4,pf,a6,a7,a8⟩:=y;have h2:=h.alloc (.cells (Fr.cells ⟨a1,a2,a3,a4,pf,a6,a7,a8⟩).toArray TRf);clear h;unfold En.strange;cases pf with
 | true =>
   rw[if_pos rfl];go_enter Tryz.func238,Tryz.ntmps238
   go_upto_region 1 with fail
   generalize w.alloc _=wa at *;generalize w.heap.size=ga at *;have d:=h2.cell;go_wp2_with fail
   refine (n_tell e x 7 ⟨#[67]⟩ hl w0 _ _ h2.f2).mono ?_
   rintro r w_ ⟨rfl,h3⟩;clear d h2;go_wp2;first
    | (go_end0;exact⟨rfl,h3.f2.drop⟩)
    | (refine bodyPost_ret (v:=.tuple #[]) (by simp[results,go_sem]) rfl ?_;exact⟨rfl,h3.f2.drop⟩)
 | false =>
   rw[if_neg (by simp)];go_enter Tryz.func238,Tryz.ntmps238
   go_upto_region 1 with fail
   generalize w.alloc _=wa at *;generalize w.heap.size=ga at *;have d:=h2.cell;go_wp2_with fail
   refine (n_tell e x 7 ⟨#[68]⟩ hl w0 _ _ h2.f2).mono ?_
   rintro r w_ ⟨rfl,h3⟩;clear d h2;go_wp2;first
    | (go_end0;exact⟨rfl,h3.f2.drop⟩)
    | (refine bodyPost_ret (v:=.tuple #[]) (by simp[results,go_sem]) rfl ?_;exact⟨rfl,h3.f2.drop⟩)
theorem n_unsure (e:Nat) (x:En) (ok:x.fl.Ok) (hl:x.out.length<=100000) (w0 w:World) (R:HP) (h:St w0 w (RnAt e x*R)) :
  Calls Tryz.prog 239 #[ptr e] w fun r w'=>r=.returned (.tuple #[])/\St w0 w' (RnAt e x.unsure*R):=by
 obtain⟨fp,R',c8,hf,hb,hc⟩:=h.n_fl;obtain⟨qp,hq⟩:=hf.f_open;obtain⟨lv,hq2⟩:=hq.f2.q_open;have cs:w.cell? ⟨qp,2,none⟩=some (.int .i64 x.fl.q.sent):=hq2.cell 2;have cq:w.cell? ⟨fp,7,none⟩=some (ptr qp):=hq.cell 7;clear hq hq2 hc;unfold En.unsure;by_cases hs:x.fl.q.sent=0
 ·rw[if_neg (by simpa using hs)]
  rw[hs] at cs;clear hs hf hb;go_enter Tryz.func239,Tryz.ntmps239
  go_wp2;first
   | (go_end0;exact⟨rfl,h⟩)
   | (refine bodyPost_ret (v:=.tuple #[]) (by simp[results,go_sem]) rfl ?_;exact⟨rfl,h⟩)
 ·rw[if_pos hs]
  have bs:decide (((x.fl.q.sent:Nat):Int) > 0)=true:=by simp;omega
  have bs2:0<x.fl.q.sent:=by omega
  clear hs h;go_enter Tryz.func239,Tryz.ntmps239
  go_wp2_with fail
  refine (g_clear fp x.fl w0 w _ hf ok).mono ?_
  rintro r w_ ⟨rfl,h5⟩;have h6:=hb _ _ h5;clear hf hb h5 c8 cs cq;go_wp2_with fail
  refine (n_tell e (x.setFl x.fl.clear) 1 noStr hl w0 _ R h6).mono ?_
  rintro r w_ ⟨rfl,h7⟩;clear h6;go_wp2;first
   | (go_end0;exact⟨rfl,h7⟩)
   | (refine bodyPost_ret (v:=.tuple #[]) (by simp[results,go_sem]) rfl ?_;exact⟨rfl,h7⟩)
theorem n_again (e:Nat) (x:En) (k:Int) (l:ByteArray) (g:Int) (ok:x.fl.Ok) (ht:0<=x.tries/\x.tries<=1000) (hl:x.out.length<=99980) (w0 w:World) (R:HP) (h:St w0 w (RnAt e x*R)) :
  Calls Tryz.prog 215 #[ptr e,.int .i64 k,.string l,.int .i64 g] w fun r w'=>r=.returned (.tuple #[])/\St w0 w' (RnAt e (x.again k l g)*R):=by
 have c0:=h.n_c0;have c3:=h.n_c3;have l1:=x.told_len 7 l;have l2:=(x.told 7 l).told_len g noStr;unfold En.again;by_cases hm:x.tries=x.most
 ·rw[if_pos hm]
  have b:(x.tries == x.most)=true:=by simpa using hm
  have H:=Lib.hid h;go_enter Tryz.func215,Tryz.ntmps215
  clear hm h;go_wp2;go_quiet (fail)
  go_wp2_with fail
  refine (n_tell e x 7 l (by omega) w0 _ R (H.out.drewN _)).mono ?_
  rintro r w_ ⟨rfl,h3⟩;go_wp2_with fail
  refine (n_tell e (x.told 7 l) g noStr (by omega) w0 _ R h3).mono ?_
  rintro r w_ ⟨rfl,h4⟩;go_wp2_with fail
  refine (n_end e ((x.told 7 l).told g noStr) ok (by omega) w0 _ R h4).mono ?_
  rintro r w_ ⟨rfl,h5⟩;clear c0 c3 h3 h4;go_wp2;refine bodyPost_ret (v:=.tuple #[]) (by simp[results,Tryz.results215,go_sem]) rfl ?_
  exact⟨rfl,h5⟩
 ·rw[if_neg hm]
  have b:(x.tries == x.most)=false:=by simpa using hm
  have hw:IntKind.i64.wrap (x.tries+1)=x.tries+1:=by rw[IntKind.wrap_i64];omega
  have H:=Lib.hid h;have l3:((x.setTries (x.tries+1)).send k true true).out.length=x.out.length+1:=En.send_len (x.setTries (x.tries+1)) k true true;have f:=h.n_fr;go_enter Tryz.func215,Tryz.ntmps215
  clear hm h;go_wp2;go_quiet (fail)
  go_wp2_with fail
  refine (n_send e (x.setTries (x.tries+1)) ⟨0,0,true,k,true,0,0,noStr⟩ (show x.out.length<=100000 by omega) w0 _ R ((H.out.drewN _).n_set_tries (x.tries+1))).mono ?_
  rintro r w_ ⟨rfl,h3⟩;clear c0 c3 f;have h3':St w0 _ (RnAt e ((x.setTries (x.tries+1)).send k true true)*R):=h3;clear h3;go_wp2_with fail
  refine (n_start e _ 200 (.inl rfl) (by omega) w0 _ R h3').mono ?_
  rintro r w_ ⟨rfl,h4⟩;clear h3';go_wp2;first
   | (go_end0;exact⟨rfl,h4⟩)
   | (refine bodyPost_ret (v:=.tuple #[]) (by simp[results,go_sem]) rfl ?_;exact⟨rfl,h4⟩)
theorem n_count (e:Nat) (x:En) (n:Int) (hl:x.out.length<=99990) (w0 w:World) (R:HP) (h:St w0 w (RnAt e x*R)) :
  Calls Tryz.prog 271 #[ptr e,.int .i64 n] w fun r w'=>r=.returned (.tuple #[])/\St w0 w' (RnAt e (x.count n)*R):=by
 obtain⟨fp,R',c8,hf,hb,hc⟩:=h.n_fl;obtain⟨qp,hq⟩:=hf.f_open;have ca:w.cell? ⟨fp,1,none⟩=some (.int .i64 x.fl.va):=hq.cell 1;have cs:w.cell? ⟨fp,0,none⟩=some (.int .i64 x.fl.vs):=hq.cell 0;clear hq hc hf hb;unfold En.count;have l1:=x.stop_len 200;have H:=Lib.hid h;clear h;by_cases hs:x.fl.va=x.fl.vs
 ·rw[if_pos hs]
  have b:(((x.fl.va:Nat):Int) == ((x.fl.vs:Nat):Int))=true:=by simp[hs]
  clear hs;go_enter Tryz.func271,Tryz.ntmps271
  go_wp2;go_quiet (fail)
  go_wp2_with fail
  refine (n_stop e x 200 (.inl rfl) (by omega) w0 _ _ (H.out.drewN _)).mono ?_
  rintro r w_ ⟨rfl,h5⟩;clear c8 ca cs;go_wp2_with fail
  refine (n_start e _ 203 (.inr rfl) (by omega) w0 _ _ h5).mono ?_
  rintro r w_ ⟨rfl,h6⟩;clear h5;go_wp2;first
   | (go_end0;exact⟨rfl,h6⟩)
   | (refine bodyPost_ret (v:=.tuple #[]) (by simp[results,go_sem]) rfl ?_;exact⟨rfl,h6⟩)
 ·rw[if_neg hs]
  have b:(((x.fl.va:Nat):Int) == ((x.fl.vs:Nat):Int))=false:=by simp;omega
  by_cases hn:0<n
  ·rw[if_pos hn]
   have bn:decide (n > 0)=true:=by simpa using hn
   go_enter Tryz.func271,Tryz.ntmps271
   go_wp2;go_quiet (fail)
   go_wp2_with fail
   refine (n_start e x 200 (.inl rfl) (by omega) w0 _ _ (H.out.drewN _)).mono ?_
   rintro r w_ ⟨rfl,h5⟩;clear c8 ca cs;go_wp2;first
    | (go_end0;exact⟨rfl,h5⟩)
    | (refine bodyPost_ret (v:=.tuple #[]) (by simp[results,go_sem]) rfl ?_;exact⟨rfl,h5⟩)
  ·rw[if_neg hn]
   have bn:decide (n > 0)=false:=by simpa using hn
   go_enter Tryz.func271,Tryz.ntmps271
   go_wp2;go_quiet (fail)
   have h5:=H.out.drewN nq;clear H;go_wp2;first
    | (go_end0;exact⟨rfl,h5⟩)
    | (refine bodyPost_ret (v:=.tuple #[]) (by simp[results,go_sem]) rfl ?_;exact⟨rfl,h5⟩)
theorem n_inAssigned (e:Nat) (x:En) (y:Fr) (ok:x.fl.Ok) (hl:x.out.length<=98000) (w0 w:World) (R:HP) (h:St w0 w (RnAt e x*R)) :
  Calls Tryz.prog 202 #[ptr e,.agg y.cells.toArray] w fun r w'=>r=.returned (.tuple #[])/\St w0 w' (RnAt e (x.inAssigned y)*R):=by
 obtain⟨a1,a2,a3,k,pf,a6,a7,a8⟩:=y;have h2:=h.alloc (.cells (Fr.cells ⟨a1,a2,a3,k,pf,a6,a7,a8⟩).toArray TRf);have l1:=x.send_len 8 false pf;have l2:=(x.send 8 false pf).told_len 1 noStr;clear h;unfold En.inAssigned;simp only[];by_cases k4:k=4
 ·subst k4
  rw[if_pos rfl];go_enter Tryz.func202,Tryz.ntmps202
  go_upto_region 1 with fail
  generalize w.alloc _=wa at *;generalize w.heap.size=ga at *;have d:=h2.cell;go_wp2_with fail
  refine (n_reply e x 8 ⟨a1,a2,a3,4,pf,a6,a7,a8⟩ (by omega) w0 _ _ h2.f2).mono ?_
  rintro r w_ ⟨rfl,h3⟩;clear d h2;go_wp2_with fail
  refine (n_tell e (x.send 8 false pf) 1 noStr (by omega) w0 _ _ h3).mono ?_
  rintro r w_ ⟨rfl,h4⟩;clear h3;go_wp2_with fail
  refine (n_open1 e ((x.send 8 false pf).told 1 noStr) ok (by omega) w0 _ _ h4).mono ?_
  rintro r w_ ⟨rfl,h9⟩;go_wp2;first
   | (go_end0;exact⟨rfl,h9.f2.drop⟩)
   | (refine bodyPost_ret (v:=.tuple #[]) (by simp[results,go_sem]) rfl ?_;exact⟨rfl,h9.f2.drop⟩)
 rw[if_neg k4];have b4:(k == 4)=false:=by simpa using k4
 by_cases k7:k=7
 ·subst k7
  rw[if_pos rfl];go_enter Tryz.func202,Tryz.ntmps202
  go_upto_region 1 with fail
  generalize w.alloc _=wa at *;generalize w.heap.size=ga at *;have d:=h2.cell;go_wp2_with fail
  refine (n_reply e x 5 ⟨a1,a2,a3,7,pf,a6,a7,a8⟩ (by omega) w0 _ _ h2.f2).mono ?_
  rintro r w_ ⟨rfl,h9⟩;go_wp2;first
   | (go_end0;exact⟨rfl,h9.f2.drop⟩)
   | (refine bodyPost_ret (v:=.tuple #[]) (by simp[results,go_sem]) rfl ?_;exact⟨rfl,h9.f2.drop⟩)
 rw[if_neg k7];have b7:(k == 7)=false:=by simpa using k7
 by_cases k8:k=8
 ·subst k8
  rw[if_pos rfl];go_enter Tryz.func202,Tryz.ntmps202
  go_upto_region 1 with fail
  generalize w.alloc _=wa at *;generalize w.heap.size=ga at *;have d:=h2.cell;go_wp2_with fail
  refine (n_strange e x ⟨a1,a2,a3,8,pf,a6,a7,a8⟩ (by omega) w0 _ _ h2.f2).mono ?_
  rintro r w_ ⟨rfl,h9⟩;go_wp2;first
   | (go_end0;exact⟨rfl,h9.f2.drop⟩)
   | (refine bodyPost_ret (v:=.tuple #[]) (by simp[results,go_sem]) rfl ?_;exact⟨rfl,h9.f2.drop⟩)
 rw[if_neg k8];have b8:(k == 8)=false:=by simpa using k8
 by_cases k5:k=5
 ·subst k5
  cases pf with
  | false =>
    rw[if_pos ⟨rfl,rfl⟩];go_enter Tryz.func202,Tryz.ntmps202
    go_upto_region 1 with fail
    generalize w.alloc _=wa at *;generalize w.heap.size=ga at *;have d:=h2.cell;have c4:=h2.f2.n_c4;have f5:=h2.f2.n_fr;have h3:=h2.f2.n_set_asked true;go_wp2_with fail
    refine (n_call e (x.setAsked true) (show x.out.length<=99990 by omega) w0 _ _ h3).mono ?_
    rintro r w_ ⟨rfl,h9⟩;go_wp2;first
     | (go_end0;exact⟨rfl,h9.f2.drop⟩)
     | (refine bodyPost_ret (v:=.tuple #[]) (by simp[results,go_sem]) rfl ?_;exact⟨rfl,h9.f2.drop⟩)
  | true =>
    rw[if_neg (by simp)];go_enter Tryz.func202,Tryz.ntmps202
    go_upto_region 1 with fail
    generalize w.alloc _=wa at *;generalize w.heap.size=ga at *;have d:=h2.cell;go_wp2;first
     | (go_end0;exact⟨rfl,h2.drop⟩)
     | (refine bodyPost_ret (v:=.tuple #[]) (by simp[results,go_sem]) rfl ?_;exact⟨rfl,h2.drop⟩)
 ·rw[if_neg (fun h=>k5 h.1)]
  have b5:(k == 5)=false:=by simpa using k5
  go_enter Tryz.func202,Tryz.ntmps202
  go_upto_region 1 with fail
  generalize w.alloc _=wa at *;generalize w.heap.size=ga at *;have d:=h2.cell;go_wp2;first
   | (go_end0;exact⟨rfl,h2.drop⟩)
   | (refine bodyPost_ret (v:=.tuple #[]) (by simp[results,go_sem]) rfl ?_;exact⟨rfl,h2.drop⟩)
theorem n_inConnecting (e:Nat) (x:En) (y:Fr) (ok:x.fl.Ok) (hl:x.out.length<=98000) (w0 w:World) (R:HP) (h:St w0 w (RnAt e x*R)) :
  Calls Tryz.prog 203 #[ptr e,.agg y.cells.toArray] w fun r w'=>r=.returned (.tuple #[])/\St w0 w' (RnAt e (x.inConnecting y)*R):=by
 obtain⟨a1,a2,a3,k,pf,a6,a7,a8⟩:=y;have h2:=h.alloc (.cells (Fr.cells ⟨a1,a2,a3,k,pf,a6,a7,a8⟩).toArray TRf);clear h;unfold En.inConnecting;simp only[];by_cases k4:k=4
 ·subst k4
  rw[if_pos rfl];go_enter Tryz.func203,Tryz.ntmps203
  go_upto_region 1 with fail
  generalize w.alloc _=wa at *;generalize w.heap.size=ga at *;have d:=h2.cell;go_wp2_with fail
  refine (n_reply e x 8 ⟨a1,a2,a3,4,pf,a6,a7,a8⟩ (by omega) w0 _ _ h2.f2).mono ?_
  rintro r w_ ⟨rfl,h9⟩;go_wp2;first
   | (go_end0;exact⟨rfl,h9.f2.drop⟩)
   | (refine bodyPost_ret (v:=.tuple #[]) (by simp[results,go_sem]) rfl ?_;exact⟨rfl,h9.f2.drop⟩)
 rw[if_neg k4];have b4:(k == 4)=false:=by simpa using k4
 by_cases k7:k=7
 ·subst k7
  rw[if_pos rfl];go_enter Tryz.func203,Tryz.ntmps203
  go_upto_region 1 with fail
  generalize w.alloc _=wa at *;generalize w.heap.size=ga at *;have d:=h2.cell;go_wp2_with fail
  refine (n_reply e x 5 ⟨a1,a2,a3,7,pf,a6,a7,a8⟩ (by omega) w0 _ _ h2.f2).mono ?_
  rintro r w_ ⟨rfl,h9⟩;go_wp2;first
   | (go_end0;exact⟨rfl,h9.f2.drop⟩)
   | (refine bodyPost_ret (v:=.tuple #[]) (by simp[results,go_sem]) rfl ?_;exact⟨rfl,h9.f2.drop⟩)
 rw[if_neg k7];have b7:(k == 7)=false:=by simpa using k7
 by_cases k8:k=8
 ·subst k8
  clear b4 b7 k4 k7;cases pf with
  | false =>
    rw[if_pos ⟨rfl,rfl⟩];go_enter Tryz.func203,Tryz.ntmps203
    go_upto_region 1 with fail
    generalize w.alloc _=wa at *;generalize w.heap.size=ga at *;have d:=h2.cell;go_wp2_with fail
    refine (n_tell e x 7 ⟨#[68]⟩ (by omega) w0 _ _ h2.f2).mono ?_
    rintro r w_ ⟨rfl,h9⟩;go_wp2;first
     | (go_end0;exact⟨rfl,h9.f2.drop⟩)
     | (refine bodyPost_ret (v:=.tuple #[]) (by simp[results,go_sem]) rfl ?_;exact⟨rfl,h9.f2.drop⟩)
  | true =>
    rw[if_neg (by simp),if_pos rfl];cases ha:x.asked with
    | true =>
      rw[if_pos rfl];have l1:=x.told_len 2 noStr;go_enter Tryz.func203,Tryz.ntmps203
      go_upto_region 1 with fail
      generalize w.alloc _=wa at *;generalize w.heap.size=ga at *;have d:=h2.cell;have c4:=h2.f2.n_c4;rw[ha] at c4;clear ha;go_wp2_with fail
      refine (n_tell e x 2 noStr (by omega) w0 _ _ h2.f2).mono ?_
      rintro r w_ ⟨rfl,h3⟩;clear d h2 c4;have f5:=(h3).n_fr;have c5:=(h3).n_c4;have h5:=(h3).n_set_asked false;go_wp2_with fail
      refine (n_open1 e ((x.told 2 noStr).setAsked false) ok (show (x.told 2 noStr).out.length<=98990 by omega) w0 _ _ h5).mono ?_
      rintro r w_ ⟨rfl,h9⟩;go_wp2;first
       | (go_end0;exact⟨rfl,h9.f2.drop⟩)
       | (refine bodyPost_ret (v:=.tuple #[]) (by simp[results,go_sem]) rfl ?_;exact⟨rfl,h9.f2.drop⟩)
    | false =>
      rw[if_neg (by simp)];have l1:=x.unsure_len;have ok1:=x.unsure_ok ok;go_enter Tryz.func203,Tryz.ntmps203
      go_upto_region 1 with fail
      generalize w.alloc _=wa at *;generalize w.heap.size=ga at *;have d:=h2.cell;have c4:=h2.f2.n_c4;rw[ha] at c4;clear ha;go_wp2_with fail
      refine (n_unsure e x ok (by omega) w0 _ _ h2.f2).mono ?_
      rintro r w_ ⟨rfl,h3⟩;clear d h2 c4;have f5:=(h3).n_fr;have c5:=(h3).n_c4;have h5:=(h3).n_set_asked false;go_wp2_with fail
      refine (n_open1 e ((x.unsure).setAsked false) ok1 (show x.unsure.out.length<=98990 by omega) w0 _ _ h5).mono ?_
      rintro r w_ ⟨rfl,h9⟩;go_wp2;first
       | (go_end0;exact⟨rfl,h9.f2.drop⟩)
       | (refine bodyPost_ret (v:=.tuple #[]) (by simp[results,go_sem]) rfl ?_;exact⟨rfl,h9.f2.drop⟩)
 rw[if_neg (fun h=>k8 h.1),if_neg k8];have b8:(k == 8)=false:=by simpa using k8
 by_cases k5:k=5
 ·subst k5
  clear b4 b7 k4 k7 b8 k8;cases pf with
  | true =>
    rw[if_pos ⟨rfl,rfl⟩];have l1:=x.told_len 3 noStr;go_enter Tryz.func203,Tryz.ntmps203
    go_upto_region 1 with fail
    generalize w.alloc _=wa at *;generalize w.heap.size=ga at *;have d:=h2.cell;go_wp2_with fail
    refine (n_tell e x 3 noStr (by omega) w0 _ _ h2.f2).mono ?_
    rintro r w_ ⟨rfl,h3⟩;clear d h2;go_wp2_with fail
    refine (n_end e (x.told 3 noStr) ok (by omega) w0 _ _ h3).mono ?_
    rintro r w_ ⟨rfl,h9⟩;go_wp2;first
     | (go_end0;exact⟨rfl,h9.f2.drop⟩)
     | (refine bodyPost_ret (v:=.tuple #[]) (by simp[results,go_sem]) rfl ?_;exact⟨rfl,h9.f2.drop⟩)
  | false =>
    rw[if_neg (by simp)];go_enter Tryz.func203,Tryz.ntmps203
    go_upto_region 1 with fail
    generalize w.alloc _=wa at *;generalize w.heap.size=ga at *;have d:=h2.cell;go_wp2;first
     | (go_end0;exact⟨rfl,h2.drop⟩)
     | (refine bodyPost_ret (v:=.tuple #[]) (by simp[results,go_sem]) rfl ?_;exact⟨rfl,h2.drop⟩)
 ·rw[if_neg (fun h=>k5 h.1)]
  have b5:(k == 5)=false:=by simpa using k5
  go_enter Tryz.func203,Tryz.ntmps203
  go_upto_region 1 with fail
  generalize w.alloc _=wa at *;generalize w.heap.size=ga at *;have d:=h2.cell;go_wp2;first
   | (go_end0;exact⟨rfl,h2.drop⟩)
   | (refine bodyPost_ret (v:=.tuple #[]) (by simp[results,go_sem]) rfl ?_;exact⟨rfl,h2.drop⟩)
theorem n_inReleasing (e:Nat) (x:En) (y:Fr) (ok:x.fl.Ok) (hl:x.out.length<=98000) (w0 w:World) (R:HP) (h:St w0 w (RnAt e x*R)) :
  Calls Tryz.prog 204 #[ptr e,.agg y.cells.toArray] w fun r w'=>r=.returned (.tuple #[])/\St w0 w' (RnAt e (x.inReleasing y)*R):=by
 obtain⟨a1,a2,a3,k,pf,a6,a7,a8⟩:=y;have h2:=h.alloc (.cells (Fr.cells ⟨a1,a2,a3,k,pf,a6,a7,a8⟩).toArray TRf);clear h;unfold En.inReleasing;simp only[];by_cases k4:k=4
 ·subst k4
  rw[if_pos rfl];go_enter Tryz.func204,Tryz.ntmps204
  go_upto_region 1 with fail
  generalize w.alloc _=wa at *;generalize w.heap.size=ga at *;have d:=h2.cell;go_wp2_with fail
  refine (n_reply e x 5 ⟨a1,a2,a3,4,pf,a6,a7,a8⟩ (by omega) w0 _ _ h2.f2).mono ?_
  rintro r w_ ⟨rfl,h9⟩;go_wp2;first
   | (go_end0;exact⟨rfl,h9.f2.drop⟩)
   | (refine bodyPost_ret (v:=.tuple #[]) (by simp[results,go_sem]) rfl ?_;exact⟨rfl,h9.f2.drop⟩)
 rw[if_neg k4];have b4:(k == 4)=false:=by simpa using k4
 by_cases k7:k=7
 ·subst k7
  rw[if_pos rfl];go_enter Tryz.func204,Tryz.ntmps204
  go_upto_region 1 with fail
  generalize w.alloc _=wa at *;generalize w.heap.size=ga at *;have d:=h2.cell;go_wp2_with fail
  refine (n_reply e x 8 ⟨a1,a2,a3,7,pf,a6,a7,a8⟩ (by omega) w0 _ _ h2.f2).mono ?_
  rintro r w_ ⟨rfl,h9⟩;go_wp2;first
   | (go_end0;exact⟨rfl,h9.f2.drop⟩)
   | (refine bodyPost_ret (v:=.tuple #[]) (by simp[results,go_sem]) rfl ?_;exact⟨rfl,h9.f2.drop⟩)
 rw[if_neg k7];have b7:(k == 7)=false:=by simpa using k7
 by_cases k8:k=8
 ·subst k8
  clear b4 b7 k4 k7;cases pf with
  | false =>
    rw[if_pos ⟨rfl,rfl⟩];go_enter Tryz.func204,Tryz.ntmps204
    go_upto_region 1 with fail
    generalize w.alloc _=wa at *;generalize w.heap.size=ga at *;have d:=h2.cell;go_wp2_with fail
    refine (n_tell e x 7 ⟨#[68]⟩ (by omega) w0 _ _ h2.f2).mono ?_
    rintro r w_ ⟨rfl,h9⟩;go_wp2;first
     | (go_end0;exact⟨rfl,h9.f2.drop⟩)
     | (refine bodyPost_ret (v:=.tuple #[]) (by simp[results,go_sem]) rfl ?_;exact⟨rfl,h9.f2.drop⟩)
  | true =>
    rw[if_neg (by simp),if_pos ⟨rfl,.inl rfl⟩];have l1:=x.told_len 4 noStr;go_enter Tryz.func204,Tryz.ntmps204
    go_upto_region 1 with fail
    generalize w.alloc _=wa at *;generalize w.heap.size=ga at *;have d:=h2.cell;go_wp2_with fail
    refine (n_tell e x 4 noStr (by omega) w0 _ _ h2.f2).mono ?_
    rintro r w_ ⟨rfl,h3⟩;clear d h2;go_wp2_with fail
    refine (n_end e (x.told 4 noStr) ok (by omega) w0 _ _ h3).mono ?_
    rintro r w_ ⟨rfl,h9⟩;go_wp2;first
     | (go_end0;exact⟨rfl,h9.f2.drop⟩)
     | (refine bodyPost_ret (v:=.tuple #[]) (by simp[results,go_sem]) rfl ?_;exact⟨rfl,h9.f2.drop⟩)
 rw[if_neg (fun h=>k8 h.1)];have b8:(k == 8)=false:=by simpa using k8
 by_cases k5:k=5
 ·subst k5
  clear b4 b7 k4 k7 b8 k8;cases pf with
  | true =>
    rw[if_pos ⟨rfl,.inr rfl⟩];have l1:=x.told_len 4 noStr;go_enter Tryz.func204,Tryz.ntmps204
    go_upto_region 1 with fail
    generalize w.alloc _=wa at *;generalize w.heap.size=ga at *;have d:=h2.cell;go_wp2_with fail
    refine (n_tell e x 4 noStr (by omega) w0 _ _ h2.f2).mono ?_
    rintro r w_ ⟨rfl,h3⟩;clear d h2;go_wp2_with fail
    refine (n_end e (x.told 4 noStr) ok (by omega) w0 _ _ h3).mono ?_
    rintro r w_ ⟨rfl,h9⟩;go_wp2;first
     | (go_end0;exact⟨rfl,h9.f2.drop⟩)
     | (refine bodyPost_ret (v:=.tuple #[]) (by simp[results,go_sem]) rfl ?_;exact⟨rfl,h9.f2.drop⟩)
  | false =>
    rw[if_neg (by simp)];go_enter Tryz.func204,Tryz.ntmps204
    go_upto_region 1 with fail
    generalize w.alloc _=wa at *;generalize w.heap.size=ga at *;have d:=h2.cell;go_wp2;first
     | (go_end0;exact⟨rfl,h2.drop⟩)
     | (refine bodyPost_ret (v:=.tuple #[]) (by simp[results,go_sem]) rfl ?_;exact⟨rfl,h2.drop⟩)
 ·rw[if_neg (fun h=>h.2.elim k8 k5)]
  have b5:(k == 5)=false:=by simpa using k5
  go_enter Tryz.func204,Tryz.ntmps204
  go_upto_region 1 with fail
  generalize w.alloc _=wa at *;generalize w.heap.size=ga at *;have d:=h2.cell;go_wp2;first
   | (go_end0;exact⟨rfl,h2.drop⟩)
   | (refine bodyPost_ret (v:=.tuple #[]) (by simp[results,go_sem]) rfl ?_;exact⟨rfl,h2.drop⟩)
theorem setState_same {x:En} {v:Int} (h:x.state=v):x.setState v=x:=by subst h;rfl
theorem b2_t {c p:Bool} (h:true=(c && p)):c=true/\p=true:=by cases c <;> cases p <;> simp_all
theorem b2_f {c p:Bool} (h:false=(c && p)):¬ (c=true/\p=true):=by cases c <;> cases p <;> simp_all
theorem b3_t {c p:Bool} {s:Int} (h:true=((!c && p) && s == 7)):c=false/\p=true/\s=7:=by cases c <;> cases p <;> simp_all
theorem b3_f {c p:Bool} {s:Int} (h:false=((!c && p) && s == 7)):¬ (c=false/\p=true/\s=7):=by cases c <;> cases p <;> simp_all
theorem n_supervised (e:Nat) (x:En) (y:Fr) (ok:x.fl.Ok) (hs:x.state=7\/x.state=8) (hky:y.kind=1\/y.kind=2\/y.kind=3) (hl:x.out.length<=97000) (w0 w:World) (R:HP) (h:St w0 w (RnAt e x*R)) :
  Calls Tryz.prog 241 #[ptr e,.agg y.cells.toArray] w fun r w'=>r=.returned (.tuple #[])/\St w0 w' (RnAt e (x.supervised y)*R):=by
 rw[sup_eq];obtain⟨a1,a2,cmd,k,pf,a6,nr,a8⟩:=y;have h2:=h.alloc (.cells (Fr.cells ⟨a1,a2,cmd,k,pf,a6,nr,a8⟩).toArray TRf);clear h;simp only[] at hky ⊢;have HK:=Lib.hid hky;clear hky;have s1:=sup1_state x cmd pf;have s2:=sup1_fl x cmd pf;have s3:=sup1_len x cmd pf;obtain⟨x1,hx1⟩:∃ x1,x.sup1 cmd pf=x1:=⟨_,rfl⟩;rw[hx1] at s1 s2 s3 ⊢;have HX:=Lib.hid hx1;clear hx1;obtain⟨z,hz⟩:∃ z,x1.sup2 ⟨a1,a2,cmd,k,pf,a6,nr,a8⟩=z:=⟨_,rfl⟩;rw[hz];have HZ:=Lib.hid hz;clear hz;go_enter Tryz.func241,Tryz.ntmps241
 go_upto_region 1 with fail
 generalize w.alloc _=wa at *;generalize w.heap.size=ga at *;have d:=h2.cell;go_cut [11] (fun s11 wx=>(∃ b,s11=.bool b/\Hid (b=(cmd && pf)))/\wx=wa)
 case first =>
  cases cmd <;> cases pf
  all_goals (
   go_wp2;go_meet
   exact⟨⟨_,rfl,Lib.hid rfl⟩,rfl⟩)
 case rest =>
  obtain⟨⟨b,rfl,hb⟩,rfl⟩:=hcut;go_upto_if 11 with fail
  go_cut [] (fun wx=>St w0 wx (RnAt e (if cmd=true/\pf=true then x.superv false true else x)*(blk ga (.cells #[.int .i64 a1,.int .i64 a2,.bool cmd,.int .i64 k,.bool pf,.int .i64 a6,.int .i64 nr,.string a8] TRf (0,0))*R)))
  case first =>
   have hb:=hb.out;cases b with
   | true =>
     obtain⟨rfl,rfl⟩:=b2_t hb;clear hb;go_wp2_with fail
     refine (n_answer e x false true (by omega) w0 _ _ h2.f2).mono ?_
     rintro r w_ ⟨rfl,h3⟩;clear d h2;go_wp2;go_meet
     rw[if_pos (by simp)];exact h3
   | false =>
     have hn:=Lib.hid (b2_f hb);clear hb;go_wp2;go_meet
     rw[if_neg hn.out];exact h2.f2
  case rest =>
   have hx1:=HX.out;clear HX h2 d hb;unfold En.sup1 at hx1;have hq:(if cmd=true/\pf=true then x.superv false true else x).state=x.state:=by split <;> rfl
   have hql:(if cmd=true/\pf=true then x.superv false true else x).out.length<=x.out.length+1:=by split;rw[En.superv_len];omega;omega
   have hx2:(if cmd=false/\pf=true/\(if cmd=true/\pf=true then x.superv false true else x).state=7 then (if cmd=true/\pf=true then x.superv false true else x).told 7 ⟨#[65]⟩ else (if cmd=true/\pf=true then x.superv false true else x))=x1:=by
    rw[hq,← hx1];cases cmd <;> cases pf <;> simp
   have hsa:=hs;rw[← hq] at hsa;clear hq;generalize (if cmd=true/\pf=true then x.superv false true else x)=xa at *;have HX:=Lib.hid hx2;have HS1:=Lib.hid s1;have HS2:=Lib.hid s2;clear hx1 hx2 s1 s2;have hst:=hcut;clear hcut;have c1:=hst.n_c1;have d:=hst.f2.cell;go_upto_region 3 with fail
   go_cut [27] (fun s27 wx=>(∃ b,s27=.bool b/\Hid (b=((!cmd && pf) && xa.state == 7)))/\wx=wc)
   case first =>
    cases cmd <;> cases pf
    all_goals (
     go_wp2;go_meet
     exact⟨⟨_,rfl,Lib.hid rfl⟩,rfl⟩)
   case rest =>
    obtain⟨⟨b,rfl,hb⟩,rfl⟩:=hcut;go_upto_if 27 with fail
    go_cut [] (fun wx=>St w0 wx (RnAt e x1*(blk ga (.cells #[.int .i64 a1,.int .i64 a2,.bool cmd,.int .i64 k,.bool pf,.int .i64 a6,.int .i64 nr,.string a8] TRf (0,0))*R)))
    case first =>
     have hx1:=HX.out;have hb:=hb.out;clear HX d c1;cases b with
     | true =>
       have hA:=b3_t hb;rw[if_pos hA] at hx1;subst hx1;clear hb hA;go_wp2_with fail
       refine (n_tell e xa 7 ⟨#[65]⟩ (by omega) w0 _ _ hst).mono ?_
       rintro r w_ ⟨rfl,h3⟩;go_wp2;go_meet
       exact h3
     | false =>
       have hA:=b3_f hb;rw[if_neg hA] at hx1;subst hx1;clear hb hA;go_wp2;go_meet
       exact hst
    case rest =>
     have h3:=hcut;have s1:=HS1.out;have s2:=HS2.out;rw[← s1] at hs;rw[← s2] at ok;have hl1:x1.out.length<=97001:=by omega
     clear hcut hst d c1 HX hb HS1 HS2 s1 s2 s3 hl hsa hql;have hz:=HZ.out;clear HZ;unfold En.sup2 at hz;simp only[] at hz;have HZ:=Lib.hid hz;clear hz;obtain⟨fp,R',c8,hf,hbb,hcc⟩:=h3.n_fl;obtain⟨qp,hq⟩:=hf.f_open;have d3:wc.cell? ⟨ga,3,none⟩=some (.int .i64 k):=h3.f2.cell 3;have H5:=Lib.hid (hbb _ _ ((hq.drew.set 3 (.bool (k == 2))).f_shut (s:=Fl.withPeer x1.fl (k == 2)) rfl rfl));have fq:=hq.drew.free;have cq3:wc.drew.cell? ⟨fp,3,none⟩=some (.bool x1.fl.peer):=hq.drew.cell 3;clear h3 hf hbb hcc;go_upto_region 5 with fail
     clear hq;go_still_tail 9,(by kernel_rfl)
     change wpList _ _ _ _ _ wc.drew
     generalize wc.drew=wd at *;go_upto_region 6 with fail
     have h5:=H5.out;clear H5;generalize wd.setCell _ _=w3 at *;clear fq c8 d3 cq3;obtain⟨fp,R',c8,hf,hb,hc⟩:=h5.n_fl;have d6:w3.cell? ⟨ga,6,none⟩=some (.int .i64 nr):=h5.f2.cell 6;clear h5;have hk:=g_ack fp (Fl.withPeer x1.fl (k == 2)) nr w0 w3.drew _ hf.drew (ok.peer (k == 2));have okA:=(ok.peer (k == 2)).ack nr;have hz:=HZ.out;clear HZ;generalize (Fl.withPeer x1.fl (k == 2)).ack nr=A at *;obtain⟨fl3,n,b⟩:=A;simp only[] at hk okA hz;have hs':((x1.setFl (Fl.withPeer x1.fl (k == 2))).setFl fl3).state=7\/((x1.setFl (Fl.withPeer x1.fl (k == 2))).setFl fl3).state=8:=hs;have hl':((x1.setFl (Fl.withPeer x1.fl (k == 2))).setFl fl3).out.length<=97001:=hl1;have ok':((x1.setFl (Fl.withPeer x1.fl (k == 2))).setFl fl3).fl.Ok:=okA;have hb':=fun w' h=>hb w' fl3 h
     have hc':=fun w' h=>hc w' fl3 h
     clear hb hc hs hl1 okA ok hf;generalize (x1.setFl (Fl.withPeer x1.fl (k == 2))).setFl fl3=x3 at *;unfold En.sup3 at hz;simp only[] at hz;have HZ:=Lib.hid hz;clear hz;go_region_held3 (fun wx=>wx.cell? ⟨e,8,none⟩=some (ptr fp)/\wx.cell? ⟨ga,6,none⟩=some (.int .i64 nr)) (first | (with_reducible exact⟨c8,d6⟩) | (with_reducible exact⟨m0,m1⟩) | go_keep) (first | (go_at_call 270;with_reducible refine hk.mono ?_;rintro r w4 ⟨rfl,h6⟩;have h7:=hb' _ h6;have m0:=hc' _ h6;have m1:=(h7.f2.cell 6).trans (show _=some (Value.int .i64 nr) from rfl)))
     rename_i hheld
     clear hheld;clear hb' hc' h6 hk m0 m1 c8 d6;have c1:=h7.n_c1;have d:=h7.f2.cell;have hz:=HZ.out;clear HZ;by_cases hb:b=0
     ·subst hb
      rw[if_neg (by simp)] at hz;rcases hs' with s7 | s8
      ·rw[s7] at c1
       rw[if_neg (show ¬ (x3.state=8/\(cmd=true\/pf=false)) by rw[s7];simp)] at hz;rcases HK.out with rfl | rfl | rfl
       ·rw[if_pos (show x3.state=7/\(1:Int)=1 from ⟨s7,rfl⟩)] at hz
        subst hz;clear s7;have l1:=count_len x3 n;have okc:(x3.count n).fl.Ok:=by rw[count_fl];exact ok'
        go_wp2_with fail
        refine (n_count e x3 n (by omega) w0 _ _ h7).mono ?_
        rintro r w_ ⟨rfl,h8⟩;clear d c1 h7;go_wp2_with fail
        refine (n_goOn e (x3.count n) okc (by omega) w0 _ _ h8).mono ?_
        rintro r w_ ⟨rfl,h9⟩;go_wp2;first
         | (go_end0;exact⟨rfl,h9.f2.drop⟩)
         | (refine bodyPost_ret (v:=.tuple #[]) (by simp[results,go_sem]) rfl ?_;exact⟨rfl,h9.f2.drop⟩)
       ·rw[if_neg (show ¬ (x3.state=7/\(2:Int)=1) by simp),if_neg (show ¬ ((2:Int)≠2) by simp),if_pos s7,if_neg (show ¬ (x3.state=8\/(2:Int)=3) by rw[s7];decide)] at hz
        have hz2:((x3.stop 203).start 200).goOn=z:=by
         rw[← hz];have e7:((x3.stop 203).start 200).setState 7=(x3.stop 203).start 200:=setState_same (by rw[En.start_state,En.stop_state,s7]);rw[e7]
        subst hz2;clear hz s7;have l1:=x3.stop_len 203;have l2:=(x3.stop 203).start_len 200;go_wp2_with fail
        refine (n_stop e x3 203 (.inr rfl) (by omega) w0 _ _ h7).mono ?_
        rintro r w_ ⟨rfl,h8⟩;clear d c1 h7;go_wp2_with fail
        refine (n_start e (x3.stop 203) 200 (.inl rfl) (by omega) w0 _ _ h8).mono ?_
        rintro r w_ ⟨rfl,h10⟩;have okz:((x3.stop 203).start 200).fl.Ok:=by rw[En.start_fl,En.stop_fl];exact ok'
        clear h8;go_wp2_with fail
        refine (n_goOn e ((x3.stop 203).start 200) okz (by omega) w0 _ _ h10).mono ?_
        rintro r w_ ⟨rfl,h9⟩;go_wp2;first
         | (go_end0;exact⟨rfl,h9.f2.drop⟩)
         | (refine bodyPost_ret (v:=.tuple #[]) (by simp[results,go_sem]) rfl ?_;exact⟨rfl,h9.f2.drop⟩)
       ·rw[if_neg (show ¬ (x3.state=7/\(3:Int)=1) by simp),if_pos (show (3:Int)≠2 by decide),if_pos (show x3.state=8\/(3:Int)=3 from .inr rfl)] at hz
        have hz2:(((x3.stop 200).start 203).setFl ((x3.stop 200).start 203).fl.back).goOn=z:=by
         rw[← hz];have e7:(((x3.stop 200).start 203).setFl ((x3.stop 200).start 203).fl.back).setState 7=((x3.stop 200).start 203).setFl ((x3.stop 200).start 203).fl.back:=setState_same (by show ((x3.stop 200).start 203).state=7;rw[En.start_state,En.stop_state,s7]);rw[e7]
        clear hz s7;have HZ:=Lib.hid hz2;clear hz2;have l1:=x3.stop_len 200;have l2:=(x3.stop 200).start_len 203;go_wp2_with fail
        refine (n_stop e x3 200 (.inl rfl) (by omega) w0 _ _ h7).mono ?_
        rintro r w_ ⟨rfl,h8⟩;clear d c1 h7;go_wp2_with fail
        refine (n_start e (x3.stop 200) 203 (.inr rfl) (by omega) w0 _ _ h8).mono ?_
        rintro r w_ ⟨rfl,h10⟩;have okz:((x3.stop 200).start 203).fl.Ok:=by rw[En.start_fl,En.stop_fl];exact ok'
        have lz:((x3.stop 200).start 203).out.length<=99000:=by omega
        clear h8 l1 l2;have hz:=HZ.out;clear HZ;generalize (x3.stop 200).start 203=x4 at *;subst hz;obtain⟨fp,R',c8,hf,hbb,hcc⟩:=h10.n_fl;go_wp2_with fail
        refine (g_back fp x4.fl w0 _ _ hf).mono ?_
        rintro r w_ ⟨rfl,h11⟩;have h12:=hbb _ _ h11;clear hf hbb hcc h10 h11 c8;go_wp2_with fail
        refine (n_goOn e (x4.setFl x4.fl.back) okz.back lz w0 _ _ h12).mono ?_
        rintro r w_ ⟨rfl,h9⟩;go_wp2;first
         | (go_end0;exact⟨rfl,h9.f2.drop⟩)
         | (refine bodyPost_ret (v:=.tuple #[]) (by simp[results,go_sem]) rfl ?_;exact⟨rfl,h9.f2.drop⟩)
      ·clear HK
       rw[s8] at c1;by_cases hfin:cmd=true\/pf=false
       ·rw[if_pos ⟨s8,hfin⟩] at hz
        subst hz;clear s8;rcases hfin with rfl | rfl
        ·go_wp2
         first
          | (go_end0;exact⟨rfl,h7.f2.drop⟩)
          | (refine bodyPost_ret (v:=.tuple #[]) (by simp[results,go_sem]) rfl ?_;exact⟨rfl,h7.f2.drop⟩)
        ·cases cmd
         ·go_wp2
          first
           | (go_end0;exact⟨rfl,h7.f2.drop⟩)
           | (refine bodyPost_ret (v:=.tuple #[]) (by simp[results,go_sem]) rfl ?_;exact⟨rfl,h7.f2.drop⟩)
         ·go_wp2
          first
           | (go_end0;exact⟨rfl,h7.f2.drop⟩)
           | (refine bodyPost_ret (v:=.tuple #[]) (by simp[results,go_sem]) rfl ?_;exact⟨rfl,h7.f2.drop⟩)
       ·rw[if_neg (fun h=>hfin h.2),if_neg (show ¬ (x3.state=7/\k=1) by rw[s8];simp),if_pos (show x3.state=8\/k=3 from .inl s8)] at hz
        obtain⟨rfl,rfl⟩:cmd=false/\pf=true:=by
         constructor
         ·cases cmd;rfl;exact absurd (.inl rfl) hfin
         ·cases pf;exact absurd (.inr rfl) hfin;rfl
        clear hfin;by_cases k2:k=2
        ·subst k2
         rw[if_neg (show ¬ ((2:Int)≠2) by simp),if_neg (show ¬ (x3.state=7) by rw[s8];decide)] at hz;have l2:=x3.start_len 200;clear s8;go_wp2_with fail
         refine (n_start e x3 200 (.inl rfl) (by omega) w0 _ _ h7).mono ?_
         rintro r w_ ⟨rfl,h9⟩;clear d c1 h7;have okz:(x3.start 200).fl.Ok:=by rw[En.start_fl];exact ok'
         have lz:(x3.start 200).out.length<=99000:=by omega
         clear l2;generalize x3.start 200=x4 at *;subst hz;obtain⟨fp,R',c8,hf,hbb,hcc⟩:=h9.n_fl;go_wp2_with fail
         refine (g_back fp x4.fl w0 _ _ hf).mono ?_
         rintro r w_ ⟨rfl,h11⟩;have h12:=hbb _ _ h11;clear hf hbb hcc h9 h11 c8;have c1:=h12.n_c1;have f1:=h12.n_fr;have h13:=h12.n_set_state 7;clear h12;go_wp2_with fail
         refine (n_goOn e ((x4.setFl x4.fl.back).setState 7) okz.back lz w0 _ _ h13).mono ?_
         rintro r w_ ⟨rfl,h9⟩;go_wp2;first
          | (go_end0;exact⟨rfl,h9.f2.drop⟩)
          | (refine bodyPost_ret (v:=.tuple #[]) (by simp[results,go_sem]) rfl ?_;exact⟨rfl,h9.f2.drop⟩)
        ·rw[if_pos (show k≠2 from k2)] at hz
         have bk2:(k == 2)=false:=by simpa using k2
         have l1:=x3.stop_len 200;have l2:=(x3.stop 200).start_len 203;clear s8 k2;go_wp2_with fail
         refine (n_stop e x3 200 (.inl rfl) (by omega) w0 _ _ h7).mono ?_
         rintro r w_ ⟨rfl,h8⟩;clear d c1 h7;go_wp2_with fail
         refine (n_start e (x3.stop 200) 203 (.inr rfl) (by omega) w0 _ _ h8).mono ?_
         rintro r w_ ⟨rfl,h9⟩;have okz:((x3.stop 200).start 203).fl.Ok:=by rw[En.start_fl,En.stop_fl];exact ok'
         have lz:((x3.stop 200).start 203).out.length<=99000:=by omega
         clear h8 l1 l2;generalize (x3.stop 200).start 203=x4 at *;subst hz;obtain⟨fp,R',c8,hf,hbb,hcc⟩:=h9.n_fl;go_wp2_with fail
         refine (g_back fp x4.fl w0 _ _ hf).mono ?_
         rintro r w_ ⟨rfl,h11⟩;have h12:=hbb _ _ h11;clear hf hbb hcc h9 h11 c8;have c1:=h12.n_c1;have f1:=h12.n_fr;have h13:=h12.n_set_state 7;clear h12;go_wp2_with fail
         refine (n_goOn e ((x4.setFl x4.fl.back).setState 7) okz.back lz w0 _ _ h13).mono ?_
         rintro r w_ ⟨rfl,h9⟩;go_wp2;first
          | (go_end0;exact⟨rfl,h9.f2.drop⟩)
          | (refine bodyPost_ret (v:=.tuple #[]) (by simp[results,go_sem]) rfl ?_;exact⟨rfl,h9.f2.drop⟩)
     ·rw[if_pos hb] at hz
      subst hz;have bb:(b != 0)=true:=by simpa using hb
      clear hb;go_wp2_with fail
      refine (n_anew e x3 ⟨#[74]⟩ (by omega) w0 _ _ h7).mono ?_
      rintro r w_ ⟨rfl,h9⟩;go_wp2;first
       | (go_end0;exact⟨rfl,h9.f2.drop⟩)
       | (refine bodyPost_ret (v:=.tuple #[]) (by simp[results,go_sem]) rfl ?_;exact⟨rfl,h9.f2.drop⟩)
theorem n_info (e:Nat) (x:En) (y:Fr) (ok:x.fl.Ok) (hl:x.out.length<=97000) (w0 w:World) (R:HP) (h:St w0 w (RnAt e x*R)) :
  Calls Tryz.prog 240 #[ptr e,.agg y.cells.toArray] w fun r w'=>r=.returned (.tuple #[])/\St w0 w' (RnAt e (x.info y)*R):=by
 rw[info_eq];obtain⟨a1,a2,cmd,k,pf,ns,nr,inf⟩:=y;have h2:=h.alloc (.cells (Fr.cells ⟨a1,a2,cmd,k,pf,ns,nr,inf⟩).toArray TRf);clear h;simp only[];obtain⟨z,hz⟩:∃ z,((x.setFl (x.fl.come ns).1).inf1 ⟨a1,a2,cmd,k,pf,ns,nr,inf⟩ (x.fl.come ns).2).inf2 ⟨a1,a2,cmd,k,pf,ns,nr,inf⟩=z:=⟨_,rfl⟩;rw[hz];have hg4:(x.fl.come ns).2=0\/(x.fl.come ns).2=1\/(x.fl.come ns).2=2\/(x.fl.come ns).2=3:=by
  unfold Fl.come;split
  ·exact .inr (.inr (.inr rfl))
  ·split
   ·exact .inl rfl
   ·split
    ·exact .inr (.inr (.inl rfl))
    ·exact .inr (.inl rfl)
 have HZ:=Lib.hid hz;have HG:=Lib.hid hg4;clear hz hg4;go_enter Tryz.func240,Tryz.ntmps240
 go_upto_region 1 with fail
 generalize w.alloc _=wa at *;generalize w.heap.size=ga at *;obtain⟨fp,R',c8,hf,hb,hc⟩:=h2.f2.n_fl;have d:=h2.cell;have hf2:=hf.drew;go_still_tail 6,(by kernel_rfl)
 change wpList _ _ _ _ _ wa.drew
 clear h2 hf c8 d hc;generalize wa.drew=wd at *;have hk:=g_come fp x.fl ns w0 wd _ hf2;have ok2:=ok.come ns;have hb':=fun w' h=>hb w' (x.fl.come ns).1 h
 have hz:=HZ.out;have hg:=HG.out;clear HZ HG hb hf2;generalize x.fl.come ns=c at *;obtain⟨fl0,g⟩:=c;simp only[] at hk ok2 hb' hz hg;have HG:=Lib.hid hg;clear hg;have hl0:(x.setFl fl0).out.length<=97000:=hl;have ok0:(x.setFl fl0).fl.Ok:=ok2;clear hl ok ok2;generalize x.setFl fl0=x0 at *;have s2:=inf1_fl x0 ⟨a1,a2,cmd,k,pf,ns,nr,inf⟩ g;have s3:=inf1_len x0 ⟨a1,a2,cmd,k,pf,ns,nr,inf⟩ g;obtain⟨x1,hx1⟩:∃ x1,x0.inf1 ⟨a1,a2,cmd,k,pf,ns,nr,inf⟩ g=x1:=⟨_,rfl⟩;rw[hx1] at s2 s3 hz;have ok1:x1.fl.Ok:=by rw[s2];exact ok0
 have HX:=Lib.hid hx1;have HZ:=Lib.hid hz;clear hx1 hz s2;go_wp2_with fail
 refine hk.mono ?_
 rintro r w3 ⟨rfl,h4⟩;have h5:=hb' _ h4;clear hk hb' h4;have d:=h5.f2.cell;go_upto_region 2 with fail
 have hx1:=HX.out;clear HX;unfold En.inf1 at hx1;simp only[] at hx1;rcases HG.out with rfl | rfl | rfl | rfl
 ·clear HG
  rw[if_pos rfl] at hx1;have l1:=x0.told_len 5 inf;go_wp2_with fail
  refine (n_tell e x0 5 inf (by omega) w0 _ _ h5).mono ?_
  rintro r w_ ⟨rfl,h6⟩;clear d h5;have d:=h6.f2.cell;go_wp2_with fail
  refine (n_answer e (x0.told 5 inf) false pf (by omega) w0 _ _ h6).mono ?_
  rintro r w_ ⟨rfl,h7⟩;clear d h6;rw[hx1] at h7;clear hx1 l1;have h6:=h7;clear h7;have hl1:x1.out.length<=97002:=by omega
  obtain⟨fp,R',c8,hf,hb,hc⟩:=h6.n_fl;have d6:_:=(h6.f2.cell 6).trans (show _=some (Value.int .i64 nr) from rfl);go_upto_region 9 with fail
  have hk:=g_ack fp x1.fl nr w0 _ _ hf.drew ok1;have okA:=ok1.ack nr;have hz:=HZ.out;clear HZ h6;unfold En.inf2 at hz;simp only[] at hz;generalize x1.fl.ack nr=A at *;obtain⟨fl3,n,b⟩:=A;simp only[] at hk okA hz;have hl':(x1.setFl fl3).out.length<=97002:=hl1;have ok':(x1.setFl fl3).fl.Ok:=okA;have hfl:(x1.setFl fl3).fl=fl3:=rfl;have hb':=fun w' h=>hb w' fl3 h
  have hc':=fun w' h=>hc w' fl3 h
  clear hb hc hl1 okA ok1 hf;generalize x1.setFl fl3=x3 at *;unfold En.inf3 at hz;have HZ:=Lib.hid hz;have HF:=Lib.hid hfl;clear hz hfl;go_region_held3 (fun wx=>wx.cell? ⟨e,8,none⟩=some (ptr fp)/\wx.cell? ⟨ga,6,none⟩=some (.int .i64 nr)) (first | (with_reducible exact⟨c8,d6⟩) | (with_reducible exact⟨m0,m1⟩) | go_keep) (first | (go_at_call 270;with_reducible refine hk.mono ?_;rintro r w4 ⟨rfl,h8⟩;have h7:=hb' _ h8;have m0:=hc' _ h8;have m1:=(h7.f2.cell 6).trans (show _=some (Value.int .i64 nr) from rfl)))
  rename_i hheld
  clear hheld;obtain⟨qp,hq⟩:=h8.f_open;have cp:=(hq.cell 3).trans (show _=some (Value.bool fl3.peer) from rfl);clear hb' hc' h8 hk m1 c8 d6 hq;have c1:=h7.n_c1;have hz:=HZ.out;clear HZ;by_cases hbb:b=0
  ·subst hbb
   rw[if_neg (by simp)] at hz;by_cases s7:x3.state=7
   ·rw[if_pos s7,HF.out] at hz
    rw[s7] at c1;clear s7 HF;cases hp:fl3.peer with
    | false =>
      rw[hp] at cp;rw[if_pos hp] at hz;subst hz;clear hp;have l1:=count_len x3 n;have okc:(x3.count n).fl.Ok:=by rw[count_fl];exact ok'
      go_wp2_with fail
      refine (n_count e x3 n (by omega) w0 _ _ h7).mono ?_
      rintro r w_ ⟨rfl,h10⟩;clear h7 cp m0 c1;go_wp2_with fail
      refine (n_goOn e (x3.count n) okc (by omega) w0 _ _ h10).mono ?_
      rintro r w_ ⟨rfl,h9⟩;go_wp2;first
       | (go_end0;exact⟨rfl,h9.f2.drop⟩)
       | (refine bodyPost_ret (v:=.tuple #[]) (by simp[results,go_sem]) rfl ?_;exact⟨rfl,h9.f2.drop⟩)
    | true =>
      rw[hp] at cp;rw[if_neg (by rw[hp];simp)] at hz;subst hz;clear hp;go_wp2_with fail
      refine (n_goOn e x3 ok' (by omega) w0 _ _ h7).mono ?_
      rintro r w_ ⟨rfl,h9⟩;go_wp2;first
       | (go_end0;exact⟨rfl,h9.f2.drop⟩)
       | (refine bodyPost_ret (v:=.tuple #[]) (by simp[results,go_sem]) rfl ?_;exact⟨rfl,h9.f2.drop⟩)
   ·rw[if_neg s7] at hz
    have b7:(x3.state != 7)=true:=by simpa using s7
    subst hz;clear HF s7;go_wp2;first
     | (go_end0;exact⟨rfl,h7.f2.drop⟩)
     | (refine bodyPost_ret (v:=.tuple #[]) (by simp[results,go_sem]) rfl ?_;exact⟨rfl,h7.f2.drop⟩)
  ·rw[if_pos hbb] at hz
   subst hz;have bb:(b != 0)=true:=by simpa using hbb
   clear hbb HF;go_wp2_with fail
   refine (n_anew e x3 ⟨#[74]⟩ (by omega) w0 _ _ h7).mono ?_
   rintro r w_ ⟨rfl,h9⟩;go_wp2;first
    | (go_end0;exact⟨rfl,h9.f2.drop⟩)
    | (refine bodyPost_ret (v:=.tuple #[]) (by simp[results,go_sem]) rfl ?_;exact⟨rfl,h9.f2.drop⟩)
 ·clear HG
  rw[if_neg (by decide),if_pos rfl] at hx1;go_wp2_with fail
  refine (n_send e x0 ⟨0,0,false,3,pf,0,0,noStr⟩ (by omega) w0 _ _ h5).mono ?_
  rintro r w_ ⟨rfl,h7⟩;clear d h5;have h6:St w0 _ (RnAt e (x0.send 3 false pf)*_):=h7;clear h7;rw[hx1] at h6;clear hx1;have hl1:x1.out.length<=97002:=by omega
  obtain⟨fp,R',c8,hf,hb,hc⟩:=h6.n_fl;have d6:_:=(h6.f2.cell 6).trans (show _=some (Value.int .i64 nr) from rfl);go_upto_region 9 with fail
  have hk:=g_ack fp x1.fl nr w0 _ _ hf.drew ok1;have okA:=ok1.ack nr;have hz:=HZ.out;clear HZ h6;unfold En.inf2 at hz;simp only[] at hz;generalize x1.fl.ack nr=A at *;obtain⟨fl3,n,b⟩:=A;simp only[] at hk okA hz;have hl':(x1.setFl fl3).out.length<=97002:=hl1;have ok':(x1.setFl fl3).fl.Ok:=okA;have hfl:(x1.setFl fl3).fl=fl3:=rfl;have hb':=fun w' h=>hb w' fl3 h
  have hc':=fun w' h=>hc w' fl3 h
  clear hb hc hl1 okA ok1 hf;generalize x1.setFl fl3=x3 at *;unfold En.inf3 at hz;have HZ:=Lib.hid hz;have HF:=Lib.hid hfl;clear hz hfl;go_region_held3 (fun wx=>wx.cell? ⟨e,8,none⟩=some (ptr fp)/\wx.cell? ⟨ga,6,none⟩=some (.int .i64 nr)) (first | (with_reducible exact⟨c8,d6⟩) | (with_reducible exact⟨m0,m1⟩) | go_keep) (first | (go_at_call 270;with_reducible refine hk.mono ?_;rintro r w4 ⟨rfl,h8⟩;have h7:=hb' _ h8;have m0:=hc' _ h8;have m1:=(h7.f2.cell 6).trans (show _=some (Value.int .i64 nr) from rfl)))
  rename_i hheld
  clear hheld;obtain⟨qp,hq⟩:=h8.f_open;have cp:=(hq.cell 3).trans (show _=some (Value.bool fl3.peer) from rfl);clear hb' hc' h8 hk m1 c8 d6 hq;have c1:=h7.n_c1;have hz:=HZ.out;clear HZ;by_cases hbb:b=0
  ·subst hbb
   rw[if_neg (by simp)] at hz;by_cases s7:x3.state=7
   ·rw[if_pos s7,HF.out] at hz
    rw[s7] at c1;clear s7 HF;cases hp:fl3.peer with
    | false =>
      rw[hp] at cp;rw[if_pos hp] at hz;subst hz;clear hp;have l1:=count_len x3 n;have okc:(x3.count n).fl.Ok:=by rw[count_fl];exact ok'
      go_wp2_with fail
      refine (n_count e x3 n (by omega) w0 _ _ h7).mono ?_
      rintro r w_ ⟨rfl,h10⟩;clear h7 cp m0 c1;go_wp2_with fail
      refine (n_goOn e (x3.count n) okc (by omega) w0 _ _ h10).mono ?_
      rintro r w_ ⟨rfl,h9⟩;go_wp2;first
       | (go_end0;exact⟨rfl,h9.f2.drop⟩)
       | (refine bodyPost_ret (v:=.tuple #[]) (by simp[results,go_sem]) rfl ?_;exact⟨rfl,h9.f2.drop⟩)
    | true =>
      rw[hp] at cp;rw[if_neg (by rw[hp];simp)] at hz;subst hz;clear hp;go_wp2_with fail
      refine (n_goOn e x3 ok' (by omega) w0 _ _ h7).mono ?_
      rintro r w_ ⟨rfl,h9⟩;go_wp2;first
       | (go_end0;exact⟨rfl,h9.f2.drop⟩)
       | (refine bodyPost_ret (v:=.tuple #[]) (by simp[results,go_sem]) rfl ?_;exact⟨rfl,h9.f2.drop⟩)
   ·rw[if_neg s7] at hz
    have b7:(x3.state != 7)=true:=by simpa using s7
    subst hz;clear HF s7;go_wp2;first
     | (go_end0;exact⟨rfl,h7.f2.drop⟩)
     | (refine bodyPost_ret (v:=.tuple #[]) (by simp[results,go_sem]) rfl ?_;exact⟨rfl,h7.f2.drop⟩)
  ·rw[if_pos hbb] at hz
   subst hz;have bb:(b != 0)=true:=by simpa using hbb
   clear hbb HF;go_wp2_with fail
   refine (n_anew e x3 ⟨#[74]⟩ (by omega) w0 _ _ h7).mono ?_
   rintro r w_ ⟨rfl,h9⟩;go_wp2;first
    | (go_end0;exact⟨rfl,h9.f2.drop⟩)
    | (refine bodyPost_ret (v:=.tuple #[]) (by simp[results,go_sem]) rfl ?_;exact⟨rfl,h9.f2.drop⟩)
 ·clear HG
  rw[if_neg (by decide),if_neg (by decide)] at hx1;cases pf with
  | true =>
    rw[if_pos rfl] at hx1;go_wp2_with fail
    refine (n_answer e x0 false true (by omega) w0 _ _ h5).mono ?_
    rintro r w_ ⟨rfl,h7⟩;clear d h5;rw[hx1] at h7;clear hx1;have h6:=h7;clear h7;have hl1:x1.out.length<=97002:=by omega
    obtain⟨fp,R',c8,hf,hb,hc⟩:=h6.n_fl;have d6:_:=(h6.f2.cell 6).trans (show _=some (Value.int .i64 nr) from rfl);go_upto_region 9 with fail
    have hk:=g_ack fp x1.fl nr w0 _ _ hf.drew ok1;have okA:=ok1.ack nr;have hz:=HZ.out;clear HZ h6;unfold En.inf2 at hz;simp only[] at hz;generalize x1.fl.ack nr=A at *;obtain⟨fl3,n,b⟩:=A;simp only[] at hk okA hz;have hl':(x1.setFl fl3).out.length<=97002:=hl1;have ok':(x1.setFl fl3).fl.Ok:=okA;have hfl:(x1.setFl fl3).fl=fl3:=rfl;have hb':=fun w' h=>hb w' fl3 h
    have hc':=fun w' h=>hc w' fl3 h
    clear hb hc hl1 okA ok1 hf;generalize x1.setFl fl3=x3 at *;unfold En.inf3 at hz;have HZ:=Lib.hid hz;have HF:=Lib.hid hfl;clear hz hfl;go_region_held3 (fun wx=>wx.cell? ⟨e,8,none⟩=some (ptr fp)/\wx.cell? ⟨ga,6,none⟩=some (.int .i64 nr)) (first | (with_reducible exact⟨c8,d6⟩) | (with_reducible exact⟨m0,m1⟩) | go_keep) (first | (go_at_call 270;with_reducible refine hk.mono ?_;rintro r w4 ⟨rfl,h8⟩;have h7:=hb' _ h8;have m0:=hc' _ h8;have m1:=(h7.f2.cell 6).trans (show _=some (Value.int .i64 nr) from rfl)))
    rename_i hheld
    clear hheld;obtain⟨qp,hq⟩:=h8.f_open;have cp:=(hq.cell 3).trans (show _=some (Value.bool fl3.peer) from rfl);clear hb' hc' h8 hk m1 c8 d6 hq;have c1:=h7.n_c1;have hz:=HZ.out;clear HZ;by_cases hbb:b=0
    ·subst hbb
     rw[if_neg (by simp)] at hz;by_cases s7:x3.state=7
     ·rw[if_pos s7,HF.out] at hz
      rw[s7] at c1;clear s7 HF;cases hp:fl3.peer with
      | false =>
        rw[hp] at cp;rw[if_pos hp] at hz;subst hz;clear hp;have l1:=count_len x3 n;have okc:(x3.count n).fl.Ok:=by rw[count_fl];exact ok'
        go_wp2_with fail
        refine (n_count e x3 n (by omega) w0 _ _ h7).mono ?_
        rintro r w_ ⟨rfl,h10⟩;clear h7 cp m0 c1;go_wp2_with fail
        refine (n_goOn e (x3.count n) okc (by omega) w0 _ _ h10).mono ?_
        rintro r w_ ⟨rfl,h9⟩;go_wp2;first
         | (go_end0;exact⟨rfl,h9.f2.drop⟩)
         | (refine bodyPost_ret (v:=.tuple #[]) (by simp[results,go_sem]) rfl ?_;exact⟨rfl,h9.f2.drop⟩)
      | true =>
        rw[hp] at cp;rw[if_neg (by rw[hp];simp)] at hz;subst hz;clear hp;go_wp2_with fail
        refine (n_goOn e x3 ok' (by omega) w0 _ _ h7).mono ?_
        rintro r w_ ⟨rfl,h9⟩;go_wp2;first
         | (go_end0;exact⟨rfl,h9.f2.drop⟩)
         | (refine bodyPost_ret (v:=.tuple #[]) (by simp[results,go_sem]) rfl ?_;exact⟨rfl,h9.f2.drop⟩)
     ·rw[if_neg s7] at hz
      have b7:(x3.state != 7)=true:=by simpa using s7
      subst hz;clear HF s7;go_wp2;first
       | (go_end0;exact⟨rfl,h7.f2.drop⟩)
       | (refine bodyPost_ret (v:=.tuple #[]) (by simp[results,go_sem]) rfl ?_;exact⟨rfl,h7.f2.drop⟩)
    ·rw[if_pos hbb] at hz
     subst hz;have bb:(b != 0)=true:=by simpa using hbb
     clear hbb HF;go_wp2_with fail
     refine (n_anew e x3 ⟨#[74]⟩ (by omega) w0 _ _ h7).mono ?_
     rintro r w_ ⟨rfl,h9⟩;go_wp2;first
      | (go_end0;exact⟨rfl,h9.f2.drop⟩)
      | (refine bodyPost_ret (v:=.tuple #[]) (by simp[results,go_sem]) rfl ?_;exact⟨rfl,h9.f2.drop⟩)
  | false =>
    rw[if_neg (by simp)] at hx1;go_upto_region 9 with fail
    rw[hx1] at h5;have h6:=h5;clear d h5 hx1;have hl1:x1.out.length<=97002:=by omega
    obtain⟨fp,R',c8,hf,hb,hc⟩:=h6.n_fl;have d6:_:=(h6.f2.cell 6).trans (show _=some (Value.int .i64 nr) from rfl);go_upto_region 9 with fail
    have hk:=g_ack fp x1.fl nr w0 _ _ hf.drew ok1;have okA:=ok1.ack nr;have hz:=HZ.out;clear HZ h6;unfold En.inf2 at hz;simp only[] at hz;generalize x1.fl.ack nr=A at *;obtain⟨fl3,n,b⟩:=A;simp only[] at hk okA hz;have hl':(x1.setFl fl3).out.length<=97002:=hl1;have ok':(x1.setFl fl3).fl.Ok:=okA;have hfl:(x1.setFl fl3).fl=fl3:=rfl;have hb':=fun w' h=>hb w' fl3 h
    have hc':=fun w' h=>hc w' fl3 h
    clear hb hc hl1 okA ok1 hf;generalize x1.setFl fl3=x3 at *;unfold En.inf3 at hz;have HZ:=Lib.hid hz;have HF:=Lib.hid hfl;clear hz hfl;go_region_held3 (fun wx=>wx.cell? ⟨e,8,none⟩=some (ptr fp)/\wx.cell? ⟨ga,6,none⟩=some (.int .i64 nr)) (first | (with_reducible exact⟨c8,d6⟩) | (with_reducible exact⟨m0,m1⟩) | go_keep) (first | (go_at_call 270;with_reducible refine hk.mono ?_;rintro r w4 ⟨rfl,h8⟩;have h7:=hb' _ h8;have m0:=hc' _ h8;have m1:=(h7.f2.cell 6).trans (show _=some (Value.int .i64 nr) from rfl)))
    rename_i hheld
    clear hheld;obtain⟨qp,hq⟩:=h8.f_open;have cp:=(hq.cell 3).trans (show _=some (Value.bool fl3.peer) from rfl);clear hb' hc' h8 hk m1 c8 d6 hq;have c1:=h7.n_c1;have hz:=HZ.out;clear HZ;by_cases hbb:b=0
    ·subst hbb
     rw[if_neg (by simp)] at hz;by_cases s7:x3.state=7
     ·rw[if_pos s7,HF.out] at hz
      rw[s7] at c1;clear s7 HF;cases hp:fl3.peer with
      | false =>
        rw[hp] at cp;rw[if_pos hp] at hz;subst hz;clear hp;have l1:=count_len x3 n;have okc:(x3.count n).fl.Ok:=by rw[count_fl];exact ok'
        go_wp2_with fail
        refine (n_count e x3 n (by omega) w0 _ _ h7).mono ?_
        rintro r w_ ⟨rfl,h10⟩;clear h7 cp m0 c1;go_wp2_with fail
        refine (n_goOn e (x3.count n) okc (by omega) w0 _ _ h10).mono ?_
        rintro r w_ ⟨rfl,h9⟩;go_wp2;first
         | (go_end0;exact⟨rfl,h9.f2.drop⟩)
         | (refine bodyPost_ret (v:=.tuple #[]) (by simp[results,go_sem]) rfl ?_;exact⟨rfl,h9.f2.drop⟩)
      | true =>
        rw[hp] at cp;rw[if_neg (by rw[hp];simp)] at hz;subst hz;clear hp;go_wp2_with fail
        refine (n_goOn e x3 ok' (by omega) w0 _ _ h7).mono ?_
        rintro r w_ ⟨rfl,h9⟩;go_wp2;first
         | (go_end0;exact⟨rfl,h9.f2.drop⟩)
         | (refine bodyPost_ret (v:=.tuple #[]) (by simp[results,go_sem]) rfl ?_;exact⟨rfl,h9.f2.drop⟩)
     ·rw[if_neg s7] at hz
      have b7:(x3.state != 7)=true:=by simpa using s7
      subst hz;clear HF s7;go_wp2;first
       | (go_end0;exact⟨rfl,h7.f2.drop⟩)
       | (refine bodyPost_ret (v:=.tuple #[]) (by simp[results,go_sem]) rfl ?_;exact⟨rfl,h7.f2.drop⟩)
    ·rw[if_pos hbb] at hz
     subst hz;have bb:(b != 0)=true:=by simpa using hbb
     clear hbb HF;go_wp2_with fail
     refine (n_anew e x3 ⟨#[74]⟩ (by omega) w0 _ _ h7).mono ?_
     rintro r w_ ⟨rfl,h9⟩;go_wp2;first
      | (go_end0;exact⟨rfl,h9.f2.drop⟩)
      | (refine bodyPost_ret (v:=.tuple #[]) (by simp[results,go_sem]) rfl ?_;exact⟨rfl,h9.f2.drop⟩)
 ·clear HG
  rw[if_neg (by decide),if_neg (by decide)] at hx1;cases pf with
  | true =>
    rw[if_pos rfl] at hx1;go_wp2_with fail
    refine (n_answer e x0 false true (by omega) w0 _ _ h5).mono ?_
    rintro r w_ ⟨rfl,h7⟩;clear d h5;rw[hx1] at h7;clear hx1;have h6:=h7;clear h7;have hl1:x1.out.length<=97002:=by omega
    obtain⟨fp,R',c8,hf,hb,hc⟩:=h6.n_fl;have d6:_:=(h6.f2.cell 6).trans (show _=some (Value.int .i64 nr) from rfl);go_upto_region 9 with fail
    have hk:=g_ack fp x1.fl nr w0 _ _ hf.drew ok1;have okA:=ok1.ack nr;have hz:=HZ.out;clear HZ h6;unfold En.inf2 at hz;simp only[] at hz;generalize x1.fl.ack nr=A at *;obtain⟨fl3,n,b⟩:=A;simp only[] at hk okA hz;have hl':(x1.setFl fl3).out.length<=97002:=hl1;have ok':(x1.setFl fl3).fl.Ok:=okA;have hfl:(x1.setFl fl3).fl=fl3:=rfl;have hb':=fun w' h=>hb w' fl3 h
    have hc':=fun w' h=>hc w' fl3 h
    clear hb hc hl1 okA ok1 hf;generalize x1.setFl fl3=x3 at *;unfold En.inf3 at hz;have HZ:=Lib.hid hz;have HF:=Lib.hid hfl;clear hz hfl;go_region_held3 (fun wx=>wx.cell? ⟨e,8,none⟩=some (ptr fp)/\wx.cell? ⟨ga,6,none⟩=some (.int .i64 nr)) (first | (with_reducible exact⟨c8,d6⟩) | (with_reducible exact⟨m0,m1⟩) | go_keep) (first | (go_at_call 270;with_reducible refine hk.mono ?_;rintro r w4 ⟨rfl,h8⟩;have h7:=hb' _ h8;have m0:=hc' _ h8;have m1:=(h7.f2.cell 6).trans (show _=some (Value.int .i64 nr) from rfl)))
    rename_i hheld
    clear hheld;obtain⟨qp,hq⟩:=h8.f_open;have cp:=(hq.cell 3).trans (show _=some (Value.bool fl3.peer) from rfl);clear hb' hc' h8 hk m1 c8 d6 hq;have c1:=h7.n_c1;have hz:=HZ.out;clear HZ;by_cases hbb:b=0
    ·subst hbb
     rw[if_neg (by simp)] at hz;by_cases s7:x3.state=7
     ·rw[if_pos s7,HF.out] at hz
      rw[s7] at c1;clear s7 HF;cases hp:fl3.peer with
      | false =>
        rw[hp] at cp;rw[if_pos hp] at hz;subst hz;clear hp;have l1:=count_len x3 n;have okc:(x3.count n).fl.Ok:=by rw[count_fl];exact ok'
        go_wp2_with fail
        refine (n_count e x3 n (by omega) w0 _ _ h7).mono ?_
        rintro r w_ ⟨rfl,h10⟩;clear h7 cp m0 c1;go_wp2_with fail
        refine (n_goOn e (x3.count n) okc (by omega) w0 _ _ h10).mono ?_
        rintro r w_ ⟨rfl,h9⟩;go_wp2;first
         | (go_end0;exact⟨rfl,h9.f2.drop⟩)
         | (refine bodyPost_ret (v:=.tuple #[]) (by simp[results,go_sem]) rfl ?_;exact⟨rfl,h9.f2.drop⟩)
      | true =>
        rw[hp] at cp;rw[if_neg (by rw[hp];simp)] at hz;subst hz;clear hp;go_wp2_with fail
        refine (n_goOn e x3 ok' (by omega) w0 _ _ h7).mono ?_
        rintro r w_ ⟨rfl,h9⟩;go_wp2;first
         | (go_end0;exact⟨rfl,h9.f2.drop⟩)
         | (refine bodyPost_ret (v:=.tuple #[]) (by simp[results,go_sem]) rfl ?_;exact⟨rfl,h9.f2.drop⟩)
     ·rw[if_neg s7] at hz
      have b7:(x3.state != 7)=true:=by simpa using s7
      subst hz;clear HF s7;go_wp2;first
       | (go_end0;exact⟨rfl,h7.f2.drop⟩)
       | (refine bodyPost_ret (v:=.tuple #[]) (by simp[results,go_sem]) rfl ?_;exact⟨rfl,h7.f2.drop⟩)
    ·rw[if_pos hbb] at hz
     subst hz;have bb:(b != 0)=true:=by simpa using hbb
     clear hbb HF;go_wp2_with fail
     refine (n_anew e x3 ⟨#[74]⟩ (by omega) w0 _ _ h7).mono ?_
     rintro r w_ ⟨rfl,h9⟩;go_wp2;first
      | (go_end0;exact⟨rfl,h9.f2.drop⟩)
      | (refine bodyPost_ret (v:=.tuple #[]) (by simp[results,go_sem]) rfl ?_;exact⟨rfl,h9.f2.drop⟩)
  | false =>
    rw[if_neg (by simp)] at hx1;go_upto_region 9 with fail
    rw[hx1] at h5;have h6:=h5;clear d h5 hx1;have hl1:x1.out.length<=97002:=by omega
    obtain⟨fp,R',c8,hf,hb,hc⟩:=h6.n_fl;have d6:_:=(h6.f2.cell 6).trans (show _=some (Value.int .i64 nr) from rfl);go_upto_region 9 with fail
    have hk:=g_ack fp x1.fl nr w0 _ _ hf.drew ok1;have okA:=ok1.ack nr;have hz:=HZ.out;clear HZ h6;unfold En.inf2 at hz;simp only[] at hz;generalize x1.fl.ack nr=A at *;obtain⟨fl3,n,b⟩:=A;simp only[] at hk okA hz;have hl':(x1.setFl fl3).out.length<=97002:=hl1;have ok':(x1.setFl fl3).fl.Ok:=okA;have hfl:(x1.setFl fl3).fl=fl3:=rfl;have hb':=fun w' h=>hb w' fl3 h
    have hc':=fun w' h=>hc w' fl3 h
    clear hb hc hl1 okA ok1 hf;generalize x1.setFl fl3=x3 at *;unfold En.inf3 at hz;have HZ:=Lib.hid hz;have HF:=Lib.hid hfl;clear hz hfl;go_region_held3 (fun wx=>wx.cell? ⟨e,8,none⟩=some (ptr fp)/\wx.cell? ⟨ga,6,none⟩=some (.int .i64 nr)) (first | (with_reducible exact⟨c8,d6⟩) | (with_reducible exact⟨m0,m1⟩) | go_keep) (first | (go_at_call 270;with_reducible refine hk.mono ?_;rintro r w4 ⟨rfl,h8⟩;have h7:=hb' _ h8;have m0:=hc' _ h8;have m1:=(h7.f2.cell 6).trans (show _=some (Value.int .i64 nr) from rfl)))
    rename_i hheld
    clear hheld;obtain⟨qp,hq⟩:=h8.f_open;have cp:=(hq.cell 3).trans (show _=some (Value.bool fl3.peer) from rfl);clear hb' hc' h8 hk m1 c8 d6 hq;have c1:=h7.n_c1;have hz:=HZ.out;clear HZ;by_cases hbb:b=0
    ·subst hbb
     rw[if_neg (by simp)] at hz;by_cases s7:x3.state=7
     ·rw[if_pos s7,HF.out] at hz
      rw[s7] at c1;clear s7 HF;cases hp:fl3.peer with
      | false =>
        rw[hp] at cp;rw[if_pos hp] at hz;subst hz;clear hp;have l1:=count_len x3 n;have okc:(x3.count n).fl.Ok:=by rw[count_fl];exact ok'
        go_wp2_with fail
        refine (n_count e x3 n (by omega) w0 _ _ h7).mono ?_
        rintro r w_ ⟨rfl,h10⟩;clear h7 cp m0 c1;go_wp2_with fail
        refine (n_goOn e (x3.count n) okc (by omega) w0 _ _ h10).mono ?_
        rintro r w_ ⟨rfl,h9⟩;go_wp2;first
         | (go_end0;exact⟨rfl,h9.f2.drop⟩)
         | (refine bodyPost_ret (v:=.tuple #[]) (by simp[results,go_sem]) rfl ?_;exact⟨rfl,h9.f2.drop⟩)
      | true =>
        rw[hp] at cp;rw[if_neg (by rw[hp];simp)] at hz;subst hz;clear hp;go_wp2_with fail
        refine (n_goOn e x3 ok' (by omega) w0 _ _ h7).mono ?_
        rintro r w_ ⟨rfl,h9⟩;go_wp2;first
         | (go_end0;exact⟨rfl,h9.f2.drop⟩)
         | (refine bodyPost_ret (v:=.tuple #[]) (by simp[results,go_sem]) rfl ?_;exact⟨rfl,h9.f2.drop⟩)
     ·rw[if_neg s7] at hz
      have b7:(x3.state != 7)=true:=by simpa using s7
      subst hz;clear HF s7;go_wp2;first
       | (go_end0;exact⟨rfl,h7.f2.drop⟩)
       | (refine bodyPost_ret (v:=.tuple #[]) (by simp[results,go_sem]) rfl ?_;exact⟨rfl,h7.f2.drop⟩)
    ·rw[if_pos hbb] at hz
     subst hz;have bb:(b != 0)=true:=by simpa using hbb
     clear hbb HF;go_wp2_with fail
     refine (n_anew e x3 ⟨#[74]⟩ (by omega) w0 _ _ h7).mono ?_
     rintro r w_ ⟨rfl,h9⟩;go_wp2;first
      | (go_end0;exact⟨rfl,h9.f2.drop⟩)
      | (refine bodyPost_ret (v:=.tuple #[]) (by simp[results,go_sem]) rfl ?_;exact⟨rfl,h9.f2.drop⟩)
theorem t_in (k:Int) (l:List Int) (w:World) (g:Nat) (hl:l.length<=100) (hc:∀ (i:Nat) (v:Int),l[i]?=some v->w.cell? ⟨g,i,none⟩=some (.int .i64 v)) :
  Calls Tryz.prog 180 #[.int .i64 k,.slice (some ⟨g,0,none⟩) l.length l.length] w fun r w'=>r=.returned (.bool (decide (k ∈ l)))/\w=w':=by
 obtain⟨n,hn⟩:∃ n,l.length=n:=⟨_,rfl⟩;obtain⟨z,hz⟩:∃ z,decide (k ∈ l)=z:=⟨_,rfl⟩;rw[hz];rw[hn] at hl ⊢;have HN:=Lib.hid hn;have HZ:=Lib.hid hz;clear hn hz;go_enter Tryz.func180,Tryz.ntmps180
 go_wp2;go_loop [5] (fun s=>∃ i:Nat,i<=n/\s=.int .i64 i/\Hid (k ∉ l.take i)) (fun s=>n - (intOf s).toNat)
 case atStart=>exact⟨0,by omega,rfl,Lib.hid (by simp)⟩
 case round =>
  obtain⟨i,hi,rfl,hk⟩:=hrel;by_cases hlt:i<n
  ·have hil:i<l.length:=by rw[HN.out];exact hlt
   obtain⟨v,hv⟩:∃ v,l[i]?=some v:=⟨l[i],List.getElem?_eq_getElem hil⟩;have c:=hc i v hv;have HV:=Lib.hid hv;have HI:=Lib.hid hil;have hw:IntKind.i64.wrap ((i:Int)+1)=(i:Int)+1:=by rw[IntKind.wrap_i64];omega
   have hlti:(i:Int)<(n:Int):=by omega
   clear hc hv hil;by_cases hvk:v=k
   ·subst hvk
    go_wp2;go_ret
    refine⟨?_,rfl⟩
    rw[← HZ.out];have:v ∈ l:=List.mem_of_getElem? HV.out
    simp[this]
   ·have b:(v == k)=false:=by simpa using hvk
    have HVK:=Lib.hid hvk;clear hvk;go_wp2;go_round
    case rel =>
     refine⟨i+1,by omega,by go_num,Lib.hid ?_⟩
     rw[List.take_add_one,HV.out];simp only[Option.toList_some,List.mem_append,List.mem_singleton,not_or];exact⟨hk.out,fun h=>HVK.out h.symm⟩
    case measure=>simp[intOf];omega
  ·obtain rfl:i=n:=by omega
   go_wp2;go_ret
   refine⟨?_,rfl⟩
   rw[← HZ.out];have e1:l.take i=l:=by rw[← HN.out];exact List.take_length
   have:=hk.out
   rw[e1] at this;simp[this]
theorem mayK_eq (k:Int) (c:Bool):mayK k c=(decide (k ∈ [(1:Int),2,3]) || ((decide (k ∈ [(0:Int),4,6,7]) && c) || (decide (k ∈ [(5:Int),8,9]) && !c))):=by
 unfold mayK numb;by_cases h0:k=0\/k=4\/k=6\/k=7
 ·rw[if_pos h0]
  rcases h0 with rfl | rfl | rfl | rfl <;> simp
 ·rw[if_neg h0]
  by_cases h5:k=5\/k=8\/k=9
  ·rw[if_pos h5]
   rcases h5 with rfl | rfl | rfl <;> simp
  ·rw[if_neg h5]
   have e1:decide (k ∈ [(0:Int),4,6,7])=false:=by simpa using h0
   have e2:decide (k ∈ [(5:Int),8,9])=false:=by simpa using h5
   rw[e1,e2];by_cases h1:k=1\/k=2\/k=3
   ·rcases h1 with rfl | rfl | rfl <;> simp
   ·have e3:decide (k ∈ [(1:Int),2,3])=false:=by simpa using h1
    rw[e3];simp
    omega
theorem cells3 (w:World) (a b c:Int) (t:TypeId):∀ (i:Nat) (v:Int),[a,b,c][i]?=some v->(w.alloc (.cells #[.int .i64 a,.int .i64 b,.int .i64 c] t)).cell? ⟨w.heap.size,i,none⟩=some (.int .i64 v):=by
 intro i v h;match i,h with
 | 0,h=>simp at h;subst h;simp
 | 1,h=>simp at h;subst h;simp
 | 2,h=>simp at h;subst h;simp
theorem cells4 (w:World) (a b c d:Int) (t:TypeId):∀ (i:Nat) (v:Int),[a,b,c,d][i]?=some v->(w.alloc (.cells #[.int .i64 a,.int .i64 b,.int .i64 c,.int .i64 d] t)).cell? ⟨w.heap.size,i,none⟩=some (.int .i64 v):=by
 intro i v h;match i,h with
 | 0,h=>simp at h;subst h;simp
 | 1,h=>simp at h;subst h;simp
 | 2,h=>simp at h;subst h;simp
 | 3,h=>simp at h;subst h;simp
theorem t_may (k:Int) (c:Bool) (w0 w:World) (R:HP) (h:St w0 w R):Calls Tryz.prog 104 #[.int .i64 k,.bool c] w fun r w'=>r=.returned (.bool (mayK k c))/\St w0 w' R:=by
 rw[mayK_eq];generalize hA:decide (k ∈ [(1:Int),2,3])=A at *;generalize hB:decide (k ∈ [(0:Int),4,6,7])=B at *;generalize hC:decide (k ∈ [(5:Int),8,9])=C at *;have HA:=Lib.hid hA;have HB:=Lib.hid hB;have HC:=Lib.hid hC;clear hA hB hC;go_enter Tryz.func104,Tryz.ntmps104
 go_wp2_with fail
 have i1:=t_in k [1,2,3] _ _ (by decide) (cells3 w 1 2 3 3);rw[HA.out] at i1;have h1:=(h.alloc (.cells #[.int .i64 1,.int .i64 2,.int .i64 3] 3)).drop;clear h;generalize w.alloc _=wa at *;refine i1.mono ?_
 rintro r w1 ⟨rfl,rfl⟩;clear i1;go_wp2_with fail
 have i2:=t_in k [0,4,6,7] _ _ (by decide) (cells4 wa 0 4 6 7 3);rw[HB.out] at i2;have h2:=(h1.alloc (.cells #[.int .i64 0,.int .i64 4,.int .i64 6,.int .i64 7] 3)).drop;clear h1;generalize wa.alloc _=wb at *;refine i2.mono ?_
 rintro r w1 ⟨rfl,rfl⟩;clear i2;go_wp2_with fail
 have i3:=t_in k [5,8,9] _ _ (by decide) (cells3 wb 5 8 9 3);rw[HC.out] at i3;have h3:=(h2.alloc (.cells #[.int .i64 5,.int .i64 8,.int .i64 9] 3)).drop;clear h2;generalize wb.alloc _=wd at *;refine i3.mono ?_
 rintro r w1 ⟨rfl,rfl⟩;clear i3;go_upto_region 4 with fail
 cases A <;> cases B <;> cases C <;> cases c
 all_goals (
  go_wp2;go_ret
  exact⟨rfl,h3⟩)
theorem t_carries (k n:Int) (w:World):Calls Tryz.prog 107 #[.int .i64 k,.int .i64 n] w fun r w'=>r=.returned (.bool (carries k n))/\w=w':=by
 by_cases h06:k=0\/k=6
 ·have e:carries k n=(decide (0<=n) && decide (n<=260)):=by unfold carries;rw[if_pos h06]
  rw[e];clear e;by_cases h0:0<=n
  ·have b0:decide (0<=n)=true:=by simpa using h0
   have b1:decide (n ≥ 0)=true:=by simpa using h0
   rw[b0];rcases h06 with rfl | rfl
   all_goals (
    go_enter Tryz.func107,Tryz.ntmps107
    go_wp2;go_ret
    exact⟨rfl,rfl⟩
    skip)
  ·have b0:decide (0<=n)=false:=by simpa using h0
   have b1:decide (n ≥ 0)=false:=by simpa using h0
   rw[b0];rcases h06 with rfl | rfl
   all_goals (
    go_enter Tryz.func107,Tryz.ntmps107
    go_wp2;go_ret
    exact⟨rfl,rfl⟩
    skip)
 by_cases h9:k=9
 ·subst h9
  have e:carries 9 n=(n == 5):=rfl;rw[e];clear e;go_enter Tryz.func107,Tryz.ntmps107
  go_wp2;go_ret
  exact⟨rfl,rfl⟩
 have e:carries k n=(n == 0 && (decide (0<=k) && decide (k<10))):=by unfold carries;rw[if_neg h06,if_neg h9]
 rw[e];clear e;have b0:(k == 0)=false:=by simpa using fun h=>h06 (.inl h)
 have b6:(k == 6)=false:=by simpa using fun h=>h06 (.inr h)
 have b9:(k == 9)=false:=by simpa using h9
 by_cases hk0:k<0
 ·have c0:decide (k<0)=true:=by simpa using hk0
  have e0:(n == 0 && (decide (0<=k) && decide (k<10)))=false:=by simp;omega
  rw[e0];go_enter Tryz.func107,Tryz.ntmps107
  go_wp2;go_ret
  exact⟨rfl,rfl⟩
 by_cases hk1:10<=k
 ·have c0:decide (k<0)=false:=by simp;omega
  have c1:decide (k ≥ 10)=true:=by simpa using hk1
  have e0:(n == 0 && (decide (0<=k) && decide (k<10)))=false:=by simp;omega
  rw[e0];go_enter Tryz.func107,Tryz.ntmps107
  go_wp2;go_ret
  exact⟨rfl,rfl⟩
 ·have c0:decide (k<0)=false:=by simp;omega
  have c1:decide (k ≥ 10)=false:=by simp;omega
  have e0:(n == 0 && (decide (0<=k) && decide (k<10)))=(n == 0):=by
   have:(decide (0<=k) && decide (k<10))=true:=by simp;omega
   rw[this,Bool.and_true]
  rw[e0];go_enter Tryz.func107,Tryz.ntmps107
  go_wp2;go_ret
  exact⟨rfl,rfl⟩
theorem come_mod (s:Fl) (n:Int):s.come (n % 128)=s.come n:=by
 unfold Fl.come;rw[show n % 128 % 128=n % 128 by omega,show (n % 128+1) % 128=(n+1) % 128 by omega]
theorem ack_mod (s:Fl) (n:Int):s.ack (n % 128)=s.ack n:=by
 unfold Fl.ack;rw[show n % 128 % 128=n % 128 by omega,show (n % 128 - (s.va:Int)) % 128=(n - s.va) % 128 by omega]
abbrev Fr.norm (f:Fr):Fr:={ f with ns:=f.ns % 128,nr:=f.nr % 128 }
theorem info_mod (x:En) (f:Fr):x.info f.norm=x.info f:=by
 unfold En.info;simp only[come_mod,ack_mod]
theorem supervised_mod (x:En) (f:Fr):x.supervised f.norm=x.supervised f:=by
 unfold En.supervised;simp only[ack_mod]
theorem inOpen_mod (x:En) (f:Fr):x.inOpen f.norm=x.inOpen f:=by
 unfold En.inOpen;rw[info_mod,supervised_mod];rfl
theorem n_inOpen (e:Nat) (x:En) (y:Fr) (ok:x.fl.Ok) (hs:x.state=7\/x.state=8) (hm:mayK y.kind y.cmd=true) (hm6:y.kind≠6) (hl:x.out.length<=96000) (w0 w:World) (R:HP) (h:St w0 w (RnAt e x*R)) :
  Calls Tryz.prog 205 #[ptr e,.agg y.cells.toArray] w fun r w'=>r=.returned (.tuple #[])/\St w0 w' (RnAt e (x.inOpen y)*R):=by
 obtain⟨a1,a2,a3,k,pf,a6,a7,a8⟩:=y;have h2:=h.alloc (.cells (Fr.cells ⟨a1,a2,a3,k,pf,a6,a7,a8⟩).toArray TRf);clear h;have HM:=Lib.hid hm;clear hm;unfold En.inOpen;simp only[];by_cases k4:k=4
 ·subst k4
  rw[if_pos rfl];have l1:=x.send_len 8 false pf;have l2:=(x.send 8 false pf).told_len 7 ⟨#[70]⟩;have l3:=((x.send 8 false pf).told 7 ⟨#[70]⟩).unsure_len;have ok3:=((x.send 8 false pf).told 7 ⟨#[70]⟩).unsure_ok ok;go_enter Tryz.func205,Tryz.ntmps205
  go_upto_region 1 with fail
  generalize w.alloc _=wa at *;generalize w.heap.size=ga at *;have d:=h2.cell;go_wp2_with fail
  refine (n_reply e x 8 ⟨a1,a2,a3,4,pf,a6,a7,a8⟩ (by omega) w0 _ _ h2.f2).mono ?_
  rintro r w_ ⟨rfl,h3⟩;clear d h2;go_wp2_with fail
  refine (n_tell e (x.send 8 false pf) 7 ⟨#[70]⟩ (by omega) w0 _ _ h3).mono ?_
  rintro r w_ ⟨rfl,h4⟩;go_wp2_with fail
  refine (n_unsure e ((x.send 8 false pf).told 7 ⟨#[70]⟩) ok (by omega) w0 _ _ h4).mono ?_
  rintro r w_ ⟨rfl,h5⟩;clear h3 h4;go_wp2_with fail
  refine (n_open1 e ((x.send 8 false pf).told 7 ⟨#[70]⟩).unsure ok3 (by omega) w0 _ _ h5).mono ?_
  rintro r w_ ⟨rfl,h9⟩;go_wp2;first
   | (go_end0;exact⟨rfl,h9.f2.drop⟩)
   | (refine bodyPost_ret (v:=.tuple #[]) (by simp[results,go_sem]) rfl ?_;exact⟨rfl,h9.f2.drop⟩)
 rw[if_neg k4];have b4:(k == 4)=false:=by simpa using k4
 by_cases k7:k=7
 ·subst k7
  rw[if_pos rfl];have l1:=x.send_len 8 false pf;have l2:=(x.send 8 false pf).told_len 3 noStr;go_enter Tryz.func205,Tryz.ntmps205
  go_upto_region 1 with fail
  generalize w.alloc _=wa at *;generalize w.heap.size=ga at *;have d:=h2.cell;go_wp2_with fail
  refine (n_reply e x 8 ⟨a1,a2,a3,7,pf,a6,a7,a8⟩ (by omega) w0 _ _ h2.f2).mono ?_
  rintro r w_ ⟨rfl,h3⟩;clear d h2;go_wp2_with fail
  refine (n_tell e (x.send 8 false pf) 3 noStr (by omega) w0 _ _ h3).mono ?_
  rintro r w_ ⟨rfl,h4⟩;clear h3;go_wp2_with fail
  refine (n_end e ((x.send 8 false pf).told 3 noStr) ok (by omega) w0 _ _ h4).mono ?_
  rintro r w_ ⟨rfl,h9⟩;go_wp2;first
   | (go_end0;exact⟨rfl,h9.f2.drop⟩)
   | (refine bodyPost_ret (v:=.tuple #[]) (by simp[results,go_sem]) rfl ?_;exact⟨rfl,h9.f2.drop⟩)
 rw[if_neg k7];have b7:(k == 7)=false:=by simpa using k7
 by_cases k8:k=8
 ·subst k8
  rw[if_pos rfl];go_enter Tryz.func205,Tryz.ntmps205
  go_upto_region 1 with fail
  generalize w.alloc _=wa at *;generalize w.heap.size=ga at *;have d:=h2.cell;go_wp2_with fail
  refine (n_strange e x ⟨a1,a2,a3,8,pf,a6,a7,a8⟩ (by omega) w0 _ _ h2.f2).mono ?_
  rintro r w_ ⟨rfl,h9⟩;go_wp2;first
   | (go_end0;exact⟨rfl,h9.f2.drop⟩)
   | (refine bodyPost_ret (v:=.tuple #[]) (by simp[results,go_sem]) rfl ?_;exact⟨rfl,h9.f2.drop⟩)
 rw[if_neg k8];have b8:(k == 8)=false:=by simpa using k8
 by_cases k5:k=5
 ·subst k5
  rw[if_pos rfl];cases pf with
  | true =>
    rw[if_pos rfl];go_enter Tryz.func205,Tryz.ntmps205
    go_upto_region 1 with fail
    generalize w.alloc _=wa at *;generalize w.heap.size=ga at *;have d:=h2.cell;go_wp2_with fail
    refine (n_anew e x ⟨#[66]⟩ (by omega) w0 _ _ h2.f2).mono ?_
    rintro r w_ ⟨rfl,h9⟩;go_wp2;first
     | (go_end0;exact⟨rfl,h9.f2.drop⟩)
     | (refine bodyPost_ret (v:=.tuple #[]) (by simp[results,go_sem]) rfl ?_;exact⟨rfl,h9.f2.drop⟩)
  | false =>
    rw[if_neg (by simp)];go_enter Tryz.func205,Tryz.ntmps205
    go_upto_region 1 with fail
    generalize w.alloc _=wa at *;generalize w.heap.size=ga at *;have d:=h2.cell;go_wp2_with fail
    refine (n_anew e x ⟨#[69]⟩ (by omega) w0 _ _ h2.f2).mono ?_
    rintro r w_ ⟨rfl,h9⟩;go_wp2;first
     | (go_end0;exact⟨rfl,h9.f2.drop⟩)
     | (refine bodyPost_ret (v:=.tuple #[]) (by simp[results,go_sem]) rfl ?_;exact⟨rfl,h9.f2.drop⟩)
 rw[if_neg k5];have b5:(k == 5)=false:=by simpa using k5
 by_cases k9:k=9
 ·subst k9
  rw[if_pos rfl];go_enter Tryz.func205,Tryz.ntmps205
  go_upto_region 1 with fail
  generalize w.alloc _=wa at *;generalize w.heap.size=ga at *;have d:=h2.cell;go_wp2_with fail
  refine (n_anew e x ⟨#[75]⟩ (by omega) w0 _ _ h2.f2).mono ?_
  rintro r w_ ⟨rfl,h9⟩;go_wp2;first
   | (go_end0;exact⟨rfl,h9.f2.drop⟩)
   | (refine bodyPost_ret (v:=.tuple #[]) (by simp[results,go_sem]) rfl ?_;exact⟨rfl,h9.f2.drop⟩)
 rw[if_neg k9];have b9:(k == 9)=false:=by simpa using k9
 by_cases k0:k=0
 ·subst k0
  rw[if_pos rfl];go_enter Tryz.func205,Tryz.ntmps205
  go_upto_region 1 with fail
  generalize w.alloc _=wa at *;generalize w.heap.size=ga at *;have d:=h2.cell;go_wp2_with fail
  refine (n_info e x ⟨a1,a2,a3,0,pf,a6,a7,a8⟩ ok (by omega) w0 _ _ h2.f2).mono ?_
  rintro r w_ ⟨rfl,h9⟩;go_wp2;first
   | (go_end0;exact⟨rfl,h9.f2.drop⟩)
   | (refine bodyPost_ret (v:=.tuple #[]) (by simp[results,go_sem]) rfl ?_;exact⟨rfl,h9.f2.drop⟩)
 rw[if_neg k0];have b0:(k == 0)=false:=by simpa using k0
 have HK:Hid (k=1\/k=2\/k=3\/k=6):=by
  have:=HM.out
  simp only[mayK,numb] at this;refine Lib.hid ?_
  by_cases k6:k=6
  ·exact .inr (.inr (.inr k6))
  ·rw[if_neg (by omega),if_neg (by omega)] at this
   simp at this
   omega
 have k6:k≠6:=hm6
 ·clear HM hm6
  have HK3:Hid (k=1\/k=2\/k=3):=Lib.hid (by rcases HK.out with h | h | h | h;exact .inl h;exact .inr (.inl h);exact .inr (.inr h);exact absurd h k6);clear HK k0 k9 k5 k8 k7 k4 k6;go_enter Tryz.func205,Tryz.ntmps205
  go_upto_region 1 with fail
  generalize w.alloc _=wa at *;generalize w.heap.size=ga at *;have d:=h2.cell;go_wp2_with fail
  refine (n_supervised e x ⟨a1,a2,a3,k,pf,a6,a7,a8⟩ ok hs HK3.out (by omega) w0 _ _ h2.f2).mono ?_
  rintro r w_ ⟨rfl,h9⟩;go_wp2;first
   | (go_end0;exact⟨rfl,h9.f2.drop⟩)
   | (refine bodyPost_ret (v:=.tuple #[]) (by simp[results,go_sem]) rfl ?_;exact⟨rfl,h9.f2.drop⟩)
theorem n_frame (e:Nat) (x:En) (y:Fr) (ok:x.fl.Ok) (hs:0<=x.tei->4<=x.state/\x.state<=8) (w0 w:World) (R:HP) (h:St w0 w (RnAt e x*R)) :
  Calls Tryz.prog 117 #[ptr e,.agg y.cells.toArray] w fun r w'=>r=.returned (.tuple #[])/\St w0 w' (RnAt e (((x.setOut []).frame y).1.setOut ((x.setOut []).frame y).2)*R):=by
 obtain⟨a1,a2,cmd,k,pf,ns,nr,inf⟩:=y;have h2:=h.alloc (.cells (Fr.cells ⟨a1,a2,cmd,k,pf,ns,nr,inf⟩).toArray TRf);clear h;have ok2:(x.setOut []).fl.Ok:=ok;have hs2:0<=(x.setOut []).tei->4<=(x.setOut []).state/\(x.setOut []).state<=8:=hs;have hl2:(x.setOut []).out.length<=0:=by simp[En.setOut]
 have ho2:(x.setOut []).setOut []=x.setOut []:=rfl;obtain⟨X,hXX⟩:∃ X,x.setOut []=X:=⟨_,rfl⟩;rw[hXX] at ok2 hs2 hl2 ho2 ⊢;have HXX:=Lib.hid hXX;clear hXX ok hs;obtain⟨z,hz⟩:∃ z,(X.frame ⟨a1,a2,cmd,k,pf,ns,nr,inf⟩).1.setOut (X.frame ⟨a1,a2,cmd,k,pf,ns,nr,inf⟩).2=z:=⟨_,rfl⟩;rw[hz];unfold En.frame at hz;simp only[] at hz;have HO:=Lib.hid ho2;clear ho2;obtain⟨mk,hmk⟩:∃ b,mayK k cmd=b:=⟨_,rfl⟩;obtain⟨ck,hck⟩:∃ b,carries k (inf.size:Int)=b:=⟨_,rfl⟩;have HM:=Lib.hid hmk;have HC:=Lib.hid hck;rw[hmk,hck] at hz;clear hmk hck;by_cases ht:X.tei<0
 ·rw[if_pos (.inl ht)] at hz
  simp only[] at hz;rw[HO.out] at hz;subst hz;have bt:decide (X.tei<0)=true:=by simpa using ht
  clear ht hs2;go_enter Tryz.func117,Tryz.ntmps117
  go_upto_region 1 with fail
  generalize w.alloc _=wa at *;generalize w.heap.size=ga at *;have f9:=h2.f2.n_fr;have c9:∃ v,wa.cell? ⟨e,9,none⟩=some v:=by
   obtain⟨fp,uv,ov,h1⟩:=h2.f2.n_open;exact⟨_,h1.cell 9⟩
  obtain⟨v9,c9⟩:=c9;have h3:=h2.f2.n_set_out;rw[HXX.out] at h3;go_upto_region 2 with fail
  generalize wa.setCell _ _=wb at *;clear f9 c9 h2;have d:=h3.f2.cell;go_wp2_with fail
  have hmm:=t_may k cmd w0 wb _ h3;rw[HM.out] at hmm;refine hmm.mono ?_
  rintro r w1 ⟨rfl,h4⟩;clear h3 d;have d:=h4.f2.cell;go_wp2_with fail
  have hcc:=t_carries k (inf.size:Int) w1;rw[HC.out] at hcc;refine hcc.mono ?_
  rintro r w2 ⟨rfl,rfl⟩;clear hmm hcc;have c2:=h4.n_c2;go_wp2;first
   | (go_end0;exact⟨rfl,h4.f2.drop⟩)
   | (refine bodyPost_ret (v:=.tuple #[]) (by simp[results,go_sem]) rfl ?_;exact⟨rfl,h4.f2.drop⟩)
 have bt:decide (X.tei<0)=false:=by simpa using ht
 have HS':=Lib.hid (hs2 (by omega));clear hs2;cases mk with
 | false =>
   rw[if_pos (.inr (.inl rfl))] at hz;simp only[] at hz;rw[HO.out] at hz;subst hz;clear ht;go_enter Tryz.func117,Tryz.ntmps117
   go_upto_region 1 with fail
   generalize w.alloc _=wa at *;generalize w.heap.size=ga at *;have f9:=h2.f2.n_fr;have c9:∃ v,wa.cell? ⟨e,9,none⟩=some v:=by
    obtain⟨fp,uv,ov,h1⟩:=h2.f2.n_open;exact⟨_,h1.cell 9⟩
   obtain⟨v9,c9⟩:=c9;have h3:=h2.f2.n_set_out;rw[HXX.out] at h3;go_upto_region 2 with fail
   generalize wa.setCell _ _=wb at *;clear f9 c9 h2;have d:=h3.f2.cell;go_wp2_with fail
   have hmm:=t_may k cmd w0 wb _ h3;rw[HM.out] at hmm;refine hmm.mono ?_
   rintro r w1 ⟨rfl,h4⟩;clear h3 d;have d:=h4.f2.cell;go_wp2_with fail
   have hcc:=t_carries k (inf.size:Int) w1;rw[HC.out] at hcc;refine hcc.mono ?_
   rintro r w2 ⟨rfl,rfl⟩;clear hmm hcc;have c2:=h4.n_c2;go_wp2;first
    | (go_end0;exact⟨rfl,h4.f2.drop⟩)
    | (refine bodyPost_ret (v:=.tuple #[]) (by simp[results,go_sem]) rfl ?_;exact⟨rfl,h4.f2.drop⟩)
 | true =>
   cases ck with
   | false =>
     rw[if_pos (.inr (.inr rfl))] at hz;simp only[] at hz;rw[HO.out] at hz;subst hz;clear ht;go_enter Tryz.func117,Tryz.ntmps117
     go_upto_region 1 with fail
     generalize w.alloc _=wa at *;generalize w.heap.size=ga at *;have f9:=h2.f2.n_fr;have c9:∃ v,wa.cell? ⟨e,9,none⟩=some v:=by
      obtain⟨fp,uv,ov,h1⟩:=h2.f2.n_open;exact⟨_,h1.cell 9⟩
     obtain⟨v9,c9⟩:=c9;have h3:=h2.f2.n_set_out;rw[HXX.out] at h3;go_upto_region 2 with fail
     generalize wa.setCell _ _=wb at *;clear f9 c9 h2;have d:=h3.f2.cell;go_wp2_with fail
     have hmm:=t_may k cmd w0 wb _ h3;rw[HM.out] at hmm;refine hmm.mono ?_
     rintro r w1 ⟨rfl,h4⟩;clear h3 d;have d:=h4.f2.cell;go_wp2_with fail
     have hcc:=t_carries k (inf.size:Int) w1;rw[HC.out] at hcc;refine hcc.mono ?_
     rintro r w2 ⟨rfl,rfl⟩;clear hmm hcc;have c2:=h4.n_c2;go_wp2;first
      | (go_end0;exact⟨rfl,h4.f2.drop⟩)
      | (refine bodyPost_ret (v:=.tuple #[]) (by simp[results,go_sem]) rfl ?_;exact⟨rfl,h4.f2.drop⟩)
   | true =>
     rw[if_neg (by simp;omega)] at hz;clear ht;by_cases k6:k=6
     ·rw[if_pos k6] at hz
      have b6:(k == 6)=true:=by simpa using k6
      have hz2:X.told 6 inf=z:=hz;subst hz2;clear hz HS' k6;go_enter Tryz.func117,Tryz.ntmps117
      go_upto_region 1 with fail
      generalize w.alloc _=wa at *;generalize w.heap.size=ga at *;have f9:=h2.f2.n_fr;have c9:∃ v,wa.cell? ⟨e,9,none⟩=some v:=by
       obtain⟨fp,uv,ov,h1⟩:=h2.f2.n_open;exact⟨_,h1.cell 9⟩
      obtain⟨v9,c9⟩:=c9;have h3:=h2.f2.n_set_out;rw[HXX.out] at h3;go_upto_region 2 with fail
      generalize wa.setCell _ _=wb at *;clear f9 c9 h2;have d:=h3.f2.cell;go_wp2_with fail
      have hmm:=t_may k cmd w0 wb _ h3;rw[HM.out] at hmm;refine hmm.mono ?_
      rintro r w1 ⟨rfl,h4⟩;clear h3 d;have d:=h4.f2.cell;go_wp2_with fail
      have hcc:=t_carries k (inf.size:Int) w1;rw[HC.out] at hcc;refine hcc.mono ?_
      rintro r w2 ⟨rfl,rfl⟩;clear hmm hcc;have c2:=h4.n_c2;have d:=h4.f2.cell;have f:=h4.f2.free;have h5:=(h4.f2.set 6 (.int .i64 (nr % 128))).set 5 (.int .i64 (ns % 128));have e6:=(h4.f2.set 6 (.int .i64 (nr % 128))).cell;have f6:=(h4.f2.set 6 (.int .i64 (nr % 128))).free;go_wp2_with fail
      refine (t_norm nr w1).mono ?_
      rintro r w2 ⟨rfl,rfl⟩;go_upto_region 6 with fail
      generalize hwb:w1.setCell _ _=wx at *;clear hwb d f;go_wp2_with fail
      refine (t_norm ns wx).mono ?_
      rintro r w2 ⟨rfl,rfl⟩;go_upto_region 7 with fail
      generalize wx.setCell _ _=wy at *;clear e6 f6 h4;have h6:=h5.f2;clear h5;have c1:=h6.n_c1;have d:=h6.f2.cell;go_wp2_with fail
      refine (n_tell e X 6 inf (by omega) w0 _ _ h6).mono ?_
      rintro r w_ ⟨rfl,h9⟩;clear d c1 h6;go_wp2;first
       | (go_end0;exact⟨rfl,h9.f2.drop⟩)
       | (refine bodyPost_ret (v:=.tuple #[]) (by simp[results,go_sem]) rfl ?_;exact⟨rfl,h9.f2.drop⟩)
     rw[if_neg k6] at hz;have b6:(k == 6)=false:=by simpa using k6
     by_cases s4:X.state=4
     ·rw[if_pos s4] at hz
      have hz2:X.inAssigned ⟨a1,a2,cmd,k,pf,ns % 128,nr % 128,inf⟩=z:=hz;subst hz2;clear hz HS' k6;have HX4:=Lib.hid s4;clear s4;go_enter Tryz.func117,Tryz.ntmps117
      go_upto_region 1 with fail
      generalize w.alloc _=wa at *;generalize w.heap.size=ga at *;have f9:=h2.f2.n_fr;have c9:∃ v,wa.cell? ⟨e,9,none⟩=some v:=by
       obtain⟨fp,uv,ov,h1⟩:=h2.f2.n_open;exact⟨_,h1.cell 9⟩
      obtain⟨v9,c9⟩:=c9;have h3:=h2.f2.n_set_out;rw[HXX.out] at h3;go_upto_region 2 with fail
      generalize wa.setCell _ _=wb at *;clear f9 c9 h2;have d:=h3.f2.cell;go_wp2_with fail
      have hmm:=t_may k cmd w0 wb _ h3;rw[HM.out] at hmm;refine hmm.mono ?_
      rintro r w1 ⟨rfl,h4⟩;clear h3 d;have d:=h4.f2.cell;go_wp2_with fail
      have hcc:=t_carries k (inf.size:Int) w1;rw[HC.out] at hcc;refine hcc.mono ?_
      rintro r w2 ⟨rfl,rfl⟩;clear hmm hcc;have c2:=h4.n_c2;have d:=h4.f2.cell;have f:=h4.f2.free;have h5:=(h4.f2.set 6 (.int .i64 (nr % 128))).set 5 (.int .i64 (ns % 128));have e6:=(h4.f2.set 6 (.int .i64 (nr % 128))).cell;have f6:=(h4.f2.set 6 (.int .i64 (nr % 128))).free;go_wp2_with fail
      refine (t_norm nr w1).mono ?_
      rintro r w2 ⟨rfl,rfl⟩;go_upto_region 6 with fail
      generalize hwb:w1.setCell _ _=wx at *;clear hwb d f;go_wp2_with fail
      refine (t_norm ns wx).mono ?_
      rintro r w2 ⟨rfl,rfl⟩;go_upto_region 7 with fail
      generalize wx.setCell _ _=wy at *;clear e6 f6 h4;have h6:=h5.f2;clear h5;have c1:=h6.n_c1;have d:=h6.f2.cell;rw[HX4.out] at c1;go_wp2_with fail
      refine (n_inAssigned e X ⟨a1,a2,cmd,k,pf,ns % 128,nr % 128,inf⟩ ok2 (by omega) w0 _ _ h6).mono ?_
      rintro r w_ ⟨rfl,h9⟩;clear d c1 h6;go_wp2;first
       | (go_end0;exact⟨rfl,h9.f2.drop⟩)
       | (refine bodyPost_ret (v:=.tuple #[]) (by simp[results,go_sem]) rfl ?_;exact⟨rfl,h9.f2.drop⟩)
     rw[if_neg s4] at hz;by_cases s5:X.state=5
     ·rw[if_pos s5] at hz
      have hz2:X.inConnecting ⟨a1,a2,cmd,k,pf,ns % 128,nr % 128,inf⟩=z:=hz;subst hz2;clear hz HS' k6 s4;have HX4:=Lib.hid s5;clear s5;go_enter Tryz.func117,Tryz.ntmps117
      go_upto_region 1 with fail
      generalize w.alloc _=wa at *;generalize w.heap.size=ga at *;have f9:=h2.f2.n_fr;have c9:∃ v,wa.cell? ⟨e,9,none⟩=some v:=by
       obtain⟨fp,uv,ov,h1⟩:=h2.f2.n_open;exact⟨_,h1.cell 9⟩
      obtain⟨v9,c9⟩:=c9;have h3:=h2.f2.n_set_out;rw[HXX.out] at h3;go_upto_region 2 with fail
      generalize wa.setCell _ _=wb at *;clear f9 c9 h2;have d:=h3.f2.cell;go_wp2_with fail
      have hmm:=t_may k cmd w0 wb _ h3;rw[HM.out] at hmm;refine hmm.mono ?_
      rintro r w1 ⟨rfl,h4⟩;clear h3 d;have d:=h4.f2.cell;go_wp2_with fail
      have hcc:=t_carries k (inf.size:Int) w1;rw[HC.out] at hcc;refine hcc.mono ?_
      rintro r w2 ⟨rfl,rfl⟩;clear hmm hcc;have c2:=h4.n_c2;have d:=h4.f2.cell;have f:=h4.f2.free;have h5:=(h4.f2.set 6 (.int .i64 (nr % 128))).set 5 (.int .i64 (ns % 128));have e6:=(h4.f2.set 6 (.int .i64 (nr % 128))).cell;have f6:=(h4.f2.set 6 (.int .i64 (nr % 128))).free;go_wp2_with fail
      refine (t_norm nr w1).mono ?_
      rintro r w2 ⟨rfl,rfl⟩;go_upto_region 6 with fail
      generalize hwb:w1.setCell _ _=wx at *;clear hwb d f;go_wp2_with fail
      refine (t_norm ns wx).mono ?_
      rintro r w2 ⟨rfl,rfl⟩;go_upto_region 7 with fail
      generalize wx.setCell _ _=wy at *;clear e6 f6 h4;have h6:=h5.f2;clear h5;have c1:=h6.n_c1;have d:=h6.f2.cell;rw[HX4.out] at c1;go_wp2_with fail
      refine (n_inConnecting e X ⟨a1,a2,cmd,k,pf,ns % 128,nr % 128,inf⟩ ok2 (by omega) w0 _ _ h6).mono ?_
      rintro r w_ ⟨rfl,h9⟩;clear d c1 h6;go_wp2;first
       | (go_end0;exact⟨rfl,h9.f2.drop⟩)
       | (refine bodyPost_ret (v:=.tuple #[]) (by simp[results,go_sem]) rfl ?_;exact⟨rfl,h9.f2.drop⟩)
     rw[if_neg s5] at hz;by_cases s6:X.state=6
     ·rw[if_pos s6] at hz
      have hz2:X.inReleasing ⟨a1,a2,cmd,k,pf,ns % 128,nr % 128,inf⟩=z:=hz;subst hz2;clear hz HS' k6 s4 s5;have HX4:=Lib.hid s6;clear s6;go_enter Tryz.func117,Tryz.ntmps117
      go_upto_region 1 with fail
      generalize w.alloc _=wa at *;generalize w.heap.size=ga at *;have f9:=h2.f2.n_fr;have c9:∃ v,wa.cell? ⟨e,9,none⟩=some v:=by
       obtain⟨fp,uv,ov,h1⟩:=h2.f2.n_open;exact⟨_,h1.cell 9⟩
      obtain⟨v9,c9⟩:=c9;have h3:=h2.f2.n_set_out;rw[HXX.out] at h3;go_upto_region 2 with fail
      generalize wa.setCell _ _=wb at *;clear f9 c9 h2;have d:=h3.f2.cell;go_wp2_with fail
      have hmm:=t_may k cmd w0 wb _ h3;rw[HM.out] at hmm;refine hmm.mono ?_
      rintro r w1 ⟨rfl,h4⟩;clear h3 d;have d:=h4.f2.cell;go_wp2_with fail
      have hcc:=t_carries k (inf.size:Int) w1;rw[HC.out] at hcc;refine hcc.mono ?_
      rintro r w2 ⟨rfl,rfl⟩;clear hmm hcc;have c2:=h4.n_c2;have d:=h4.f2.cell;have f:=h4.f2.free;have h5:=(h4.f2.set 6 (.int .i64 (nr % 128))).set 5 (.int .i64 (ns % 128));have e6:=(h4.f2.set 6 (.int .i64 (nr % 128))).cell;have f6:=(h4.f2.set 6 (.int .i64 (nr % 128))).free;go_wp2_with fail
      refine (t_norm nr w1).mono ?_
      rintro r w2 ⟨rfl,rfl⟩;go_upto_region 6 with fail
      generalize hwb:w1.setCell _ _=wx at *;clear hwb d f;go_wp2_with fail
      refine (t_norm ns wx).mono ?_
      rintro r w2 ⟨rfl,rfl⟩;go_upto_region 7 with fail
      generalize wx.setCell _ _=wy at *;clear e6 f6 h4;have h6:=h5.f2;clear h5;have c1:=h6.n_c1;have d:=h6.f2.cell;rw[HX4.out] at c1;go_wp2_with fail
      refine (n_inReleasing e X ⟨a1,a2,cmd,k,pf,ns % 128,nr % 128,inf⟩ ok2 (by omega) w0 _ _ h6).mono ?_
      rintro r w_ ⟨rfl,h9⟩;clear d c1 h6;go_wp2;first
       | (go_end0;exact⟨rfl,h9.f2.drop⟩)
       | (refine bodyPost_ret (v:=.tuple #[]) (by simp[results,go_sem]) rfl ?_;exact⟨rfl,h9.f2.drop⟩)
     rw[if_neg s6] at hz;have hz2:X.inOpen ⟨a1,a2,cmd,k,pf,ns % 128,nr % 128,inf⟩=z:=(inOpen_mod X ⟨a1,a2,cmd,k,pf,ns,nr,inf⟩).trans hz;subst hz2;clear hz;have n4:(X.state == 4)=false:=by simpa using s4
     have n5:(X.state == 5)=false:=by simpa using s5
     have n6:(X.state == 6)=false:=by simpa using s6
     have HX4:Hid (X.state=7\/X.state=8):=Lib.hid (by have:=HS'.out;omega);have K6:=Lib.hid k6;clear s4 s5 s6 k6 HS';go_enter Tryz.func117,Tryz.ntmps117
     go_upto_region 1 with fail
     generalize w.alloc _=wa at *;generalize w.heap.size=ga at *;have f9:=h2.f2.n_fr;have c9:∃ v,wa.cell? ⟨e,9,none⟩=some v:=by
      obtain⟨fp,uv,ov,h1⟩:=h2.f2.n_open;exact⟨_,h1.cell 9⟩
     obtain⟨v9,c9⟩:=c9;have h3:=h2.f2.n_set_out;rw[HXX.out] at h3;go_upto_region 2 with fail
     generalize wa.setCell _ _=wb at *;clear f9 c9 h2;have d:=h3.f2.cell;go_wp2_with fail
     have hmm:=t_may k cmd w0 wb _ h3;rw[HM.out] at hmm;refine hmm.mono ?_
     rintro r w1 ⟨rfl,h4⟩;clear h3 d;have d:=h4.f2.cell;go_wp2_with fail
     have hcc:=t_carries k (inf.size:Int) w1;rw[HC.out] at hcc;refine hcc.mono ?_
     rintro r w2 ⟨rfl,rfl⟩;clear hmm hcc;have c2:=h4.n_c2;have d:=h4.f2.cell;have f:=h4.f2.free;have h5:=(h4.f2.set 6 (.int .i64 (nr % 128))).set 5 (.int .i64 (ns % 128));have e6:=(h4.f2.set 6 (.int .i64 (nr % 128))).cell;have f6:=(h4.f2.set 6 (.int .i64 (nr % 128))).free;go_wp2_with fail
     refine (t_norm nr w1).mono ?_
     rintro r w2 ⟨rfl,rfl⟩;go_upto_region 6 with fail
     generalize hwb:w1.setCell _ _=wx at *;clear hwb d f;go_wp2_with fail
     refine (t_norm ns wx).mono ?_
     rintro r w2 ⟨rfl,rfl⟩;go_upto_region 7 with fail
     generalize wx.setCell _ _=wy at *;clear e6 f6 h4;have h6:=h5.f2;clear h5;have c1:=h6.n_c1;have d:=h6.f2.cell;go_wp2_with fail
     refine (n_inOpen e X ⟨a1,a2,cmd,k,pf,ns % 128,nr % 128,inf⟩ ok2 HX4.out HM.out K6.out (by omega) w0 _ _ h6).mono ?_
     rintro r w_ ⟨rfl,h9⟩;clear d c1 h6;go_wp2;first
      | (go_end0;exact⟨rfl,h9.f2.drop⟩)
      | (refine bodyPost_ret (v:=.tuple #[]) (by simp[results,go_sem]) rfl ?_;exact⟨rfl,h9.f2.drop⟩)
theorem n_timeout (e:Nat) (x:En) (t:Int) (ok:x.fl.Ok) (h3s:x.t3=true->x.state=7) (htr:0<=x.tries/\x.tries<=1000) (w0 w:World) (R:HP) (h:St w0 w (RnAt e x*R)) :
  Calls Tryz.prog 139 #[ptr e,.int .i64 t] w fun r w'=>r=.returned (.tuple #[])/\St w0 w' (RnAt e (((x.setOut []).timeout t).1.setOut ((x.setOut []).timeout t).2)*R):=by
 have h2:=h.n_set_out;have c9:∃ v,w.cell? ⟨e,9,none⟩=some v:=by
  obtain⟨fp,uv,ov,h1⟩:=h.n_open;exact⟨_,h1.cell 9⟩
 obtain⟨v9,c9⟩:=c9;have f9:=h.n_fr;have ok2:(x.setOut []).fl.Ok:=ok;have hl2:(x.setOut []).out.length<=98000:=by simp[En.setOut]
 have ho2:(x.setOut []).setOut []=x.setOut []:=rfl;have ht2:0<=(x.setOut []).tries/\(x.setOut []).tries<=1000:=htr;have h32:(x.setOut []).t3=true->(x.setOut []).state=7:=h3s;clear h ok htr h3s;generalize x.setOut []=y at *;have c1:=h2.n_c1;have c5:=h2.n_c5;have c6:=h2.n_c6;have f2:=h2.n_fr;unfold En.timeout;by_cases t3:t=203
 ·subst t3
  have hr:y.runs 203=y.t3:=rfl;rw[hr];clear hr;cases ha:y.t3 with
  | false =>
    rw[ha] at c6;rw[if_pos rfl];simp only[];rw[ho2];clear h32;go_enter Tryz.func139,Tryz.ntmps139
    go_upto_region 1 with fail
    generalize w.setCell _ _=w2 at *;clear f9 c9;go_wp2;first
     | (go_end0;exact⟨rfl,h2⟩)
     | (refine bodyPost_ret (v:=.tuple #[]) (by simp[results,go_sem]) rfl ?_;exact⟨rfl,h2⟩)
  | true =>
    rw[ha] at c6;rw[if_neg (by simp)];simp only[];have s7:=h32 ha;rw[if_neg (by rw[s7];decide),if_neg (by rw[s7];decide),if_pos s7];have h3:=h2.n_set_t3 false;have st0:(y.setT 203 false).state=y.state:=y.setT_state 203 false;have tr0:(y.setT 203 false).tries=y.tries:=y.setT_tries 203 false;have mo0:(y.setT 203 false).most=y.most:=y.setT_most 203 false;have ok3:(y.setT 203 false).fl.Ok:=by rw[En.setT_fl];exact ok2
    have lo3:(y.setT 203 false).out.length<=98000:=by rw[En.setT_out];exact hl2
    obtain⟨y0,hy0⟩:∃ y0,y.setT 203 false=y0:=⟨_,rfl⟩;rw[hy0] at h3 st0 tr0 mo0 ok3 lo3 ⊢;clear hy0;go_enter Tryz.func139,Tryz.ntmps139
    go_upto_region 1 with fail
    generalize w.setCell _ _=w2 at *;clear f9 c9;go_upto_region 3 with fail
    generalize w2.setCell _ _=w3 at *;clear c1 f2 h2 ha;have c1:=h3.n_c1;rw[st0,s7] at c1;clear s7 st0;have c3:=h3.n_c3;have f3:=h3.n_fr;have h4:=h3.n_set_tries 0;go_wp2_with fail
    refine (n_inquire e (y0.setTries 0) (show y0.out.length<=99990 by omega) w0 _ R h4).mono ?_
    rintro r w_ ⟨rfl,h5⟩;clear c1 c3 f3 h3 h4;have c1:=h5.n_c1;have f5:=h5.n_fr;have h6:=h5.n_set_state 8;clear h5;go_wp2;first
     | (go_end0;exact⟨rfl,h6⟩)
     | (refine bodyPost_ret (v:=.tuple #[]) (by simp[results,go_sem]) rfl ?_;exact⟨rfl,h6⟩)
 have n3:(t == 203)=false:=by simpa using t3
 by_cases t2:t=200
 ·subst t2
  have hr:y.runs 200=y.t2:=rfl;rw[hr];clear hr h32 c6;cases ha:y.t2 with
  | false =>
    rw[ha] at c5;rw[if_pos rfl];simp only[];rw[ho2];go_enter Tryz.func139,Tryz.ntmps139
    go_upto_region 1 with fail
    generalize w.setCell _ _=w2 at *;clear f9 c9;go_wp2;first
     | (go_end0;exact⟨rfl,h2⟩)
     | (refine bodyPost_ret (v:=.tuple #[]) (by simp[results,go_sem]) rfl ?_;exact⟨rfl,h2⟩)
  | true =>
    rw[ha] at c5;rw[if_neg (by simp)];simp only[];clear ho2 n3;by_cases s5:y.state=5
    ·rw[if_pos s5]
     have h3:=h2.n_set_t2 false;have st0:(y.setT 200 false).state=y.state:=y.setT_state 200 false;have tr0:(y.setT 200 false).tries=y.tries:=y.setT_tries 200 false;have mo0:(y.setT 200 false).most=y.most:=y.setT_most 200 false;have ok3:(y.setT 200 false).fl.Ok:=by rw[En.setT_fl];exact ok2
     have lo3:(y.setT 200 false).out.length<=98000:=by rw[En.setT_out];exact hl2
     obtain⟨y0,hy0⟩:∃ y0,y.setT 200 false=y0:=⟨_,rfl⟩;rw[hy0] at h3 st0 tr0 mo0 ok3 lo3 ⊢;clear hy0;go_enter Tryz.func139,Tryz.ntmps139
     go_upto_region 1 with fail
     generalize w.setCell _ _=w2 at *;clear f9 c9;go_upto_region 9 with fail
     generalize w2.setCell _ _=w3 at *;clear c1 f2 h2 ha;have c1:=h3.n_c1;rw[st0,s5] at c1;clear s5 st0;go_wp2_with fail
     refine (n_again e y0 4 ⟨#[71]⟩ 3 ok3 (by rw[tr0];exact ht2) (by omega) w0 _ R h3).mono ?_
     rintro r w_ ⟨rfl,h6⟩;clear c1 h3;go_wp2;first
      | (go_end0;exact⟨rfl,h6⟩)
      | (refine bodyPost_ret (v:=.tuple #[]) (by simp[results,go_sem]) rfl ?_;exact⟨rfl,h6⟩)
    rw[if_neg s5];by_cases s6:y.state=6
    ·rw[if_pos s6]
     have h3:=h2.n_set_t2 false;have st0:(y.setT 200 false).state=y.state:=y.setT_state 200 false;have tr0:(y.setT 200 false).tries=y.tries:=y.setT_tries 200 false;have mo0:(y.setT 200 false).most=y.most:=y.setT_most 200 false;have ok3:(y.setT 200 false).fl.Ok:=by rw[En.setT_fl];exact ok2
     have lo3:(y.setT 200 false).out.length<=98000:=by rw[En.setT_out];exact hl2
     obtain⟨y0,hy0⟩:∃ y0,y.setT 200 false=y0:=⟨_,rfl⟩;rw[hy0] at h3 st0 tr0 mo0 ok3 lo3 ⊢;clear hy0;go_enter Tryz.func139,Tryz.ntmps139
     go_upto_region 1 with fail
     generalize w.setCell _ _=w2 at *;clear f9 c9;go_upto_region 9 with fail
     generalize w2.setCell _ _=w3 at *;clear c1 f2 h2 ha;have c1:=h3.n_c1;rw[st0,s6] at c1;clear s6 st0 s5;go_wp2_with fail
     refine (n_again e y0 7 ⟨#[72]⟩ 4 ok3 (by rw[tr0];exact ht2) (by omega) w0 _ R h3).mono ?_
     rintro r w_ ⟨rfl,h6⟩;clear c1 h3;go_wp2;first
      | (go_end0;exact⟨rfl,h6⟩)
      | (refine bodyPost_ret (v:=.tuple #[]) (by simp[results,go_sem]) rfl ?_;exact⟨rfl,h6⟩)
    rw[if_neg s6];by_cases s7:y.state=7
    ·rw[if_pos s7]
     have h3:=h2.n_set_t2 false;have st0:(y.setT 200 false).state=y.state:=y.setT_state 200 false;have tr0:(y.setT 200 false).tries=y.tries:=y.setT_tries 200 false;have mo0:(y.setT 200 false).most=y.most:=y.setT_most 200 false;have ok3:(y.setT 200 false).fl.Ok:=by rw[En.setT_fl];exact ok2
     have lo3:(y.setT 200 false).out.length<=98000:=by rw[En.setT_out];exact hl2
     obtain⟨y0,hy0⟩:∃ y0,y.setT 200 false=y0:=⟨_,rfl⟩;rw[hy0] at h3 st0 tr0 mo0 ok3 lo3 ⊢;clear hy0;go_enter Tryz.func139,Tryz.ntmps139
     go_upto_region 1 with fail
     generalize w.setCell _ _=w2 at *;clear f9 c9;go_upto_region 9 with fail
     generalize w2.setCell _ _=w3 at *;clear c1 f2 h2 ha;have c1:=h3.n_c1;rw[st0,s7] at c1;clear s7 st0 s5 s6;have c3:=h3.n_c3;have f3:=h3.n_fr;have h4:=h3.n_set_tries 0;go_wp2_with fail
     refine (n_inquire e (y0.setTries 0) (show y0.out.length<=99990 by omega) w0 _ R h4).mono ?_
     rintro r w_ ⟨rfl,h5⟩;clear c1 c3 f3 h3 h4;have c1:=h5.n_c1;have f5:=h5.n_fr;have h6:=h5.n_set_state 8;clear h5;go_wp2;first
      | (go_end0;exact⟨rfl,h6⟩)
      | (refine bodyPost_ret (v:=.tuple #[]) (by simp[results,go_sem]) rfl ?_;exact⟨rfl,h6⟩)
    rw[if_neg s7];by_cases s8:y.state=8
    ·rw[if_pos s8]
     by_cases hm:y.tries=y.most
     ·rw[if_pos hm]
      have h3:=h2.n_set_t2 false;have st0:(y.setT 200 false).state=y.state:=y.setT_state 200 false;have tr0:(y.setT 200 false).tries=y.tries:=y.setT_tries 200 false;have mo0:(y.setT 200 false).most=y.most:=y.setT_most 200 false;have ok3:(y.setT 200 false).fl.Ok:=by rw[En.setT_fl];exact ok2
      have lo3:(y.setT 200 false).out.length<=98000:=by rw[En.setT_out];exact hl2
      obtain⟨y0,hy0⟩:∃ y0,y.setT 200 false=y0:=⟨_,rfl⟩;rw[hy0] at h3 st0 tr0 mo0 ok3 lo3 ⊢;clear hy0;go_enter Tryz.func139,Tryz.ntmps139
      go_upto_region 1 with fail
      generalize w.setCell _ _=w2 at *;clear f9 c9;go_upto_region 9 with fail
      generalize w2.setCell _ _=w3 at *;clear c1 f2 h2 ha;have c1:=h3.n_c1;rw[st0,s8] at c1;have c3:=h3.n_c3;have c0:=h3.n_c0;rw[tr0] at c3;rw[mo0] at c0;have b:(y.tries == y.most)=true:=by simpa using hm
      clear s8 st0 s5 s6 s7 hm tr0 mo0;have H3:=Lib.hid h3;clear h3;go_upto_region 19 with fail
      go_quiet (fail)
      go_wp2_with fail
      refine (n_anew e y0 ⟨#[73]⟩ (by omega) w0 _ R (H3.out.drewN _)).mono ?_
      rintro r w_ ⟨rfl,h6⟩;clear c1 c0 c3 b H3;go_wp2;first
       | (go_end0;exact⟨rfl,h6⟩)
       | (refine bodyPost_ret (v:=.tuple #[]) (by simp[results,go_sem]) rfl ?_;exact⟨rfl,h6⟩)
     ·rw[if_neg hm]
      have h3:=h2.n_set_t2 false;have st0:(y.setT 200 false).state=y.state:=y.setT_state 200 false;have tr0:(y.setT 200 false).tries=y.tries:=y.setT_tries 200 false;have mo0:(y.setT 200 false).most=y.most:=y.setT_most 200 false;have ok3:(y.setT 200 false).fl.Ok:=by rw[En.setT_fl];exact ok2
      have lo3:(y.setT 200 false).out.length<=98000:=by rw[En.setT_out];exact hl2
      obtain⟨y0,hy0⟩:∃ y0,y.setT 200 false=y0:=⟨_,rfl⟩;rw[hy0] at h3 st0 tr0 mo0 ok3 lo3 ⊢;clear hy0;go_enter Tryz.func139,Tryz.ntmps139
      go_upto_region 1 with fail
      generalize w.setCell _ _=w2 at *;clear f9 c9;go_upto_region 9 with fail
      generalize w2.setCell _ _=w3 at *;clear c1 f2 h2 ha;have c1:=h3.n_c1;rw[st0,s8] at c1;have c3:=h3.n_c3;have c0:=h3.n_c0;rw[tr0] at c3;rw[mo0] at c0;have b:(y.tries == y.most)=false:=by simpa using hm
      have f3:=h3.n_fr;have hw:IntKind.i64.wrap (y.tries+1)=y.tries+1:=by rw[IntKind.wrap_i64];omega
      clear s8 st0 s5 s6 s7 hm tr0 mo0;have H3:=Lib.hid h3;clear h3;go_upto_region 19 with fail
      go_quiet (fail)
      go_wp2_with fail
      refine (n_inquire e (y0.setTries (y.tries+1)) (show y0.out.length<=99990 by omega) w0 _ R ((H3.out.drewN _).n_set_tries (y.tries+1))).mono ?_
      rintro r w_ ⟨rfl,h6⟩;clear c1 c0 c3 b H3 f3;go_wp2;first
       | (go_end0;exact⟨rfl,h6⟩)
       | (refine bodyPost_ret (v:=.tuple #[]) (by simp[results,go_sem]) rfl ?_;exact⟨rfl,h6⟩)
    rw[if_neg s8];have n5:(y.state == 5)=false:=by simpa using s5
    have n6:(y.state == 6)=false:=by simpa using s6
    have n7:(y.state == 7)=false:=by simpa using s7
    have n8:(y.state == 8)=false:=by simpa using s8
    have h3:=h2.n_set_t2 false;have st0:(y.setT 200 false).state=y.state:=y.setT_state 200 false;have tr0:(y.setT 200 false).tries=y.tries:=y.setT_tries 200 false;have mo0:(y.setT 200 false).most=y.most:=y.setT_most 200 false;have ok3:(y.setT 200 false).fl.Ok:=by rw[En.setT_fl];exact ok2
    have lo3:(y.setT 200 false).out.length<=98000:=by rw[En.setT_out];exact hl2
    obtain⟨y0,hy0⟩:∃ y0,y.setT 200 false=y0:=⟨_,rfl⟩;rw[hy0] at h3 st0 tr0 mo0 ok3 lo3 ⊢;clear hy0;go_enter Tryz.func139,Tryz.ntmps139
    go_upto_region 1 with fail
    generalize w.setCell _ _=w2 at *;clear f9 c9;go_upto_region 9 with fail
    generalize w2.setCell _ _=w3 at *;clear c1 f2 h2 ha;have c1:=h3.n_c1;rw[st0] at c1;clear st0 tr0 mo0 s5 s6 s7 s8;have h6:=h3;clear h3;go_wp2;first
     | (go_end0;exact⟨rfl,h6⟩)
     | (refine bodyPost_ret (v:=.tuple #[]) (by simp[results,go_sem]) rfl ?_;exact⟨rfl,h6⟩)
 ·have n2:(t != 200)=true:=by simpa using t2
  have hr:y.runs t=false:=by unfold En.runs;rw[if_neg t2,if_neg t3]
  rw[if_pos hr];simp only[];rw[ho2];clear hr;go_enter Tryz.func139,Tryz.ntmps139
  go_upto_region 1 with fail
  generalize w.setCell _ _=w2 at *;clear f9 c9;go_wp2;first
   | (go_end0;exact⟨rfl,h2⟩)
   | (refine bodyPost_ret (v:=.tuple #[]) (by simp[results,go_sem]) rfl ?_;exact⟨rfl,h2⟩)
end Go.Proofs.YtnnahljdhdippaaGreatDoor
