/- Parts of a proof (EntU, EntV, EntW). No condition. -/
import Derived.Test.YtjcldoejpldcmaaGreatDoorC5
import Derived.Test.YtjcldoejpldcmaaGreatDoorC6
namespace Go.Proofs.YtjcldoejpldcmaaGreatDoor
set_option maxRecDepth 100000
set_option maxHeartbeats 6400000
open Go.RowKit
theorem e_inOpen (e:Nat) (x:En) (y:Fr) (ok:x.fl.Ok) (hs:x.state=7\/x.state=8) (hl:x.out.length<=96000) (w0 w:World) (R:HP) (h:St w0 w (EnAt e x*R)) :
  Calls Tryz.prog 134 #[ptr e,.agg y.cells.toArray] w fun r w'=>r=.returned (.tuple #[])/\St w0 w' (EnAt e (x.inOpen y)*R):=by
 obtain⟨a1,a2,a3,k,pf,a6,a7,a8⟩:=y;have h2:=h.alloc (.cells (Fr.cells ⟨a1,a2,a3,k,pf,a6,a7,a8⟩).toArray TFr);clear h;unfold En.inOpen;simp only[];by_cases k4:k=4
 ·subst k4
  rw[if_pos rfl];have l1:=x.send_len 8 false pf;have l2:=(x.send 8 false pf).told_len 7 ⟨#[70]⟩;have l3:=((x.send 8 false pf).told 7 ⟨#[70]⟩).unsure_len;have ok3:=((x.send 8 false pf).told 7 ⟨#[70]⟩).unsure_ok ok;go_enter Tryz.func134,Tryz.ntmps134
  go_upto_region 1 with fail
  generalize w.alloc _=wa at *;generalize w.heap.size=ga at *;have d:=h2.cell;go_wp2_with fail
  refine (e_reply e x 8 ⟨a1,a2,a3,4,pf,a6,a7,a8⟩ ok (by omega) w0 _ _ h2.f2).mono ?_
  rintro r w1 ⟨rfl,h3⟩;clear d h2;go_wp2_with fail
  refine (e_told e (x.send 8 false pf) 7 ⟨#[70]⟩ (by omega) w0 _ _ h3).mono ?_
  rintro r w2 ⟨rfl,h4⟩;go_wp2_with fail
  refine (e_unsure e ((x.send 8 false pf).told 7 ⟨#[70]⟩) ok (by omega) w0 _ _ h4).mono ?_
  rintro r w3 ⟨rfl,h5⟩;go_wp2_with fail
  refine (e_open1 e ((x.send 8 false pf).told 7 ⟨#[70]⟩).unsure ok3 (by omega) w0 _ _ h5).mono ?_
  rintro r w9 ⟨rfl,h9⟩;go_wp2;first
   | (go_end0;exact⟨rfl,h9.f2.drop⟩)
   | (refine bodyPost_ret (v:=.tuple #[]) (by simp[results,go_sem]) rfl ?_;exact⟨rfl,h9.f2.drop⟩)
 rw[if_neg k4];have b4:(k == 4)=false:=by simpa using k4
 by_cases k7:k=7
 ·subst k7
  rw[if_pos rfl];have l1:=x.send_len 8 false pf;have l2:=(x.send 8 false pf).told_len 3 noStr;go_enter Tryz.func134,Tryz.ntmps134
  go_upto_region 1 with fail
  generalize w.alloc _=wa at *;generalize w.heap.size=ga at *;have d:=h2.cell;go_wp2_with fail
  refine (e_reply e x 8 ⟨a1,a2,a3,7,pf,a6,a7,a8⟩ ok (by omega) w0 _ _ h2.f2).mono ?_
  rintro r w1 ⟨rfl,h3⟩;clear d h2;go_wp2_with fail
  refine (e_told e (x.send 8 false pf) 3 noStr (by omega) w0 _ _ h3).mono ?_
  rintro r w2 ⟨rfl,h4⟩;go_wp2_with fail
  refine (e_end e ((x.send 8 false pf).told 3 noStr) ok (by omega) w0 _ _ h4).mono ?_
  rintro r w9 ⟨rfl,h9⟩;go_wp2;first
   | (go_end0;exact⟨rfl,h9.f2.drop⟩)
   | (refine bodyPost_ret (v:=.tuple #[]) (by simp[results,go_sem]) rfl ?_;exact⟨rfl,h9.f2.drop⟩)
 rw[if_neg k7];have b7:(k == 7)=false:=by simpa using k7
 by_cases k8:k=8
 ·subst k8
  rw[if_pos rfl];go_enter Tryz.func134,Tryz.ntmps134
  go_upto_region 1 with fail
  generalize w.alloc _=wa at *;generalize w.heap.size=ga at *;have d:=h2.cell;go_wp2_with fail
  refine (e_strange e x ⟨a1,a2,a3,8,pf,a6,a7,a8⟩ (by omega) w0 _ _ h2.f2).mono ?_
  rintro r w9 ⟨rfl,h9⟩;go_wp2;first
   | (go_end0;exact⟨rfl,h9.f2.drop⟩)
   | (refine bodyPost_ret (v:=.tuple #[]) (by simp[results,go_sem]) rfl ?_;exact⟨rfl,h9.f2.drop⟩)
 rw[if_neg k8];have b8:(k == 8)=false:=by simpa using k8
 by_cases k5:k=5
 ·subst k5
  rw[if_pos rfl];cases pf with
  | true =>
    rw[if_pos rfl];go_enter Tryz.func134,Tryz.ntmps134
    go_upto_region 1 with fail
    generalize w.alloc _=wa at *;generalize w.heap.size=ga at *;have d:=h2.cell;go_wp2_with fail
    refine (e_anew e x ⟨#[66]⟩ ok (by omega) w0 _ _ h2.f2).mono ?_
    rintro r w9 ⟨rfl,h9⟩;go_wp2;first
     | (go_end0;exact⟨rfl,h9.f2.drop⟩)
     | (refine bodyPost_ret (v:=.tuple #[]) (by simp[results,go_sem]) rfl ?_;exact⟨rfl,h9.f2.drop⟩)
  | false =>
    rw[if_neg (by simp)];go_enter Tryz.func134,Tryz.ntmps134
    go_upto_region 1 with fail
    generalize w.alloc _=wa at *;generalize w.heap.size=ga at *;have d:=h2.cell;go_wp2_with fail
    refine (e_anew e x ⟨#[69]⟩ ok (by omega) w0 _ _ h2.f2).mono ?_
    rintro r w9 ⟨rfl,h9⟩;go_wp2;first
     | (go_end0;exact⟨rfl,h9.f2.drop⟩)
     | (refine bodyPost_ret (v:=.tuple #[]) (by simp[results,go_sem]) rfl ?_;exact⟨rfl,h9.f2.drop⟩)
 rw[if_neg k5];have b5:(k == 5)=false:=by simpa using k5
 by_cases k9:k=9
 ·subst k9
  rw[if_pos rfl];go_enter Tryz.func134,Tryz.ntmps134
  go_upto_region 1 with fail
  generalize w.alloc _=wa at *;generalize w.heap.size=ga at *;have d:=h2.cell;go_wp2_with fail
  refine (e_anew e x ⟨#[75]⟩ ok (by omega) w0 _ _ h2.f2).mono ?_
  rintro r w9 ⟨rfl,h9⟩;go_wp2;first
   | (go_end0;exact⟨rfl,h9.f2.drop⟩)
   | (refine bodyPost_ret (v:=.tuple #[]) (by simp[results,go_sem]) rfl ?_;exact⟨rfl,h9.f2.drop⟩)
 rw[if_neg k9];have b9:(k == 9)=false:=by simpa using k9
 by_cases k0:k=0
 ·subst k0
  rw[if_pos rfl];go_enter Tryz.func134,Tryz.ntmps134
  go_upto_region 1 with fail
  generalize w.alloc _=wa at *;generalize w.heap.size=ga at *;have d:=h2.cell;go_wp2_with fail
  refine (e_info e x ⟨a1,a2,a3,0,pf,a6,a7,a8⟩ ok (by omega) w0 _ _ h2.f2).mono ?_
  rintro r w9 ⟨rfl,h9⟩;go_wp2;first
   | (go_end0;exact⟨rfl,h9.f2.drop⟩)
   | (refine bodyPost_ret (v:=.tuple #[]) (by simp[results,go_sem]) rfl ?_;exact⟨rfl,h9.f2.drop⟩)
 rw[if_neg k0];have b0:(k == 0)=false:=by simpa using k0
 go_enter Tryz.func134,Tryz.ntmps134
 go_upto_region 1 with fail
 generalize w.alloc _=wa at *;generalize w.heap.size=ga at *;have d:=h2.cell;go_wp2_with fail
 refine (e_supervised e x ⟨a1,a2,a3,k,pf,a6,a7,a8⟩ ok hs (by omega) w0 _ _ h2.f2).mono ?_
 rintro r w9 ⟨rfl,h9⟩;go_wp2;first
  | (go_end0;exact⟨rfl,h9.f2.drop⟩)
  | (refine bodyPost_ret (v:=.tuple #[]) (by simp[results,go_sem]) rfl ?_;exact⟨rfl,h9.f2.drop⟩)
theorem e_frame (e:Nat) (x:En) (y:Fr) (ok:x.fl.Ok) (hs:0<=x.tei->4<=x.state/\x.state<=8) (hl:x.out.length<=95000) (w0 w:World) (R:HP) (hN:NamesAt w) (h:St w0 w (EnAt e x*R)) :
  Calls Tryz.prog 71 #[ptr e,.agg y.cells.toArray] w fun r w'=>∃ v,r=.returned v/\St w0 w' (LAt TFx 11 Fx.cells v (x.frame y).2*(EnAt e (x.frame y).1*R)):=by
 obtain⟨a1,a2,cmd,k,pf,a6,a7,inf⟩:=y;have h2:=h.alloc (.cells (Fr.cells ⟨a1,a2,cmd,k,pf,a6,a7,inf⟩).toArray TFr);have hN2:NamesAt (w.alloc (.cells (Fr.cells ⟨a1,a2,cmd,k,pf,a6,a7,inf⟩).toArray TFr)):=hN.old ((Below.refl w.heap.size w).alloc (Nat.le_refl _) _) hN.pos;clear h hN;unfold En.frame;simp only[];by_cases ht:x.tei<0
 ·rw[if_pos (.inl ht)]
  have bt:decide (x.tei<0)=true:=by simpa using ht
  go_enter Tryz.func71,Tryz.ntmps71
  go_upto_region 1 with fail
  generalize w.alloc _=wa at *;generalize w.heap.size=ga at *;have c2:=h2.f2.e_c2;go_wp2;go_ret
  exact⟨_,rfl,h2.drop.l_nil _ _ _⟩
 have bt:decide (x.tei<0)=false:=by simpa using ht
 have hs':=hs (by omega);have hmay:=k_may k cmd;cases hm:mayK k cmd with
 | false =>
   rw[if_pos (.inr (.inl rfl))];rw[hm] at hmay;go_enter Tryz.func71,Tryz.ntmps71
   go_upto_region 1 with fail
   generalize w.alloc _=wa at *;generalize w.heap.size=ga at *;have c2:=h2.f2.e_c2;have d:=h2.cell;go_wp2_with fail
   refine (hmay wa).mono ?_
   rintro r w1 ⟨rfl,rfl⟩;go_wp2;go_ret
   exact⟨_,rfl,h2.drop.l_nil _ _ _⟩
 | true =>
   rw[hm] at hmay;have hcar:=k_carries k (inf.size:Int) _ hN2;cases hc:carries k (inf.size:Int) with
   | false =>
     rw[if_pos (.inr (.inr rfl))];rw[hc] at hcar;go_enter Tryz.func71,Tryz.ntmps71
     go_upto_region 1 with fail
     generalize w.alloc _=wa at *;generalize w.heap.size=ga at *;have c2:=h2.f2.e_c2;have d:=h2.cell;go_wp2_with fail
     refine (hmay wa).mono ?_
     rintro r w1 ⟨rfl,rfl⟩;go_wp2_with fail
     refine hcar.mono ?_
     rintro r w2 ⟨rfl,rfl⟩;go_wp2;go_ret
     exact⟨_,rfl,h2.drop.l_nil _ _ _⟩
   | true =>
     rw[if_neg (by simp;omega)];rw[hc] at hcar;clear hm hc;by_cases k6:k=6
     ·subst k6
      rw[if_pos rfl];go_enter Tryz.func71,Tryz.ntmps71
      go_upto_region 1 with fail
      generalize w.alloc _=wa at *;generalize w.heap.size=ga at *;have c2:=h2.f2.e_c2;have c1:=h2.f2.e_c1;have d:=h2.cell;go_wp2_with fail
      refine (hmay wa).mono ?_
      rintro r w1 ⟨rfl,rfl⟩;go_wp2_with fail
      refine hcar.mono ?_
      rintro r w2 ⟨rfl,rfl⟩;go_wp2_with fail
      refine (e_told e x 6 inf (by omega) w0 _ _ h2.f2).mono ?_
      rintro r w3 ⟨rfl,h3⟩;go_wp2_with fail
      refine (e_done e _ w0 _ _ h3).mono ?_
      rintro r w4 ⟨v,rfl,h4⟩;clear d c1 c2 h2;go_wp2;go_ret
      exact⟨v,rfl,h4.f3.drop⟩
     rw[if_neg k6];have b6:(k == 6)=false:=by simpa using k6
     by_cases s4:x.state=4
     ·rw[if_pos s4]
      go_enter Tryz.func71,Tryz.ntmps71
      go_upto_region 1 with fail
      generalize w.alloc _=wa at *;generalize w.heap.size=ga at *;have c2:=h2.f2.e_c2;have c1:=h2.f2.e_c1;rw[s4] at c1;have d:=h2.cell;go_wp2_with fail
      refine (hmay wa).mono ?_
      rintro r w1 ⟨rfl,rfl⟩;go_wp2_with fail
      refine hcar.mono ?_
      rintro r w2 ⟨rfl,rfl⟩;clear s4;go_wp2_with fail
      refine (e_inAssigned e x ⟨a1,a2,cmd,k,pf,a6,a7,inf⟩ ok (by omega) w0 _ _ h2.f2).mono ?_
      rintro r w3 ⟨rfl,h3⟩;go_wp2_with fail
      refine (e_done e _ w0 _ _ h3).mono ?_
      rintro r w4 ⟨v,rfl,h4⟩;clear d c1 c2 h2;go_wp2;go_ret
      exact⟨v,rfl,h4.f3.drop⟩
     rw[if_neg s4];by_cases s5:x.state=5
     ·rw[if_pos s5]
      go_enter Tryz.func71,Tryz.ntmps71
      go_upto_region 1 with fail
      generalize w.alloc _=wa at *;generalize w.heap.size=ga at *;have c2:=h2.f2.e_c2;have c1:=h2.f2.e_c1;rw[s5] at c1;have d:=h2.cell;go_wp2_with fail
      refine (hmay wa).mono ?_
      rintro r w1 ⟨rfl,rfl⟩;go_wp2_with fail
      refine hcar.mono ?_
      rintro r w2 ⟨rfl,rfl⟩;clear s5;go_wp2_with fail
      refine (e_inConnecting e x ⟨a1,a2,cmd,k,pf,a6,a7,inf⟩ ok (by omega) w0 _ _ h2.f2).mono ?_
      rintro r w3 ⟨rfl,h3⟩;go_wp2_with fail
      refine (e_done e _ w0 _ _ h3).mono ?_
      rintro r w4 ⟨v,rfl,h4⟩;clear d c1 c2 h2;go_wp2;go_ret
      exact⟨v,rfl,h4.f3.drop⟩
     rw[if_neg s5];by_cases s6:x.state=6
     ·rw[if_pos s6]
      go_enter Tryz.func71,Tryz.ntmps71
      go_upto_region 1 with fail
      generalize w.alloc _=wa at *;generalize w.heap.size=ga at *;have c2:=h2.f2.e_c2;have c1:=h2.f2.e_c1;rw[s6] at c1;have d:=h2.cell;go_wp2_with fail
      refine (hmay wa).mono ?_
      rintro r w1 ⟨rfl,rfl⟩;go_wp2_with fail
      refine hcar.mono ?_
      rintro r w2 ⟨rfl,rfl⟩;clear s6;go_wp2_with fail
      refine (e_inReleasing e x ⟨a1,a2,cmd,k,pf,a6,a7,inf⟩ ok (by omega) w0 _ _ h2.f2).mono ?_
      rintro r w3 ⟨rfl,h3⟩;go_wp2_with fail
      refine (e_done e _ w0 _ _ h3).mono ?_
      rintro r w4 ⟨v,rfl,h4⟩;clear d c1 c2 h2;go_wp2;go_ret
      exact⟨v,rfl,h4.f3.drop⟩
     rw[if_neg s6];have n4:(x.state == 4)=false:=by simpa using s4
     have n5:(x.state == 5)=false:=by simpa using s5
     have n6:(x.state == 6)=false:=by simpa using s6
     go_enter Tryz.func71,Tryz.ntmps71
     go_upto_region 1 with fail
     generalize w.alloc _=wa at *;generalize w.heap.size=ga at *;have c2:=h2.f2.e_c2;have c1:=h2.f2.e_c1;have d:=h2.cell;go_wp2_with fail
     refine (hmay wa).mono ?_
     rintro r w1 ⟨rfl,rfl⟩;go_wp2_with fail
     refine hcar.mono ?_
     rintro r w2 ⟨rfl,rfl⟩;go_wp2_with fail
     refine (e_inOpen e x ⟨a1,a2,cmd,k,pf,a6,a7,inf⟩ ok (by omega) (by omega) w0 _ _ h2.f2).mono ?_
     rintro r w3 ⟨rfl,h3⟩;go_wp2_with fail
     refine (e_done e _ w0 _ _ h3).mono ?_
     rintro r w4 ⟨v,rfl,h4⟩;clear d c1 c2 h2;go_wp2;go_ret
     exact⟨v,rfl,h4.f3.drop⟩
theorem e_timeout (e:Nat) (x:En) (t:Int) (ok:x.fl.Ok) (ht0:t=200\/t=203\/x.runs t=false) (hk:kInt.ok t) (htr:0<=x.tries/\x.tries<=1000) (hl:x.out.length<=95000) (w0 w:World) (R:HP) (h:St w0 w (EnAt e x*R)) :
  Calls Tryz.prog 44 #[ptr e,.int .i64 t] w fun r w'=>∃ v,r=.returned v/\St w0 w' (LAt TFx 11 Fx.cells v (x.timeout t).2*(EnAt e (x.timeout t).1*R)):=by
 obtain⟨rm,fp,uv,ov,rl,hr,h1⟩:=h.e_open;have c:=h1.cell;have f:=h1.free;have hb:=h1.f3.bm t hk;rw[hr t] at hb;unfold En.timeout;cases hx:x.runs t with
 | false =>
   rw[hx] at hb;rw[if_pos rfl];clear hx;go_enter Tryz.func44,Tryz.ntmps44
   go_wp2;go_ret
   exact⟨_,rfl,h.l_nil _ _ _⟩
 | true =>
   have ht:t=200\/t=203:=by
    rcases ht0 with h' | h' | h'
    ·exact .inl h'
    ·exact .inr h'
    ·rw[hx] at h';cases h'
   rw[hx] at hb;rw[if_neg (by simp)];clear hx ht0;simp only[];by_cases s5:x.state=5
   ·rw[if_pos s5]
    go_enter Tryz.func44,Tryz.ntmps44
    go_upto_region 4 with (at_mapUpdate;refine wp_mput rfl (.tmp 19) (.tmp 20) (.const (Value.bool false)) 192 rfl tyBM h1.f3 rfl t rfl hk false rfl ?_;intro w5 h4)
    have h5:St w0 w5 (EnAt e (x.setT t false)*R):=h4.b3.e_shut (x.setT_cells t false rm fp uv ov).symm (x.setT_out t false).symm (fun u=>by rw[bOf_put,x.setT_runs ht,hr]) (x.setT_fl t false).symm (by rw[x.setT_units]) (by rw[x.setT_units]);clear h4 h1 h c f hb;have ok0:(x.setT t false).fl.Ok:=by rw[En.setT_fl];exact ok
    have lo0:(x.setT t false).out.length<=95000:=by rw[En.setT_out];exact hl
    have st0:(x.setT t false).state=x.state:=x.setT_state t false;have tr0:(x.setT t false).tries=x.tries:=x.setT_tries t false;have mo0:(x.setT t false).most=x.most:=x.setT_most t false;generalize hx0:x.setT t false=x0 at *;have HX:=Lib.hid hx0;clear hx0;have c1:=h5.e_c1;rw[st0,s5] at c1;clear s5 st0;go_wp2_with fail
    refine (e_again e x0 4 ⟨#[71]⟩ 3 ok0 (by rw[tr0];exact htr) (by omega) w0 _ R h5).mono ?_
    rintro r w6 ⟨rfl,h6⟩;clear c1 h5;go_wp2_with fail
    refine (e_done e _ w0 _ _ h6).mono ?_
    rintro r w7 ⟨v,rfl,h7⟩;go_wp2;go_ret
    exact⟨v,rfl,by rw[HX.out];exact h7⟩
   rw[if_neg s5];by_cases s6:x.state=6
   ·rw[if_pos s6]
    go_enter Tryz.func44,Tryz.ntmps44
    go_upto_region 4 with (at_mapUpdate;refine wp_mput rfl (.tmp 19) (.tmp 20) (.const (Value.bool false)) 192 rfl tyBM h1.f3 rfl t rfl hk false rfl ?_;intro w5 h4)
    have h5:St w0 w5 (EnAt e (x.setT t false)*R):=h4.b3.e_shut (x.setT_cells t false rm fp uv ov).symm (x.setT_out t false).symm (fun u=>by rw[bOf_put,x.setT_runs ht,hr]) (x.setT_fl t false).symm (by rw[x.setT_units]) (by rw[x.setT_units]);clear h4 h1 h c f hb;have ok0:(x.setT t false).fl.Ok:=by rw[En.setT_fl];exact ok
    have lo0:(x.setT t false).out.length<=95000:=by rw[En.setT_out];exact hl
    have st0:(x.setT t false).state=x.state:=x.setT_state t false;have tr0:(x.setT t false).tries=x.tries:=x.setT_tries t false;have mo0:(x.setT t false).most=x.most:=x.setT_most t false;generalize hx0:x.setT t false=x0 at *;have HX:=Lib.hid hx0;clear hx0;have c1:=h5.e_c1;rw[st0,s6] at c1;clear s6 st0;go_wp2_with fail
    refine (e_again e x0 7 ⟨#[72]⟩ 4 ok0 (by rw[tr0];exact htr) (by omega) w0 _ R h5).mono ?_
    rintro r w6 ⟨rfl,h6⟩;clear c1 h5;go_wp2_with fail
    refine (e_done e _ w0 _ _ h6).mono ?_
    rintro r w7 ⟨v,rfl,h7⟩;go_wp2;go_ret
    exact⟨v,rfl,by rw[HX.out];exact h7⟩
   rw[if_neg s6];by_cases s7:x.state=7
   ·rw[if_pos s7]
    go_enter Tryz.func44,Tryz.ntmps44
    go_upto_region 4 with (at_mapUpdate;refine wp_mput rfl (.tmp 19) (.tmp 20) (.const (Value.bool false)) 192 rfl tyBM h1.f3 rfl t rfl hk false rfl ?_;intro w5 h4)
    have h5:St w0 w5 (EnAt e (x.setT t false)*R):=h4.b3.e_shut (x.setT_cells t false rm fp uv ov).symm (x.setT_out t false).symm (fun u=>by rw[bOf_put,x.setT_runs ht,hr]) (x.setT_fl t false).symm (by rw[x.setT_units]) (by rw[x.setT_units]);clear h4 h1 h c f hb;have ok0:(x.setT t false).fl.Ok:=by rw[En.setT_fl];exact ok
    have lo0:(x.setT t false).out.length<=95000:=by rw[En.setT_out];exact hl
    have st0:(x.setT t false).state=x.state:=x.setT_state t false;have tr0:(x.setT t false).tries=x.tries:=x.setT_tries t false;have mo0:(x.setT t false).most=x.most:=x.setT_most t false;generalize hx0:x.setT t false=x0 at *;have HX:=Lib.hid hx0;clear hx0;have c1:=h5.e_c1;rw[st0,s7] at c1;clear s7 st0;have f5:=h5.e_fr;have c3:=h5.e_c3;have h8:=h5.e_set_tries 0;go_wp2_with fail
    refine (e_inquire e (x0.setTries 0) ok0 (show x0.out.length<=99990 by omega) w0 _ R h8).mono ?_
    rintro r w6 ⟨rfl,h9⟩;clear c1 h5 f5 c3 h8;have f9:=h9.e_fr;have c9:=h9.e_c1;have h6:=h9.e_set_state 8;go_wp2_with fail
    refine (e_done e _ w0 _ _ h6).mono ?_
    rintro r w7 ⟨v,rfl,h7⟩;go_wp2;go_ret
    exact⟨v,rfl,by rw[HX.out];exact h7⟩
   rw[if_neg s7];by_cases s8:x.state=8
   ·rw[if_pos s8]
    by_cases hm:x.tries=x.most
    ·rw[if_pos hm]
     go_enter Tryz.func44,Tryz.ntmps44
     go_upto_region 4 with (at_mapUpdate;refine wp_mput rfl (.tmp 19) (.tmp 20) (.const (Value.bool false)) 192 rfl tyBM h1.f3 rfl t rfl hk false rfl ?_;intro w5 h4)
     have h5:St w0 w5 (EnAt e (x.setT t false)*R):=h4.b3.e_shut (x.setT_cells t false rm fp uv ov).symm (x.setT_out t false).symm (fun u=>by rw[bOf_put,x.setT_runs ht,hr]) (x.setT_fl t false).symm (by rw[x.setT_units]) (by rw[x.setT_units]);clear h4 h1 h c f hb;have ok0:(x.setT t false).fl.Ok:=by rw[En.setT_fl];exact ok
     have lo0:(x.setT t false).out.length<=95000:=by rw[En.setT_out];exact hl
     have st0:(x.setT t false).state=x.state:=x.setT_state t false;have tr0:(x.setT t false).tries=x.tries:=x.setT_tries t false;have mo0:(x.setT t false).most=x.most:=x.setT_most t false;generalize hx0:x.setT t false=x0 at *;have HX:=Lib.hid hx0;clear hx0;have c1:=h5.e_c1;rw[st0,s8] at c1;clear s8 st0;have c3:=h5.e_c3;have c0:=h5.e_c0;have b:(x0.tries == x0.most)=true:=by rw[tr0,mo0];simpa using hm
     clear hm tr0 mo0 htr;have H5:=Lib.hid h5;clear h5;go_upto_region 14 with fail
     go_quiet (fail)
     go_wp2_with fail
     refine (e_anew e x0 ⟨#[73]⟩ ok0 (by omega) w0 _ R (H5.out.drewN _)).mono ?_
     rintro r w6 ⟨rfl,h6⟩;clear c1 H5 c3 c0 b;go_wp2_with fail
     refine (e_done e _ w0 _ _ h6).mono ?_
     rintro r w7 ⟨v,rfl,h7⟩;go_wp2;go_ret
     exact⟨v,rfl,by rw[HX.out];exact h7⟩
    ·rw[if_neg hm]
     go_enter Tryz.func44,Tryz.ntmps44
     go_upto_region 4 with (at_mapUpdate;refine wp_mput rfl (.tmp 19) (.tmp 20) (.const (Value.bool false)) 192 rfl tyBM h1.f3 rfl t rfl hk false rfl ?_;intro w5 h4)
     have h5:St w0 w5 (EnAt e (x.setT t false)*R):=h4.b3.e_shut (x.setT_cells t false rm fp uv ov).symm (x.setT_out t false).symm (fun u=>by rw[bOf_put,x.setT_runs ht,hr]) (x.setT_fl t false).symm (by rw[x.setT_units]) (by rw[x.setT_units]);clear h4 h1 h c f hb;have ok0:(x.setT t false).fl.Ok:=by rw[En.setT_fl];exact ok
     have lo0:(x.setT t false).out.length<=95000:=by rw[En.setT_out];exact hl
     have st0:(x.setT t false).state=x.state:=x.setT_state t false;have tr0:(x.setT t false).tries=x.tries:=x.setT_tries t false;have mo0:(x.setT t false).most=x.most:=x.setT_most t false;generalize hx0:x.setT t false=x0 at *;have HX:=Lib.hid hx0;clear hx0;have c1:=h5.e_c1;rw[st0,s8] at c1;clear s8 st0;have c3:=h5.e_c3;rw[tr0] at c3;have c0:=h5.e_c0;rw[mo0] at c0;have b:(x.tries == x.most)=false:=by simpa using hm
     have f5:=h5.e_fr;have hw:IntKind.i64.wrap (x.tries+1)=x.tries+1:=by rw[IntKind.wrap_i64];omega
     clear hm tr0 mo0 htr;have H5:=Lib.hid h5;clear h5;go_upto_region 14 with fail
     go_quiet (fail)
     go_wp2_with fail
     refine (e_inquire e (x0.setTries (x.tries+1)) ok0 (show x0.out.length<=99990 by omega) w0 _ R ((H5.out.drewN _).e_set_tries (x.tries+1))).mono ?_
     rintro r w6 ⟨rfl,h6⟩;clear c1 H5 c3 c0 b f5;go_wp2_with fail
     refine (e_done e _ w0 _ _ h6).mono ?_
     rintro r w7 ⟨v,rfl,h7⟩;go_wp2;go_ret
     exact⟨v,rfl,by rw[HX.out];exact h7⟩
   rw[if_neg s8];have n5:(x.state == 5)=false:=by simpa using s5
   have n6:(x.state == 6)=false:=by simpa using s6
   have n7:(x.state == 7)=false:=by simpa using s7
   have n8:(x.state == 8)=false:=by simpa using s8
   go_enter Tryz.func44,Tryz.ntmps44
   go_upto_region 4 with (at_mapUpdate;refine wp_mput rfl (.tmp 19) (.tmp 20) (.const (Value.bool false)) 192 rfl tyBM h1.f3 rfl t rfl hk false rfl ?_;intro w5 h4)
   have h5:St w0 w5 (EnAt e (x.setT t false)*R):=h4.b3.e_shut (x.setT_cells t false rm fp uv ov).symm (x.setT_out t false).symm (fun u=>by rw[bOf_put,x.setT_runs ht,hr]) (x.setT_fl t false).symm (by rw[x.setT_units]) (by rw[x.setT_units]);clear h4 h1 h c f hb;have ok0:(x.setT t false).fl.Ok:=by rw[En.setT_fl];exact ok
   have lo0:(x.setT t false).out.length<=95000:=by rw[En.setT_out];exact hl
   have st0:(x.setT t false).state=x.state:=x.setT_state t false;have tr0:(x.setT t false).tries=x.tries:=x.setT_tries t false;have mo0:(x.setT t false).most=x.most:=x.setT_most t false;generalize hx0:x.setT t false=x0 at *;have HX:=Lib.hid hx0;clear hx0;have c1:=h5.e_c1;rw[st0] at c1;clear st0 tr0 mo0;have h6:=h5;go_wp2_with fail
   refine (e_done e _ w0 _ _ h6).mono ?_
   rintro r w7 ⟨v,rfl,h7⟩;go_wp2;go_ret
   exact⟨v,rfl,by rw[HX.out];exact h7⟩
theorem unit_len (x:En) (s:ByteArray):(x.unit s).1.out.length<=x.out.length+1:=by
 unfold En.unit;split
 ·exact Nat.le_of_eq (x.sendD_len 6 true false 0 s)
 ·split
  ·simp
  ·split
   ·exact Nat.le_of_eq (En.told_len ((x.setUnits (x.units++[s])).setState 2) 8 noStr)
   ·exact Nat.le_succ _
theorem unit_fl (x:En) (s:ByteArray):(x.unit s).1.fl=x.fl:=by
 unfold En.unit;split
 ·rfl
 ·split
  ·rfl
  ·split <;> rfl
def En.unitsK (x:En) (l:List ByteArray):En:=l.foldl (fun y s=>(y.unit s).1) x
theorem unitsK_len (l:List ByteArray):∀ x:En,(x.unitsK l).out.length<=x.out.length+l.length:=by
 induction l with
 | nil=>intro x;exact Nat.le_refl _
 | cons s l ih =>
   intro x;have h1:=ih (x.unit s).1;have h2:=unit_len x s;show ((x.unit s).1.unitsK l).out.length<=_
   simp only[List.length_cons];omega
theorem unitsK_fl (l:List ByteArray):∀ x:En,(x.unitsK l).fl=x.fl:=by
 induction l with
 | nil=>intro x;rfl
 | cons s l ih=>intro x;exact (ih (x.unit s).1).trans (unit_fl x s)
theorem unitsK_take (l:List ByteArray) (x:En) (i:Nat) (s:ByteArray) (h:l[i]?=some s):x.unitsK (l.take (i+1))=((x.unitsK (l.take i)).unit s).1:=by
 unfold En.unitsK;rw[List.take_add_one,List.foldl_append,h];rfl
theorem St.row_str {w0 w:World} {R:HP} {a:Option Addr} {n cap:Nat} {l:List ByteArray} (h:St w0 w (Row 9 1 (.slice a n cap) n (strs l)*R)) (i:Nat) (hi:i<n):∃ b off s,a=some ⟨b,off,none⟩/\l[i]?=some s/\w.cell? ⟨b,off+i,none⟩=some (.string s):=by
 have hl:=h.row_len;simp at hl
 rcases h.row with ⟨a0,_,h0,_⟩ | ⟨g,off,cap',cur,hv,h1,h2,h3,h4,hs⟩
 ·omega
 ·simp only[Value.slice.injEq] at hv
  obtain⟨rfl,_,rfl⟩:=hv;have hc:=h.row_cell i (by omega);have hli:l[i]?=some l[i]:=List.getElem?_eq_getElem (by omega);refine⟨g,off,l[i]'(by omega),rfl,hli,?_⟩
  rw[hc];simp[strs,hli]
theorem e_assign (e:Nat) (x:En) (t:Int) (ok:x.fl.Ok) (hu:x.units.length<=1000) (hl:x.out.length<=90000) (w0 w:World) (R:HP) (h:St w0 w (EnAt e x*R)) :
  Calls Tryz.prog 154 #[ptr e,.int .i64 t] w fun r w'=>∃ v,r=.returned (.tuple #[v,.int .i64 (x.assign t).2.2])/\St w0 w' (LAt TFx 11 Fx.cells v (x.assign t).2.1*(EnAt e (x.assign t).1*R)):=by
 have c1:=h.e_c1;unfold En.assign;by_cases ht:t<0\/126<t
 ·rw[if_pos ht]
  by_cases h0:t<0
  ·have b0:decide (t<0)=true:=by simpa using h0
   go_enter Tryz.func154,Tryz.ntmps154
   go_wp2;go_ret2
   exact⟨_,rfl,h.l_nil _ _ _⟩
  ·have b0:decide (t<0)=false:=by simpa using h0
   have b1:decide (t > 126)=true:=by simp;omega
   go_enter Tryz.func154,Tryz.ntmps154
   go_wp2;go_ret2
   exact⟨_,rfl,h.l_nil _ _ _⟩
 rw[if_neg ht];have b0:decide (t<0)=false:=by simp;omega
 have b1:decide (t > 126)=false:=by simp;omega
 by_cases h4:4<=x.state
 ·rw[if_pos h4]
  have b4:decide (x.state ≥ 4)=true:=by simpa using h4
  go_enter Tryz.func154,Tryz.ntmps154
  go_wp2;go_ret2
  exact⟨_,rfl,h.l_nil _ _ _⟩
 rw[if_neg h4];have b4:decide (x.state ≥ 4)=false:=by simpa using h4
 clear c1 ht h4;obtain⟨z,hz⟩:∃ z,(let y:=x.units.foldl (fun y s=>(y.unit s).1) (((x.setTei t).setState 4).setUnits []);if x.state=3 then (y.setAsked true).call else y)=z:=⟨_,rfl⟩;have goal:∀ (P:En × List Fx × Int->Prop),P (z.done,z.out,0)->P (let y:=x.units.foldl (fun y s=>(y.unit s).1) (((x.setTei t).setState 4).setUnits []);let z:=if x.state=3 then (y.setAsked true).call else y;(z.done,z.out,0)):=fun P hP=>by rw[← hz] at hP;exact hP
 refine goal (fun q=>Calls Tryz.prog 154 #[ptr e,.int .i64 t] w fun r w'=>∃ v,r=.returned (.tuple #[v,.int .i64 q.2.2])/\St w0 w' (LAt TFx 11 Fx.cells v q.2.1*(EnAt e q.1*R))) ?_
 clear goal;simp only[] at hz;have HZ:=Lib.hid hz;clear hz;obtain⟨rm,fp,uv,ov,rl,hr,h1⟩:=h.e_open;have c:=h1.cell;have f:=h1.free;obtain⟨n,hn⟩:∃ n,x.units.length=n:=⟨_,rfl⟩;have sh:=h1.f5.row_shape;rw[hn] at sh h1;obtain⟨ua,uc,rfl,un,um⟩:=sh;have hn9:n<=1000:=by omega
 have hN9:(n:Int)<9223372036854775807:=by omega
 have H:=Lib.hid h1;have HNn:=Lib.hid hn;clear h1 h hu hn;go_enter Tryz.func154,Tryz.ntmps154
 go_upto_region 7 with fail
 go_quiet (fail)
 go_upto_region 8 with fail
 have h2:=(((H.out.drewN nq).set 2 (.int .i64 t)).set 1 (.int .i64 4)).set 6 (.slice none 0 0);have h3:=h2.row_nil 9 1;have h4:=h3.eq (show _=blk e _*(LAt TFx 11 Fx.cells ov x.out*(MAt kInt vBool rm rl*(FAt TF TQ fp x.fl*(Row 9 1 (.slice none 0 0) 0 []*(Row 9 1 (.slice ua n uc) n (strs x.units)*R))))) by ac_rfl);have h5:=h4.e_shut (x:=((x.setTei t).setState 4).setUnits []) rfl rfl hr rfl rfl rfl;clear h2 h3 h4;go_upto_region 9 with fail
 generalize (((w.drewN nq).setCell ⟨e,2,none⟩ (.int .i64 t)).setCell ⟨e,1,none⟩ (.int .i64 4)).setCell ⟨e,6,none⟩ (.slice none 0 0)=wq at *;clear c f H hr;have okq:(((x.setTei t).setState 4).setUnits []).fl.Ok:=ok;have hlq:(((x.setTei t).setState 4).setUnits []).out.length<=90000:=hl;have hz:=HZ.out;rw[show List.foldl (fun y s=>(y.unit s).1) (((x.setTei t).setState 4).setUnits []) x.units=(((x.setTei t).setState 4).setUnits []).unitsK x.units from rfl] at hz;clear HZ ok hl;generalize ((x.setTei t).setState 4).setUnits []=y0 at *;have hz0:(if x.state=3 then ((y0.unitsK x.units).setAsked true).call else y0.unitsK x.units)=z:=hz;have HZ:=Lib.hid hz0;clear hz hz0;go_wp2;go_loopw [46] (fun s46 wr=>∃ i:Nat,i<=n/\s46=.int .i64 i/\St w0 wr (EnAt e (y0.unitsK (x.units.take i))*(Row 9 1 (.slice ua n uc) n (strs x.units)*R))) (fun s46 _=>n - (intOf s46).toNat)
 case atStart=>exact⟨0,by omega,rfl,h5⟩
 case round =>
  clear h5;obtain⟨i,hi,rfl,h2⟩:=hrel;by_cases hlt:i<n
  ·obtain⟨b,off,s,rfl,hs,hc⟩:=h2.f2.row_str i hlt
   have l1:=unitsK_len (x.units.take i) y0;have okk:(y0.unitsK (x.units.take i)).fl.Ok:=by rw[unitsK_fl];exact okq
   have htk:(x.units.take i).length<=i:=by rw[List.length_take];omega
   have hstep:=unitsK_take x.units y0 i s hs;have HS:=Lib.hid hstep;clear hstep hs;have hlti:(i:Int)<(n:Int):=by omega
   go_wp2_with fail
   refine (e_unit e (y0.unitsK (x.units.take i)) s okk (by omega) w0 wr _ h2).mono ?_
   rintro r w1 ⟨rfl,h3⟩;rw[← HS.out] at h3;clear h2 hc;go_wp2;go_roundw
   case rel=>exact⟨i+1,by omega,by go_num,h3⟩
   case measure=>simp[intOf];omega
  ·obtain rfl:i=n:=by omega
   have e1:x.units.take i=x.units:=by rw[← HNn.out];exact List.take_length
   rw[e1] at h2;have l1:=unitsK_len x.units y0;rw[HNn.out] at l1;have okk:(y0.unitsK x.units).fl.Ok:=by rw[unitsK_fl];exact okq
   have lk:(y0.unitsK x.units).out.length<=91000:=by omega
   have hz:=HZ.out;clear HZ e1 l1;generalize y0.unitsK x.units=y1 at *;have f2:=h2.e_fr;by_cases s3:x.state=3
   ·rw[if_pos s3] at hz
    have b3:(x.state == 3)=true:=by simpa using s3
    subst hz;have c4:=h2.e_c4;have h3:=h2.e_set_asked true;go_wp2_with fail
    refine (e_call e (y1.setAsked true) okk (show y1.out.length<=99990 by omega) w0 _ _ h3).mono ?_
    rintro r w1 ⟨rfl,h6⟩;clear c4 f2 h2 h3;go_wp2_with fail
    refine (e_done e _ w0 _ _ h6).mono ?_
    rintro r w7 ⟨v,rfl,h7⟩;go_wp2;go_ret2
    exact⟨v,rfl,h7.f3.drop⟩
   ·rw[if_neg s3] at hz
    have b3:(x.state == 3)=false:=by simpa using s3
    subst hz;have h6:=h2;go_wp2_with fail
    refine (e_done e _ w0 _ _ h6).mono ?_
    rintro r w7 ⟨v,rfl,h7⟩;go_wp2;go_ret2
    exact⟨v,rfl,h7.f3.drop⟩
end Go.Proofs.YtjcldoejpldcmaaGreatDoor
