/- Parts of a proof (EntR, EntS, EntT). No condition. -/
import Derived.Test.YtjcldoejpldcmaaGreatDoorC5
namespace Go.Proofs.YtjcldoejpldcmaaGreatDoor
set_option maxRecDepth 100000
set_option maxHeartbeats 6400000
open Go.RowKit
def En.sup1 (x:En) (c p:Bool):En:=if c=true/\p=true then x.superv false true else if p=true/\x.state=7 then x.told 7 ⟨#[65]⟩ else x
def En.sup3 (x3:En) (f:Fr) (n b:Int):En :=
 if b≠0 then x3.anew ⟨#[74]⟩
 else if x3.state=8/\(f.cmd=true\/f.pf=false) then x3
 else if x3.state=7/\f.kind=1 then (x3.count n).goOn
 else
  let x4:=if f.kind≠2 then (x3.stop 200).start 203 else (if x3.state=7 then x3.stop 203 else x3).start 200
  let x5:=if x3.state=8\/f.kind=3 then x4.setFl x4.fl.back else x4
  (x5.setState 7).goOn
def En.sup2 (x:En) (f:Fr):En :=
 ((x.setFl (Fl.withPeer x.fl (f.kind == 2))).setFl ((Fl.withPeer x.fl (f.kind == 2)).ack f.nr).1).sup3 f ((Fl.withPeer x.fl (f.kind == 2)).ack f.nr).2.1 ((Fl.withPeer x.fl (f.kind == 2)).ack f.nr).2.2
theorem sup_eq (x:En) (f:Fr):x.supervised f=(x.sup1 f.cmd f.pf).sup2 f:=by
 unfold En.sup1;split
 ·rename_i h
  unfold En.supervised;simp only[];rw[if_pos h];rfl
 ·rename_i h
  split
  ·rename_i h2
   unfold En.supervised;simp only[];rw[if_neg h,if_pos h2];rfl
  ·rename_i h2
   unfold En.supervised;simp only[];rw[if_neg h,if_neg h2];rfl
theorem sup1_state (x:En) (c p:Bool):(x.sup1 c p).state=x.state:=by
 unfold En.sup1;split
 ·rfl
 ·split <;> rfl
theorem sup1_fl (x:En) (c p:Bool):(x.sup1 c p).fl=x.fl:=by
 unfold En.sup1;split
 ·rfl
 ·split <;> rfl
theorem sup1_len (x:En) (c p:Bool):(x.sup1 c p).out.length<=x.out.length+1:=by
 unfold En.sup1;split
 ·rw[En.superv_len];omega
 ·split
  ·rw[En.told_len];omega
  ·omega
theorem count_len (x:En) (n:Int):(x.count n).out.length<=x.out.length+2:=by
 unfold En.count;split
 ·have:=x.stop_len 200;rw[En.start_len];omega
 ·split
  ·rw[En.start_len];omega
  ·omega
theorem count_fl (x:En) (n:Int):(x.count n).fl=x.fl:=by
 unfold En.count;split
 ·exact (En.start_fl _ _).trans (En.stop_fl _ _)
 ·split
  ·exact En.start_fl _ _
  ·rfl
theorem St.e_fl2 {w0 w:World} {R:HP} {e:Nat} {x:En} (h:St w0 w (EnAt e x*R)):∃ fp R',w.cell? ⟨e,7,none⟩=some (ptr fp)/\St w0 w (FAt TF TQ fp x.fl*R')/\(∀ w' fl,St w0 w' (FAt TF TQ fp fl*R')->St w0 w' (EnAt e (x.setFl fl)*R))/\∀ w' fl,St w0 w' (FAt TF TQ fp fl*R')->w'.cell? ⟨e,7,none⟩=some (ptr fp):=by
 obtain⟨rm,fp,uv,ov,rl,hr,h1⟩:=h.e_open;exact⟨fp,_,h1.cell 7,h1.f4,fun w' fl h2=>h2.b4.e_shut (x:=x.setFl fl) rfl rfl hr rfl rfl rfl,fun w' fl h2=>h2.b4.cell 7⟩
theorem e_supervised (e:Nat) (x:En) (y:Fr) (ok:x.fl.Ok) (hs:x.state=7\/x.state=8) (hl:x.out.length<=97000) (w0 w:World) (R:HP) (h:St w0 w (EnAt e x*R)) :
  Calls Tryz.prog 214 #[ptr e,.agg y.cells.toArray] w fun r w'=>r=.returned (.tuple #[])/\St w0 w' (EnAt e (x.supervised y)*R):=by
 rw[sup_eq];obtain⟨a1,a2,cmd,k,pf,a6,nr,a8⟩:=y;have h2:=h.alloc (.cells (Fr.cells ⟨a1,a2,cmd,k,pf,a6,nr,a8⟩).toArray TFr);clear h;simp only[];have s1:=sup1_state x cmd pf;have s2:=sup1_fl x cmd pf;have s3:=sup1_len x cmd pf;obtain⟨x1,hx1⟩:∃ x1,x.sup1 cmd pf=x1:=⟨_,rfl⟩;rw[hx1] at s1 s2 s3 ⊢;have HX:=Lib.hid hx1;clear hx1;obtain⟨z,hz⟩:∃ z,x1.sup2 ⟨a1,a2,cmd,k,pf,a6,nr,a8⟩=z:=⟨_,rfl⟩;rw[hz];have HZ:=Lib.hid hz;clear hz;go_enter Tryz.func214,Tryz.ntmps214
 go_upto_region 1 with fail
 generalize w.alloc _=wa at *;generalize w.heap.size=ga at *;have d:=h2.cell;go_upto_region 1 with fail
 go_cut [4] (fun s4 wx=>s4=.bool (!cmd && pf)/\wx=wa)
 case first =>
  cases cmd <;> cases pf
  all_goals (
   go_wp2;go_meet
   exact⟨rfl,rfl⟩)
 case rest =>
  obtain⟨rfl,rfl⟩:=hcut;go_upto_block 0 with fail
  go_cut [] (fun wx=>St w0 wx (EnAt e x1*(blk ga (.cells #[.int .i64 a1,.int .i64 a2,.bool cmd,.int .i64 k,.bool pf,.int .i64 a6,.int .i64 nr,.string a8] TFr (0,0))*R)))
  case first =>
   have hx1:=HX.out;clear HX;unfold En.sup1 at hx1;have c1:=h2.f2.e_c1;cases cmd with
   | true =>
     cases pf with
     | true =>
       rw[if_pos ⟨rfl,rfl⟩] at hx1;subst hx1;go_wp2_with fail
       refine (e_superv e x false true ok (by omega) w0 _ _ h2.f2).mono ?_
       rintro r w1 ⟨rfl,h3⟩;clear d c1 h2;go_wp2;go_meet
       exact h3
     | false =>
       rw[if_neg (by simp),if_neg (by simp)] at hx1;subst hx1;go_wp2;go_meet
       exact h2.f2
   | false =>
     cases pf with
     | false =>
       rw[if_neg (by simp),if_neg (by simp)] at hx1;subst hx1;go_wp2;go_meet
       exact h2.f2
     | true =>
       rcases hs with s7 | s7
       ·rw[if_neg (by simp),if_pos ⟨rfl,s7⟩] at hx1
        rw[s7] at c1;clear s7 s1 s2 s3;subst hx1;go_wp2_with fail
        refine (e_told e x 7 ⟨#[65]⟩ (by omega) w0 _ _ h2.f2).mono ?_
        rintro r w1 ⟨rfl,h3⟩;clear d c1 h2;go_wp2;go_meet
        exact h3
       ·rw[if_neg (by simp),if_neg (by rw[s7];simp)] at hx1
        rw[s7] at c1;clear s7 s1 s2 s3;subst hx1;go_wp2;go_meet
        exact h2.f2
  case rest =>
   rw[← s1] at hs;rw[← s2] at ok;have hl1:x1.out.length<=97001:=by omega
   clear h2 d HX s1 s2 s3 hl;have hz:=HZ.out;clear HZ;unfold En.sup2 at hz;simp only[] at hz;have HZ:=Lib.hid hz;clear hz;obtain⟨fp,R',c7,hf,hb⟩:=hcut.e_fl;have d:=hcut.f2.cell;have hf2:=hf.drew;go_upto_region 6 with fail
   go_still_tail 7,(by kernel_rfl)
   change wpList _ _ _ _ _ wc.drew
   clear hcut hf c7 d;generalize wc.drew=wd at *;go_wp2_with fail
   refine (f_set_peer fp x1.fl (k == 2) w0 wd _ hf2).mono ?_
   rintro r w3 ⟨rfl,h4⟩;have h5:=hb _ _ h4;clear hb hf2 h4;obtain⟨fp,R',c7,hf,hb,hc⟩:=h5.e_fl2;have d6:w3.cell? ⟨ga,6,none⟩=some (.int .i64 nr):=h5.f2.cell 6;go_upto_region 7 with fail
   clear h5;have hk:=f_ack fp (Fl.withPeer x1.fl (k == 2)) nr w0 w3.drew _ hf.drew (ok.peer (k == 2));have okA:=(ok.peer (k == 2)).ack nr;have hz:=HZ.out;clear HZ;generalize (Fl.withPeer x1.fl (k == 2)).ack nr=A at *;obtain⟨fl3,n,b⟩:=A;simp only[] at hk okA hz;have hs':((x1.setFl (Fl.withPeer x1.fl (k == 2))).setFl fl3).state=7\/((x1.setFl (Fl.withPeer x1.fl (k == 2))).setFl fl3).state=8:=hs;have hl':((x1.setFl (Fl.withPeer x1.fl (k == 2))).setFl fl3).out.length<=97001:=hl1;have ok':((x1.setFl (Fl.withPeer x1.fl (k == 2))).setFl fl3).fl.Ok:=okA;have hb':=fun w' h=>hb w' fl3 h
   have hc':=fun w' h=>hc w' fl3 h
   clear hb hc hs hl1 okA ok hf;generalize (x1.setFl (Fl.withPeer x1.fl (k == 2))).setFl fl3=x3 at *;unfold En.sup3 at hz;simp only[] at hz;have HZ:=Lib.hid hz;clear hz;go_region_held3 (fun wx=>wx.cell? ⟨e,7,none⟩=some (ptr fp)/\wx.cell? ⟨ga,6,none⟩=some (.int .i64 nr)) (first | (with_reducible exact⟨c7,d6⟩) | (with_reducible exact⟨m0,m1⟩) | go_keep) (first | (go_at_call 279;with_reducible refine hk.mono ?_;rintro r w4 ⟨rfl,h6⟩;have h7:=hb' _ h6;have m0:=hc' _ h6;have m1:=(h7.f2.cell 6).trans (show _=some (Value.int .i64 nr) from rfl)))
   clear hb' hc' h6 hk m0 m1 c7 d6;have c1:=h7.e_c1;have d:=h7.f2.cell;by_cases hb:b=0
   ·subst hb
    have hz:=HZ.out;clear HZ;rw[if_neg (by simp)] at hz;by_cases hfin:x3.state=8/\(cmd=true\/pf=false)
    ·rw[if_pos hfin] at hz
     subst hz;obtain⟨s8,hfin⟩:=hfin;rw[s8] at c1;have hF:(!cmd && pf)=false:=by cases cmd <;> cases pf <;> simp_all
     rw[hF];go_wp2;refine bodyPost_ret (v:=.tuple #[]) (by simp[results,Tryz.results214,go_sem]) rfl ?_
     exact⟨rfl,(h7).f2.drop⟩
    rw[if_neg hfin] at hz;by_cases hrr:x3.state=7/\k=1
    ·rw[if_pos hrr] at hz
     subst hz;obtain⟨s7,rfl⟩:=hrr;rw[s7] at c1;have l1:=count_len x3 n;have okc:(x3.count n).fl.Ok:=by rw[count_fl];exact ok'
     go_wp2_with fail
     refine (e_count e x3 n ok' (by omega) w0 _ _ h7).mono ?_
     rintro r w5 ⟨rfl,h8⟩;clear d c1 h7;go_wp2_with fail
     refine (e_goOn e (x3.count n) okc (by omega) w0 _ _ h8).mono ?_
     rintro r w9 ⟨rfl,h9⟩;go_wp2;first
      | (go_end0;exact⟨rfl,h9.f2.drop⟩)
      | (refine bodyPost_ret (v:=.tuple #[]) (by simp[results,go_sem]) rfl ?_;exact⟨rfl,h9.f2.drop⟩)
    rw[if_neg hrr] at hz;rcases hs' with s7 | s8
    ·have k1:(k == 1)=false:=by simpa using fun h=>hrr ⟨s7,h⟩
     rw[s7] at c1;by_cases k2:k=2
     ·subst k2
      rw[if_neg (show ¬ ((2:Int)≠2) by simp),if_pos s7,if_neg (show ¬ (x3.state=8\/(2:Int)=3) by rw[s7];decide)] at hz;subst hz;have l1:=x3.stop_len 203;have l2:=(x3.stop 203).start_len 200;go_wp2_with fail
      refine (e_stop e x3 203 (.inr rfl) (by omega) w0 _ _ h7).mono ?_
      rintro r w5 ⟨rfl,h8⟩;clear d c1 h7;go_wp2_with fail
      refine (e_start e (x3.stop 203) 200 (.inl rfl) (by omega) w0 _ _ h8).mono ?_
      rintro r w6 ⟨rfl,h9⟩;have s9:((x3.stop 203).start 200).state=7:=by rw[En.start_state,En.stop_state,s7]
      have okz:((x3.stop 203).start 200).fl.Ok:=by rw[En.start_fl,En.stop_fl];exact ok'
      clear h8;have c2:=h9.e_c1;rw[s9] at c2;have d:=h9.f2.cell;have f9:=h9.e_fr;have h10:=h9.e_set_state 7;go_wp2_with fail
      refine (e_goOn e (((x3.stop 203).start 200).setState 7) okz (show ((x3.stop 203).start 200).out.length<=99000 by omega) w0 _ _ h10).mono ?_
      rintro r w9 ⟨rfl,h9⟩;go_wp2;first
       | (go_end0;exact⟨rfl,h9.f2.drop⟩)
       | (refine bodyPost_ret (v:=.tuple #[]) (by simp[results,go_sem]) rfl ?_;exact⟨rfl,h9.f2.drop⟩)
     ·rw[if_pos (show k≠2 from k2)] at hz
      have bk2:(k == 2)=false:=by simpa using k2
      have bk2n:(k != 2)=true:=by simpa using k2
      have l1:=x3.stop_len 200;have l2:=(x3.stop 200).start_len 203;go_wp2_with fail
      refine (e_stop e x3 200 (.inl rfl) (by omega) w0 _ _ h7).mono ?_
      rintro r w5 ⟨rfl,h8⟩;clear d c1 h7;go_wp2_with fail
      refine (e_start e (x3.stop 200) 203 (.inr rfl) (by omega) w0 _ _ h8).mono ?_
      rintro r w6 ⟨rfl,h9⟩;have s9:((x3.stop 200).start 203).state=7:=by rw[En.start_state,En.stop_state,s7]
      have okz:((x3.stop 200).start 203).fl.Ok:=by rw[En.start_fl,En.stop_fl];exact ok'
      clear h8;by_cases k3:k=3
      ·subst k3
       rw[if_pos (show x3.state=8\/(3:Int)=3 from .inr rfl)] at hz;obtain⟨fp,R',c7,hf,hb⟩:=h9.e_fl;have c2:=h9.e_c1;rw[s9] at c2;have d:=h9.f2.cell;have okb:=okz.back;have lz:((x3.stop 200).start 203).out.length<=98000:=by omega
       generalize hZ:(x3.stop 200).start 203=Z at *;clear hZ;subst hz;go_wp2_with fail
       refine (f_back fp (Z).fl w0 _ _ hf).mono ?_
       rintro r w7 ⟨rfl,h10⟩;have h11:=hb _ _ h10;have c3:=h11.e_c1;have f11:=h11.e_fr;have h12:=h11.e_set_state 7;clear hb hf h10 h9 c7 c2 d;go_wp2_with fail
       refine (e_goOn e (((Z).setFl (Z).fl.back).setState 7) okb (show (Z).out.length<=99000 by omega) w0 _ _ h12).mono ?_
       rintro r w9 ⟨rfl,h9⟩;go_wp2;first
        | (go_end0;exact⟨rfl,h9.f2.drop⟩)
        | (refine bodyPost_ret (v:=.tuple #[]) (by simp[results,go_sem]) rfl ?_;exact⟨rfl,h9.f2.drop⟩)
      ·rw[if_neg (show ¬ (x3.state=8\/k=3) by rw[s7];simpa using k3)] at hz
       have bk3:(k == 3)=false:=by simpa using k3
       subst hz;have c2:=h9.e_c1;rw[s9] at c2;have d:=h9.f2.cell;have f9:=h9.e_fr;have h10:=h9.e_set_state 7;go_wp2_with fail
       refine (e_goOn e (((x3.stop 200).start 203).setState 7) okz (show ((x3.stop 200).start 203).out.length<=99000 by omega) w0 _ _ h10).mono ?_
       rintro r w9 ⟨rfl,h9⟩;go_wp2;first
        | (go_end0;exact⟨rfl,h9.f2.drop⟩)
        | (refine bodyPost_ret (v:=.tuple #[]) (by simp[results,go_sem]) rfl ?_;exact⟨rfl,h9.f2.drop⟩)
    ·have nf:cmd=false/\pf=true:=by cases cmd <;> cases pf <;> simp_all
     obtain⟨rfl,rfl⟩:=nf;rw[s8] at c1;by_cases k2:k=2
     ·subst k2
      rw[if_neg (show ¬ ((2:Int)≠2) by simp),if_neg (show ¬ (x3.state=7) by rw[s8];decide),if_pos (show x3.state=8\/(2:Int)=3 from .inl s8)] at hz;have l2:=x3.start_len 200;go_wp2_with fail
      refine (e_start e x3 200 (.inl rfl) (by omega) w0 _ _ h7).mono ?_
      rintro r w6 ⟨rfl,h9⟩;have s9:(x3.start 200).state=8:=by rw[En.start_state,s8]
      have okz:(x3.start 200).fl.Ok:=by rw[En.start_fl];exact ok'
      clear d c1 h7;obtain⟨fp,R',c7,hf,hb⟩:=h9.e_fl;have c2:=h9.e_c1;rw[s9] at c2;have d:=h9.f2.cell;have okb:=okz.back;have lz:(x3.start 200).out.length<=98000:=by omega
      generalize hZ:x3.start 200=Z at *;clear hZ;subst hz;go_wp2_with fail
      refine (f_back fp (Z).fl w0 _ _ hf).mono ?_
      rintro r w7 ⟨rfl,h10⟩;have h11:=hb _ _ h10;have c3:=h11.e_c1;have f11:=h11.e_fr;have h12:=h11.e_set_state 7;clear hb hf h10 h9 c7 c2 d;go_wp2_with fail
      refine (e_goOn e (((Z).setFl (Z).fl.back).setState 7) okb (show (Z).out.length<=99000 by omega) w0 _ _ h12).mono ?_
      rintro r w9 ⟨rfl,h9⟩;go_wp2;first
       | (go_end0;exact⟨rfl,h9.f2.drop⟩)
       | (refine bodyPost_ret (v:=.tuple #[]) (by simp[results,go_sem]) rfl ?_;exact⟨rfl,h9.f2.drop⟩)
     ·rw[if_pos (show k≠2 from k2),if_pos (show x3.state=8\/k=3 from .inl s8)] at hz
      have bk2:(k == 2)=false:=by simpa using k2
      have bk2n:(k != 2)=true:=by simpa using k2
      have l1:=x3.stop_len 200;have l2:=(x3.stop 200).start_len 203;go_wp2_with fail
      refine (e_stop e x3 200 (.inl rfl) (by omega) w0 _ _ h7).mono ?_
      rintro r w5 ⟨rfl,h8⟩;clear d c1 h7;go_wp2_with fail
      refine (e_start e (x3.stop 200) 203 (.inr rfl) (by omega) w0 _ _ h8).mono ?_
      rintro r w6 ⟨rfl,h9⟩;have s9:((x3.stop 200).start 203).state=8:=by rw[En.start_state,En.stop_state,s8]
      have okz:((x3.stop 200).start 203).fl.Ok:=by rw[En.start_fl,En.stop_fl];exact ok'
      clear h8;obtain⟨fp,R',c7,hf,hb⟩:=h9.e_fl;have c2:=h9.e_c1;rw[s9] at c2;have d:=h9.f2.cell;have okb:=okz.back;have lz:((x3.stop 200).start 203).out.length<=98000:=by omega
      generalize hZ:(x3.stop 200).start 203=Z at *;clear hZ;subst hz;go_wp2_with fail
      refine (f_back fp (Z).fl w0 _ _ hf).mono ?_
      rintro r w7 ⟨rfl,h10⟩;have h11:=hb _ _ h10;have c3:=h11.e_c1;have f11:=h11.e_fr;have h12:=h11.e_set_state 7;clear hb hf h10 h9 c7 c2 d;go_wp2_with fail
      refine (e_goOn e (((Z).setFl (Z).fl.back).setState 7) okb (show (Z).out.length<=99000 by omega) w0 _ _ h12).mono ?_
      rintro r w9 ⟨rfl,h9⟩;go_wp2;first
       | (go_end0;exact⟨rfl,h9.f2.drop⟩)
       | (refine bodyPost_ret (v:=.tuple #[]) (by simp[results,go_sem]) rfl ?_;exact⟨rfl,h9.f2.drop⟩)
   ·have hz:=HZ.out
    clear HZ;rw[if_pos hb] at hz;subst hz;have bb:(b != 0)=true:=by simpa using hb
    go_wp2_with fail
    refine (e_anew e x3 ⟨#[74]⟩ ok' (by omega) w0 _ _ h7).mono ?_
    rintro r w5 ⟨rfl,h8⟩;go_wp2;refine bodyPost_ret (v:=.tuple #[]) (by simp[results,Tryz.results214,go_sem]) rfl ?_
    exact⟨rfl,(h8).f2.drop⟩
def En.inf1 (x0:En) (f:Fr) (g:Int):En :=
 if g=0 then (x0.told 5 f.info).superv false f.pf
 else if g=1 then x0.send 3 false f.pf
 else if f.pf=true then x0.superv false true else x0
def En.inf3 (x2:En) (n b:Int):En :=
 if b≠0 then x2.anew ⟨#[74]⟩
 else if x2.state=7 then (if x2.fl.peer=false then x2.count n else x2).goOn
 else x2
def En.inf2 (x1:En) (f:Fr):En:=(x1.setFl (x1.fl.ack f.nr).1).inf3 (x1.fl.ack f.nr).2.1 (x1.fl.ack f.nr).2.2
theorem inf1_state (x:En) (f:Fr) (g:Int):(x.inf1 f g).state=x.state:=by
 unfold En.inf1;split
 ·rfl
 ·split
  ·rfl
  ·split <;> rfl
theorem inf1_fl (x:En) (f:Fr) (g:Int):(x.inf1 f g).fl=x.fl:=by
 unfold En.inf1;split
 ·rfl
 ·split
  ·rfl
  ·split <;> rfl
theorem inf1_len (x:En) (f:Fr) (g:Int):(x.inf1 f g).out.length<=x.out.length+2:=by
 unfold En.inf1;split
 ·rw[En.superv_len,En.told_len];omega
 ·split
  ·rw[En.send_len];omega
  ·split
   ·rw[En.superv_len];omega
   ·omega
theorem info_eq (x:En) (f:Fr):x.info f=((x.setFl (x.fl.come f.ns).1).inf1 f (x.fl.come f.ns).2).inf2 f:=by
 have h:=inf1_state (x.setFl (x.fl.come f.ns).1) f (x.fl.come f.ns).2;have h2:((((x.setFl (x.fl.come f.ns).1).inf1 f (x.fl.come f.ns).2).setFl (((x.setFl (x.fl.come f.ns).1).inf1 f (x.fl.come f.ns).2).fl.ack f.nr).1).state=7)=(x.state=7):=congrArg (·=7) h;unfold En.inf2 En.inf3;unfold En.info;exact ite_congr rfl (fun _=>rfl) (fun _=>ite_congr h2.symm (fun _=>rfl) (fun _=>rfl))
theorem view_f3 (a b c g h:Int) (x y z:Bool) (w:World):(Instr.field 47 (.agg #[.int .i64 a,.int .i64 b,.int .i64 c,.bool x,.bool y,.bool z,.int .i64 g,.int .i64 h]) 3).run Tryz.prog w=.ok (.bool x) w:=by kernel_rfl
theorem e_info (e:Nat) (x:En) (y:Fr) (ok:x.fl.Ok) (hl:x.out.length<=97000) (w0 w:World) (R:HP) (h:St w0 w (EnAt e x*R)) :
  Calls Tryz.prog 213 #[ptr e,.agg y.cells.toArray] w fun r w'=>r=.returned (.tuple #[])/\St w0 w' (EnAt e (x.info y)*R):=by
 rw[info_eq];obtain⟨a1,a2,cmd,k,pf,ns,nr,inf⟩:=y;have h2:=h.alloc (.cells (Fr.cells ⟨a1,a2,cmd,k,pf,ns,nr,inf⟩).toArray TFr);clear h;simp only[];have hv3:=view_f3;obtain⟨z,hz⟩:∃ z,((x.setFl (x.fl.come ns).1).inf1 ⟨a1,a2,cmd,k,pf,ns,nr,inf⟩ (x.fl.come ns).2).inf2 ⟨a1,a2,cmd,k,pf,ns,nr,inf⟩=z:=⟨_,rfl⟩;rw[hz];have HZ:=Lib.hid hz;clear hz;go_enter Tryz.func213,Tryz.ntmps213
 go_upto_region 1 with fail
 generalize w.alloc _=wa at *;generalize w.heap.size=ga at *;obtain⟨fp,R',c7,hf,hb⟩:=h2.f2.e_fl;have d:=h2.cell;have hf2:=hf.drew;go_still_tail 6,(by kernel_rfl)
 change wpList _ _ _ _ _ wa.drew
 clear h2 hf c7 d;generalize wa.drew=wd at *;have hk:=f_come fp x.fl ns w0 wd _ hf2;have ok2:=ok.come ns;have hb':=fun w' h=>hb w' (x.fl.come ns).1 h
 have hz:=HZ.out;clear HZ hb hf2;generalize x.fl.come ns=c at *;obtain⟨fl0,g⟩:=c;simp only[] at hk ok2 hb' hz;have hl0:(x.setFl fl0).out.length<=97000:=hl;have ok0:(x.setFl fl0).fl.Ok:=ok2;clear hl ok ok2;generalize x.setFl fl0=x0 at *;have s1:=inf1_state x0 ⟨a1,a2,cmd,k,pf,ns,nr,inf⟩ g;have s2:=inf1_fl x0 ⟨a1,a2,cmd,k,pf,ns,nr,inf⟩ g;have s3:=inf1_len x0 ⟨a1,a2,cmd,k,pf,ns,nr,inf⟩ g;obtain⟨x1,hx1⟩:∃ x1,x0.inf1 ⟨a1,a2,cmd,k,pf,ns,nr,inf⟩ g=x1:=⟨_,rfl⟩;rw[hx1] at s1 s2 s3 hz;have HX:=Lib.hid hx1;have HZ:=Lib.hid hz;clear hx1 hz;go_wp2_with fail
 refine hk.mono ?_
 rintro r w3 ⟨rfl,h4⟩;have h5:=hb' _ h4;clear hk hb' h4;have d:=h5.f2.cell;go_upto_block 0 with fail
 go_cut [] (fun wx=>St w0 wx (EnAt e x1*(blk ga (.cells #[.int .i64 a1,.int .i64 a2,.bool cmd,.int .i64 k,.bool pf,.int .i64 ns,.int .i64 nr,.string inf] TFr (0,0))*R)))
 case first =>
  have hx1:=HX.out;clear HX HZ s1 s2 s3;unfold En.inf1 at hx1;simp only[] at hx1;by_cases g0:g=0
  ·subst g0
   rw[if_pos rfl] at hx1;subst hx1;have l1:=x0.told_len 5 inf;go_wp2_with fail
   refine (e_told e x0 5 inf (by omega) w0 _ _ h5).mono ?_
   rintro r w4 ⟨rfl,h6⟩;clear d h5;have d:=h6.f2.cell;go_wp2_with fail
   refine (e_superv e (x0.told 5 inf) false pf ok0 (by omega) w0 _ _ h6).mono ?_
   rintro r w5 ⟨rfl,h7⟩;clear d h6;go_wp2;go_meet
   exact h7
  rw[if_neg g0] at hx1;have b0:(g == 0)=false:=by simpa using g0
  by_cases g1:g=1
  ·subst g1
   rw[if_pos rfl] at hx1;subst hx1;go_wp2_with fail
   refine (e_send e x0 3 false pf ok0 (by omega) w0 _ _ h5).mono ?_
   rintro r w4 ⟨rfl,h6⟩;clear d h5;go_wp2;go_meet
   exact h6
  rw[if_neg g1] at hx1;have b1:(g == 1)=false:=by simpa using g1
  cases pf with
  | true =>
    rw[if_pos rfl] at hx1;subst hx1;go_wp2_with fail
    refine (e_superv e x0 false true ok0 (by omega) w0 _ _ h5).mono ?_
    rintro r w5 ⟨rfl,h7⟩;clear d h5;go_wp2;go_meet
    exact h7
  | false =>
    rw[if_neg (by simp)] at hx1;subst hx1;go_wp2;go_meet
    exact h5
 case rest =>
  rw[← s2] at ok0;have hl1:x1.out.length<=97002:=by omega
  clear h5 d HX s1 s2 s3 hl0;obtain⟨fp,R',c7,hf,hb,hc⟩:=hcut.e_fl2;have d6:wc.cell? ⟨ga,6,none⟩=some (.int .i64 nr):=hcut.f2.cell 6;go_upto_region 9 with fail
  have hk:=f_ack fp x1.fl nr w0 wc.drew _ hf.drew ok0;have okA:=ok0.ack nr;have hz:=HZ.out;clear HZ hcut;unfold En.inf2 at hz;simp only[] at hz;generalize x1.fl.ack nr=A at *;obtain⟨fl3,n,b⟩:=A;simp only[] at hk okA hz;have hl':(x1.setFl fl3).out.length<=97002:=hl1;have ok':(x1.setFl fl3).fl.Ok:=okA;have hb':=fun w' h=>hb w' fl3 h
  have hc':=fun w' h=>hc w' fl3 h
  clear hb hc hl1 okA ok0 hf;generalize x1.setFl fl3=x3 at *;unfold En.inf3 at hz;have HZ:=Lib.hid hz;clear hz;go_region_held3 (fun wx=>wx.cell? ⟨e,7,none⟩=some (ptr fp)/\wx.cell? ⟨ga,6,none⟩=some (.int .i64 nr)) (first | (with_reducible exact⟨c7,d6⟩) | (with_reducible exact⟨m0,m1⟩) | go_keep) (first | (go_at_call 279;with_reducible refine hk.mono ?_;rintro r w4 ⟨rfl,h6⟩;have h7:=hb' _ h6;have m0:=hc' _ h6;have m1:=(h7.f2.cell 6).trans (show _=some (Value.int .i64 nr) from rfl)))
  rename_i hheld
  clear hheld;clear hb' hc' h6 hk m0 m1 c7 d6;have c1:=h7.e_c1;have hz:=HZ.out;clear HZ;by_cases hb:b=0
  ·subst hb
   rw[if_neg (by simp)] at hz;by_cases s7:x3.state=7
   ·rw[if_pos s7] at hz
    rw[s7] at c1;clear s7;obtain⟨fp,R',c7,hf,hb⟩:=h7.e_fl;have hv:=f_view fp x3.fl w0 w4 _ hf ok';unfold Fl.view at hv;cases hp:x3.fl.peer with
    | false =>
      rw[hp] at hv;rw[if_pos hp] at hz;subst hz;clear hp;have l1:=count_len x3 n;have okc:(x3.count n).fl.Ok:=by rw[count_fl];exact ok'
      go_wp2_with fail
      refine hv.mono ?_
      rintro r w5 ⟨rfl,h8⟩;have h9:St w0 w5 (EnAt e x3*_):=hb _ _ h8;clear hb hf h8 hv h7 c7 c1;go_wp2_with fail
      refine (e_count e x3 n ok' (by omega) w0 _ _ h9).mono ?_
      rintro r w6 ⟨rfl,h10⟩;clear h9;go_wp2_with fail
      refine (e_goOn e (x3.count n) okc (by omega) w0 _ _ h10).mono ?_
      rintro r w9 ⟨rfl,h9⟩;go_wp2;first
       | (go_end0;exact⟨rfl,h9.f2.drop⟩)
       | (refine bodyPost_ret (v:=.tuple #[]) (by simp[results,go_sem]) rfl ?_;exact⟨rfl,h9.f2.drop⟩)
    | true =>
      rw[hp] at hv;rw[if_neg (by rw[hp];simp)] at hz;subst hz;clear hp;go_wp2_with fail
      refine hv.mono ?_
      rintro r w5 ⟨rfl,h8⟩;have h9:St w0 w5 (EnAt e x3*_):=hb _ _ h8;clear hb hf h8 hv h7 c7 c1;go_wp2_with fail
      refine (e_goOn e x3 ok' (by omega) w0 _ _ h9).mono ?_
      rintro r w9 ⟨rfl,h9⟩;go_wp2;first
       | (go_end0;exact⟨rfl,h9.f2.drop⟩)
       | (refine bodyPost_ret (v:=.tuple #[]) (by simp[results,go_sem]) rfl ?_;exact⟨rfl,h9.f2.drop⟩)
   ·rw[if_neg s7] at hz
    have b7:(x3.state == 7)=false:=by simpa using s7
    subst hz;go_wp2;first
     | (go_end0;exact⟨rfl,h7.f2.drop⟩)
     | (refine bodyPost_ret (v:=.tuple #[]) (by simp[results,go_sem]) rfl ?_;exact⟨rfl,h7.f2.drop⟩)
  ·rw[if_pos hb] at hz
   subst hz;have bb:(b != 0)=true:=by simpa using hb
   go_wp2_with fail
   refine (e_anew e x3 ⟨#[74]⟩ ok' (by omega) w0 _ _ h7).mono ?_
   rintro r w9 ⟨rfl,h9⟩;go_wp2;first
    | (go_end0;exact⟨rfl,h9.f2.drop⟩)
    | (refine bodyPost_ret (v:=.tuple #[]) (by simp[results,go_sem]) rfl ?_;exact⟨rfl,h9.f2.drop⟩)
def NamesAt (w:World):Prop:=∀ i:Nat,i<10->∃ s:ByteArray,(!s.toList.isEmpty)=true/\w.cell? ⟨2,i,none⟩=some (.string s)
theorem NamesAt.old {w w':World} {n:Nat} (h:NamesAt w) (hb:Below n w w') (hn:2<n):NamesAt w':=fun i hi=>by
 obtain⟨s,h1,h2⟩:=h i hi;exact⟨s,h1,(hb.cell (p:=⟨2,i,none⟩) hn).trans h2⟩
theorem NamesAt.pos {w:World} (h:NamesAt w):2<w.heap.size:=by
 obtain⟨s,_,h2⟩:=h 0 (by decide);exact World.block_lt_of_cell? _ _ h2
theorem k_may (k:Int) (c:Bool) (w:World):Calls Tryz.prog 59 #[.int .i64 k,.bool c] w fun r w'=>r=.returned (.bool (mayK k c))/\w=w':=by
 have ix40:∀ w,(Instr.index 258 (.agg #[.int .i64 0,.int .i64 4,.int .i64 6,.int .i64 7]) (.int .i64 0)).run Tryz.prog w=.ok (.int .i64 0) w:=fun w=>by kernel_rfl
 have ix41:∀ w,(Instr.index 258 (.agg #[.int .i64 0,.int .i64 4,.int .i64 6,.int .i64 7]) (.int .i64 1)).run Tryz.prog w=.ok (.int .i64 4) w:=fun w=>by kernel_rfl
 have ix42:∀ w,(Instr.index 258 (.agg #[.int .i64 0,.int .i64 4,.int .i64 6,.int .i64 7]) (.int .i64 2)).run Tryz.prog w=.ok (.int .i64 6) w:=fun w=>by kernel_rfl
 have ix43:∀ w,(Instr.index 258 (.agg #[.int .i64 0,.int .i64 4,.int .i64 6,.int .i64 7]) (.int .i64 3)).run Tryz.prog w=.ok (.int .i64 7) w:=fun w=>by kernel_rfl
 have ix30:∀ w,(Instr.index 259 (.agg #[.int .i64 5,.int .i64 8,.int .i64 9]) (.int .i64 0)).run Tryz.prog w=.ok (.int .i64 5) w:=fun w=>by kernel_rfl
 have ix31:∀ w,(Instr.index 259 (.agg #[.int .i64 5,.int .i64 8,.int .i64 9]) (.int .i64 1)).run Tryz.prog w=.ok (.int .i64 8) w:=fun w=>by kernel_rfl
 have ix32:∀ w,(Instr.index 259 (.agg #[.int .i64 5,.int .i64 8,.int .i64 9]) (.int .i64 2)).run Tryz.prog w=.ok (.int .i64 9) w:=fun w=>by kernel_rfl
 by_cases h0:k=0
 ·subst h0
  have e:mayK 0 c=c:=rfl;rw[e];clear e;go_enter Tryz.func59,Tryz.ntmps59
  go_wp2;go_loop [10] (fun s=>∃ i:Nat,i<=0/\s=.int .i64 i) (fun s=>4 - (intOf s).toNat)
  case atStart=>exact⟨0,by omega,rfl⟩
  case round =>
   obtain⟨i,hi,rfl⟩:=hrel;obtain rfl:i=0:=by omega
   go_wp2;go_ret
   exact⟨rfl,rfl⟩
 by_cases h4:k=4
 ·subst h4
  have e:mayK 4 c=c:=rfl;rw[e];clear e;go_enter Tryz.func59,Tryz.ntmps59
  go_wp2;go_loop [10] (fun s=>∃ i:Nat,i<=1/\s=.int .i64 i) (fun s=>4 - (intOf s).toNat)
  case atStart=>exact⟨0,by omega,rfl⟩
  case round =>
   obtain⟨i,hi,rfl⟩:=hrel;rcases (show i=0\/i=1 by omega) with rfl | rfl
   ·go_wp2
    go_round
    case rel=>exact⟨0+1,by omega,rfl⟩
    case measure=>simp[intOf]
   ·go_wp2
    go_ret
    exact⟨rfl,rfl⟩
 by_cases h6:k=6
 ·subst h6
  have e:mayK 6 c=c:=rfl;rw[e];clear e;go_enter Tryz.func59,Tryz.ntmps59
  go_wp2;go_loop [10] (fun s=>∃ i:Nat,i<=2/\s=.int .i64 i) (fun s=>4 - (intOf s).toNat)
  case atStart=>exact⟨0,by omega,rfl⟩
  case round =>
   obtain⟨i,hi,rfl⟩:=hrel;rcases (show i=0\/i=1\/i=2 by omega) with rfl | rfl | rfl
   ·go_wp2
    go_round
    case rel=>exact⟨0+1,by omega,rfl⟩
    case measure=>simp[intOf]
   ·go_wp2
    go_round
    case rel=>exact⟨1+1,by omega,rfl⟩
    case measure=>simp[intOf]
   ·go_wp2
    go_ret
    exact⟨rfl,rfl⟩
 by_cases h7:k=7
 ·subst h7
  have e:mayK 7 c=c:=rfl;rw[e];clear e;go_enter Tryz.func59,Tryz.ntmps59
  go_wp2;go_loop [10] (fun s=>∃ i:Nat,i<=3/\s=.int .i64 i) (fun s=>4 - (intOf s).toNat)
  case atStart=>exact⟨0,by omega,rfl⟩
  case round =>
   obtain⟨i,hi,rfl⟩:=hrel;rcases (show i=0\/i=1\/i=2\/i=3 by omega) with rfl | rfl | rfl | rfl
   ·go_wp2
    go_round
    case rel=>exact⟨0+1,by omega,rfl⟩
    case measure=>simp[intOf]
   ·go_wp2
    go_round
    case rel=>exact⟨1+1,by omega,rfl⟩
    case measure=>simp[intOf]
   ·go_wp2
    go_round
    case rel=>exact⟨2+1,by omega,rfl⟩
    case measure=>simp[intOf]
   ·go_wp2
    go_ret
    exact⟨rfl,rfl⟩
 by_cases h5:k=5
 ·subst h5
  have e:mayK 5 c=!c:=rfl;rw[e];clear e;go_enter Tryz.func59,Tryz.ntmps59
  go_wp2;go_loop [10] (fun s=>∃ i:Nat,i<=4/\s=.int .i64 i) (fun s=>4 - (intOf s).toNat)
  case atStart=>exact⟨0,by omega,rfl⟩
  case round =>
   obtain⟨i,hi,rfl⟩:=hrel;rcases (show i=0\/i=1\/i=2\/i=3\/i=4 by omega) with rfl | rfl | rfl | rfl | rfl
   ·go_wp2
    go_round
    case rel=>exact⟨0+1,by omega,rfl⟩
    case measure=>simp[intOf]
   ·go_wp2
    go_round
    case rel=>exact⟨1+1,by omega,rfl⟩
    case measure=>simp[intOf]
   ·go_wp2
    go_round
    case rel=>exact⟨2+1,by omega,rfl⟩
    case measure=>simp[intOf]
   ·go_wp2
    go_round
    case rel=>exact⟨3+1,by omega,rfl⟩
    case measure=>simp[intOf]
   ·go_wp2
    go_loop [19] (fun s=>∃ i:Nat,i<=0/\s=.int .i64 i) (fun s=>3 - (intOf s).toNat)
    case atStart=>exact⟨0,by omega,rfl⟩
    case round =>
     obtain⟨i,hi,rfl⟩:=hrel;obtain rfl:i=0:=by omega
     go_wp2;go_ret
     exact⟨rfl,rfl⟩
 by_cases h8:k=8
 ·subst h8
  have e:mayK 8 c=!c:=rfl;rw[e];clear e;go_enter Tryz.func59,Tryz.ntmps59
  go_wp2;go_loop [10] (fun s=>∃ i:Nat,i<=4/\s=.int .i64 i) (fun s=>4 - (intOf s).toNat)
  case atStart=>exact⟨0,by omega,rfl⟩
  case round =>
   obtain⟨i,hi,rfl⟩:=hrel;rcases (show i=0\/i=1\/i=2\/i=3\/i=4 by omega) with rfl | rfl | rfl | rfl | rfl
   ·go_wp2
    go_round
    case rel=>exact⟨0+1,by omega,rfl⟩
    case measure=>simp[intOf]
   ·go_wp2
    go_round
    case rel=>exact⟨1+1,by omega,rfl⟩
    case measure=>simp[intOf]
   ·go_wp2
    go_round
    case rel=>exact⟨2+1,by omega,rfl⟩
    case measure=>simp[intOf]
   ·go_wp2
    go_round
    case rel=>exact⟨3+1,by omega,rfl⟩
    case measure=>simp[intOf]
   ·go_wp2
    go_loop [19] (fun s=>∃ i:Nat,i<=1/\s=.int .i64 i) (fun s=>3 - (intOf s).toNat)
    case atStart=>exact⟨0,by omega,rfl⟩
    case round =>
     obtain⟨i,hi,rfl⟩:=hrel;rcases (show i=0\/i=1 by omega) with rfl | rfl
     ·go_wp2
      go_round
      case rel=>exact⟨0+1,by omega,rfl⟩
      case measure=>simp[intOf]
     ·go_wp2
      go_ret
      exact⟨rfl,rfl⟩
 by_cases h9:k=9
 ·subst h9
  have e:mayK 9 c=!c:=rfl;rw[e];clear e;go_enter Tryz.func59,Tryz.ntmps59
  go_wp2;go_loop [10] (fun s=>∃ i:Nat,i<=4/\s=.int .i64 i) (fun s=>4 - (intOf s).toNat)
  case atStart=>exact⟨0,by omega,rfl⟩
  case round =>
   obtain⟨i,hi,rfl⟩:=hrel;rcases (show i=0\/i=1\/i=2\/i=3\/i=4 by omega) with rfl | rfl | rfl | rfl | rfl
   ·go_wp2
    go_round
    case rel=>exact⟨0+1,by omega,rfl⟩
    case measure=>simp[intOf]
   ·go_wp2
    go_round
    case rel=>exact⟨1+1,by omega,rfl⟩
    case measure=>simp[intOf]
   ·go_wp2
    go_round
    case rel=>exact⟨2+1,by omega,rfl⟩
    case measure=>simp[intOf]
   ·go_wp2
    go_round
    case rel=>exact⟨3+1,by omega,rfl⟩
    case measure=>simp[intOf]
   ·go_wp2
    go_loop [19] (fun s=>∃ i:Nat,i<=2/\s=.int .i64 i) (fun s=>3 - (intOf s).toNat)
    case atStart=>exact⟨0,by omega,rfl⟩
    case round =>
     obtain⟨i,hi,rfl⟩:=hrel;rcases (show i=0\/i=1\/i=2 by omega) with rfl | rfl | rfl
     ·go_wp2
      go_round
      case rel=>exact⟨0+1,by omega,rfl⟩
      case measure=>simp[intOf]
     ·go_wp2
      go_round
      case rel=>exact⟨1+1,by omega,rfl⟩
      case measure=>simp[intOf]
     ·go_wp2
      go_ret
      exact⟨rfl,rfl⟩
 have e:mayK k c=numb k:=by unfold mayK;rw[if_neg (by omega),if_neg (by omega)]
 rw[e];clear e;have b0:(k == 0)=false:=by simpa using h0
 have b4:(k == 4)=false:=by simpa using h4
 have b6:(k == 6)=false:=by simpa using h6
 have b7:(k == 7)=false:=by simpa using h7
 have b5:(k == 5)=false:=by simpa using h5
 have b8:(k == 8)=false:=by simpa using h8
 have b9:(k == 9)=false:=by simpa using h9
 clear h0 h4 h6 h7 h5 h8 h9;go_enter Tryz.func59,Tryz.ntmps59
 go_wp2;go_loop [10] (fun s=>∃ i:Nat,i<=4/\s=.int .i64 i) (fun s=>4 - (intOf s).toNat)
 case atStart=>exact⟨0,by omega,rfl⟩
 case round =>
  obtain⟨i,hi,rfl⟩:=hrel;rcases (show i=0\/i=1\/i=2\/i=3\/i=4 by omega) with rfl | rfl | rfl | rfl | rfl
  ·go_wp2
   go_round
   case rel=>exact⟨0+1,by omega,rfl⟩
   case measure=>simp[intOf]
  ·go_wp2
   go_round
   case rel=>exact⟨1+1,by omega,rfl⟩
   case measure=>simp[intOf]
  ·go_wp2
   go_round
   case rel=>exact⟨2+1,by omega,rfl⟩
   case measure=>simp[intOf]
  ·go_wp2
   go_round
   case rel=>exact⟨3+1,by omega,rfl⟩
   case measure=>simp[intOf]
  ·go_wp2
   go_loop [19] (fun s=>∃ i:Nat,i<=3/\s=.int .i64 i) (fun s=>3 - (intOf s).toNat)
   case atStart=>exact⟨0,by omega,rfl⟩
   case round =>
    obtain⟨i,hi,rfl⟩:=hrel;rcases (show i=0\/i=1\/i=2\/i=3 by omega) with rfl | rfl | rfl | rfl
    ·go_wp2
     go_round
     case rel=>exact⟨0+1,by omega,rfl⟩
     case measure=>simp[intOf]
    ·go_wp2
     go_round
     case rel=>exact⟨1+1,by omega,rfl⟩
     case measure=>simp[intOf]
    ·go_wp2
     go_round
     case rel=>exact⟨2+1,by omega,rfl⟩
     case measure=>simp[intOf]
    ·go_wp2_with fail
     refine (k_numb k w).mono ?_
     rintro r w1 ⟨rfl,rfl⟩;go_wp2;go_ret
     exact⟨rfl,rfl⟩
theorem k_good (k:Int) (w:World):Calls Tryz.prog 136 #[.int .i64 k] w fun r w'=>r=.returned (.bool (decide (0<=k) && decide (k<10)))/\w=w':=by
 by_cases h0:0<=k
 ·have b0:decide (0<=k)=true:=by simpa using h0
  have b1:decide (k ≥ 0)=true:=by simpa using h0
  rw[b0];go_enter Tryz.func136,Tryz.ntmps136
  go_wp2;go_ret
  exact⟨rfl,rfl⟩
 ·have b0:decide (0<=k)=false:=by simpa using h0
  have b1:decide (k ≥ 0)=false:=by simpa using h0
  rw[b0];go_enter Tryz.func136,Tryz.ntmps136
  go_wp2;go_ret
  exact⟨rfl,rfl⟩
theorem k_name (k:Int) (w:World) (hN:NamesAt w):Calls Tryz.prog 115 #[.int .i64 k] w fun r w'=>(∃ s:ByteArray,r=.returned (.string s)/\(!s.toList.isEmpty)=(decide (0<=k) && decide (k<10)))/\w=w':=by
 by_cases h0:0<=k/\k<10
 ·have b:(decide (0<=k) && decide (k<10))=true:=by simp[h0]
  rw[b];have hg:=k_good k w;rw[b] at hg;obtain⟨i,hi⟩:∃ i:Nat,k=i:=⟨k.toNat,by omega⟩;subst hi;obtain⟨s,hs,hc⟩:=hN i (by omega);have i1:0<=(i:Int):=by omega
  have i2:(i:Int)<10:=h0.2;have hS:=Lib.hid hs;clear b hs;go_enter Tryz.func115,Tryz.ntmps115
  go_wp2_with fail
  refine hg.mono ?_
  rintro r w1 ⟨rfl,rfl⟩;go_wp2;go_ret
  exact⟨⟨s,rfl,hS.out⟩,rfl⟩
 ·have b:(decide (0<=k) && decide (k<10))=false:=by
   cases h:(decide (0<=k) && decide (k<10)) with
   | false=>rfl
   | true=>exact absurd (by simpa using h) h0
  have hg:=k_good k w;rw[b] at hg ⊢;clear b;go_enter Tryz.func115,Tryz.ntmps115
  go_wp2_with fail
  refine hg.mono ?_
  rintro r w1 ⟨rfl,rfl⟩;go_wp2;go_ret
  exact⟨⟨noStr,rfl,by decide +kernel⟩,rfl⟩
theorem k_carries (k n:Int) (w:World) (hN:NamesAt w):Calls Tryz.prog 60 #[.int .i64 k,.int .i64 n] w fun r w'=>r=.returned (.bool (carries k n))/\w=w':=by
 by_cases h06:k=0\/k=6
 ·have e:carries k n=(decide (0<=n) && decide (n<=260)):=by unfold carries;rw[if_pos h06]
  rw[e];clear e;by_cases h0:0<=n
  ·have b0:decide (0<=n)=true:=by simpa using h0
   have b1:decide (n ≥ 0)=true:=by simpa using h0
   rw[b0];rcases h06 with rfl | rfl
   all_goals (
    go_enter Tryz.func60,Tryz.ntmps60
    go_wp2;go_ret
    exact⟨rfl,rfl⟩)
  ·have b0:decide (0<=n)=false:=by simpa using h0
   have b1:decide (n ≥ 0)=false:=by simpa using h0
   rw[b0];rcases h06 with rfl | rfl
   all_goals (
    go_enter Tryz.func60,Tryz.ntmps60
    go_wp2;go_ret
    exact⟨rfl,rfl⟩)
 by_cases h9:k=9
 ·subst h9
  have e:carries 9 n=(n == 5):=rfl;rw[e];clear e;go_enter Tryz.func60,Tryz.ntmps60
  go_wp2;go_ret
  exact⟨rfl,rfl⟩
 have e:carries k n=(n == 0 && (decide (0<=k) && decide (k<10))):=by unfold carries;rw[if_neg h06,if_neg h9]
 rw[e];clear e;have b0:(k == 0)=false:=by simpa using fun h=>h06 (.inl h)
 have b6:(k == 6)=false:=by simpa using fun h=>h06 (.inr h)
 have b9:(k == 9)=false:=by simpa using h9
 by_cases hn:n=0
 ·subst hn
  have hk:=k_name k w hN;obtain⟨G,hG⟩:∃ G,(decide (0<=k) && decide (k<10))=G:=⟨_,rfl⟩;rw[hG] at hk ⊢;clear hG;go_enter Tryz.func60,Tryz.ntmps60
  go_wp2_with fail
  refine hk.mono ?_
  rintro r w1 ⟨⟨s,rfl,hs⟩,rfl⟩;go_wp2;go_ret
  exact⟨by rw[← hs];rfl,rfl⟩
 ·have bn:(n == 0)=false:=by simpa using hn
  rw[bn];go_enter Tryz.func60,Tryz.ntmps60
  go_wp2;go_ret
  exact⟨rfl,rfl⟩
end Go.Proofs.YtjcldoejpldcmaaGreatDoor
