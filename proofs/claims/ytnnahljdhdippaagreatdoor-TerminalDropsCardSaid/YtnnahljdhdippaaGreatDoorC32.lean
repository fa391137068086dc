/- Parts of a proof (RefW). No condition. -/
import Derived.Test.YtnnahljdhdippaaGreatDoorC31
import Derived.Test.YtnnahljdhdippaaGreatDoorC18
namespace Go.Proofs.YtnnahljdhdippaaGreatDoor
set_option maxRecDepth 100000
set_option maxHeartbeats 6400000
open Go.RowKit
theorem msg_got {x:Us} {m:Tm} (hb:m.bad=0) (ht:m.ty=2) (ha:x.v.asking=true) (hr:m.ri=x.v.ri) (h1:64<=m.ai) (h2:m.ai<=126):x.message m=({ x with v:=⟨m.ai,false,0,0⟩ },[.of 5 0,.of 1 m.ai]):=by
 unfold Us.message;rw[if_neg (fun h=>h hb),if_pos ⟨ht,ha,hr,by unfold autoTei;simp[h1,h2]⟩]
theorem msg_not {x:Us} {m:Tm} (hb:m.bad=0) (hA:m.ty=2->(x.v.asking && (m.ri == x.v.ri) && decide (64<=m.ai) && decide (m.ai<=126))=false) :
  x.message m=if (m.ty=2/\x.mine m=true/\m.ai=x.v.tei)\/(m.ty=6/\x.mine m=true) then x.lose
   else if m.ty=4/\x.mine m=true then ({ x with d:=x.d.next.1 },[.say 5 x.d.next.2 x.v.tei]) else (x,[]):=by
 unfold Us.message;rw[if_neg (fun h=>h hb),if_neg];rintro ⟨h1,h2,h3,h4⟩;have:=hA h1
 unfold autoTei at h4;simp[h2,h3] at this h4
 omega
theorem msg_lose2 {x:Us} {m:Tm} (hb:m.bad=0) (ht:m.ty=2) (hA:(x.v.asking && (m.ri == x.v.ri) && decide (64<=m.ai) && decide (m.ai<=126))=false) (h0:x.v.tei≠ -1) (he:m.ai=x.v.tei):x.message m=x.lose:=by
 rw[msg_not hb fun _=>hA,if_pos (.inl ⟨ht,by unfold Us.mine;simp[h0,he],he⟩)]
theorem msg_none2 {x:Us} {m:Tm} (hb:m.bad=0) (ht:m.ty=2) (hA:(x.v.asking && (m.ri == x.v.ri) && decide (64<=m.ai) && decide (m.ai<=126))=false) (h0:x.v.tei= -1\/m.ai≠x.v.tei):x.message m=(x,[]):=by
 rw[msg_not hb fun _=>hA,if_neg,if_neg (by rw[ht];rintro ⟨h,_⟩;exact absurd h (by decide))];rintro (⟨_,h2,h3⟩ | ⟨h,_⟩)
 ·rcases h0 with h | h
  ·unfold Us.mine at h2;simp[h] at h2
  ·exact h h3
 ·rw[ht] at h;exact absurd h (by decide)
theorem msg_mine4 {x:Us} {m:Tm} (hb:m.bad=0) (ht:m.ty=4) (hm:x.mine m=true):x.message m=({ x with d:=x.d.next.1 },[.say 5 x.d.next.2 x.v.tei]):=by
 rw[msg_not hb (by rw[ht];intro h;exact absurd h (by decide)),if_neg (by rw[ht];rintro (⟨h,_⟩ | ⟨h,_⟩) <;> exact absurd h (by decide)),if_pos ⟨ht,hm⟩]
theorem msg_mine6 {x:Us} {m:Tm} (hb:m.bad=0) (ht:m.ty=6) (hm:x.mine m=true):x.message m=x.lose:=by
 rw[msg_not hb (by rw[ht];intro h;exact absurd h (by decide)),if_pos (.inr ⟨ht,hm⟩)]
theorem msg_other {x:Us} {m:Tm} (hb:m.bad=0) (h2:m.ty≠2) (h:(m.ty=4\/m.ty=6)->x.mine m=false):x.message m=(x,[]):=by
 rw[msg_not hb fun e=>absurd e h2,if_neg,if_neg]
 ·rintro ⟨a,b⟩;rw[h (.inl a)] at b;exact absurd b (by decide)
 ·rintro (⟨a,_⟩ | ⟨a,b⟩)
  ·exact h2 a
  ·rw[h (.inr a)] at b;exact absurd b (by decide)
theorem msg_bad {x:Us} {m:Tm} (hb:m.bad≠0):x.message m=(x,[]):=by unfold Us.message;rw[if_pos hb]
theorem Us.mine_eq {x:Us} (ok:x.Tidy) (m:Tm):(decide (0<=x.v.tei) && (m.ai == x.v.tei || m.ai == 127))=x.mine m:=by rw[ok.neg];rfl
theorem newUs_tidy (n:Int) (d:Dr):(newUs n d).Tidy:=⟨.inl rfl,fun h=>Bool.noConfusion (show false=true from h),fun _=>⟨rfl,rfl⟩,⟨show (0:Int)<=0 by decide,show (0:Int)<=32 by decide⟩,by show max 1 (min n 32)<=32;omega⟩
theorem tidy_zero {x:Us} (h:x.Tidy) (d:Dr):Us.Tidy ⟨.zero,x.most,d⟩:=⟨.inl rfl,fun h=>Bool.noConfusion (show false=true from h),fun _=>⟨rfl,rfl⟩,⟨show (0:Int)<=0 by decide,show (0:Int)<=32 by decide⟩,h.m32⟩
theorem tidy_ask {x:Us} (h:x.Tidy) (t:Int) (h0:0<=t) (h1:t<=32):(x.ask t).1.Tidy:=⟨.inl rfl,fun _=>rfl,fun h=>Bool.noConfusion (show true=false from h),⟨h0,h1⟩,h.m32⟩
theorem tidy_want {x:Us} (h:x.Tidy):x.want.1.Tidy:=by
 unfold Us.want;split
 ·exact h
 ·split
  ·exact h
  ·exact tidy_ask h 1 (by decide) (by decide)
theorem tidy_drop {x:Us} (h:x.Tidy):x.drop.1.Tidy:=by
 unfold Us.drop;split
 ·exact tidy_zero h _
 ·split
  ·exact h
  ·exact tidy_zero h _
theorem tidy_timeout {x:Us} (h:x.Tidy) (hm:x.v.tries<=x.most):x.timeout.1.Tidy:=by
 unfold Us.timeout;split
 ·exact h
 ·split
  ·exact tidy_zero h _
  ·have:=h.tr
   have:=h.m32
   exact tidy_ask h _ (by omega) (by omega)
theorem tidy_message {x:Us} (h:x.Tidy) (m:Tm):(x.message m).1.Tidy:=by
 unfold Us.message;split
 ·exact h
 ·split
  ·rename_i hA
   have ha:=hA.2.2.2;unfold autoTei at ha;simp at ha
   exact⟨.inr ha,fun h=>Bool.noConfusion (show false=true from h),fun _=>⟨rfl,rfl⟩,⟨show (0:Int)<=0 by decide,show (0:Int)<=32 by decide⟩,h.m32⟩
  ·split
   ·exact tidy_zero h _
   ·split
    ·exact⟨h.tei,h.ask,h.idle,h.tr,h.m32⟩
    ·exact h
theorem ru_new (n:Int) (p:Nat) (d:Dr) (hd:d.Plain) (w0 w:World) (R:HP) (h:St w0 w (blk p (.cells d.rcells TRd (0,0))*R)) :
  Calls Tryz.prog 38 #[.int .i64 n,ptr p] w fun e w'=>∃ u,e=.returned (ptr u)/\St w0 w' (RuAt u (newUs n d) []*R):=by
 obtain⟨M,hM⟩:∃ M,max 1 (min n 32)=M:=⟨_,rfl⟩;have h1:=h.alloc (.cells #[.int .i64 M,.int .i64 (-1),.bool false,.int .i64 0,.int .i64 0,ptr p,.slice none 0 0] TRu);have h2:=(h1.l_nil TRue 5 Ue.cells).eq (show _=blk w.heap.size (.cells #[.int .i64 M,.int .i64 (-1),.bool false,.int .i64 0,.int .i64 0,ptr p,.slice none 0 0] TRu (0,0))*(LAt TRue 5 Ue.cells (.slice none 0 0) []*(blk p (.cells d.rcells TRd (0,0))*R)) by ac_rfl);have h3:St w0 _ (RuAt w.heap.size (newUs n d) []*R):=h2.ru_shut (x:=newUs n d) (by rw[← hM];rfl) rfl hd rfl;clear h h1 h2;by_cases a:n<1
 ·have a2:decide (n<1)=true:=by simp;omega
  obtain rfl:M=1:=by omega
  clear hM;go_enter Tryz.func38,Tryz.ntmps38
  go_wp2;go_ret
  exact⟨_,rfl,h3⟩
 ·have a2:decide (n<1)=false:=by simp;omega
  by_cases b:32<n
  ·have b2:decide (32<n)=true:=by simp;omega
   obtain rfl:M=32:=by omega
   clear hM;go_enter Tryz.func38,Tryz.ntmps38
   go_wp2;go_ret
   exact⟨_,rfl,h3⟩
  ·have b2:decide (32<n)=false:=by simp;omega
   obtain rfl:M=n:=by omega
   clear hM;go_enter Tryz.func38,Tryz.ntmps38
   go_wp2;go_ret
   exact⟨_,rfl,h3⟩
theorem ru_message (u:Nat) (x:Us) (o:List Ue) (m:Tm) (ok:x.Tidy) (w0 w:World) (R:HP) (h:St w0 w (RuAt u x o*R)) :
  Calls Tryz.prog 116 #[ptr u,.agg m.cells.toArray] w fun e w'=>e=.returned (.tuple #[])/\St w0 w' (RuAt u (x.message m).1 (x.message m).2*R):=by
 obtain⟨X,hX⟩:∃ X,x.message m=X:=⟨_,rfl⟩;rw[hX];have h1:=(h.alloc (.cells #[.int .i64 m.ty,.int .i64 m.ri,.int .i64 m.ai] TTmR)).f2;have hp:=fun w R h=>rm_put m w0 w R h
 have HX:=Lib.hid hX;have hgt:u<w.heap.size:=by obtain⟨p,ov,hp,h3⟩:=h.ru_open;exact h3.lt
 obtain⟨ty,ri,ai⟩:=m;obtain⟨⟨a1,a2,a3,a4⟩,mo,d⟩:=x;simp only[Tm.cells] at *;obtain⟨bd,hbd⟩:∃ bd,Tm.bad ⟨ty,ri,ai⟩=bd:=⟨_,rfl⟩;rw[hbd] at hp;generalize Tm.oct _=oc at *;obtain⟨q0,q1,q2,q3,q4,⟨ov,q6⟩,qf⟩:=h1.ru_cell;clear hX h;simp only[] at *;go_enter Tryz.func116,Tryz.ntmps116
 go_upto_region 1 with fail
 generalize w.alloc _=wa at *;generalize hga:w.heap.size=ga at *;have ne1:u≠ga:=by omega
 have ne2:ga≠u:=by omega
 go_upto_region 2 with fail
 have h2:=h1.ru_none;generalize wa.setCell _ _=wb at *;clear q0 q1 q2 q3 q4 q6 qf h1;have c:=h2.f2.cell;go_upto_region 3 with (go_at_call 102;refine (hp _ _ h2).mono ?_;rintro e w1 ⟨rfl,h3⟩)
 clear hp h2 c;have c:=h3.f2.cell;obtain⟨q0,q1,q2,q3,q4,⟨ov2,q6⟩,qf⟩:=h3.ru_cell;simp only[] at q0 q1 q2 q3 q4;by_cases hb:bd=0
 ·have b0:(bd != 0)=false:=by simp[hb]
  subst hb;have hn:=ok.neg;have hg:=ok.gone;have hmi:=Us.mine_eq ok;simp only[] at hn hg hmi;have hl:=fun w R h=>ru_lose u ⟨⟨a1,a2,a3,a4⟩,mo,d⟩ [] (by simp) w0 w R h
  have ha1:=ok.tei;simp only[] at ha1;by_cases t2:ty=2
  ·subst t2
   obtain⟨A,hA⟩:∃ A,(a2 && (ri == a3) && decide (64<=ai) && decide (ai<=126))=A:=⟨_,rfl⟩;have HA:=Lib.hid hA;clear hA hn hmi;go_upto_region 6 with fail
   go_cut [43] (fun ss wx=>ss=.bool A/\St w0 wx (RuAt u ⟨⟨a1,a2,a3,a4⟩,mo,d⟩ []*(blk ga (.cells #[.int .i64 2,.int .i64 ri,.int .i64 ai] TTmR (0,0))*R)))
   case first =>
    have hA:=HA.out;clear HX HA;cases a2 with
    | false =>
      obtain rfl:false=A:=hA;go_quiet (fail)
      go_wp2;go_meet
      exact⟨rfl,h3.drewN nq⟩
    | true =>
      cases p1:ri == a3 with
      | false =>
        rw[p1] at hA;obtain rfl:false=A:=hA;go_quiet (fail)
        go_wp2;go_meet
        exact⟨rfl,h3.drewN nq⟩
      | true =>
        rw[p1] at hA;cases p2:decide (64<=ai) with
        | false =>
          rw[p2] at hA;have p3:¬ 64<=ai:=by simpa using p2
          obtain rfl:false=A:=hA;go_quiet (fail)
          go_wp2;go_meet
          exact⟨rfl,h3.drewN nq⟩
        | true =>
          rw[p2] at hA;have p3:64<=ai:=by simpa using p2
          cases p4:decide (ai<=126) with
          | false =>
            rw[p4] at hA;have p5:¬ ai<=126:=by simpa using p4
            obtain rfl:false=A:=hA;go_quiet (fail)
            go_wp2;go_meet
            exact⟨rfl,h3.drewN nq⟩
          | true =>
            rw[p4] at hA;have p5:ai<=126:=by simpa using p4
            obtain rfl:true=A:=hA;go_quiet (fail)
            go_wp2;go_meet
            exact⟨rfl,h3.drewN nq⟩
   case rest =>
    obtain⟨rfl,h4⟩:=hcut;clear h3 q0 q1 q2 q3 q4 q6 qf c;have c:=h4.f2.cell;obtain⟨q0,q1,q2,q3,q4,⟨ov2,q6⟩,qf⟩:=h4.ru_cell;simp only[] at q0 q1 q2 q3 q4;cases A with
    | true =>
      have hA:=HA.out;simp only[Bool.and_eq_true,decide_eq_true_eq,beq_iff_eq] at hA;obtain⟨⟨⟨e1,e2⟩,e3⟩,e4⟩:=hA;have HR:=Lib.hid (@msg_got ⟨⟨a1,a2,a3,a4⟩,mo,d⟩ ⟨2,ri,ai⟩ hbd rfl e1 e2 e3 e4);clear HA hl hg e1 e2 e3 e4;go_wp2_with fail
      refine (ru_tell u _ _ 5 0 (by simp) w0 _ _ h4).mono ?_
      rintro e w5 ⟨rfl,h5⟩;clear q0 q1 q2 q3 q4 q6 qf c h4;go_wp2_with fail
      refine (ru_idle u _ _ w0 _ _ h5).mono ?_
      rintro e w6 ⟨rfl,h6⟩;clear h5;have c:=h6.f2.cell;obtain⟨p,ov3,hp,h7⟩:=h6.ru_open;have cc:=h7.cell;have ff:=h7.free;clear h6;go_upto_region 10 with fail
      have h8:St w0 _ (RuAt u ⟨⟨ai,false,0,0⟩,mo,d⟩ ([]++[Ue.of 5 0])*_):=(h7.set 1 (.int .i64 ai)).ru_shut (x:=⟨⟨ai,false,0,0⟩,mo,d⟩) rfl rfl hp rfl;generalize w6.setCell _ _=w7 at *;clear h7 cc ff c;have c:=h8.f2.cell;go_wp2_with fail
      refine (ru_tell u _ _ 1 ai (by simp) w0 _ _ h8).mono ?_
      rintro e w8 ⟨rfl,h9⟩;clear h8 c;go_wp2;refine bodyPost_ret (v:=.tuple #[]) (by simp[results,Tryz.results116,go_sem]) rfl ?_
      have e:=HX.out;rw[HR.out] at e;subst e;exact⟨rfl,h9.f2.drop⟩
    | false =>
      go_upto_region 11 with fail
      have h3:=h4;obtain⟨B,hB⟩:∃ B,(decide (0<=a1) && (ai == a1))=B:=⟨_,rfl⟩;have HB:=Lib.hid hB;clear hB h4;go_cut [70] (fun ss wx=>ss=.bool B/\St w0 wx (RuAt u ⟨⟨a1,a2,a3,a4⟩,mo,d⟩ []*(blk ga (.cells #[.int .i64 2,.int .i64 ri,.int .i64 ai] TTmR (0,0))*R)))
      case first =>
       have hB:=HB.out;clear HX HA HB;cases p1:decide (0<=a1) with
       | false =>
         rw[p1] at hB;have p2:¬ 0<=a1:=by simpa using p1
         obtain rfl:false=B:=hB;go_quiet (fail)
         go_wp2;go_meet
         exact⟨rfl,h3.drewN nq⟩
       | true =>
         rw[p1] at hB;have p2:0<=a1:=by simpa using p1
         cases p3:ai == a1 with
         | true =>
           rw[p3] at hB;obtain rfl:true=B:=hB;go_quiet (fail)
           go_wp2;go_meet
           exact⟨rfl,h3.drewN nq⟩
         | false =>
           rw[p3] at hB;obtain rfl:false=B:=hB;go_quiet (fail)
           go_wp2;go_meet
           exact⟨rfl,h3.drewN nq⟩
      case rest =>
       obtain⟨rfl,h4⟩:=hcut;clear h3 q0 q1 q2 q3 q4 q6 qf c;have c:=h4.f2.cell;obtain⟨q0,q1,q2,q3,q4,⟨ov2,q6⟩,qf⟩:=h4.ru_cell;simp only[] at q0 q1 q2 q3 q4;cases B with
       | true =>
         have hB:=HB.out;simp only[Bool.and_eq_true,decide_eq_true_eq,beq_iff_eq] at hB;have n1:a1≠ -1:=by omega
         have HR:=Lib.hid (@msg_lose2 ⟨⟨a1,a2,a3,a4⟩,mo,d⟩ ⟨2,ri,ai⟩ hbd rfl HA.out n1 hB.2);clear hB HB HA;go_wp2_with fail
         refine (hl _ _ h4).mono ?_
         rintro e w5 ⟨rfl,h5⟩;clear hl h4 q0 q1 q2 q3 q4 q6 qf c;go_wp2;go_end0
         have e:=HX.out;rw[HR.out] at e;subst e;show _/\St w0 _ (RuAt u (Us.lose ⟨⟨a1,a2,a3,a4⟩,mo,d⟩).1 _*R)
         rw[← hg n1];exact⟨rfl,h5.f2.drop⟩
       | false =>
         have hB:=HB.out;have n1:a1= -1\/ai≠a1:=by
          by_cases z:ai=a1
          ·rw[z] at hB
           simp at hB
           omega
          ·exact .inr z
         have HR:=Lib.hid (@msg_none2 ⟨⟨a1,a2,a3,a4⟩,mo,d⟩ ⟨2,ri,ai⟩ hbd rfl HA.out n1);clear hB HB HA n1;go_wp2;go_end0
         have e:=HX.out;rw[HR.out] at e;subst e;exact⟨rfl,h4.f2.drop⟩
  ·have b2:(ty == 2)=false:=by simp[t2]
   obtain⟨M,hM⟩:∃ M,(decide (0<=a1) && (ai == a1 || ai == 127))=M:=⟨_,rfl⟩;have hm:=(hmi ⟨ty,ri,ai⟩).symm.trans hM;have HM:=Lib.hid hM;have Hm:=Lib.hid hm;clear hM hm hn hmi;by_cases t4:ty=4
   ·subst t4
    go_upto_region 14 with fail
    go_cut [93] (fun ss wx=>ss=.bool M/\St w0 wx (RuAt u ⟨⟨a1,a2,a3,a4⟩,mo,d⟩ []*(blk ga (.cells #[.int .i64 4,.int .i64 ri,.int .i64 ai] TTmR (0,0))*R)))
    case first =>
     have hM:=HM.out;clear HX HM;cases p1:decide (0<=a1) with
     | false =>
       rw[p1] at hM;obtain rfl:false=M:=hM;have p2:¬ 0<=a1:=by simpa using p1
       go_quiet (fail)
       go_wp2;go_meet
       exact⟨rfl,h3.drewN nq⟩
     | true =>
       have p2:0<=a1:=by simpa using p1
       rw[p1] at hM;cases p3:ai == a1 with
       | true =>
         rw[p3] at hM;obtain rfl:true=M:=hM;go_quiet (fail)
         go_wp2;go_meet
         exact⟨rfl,h3.drewN nq⟩
       | false =>
         cases p4:ai == 127 with
         | true =>
           rw[p3,p4] at hM;obtain rfl:true=M:=hM;go_quiet (fail)
           go_wp2;go_meet
           exact⟨rfl,h3.drewN nq⟩
         | false =>
           rw[p3,p4] at hM;obtain rfl:false=M:=hM;go_quiet (fail)
           go_wp2;go_meet
           exact⟨rfl,h3.drewN nq⟩
    case rest =>
     obtain⟨rfl,h4⟩:=hcut;clear h3 q0 q1 q2 q3 q4 q6 qf c;have c:=h4.f2.cell;obtain⟨q0,q1,q2,q3,q4,⟨ov2,q6⟩,qf⟩:=h4.ru_cell;simp only[] at q0 q1 q2 q3 q4;cases M with
     | true =>
       have HR:=Lib.hid (@msg_mine4 ⟨⟨a1,a2,a3,a4⟩,mo,d⟩ ⟨4,ri,ai⟩ hbd rfl Hm.out);clear Hm HM hl hg;have hnx:=fun p hp w R h=>rd_next p d hp w0 w R h
       obtain⟨dn,hdn⟩:∃ dn,d.next=dn:=⟨_,rfl⟩;rw[hdn] at HR;rw[hdn] at hnx;clear hdn;obtain⟨d2,n⟩:=dn;simp only[] at hnx;obtain⟨p,ov3,hp,h5⟩:=h4.ru_open;have c5:=h5.cell;have h6:=h5.f3;clear h4 q0 q1 q2 q3 q4 q6 qf c;go_wp2_with fail
       refine (hnx p hp _ _ h6).mono ?_
       rintro e w6 ⟨rfl,h7,hp2⟩;have h8:St w0 _ (RuAt u ⟨⟨a1,a2,a3,a4⟩,mo,d2⟩ []*_):=h7.b3.ru_shut (x:=⟨⟨a1,a2,a3,a4⟩,mo,d2⟩) rfl rfl hp2 rfl;have c6:=h7.b3.cell;clear hnx h5 h6 h7 c5;go_wp2_with fail
       refine (ru_say u _ _ 5 n a1 (by simp) w0 _ _ h8).mono ?_
       rintro e w8 ⟨rfl,h9⟩;clear h8 c6;go_wp2;go_end0
       have e:=HX.out;rw[HR.out] at e;subst e;exact⟨rfl,h9.f2.drop⟩
     | false =>
       have HR:=Lib.hid (@msg_other ⟨⟨a1,a2,a3,a4⟩,mo,d⟩ ⟨4,ri,ai⟩ hbd t2 (fun _=>Hm.out));clear Hm HM;go_wp2;go_end0
       have e:=HX.out;rw[HR.out] at e;subst e;exact⟨rfl,h4.f2.drop⟩
   ·have b4:(ty == 4)=false:=by simp[t4]
    by_cases t6:ty=6
    ·subst t6
     go_upto_region 18 with fail
     go_cut [126] (fun ss wx=>ss=.bool M/\St w0 wx (RuAt u ⟨⟨a1,a2,a3,a4⟩,mo,d⟩ []*(blk ga (.cells #[.int .i64 6,.int .i64 ri,.int .i64 ai] TTmR (0,0))*R)))
     case first =>
      have hM:=HM.out;clear HX HM;cases p1:decide (0<=a1) with
      | false =>
        rw[p1] at hM;obtain rfl:false=M:=hM;have p2:¬ 0<=a1:=by simpa using p1
        go_quiet (fail)
        go_wp2;go_meet
        exact⟨rfl,h3.drewN nq⟩
      | true =>
        have p2:0<=a1:=by simpa using p1
        rw[p1] at hM;cases p3:ai == a1 with
        | true =>
          rw[p3] at hM;obtain rfl:true=M:=hM;go_quiet (fail)
          go_wp2;go_meet
          exact⟨rfl,h3.drewN nq⟩
        | false =>
          cases p4:ai == 127 with
          | true =>
            rw[p3,p4] at hM;obtain rfl:true=M:=hM;go_quiet (fail)
            go_wp2;go_meet
            exact⟨rfl,h3.drewN nq⟩
          | false =>
            rw[p3,p4] at hM;obtain rfl:false=M:=hM;go_quiet (fail)
            go_wp2;go_meet
            exact⟨rfl,h3.drewN nq⟩
     case rest =>
      obtain⟨rfl,h4⟩:=hcut;clear h3 q0 q1 q2 q3 q4 q6 qf c;have c:=h4.f2.cell;obtain⟨q0,q1,q2,q3,q4,⟨ov2,q6⟩,qf⟩:=h4.ru_cell;simp only[] at q0 q1 q2 q3 q4;cases M with
      | true =>
        have hM:=HM.out;simp only[Bool.and_eq_true,decide_eq_true_eq] at hM;have n1:a1≠ -1:=by omega
        have HR:=Lib.hid (@msg_mine6 ⟨⟨a1,a2,a3,a4⟩,mo,d⟩ ⟨6,ri,ai⟩ hbd rfl Hm.out);clear Hm HM hM;go_wp2_with fail
        refine (hl _ _ h4).mono ?_
        rintro e w5 ⟨rfl,h5⟩;clear hl h4 q0 q1 q2 q3 q4 q6 qf c;go_wp2;go_end0
        have e:=HX.out;rw[HR.out] at e;subst e;show _/\St w0 _ (RuAt u (Us.lose ⟨⟨a1,a2,a3,a4⟩,mo,d⟩).1 _*R)
        rw[← hg n1];exact⟨rfl,h5.f2.drop⟩
      | false =>
        have HR:=Lib.hid (@msg_other ⟨⟨a1,a2,a3,a4⟩,mo,d⟩ ⟨6,ri,ai⟩ hbd t2 (fun _=>Hm.out));clear Hm HM;go_wp2;go_end0
        have e:=HX.out;rw[HR.out] at e;subst e;exact⟨rfl,h4.f2.drop⟩
    ·have b6:(ty == 6)=false:=by simp[t6]
     have HR:=Lib.hid (@msg_other ⟨⟨a1,a2,a3,a4⟩,mo,d⟩ ⟨ty,ri,ai⟩ hbd t2 (fun h=>by rcases h with h | h <;> contradiction));have h4:=h3;clear t2 t4 t6 h3;go_wp2;go_end0
     have e:=HX.out;rw[HR.out] at e;subst e;exact⟨rfl,h4.f2.drop⟩
 ·have b0:(bd != 0)=true:=by simp[hb]
  go_wp2;refine bodyPost_ret (v:=.tuple #[]) (by simp[results,Tryz.results116,go_sem]) rfl ?_
  have e:=HX.out;rw[msg_bad (by rw[hbd];exact hb)] at e;subst e;exact⟨rfl,h3.f2.drop.eq rfl⟩
end Go.Proofs.YtnnahljdhdippaaGreatDoor
