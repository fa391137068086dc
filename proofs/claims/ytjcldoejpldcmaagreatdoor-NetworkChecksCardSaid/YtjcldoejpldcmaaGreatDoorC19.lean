/- Parts of a proof (NSrcD, NSrcE, NAuds, NGives). No condition. -/
import Derived.Test.YtjcldoejpldcmaaGreatDoorC18
import Derived.Test.YtjcldoejpldcmaaGreatDoorC17
namespace Go.Proofs.YtjcldoejpldcmaaGreatDoor
set_option maxRecDepth 100000
set_option maxHeartbeats 6400000
open Go.RowKit
theorem has_range {s:Pl} {t:Int} (h:s.has t=true):64<=t/\t<=126:=by
 unfold Pl.has at h;simp only[Bool.and_eq_true,decide_eq_true_eq] at h;exact h.1
theorem free_ok (s:Pl) (t:Int) (h:s.on<2 ^ 63):(s.free t).1.on<2 ^ 63/\(s.free t).1.last=s.last:=by
 unfold Pl.free;split
 ·rename_i hh
  have:=has_range hh
  exact⟨Nat.xor_lt_two_pow h (Nat.pow_lt_pow_right (by decide) (by omega)),rfl⟩
 ·exact⟨h,rfl⟩
theorem Sr.Ok.put {x:Sr} (ok:x.Ok) {t a n:Int} (h1:64<=t) (h2:t<=126) (h3:1<=a) (h4:a<=2) (h5:0<=n) (h6:n<=1):Sr.Ok ⟨x.pool,mput x.checks t ⟨t,a,n⟩⟩ :=
 ⟨ok.on,ok.last,fun p hp=>by
  rcases mput_mem hp with hp | rfl
  ·exact ok.all p hp
  ·exact⟨rfl,h1,h2,h3,h4,h5,h6⟩⟩
theorem Sr.Ok.remove {x:Sr} (hon:x.pool.on<2 ^ 63) (hl:x.pool.last<=62) (t:Int) (hall:∀ p ∈ mdel x.checks t,p.2.tei=p.1/\64<=p.1/\p.1<=126/\1<=p.2.asked/\p.2.asked<=2/\0<=p.2.ans/\p.2.ans<=1):(x.remove t).1.Ok :=
 have h:=free_ok x.pool t hon;⟨h.1,by show (x.pool.free t).1.last<=62;rw[h.2];exact hl,hall⟩
theorem mdel_mput {α β:Type} [DecidableEq α] {k:α} {v:β}:∀ {l:List (α × β)},mlook l k≠none->mdel (mput l k v) k=mdel l k
 | [],h=>absurd rfl h
 | q :: l,h=>by
   unfold mlook at h;unfold mput;by_cases hq:q.1=k
   ·simp[hq,mdel]
   ·rw[if_neg hq] at h
    simp[hq,mdel,mdel_mput h]
theorem Sr.Ok.response {x:Sr} (ok:x.Ok) (t:Int):(x.response t).1.Ok:=by
 unfold Sr.response;cases hr:mlook x.checks t with
 | none=>exact ok
 | some c =>
   obtain⟨ct,ca,cn⟩:=c;obtain⟨e,h1,h2,h3,h4,h5,h6⟩:=ok.all _ (mlook_mem hr);simp only[] at e h1 h2 h3 h4 h5 h6 ⊢;subst e;split
   ·refine Sr.Ok.remove (x:=⟨x.pool,mput x.checks ct ⟨ct,ca,cn+1⟩⟩) ok.on ok.last _ ?_
    simp only[];rw[mdel_mput (by rw[hr];simp)];exact fun p hp=>ok.all p (mdel_sub hp)
   ·exact ok.put h1 h2 h3 h4 (by omega) (by omega)
theorem auditK_ok {x:Sr}:∀ (l:List Nat),(∀ i ∈ l,i<63)->x.Ok->(x.auditK l).Ok
 | [],_,ok=>ok
 | i :: l,h,ok=>by
   have hi:=h i (by simp);have:=auditK_ok (x:=⟨x.pool,mput x.checks (64+(i:Int)) ⟨64+(i:Int),1,0⟩⟩) l (fun j hj=>h j (by simp[hj])) (ok.put (by omega) (by omega) (by omega) (by omega) (by omega) (by omega))
   exact this
theorem Sr.Ok.audit {x:Sr} (ok:x.Ok):x.audit.1.Ok:=auditK_ok _ (fun _ hi=>upto_lt hi) ok
theorem Sr.Ok.request {x:Sr} (ok:x.Ok) (m:Tm):(x.request m).1.Ok:=by
 have h:=seek_on 63 x.pool ok.on ok.last;unfold Sr.request;split
 ·exact ok
 ·split
  ·exact⟨h.1,h.2,ok.all⟩
  ·exact Sr.Ok.audit ⟨h.1,h.2,ok.all⟩
theorem Sr.Ok.ask {x:Sr} (ok:x.Ok) (t:Int) (h1:64<=t) (h2:t<=126) (ha:((mlook x.checks t).getD ⟨0,0,0⟩).asked<=1):(x.ask t).1.Ok:=by
 refine ok.put h1 h2 ?_ (by omega) (by omega) (by omega)
 cases hr:mlook x.checks t with
 | none=>simp
 | some c =>
   obtain⟨e,h1,h2,h3,h4,h5,h6⟩:=ok.all _ (mlook_mem hr);simp only[Option.getD_some] at *;omega
theorem Sr.Ok.check {x:Sr} (ok:x.Ok) (t:Int):(x.check t).1.Ok:=by
 unfold Sr.check;split
 ·exact ok
 ·rename_i hh
  have:=has_range (by simpa using hh)
  cases hr:mlook x.checks t with
  | none=>exact ok.ask t this.1 this.2 (by rw[hr];simp)
  | some c=>exact ok
def Sr.message (x:Sr) (m:Tm):Sr × List Ef :=
 if m.bad≠0 then (x,[]) else
 if m.ty=1 then x.request m else
 if m.ty=5 then x.response m.ai else
 if m.ty=7 then if (x.check m.ai).2.2=0 then ((x.check m.ai).1,(x.check m.ai).2.1) else ((x.check m.ai).1,(x.check m.ai).1.stray m.ai)
 else (x,[])
theorem Sr.Ok.message {x:Sr} (ok:x.Ok) (m:Tm):(x.message m).1.Ok:=by
 unfold Sr.message;split
 ·exact ok
 split
 ·exact ok.request m
 split
 ·exact ok.response _
 split
 ·split
  ·exact ok.check _
  ·exact ok.check _
 ·exact ok
theorem Tm.good {m:Tm} (h:m.bad=0):1<=m.ty/\m.ty<=7/\0<=m.ri/\m.ri<65536/\0<=m.ai/\m.ai<=127:=by
 unfold Tm.bad at h;split at h
 ·cases h
 split at h
 ·cases h
 split at h
 ·omega
 ·cases h
theorem so_message (s:Nat) (x:Sr) (m:Tm) (w0 w:World) (R:HP) (h:St w0 w (SAt s x*R)) (ok:x.Ok) :
  Calls Tryz.prog 69 #[ptr s,.agg #[.int .i64 m.ty,.int .i64 m.ri,.int .i64 m.ai]] w fun e w'=>∃ v,e=.returned v/\St w0 w' (EAt v (x.message m).2*(SAt s (x.message m).1*R)):=by
 have h1:=(h.alloc (.cells #[.int .i64 m.ty,.int .i64 m.ri,.int .i64 m.ai] 43));have hp:=m_putq m w0 _ _ h1;obtain⟨bad,hbad⟩:∃ b,m.bad=b:=⟨_,rfl⟩;unfold Sr.message;rw[hbad] at hp ⊢;by_cases hb:bad=0
 ·subst hb
  have hg:=Tm.good hbad;rw[if_neg (by simp)];have hka:=kok m.ai (by omega) (by omega);obtain⟨ty,ri,ai⟩:=m;simp only[] at *;clear hbad;by_cases t1:ty=1
  ·rw[if_pos t1]
   subst t1;go_enter Tryz.func69,Tryz.ntmps69
   go_wp2_with fail
   refine hp.mono ?_
   rintro e w1 ⟨⟨str,rfl⟩,h2⟩;have c2:=h2.cell;go_wp2_with fail
   refine (so_request s x ⟨1,ri,ai⟩ _ _ _ h2.f2 ok).mono ?_
   rintro e w2 ⟨v,rfl,h3⟩;go_wp2;go_ret
   exact⟨_,rfl,h3.f3.drop⟩
  rw[if_neg t1];by_cases t5:ty=5
  ·rw[if_pos t5]
   subst t5;go_enter Tryz.func69,Tryz.ntmps69
   go_wp2_with fail
   refine hp.mono ?_
   rintro e w1 ⟨⟨str,rfl⟩,h2⟩;have c2:=h2.cell;go_wp2_with fail
   refine (so_response s x ai _ _ _ h2.f2 ok hka).mono ?_
   rintro e w2 ⟨v,rfl,h3⟩;go_wp2;go_ret
   exact⟨_,rfl,h3.f3.drop⟩
  rw[if_neg t5];have n1:(ty == 1)=false:=by simpa using t1
  have n5:(ty == 5)=false:=by simpa using t5
  by_cases t7:ty=7
  ·rw[if_pos t7]
   subst t7;by_cases hc:(x.check ai).2.2=0
   ·rw[if_pos hc]
    have HC:=Lib.hid hc;clear hc;go_enter Tryz.func69,Tryz.ntmps69
    go_wp2_with fail
    refine hp.mono ?_
    rintro e w1 ⟨⟨str,rfl⟩,h2⟩;have c2:=h2.cell;go_wp2_with fail
    refine (so_check s x ai _ _ _ h2.f2 ok hka).mono ?_
    rintro e w2 ⟨v,rfl,h3⟩;rw[HC.out];go_wp2;go_ret
    exact⟨_,rfl,h3.f3.drop⟩
   ·rw[if_neg hc]
    have hc':((x.check ai).2.2 == 0)=false:=by simpa using hc
    generalize hce:x.check ai=r at *;have HCE:=Lib.hid hce;have okc:=ok.check ai;clear hce;go_enter Tryz.func69,Tryz.ntmps69
    go_wp2_with fail
    refine hp.mono ?_
    rintro e w1 ⟨⟨str,rfl⟩,h2⟩;have c2:=h2.cell;go_wp2_with fail
    refine (so_check s x ai _ _ _ h2.f2 ok hka).mono ?_
    rintro e w2 ⟨v,rfl,h3⟩;rw[HCE.out] at h3 okc ⊢;obtain⟨x',l',er⟩:=r;simp only[] at *;have c3:=h3.f3.cell;go_wp2_with fail
    refine (so_stray s x' ai _ _ _ h3.f2 okc.on).mono ?_
    rintro e w4 ⟨v4,rfl,h5⟩;go_wp2;go_ret
    exact⟨_,rfl,h5.f4.drop.f3.drop⟩
  rw[if_neg t7];have n7:(ty == 7)=false:=by simpa using t7
  go_enter Tryz.func69,Tryz.ntmps69
  go_wp2_with fail
  refine hp.mono ?_
  rintro e w1 ⟨⟨str,rfl⟩,h2⟩;have c2:=h2.cell;go_wp2;go_ret
  exact⟨_,rfl,h2.drop.l_nil _ _ _⟩
 ·rw[if_pos hb]
  have hb':(bad == 0)=false:=by simpa using hb
  go_enter Tryz.func69,Tryz.ntmps69
  go_wp2_with fail
  refine hp.mono ?_
  rintro e w1 ⟨⟨str,rfl⟩,h2⟩;go_wp2;go_ret
  exact⟨_,rfl,h2.drop.l_nil _ _ _⟩
def Sr.timeout (x:Sr) (t:Int):Sr × List Ef :=
 match mlook x.checks t with
 | none=>(x,[])
 | some c=>if c.ans=0/\c.asked=1 then x.ask t else if 0<c.ans then (⟨x.pool,mdel x.checks t⟩,[]) else (⟨(x.pool.free t).1,mdel x.checks t⟩,[.of 2 t])
theorem so_timeout (s:Nat) (x:Sr) (tei:Int) (w0 w:World) (R:HP) (h:St w0 w (SAt s x*R)) (ok:x.Ok) (hk:kInt.ok tei) :
  Calls Tryz.prog 42 #[ptr s,.int .i64 tei] w fun e w'=>∃ v,e=.returned v/\St w0 w' (EAt v (x.timeout tei).2*(SAt s (x.timeout tei).1*R)):=by
 obtain⟨p,b,h1⟩:=h.s_open;have c:=h1.cell;have lt:=h1.lt;unfold Sr.timeout;cases hr:mlook x.checks tei with
 | none =>
   have hl:=h1.f3.chk_none hk hr;have h2:=(h.alloc (.cells #[.int .i64 0,.int .i64 0,.int .i64 0] 209)).drop;simp only[];go_enter Tryz.func42,Tryz.ntmps42
   go_wp2;go_ret
   exact⟨_,rfl,h2.l_nil _ _ _⟩
 | some cc =>
   obtain⟨ct,ca,cn⟩:=cc;have hm:=ok.all _ (mlook_mem hr);simp only[] at hm;obtain⟨hct,hm⟩:=hm;subst ct;have hl:=h1.f3.chk_some hk hr;have h2:=h1.alloc (.cells #[.int .i64 tei,.int .i64 ca,.int .i64 cn] 209);simp only[];by_cases hA:cn=0/\ca=1
   ·rw[if_pos hA]
    obtain⟨rfl,rfl⟩:=hA;have h3:=(h.alloc (.cells #[.int .i64 tei,.int .i64 1,.int .i64 0] 209)).drop;have ha:=so_ask s x tei _ _ _ h3 hk (by rw[hr];simp);go_enter Tryz.func42,Tryz.ntmps42
    go_wp2_with fail
    refine ha.mono ?_
    rintro e w2 ⟨v,rfl,h4⟩;go_wp2;go_ret
    exact⟨_,rfl,h4⟩
   rw[if_neg hA];by_cases hB:0<cn
   ·obtain rfl:cn=1:=by omega
    rw[if_pos hB];clear hA hB;go_enter Tryz.func42,Tryz.ntmps42
    go_upto_region 8 with fail
    generalize w.alloc _=w2 at *;clear h h1 c lt hl;have c2:=h2.cell;have c3:=h2.f2.cell;go_wp2_with (at_delete;refine wp_mdel rfl (.tmp 36) (.tmp 37) 174 3 rfl tyChk h2.f4 rfl tei rfl hk ?_;intro w3 h3;have h4:=h3.b4;have c4:=h4.cell;have c5:=h4.f2.cell;clear c2 c3)
    go_ret
    exact⟨_,rfl,(h4.drop.s_shut).l_nil _ _ _⟩
   ·obtain rfl:cn=0:=by omega
    obtain rfl:ca=2:=by omega
    rw[if_neg hB];have hon:=ok.on;clear hA hB;go_enter Tryz.func42,Tryz.ntmps42
    go_upto_region 8 with fail
    generalize w.alloc _=w2 at *;clear h h1 c lt hl;have c2:=h2.cell;have c3:=h2.f2.cell;go_wp2_with (at_delete;refine wp_mdel rfl (.tmp 36) (.tmp 37) 174 3 rfl tyChk h2.f4 rfl tei rfl hk ?_;intro w3 h3;have h4:=h3.b4;have c4:=h4.cell;have c5:=h4.f2.cell;clear c2 c3)
    refine (p_free p x.pool tei _ _ _ h4.f3 hon).mono ?_
    rintro e w5 ⟨rfl,h5⟩;go_wp2;go_ret
    have h6:=(h5.alloc (.cells (Ef.of 2 tei).cells.toArray TE)).l_mk (enc:=Ef.cells) (sz:=5) tyEf.len [.of 2 tei] 1 rfl (by simp[Ef.of]) (by decide);exact⟨_,rfl,(h6.f3.drop.b4.f2.s_shut).f2⟩
def Sr.removeP (x:Sr) (t:Int):Sr × List Ef × Int:=if kindOf t≠2 then (x,[],2) else ((x.remove t).1,(x.remove t).2,0)
section
variable {β:Type} {l:List (Int × β)} {k k':Int} {v:β}
theorem mlook_mdel_ne (h:k'≠k):∀ l:List (Int × β),mlook (mdel l k) k'=mlook l k'
 | []=>rfl
 | p :: l=>by
   unfold mdel;split
   ·rename_i hp
    conv=>rhs;unfold mlook
    rw[if_neg (by rw[hp];exact Ne.symm h)]
   ·conv=>lhs;unfold mlook
    conv=>rhs;unfold mlook
    split
    ·rfl
    ·exact mlook_mdel_ne h l
theorem mlook_mdel_same:∀ {l:List (Int × β)},(l.map (·.1)).Nodup->mlook (mdel l k) k=none
 | [],_=>rfl
 | p :: l,hn=>by
   simp only[List.map_cons,List.nodup_cons] at hn;unfold mdel;split
   ·rename_i hp
    exact mlook_none fun q hq e=>hn.1 (List.mem_map.2 ⟨q,hq,by rw[e,hp]⟩)
   ·rename_i hp
    unfold mlook;rw[if_neg hp];exact mlook_mdel_same hn.2
theorem mdel_subl (l:List (Int × β)):(mdel l k).Sublist l:=mdel_sublist k l
theorem mdel_nodup (hn:(l.map (·.1)).Nodup):((mdel l k).map (·.1)).Nodup:=((mdel_subl l).map _).nodup hn
end
theorem has_free (s:Pl) (t u:Int):(s.free t).1.has u=(s.has u && !(decide (u=t))):=by
 unfold Pl.free;by_cases h:s.has t=true
 ·rw[if_pos h]
  have hr:=has_range h;unfold Pl.has;by_cases hu:64<=u/\u<=126
  ·simp only[hu,Nat.testBit_xor,Nat.testBit_two_pow]
   by_cases e:u=t
   ·subst e
    unfold Pl.has at h;simp only[hr,and_self,decide_true,Bool.true_and] at h;simp[h]
   ·have:¬ (t.toNat - 64=u.toNat - 64):=by omega
    simp[this,e]
  ·simp[hu]
 ·rw[if_neg h]
  by_cases e:u=t
  ·subst e
   simp[h]
  ·simp[e]
def upd {α:Type} (f:Int->α) (t:Int) (v:α):Int->α:=fun u=>if u=t then v else f u
theorem Sr.Ok.new:Sr.Ok ⟨⟨0,62⟩,[]⟩:=⟨by decide,by decide,by simp⟩
theorem Sr.Ok.remove' {x:Sr} (ok:x.Ok) (t:Int):(x.remove t).1.Ok :=
 Sr.Ok.remove ok.on ok.last t fun p hp=>ok.all p ((mdel_subl _).subset hp)
structure Tl where
 f:Int->Bool
 g:Int->Bool
def Tl.step (s:Tl) (e:Ef):Option Tl :=
 if e.kind=1\/e.kind=2 then (if s.f e.tei=decide (e.kind=1) then none else some ⟨upd s.f e.tei (decide (e.kind=1)),s.g⟩)
 else if e.kind=3 then some ⟨s.f,upd s.g e.tei true⟩
 else if e.kind=4 then (if s.g e.tei=true then some ⟨s.f,upd s.g e.tei false⟩ else none)
 else some s
def Tl.all:List Ef->Tl->Option Tl
 | [],s=>some s
 | e :: l,s=>(s.step e).bind (Tl.all l)
theorem Tl.all_append (l m:List Ef) (s:Tl):Tl.all (l++m) s=(Tl.all l s).bind (Tl.all m):=by
 induction l generalizing s with
 | nil=>rfl
 | cons e l ih =>
   rw[List.cons_append];unfold Tl.all;cases h:s.step e with
   | none=>rfl
   | some s'=>exact ih s'
theorem step_said (s:Tl) (t ri ai:Int):s.step (.said t ri ai)=some s:=by unfold Tl.step Ef.said;simp
theorem step_given (s:Tl) (t:Int) (h:s.f t=false):s.step (.of 1 t)=some ⟨upd s.f t true,s.g⟩:=by unfold Tl.step Ef.of;simp[h]
theorem step_freed (s:Tl) (t:Int) (h:s.f t=true):s.step (.of 2 t)=some ⟨upd s.f t false,s.g⟩:=by unfold Tl.step Ef.of;simp[h]
theorem step_start (s:Tl) (t:Int):s.step (.of 3 t)=some ⟨s.f,upd s.g t true⟩:=by unfold Tl.step Ef.of;simp
theorem step_stop (s:Tl) (t:Int) (h:s.g t=true):s.step (.of 4 t)=some ⟨s.f,upd s.g t false⟩:=by unfold Tl.step Ef.of;simp[h]
theorem all_said (s:Tl) (t ri ai:Int) (l:List Ef):Tl.all (.said t ri ai :: l) s=Tl.all l s:=by
 show (s.step _).bind _=_
 rw[step_said];rfl
theorem all_start (s:Tl) (t:Int) (l:List Ef):Tl.all (.of 3 t :: l) s=Tl.all l ⟨s.f,upd s.g t true⟩:=by
 show (s.step _).bind _=_
 rw[step_start];rfl
structure Gv (x:Sr) (s:Tl):Prop where
 ok:x.Ok
 nd:(x.checks.map (·.1)).Nodup
 on:∀ t,s.f t=x.pool.has t
 run:∀ t,s.g t=(mlook x.checks t).isSome
 sub:∀ t,(mlook x.checks t).isSome=true->x.pool.has t=true
theorem isSome_put (l:List (Int × Chk)) (t u:Int) (v:Chk):(mlook (mput l t v) u).isSome=upd (fun u=>(mlook l u).isSome) t true u:=by
 unfold upd;by_cases h:u=t
 ·subst h;rw[if_pos rfl,mlook_mput_same];rfl
 ·rw[if_neg h,mlook_mput_ne h]
theorem isSome_del {l:List (Int × Chk)} (hn:(l.map (·.1)).Nodup) (t u:Int):(mlook (mdel l t) u).isSome=upd (fun u=>(mlook l u).isSome) t false u:=by
 unfold upd;by_cases h:u=t
 ·subst h;rw[if_pos rfl,mlook_mdel_same hn];rfl
 ·rw[if_neg h,mlook_mdel_ne h]
theorem Gv.nil:Gv ⟨⟨0,62⟩,[]⟩ ⟨fun _=>false,fun _=>false⟩:=⟨Sr.Ok.new,by simp,fun t=>by simp[Pl.has],fun _=>rfl,fun t h=>by cases h⟩
theorem Gv.ask {x:Sr} {s:Tl} (h:Gv x s) {t:Int} (ht:x.pool.has t=true) (ha:((mlook x.checks t).getD ⟨0,0,0⟩).asked<=1):∃ s',Tl.all (x.ask t).2 s=some s'/\Gv (x.ask t).1 s':=by
 have hr:=has_range ht;refine⟨⟨s.f,upd s.g t true⟩,?_,h.ok.ask t hr.1 hr.2 ha,mput_nodup h.nd,h.on,fun u=>?_,fun u hu=>?_⟩
 ·show Tl.all [.said 4 0 t,.of 3 t] s=_
  rw[all_said,all_start];rfl
 ·show upd s.g t true u=(mlook (mput _ _ _) u).isSome
  rw[isSome_put];unfold upd;split
  ·rfl
  ·exact h.run u
 ·have hu':(mlook (mput x.checks t _) u).isSome=true:=hu
  rw[isSome_put] at hu';unfold upd at hu';split at hu'
  ·rename_i e;rw[e];exact ht
  ·exact h.sub u hu'
theorem Gv.again {x:Sr} {s:Tl} (h:Gv x s) {t a n:Int} (hl:(mlook x.checks t).isSome=true) (h3:1<=a) (h4:a<=2) (h5:0<=n) (h6:n<=1):Gv ⟨x.pool,mput x.checks t ⟨t,a,n⟩⟩ s:=by
 have hr:=has_range (h.sub t hl);refine⟨h.ok.put hr.1 hr.2 h3 h4 h5 h6,mput_nodup h.nd,h.on,fun u=>?_,fun u hu=>?_⟩
 ·simp only[]
  rw[isSome_put,h.run];unfold upd;split
  ·rename_i e;rw[e];exact hl
  ·rfl
 ·simp only[] at hu ⊢
  rw[isSome_put] at hu;unfold upd at hu;split at hu
  ·rename_i e;rw[e];exact h.sub t hl
  ·exact h.sub u hu
theorem free_snd (s:Pl) (t:Int):(s.free t).2=s.has t:=by
 unfold Pl.free;by_cases h:s.has t=true
 ·rw[if_pos h,h]
 ·rw[if_neg h];simp at h;rw[h]
theorem Gv.remove {x:Sr} {s:Tl} (h:Gv x s) (t:Int) (hok:(x.remove t).1.Ok):∃ s',Tl.all (x.remove t).2 s=some s'/\Gv (x.remove t).1 s':=by
 have e0:(x.remove t).2=[.said 6 0 t,.said 6 0 t]++((if (mlook x.checks t).isSome=true then [.of 4 t] else [])++(if x.pool.has t=true then [.of 2 t] else [])):=by
  unfold Sr.remove;simp only[free_snd,List.append_assoc]
 have e1:Tl.all [.said 6 0 t,.said 6 0 t] s=some s:=by
  rw[all_said,all_said];rfl
 have e2:Tl.all (if (mlook x.checks t).isSome=true then [.of 4 t] else []) s=some ⟨s.f,upd s.g t false⟩:=by
  by_cases hc:(mlook x.checks t).isSome=true
  ·rw[if_pos hc]
   show (s.step _).bind _=_
   rw[step_stop s t (by rw[h.run];exact hc)];rfl
  ·rw[if_neg hc]
   have:upd s.g t false=s.g:=by
    funext u
    unfold upd;split
    ·rename_i e;rw[e,h.run];simpa using hc
    ·rfl
   rw[this];rfl
 have e3:Tl.all (if x.pool.has t=true then [.of 2 t] else []) ⟨s.f,upd s.g t false⟩=some ⟨upd s.f t false,upd s.g t false⟩:=by
  by_cases hc:x.pool.has t=true
  ·rw[if_pos hc]
   show (Tl.step _ _).bind _=_
   rw[step_freed _ t (by simp only[];rw[h.on];exact hc)];rfl
  ·rw[if_neg hc]
   have:upd s.f t false=s.f:=by
    funext u
    unfold upd;split
    ·rename_i e;rw[e,h.on];simpa using hc
    ·rfl
   rw[this];rfl
 refine⟨⟨upd s.f t false,upd s.g t false⟩,?_,hok,mdel_nodup h.nd,fun u=>?_,fun u=>?_,fun u hu=>?_⟩
 ·rw[e0,Tl.all_append,e1]
  show Tl.all _ s=_
  rw[Tl.all_append,e2];exact e3
 ·show upd s.f t false u=(x.pool.free t).1.has u
  rw[has_free,← h.on];unfold upd;by_cases hu:u=t
  ·simp[hu]
  ·simp[hu]
 ·show upd s.g t false u=(mlook (mdel x.checks t) u).isSome
  rw[isSome_del h.nd];unfold upd;split
  ·rfl
  ·exact h.run u
 ·have hu':(mlook (mdel x.checks t) u).isSome=true:=hu
  rw[isSome_del h.nd] at hu';show (x.pool.free t).1.has u=true
  rw[has_free];unfold upd at hu';split at hu'
  ·cases hu'
  ·rename_i e
   rw[h.sub u hu'];simp[e]
theorem Gv.stray {x:Sr} {s:Tl} (_h:Gv x s) (t:Int):Tl.all (x.stray t) s=some s:=by
 unfold Sr.stray;split
 ·rfl
 ·show (s.step _).bind _=_
  rw[step_said];rfl
theorem Gv.response {x:Sr} {s:Tl} (h:Gv x s) (t:Int):∃ s',Tl.all (x.response t).2 s=some s'/\Gv (x.response t).1 s':=by
 have hok:=h.ok.response t;unfold Sr.response at hok ⊢;cases hl:mlook x.checks t with
 | none =>
   simp only[] at hok ⊢;exact⟨s,h.stray t,h⟩
 | some c =>
   obtain⟨ct,ca,cn⟩:=c;have hm:=h.ok.all _ (mlook_mem hl);simp only[] at hm;obtain⟨hct,hm⟩:=hm;subst ct;rw[hl] at hok;simp only[] at hok ⊢;by_cases hc:1<cn+1
   ·rw[if_pos hc] at hok ⊢
    -- as if the check were put first: the answers' number has no part in what is told
    have hg:Gv ⟨x.pool,mput x.checks t ⟨t,ca,1⟩⟩ s:=h.again (by rw[hl];rfl) (by omega) (by omega) (by omega) (by omega);have e:(Sr.remove ⟨x.pool,mput x.checks t ⟨t,ca,cn+1⟩⟩ t)=(Sr.remove ⟨x.pool,mput x.checks t ⟨t,ca,1⟩⟩ t):=by
     unfold Sr.remove;simp only[mlook_mput_same];rw[mdel_mput (by rw[hl];simp),mdel_mput (by rw[hl];simp)];rfl
    rw[e] at hok ⊢;exact hg.remove t hok
   ·rw[if_neg hc] at hok ⊢
    exact⟨s,rfl,h.again (by rw[hl];rfl) (by omega) (by omega) (by omega) (by omega)⟩
theorem Gv.check {x:Sr} {s:Tl} (h:Gv x s) (t:Int):∃ s',Tl.all (x.check t).2.1 s=some s'/\Gv (x.check t).1 s':=by
 unfold Sr.check;by_cases hh:x.pool.has t=false
 ·rw[if_pos hh];exact⟨s,rfl,h⟩
 ·rw[if_neg hh]
  cases hl:mlook x.checks t with
  | some c=>exact⟨s,rfl,h⟩
  | none=>exact h.ask (by simpa using hh) (by rw[hl];decide)
theorem audit_aux:∀ (l:List Nat) (x:Sr) (s:Tl),Gv x s->(∀ i ∈ l,x.pool.has (64+(i:Int))=true)->∃ s',Tl.all (l.map fun (i:Nat)=>.of 3 (64+(i:Int))) s=some s'/\Gv (x.auditK l) s'
 | [],x,s,h,_=>⟨s,rfl,h⟩
 | i :: l,x,s,h,hl=>by
   have hi:=hl i (by simp);have hr:=has_range hi;have h2:Gv ⟨x.pool,mput x.checks (64+(i:Int)) ⟨64+(i:Int),1,0⟩⟩ ⟨s.f,upd s.g (64+(i:Int)) true⟩:=by
    refine⟨h.ok.put hr.1 hr.2 (by omega) (by omega) (by omega) (by omega),mput_nodup h.nd,h.on,fun u=>?_,fun u hu=>?_⟩
    ·simp only[]
     rw[isSome_put];unfold upd;split
     ·rfl
     ·exact h.run u
    ·simp only[] at hu ⊢
     rw[isSome_put] at hu;unfold upd at hu;split at hu
     ·rename_i e;rw[e];exact hi
     ·exact h.sub u hu
   obtain⟨s',e,h3⟩:=audit_aux l _ _ h2 (fun j hj=>hl j (by simp[hj]));refine⟨s',?_,h3⟩
   show (s.step _).bind _=_
   rw[step_start];exact e
theorem upto_has {s:Pl} {i:Nat} (h:i ∈ s.upto 63):s.has (64+(i:Int))=true:=by
 have:=List.mem_filter.1 h
 have h1:=List.mem_range.1 this.1;unfold Pl.has;rw[decide_eq_true (by omega),Bool.true_and,show (64+(i:Int)).toNat - 64=i by omega];exact this.2
theorem Gv.audit {x:Sr} {s:Tl} (h:Gv x s):∃ s',Tl.all x.audit.2 s=some s'/\Gv x.audit.1 s':=by
 obtain⟨s',e,h2⟩:=audit_aux (x.pool.upto 63) x s h (fun i hi=>upto_has hi);refine⟨s',?_,h2⟩
 show (s.step _).bind _=_
 rw[step_said];exact e
theorem seek_law:∀ (k:Nat) (s:Pl),((Pl.seek k s).2.2=0->s.has (Pl.seek k s).2.1=false/\∀ u,(Pl.seek k s).1.has u=(s.has u || decide (u=(Pl.seek k s).2.1)))/\((Pl.seek k s).2.2≠0->∀ u,(Pl.seek k s).1.has u=s.has u)
 | 0,s=>⟨fun h=>by simp[Pl.seek] at h,fun _ _=>rfl⟩
 | k+1,s=>by
   unfold Pl.seek;split
   ·exact seek_law k ⟨s.on,(s.last+1) % 63⟩
   ·rename_i hb
    refine⟨fun _=>?_,fun h=>absurd rfl h⟩
    simp only[];have hi:(s.last+1) % 63<63:=Nat.mod_lt _ (by decide);generalize (s.last+1) % 63=i at *;constructor
    ·unfold Pl.has
     rw[show (64+(i:Int)).toNat - 64=i by omega];simp[hb]
    ·intro u
     unfold Pl.has;by_cases hu:64<=u/\u<=126
     ·simp only[hu,Nat.testBit_or,Nat.testBit_two_pow]
      by_cases e:u=64+(i:Int)
      ·subst e
       rw[show (64+(i:Int)).toNat - 64=i by omega];simp
      ·have:¬ (i=u.toNat - 64):=by omega
       simp[this,e]
     ·have:¬ (u=64+(i:Int)):=by omega
      simp[hu,this]
theorem Gv.request {x:Sr} {s:Tl} (h:Gv x s) (m:Tm):∃ s',Tl.all (x.request m).2 s=some s'/\Gv (x.request m).1 s':=by
 have hok:=h.ok.request m;have hs:=seek_law 63 x.pool;unfold Sr.request at hok ⊢;by_cases h1:m.ai≠127
 ·rw[if_pos h1]
  refine⟨s,?_,h⟩
  show (s.step _).bind _=_
  rw[step_said];rfl
 rw[if_neg h1] at hok ⊢;by_cases h2:(Pl.seek 63 x.pool).2.2=0
 ·rw[if_pos h2] at hok ⊢
  obtain⟨h3,h4⟩:=hs.1 h2;generalize Pl.seek 63 x.pool=r at *;obtain⟨p,t,c⟩:=r;simp only[] at *;refine⟨⟨upd s.f t true,s.g⟩,?_,hok,h.nd,fun u=>?_,h.run,fun u hu=>?_⟩
  ·rw[all_said]
   show (s.step _).bind _=_
   rw[step_given s t (by rw[h.on];exact h3)];rfl
  ·simp only[]
   rw[h4,← h.on];unfold upd;by_cases e:u=t
   ·simp[e]
   ·simp[e]
  ·simp only[] at hu ⊢
   rw[h4,h.sub u hu];rfl
 ·rw[if_neg h2] at hok ⊢
  have h4:=hs.2 h2;have hb:=seek_on 63 x.pool h.ok.on h.ok.last;have hg:Gv ⟨(Pl.seek 63 x.pool).1,x.checks⟩ s:=⟨⟨hb.1,hb.2,h.ok.all⟩,h.nd,fun u=>by rw[h.on];exact (h4 u).symm,h.run,fun u hu=>(h4 u).trans (h.sub u hu)⟩;obtain⟨s',e,h5⟩:=hg.audit;refine⟨s',?_,h5⟩
  show (s.step _).bind _=_
  rw[step_said];exact e
theorem check_same {x:Sr} {t:Int} (h:(x.check t).2.2≠0):(x.check t).1=x:=by
 unfold Sr.check at h ⊢;split
 ·rfl
 ·cases hl:mlook x.checks t with
  | some c=>rfl
  | none =>
    rename_i hh
    rw[if_neg hh,hl] at h;exact absurd rfl h
theorem Gv.message {x:Sr} {s:Tl} (h:Gv x s) (m:Tm):∃ s',Tl.all (x.message m).2 s=some s'/\Gv (x.message m).1 s':=by
 unfold Sr.message;split
 ·exact⟨s,rfl,h⟩
 split
 ·exact h.request m
 split
 ·exact h.response m.ai
 split
 ·by_cases hc:(x.check m.ai).2.2=0
  ·rw[if_pos hc]
   exact h.check m.ai
  ·rw[if_neg hc]
   simp only[];rw[check_same hc];exact⟨s,h.stray m.ai,h⟩
 ·exact⟨s,rfl,h⟩
theorem Gv.removeP {x:Sr} {s:Tl} (h:Gv x s) (t:Int):∃ s',Tl.all (x.removeP t).2.1 s=some s'/\Gv (x.removeP t).1 s':=by
 unfold Sr.removeP;split
 ·exact⟨s,rfl,h⟩
 ·exact h.remove t (h.ok.remove' t)
theorem ask_all (x:Sr) (t:Int) (s:Tl):Tl.all (x.ask t).2 s=some ⟨s.f,upd s.g t true⟩:=by
 show Tl.all [.said 4 0 t,.of 3 t] s=_
 rw[all_said,all_start];rfl
theorem upd_upd {α:Type} (f:Int->α) (t:Int) (a b:α):upd (upd f t a) t b=upd f t b:=by
 funext u
 unfold upd;split <;> rfl
theorem Gv.timeout {x:Sr} {s:Tl} (h:Gv x s) (t:Int):∃ s',Tl.all (x.timeout t).2 ⟨s.f,upd s.g t false⟩=some s'/\Gv (x.timeout t).1 s':=by
 unfold Sr.timeout;cases hl:mlook x.checks t with
 | none =>
   refine⟨_,rfl,h.ok,h.nd,h.on,fun u=>?_,h.sub⟩
   show upd s.g t false u=_
   unfold upd;split
   ·rename_i e;rw[e,hl];rfl
   ·exact h.run u
 | some c =>
   have hh:=h.sub t (by rw[hl];rfl);simp only[];by_cases hA:c.ans=0/\c.asked=1
   ·rw[if_pos hA]
    obtain⟨s',e,hg⟩:=h.ask hh (by rw[hl];simp[hA.2]);rw[ask_all] at e ⊢;simp only[upd_upd];exact⟨s',e,hg⟩
   ·rw[if_neg hA]
    have okp:∀ p ∈ mdel x.checks t,p.2.tei=p.1/\64<=p.1/\p.1<=126/\1<=p.2.asked/\p.2.asked<=2/\0<=p.2.ans/\p.2.ans<=1:=fun p hp=>h.ok.all p ((mdel_subl _).subset hp)
    have hrun:∀ u,upd s.g t false u=(mlook (mdel x.checks t) u).isSome:=fun u=>by
     rw[isSome_del h.nd];unfold upd;split
     ·rfl
     ·exact h.run u
    have hsub:∀ u,(mlook (mdel x.checks t) u).isSome=true->u≠t/\x.pool.has u=true:=fun u hu=>by
     rw[isSome_del h.nd] at hu;unfold upd at hu;split at hu
     ·cases hu
     ·rename_i e;exact⟨e,h.sub u hu⟩
    by_cases hB:0<c.ans
    ·rw[if_pos hB]
     exact⟨_,rfl,⟨h.ok.on,h.ok.last,okp⟩,mdel_nodup h.nd,h.on,hrun,fun u hu=>(hsub u hu).2⟩
    ·rw[if_neg hB]
     have hf:=free_ok x.pool t h.ok.on;refine⟨⟨upd s.f t false,upd s.g t false⟩,?_,⟨hf.1,by simp only[];rw[hf.2];exact h.ok.last,okp⟩,mdel_nodup h.nd,fun u=>?_,hrun,fun u hu=>?_⟩
     ·show (Tl.step _ _).bind _=_
      rw[step_freed _ t (by simp only[];rw[h.on];exact hh)];rfl
     ·show upd s.f t false u=(x.pool.free t).1.has u
      rw[has_free,← h.on];unfold upd;by_cases e:u=t
      ·simp[e]
      ·simp[e]
     ·simp only[] at hu ⊢
      rw[has_free,(hsub u hu).2];simp[(hsub u hu).1]
end Go.Proofs.YtjcldoejpldcmaaGreatDoor
