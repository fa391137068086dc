/- Parts of a proof (TermQ, TermC, TermD, TermE). No condition. -/
import Derived.Test.YtnnahljdhdippaaGreatDoorC17
import Derived.Test.YtnnahljdhdippaaGreatDoorC10
import Derived.Test.YtnnahljdhdippaaGreatDoorC18
namespace Go.Proofs.YtnnahljdhdippaaGreatDoor
set_option maxRecDepth 100000
set_option maxHeartbeats 6400000
open Go.RowKit
structure Us.Ok (u:Us):Prop where
 t0:0<=u.v.tries
 tm:u.v.tries<=u.most
 m1:1<=u.most
 m32:u.most<=32
 tei:u.v.tei= -1\/(64<=u.v.tei/\u.v.tei<=126)
def UeG (y:Ue):Prop:=(y.kind=0->y.m.bad=0)/\(y.kind=1->64<=y.tei/\y.tei<=126)
def Uxs (l:List Ue):Prop:=∀ y ∈ l,UeG y
theorem dr_range (d:Dr):0<=d.next.2/\d.next.2<65536:=by
 unfold Dr.next;split
 ·exact⟨Int.le_refl _,by show (0:Int)<65536;decide⟩
 ·split
  ·rename_i n r _
   show 0<=n % (65536:Int)/\n % (65536:Int)<65536
   omega
  ·obtain⟨h1,h2⟩:=u64_range (IntKind.u64.wrap (d.state*6364136223846793005)+1442695040888963407)
   dsimp only;generalize IntKind.u64.wrap (IntKind.u64.wrap (d.state*6364136223846793005)+1442695040888963407)=z at *;omega
theorem tm_ok {t r a:Int} (t1:1<=t) (t7:t<=7) (r0:0<=r) (r1:r<65536) (a0:0<=a) (a1:a<=127):Tm.bad ⟨t,r,a⟩=0:=by
 unfold Tm.bad;dsimp only;rw[if_neg (by omega),if_neg (by omega),if_pos ⟨a0,a1⟩]
theorem uxs_nil:Uxs []:=fun y hy=>by cases hy
theorem uxs_one {y:Ue} (h:UeG y):Uxs [y]:=fun z hz=>by rw[List.mem_singleton.1 hz];exact h
theorem uxs_two {y z:Ue} (h:UeG y) (h2:UeG z):Uxs [y,z]:=fun a ha=>by
 rcases List.mem_cons.1 ha with e | ha
 ·rw[e];exact h
 ·rw[List.mem_singleton.1 ha];exact h2
theorem ueG_of (k t:Int) (h0:k≠0) (h1:k≠1):UeG (.of k t):=⟨fun e=>absurd e h0,fun e=>absurd e h1⟩
theorem ueG_say {t r a:Int} (h:Tm.bad ⟨t,r,a⟩=0):UeG (.say t r a):=⟨fun _=>h,fun e=>absurd (show (0:Int)=1 from e) (by decide)⟩
theorem us_ask {u:Us} (h:u.Ok) (n:Int) (h0:0<=n) (h1:n<=u.most):(u.ask n).1.Ok/\Uxs (u.ask n).2:=by
 obtain⟨r0,r1⟩:=dr_range u.d;exact⟨⟨h0,h1,h.m1,h.m32,.inl rfl⟩,uxs_two (ueG_say (tm_ok (by decide) (by decide) r0 r1 (by decide) (by decide))) (ueG_of 4 0 (by decide) (by decide))⟩
theorem us_zero {u:Us} (h:u.Ok):Us.Ok { u with v:=.zero }:=⟨Int.le_refl _,by show (0:Int)<=u.most;have:=h.m1;omega,h.m1,h.m32,.inl rfl⟩
theorem us_lose {u:Us} (h:u.Ok):u.lose.1.Ok/\Uxs u.lose.2:=⟨us_zero h,uxs_one (ueG_of 2 _ (by decide) (by decide))⟩
theorem us_want {u:Us} (h:u.Ok):u.want.1.Ok/\Uxs u.want.2.1:=by
 unfold Us.want;split
 ·exact⟨h,uxs_nil⟩
 ·split
  ·exact⟨h,uxs_nil⟩
  ·exact us_ask h 1 (by decide) h.m1
theorem us_message {u:Us} (h:u.Ok) (m:Tm):(u.message m).1.Ok/\Uxs (u.message m).2:=by
 unfold Us.message;split
 ·exact⟨h,uxs_nil⟩
 ·split
  ·rename_i h2
   have ha:64<=m.ai/\m.ai<=126:=by have:=h2.2.2.2;unfold autoTei at this;simpa using this
   refine⟨⟨Int.le_refl _,by show (0:Int)<=u.most;have:=h.m1;omega,h.m1,h.m32,.inr ha⟩,uxs_two (ueG_of 5 _ (by decide) (by decide)) ⟨fun e=>absurd (show (1:Int)=0 from e) (by decide),fun _=>ha⟩⟩
  ·split
   ·exact us_lose h
   ·split
    ·rename_i h4
     have hm:u.v.tei≠ -1:=by have:=h4.2;unfold Us.mine at this;simp at this;exact this.1
     obtain⟨r0,r1⟩:=dr_range u.d;have ht:=h.tei;exact⟨⟨h.t0,h.tm,h.m1,h.m32,h.tei⟩,uxs_one (ueG_say (tm_ok (by decide) (by decide) r0 r1 (by omega) (by omega)))⟩
    ·exact⟨h,uxs_nil⟩
theorem us_drop {u:Us} (h:u.Ok):u.drop.1.Ok/\Uxs u.drop.2.1:=by
 unfold Us.drop;split
 ·exact⟨us_zero h,uxs_one (ueG_of 5 _ (by decide) (by decide))⟩
 ·split
  ·exact⟨h,uxs_nil⟩
  ·exact us_lose h
theorem us_timeout {u:Us} (h:u.Ok):u.timeout.1.Ok/\Uxs u.timeout.2:=by
 unfold Us.timeout;split
 ·exact⟨h,uxs_nil⟩
 ·split
  ·exact⟨us_zero h,uxs_one (ueG_of 3 _ (by decide) (by decide))⟩
  ·rename_i hn
   exact us_ask h _ (by have:=h.t0;omega) (by have:=h.tm;omega)
theorem us_want_len (u:Us):u.want.2.1.length<=2:=by
 unfold Us.want;repeat' split
 all_goals first | exact Nat.zero_le _ | exact Nat.le_refl 2
theorem us_message_len (u:Us) (m:Tm):(u.message m).2.length<=2:=by
 unfold Us.message;repeat' split
 all_goals first | exact Nat.zero_le _ | exact Nat.le_refl 2 | exact Nat.le_succ 1
theorem us_drop_len (u:Us):u.drop.2.1.length<=2:=by
 unfold Us.drop;repeat' split
 all_goals first | exact Nat.zero_le _ | exact Nat.le_succ 1
theorem us_timeout_len (u:Us):u.timeout.2.length<=2:=by
 unfold Us.timeout;repeat' split
 all_goals first | exact Nat.zero_le _ | exact Nat.le_succ 1 | exact Nat.le_refl 2
theorem mput_mem {α β:Type} [DecidableEq α] {k:α} {v:β} {p:α × β}:∀ {l:List (α × β)},p ∈ mput l k v->p ∈ l\/p=(k,v)
 | [],h=>.inr (by simpa[mput] using h)
 | q :: l,h=>by
   unfold mput at h;split at h
   ·rcases List.mem_cons.1 h with e | h
    ·exact .inr e
    ·exact .inl (List.mem_cons_of_mem _ h)
   ·rcases List.mem_cons.1 h with e | h
    ·exact .inl (by rw[e];simp)
    ·rcases mput_mem h with h | h
     ·exact .inl (List.mem_cons_of_mem _ h)
     ·exact .inr h
theorem mput_nodup {α β:Type} [DecidableEq α] {k:α} {v:β}:∀ {l:List (α × β)},(l.map (·.1)).Nodup->((mput l k v).map (·.1)).Nodup
 | [],_=>by simp[mput]
 | q :: l,h=>by
   rw[List.map_cons,List.nodup_cons] at h;unfold mput;split
   ·rename_i e
    rw[List.map_cons,List.nodup_cons];exact⟨by rw[← e];exact h.1,h.2⟩
   ·rename_i e
    rw[List.map_cons,List.nodup_cons];refine⟨fun hm=>?_,mput_nodup h.2⟩
    obtain⟨p,hp,e2⟩:=List.mem_map.1 hm;rcases mput_mem hp with hp | hp
    ·exact h.1 (List.mem_map.2 ⟨p,hp,e2⟩)
    ·rw[hp] at e2;exact e e2.symm
theorem mdel_sublist {α β:Type} [DecidableEq α] (k:α):∀ l:List (α × β),(mdel l k).Sublist l
 | []=>by unfold mdel;exact List.Sublist.refl _
 | q :: l=>by
   unfold mdel;split
   ·exact List.sublist_cons_self _ _
   ·exact (mdel_sublist k l).cons_cons _
def Keys (c:Tms):Prop:=(c.map (·.1)).Nodup/\∀ p ∈ c,p.1=(0,200)\/p.1=(0,202)\/p.1=(0,203)
theorem keys_nil:Keys []:=⟨by simp,fun p hp=>by cases hp⟩
theorem keys_sub {c d:Tms} (h:Keys c) (hs:d.Sublist c):Keys d:=⟨(hs.map _).nodup h.1,fun p hp=>h.2 p (hs.subset hp)⟩
theorem keys_stop {c:Tms} (h:Keys c) (k:Key):Keys (mdel c k):=keys_sub h (mdel_sublist k c)
theorem keys_start {c:Tms} (h:Keys c) {t:Int} (ht:t=200\/t=202\/t=203) (now p:Int):Keys (cstart c (0,t) now p).1:=by
 unfold cstart;split
 ·exact h
 ·refine⟨mput_nodup h.1,fun q hq=>?_⟩
  rcases mput_mem hq with hq | hq
  ·exact h.2 q hq
  ·rw[hq]
   rcases ht with rfl | rfl | rfl
   ·exact .inl rfl
   ·exact .inr (.inl rfl)
   ·exact .inr (.inr rfl)
theorem keys_len {c:Tms} (h:Keys c):c.length<=3:=by
 have hL:([(0,200),(0,202),(0,203)]:List Key).Nodup:=by decide
 have hp:(c.map (·.1)).Perm (([(0,200),(0,202),(0,203)]:List Key).filter fun k=>decide (k ∈ c.map (·.1))):=by
  rw[List.perm_ext_iff_of_nodup h.1 (List.filter_sublist.nodup hL)];intro k;simp only[List.mem_filter,decide_eq_true_eq];constructor
  ·intro hk
   refine⟨?_,hk⟩
   obtain⟨p,hp,e⟩:=List.mem_map.1 hk;have:=h.2 p hp
   rw[e] at this;simpa using this
  ·exact fun hk=>hk.2
 have:=hp.length_eq
 rw[List.length_map] at this;rw[this];exact Nat.le_trans (List.length_filter_le _ _) (Nat.le_refl 3)
structure Tt.Fit (x:Tt):Prop where
 e:x.e.Fit
 u:x.u.Ok
 d:x.d.Fits
 k:Keys x.c
def Tt.len (x:Tt):Nat:=x.sent.length+x.told.length
section
variable {x:Tt}
theorem fit_send (h:x.Fit) (f:Fr):(x.send f).Fit:=⟨h.e,h.u,h.d,h.k⟩
theorem fit_tell (h:x.Fit) (k:Int) (d:ByteArray):(x.tell k d).Fit:=⟨h.e,h.u,h.d,h.k⟩
theorem fit_start (h:x.Fit) {t:Int} (ht:t=200\/t=202\/t=203):(x.start t).Fit:=⟨h.e,h.u,h.d,keys_start h.k ht _ _⟩
theorem fit_stop (h:x.Fit) (t:Int):(x.stop t).Fit:=⟨h.e,h.u,h.d,keys_stop h.k _⟩
theorem send_len (f:Fr):(x.send f).len=x.len+1:=by unfold Tt.len Tt.send;simp only[List.length_append,List.length_singleton];omega
theorem tell_len (k:Int) (d:ByteArray):(x.tell k d).len=x.len+1:=by unfold Tt.len Tt.tell;simp only[List.length_append,List.length_singleton];omega
theorem fit_link0 {t:Int} {y:Fx} (h:x.Fit) (hy:FxG t y):(x.link0 y).Fit/\(x.link0 y).len<=x.len+1:=by
 unfold Tt.link0;split
 ·exact⟨fit_send h _,Nat.le_of_eq (send_len _)⟩
 ·split
  ·rename_i h9
   exact⟨fit_start h (by rcases hy.2.1 with e | e | e;exact absurd h9 e.2;exact .inl e;exact .inr (.inr e)),Nat.le_succ _⟩
  ·split
   ·exact⟨fit_stop h _,Nat.le_succ _⟩
   ·exact⟨fit_tell h _ _,Nat.le_of_eq (tell_len _ _)⟩
theorem fit_links0 {t:Int}:∀ (l:List Fx) {x:Tt},x.Fit->Fxs t l->(x.links0 l).Fit/\(x.links0 l).len<=x.len+l.length
 | [],_,h,_=>⟨h,Nat.le_refl _⟩
 | y :: l,x,h,hl=>by
   obtain⟨h1,n1⟩:=fit_link0 h (hl y (by simp)).1;obtain⟨h2,n2⟩:=fit_links0 l h1 (fun z hz=>hl z (List.mem_cons_of_mem _ hz));refine⟨h2,?_⟩
   rw[List.length_cons];exact Nat.le_trans n2 (by omega)
theorem link0_e (y:Fx):(x.link0 y).e=x.e:=by unfold Tt.link0;(repeat' split) <;> rfl
theorem link0_u (y:Fx):(x.link0 y).u=x.u:=by unfold Tt.link0;(repeat' split) <;> rfl
theorem link0_d (y:Fx):(x.link0 y).d=x.d:=by unfold Tt.link0;(repeat' split) <;> rfl
theorem link0_cf (y:Fx):(x.link0 y).cf=x.cf:=by unfold Tt.link0;(repeat' split) <;> rfl
theorem links0_e:∀ (l:List Fx) {x:Tt},(x.links0 l).e=x.e
 | [],_=>rfl
 | y :: l,_=>(links0_e l).trans (link0_e y)
theorem links0_u:∀ (l:List Fx) {x:Tt},(x.links0 l).u=x.u
 | [],_=>rfl
 | y :: l,_=>(links0_u l).trans (link0_u y)
theorem links0_d:∀ (l:List Fx) {x:Tt},(x.links0 l).d=x.d
 | [],_=>rfl
 | y :: l,_=>(links0_d l).trans (link0_d y)
theorem links0_cf:∀ (l:List Fx) {x:Tt},(x.links0 l).cf=x.cf
 | [],_=>rfl
 | y :: l,_=>(links0_cf l).trans (link0_cf y)
theorem fit_setE (h:x.Fit) {e:En} (he:e.Fit):(x.setE e).Fit:=⟨he,h.u,h.d,h.k⟩
theorem fit_setU (h:x.Fit) {u:Us} (hu:u.Ok):(x.setU u).Fit:=⟨h.e,hu,h.d,h.k⟩
theorem out0 {e:En} (h:e.Fit):Out e 0:=by unfold Out;rw[h.out];exact Nat.le_refl _
theorem fit_user1 {y:Ue} (h:x.Fit):(x.user1 y).Fit/\(x.user1 y).len<=x.len+100000:=by
 unfold Tt.user1;split
 ·exact⟨fit_send h _,by rw[send_len];omega⟩
 ·split
  ·exact⟨fit_start h (.inr (.inl rfl)),Nat.le_add_right _ _⟩
  ·split
   ·exact⟨fit_stop h _,Nat.le_add_right _ _⟩
   ·split
    ·obtain⟨h1,h2,_⟩:=fit_assign h.e y.tei
     have hn:=assign_len x.e (out0 h.e) h.e.ok.b.un y.tei;obtain⟨h3,n3⟩:=fit_links0 _ (fit_setE h h1) h2;exact⟨h3,Nat.le_trans n3 (Nat.add_le_add_left hn _)⟩
    ·obtain⟨h1,h2⟩:=fit_remove h.e
     have hn:=remove_len x.e (out0 h.e);obtain⟨h3,n3⟩:=fit_links0 _ (fit_setE h h1) h2;exact⟨h3,Nat.le_trans n3 (Nat.add_le_add_left hn _)⟩
theorem fit_users:∀ (l:List Ue) {x:Tt},x.Fit->(x.users l).Fit/\(x.users l).len<=x.len+100000*l.length
 | [],_,h=>⟨h,Nat.le_refl _⟩
 | y :: l,x,h=>by
   obtain⟨h1,n1⟩:=fit_user1 (y:=y) h;obtain⟨h2,n2⟩:=fit_users l h1;refine⟨h2,?_⟩
   rw[List.length_cons];exact Nat.le_trans n2 (by omega)
theorem links_eq:∀ (l:List Fx) (x:Tt),(∀ z ∈ l,z.kind≠8)->x.links l=x.links0 l
 | [],_,_=>rfl
 | y :: l,x,h=>by
   have e:x.link1 y=x.link0 y:=by unfold Tt.link1;rw[if_neg (h y (by simp))]
   show (x.link1 y).links l=(x.link0 y).links0 l
   rw[e];exact links_eq l _ (fun z hz=>h z (List.mem_cons_of_mem _ hz))
theorem links_wish (x:Tt):x.links [Fx.of 8 noStr]=(x.setU x.u.want.1).users x.u.want.2.1:=by
 show x.link1 (Fx.of 8 noStr)=_
 unfold Tt.link1;rw[if_pos rfl]
theorem fit_links {t:Int} {l:List Fx} (h:x.Fit) (hl:Fxs t l\/l=[Fx.of 8 noStr]) (hn:l.length<=100000):(x.links l).Fit/\(x.links l).len<=x.len+300000:=by
 rcases hl with hl | rfl
 ·rw[links_eq l x (fun z hz=>(hl z hz).1.2.2)]
  obtain⟨h1,n1⟩:=fit_links0 l h hl;exact⟨h1,by omega⟩
 ·rw[links_wish]
  obtain⟨h1,n1⟩:=fit_users x.u.want.2.1 (fit_setU h (us_want h.u).1);have h2:=us_want_len x.u;have h3:(x.setU x.u.want.1).len=x.len:=rfl;exact⟨h1,by omega⟩
theorem fit_begin (h:x.Fit) (now:Int):(x.begin now).Fit:=⟨h.e,h.u,h.d,h.k⟩
theorem fit_hush (h:x.Fit):x.hush.Fit:=⟨h.e,h.u,h.d,h.k⟩
theorem fit_tt_ask (h:x.Fit) (now a:Int) (d:ByteArray):(x.ask now a d).1.Fit:=by
 unfold Tt.ask;split
 ·exact fit_hush h
 ·obtain⟨h1,h2⟩:=fit_ask h.e a d
  exact (fit_links (fit_setE (fit_begin h now) h1) (h2.imp id (fun e=>e.1)) (ask_len x.e (out0 h.e) a d)).1
theorem fit_come (h:x.Fit) (s:ByteArray):(x.come s).Fit/\(x.come s).len<=x.len+300000:=by
 unfold Tt.come;dsimp only;split
 ·exact⟨h,Nat.le_add_right _ _⟩
 ·split
  ·obtain⟨h1,h2⟩:=us_message h.u (tmOf (getO s true).1 true).1
   obtain⟨h3,n3⟩:=fit_users (x.u.message (tmOf (getO s true).1 true).1).2 (fit_setU h h1);have hn:=us_message_len x.u (tmOf (getO s true).1 true).1;have h4:(x.setU (x.u.message (tmOf (getO s true).1 true).1).1).len=x.len:=rfl;exact⟨h3,by omega⟩
  ·split
   ·exact⟨h,Nat.le_add_right _ _⟩
   ·split
    ·exact⟨fit_tell h _ _,by rw[tell_len];omega⟩
    ·split
     ·obtain⟨h1,h2⟩:=fit_frame h.e (getO s true).1
      obtain⟨h3,n3⟩:=fit_links (fit_setE h h1) (.inl h2) (frame_len x.e (out0 h.e) _);exact⟨h3,n3⟩
     ·exact⟨h,Nat.le_add_right _ _⟩
theorem fit_event (h:x.Fit) (v:Ev):(x.event v).Fit/\(x.event v).len<=x.len+300000:=by
 unfold Tt.event;split
 ·exact fit_come h _
 ·exact⟨h,Nat.le_add_right _ _⟩
theorem fit_events:∀ (l:List Ev) {x:Tt},x.Fit->(l.foldl Tt.event x).Fit/\(l.foldl Tt.event x).len<=x.len+300000*l.length
 | [],_,h=>⟨h,Nat.le_refl _⟩
 | y :: l,x,h=>by
   obtain⟨h1,n1⟩:=fit_event h y;obtain⟨h2,n2⟩:=fit_events l h1;refine⟨h2,?_⟩
   rw[List.length_cons];exact Nat.le_trans n2 (by omega)
theorem fits_feed:∀ (l:List Bool) {d:De},d.Fits->(d.feed l).1.Fits
 | [],_,h=>h
 | b :: l,_,h=>fits_feed l (fits_bit h b)
theorem fit_tt_bits (h:x.Fit) (now:Int) (b:ByteArray):(x.bits now b).1.Fit:=by
 unfold Tt.bits;split
 ·exact fit_hush h
 ·have h0:((x.begin now).setD (x.d.feed (bitsIn b.data.toList)).1).Fit:=⟨h.e,h.u,fits_feed _ h.d,h.k⟩
  exact (fit_events _ h0).1
theorem fit_over (h:x.Fit) (k:Key):(x.over k).Fit/\(x.over k).len<=x.len+300000:=by
 unfold Tt.over;split
 ·obtain⟨h1,h2⟩:=us_timeout h.u
  obtain⟨h3,n3⟩:=fit_users x.u.timeout.2 (fit_setU h h1);have hn:=us_timeout_len x.u;have h4:(x.setU x.u.timeout.1).len=x.len:=rfl;exact⟨h3,by omega⟩
 ·obtain⟨h1,h2⟩:=fit_timeout h.e k.2
  obtain⟨h3,n3⟩:=fit_links (fit_setE h h1) (.inl h2) (timeout_len x.e (out0 h.e) _);exact⟨h3,n3⟩
theorem fit_overs:∀ (l:List Key) {x:Tt},x.Fit->(l.foldl Tt.over x).Fit/\(l.foldl Tt.over x).len<=x.len+300000*l.length
 | [],_,h=>⟨h,Nat.le_refl _⟩
 | y :: l,x,h=>by
   obtain⟨h1,n1⟩:=fit_over h y;obtain⟨h2,n2⟩:=fit_overs l h1;refine⟨h2,?_⟩
   rw[List.length_cons];exact Nat.le_trans n2 (by omega)
theorem keys_left {c:Tms} (h:Keys c) (now:Int):Keys (leftK c now):=keys_sub h List.filter_sublist
theorem fit_tick (h:x.Fit) (now:Int):(x.tick now).1.Fit:=by
 unfold Tt.tick;split
 ·exact fit_hush h
 ·have h0:((x.begin now).setC (leftK x.c now)).Fit:=⟨h.e,h.u,h.d,keys_left h.k now⟩
  exact (fit_overs _ h0).1
theorem fits_new:De.new.Fits:=Nat.zero_le _
theorem fit_drop (h:x.Fit) (now:Int):(x.drop now).1.Fit:=by
 unfold Tt.drop;split
 ·exact fit_hush h
 ·dsimp only
  have h1:=(fit_users x.u.drop.2.1 (fit_setU (fit_begin h now) (us_drop h.u).1)).1;generalize ((x.begin now).setU x.u.drop.1).users x.u.drop.2.1=y at *;obtain⟨h2,h3⟩:=fit_remove h1.e;have h4:=(fit_links (fit_setE h1 h2) (.inl h3) (remove_len y.e (out0 h1.e))).1;generalize (y.setE y.e.remove.1).links y.e.remove.2.1=z at *;exact⟨h4.e,h4.u,fits_new,keys_sub h4.k List.filter_sublist⟩
theorem fit_tt_new (cf:Tcf) (d:Dr):(newTt cf d).Fit:=⟨fit_new _ _,⟨by show (0:Int)<=0;decide,by show (0:Int)<=max 1 (min cf.n202 32);omega,by show (1:Int)<=max 1 (min cf.n202 32);omega,by show max 1 (min cf.n202 32)<=32;omega,.inl rfl⟩,fits_new,keys_nil⟩
end
abbrev tolC (p:Int × ByteArray):List Value:=[.int .i64 p.1,.string p.2]
abbrev TTt:TypeId:=107
abbrev TTold:TypeId:=88
theorem tyTold:ETy Tryz.prog 52 TTold 2 24 tolC :=
 ⟨Tryz.underlying52,⟨.agg #[.int .i64 0,.string ⟨#[]⟩],by kernel_rfl,rfl⟩,fun _=>rfl,fun b u hu=>by simp[tolC] at hu;rcases hu with rfl | rfl <;> rfl,by decide,by decide⟩
abbrev Tt.cells (x:Tt) (e u c p:Nat) (sv tv:Value):Array Value:=#[.int .i64 x.cf.k,.int .i64 x.cf.n200,.int .i64 x.cf.n202,.int .i64 x.cf.t200,.int .i64 x.cf.t202,.int .i64 x.cf.t203,ptr e,ptr u,ptrC c,ptrD p,.int .i64 x.now,sv,tv]
def TtAt (t e u c p:Nat) (x:Tt):HP:=hex fun sv:Value=>hex fun tv:Value =>
 blk t (.cells (x.cells e u c p sv tv) TTt (0,0))*(EnAt e x.e*(UsAt u x.u*(CAt c x.c*(DeAt p x.d*(LAt 9 1 encS sv x.sent*LAt TTold 2 tolC tv x.told)))))
section
variable {w0 w:World} {R:HP} {t e u c p:Nat} {x:Tt}
theorem St.tt_open (h:St w0 w (TtAt t e u c p x*R)):∃ sv tv,St w0 w (blk t (.cells (x.cells e u c p sv tv) TTt (0,0))*(EnAt e x.e*(UsAt u x.u*(CAt c x.c*(DeAt p x.d*(LAt 9 1 encS sv x.sent*(LAt TTold 2 tolC tv x.told*R))))))):=by
 obtain⟨sv,h⟩:=h.ex;obtain⟨tv,h⟩:=h.ex;exact⟨sv,tv,h.eq (by simp only[star_assoc])⟩
theorem St.tt_shut {sv tv:Value} (h:St w0 w (blk t (.cells (x.cells e u c p sv tv) TTt (0,0))*(EnAt e x.e*(UsAt u x.u*(CAt c x.c*(DeAt p x.d*(LAt 9 1 encS sv x.sent*(LAt TTold 2 tolC tv x.told*R)))))))):St w0 w (TtAt t e u c p x*R) :=
 St.mk_ex sv (St.mk_ex tv (h.eq (by simp only[star_assoc])))
def TtOff (t:Nat) (x:Tt):HP:=hex fun e:Nat=>hex fun u:Nat=>hex fun c:Nat=>hex fun p:Nat=>hex fun sv:Value=>hex fun tv:Value =>
 blk t (.cells (x.cells e u c p sv tv) TTt (0,0))*(EnAt e x.e*(UsAt u x.u*(CAt c x.c*DeAt p x.d)))
theorem St.off_open (h:St w0 w (TtOff t x*R)):∃ e u c p sv tv,St w0 w (blk t (.cells (x.cells e u c p sv tv) TTt (0,0))*(EnAt e x.e*(UsAt u x.u*(CAt c x.c*(DeAt p x.d*R))))):=by
 obtain⟨e,h⟩:=h.ex;obtain⟨u,h⟩:=h.ex;obtain⟨c,h⟩:=h.ex;obtain⟨p,h⟩:=h.ex;obtain⟨sv,h⟩:=h.ex;obtain⟨tv,h⟩:=h.ex;exact⟨e,u,c,p,sv,tv,h.eq (by simp only[star_assoc])⟩
theorem St.off_shut {e u c p:Nat} {sv tv:Value} (h:St w0 w (blk t (.cells (x.cells e u c p sv tv) TTt (0,0))*(EnAt e x.e*(UsAt u x.u*(CAt c x.c*(DeAt p x.d*R)))))):St w0 w (TtOff t x*R) :=
 St.mk_ex e (St.mk_ex u (St.mk_ex c (St.mk_ex p (St.mk_ex sv (St.mk_ex tv (h.eq (by simp only[star_assoc])))))))
end
theorem t_begin_bad (t:Nat) (x:Tt) (now:Int) (hb:badNow now=true) (w0 w:World) (R:HP) (h:St w0 w (TtOff t x*R)) :
  Calls Tryz.prog 41 #[ptr t,.int .i64 now] w fun e w'=>e=.returned (.int .i64 2)/\St w0 w' (TtOff t x.hush*R):=by
 have h':St w0 w (TtOff t x.hush*R):=h;unfold badNow at hb;by_cases a:now<0
 ·have qa:decide (now<0)=true:=decide_eq_true a
  clear a hb h;go_enter Tryz.func41,Tryz.ntmps41
  go_wp2;go_ret
  exact⟨rfl,h'⟩
 have qa:decide (now<0)=false:=decide_eq_false a;have b:9007199254740992<now:=(of_decide_eq_true hb).resolve_left a;have qb:decide (9007199254740992<now)=true:=decide_eq_true b;clear a b hb h;go_enter Tryz.func41,Tryz.ntmps41
 go_wp2;go_ret
 exact⟨rfl,h'⟩
theorem t_begin (t:Nat) (x:Tt) (now:Int) (hb:badNow now=false) (w0 w:World) (R:HP) (h:St w0 w (TtOff t x*R)) :
  Calls Tryz.prog 41 #[ptr t,.int .i64 now] w fun e w'=>∃ e0 u c p,e=.returned (.int .i64 0)/\St w0 w' (TtAt t e0 u c p (x.begin now)*R):=by
 unfold badNow at hb;have hb2:=of_decide_eq_false hb;have qa:decide (now<0)=false:=decide_eq_false (fun a=>hb2 (.inl a));have qb:decide (9007199254740992<now)=false:=decide_eq_false (fun a=>hb2 (.inr a));clear hb hb2;obtain⟨e,u,c,p,sv,tv,h1⟩:=h.off_open;have cc:=h1.cell;have ff:=h1.free;have h2:=((h1.set 10 (.int .i64 now)).set 11 (.slice none 0 0)).set 12 (.slice none 0 0);clear h;go_enter Tryz.func41,Tryz.ntmps41
 go_upto_region 6 with fail
 generalize ((w.setCell _ _).setCell _ _).setCell _ _=w2 at *;have h3:=(h2.l_nil TTold 2 tolC).l_nil 9 1 encS;have h4:St w0 w2 (TtAt t e u c p (x.begin now)*R):=St.tt_shut (x:=x.begin now) (e:=e) (u:=u) (c:=c) (p:=p) (sv:=.slice none 0 0) (tv:=.slice none 0 0) (h3.eq (show _=blk t _*(EnAt e x.e*(UsAt u x.u*(CAt c x.c*(DeAt p x.d*(LAt 9 1 encS (.slice none 0 0) []*(LAt TTold 2 tolC (.slice none 0 0) []*R)))))) by ac_rfl));clear h1 h2 h3 cc ff;go_wp2;go_ret
 exact⟨e,u,c,p,rfl,h4⟩
theorem t_start (t e u c p:Nat) (x:Tt) (tm:Int) (hk:okK (0,tm)) (w0 w:World) (R:HP) (h:St w0 w (TtAt t e u c p x*R)) :
  Calls Tryz.prog 89 #[ptr t,.int .i64 tm] w fun r w'=>r=.returned (.tuple #[])/\St w0 w' (TtAt t e u c p (x.start tm)*R):=by
 obtain⟨sv,tv,h1⟩:=h.tt_open;have cc:=h1.cell;have k1:w.drew.cell? ⟨t,8,none⟩=some (ptrC c):=(h1.drew.cell 8).trans rfl;have k2:w.drew.cell? ⟨t,10,none⟩=some (.int .i64 x.now):=(h1.drew.cell 10).trans rfl;have hc:=fun per=>c_start c x.c (0,tm) hk x.now per w0 w.drew _ h1.f4.drew
 clear h h1;by_cases a:tm=200
 ·have hp:(if tm=200 then x.cf.t200 else if tm=202 then x.cf.t202 else x.cf.t203)=x.cf.t200:=if_pos a
  have hc:=hc x.cf.t200;have HP:=Lib.hid hp;clear hp;subst a;go_enter Tryz.func89,Tryz.ntmps89
  go_upto_region 6 with fail
  refine wp_region_held_drew (S:=fun wx=>wx.cell? ⟨t,8,none⟩=some (ptrC c)/\wx.cell? ⟨t,10,none⟩=some (.int .i64 x.now)) (by kernel_rfl) ⟨k1,k2⟩ (fun hHeld=>?_)
  clear k1 k2 cc;generalize w.drew=wd at *;refine tk 0 ?_ rfl (fun w hSw=>?_) ?_
  rotate_left 1
  ·try dsimp only at hSw
   go_simp
   try with_reducible rfl
  try simp only[Act.put,sl]
  refine tk 1 ?_ rfl (fun w hSw=>?_) ?_
  rotate_left 1
  ·try dsimp only at hSw
   go_simp
   try with_reducible rfl
  try simp only[Act.put,sl]
  refine tk 2 ?_ rfl (fun w hSw=>?_) ?_
  rotate_left 1
  ·try dsimp only at hSw
   go_simp
   try with_reducible rfl
  try simp only[Act.put,sl]
  refine tk 3 ?_ rfl (fun w hSw=>?_) ?_
  rotate_left 1
  ·try dsimp only at hSw
   go_simp
   try with_reducible rfl
  try simp only[Act.put,sl]
  refine tk 4 ?_ rfl (fun w hSw=>?_) ?_
  rotate_left 1
  ·try dsimp only at hSw
   go_simp
   try with_reducible rfl
  try simp only[Act.put,sl]
  refine tk 5 ?_ rfl (fun w hSw=>?_) ?_
  rotate_left 1
  ·try dsimp only at hSw
   go_simp
   try with_reducible rfl
  try simp only[Act.put,sl]
  refine tk 6 ?_ rfl (fun w hSw=>?_) ?_
  rotate_left 1
  ·try dsimp only at hSw
   go_simp
   try with_reducible rfl
  try simp only[Act.put,sl]
  refine tk 7 ?_ rfl (fun w hSw=>?_) ?_
  rotate_left 1
  ·try dsimp only at hSw
   go_simp
   try with_reducible rfl
  try simp only[Act.put,sl]
  refine tk 8 ?_ rfl (fun w hSw=>?_) ?_
  rotate_left 1
  ·try dsimp only at hSw
   go_simp
   try with_reducible rfl
  try simp only[Act.put,sl]
  refine tk 9 ?_ rfl (fun w hSw=>?_) ?_
  rotate_left 1
  ·try dsimp only at hSw
   go_simp
   try with_reducible rfl
  try simp only[Act.put,sl]
  refine tk 10 ?_ rfl (fun w hSw=>?_) ?_
  rotate_left 1
  ·try dsimp only at hSw
   go_simp
   try with_reducible rfl
  try simp only[Act.put,sl]
  refine rd 11 rfl (fun K hK=>?_)
  go_simp
  go_at_call 164
  refine hc.mono ?_
  rintro r w5 ⟨rfl,h5⟩;clear hc;have h6:St w0 w5 (TtAt t e u c p (x.start 200)*R):=by
   unfold Tt.start;rw[HP.out];exact St.tt_shut (e:=e) (u:=u) (c:=c) (p:=p) (sv:=sv) (tv:=tv) (h5.eq (by ac_rfl))
  have c5:=(h5.eq (show _=blk t _*(CAt c _*(EnAt e x.e*(UsAt u x.u*(DeAt p x.d*(LAt 9 1 encS sv x.sent*(LAt TTold 2 tolC tv x.told*R)))))) by ac_rfl)).cell;go_simp
  refine hK.out _ _ ⟨(c5 8).trans rfl,(c5 10).trans rfl⟩ (fun hHeld=>?_)
  clear hK K;try simp only[Act.put,sl]
  refine wpAnyH_done (by kernel_rfl) ?_ _
  clear c5 h5;go_wp2;go_end0
  exact⟨rfl,h6⟩
 ·have qa:(tm == 200)=false:=by simp[a]
  by_cases b:tm=202
  ·have hp:(if tm=200 then x.cf.t200 else if tm=202 then x.cf.t202 else x.cf.t203)=x.cf.t202:=by rw[if_neg a,if_pos b]
   have hc:=hc x.cf.t202;have HP:=Lib.hid hp;clear hp a qa;subst b;go_enter Tryz.func89,Tryz.ntmps89
   go_upto_region 6 with fail
   refine wp_region_held_drew (S:=fun wx=>wx.cell? ⟨t,8,none⟩=some (ptrC c)/\wx.cell? ⟨t,10,none⟩=some (.int .i64 x.now)) (by kernel_rfl) ⟨k1,k2⟩ (fun hHeld=>?_)
   clear k1 k2 cc;generalize w.drew=wd at *;refine tk 0 ?_ rfl (fun w hSw=>?_) ?_
   rotate_left 1
   ·try dsimp only at hSw
    go_simp
    try with_reducible rfl
   try simp only[Act.put,sl]
   refine tk 1 ?_ rfl (fun w hSw=>?_) ?_
   rotate_left 1
   ·try dsimp only at hSw
    go_simp
    try with_reducible rfl
   try simp only[Act.put,sl]
   refine tk 2 ?_ rfl (fun w hSw=>?_) ?_
   rotate_left 1
   ·try dsimp only at hSw
    go_simp
    try with_reducible rfl
   try simp only[Act.put,sl]
   refine tk 3 ?_ rfl (fun w hSw=>?_) ?_
   rotate_left 1
   ·try dsimp only at hSw
    go_simp
    try with_reducible rfl
   try simp only[Act.put,sl]
   refine tk 4 ?_ rfl (fun w hSw=>?_) ?_
   rotate_left 1
   ·try dsimp only at hSw
    go_simp
    try with_reducible rfl
   try simp only[Act.put,sl]
   refine tk 5 ?_ rfl (fun w hSw=>?_) ?_
   rotate_left 1
   ·try dsimp only at hSw
    go_simp
    try with_reducible rfl
   try simp only[Act.put,sl]
   refine tk 6 ?_ rfl (fun w hSw=>?_) ?_
   rotate_left 1
   ·try dsimp only at hSw
    go_simp
    try with_reducible rfl
   try simp only[Act.put,sl]
   refine tk 7 ?_ rfl (fun w hSw=>?_) ?_
   rotate_left 1
   ·try dsimp only at hSw
    go_simp
    try with_reducible rfl
   try simp only[Act.put,sl]
   refine tk 8 ?_ rfl (fun w hSw=>?_) ?_
   rotate_left 1
   ·try dsimp only at hSw
    go_simp
    try with_reducible rfl
   try simp only[Act.put,sl]
   refine tk 9 ?_ rfl (fun w hSw=>?_) ?_
   rotate_left 1
   ·try dsimp only at hSw
    go_simp
    try with_reducible rfl
   try simp only[Act.put,sl]
   refine tk 10 ?_ rfl (fun w hSw=>?_) ?_
   rotate_left 1
   ·try dsimp only at hSw
    go_simp
    try with_reducible rfl
   try simp only[Act.put,sl]
   refine rd 11 rfl (fun K hK=>?_)
   go_simp
   go_at_call 164
   refine hc.mono ?_
   rintro r w5 ⟨rfl,h5⟩;clear hc;have h6:St w0 w5 (TtAt t e u c p (x.start 202)*R):=by
    unfold Tt.start;rw[HP.out];exact St.tt_shut (e:=e) (u:=u) (c:=c) (p:=p) (sv:=sv) (tv:=tv) (h5.eq (by ac_rfl))
   have c5:=(h5.eq (show _=blk t _*(CAt c _*(EnAt e x.e*(UsAt u x.u*(DeAt p x.d*(LAt 9 1 encS sv x.sent*(LAt TTold 2 tolC tv x.told*R)))))) by ac_rfl)).cell;go_simp
   refine hK.out _ _ ⟨(c5 8).trans rfl,(c5 10).trans rfl⟩ (fun hHeld=>?_)
   clear hK K;try simp only[Act.put,sl]
   refine wpAnyH_done (by kernel_rfl) ?_ _
   clear c5 h5;go_wp2;go_end0
   exact⟨rfl,h6⟩
  ·have qb:(tm == 202)=false:=by simp[b]
   have hp:(if tm=200 then x.cf.t200 else if tm=202 then x.cf.t202 else x.cf.t203)=x.cf.t203:=by rw[if_neg a,if_neg b]
   have hc:=hc x.cf.t203;have HP:=Lib.hid hp;clear hp a b;go_enter Tryz.func89,Tryz.ntmps89
   go_upto_region 6 with fail
   refine wp_region_held_drew (S:=fun wx=>wx.cell? ⟨t,8,none⟩=some (ptrC c)/\wx.cell? ⟨t,10,none⟩=some (.int .i64 x.now)) (by kernel_rfl) ⟨k1,k2⟩ (fun hHeld=>?_)
   clear k1 k2 cc;generalize w.drew=wd at *;refine tk 0 ?_ rfl (fun w hSw=>?_) ?_
   rotate_left 1
   ·try dsimp only at hSw
    go_simp
    try with_reducible rfl
   try simp only[Act.put,sl]
   refine tk 1 ?_ rfl (fun w hSw=>?_) ?_
   rotate_left 1
   ·try dsimp only at hSw
    go_simp
    try with_reducible rfl
   try simp only[Act.put,sl]
   refine tk 2 ?_ rfl (fun w hSw=>?_) ?_
   rotate_left 1
   ·try dsimp only at hSw
    go_simp
    try with_reducible rfl
   try simp only[Act.put,sl]
   refine tk 3 ?_ rfl (fun w hSw=>?_) ?_
   rotate_left 1
   ·try dsimp only at hSw
    go_simp
    try with_reducible rfl
   try simp only[Act.put,sl]
   refine tk 4 ?_ rfl (fun w hSw=>?_) ?_
   rotate_left 1
   ·try dsimp only at hSw
    go_simp
    try with_reducible rfl
   try simp only[Act.put,sl]
   refine tk 5 ?_ rfl (fun w hSw=>?_) ?_
   rotate_left 1
   ·try dsimp only at hSw
    go_simp
    try with_reducible rfl
   try simp only[Act.put,sl]
   refine tk 6 ?_ rfl (fun w hSw=>?_) ?_
   rotate_left 1
   ·try dsimp only at hSw
    go_simp
    try with_reducible rfl
   try simp only[Act.put,sl]
   refine tk 7 ?_ rfl (fun w hSw=>?_) ?_
   rotate_left 1
   ·try dsimp only at hSw
    go_simp
    try with_reducible rfl
   try simp only[Act.put,sl]
   refine tk 8 ?_ rfl (fun w hSw=>?_) ?_
   rotate_left 1
   ·try dsimp only at hSw
    go_simp
    try with_reducible rfl
   try simp only[Act.put,sl]
   refine tk 9 ?_ rfl (fun w hSw=>?_) ?_
   rotate_left 1
   ·try dsimp only at hSw
    go_simp
    try with_reducible rfl
   try simp only[Act.put,sl]
   refine tk 10 ?_ rfl (fun w hSw=>?_) ?_
   rotate_left 1
   ·try dsimp only at hSw
    go_simp
    try with_reducible rfl
   try simp only[Act.put,sl]
   refine rd 11 rfl (fun K hK=>?_)
   go_simp
   go_at_call 164
   refine hc.mono ?_
   rintro r w5 ⟨rfl,h5⟩;clear hc;have h6:St w0 w5 (TtAt t e u c p (x.start tm)*R):=by
    unfold Tt.start;rw[HP.out];exact St.tt_shut (e:=e) (u:=u) (c:=c) (p:=p) (sv:=sv) (tv:=tv) (h5.eq (by ac_rfl))
   have c5:=(h5.eq (show _=blk t _*(CAt c _*(EnAt e x.e*(UsAt u x.u*(DeAt p x.d*(LAt 9 1 encS sv x.sent*(LAt TTold 2 tolC tv x.told*R)))))) by ac_rfl)).cell;go_simp
   refine hK.out _ _ ⟨(c5 8).trans rfl,(c5 10).trans rfl⟩ (fun hHeld=>?_)
   clear hK K;try simp only[Act.put,sl]
   refine wpAnyH_done (by kernel_rfl) ?_ _
   clear c5 h5;go_wp2;go_end0
   exact⟨rfl,h6⟩
theorem putO_size {f:Fr} {net:Bool} (ok:PutOk f):(putO f net).size<=1000:=by
 obtain⟨i1,_,_⟩:=carries_le ok.car;have h2:=ctlO_len f.kind f.pf f.ns f.nr;unfold putO;rw[sealed_size,ByteArray.size_append,ByteArray.size_append,octets_size,octets_size];show 2+_+_+2<=1000
 omega
theorem t_send (t e u c p:Nat) (x:Tt) (f:Fr) (ok:PutOk f) (hl:x.sent.length<=1000000000000) (w0 w:World) (R:HP) (hN:∀ w',St w0 w' R->NamesAt w') (hF:∀ w',St w0 w' R->FirstAt w') (h:St w0 w (TtAt t e u c p x*R)) :
  Calls Tryz.prog 88 #[ptr t,.agg f.cells.toArray] w fun r w'=>r=.returned (.tuple #[])/\St w0 w' (TtAt t e u c p (x.send f)*R):=by
 have hz:=putO_size (net:=false) ok;have h1:=h.alloc (.cells f.cells.toArray TFr);have hp:=p_put f false ok w0 _ _ (fun w' h=>hN w' h.drop.drop) (fun w' h=>hF w' h.drop.drop) h1;have c1:=h1.cell;unfold Tt.send;generalize putO f false=oc at *;have he:=fun v A h=>h_encode oc w0 v A h (by omega)
 generalize bstr (encB oc.data.toList)=bs at *;obtain⟨a1,a2,cmd,k,pf,ns,nr,inf⟩:=f;simp only[Fr.cells] at *;clear h ok hN hF hz;go_enter Tryz.func88,Tryz.ntmps88
 go_upto_region 1 with fail
 generalize w.alloc _=wa at *;generalize w.heap.size=gf at *;go_upto_region 2 with (go_at_call 79;refine hp.mono ?_;rintro e w5 ⟨rfl,h5⟩)
 obtain⟨sv,tv,h6⟩:=h5.drop.tt_open;obtain⟨n,hn⟩:∃ n,x.sent.length=n:=⟨_,rfl⟩;have hle:(x.sent.length+[bs].length)*16<=140737488355328:=by show (x.sent.length+1)*16<=_;omega
 clear c1 hp h1 h5;have c6:=h6.drew.cell;have h60:=h6.drew;go_region_law (first
  | (go_simp;go_at_call 80;with_reducible refine (he _ _ h60).mono ?_;rintro r w7 ⟨rfl,h7⟩;have c7:=h7.cell;have c9:=(h7.alloc (.cells #[.string bs] 9)).f2.cell;have HX:=(((h7.alloc (.cells #[.string bs] 9)).l_mk (enc:=encS) (sz:=1) tyStr.len [bs] 1 rfl rfl (by decide)).eq (show _=LAt 9 1 encS sv x.sent*(LAt 9 1 encS (.slice (some ⟨w7.heap.size,0,none⟩) 1 1) [bs]*(blk t _*(EnAt e x.e*(UsAt u x.u*(CAt c x.c*(DeAt p x.d*(LAt TTold 2 tolC tv x.told*R))))))) by ac_rfl)))
  | (refine step_append_l rfl (.tmp 16) (.tmp 19) rfl tyStr HX (by simp) rfl rfl hle ?_;intro g off cap w8 h12;have c8:=h12.f2.cell;have f8:=h12.f2.free))
 all_goals
  rw[hn] at h12;have h13:=h12.f2.set 11 (.slice (some ⟨g,off,none⟩) (n+1) cap);have h14:St w0 _ (TtAt t e u c p { x with sent:=x.sent++[bs] }*R):=St.tt_shut (x:={ x with sent:=x.sent++[bs] }) (e:=e) (u:=u) (c:=c) (p:=p) (sv:=.slice (some ⟨g,off,none⟩) (n+1) cap) (tv:=tv) (h13.eq (by ac_rfl));go_end0
  exact⟨rfl,h14⟩
structure Fx.Can (y:Fx):Prop where
 no8:y.kind≠8
 put:y.kind=0->PutOk y.fr
 key:okK (0,y.timer)
theorem links0_snoc (x:Tt) (l:List Fx) (y:Fx):x.links0 (l++[y])=(x.links0 l).link0 y:=by unfold Tt.links0;rw[List.foldl_append];rfl
theorem link0_len (x:Tt) (y:Fx):(x.link0 y).sent.length<=x.sent.length+1/\(x.link0 y).told.length<=x.told.length+1:=by
 unfold Tt.link0;split
 ·simp only[Tt.send,List.length_append,List.length_singleton];omega
 ·split
  ·simp only[Tt.start];omega
  ·split
   ·simp only[Tt.stop];omega
   ·simp only[Tt.tell,List.length_append,List.length_singleton];omega
theorem links0_len:∀ (l:List Fx) (x:Tt),(x.links0 l).sent.length<=x.sent.length+l.length/\(x.links0 l).told.length<=x.told.length+l.length
 | [],_=>⟨Nat.le_refl _,Nat.le_refl _⟩
 | y :: l,x=>by
   have h1:=link0_len x y;have h2:=links0_len l (x.link0 y);rw[List.length_cons];show ((x.link0 y).links0 l).sent.length<=_/\((x.link0 y).links0 l).told.length<=_
   omega
theorem t_links0 (t e u c p:Nat) (x:Tt) (v:Value) (l:List Fx) (hc:∀ y ∈ l,y.Can) (hl0:l.length<=1000000) (hl:x.sent.length+x.told.length+l.length<=1000000000000) (w0 w:World) (R:HP) (hN:∀ w',St w0 w' R->NamesAt w') (hF:∀ w',St w0 w' R->FirstAt w')
  (h:St w0 w (LAt TFx 11 Fx.cells v l*(TtAt t e u c p x*R))) :
  Calls Tryz.prog 43 #[ptr t,v] w fun r w'=>r=.returned (.tuple #[])/\St w0 w' (LAt TFx 11 Fx.cells v l*(TtAt t e u c p (x.links0 l)*R)):=by
 obtain⟨n,hn⟩:∃ n,l.length=n:=⟨_,rfl⟩;have sh:=h.l_shape;rw[hn] at sh;obtain⟨a,cap,rfl,hcap,hmax⟩:=sh;have HH:=Lib.hid h;have HC:=Lib.hid hc;have HL:=Lib.hid hl;have HN:=Lib.hid hN;have HF:=Lib.hid hF;have HNn:=Lib.hid hn;have hn9:n<=1000000:=by omega
 clear h hc hl hl0 hN hF hn;go_enter Tryz.func43,Tryz.ntmps43
 go_wp2;go_loopw [10] (fun s10 wr=>∃ i:Nat,i<=n/\s10=.int .i64 i/\Hid (St w0 wr (LAt TFx 11 Fx.cells (.slice a n cap) l*(TtAt t e u c p (x.links0 (l.take i))*R)))) (fun s10 _=>n - (intOf s10).toNat)
 case atStart=>exact⟨0,by omega,rfl,HH⟩
 case round =>
  clear HH;obtain⟨i,hi,rfl,HI⟩:=hrel;by_cases hlt:i<n
  ·have hil:i<l.length:=by have:=HNn.out;omega
   obtain⟨y,hy⟩:∃ y,l[i]?=some y:=⟨l[i],List.getElem?_eq_getElem hil⟩;have htk:x.links0 (l.take (i+1))=(x.links0 (l.take i)).link0 y:=by
    rw[List.take_add_one,hy,Option.toList_some,links0_snoc]
   have hcan:=HC.out y (List.mem_of_getElem? hy);obtain⟨s1,s2⟩:=links0_len (l.take i) x;have s3:(l.take i).length=i:=by rw[List.length_take];omega
   have hll:=HL.out;have hnn:=HNn.out;generalize x.links0 (l.take i)=z at *;rcases HI.out.l_cells tyFx.len with ⟨h0,_⟩ | ⟨g,off,cap',hv,_,_,hcell⟩
   ·rw[h0] at hil;exact absurd hil (by simp)
   ·simp only[Value.slice.injEq] at hv
    obtain⟨rfl,hq,rfl⟩:=hv;clear hq;have hce:=hcell i y hy;obtain⟨kd,⟨f1,f2,f3,f4,f5,f6,f7,f8⟩,dt,tm⟩:=y;have d0:wr.cell? ⟨g,off+i*11,none⟩=some (.int .i64 kd):=hce 0 _ rfl;have d1:wr.cell? ⟨g,off+i*11+1,none⟩=some (.int .i64 f1):=hce 1 _ rfl;have d2:wr.cell? ⟨g,off+i*11+2,none⟩=some (.int .i64 f2):=hce 2 _ rfl;have d3:wr.cell? ⟨g,off+i*11+3,none⟩=some (.bool f3):=hce 3 _ rfl;have d4:wr.cell? ⟨g,off+i*11+4,none⟩=some (.int .i64 f4):=hce 4 _ rfl;have d5:wr.cell? ⟨g,off+i*11+5,none⟩=some (.bool f5):=hce 5 _ rfl;have d6:wr.cell? ⟨g,off+i*11+6,none⟩=some (.int .i64 f6):=hce 6 _ rfl;have d7:wr.cell? ⟨g,off+i*11+7,none⟩=some (.int .i64 f7):=hce 7 _ rfl;have d8:wr.cell? ⟨g,off+i*11+8,none⟩=some (.string f8):=hce 8 _ rfl;have d9:wr.cell? ⟨g,off+i*11+9,none⟩=some (.string dt):=hce 9 _ rfl;have d10:wr.cell? ⟨g,off+i*11+10,none⟩=some (.int .i64 tm):=hce 10 _ rfl;have HT:=Lib.hid htk;have hd:=HI.out.alloc (.cells #[.int .i64 kd,.int .i64 f1,.int .i64 f2,.bool f3,.int .i64 f4,.bool f5,.int .i64 f6,.int .i64 f7,.string f8,.string dt,.int .i64 tm] TFx);have hsz:=Lib.hid (show z.sent.length<=1000000000000/\z.told.length<=1000000000000 by omega);have hcan:=Lib.hid hcan;clear htk hce hcell hy hil s1 s2 s3 hll hnn;go_upto_region 3 with fail
    clear d0 d1 d2 d3 d4 d5 d6 d7 d8 d9 d10;generalize wr.alloc _=w2 at *;generalize wr.heap.size=gy at *;have c2:=hd.cell;by_cases k0:kd=0
    ·have hs:=t_send t e u c p z ⟨f1,f2,f3,f4,f5,f6,f7,f8⟩ (hcan.out.put k0) hsz.out.1 w0 w2 _ (fun w' h=>HN.out w' h.drop.drop) (fun w' h=>HF.out w' h.drop.drop) (hd.eq (show _=TtAt t e u c p z*(blk gy _*(LAt TFx 11 Fx.cells (.slice (some ⟨g,off,none⟩) n cap) l*R)) by ac_rfl))
     have hz:z.link0 ⟨kd,⟨f1,f2,f3,f4,f5,f6,f7,f8⟩,dt,tm⟩=z.send ⟨f1,f2,f3,f4,f5,f6,f7,f8⟩:=by unfold Tt.link0;rw[if_pos k0]
     rw[hz] at HT;subst k0;clear HI hz hd;go_wp2_with fail
     refine hs.mono ?_
     rintro e w5 ⟨rfl,h5⟩;have h6:=(h5.eq (show _=blk gy _*(LAt TFx 11 Fx.cells (.slice (some ⟨g,off,none⟩) n cap) l*(TtAt t e u c p _*R)) by ac_rfl)).drop;clear c2 hs h5;go_wp2;go_roundw
     case rel =>
      refine⟨i+1,by omega,by go_num,Lib.hid ?_⟩
      rw[HT.out];exact h6
     case measure=>simp[intOf];omega
    have q0:(kd == 0)=false:=by simp[k0]
    by_cases k9:kd=9
    ·have hs:=t_start t e u c p z tm hcan.out.key w0 w2 _ (hd.eq (show _=TtAt t e u c p z*(blk gy _*(LAt TFx 11 Fx.cells (.slice (some ⟨g,off,none⟩) n cap) l*R)) by ac_rfl))
     have hz:z.link0 ⟨kd,⟨f1,f2,f3,f4,f5,f6,f7,f8⟩,dt,tm⟩=z.start tm:=by unfold Tt.link0;rw[if_neg k0,if_pos k9]
     rw[hz] at HT;subst k9;clear HI hz hd k0 q0;go_wp2_with fail
     refine hs.mono ?_
     rintro e w5 ⟨rfl,h5⟩;have h6:=(h5.eq (show _=blk gy _*(LAt TFx 11 Fx.cells (.slice (some ⟨g,off,none⟩) n cap) l*(TtAt t e u c p _*R)) by ac_rfl)).drop;clear c2 hs h5;go_wp2;go_roundw
     case rel =>
      refine⟨i+1,by omega,by go_num,Lib.hid ?_⟩
      rw[HT.out];exact h6
     case measure=>simp[intOf];omega
    have q9:(kd == 9)=false:=by simp[k9]
    by_cases k10:kd=10
    ·have hz:z.link0 ⟨kd,⟨f1,f2,f3,f4,f5,f6,f7,f8⟩,dt,tm⟩=z.stop tm:=by unfold Tt.link0;rw[if_neg k0,if_neg k9,if_pos k10]
     rw[hz] at HT;obtain⟨sv,tv,h1⟩:=(hd.eq (show _=TtAt t e u c p z*(blk gy _*(LAt TFx 11 Fx.cells (.slice (some ⟨g,off,none⟩) n cap) l*R)) by ac_rfl)).tt_open;have e1:w2.drew.cell? ⟨t,8,none⟩=some (ptrC c):=(h1.drew.cell 8).trans rfl;have e2:w2.drew.cell? ⟨gy,10,none⟩=some (.int .i64 tm):=(hd.drew.cell 10).trans rfl;have hs:=c_stop c z.c (0,tm) hcan.out.key w0 w2.drew _ h1.f4.drew;subst k10;clear HI hz hd k0 q0 k9 q9;go_upto_region 10 with fail
     refine wp_region_held_drew (S:=fun wx=>wx.cell? ⟨t,8,none⟩=some (ptrC c)/\wx.cell? ⟨gy,10,none⟩=some (.int .i64 tm)) (by kernel_rfl) ⟨e1,e2⟩ (fun hHeld=>?_)
     clear e1 e2 c2 h1;generalize w2.drew=wd at *;refine tk 0 ?_ rfl (fun w hSw=>?_) ?_
     rotate_left 1
     ·try dsimp only at hSw
      go_simp
      try with_reducible rfl
     try simp only[Act.put,sl]
     refine tk 1 ?_ rfl (fun w hSw=>?_) ?_
     rotate_left 1
     ·try dsimp only at hSw
      go_simp
      try with_reducible rfl
     try simp only[Act.put,sl]
     refine tk 2 ?_ rfl (fun w hSw=>?_) ?_
     rotate_left 1
     ·try dsimp only at hSw
      go_simp
      try with_reducible rfl
     try simp only[Act.put,sl]
     refine tk 3 ?_ rfl (fun w hSw=>?_) ?_
     rotate_left 1
     ·try dsimp only at hSw
      go_simp
      try with_reducible rfl
     try simp only[Act.put,sl]
     refine tk 4 ?_ rfl (fun w hSw=>?_) ?_
     rotate_left 1
     ·try dsimp only at hSw
      go_simp
      try with_reducible rfl
     try simp only[Act.put,sl]
     refine tk 5 ?_ rfl (fun w hSw=>?_) ?_
     rotate_left 1
     ·try dsimp only at hSw
      go_simp
      try with_reducible rfl
     try simp only[Act.put,sl]
     refine tk 6 ?_ rfl (fun w hSw=>?_) ?_
     rotate_left 1
     ·try dsimp only at hSw
      go_simp
      try with_reducible rfl
     try simp only[Act.put,sl]
     refine rd 7 rfl (fun K hK=>?_)
     go_simp
     go_at_call 90
     refine hs.mono ?_
     rintro r w5 ⟨rfl,h5⟩;have c5:=(h5.eq (show _=blk t _*(blk gy _*(CAt c _*(EnAt e z.e*(UsAt u z.u*(DeAt p z.d*(LAt 9 1 encS sv z.sent*(LAt TTold 2 tolC tv z.told*(LAt TFx 11 Fx.cells (.slice (some ⟨g,off,none⟩) n cap) l*R)))))))) by ac_rfl));go_simp
     refine hK.out _ _ ⟨(c5.cell 8).trans rfl,(c5.f2.cell 10).trans rfl⟩ (fun hHeld=>?_)
     clear hK K;try simp only[Act.put,sl]
     refine wpAnyH_done (by kernel_rfl) ?_ _
     have h6:St w0 w5 (TtAt t e u c p (z.stop tm)*(LAt TFx 11 Fx.cells (.slice (some ⟨g,off,none⟩) n cap) l*R)):=St.tt_shut (x:=z.stop tm) (e:=e) (u:=u) (c:=c) (p:=p) (sv:=sv) (tv:=tv) (c5.f2.drop.eq (show _=blk t _*(EnAt e z.e*(UsAt u z.u*(CAt c _*(DeAt p z.d*(LAt 9 1 encS sv z.sent*(LAt TTold 2 tolC tv z.told*(LAt TFx 11 Fx.cells (.slice (some ⟨g,off,none⟩) n cap) l*R))))))) by ac_rfl));have h7:=h6.f2;clear c5 h5 hs h6 hHeld;go_wp2;go_roundw
     case rel =>
      refine⟨i+1,by omega,by go_num,Lib.hid ?_⟩
      rw[HT.out];exact h7
     case measure=>simp[intOf];omega
    have q10:(kd == 10)=false:=by simp[k10]
    have q8:(kd == 8)=false:=by simp;exact hcan.out.no8
    have hz:z.link0 ⟨kd,⟨f1,f2,f3,f4,f5,f6,f7,f8⟩,dt,tm⟩=z.tell kd dt:=by unfold Tt.link0;rw[if_neg k0,if_neg k9,if_neg k10]
    rw[hz] at HT;obtain⟨sv,tv,h1⟩:=(hd.eq (show _=TtAt t e u c p z*(blk gy _*(LAt TFx 11 Fx.cells (.slice (some ⟨g,off,none⟩) n cap) l*R)) by ac_rfl)).tt_open;have h2:=h1;have c3:=h2.cell;have cy:=hd.cell;have h3:=h2.alloc (.cells #[.int .i64 kd,.string dt] TTold);have c4:=h3.f2.cell;have HX:=((h3.l_mk (enc:=tolC) (sz:=2) tyTold.len [(kd,dt)] 1 rfl rfl (by decide)).eq (show _=LAt TTold 2 tolC tv z.told*(LAt TTold 2 tolC (.slice (some ⟨w2.heap.size,0,none⟩) 1 1) [(kd,dt)]*(blk t _*(EnAt e z.e*(UsAt u z.u*(CAt c z.c*(DeAt p z.d*(LAt 9 1 encS sv z.sent*(blk gy _*(LAt TFx 11 Fx.cells (.slice (some ⟨g,off,none⟩) n cap) l*R))))))))) by ac_rfl)).drew;have hle:(z.told.length+[(kd,dt)].length)*24<=140737488355328:=by have:=hsz.out.2;show (z.told.length+1)*24<=_;omega
    have c5:=(hd.alloc (.cells #[.int .i64 kd,.string dt] TTold)).f2.cell;obtain⟨nt,hnt⟩:∃ nt,z.told.length=nt:=⟨_,rfl⟩;clear HI hz k0 k9 k10 h1 h2 h3;go_upto_region 4 with fail
    clear c2;go_region_law (refine step_append_l rfl (.tmp 21) (.tmp 27) rfl tyTold HX (by simp) rfl rfl hle ?_;intro g2 off2 cap2 w8 h12;have c8:=h12.f2.cell;have f8:=h12.f2.free)
    all_goals
     rw[hnt] at h12;have h13:=h12.f2.set 12 (.slice (some ⟨g2,off2,none⟩) (nt+1) cap2);generalize w8.setCell _ _=w9 at *;have h14:=(h13.eq (show _=blk gy _*(blk t _*(EnAt e z.e*(UsAt u z.u*(CAt c z.c*(DeAt p z.d*(LAt 9 1 encS sv z.sent*(LAt TTold 2 tolC (.slice (some ⟨g2,off2,none⟩) (nt+1) cap2) (z.told++[(kd,dt)])*(LAt TFx 11 Fx.cells (.slice (some ⟨g,off,none⟩) n cap) l*R)))))))) by ac_rfl)).drop;have h15:St w0 w9 (TtAt t e u c p (z.tell kd dt)*(LAt TFx 11 Fx.cells (.slice (some ⟨g,off,none⟩) n cap) l*R)):=St.tt_shut (x:=z.tell kd dt) (e:=e) (u:=u) (c:=c) (p:=p) (sv:=sv) (tv:=.slice (some ⟨g2,off2,none⟩) (nt+1) cap2) h14;have h16:=h15.f2;clear c3 cy c4 c5 c8 f8 HX h12 h13 h14 h15 hnt;go_wp2;go_roundw
     case rel =>
      refine⟨i+1,by omega,by go_num,Lib.hid ?_⟩
      rw[HT.out];exact h16
     case measure=>simp[intOf];omega
  ·obtain rfl:i=n:=by omega
   have hz:=HI.out;rw[List.take_of_length_le (by have:=HNn.out;omega)] at hz;clear HI;go_wp2;go_end0
   exact⟨rfl,hz⟩
end Go.Proofs.YtnnahljdhdippaaGreatDoor
