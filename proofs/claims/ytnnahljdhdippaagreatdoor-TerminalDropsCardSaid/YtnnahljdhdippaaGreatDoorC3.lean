/- Parts of a proof (Seq, Flow, FlowOk). No condition. -/
import Derived.Test.YtnnahljdhdippaaGreatDoorProg
import Derived.Test.YtnnahljdhdippaaGreatDoorC1
import Derived.Test.YtnnahljdhdippaaGreatDoorC2
namespace Go.Proofs.YtnnahljdhdippaaGreatDoor
set_option maxRecDepth 100000
set_option maxHeartbeats 6400000
open Go.RowKit
def roomOf (va vs k:Int):Int:=max 0 (max 1 (min k 127) - (vs - va) % 128)
theorem s_wrap (n:Int) (w:World):Calls Tryz.prog 298 #[.int .i64 n] w fun e w'=>e=.returned (.int .i64 (n % 128))/\w=w':=by
 have hb:=i64_and127 n;go_enter Tryz.func298,Tryz.ntmps298
 go_wp2;go_ret
 exact⟨rfl,rfl⟩
theorem s_norm (n:Int) (w:World):Calls Tryz.prog 281 #[.int .i64 n] w fun e w'=>e=.returned (.int .i64 (n % 128))/\w=w':=by
 go_enter Tryz.func281,Tryz.ntmps281
 go_wp2_with fail
 refine (s_wrap _ _).mono ?_
 rintro e w1 ⟨rfl,rfl⟩;go_wp2;go_ret
 exact⟨rfl,rfl⟩
theorem s_add (a n:Int) (w:World):Calls Tryz.prog 257 #[.int .i64 a,.int .i64 n] w fun e w'=>e=.returned (.int .i64 ((a+n) % 128))/\w=w':=by
 have h1:=Int.emod_nonneg a (show (128:Int)≠0 by decide);have h2:=Int.emod_lt_of_pos a (show (0:Int)<128 by decide);have h3:=Int.emod_nonneg n (show (128:Int)≠0 by decide);have h4:=Int.emod_lt_of_pos n (show (0:Int)<128 by decide);go_enter Tryz.func257,Tryz.ntmps257
 go_wp2_with fail
 refine (s_norm _ _).mono ?_
 rintro e w1 ⟨rfl,rfl⟩;go_wp2_with fail
 refine (s_norm _ _).mono ?_
 rintro e w1 ⟨rfl,rfl⟩;go_wp2_with fail
 refine (s_norm _ _).mono ?_
 rintro e w1 ⟨rfl,rfl⟩;go_wp2;go_ret
 exact⟨congrArg (fun x=>Ending.returned (.int .i64 x)) (by omega),rfl⟩
theorem s_sub (a b:Int) (w:World):Calls Tryz.prog 280 #[.int .i64 a,.int .i64 b] w fun e w'=>e=.returned (.int .i64 ((a - b) % 128))/\w=w':=by
 have h1:=Int.emod_nonneg a (show (128:Int)≠0 by decide);have h2:=Int.emod_lt_of_pos a (show (0:Int)<128 by decide);have h3:=Int.emod_nonneg b (show (128:Int)≠0 by decide);have h4:=Int.emod_lt_of_pos b (show (0:Int)<128 by decide);go_enter Tryz.func280,Tryz.ntmps280
 go_wp2_with fail
 refine (s_norm _ _).mono ?_
 rintro e w1 ⟨rfl,rfl⟩;go_wp2_with fail
 refine (s_norm _ _).mono ?_
 rintro e w1 ⟨rfl,rfl⟩;go_wp2_with fail
 refine (s_norm _ _).mono ?_
 rintro e w1 ⟨rfl,rfl⟩;go_wp2;go_ret
 exact⟨congrArg (fun x=>Ending.returned (.int .i64 x)) (by omega),rfl⟩
theorem s_valid (va nr vs:Int) (w:World):Calls Tryz.prog 285 #[.int .i64 va,.int .i64 nr,.int .i64 vs] w fun e w'=>e=.returned (.bool (decide ((nr - va) % 128<=(vs - va) % 128)))/\w=w':=by
 go_enter Tryz.func285,Tryz.ntmps285
 go_wp2_with fail
 refine (s_sub _ _ _).mono ?_
 rintro e w1 ⟨rfl,rfl⟩;go_wp2_with fail
 refine (s_sub _ _ _).mono ?_
 rintro e w1 ⟨rfl,rfl⟩;go_wp2;go_ret
 exact⟨rfl,rfl⟩
theorem s_room (va vs k:Int) (w:World):Calls Tryz.prog 255 #[.int .i64 va,.int .i64 vs,.int .i64 k] w fun e w'=>e=.returned (.int .i64 (roomOf va vs k))/\w=w':=by
 have h1:=Int.emod_nonneg (vs - va) (show (128:Int)≠0 by decide);have h2:=Int.emod_lt_of_pos (vs - va) (show (0:Int)<128 by decide);go_enter Tryz.func255,Tryz.ntmps255
 go_wp2_with fail
 all_goals
  refine (s_sub _ _ _).mono ?_
  rintro e w1 ⟨rfl,rfl⟩;generalize hd:(vs - va) % 128=d at *;have Hd:=Lib.hid hd;clear hd;go_wp2;all_goals
   go_ret
   exact⟨congrArg (fun x=>Ending.returned (.int .i64 x)) (by unfold roomOf;have:=Hd.out;omega),rfl⟩
theorem t_norm (n:Int) (w:World):Calls Tryz.prog 201 #[.int .i64 n] w fun e w'=>e=.returned (.int .i64 (n % 128))/\w=w':=by
 by_cases h:0<=n
 ·have h1:=Int.emod_nonneg n (show (128:Int)≠0 by decide)
  go_enter Tryz.func201,Tryz.ntmps201
  go_wp2;go_ret
  exact⟨rfl,rfl⟩
 ·have e1:n.tmod 128= - ((-n) % 128):=by rw[tmod_eq_if,if_neg h]
  have h1:=Int.emod_nonneg (-n) (show (128:Int)≠0 by decide);have h2:=Int.emod_lt_of_pos (-n) (show (0:Int)<128 by decide);by_cases hz:(-n) % 128=0
  ·have e2:n.tmod 128=0:=by omega
   have H:=Lib.hid hz;clear hz e1;go_enter Tryz.func201,Tryz.ntmps201
   go_wp2;go_ret
   exact⟨congrArg (fun x=>Ending.returned (.int .i64 x)) (by have:=H.out;omega),rfl⟩
  ·have h3:n.tmod 128<0:=by omega
   have h4: -128<n.tmod 128:=by omega
   have H:=Lib.hid e1;clear e1;go_enter Tryz.func201,Tryz.ntmps201
   go_wp2;go_ret
   exact⟨congrArg (fun x=>Ending.returned (.int .i64 x)) (by have:=H.out;omega),rfl⟩
theorem t_add (a n:Int) (w:World):Calls Tryz.prog 260 #[.int .i64 a,.int .i64 n] w fun e w'=>e=.returned (.int .i64 ((a+n) % 128))/\w=w':=by
 obtain⟨x,hx⟩:∃ x:Nat,a % 128=x:=⟨(a % 128).toNat,by omega⟩;obtain⟨y,hy⟩:∃ y:Nat,n % 128=y:=⟨(n % 128).toNat,by omega⟩;have x1:x<128:=by omega
 have y1:y<128:=by omega
 have fin:(a+n) % 128=((x+y) % 128:Nat):=by omega
 have Hx:=Lib.hid hx;have Hy:=Lib.hid hy;have Hf:=Lib.hid fin;clear hx hy fin;go_enter Tryz.func260,Tryz.ntmps260
 go_wp2_with fail
 refine (t_norm _ _).mono ?_
 rintro e w1 ⟨rfl,rfl⟩;rw[Hx.out];go_wp2_with fail
 refine (t_norm _ _).mono ?_
 rintro e w1 ⟨rfl,rfl⟩;rw[Hy.out];go_wp2_with fail
 go_loop [5,7] (fun v i=>∃ k:Nat,k<=y/\i=.int .i64 k/\v=.int .i64 ((x+k) % 128:Nat)) (fun _ i=>y - (intOf i).toNat)
 case atStart=>exact⟨0,by omega,rfl,by rw[Nat.add_zero,Nat.mod_eq_of_lt x1]⟩
 case round =>
  obtain⟨k,hk,rfl,rfl⟩:=hrel;by_cases hlt:k<y
  ·obtain⟨z,hz⟩:∃ z:Nat,(x+k) % 128=z:=⟨_,rfl⟩
   have z1:z<128:=by omega
   rw[hz];have Hz:=Lib.hid hz;clear hz;by_cases hw:z=127
   ·subst hw
    go_wp2;go_round
    case rel=>exact⟨k+1,by omega,by go_num,by have:=Hz.out;congr 1;omega⟩
    case measure=>simp[intOf];omega
   ·have hb:((z:Int)+1 == 128)=false:=by simp;omega
    go_wp2;go_round
    case rel=>exact⟨k+1,by omega,by go_num,by have:=Hz.out;congr 1;omega⟩
    case measure=>simp[intOf];omega
  ·obtain rfl:k=y:=by omega
   go_wp2;go_ret
   exact⟨congrArg (fun x=>Ending.returned (.int .i64 x)) Hf.out.symm,rfl⟩
theorem t_sub (a b:Int) (w:World):Calls Tryz.prog 282 #[.int .i64 a,.int .i64 b] w fun e w'=>e=.returned (.int .i64 ((a - b) % 128))/\w=w':=by
 obtain⟨x,hx⟩:∃ x:Nat,a % 128=x:=⟨(a % 128).toNat,by omega⟩;obtain⟨y,hy⟩:∃ y:Nat,b % 128=y:=⟨(b % 128).toNat,by omega⟩;obtain⟨d,hd⟩:∃ d:Nat,(a - b) % 128=d:=⟨((a - b) % 128).toNat,by omega⟩;have x1:x<128:=by omega
 have y1:y<128:=by omega
 have d1:d<128:=by omega
 have fin:(y+d) % 128=x:=by omega
 have Hx:=Lib.hid hx;have Hy:=Lib.hid hy;have Hf:=Lib.hid fin;have Hd:=Lib.hid hd;clear hx hy fin hd;go_enter Tryz.func282,Tryz.ntmps282
 go_wp2_with fail
 refine (t_norm _ _).mono ?_
 rintro e w1 ⟨rfl,rfl⟩;rw[Hx.out];go_wp2_with fail
 refine (t_norm _ _).mono ?_
 rintro e w1 ⟨rfl,rfl⟩;rw[Hy.out];go_wp2_with fail
 go_loop [6,7] (fun v i=>∃ k:Nat,k<=d/\i=.int .i64 k/\v=.int .i64 ((y+k) % 128:Nat)) (fun _ i=>d - (intOf i).toNat)
 case atStart=>exact⟨0,by omega,rfl,by rw[Nat.add_zero,Nat.mod_eq_of_lt y1]⟩
 case round =>
  obtain⟨k,hk,rfl,rfl⟩:=hrel;by_cases hlt:k<d
  ·obtain⟨z,hz⟩:∃ z:Nat,(y+k) % 128=z:=⟨_,rfl⟩
   have z1:z<128:=by omega
   have hne:((z:Int) != (x:Int))=true:=by have:=Hf.out;simp;omega
   rw[hz];have Hz:=Lib.hid hz;clear hz;by_cases hw:z=127
   ·subst hw
    go_wp2;go_round
    case rel=>exact⟨k+1,by omega,by go_num,by have:=Hz.out;congr 1;omega⟩
    case measure=>simp[intOf];omega
   ·have hb:((z:Int)+1 == 128)=false:=by simp;omega
    go_wp2;go_round
    case rel=>exact⟨k+1,by omega,by go_num,by have:=Hz.out;congr 1;omega⟩
    case measure=>simp[intOf];omega
  ·obtain rfl:k=d:=by omega
   rw[Hf.out];have hne:((x:Int) != (x:Int))=false:=by simp
   go_wp2;go_ret
   exact⟨congrArg (fun x=>Ending.returned (.int .i64 x)) Hd.out.symm,rfl⟩
theorem t_room (va vs k:Int) (w:World):Calls Tryz.prog 258 #[.int .i64 va,.int .i64 vs,.int .i64 k] w fun e w'=>e=.returned (.int .i64 (roomOf va vs k))/\w=w':=by
 have h1:=Int.emod_nonneg (vs - va) (show (128:Int)≠0 by decide);have h2:=Int.emod_lt_of_pos (vs - va) (show (0:Int)<128 by decide);go_enter Tryz.func258,Tryz.ntmps258
 go_wp2_with fail
 all_goals
  refine (t_sub _ _ _).mono ?_
  rintro e w1 ⟨rfl,rfl⟩;generalize hd:(vs - va) % 128=d at *;have Hd:=Lib.hid hd;clear hd;go_wp2;all_goals
   go_ret
   exact⟨congrArg (fun x=>Ending.returned (.int .i64 x)) (by unfold roomOf;have:=Hd.out;omega),rfl⟩
theorem t_valid (va nr vs:Int) (w:World):Calls Tryz.prog 288 #[.int .i64 va,.int .i64 nr,.int .i64 vs] w fun e w'=>e=.returned (.bool (decide ((nr - va) % 128<=(vs - va) % 128)))/\w=w':=by
 obtain⟨x,hx⟩:∃ x:Nat,va % 128=x:=⟨(va % 128).toNat,by omega⟩;obtain⟨r,hr⟩:∃ r:Nat,nr % 128=r:=⟨(nr % 128).toNat,by omega⟩;obtain⟨s,hs⟩:∃ s:Nat,vs % 128=s:=⟨(vs % 128).toNat,by omega⟩;obtain⟨i,hi⟩:∃ i:Nat,(nr - va) % 128=i:=⟨((nr - va) % 128).toNat,by omega⟩;obtain⟨j,hj⟩:∃ j:Nat,(vs - va) % 128=j:=⟨((vs - va) % 128).toNat,by omega⟩;have x1:x<128:=by omega
 have r1:r<128:=by omega
 have s1:s<128:=by omega
 have i1:i<128:=by omega
 have j1:j<128:=by omega
 have fi:(x+i) % 128=r:=by omega
 have fj:(x+j) % 128=s:=by omega
 rw[hi,hj];have Hx:=Lib.hid hx;have Hr:=Lib.hid hr;have Hs:=Lib.hid hs;have Hi:=Lib.hid fi;have Hj:=Lib.hid fj;clear hx hr hs hi hj fi fj;go_enter Tryz.func288,Tryz.ntmps288
 go_wp2_with fail
 refine (t_norm _ _).mono ?_
 rintro e w1 ⟨rfl,rfl⟩;rw[Hx.out];go_wp2_with fail
 refine (t_norm _ _).mono ?_
 rintro e w1 ⟨rfl,rfl⟩;rw[Hr.out];go_wp2_with fail
 refine (t_norm _ _).mono ?_
 rintro e w1 ⟨rfl,rfl⟩;rw[Hs.out];go_wp2_with fail
 go_loop [7,10] (fun v c=>∃ k:Nat,k<=i/\k<=j/\c=.int .i64 k/\v=.int .i64 ((x+k) % 128:Nat)) (fun _ c=>128 - (intOf c).toNat)
 case atStart=>exact⟨0,by omega,by omega,rfl,by rw[Nat.add_zero,Nat.mod_eq_of_lt x1]⟩
 case round =>
  obtain⟨k,hk,hk2,rfl,rfl⟩:=hrel;obtain⟨z,hz⟩:∃ z:Nat,(x+k) % 128=z:=⟨_,rfl⟩;have z1:z<128:=by omega
  rw[hz];have Hz:=Lib.hid hz;clear hz;by_cases ei:k=i
  ·have ez:z=r:=by have:=Hz.out;have:=Hi.out;omega
   have hb:((z:Int) == (r:Int))=true:=by simp;omega
   clear ez;go_wp2;go_ret
   exact⟨congrArg (fun x=>Ending.returned (.bool x)) (by simp;omega),rfl⟩
  ·have hb:((z:Int) == (r:Int))=false:=by have:=Hz.out;have:=Hi.out;simp;omega
   by_cases ej:k=j
   ·have hb2:((z:Int) == (s:Int))=true:=by have:=Hz.out;have:=Hj.out;simp;omega
    go_wp2;go_ret
    exact⟨congrArg (fun x=>Ending.returned (.bool x)) (by simp;omega),rfl⟩
   ·have hb2:((z:Int) == (s:Int))=false:=by have:=Hz.out;have:=Hj.out;simp;omega
    go_wp2_with fail
    refine (t_add _ _ _).mono ?_
    rintro e w1 ⟨rfl,rfl⟩;go_wp2;go_round
    case rel=>exact⟨k+1,by omega,by omega,by go_num,congrArg (Value.int .i64) (by have:=Hz.out;omega)⟩
    case measure=>simp[intOf];omega
structure Fl where
 vs:Nat
 va:Nat
 vr:Nat
 peer:Bool
 own:Bool
 refused:Bool
 k:Int
 q:Q
structure Fl.Ok (s:Fl):Prop where
 s1:s.vs<128
 a1:s.va<128
 r1:s.vr<128
 q:s.q.Ok
 w:(s.q.sent:Int)=((s.vs:Int) - s.va) % 128
 n:(s.q.sent:Int)<=max 1 (min s.k 127)
abbrev Fl.cells (s:Fl) (qp:Nat):Array Value:=#[.int .i64 s.vs,.int .i64 s.va,.int .i64 s.vr,.bool s.peer,.bool s.own,.bool s.refused,.int .i64 s.k,ptr qp]
def FAt (T U:TypeId) (f:Nat) (s:Fl):HP:=hex fun qp:Nat=>blk f (.cells (s.cells qp) T (0,0))*QAt U qp s.q
theorem St.f_open {w0 w:World} {R:HP} {T U:TypeId} {f:Nat} {s:Fl} (h:St w0 w (FAt T U f s*R)) :
  ∃ qp,St w0 w (blk f (.cells (s.cells qp) T (0,0))*(QAt U qp s.q*R)):=by
 obtain⟨qp,h⟩:=h.ex;exact⟨qp,h.eq (star_assoc _ _ _)⟩
theorem St.f_shut {w0 w:World} {R:HP} {T U:TypeId} {f qp:Nat} {s:Fl} {c:Array Value} {q:Q} (h:St w0 w (blk f (.cells c T (0,0))*(QAt U qp q*R))) (hc:c=s.cells qp) (hq:q=s.q):St w0 w (FAt T U f s*R):=by
 subst hc hq;exact St.mk_ex qp (h.eq (star_assoc _ _ _).symm)
abbrev TF:TypeId:=286
abbrev TQ:TypeId:=333
abbrev TG:TypeId:=157
abbrev TR:TypeId:=199
theorem quiet_left {P:Program} {f:FuncId} {args:Array Value} {w:World} {n:Nat} {v:Value}
  (h:Calls P f args (w.drewN n) fun e w'=>e=.returned v/\w.drewN n=w'):Calls P f args (w.drewN n) fun e w''=>e=.returned v/\∃ m,w''=w.drewN m :=
 h.mono fun _ _ ⟨he,hm⟩=>⟨he,n,hm.symm⟩
theorem f_new (k n:Int) (w0 w:World) (R:HP) (h:St w0 w R) :
  Calls Tryz.prog 75 #[.int .i64 k,.int .i64 n] w fun e w'=>∃ f,e=.returned (ptr f)/\St w0 w' (FAt TF TQ f ⟨0,0,0,false,false,false,k,⟨(max 1 (min n 256)).toNat,[],0⟩⟩*R):=by
 go_enter Tryz.func75,Tryz.ntmps75
 go_wp2_with fail
 refine (q_new n w0 w R h).mono ?_
 rintro e w1 ⟨p,rfl,h1⟩;go_wp2;go_ret
 exact⟨_,rfl,(h1.alloc (.cells (Fl.cells ⟨0,0,0,false,false,false,k,⟨(max 1 (min n 256)).toNat,[],0⟩⟩ p) TF)).f_shut rfl rfl⟩
theorem g_new (k n:Int) (w0 w:World) (R:HP) (h:St w0 w R) :
  Calls Tryz.prog 77 #[.int .i64 k,.int .i64 n] w fun e w'=>∃ f,e=.returned (ptr f)/\St w0 w' (FAt TG TR f ⟨0,0,0,false,false,false,k,⟨(max 1 (min n 256)).toNat,[],0⟩⟩*R):=by
 go_enter Tryz.func77,Tryz.ntmps77
 go_wp2_with fail
 refine (r_new n w0 w R h).mono ?_
 rintro e w1 ⟨p,rfl,h1⟩;go_wp2;go_ret
 exact⟨_,rfl,(h1.alloc (.cells (Fl.cells ⟨0,0,0,false,false,false,k,⟨(max 1 (min n 256)).toNat,[],0⟩⟩ p) TG)).f_shut rfl rfl⟩
theorem f_push (f:Nat) (s:Fl) (d:ByteArray) (w0 w:World) (R:HP) (h:St w0 w (FAt TF TQ f s*R)) (ok:s.Ok) :
  Calls Tryz.prog 159 #[ptr f,.string d] w fun e w'=>e=.returned (.int .i64 (s.q.push d).2)/\St w0 w' (FAt TF TQ f { s with q:=(s.q.push d).1 }*R):=by
 obtain⟨qp,h1⟩:=h.f_open;have c:=h1.cell;have f:=h1.free;go_enter Tryz.func159,Tryz.ntmps159
 go_wp2_with fail
 refine (q_push qp s.q d w0 w _ (h1.eq (star_left_comm _ _ _)) ok.q).mono ?_
 rintro e w1 ⟨rfl,h2⟩;go_wp2;go_ret
 exact⟨rfl,(h2.eq (star_left_comm _ _ _)).f_shut (s:={ s with q:=(s.q.push d).1 }) rfl rfl⟩
def Fl.take (s:Fl):Fl × Nat × ByteArray × Bool :=
 if s.peer=true\/s.q.l.length<=s.q.sent\/roomOf s.va s.vs s.k=0 then (s,0,⟨#[]⟩,false)
 else ({ s with vs:=(s.vs+1) % 128,q:=s.q.take.1 },s.vs,s.q.take.2.1,true)
theorem f_take (f:Nat) (s:Fl) (w0 w:World) (R:HP) (h:St w0 w (FAt TF TQ f s*R)) (ok:s.Ok) :
  Calls Tryz.prog 225 #[ptr f] w fun e w'=>e=.returned (.tuple #[.int .i64 s.take.2.1,.string s.take.2.2.1,.bool s.take.2.2.2])/\St w0 w' (FAt TF TQ f s.take.1*R):=by
 obtain⟨qp,h1⟩:=h.f_open;have hq:=h1.eq (star_left_comm _ _ _);unfold Fl.take;have o1:=ok.s1;have sl:=ok.q.sl;obtain⟨vs,va,vr,peer,own,refused,k,q⟩:=s;have c:=h1.cell;have f:=h1.free;simp only[] at *;cases peer with
 | true =>
   rw[if_pos (.inl rfl)];go_enter Tryz.func225,Tryz.ntmps225
   go_wp2;go_quiet (fail)
   go_wp2;go_ret3
   exact⟨rfl,h.drewN _⟩
 | false =>
 by_cases b1:q.l.length<=q.sent
 ·rw[if_pos (.inr (.inl b1))]
  have hb:((q.l.length:Int) - (q.sent:Int) == 0)=true:=by simp;omega
  go_enter Tryz.func225,Tryz.ntmps225
  go_wp2;go_quiet ((go_at_call 152;exact Calls.quiet_of (q_left qp q w0 _ _ (hq.drewN _) ok.q)))
  go_wp2;go_ret3
  exact⟨rfl,h.drewN _⟩
 have hb:((q.l.length:Int) - (q.sent:Int) == 0)=false:=by simp;omega
 by_cases b2:roomOf va vs k=0
 ·rw[if_pos (.inr (.inr b2))]
  have hr:(roomOf va vs k == 0)=true:=by simpa using b2
  clear b2;go_enter Tryz.func225,Tryz.ntmps225
  go_wp2;go_quiet ((first | (go_at_call 152;exact Calls.quiet_of (q_left qp q w0 _ _ (hq.drewN _) ok.q)) | (go_at_call 255;exact quiet_left (s_room _ _ _ _))))
  go_wp2;go_ret3
  exact⟨rfl,h.drewN _⟩
 ·rw[if_neg (by simp;omega)]
  have hr:(roomOf va vs k == 0)=false:=by simpa using b2
  clear b2;go_enter Tryz.func225,Tryz.ntmps225
  go_wp2;go_quiet ((first | (go_at_call 152;exact Calls.quiet_of (q_left qp q w0 _ _ (hq.drewN _) ok.q)) | (go_at_call 255;exact quiet_left (s_room _ _ _ _))))
  go_wp2_with fail
  refine (q_take qp q w0 _ _ (hq.drewN _) ok.q).mono ?_
  rintro e w1 ⟨rfl,h2⟩;have h3:=h2.eq (star_left_comm _ _ _);have c3:=h3.cell;have f3:=h3.free;go_wp2_with fail
  refine (s_add _ _ _).mono ?_
  rintro e w2 ⟨rfl,rfl⟩;go_wp2;go_ret3
  refine⟨rfl,(h3.set 0 (.int .i64 (((vs:Int)+1) % 128))).f_shut ?_ rfl⟩
  simp[Fl.cells]
theorem g_take (f:Nat) (s:Fl) (w0 w:World) (R:HP) (h:St w0 w (FAt TG TR f s*R)) (ok:s.Ok) :
  Calls Tryz.prog 227 #[ptr f] w fun e w'=>e=.returned (.tuple #[.int .i64 s.take.2.1,.string s.take.2.2.1,.bool s.take.2.2.2])/\St w0 w' (FAt TG TR f s.take.1*R):=by
 obtain⟨qp,h1⟩:=h.f_open;have hq:=h1.eq (star_left_comm _ _ _);unfold Fl.take;have o1:=ok.s1;have sl:=ok.q.sl;obtain⟨vs,va,vr,peer,own,refused,k,q⟩:=s;have c:=h1.cell;have f:=h1.free;simp only[] at *;cases peer with
 | true =>
   rw[if_pos (.inl rfl)];go_enter Tryz.func227,Tryz.ntmps227
   go_wp2;go_quiet ((go_at_call 258;exact quiet_left (t_room _ _ _ _)))
   go_wp2;go_ret3
   exact⟨rfl,h.drewN _⟩
 | false =>
 by_cases b2:roomOf va vs k=0
 ·rw[if_pos (.inr (.inr b2))]
  have hr:(roomOf va vs k == 0)=true:=by simpa using b2
  clear b2;go_enter Tryz.func227,Tryz.ntmps227
  go_wp2;go_quiet ((go_at_call 258;exact quiet_left (t_room _ _ _ _)))
  go_wp2;go_ret3
  exact⟨rfl,h.drewN _⟩
 have hr:(roomOf va vs k == 0)=false:=by simpa using b2
 by_cases b1:q.l.length<=q.sent
 ·rw[if_pos (.inr (.inl b1))]
  have hk:q.take=(q,⟨#[]⟩,false):=by unfold Q.take;rw[if_neg (by omega)]
  have Hk:=Lib.hid hk;clear b2 hk;go_enter Tryz.func227,Tryz.ntmps227
  go_wp2;go_quiet ((go_at_call 258;exact quiet_left (t_room _ _ _ _)))
  go_wp2_with fail
  refine (r_take qp q w0 _ _ (hq.drewN _) ok.q).mono ?_
  rintro e w1 ⟨rfl,h2⟩;simp only[Hk.out] at h2 ⊢;go_wp2;go_ret3
  exact⟨rfl,(h2.eq (star_left_comm _ _ _)).f_shut rfl rfl⟩
 ·rw[if_neg (by simp;omega)]
  have hk:q.take.2.2=true:=by unfold Q.take;rw[if_pos (by omega)]
  have Hk:=Lib.hid hk;clear b2 hk;go_enter Tryz.func227,Tryz.ntmps227
  go_wp2;go_quiet ((go_at_call 258;exact quiet_left (t_room _ _ _ _)))
  go_wp2_with fail
  refine (r_take qp q w0 _ _ (hq.drewN _) ok.q).mono ?_
  rintro e w1 ⟨rfl,h2⟩;simp only[Hk.out];have h3:=h2.eq (star_left_comm _ _ _);have c3:=h3.cell;have f3:=h3.free;go_wp2_with fail
  refine (t_add _ _ _).mono ?_
  rintro e w2 ⟨rfl,rfl⟩;go_wp2;go_ret3
  refine⟨rfl,(h3.set 0 (.int .i64 (((vs:Int)+1) % 128))).f_shut ?_ rfl⟩
  simp[Fl.cells]
def Fl.ack (s:Fl) (nr:Int):Fl × Int × Int :=
 if (nr - s.va) % 128<=((s.vs:Int) - s.va) % 128 then ({ s with va:=(nr % 128).toNat,q:=(s.q.done ((nr - s.va) % 128)).1 },(nr - s.va) % 128,0) else (s,0,2)
theorem f_ack (f:Nat) (s:Fl) (nr:Int) (w0 w:World) (R:HP) (h:St w0 w (FAt TF TQ f s*R)) (ok:s.Ok) :
  Calls Tryz.prog 264 #[ptr f,.int .i64 nr] w fun e w'=>e=.returned (.tuple #[.int .i64 (s.ack nr).2.1,.int .i64 (s.ack nr).2.2])/\St w0 w' (FAt TF TQ f (s.ack nr).1*R):=by
 obtain⟨qp,h1⟩:=h.f_open;have hq:=h1.eq (star_left_comm _ _ _);unfold Fl.ack;obtain⟨vs,va,vr,peer,own,refused,k,q⟩:=s;have c:=h1.cell;have f:=h1.free;have okq:=ok.q;simp only[] at *;have n1:=Int.emod_nonneg nr (show (128:Int)≠0 by decide);by_cases b:(nr - va) % 128<=((vs:Int) - va) % 128
 ·rw[if_pos b]
  have hb:decide ((nr - va) % 128<=((vs:Int) - va) % 128)=true:=by simpa using b
  clear b;go_enter Tryz.func264,Tryz.ntmps264
  go_wp2;go_quiet ((go_at_call 285;exact quiet_left (s_valid _ _ _ _)))
  go_wp2_with fail
  refine (s_sub _ _ _).mono ?_
  rintro e w1 ⟨rfl,rfl⟩;go_wp2_with fail
  refine (q_done qp q _ w0 _ _ (hq.drewN _) okq).mono ?_
  rintro e w1 ⟨rfl,h2⟩;have h3:=h2.eq (star_left_comm _ _ _);have c3:=h3.cell;have f3:=h3.free;go_wp2_with fail
  refine (s_norm _ _).mono ?_
  rintro e w2 ⟨rfl,rfl⟩;go_wp2;go_ret2
  refine⟨rfl,(h3.set 1 (.int .i64 (nr % 128))).f_shut ?_ rfl⟩
  simp[Fl.cells]
  omega
 ·rw[if_neg b]
  have hb:decide ((nr - va) % 128<=((vs:Int) - va) % 128)=false:=by simpa using b
  clear b;go_enter Tryz.func264,Tryz.ntmps264
  go_wp2;go_quiet ((go_at_call 285;exact quiet_left (s_valid _ _ _ _)))
  go_wp2;go_ret2
  exact⟨rfl,h.drewN _⟩
theorem g_ack (f:Nat) (s:Fl) (nr:Int) (w0 w:World) (R:HP) (h:St w0 w (FAt TG TR f s*R)) (ok:s.Ok) :
  Calls Tryz.prog 270 #[ptr f,.int .i64 nr] w fun e w'=>e=.returned (.tuple #[.int .i64 (s.ack nr).2.1,.int .i64 (s.ack nr).2.2])/\St w0 w' (FAt TG TR f (s.ack nr).1*R):=by
 obtain⟨qp,h1⟩:=h.f_open;have hq:=h1.eq (star_left_comm _ _ _);unfold Fl.ack;obtain⟨vs,va,vr,peer,own,refused,k,q⟩:=s;have c:=h1.cell;have f:=h1.free;have okq:=ok.q;simp only[] at *;have n1:=Int.emod_nonneg nr (show (128:Int)≠0 by decide);by_cases b:(nr - va) % 128<=((vs:Int) - va) % 128
 ·rw[if_pos b]
  have hb:decide ((nr - va) % 128<=((vs:Int) - va) % 128)=true:=by simpa using b
  clear b;go_enter Tryz.func270,Tryz.ntmps270
  go_wp2;go_quiet ((go_at_call 288;exact quiet_left (t_valid _ _ _ _)))
  go_wp2_with fail
  refine (t_sub _ _ _).mono ?_
  rintro e w1 ⟨rfl,rfl⟩;go_wp2_with fail
  refine (r_done qp q _ w0 _ _ (hq.drewN _) okq).mono ?_
  rintro e w1 ⟨rfl,h2⟩;have h3:=h2.eq (star_left_comm _ _ _);have c3:=h3.cell;have f3:=h3.free;go_wp2_with fail
  refine (t_norm _ _).mono ?_
  rintro e w2 ⟨rfl,rfl⟩;go_wp2;go_ret2
  refine⟨rfl,(h3.set 1 (.int .i64 (nr % 128))).f_shut ?_ rfl⟩
  simp[Fl.cells]
  omega
 ·rw[if_neg b]
  have hb:decide ((nr - va) % 128<=((vs:Int) - va) % 128)=false:=by simpa using b
  clear b;go_enter Tryz.func270,Tryz.ntmps270
  go_wp2;go_quiet ((go_at_call 288;exact quiet_left (t_valid _ _ _ _)))
  go_wp2;go_ret2
  exact⟨rfl,h.drewN _⟩
def Fl.back (s:Fl):Fl:={ s with vs:=s.va,q:=(s.q.back 0).1 }
theorem f_back (f:Nat) (s:Fl) (w0 w:World) (R:HP) (h:St w0 w (FAt TF TQ f s*R)) :
  Calls Tryz.prog 267 #[ptr f] w fun e w'=>e=.returned (.tuple #[])/\St w0 w' (FAt TF TQ f s.back*R):=by
 obtain⟨qp,h1⟩:=h.f_open;have hq:=h1.eq (star_left_comm _ _ _);obtain⟨vs,va,vr,peer,own,refused,k,q⟩:=s;have c:=h1.cell;have f:=h1.free;simp only[] at *;go_enter Tryz.func267,Tryz.ntmps267
 go_wp2_with fail
 refine (q_back qp q 0 w0 _ _ hq).mono ?_
 rintro e w1 ⟨rfl,h2⟩;have h3:=h2.eq (star_left_comm _ _ _);have c3:=h3.cell;have f3:=h3.free;go_wp2;go_end0
 exact⟨rfl,(h3.set 0 (.int .i64 va)).f_shut (by simp[Fl.cells,Fl.back]) rfl⟩
theorem g_back (f:Nat) (s:Fl) (w0 w:World) (R:HP) (h:St w0 w (FAt TG TR f s*R)) :
  Calls Tryz.prog 272 #[ptr f] w fun e w'=>e=.returned (.tuple #[])/\St w0 w' (FAt TG TR f s.back*R):=by
 obtain⟨qp,h1⟩:=h.f_open;have hq:=h1.eq (star_left_comm _ _ _);obtain⟨vs,va,vr,peer,own,refused,k,q⟩:=s;have c:=h1.cell;have f:=h1.free;simp only[] at *;go_enter Tryz.func272,Tryz.ntmps272
 go_wp2_with fail
 refine (r_back qp q 0 w0 _ _ hq).mono ?_
 rintro e w1 ⟨rfl,h2⟩;have h3:=h2.eq (star_left_comm _ _ _);have c3:=h3.cell;have f3:=h3.free;go_wp2;go_end0
 exact⟨rfl,(h3.set 0 (.int .i64 va)).f_shut (by simp[Fl.cells,Fl.back]) rfl⟩
def Fl.come (s:Fl) (ns:Int):Fl × Int :=
 if s.own=true then (s,3) else if ns % 128=s.vr then ({ s with vr:=((ns+1) % 128).toNat,refused:=false },0) else if s.refused=true then (s,2) else ({ s with refused:=true },1)
theorem f_come (f:Nat) (s:Fl) (ns:Int) (w0 w:World) (R:HP) (h:St w0 w (FAt TF TQ f s*R)) :
  Calls Tryz.prog 263 #[ptr f,.int .i64 ns] w fun e w'=>e=.returned (.int .i64 (s.come ns).2)/\St w0 w' (FAt TF TQ f (s.come ns).1*R):=by
 obtain⟨qp,h1⟩:=h.f_open;obtain⟨vs,va,vr,peer,own,refused,k,q⟩:=s;have c:=h1.cell;have f:=h1.free;unfold Fl.come;simp only[] at *;have n1:=Int.emod_nonneg (ns+1) (show (128:Int)≠0 by decide);cases own with
 | true =>
   rw[if_pos rfl];go_enter Tryz.func263,Tryz.ntmps263
   go_wp2;go_ret
   exact⟨rfl,h⟩
 | false =>
 rw[if_neg (by simp)];by_cases b:ns % 128=vr
 ·rw[if_pos b]
  have hb:((ns % 128) == (vr:Int))=true:=by simpa using b
  have Hb:=Lib.hid b;have e1:(ns % 128+1) % 128=(ns+1) % 128:=by omega
  clear b;go_enter Tryz.func263,Tryz.ntmps263
  go_wp2_with fail
  go_quiet ((go_at_call 281;exact quiet_left (s_norm _ _)))
  go_wp2_with fail
  refine (s_add _ _ _).mono ?_
  rintro e w1 ⟨rfl,rfl⟩;go_wp2;go_ret
  refine⟨rfl,St.f_shut (s:={ vs:=vs,va:=va,vr:=((ns+1) % 128).toNat,peer:=peer,own:=false,refused:=false,k:=k,q:=q }) (((h1.drewN _).set 2 (.int .i64 ((ns+1) % 128))).set 5 (.bool false)) ?_ rfl⟩
  simp[Fl.cells]
  omega
 ·rw[if_neg b]
  have hb:((ns % 128) == (vr:Int))=false:=by simpa using b
  clear b;cases refused with
  | true =>
    rw[if_pos rfl];go_enter Tryz.func263,Tryz.ntmps263
    go_wp2_with fail
    go_quiet ((go_at_call 281;exact quiet_left (s_norm _ _)))
    go_wp2;go_ret
    exact⟨rfl,h.drewN _⟩
  | false =>
    rw[if_neg (by simp)];go_enter Tryz.func263,Tryz.ntmps263
    go_wp2_with fail
    go_quiet ((go_at_call 281;exact quiet_left (s_norm _ _)))
    go_wp2;go_ret
    refine⟨rfl,St.f_shut (s:={ vs:=vs,va:=va,vr:=vr,peer:=peer,own:=false,refused:=true,k:=k,q:=q }) ((h1.drewN _).set 5 (.bool true)) ?_ rfl⟩
    simp[Fl.cells]
theorem g_come (f:Nat) (s:Fl) (ns:Int) (w0 w:World) (R:HP) (h:St w0 w (FAt TG TR f s*R)) :
  Calls Tryz.prog 269 #[ptr f,.int .i64 ns] w fun e w'=>e=.returned (.int .i64 (s.come ns).2)/\St w0 w' (FAt TG TR f (s.come ns).1*R):=by
 obtain⟨qp,h1⟩:=h.f_open;obtain⟨vs,va,vr,peer,own,refused,k,q⟩:=s;have c:=h1.cell;have f:=h1.free;unfold Fl.come;simp only[] at *;have n1:=Int.emod_nonneg (ns+1) (show (128:Int)≠0 by decide);cases own with
 | true =>
   rw[if_pos rfl];go_enter Tryz.func269,Tryz.ntmps269
   go_wp2;go_ret
   exact⟨rfl,h⟩
 | false =>
 rw[if_neg (by simp)];by_cases b:ns % 128=vr
 ·rw[if_pos b]
  have hb:((ns % 128) == (vr:Int))=true:=by simpa using b
  have Hb:=Lib.hid b;have e1:(ns % 128+1) % 128=(ns+1) % 128:=by omega
  clear b;go_enter Tryz.func269,Tryz.ntmps269
  go_wp2_with fail
  refine (t_norm _ _).mono ?_;rintro e w1 ⟨rfl,rfl⟩
  go_wp2_with fail
  refine (t_add _ _ _).mono ?_
  rintro e w1 ⟨rfl,rfl⟩;go_wp2;go_ret
  refine⟨rfl,St.f_shut (s:={ vs:=vs,va:=va,vr:=((ns+1) % 128).toNat,peer:=peer,own:=false,refused:=false,k:=k,q:=q }) (((h1).set 2 (.int .i64 ((ns+1) % 128))).set 5 (.bool false)) ?_ rfl⟩
  simp[Fl.cells]
  omega
 ·rw[if_neg b]
  have hb:((ns % 128) == (vr:Int))=false:=by simpa using b
  clear b;cases refused with
  | true =>
    rw[if_pos rfl];go_enter Tryz.func269,Tryz.ntmps269
    go_wp2_with fail
    refine (t_norm _ _).mono ?_;rintro e w1 ⟨rfl,rfl⟩
    go_wp2;go_ret
    exact⟨rfl,h⟩
  | false =>
    rw[if_neg (by simp)];go_enter Tryz.func269,Tryz.ntmps269
    go_wp2_with fail
    refine (t_norm _ _).mono ?_;rintro e w1 ⟨rfl,rfl⟩
    go_wp2;go_ret
    refine⟨rfl,St.f_shut (s:={ vs:=vs,va:=va,vr:=vr,peer:=peer,own:=false,refused:=true,k:=k,q:=q }) ((h1).set 5 (.bool true)) ?_ rfl⟩
    simp[Fl.cells]
theorem f_set_peer (f:Nat) (s:Fl) (b:Bool) (w0 w:World) (R:HP) (h:St w0 w (FAt TF TQ f s*R)) :
  Calls Tryz.prog 266 #[ptr f,.bool b] w fun e w'=>e=.returned (.tuple #[])/\St w0 w' (FAt TF TQ f { s with peer:=b }*R):=by
 obtain⟨qp,h1⟩:=h.f_open;obtain⟨vs,va,vr,peer,own,refused,k,q⟩:=s;have c:=h1.cell;have f:=h1.free;go_enter Tryz.func266,Tryz.ntmps266
 go_wp2;go_end0
 exact⟨rfl,(h1.set 3 (.bool b)).f_shut (by simp[Fl.cells]) rfl⟩
theorem f_set_own (f:Nat) (s:Fl) (b:Bool) (w0 w:World) (R:HP) (h:St w0 w (FAt TF TQ f s*R)) :
  Calls Tryz.prog 162 #[ptr f,.bool b] w fun e w'=>e=.returned (.bool (s.own != b))/\St w0 w' (FAt TF TQ f { s with own:=b }*R):=by
 obtain⟨qp,h1⟩:=h.f_open;obtain⟨vs,va,vr,peer,own,refused,k,q⟩:=s;have c:=h1.cell;have f:=h1.free;cases own <;> cases b
 all_goals
  go_enter Tryz.func162,Tryz.ntmps162
  go_wp2;go_ret
  refine⟨rfl,?_⟩
  first | exact h | exact (h1.set 4 (.bool true)).f_shut (by simp[Fl.cells]) rfl | exact (h1.set 4 (.bool false)).f_shut (by simp[Fl.cells]) rfl
def Fl.reset (s:Fl):Fl:={ s with vs:=0,va:=0,vr:=0,peer:=false,own:=false,refused:=false,q:=(s.q.back 0).1 }
theorem f_reset (f:Nat) (s:Fl) (w0 w:World) (R:HP) (h:St w0 w (FAt TF TQ f s*R)) :
  Calls Tryz.prog 262 #[ptr f] w fun e w'=>e=.returned (.tuple #[])/\St w0 w' (FAt TF TQ f s.reset*R):=by
 obtain⟨qp,h1⟩:=h.f_open;have hq:=h1.eq (star_left_comm _ _ _);obtain⟨vs,va,vr,peer,own,refused,k,q⟩:=s;have c:=h1.cell;have f:=h1.free;simp only[] at *;go_enter Tryz.func262,Tryz.ntmps262
 go_wp2_with fail
 refine (q_back qp q 0 w0 _ _ hq).mono ?_
 rintro e w1 ⟨rfl,h2⟩;have h3:=h2.eq (star_left_comm _ _ _);have c3:=h3.cell;have f3:=h3.free;go_wp2;go_end0
 refine⟨rfl,?_⟩
 have h4:=(((((h3.set 0 (.int .i64 0)).set 1 (.int .i64 0)).set 2 (.int .i64 0)).set 3 (.bool false)).set 4 (.bool false)).set 5 (.bool false);exact h4.f_shut (by simp[Fl.cells,Fl.reset]) rfl
theorem g_reset (f:Nat) (s:Fl) (w0 w:World) (R:HP) (h:St w0 w (FAt TG TR f s*R)) :
  Calls Tryz.prog 268 #[ptr f] w fun e w'=>e=.returned (.tuple #[])/\St w0 w' (FAt TG TR f s.reset*R):=by
 obtain⟨qp,h1⟩:=h.f_open;have hq:=h1.eq (star_left_comm _ _ _);obtain⟨vs,va,vr,peer,own,refused,k,q⟩:=s;have c:=h1.cell;have f:=h1.free;simp only[] at *;go_enter Tryz.func268,Tryz.ntmps268
 go_wp2_with fail
 refine (r_back qp q 0 w0 _ _ hq).mono ?_
 rintro e w1 ⟨rfl,h2⟩;have h3:=h2.eq (star_left_comm _ _ _);have c3:=h3.cell;have f3:=h3.free;go_wp2;go_end0
 refine⟨rfl,?_⟩
 have h4:=(((((h3.set 0 (.int .i64 0)).set 1 (.int .i64 0)).set 2 (.int .i64 0)).set 3 (.bool false)).set 4 (.bool false)).set 5 (.bool false);exact h4.f_shut (by simp[Fl.cells,Fl.reset]) rfl
def Fl.clear (s:Fl):Fl:={ s with vs:=s.va,q:=⟨s.q.most,[],0⟩ }
theorem f_clear (f:Nat) (s:Fl) (w0 w:World) (R:HP) (h:St w0 w (FAt TF TQ f s*R)) (ok:s.Ok) :
  Calls Tryz.prog 153 #[ptr f] w fun e w'=>e=.returned (.int .i64 s.q.l.length)/\St w0 w' (FAt TF TQ f s.clear*R):=by
 obtain⟨qp,h1⟩:=h.f_open;obtain⟨vs,va,vr,peer,own,refused,k,q⟩:=s;have c:=h1.cell;have f:=h1.free;have h2:=h1.set 0 (.int .i64 va);have c2:=h2.cell;have okq:=ok.q;simp only[] at *;go_enter Tryz.func153,Tryz.ntmps153
 go_wp2_with fail
 refine (q_clear qp q w0 _ _ (h2.eq (star_left_comm _ _ _)) okq).mono ?_
 rintro e w1 ⟨rfl,h3⟩;go_wp2;go_ret
 exact⟨rfl,(h3.eq (star_left_comm _ _ _)).f_shut (by simp[Fl.cells,Fl.clear]) rfl⟩
theorem g_clear (f:Nat) (s:Fl) (w0 w:World) (R:HP) (h:St w0 w (FAt TG TR f s*R)) (ok:s.Ok) :
  Calls Tryz.prog 167 #[ptr f] w fun e w'=>e=.returned (.int .i64 s.q.l.length)/\St w0 w' (FAt TG TR f s.clear*R):=by
 obtain⟨qp,h1⟩:=h.f_open;obtain⟨vs,va,vr,peer,own,refused,k,q⟩:=s;have c:=h1.cell;have f:=h1.free;have h2:=h1.set 0 (.int .i64 va);have c2:=h2.cell;have okq:=ok.q;simp only[] at *;go_enter Tryz.func167,Tryz.ntmps167
 go_wp2_with fail
 refine (r_clear qp q w0 _ _ (h2.eq (star_left_comm _ _ _)) okq).mono ?_
 rintro e w1 ⟨rfl,h3⟩;go_wp2;go_ret
 exact⟨rfl,(h3.eq (star_left_comm _ _ _)).f_shut (by simp[Fl.cells,Fl.clear]) rfl⟩
def Fl.view (s:Fl):Array Value:=#[.int .i64 s.vs,.int .i64 s.va,.int .i64 s.vr,.bool s.peer,.bool s.own,.bool s.refused,.int .i64 s.q.sent,.int .i64 ((s.q.l.length:Int) - s.q.sent)]
theorem f_view (f:Nat) (s:Fl) (w0 w:World) (R:HP) (h:St w0 w (FAt TF TQ f s*R)) (ok:s.Ok) :
  Calls Tryz.prog 81 #[ptr f] w fun e w'=>e=.returned (.agg s.view)/\St w0 w' (FAt TF TQ f s*R):=by
 obtain⟨qp,h1⟩:=h.f_open;obtain⟨vs,va,vr,peer,own,refused,k,q⟩:=s;have c:=h1.cell;have f:=h1.free;have okq:=ok.q;simp only[] at *;have h2:=(h1.alloc (.cells #[.int .i64 0,.int .i64 0,.int .i64 0,.bool false,.bool false,.bool false,.int .i64 0,.int .i64 0] 47)).alloc (.cells #[.int .i64 vs,.int .i64 va,.int .i64 vr,.bool peer,.bool own,.bool refused] 284);have hq:=h2.eq (show _=QAt TQ qp q*_ from star_4 _ _ _ _ _);have lt:=h1.lt;go_enter Tryz.func81,Tryz.ntmps81
 go_upto_region 4 with fail
 generalize hw2:(w.alloc (.cells #[.int .i64 0,.int .i64 0,.int .i64 0,.bool false,.bool false,.bool false,.int .i64 0,.int .i64 0] 47)).alloc (.cells #[.int .i64 vs,.int .i64 va,.int .i64 vr,.bool peer,.bool own,.bool refused] 284)=w2 at *;have c2:=h2.cell;have c3:=(h2.eq (star_left_comm _ _ _)).cell;have f3:=(h2.eq (star_left_comm _ _ _)).free;have c4:=(h2.eq (star_3 _ _ _ _)).cell;have f4:=(h2.eq (star_3 _ _ _ _)).free;simp only[World.size_alloc] at *;clear hw2 c f;generalize hg:w.heap.size=g at *;have k0:w2.cell? ⟨g+1,0,none⟩=some (.int .i64 vs):=c2 0;have k1:w2.cell? ⟨g+1,1,none⟩=some (.int .i64 va):=c2 1;have k2:w2.cell? ⟨g+1,2,none⟩=some (.int .i64 vr):=c2 2;have k3:w2.cell? ⟨g+1,3,none⟩=some (.bool peer):=c2 3;have k4:w2.cell? ⟨g+1,4,none⟩=some (.bool own):=c2 4;have k5:w2.cell? ⟨g+1,5,none⟩=some (.bool refused):=c2 5;have k6:w2.cell? ⟨f,7,none⟩=some (ptr qp):=c4 7;clear hg c2 c4 f4;have hne:f≠g:=by omega
 have hne2:g≠f:=by omega
 go_region_held3 (fun w'=>w'.cell? ⟨g+1,0,none⟩=some (.int .i64 vs)/\w'.cell? ⟨g+1,1,none⟩=some (.int .i64 va)/\w'.cell? ⟨g+1,2,none⟩=some (.int .i64 vr)/\w'.cell? ⟨g+1,3,none⟩=some (.bool peer)/\w'.cell? ⟨g+1,4,none⟩=some (.bool own)/\w'.cell? ⟨g+1,5,none⟩=some (.bool refused)/\w'.cell? ⟨f,7,none⟩=some (ptr qp)) (first | (with_reducible exact⟨k0,k1,k2,k3,k4,k5,k6⟩) | (simp only[World.cell?_drew];with_reducible exact⟨k0,k1,k2,k3,k4,k5,k6⟩) | (with_reducible exact⟨m0,m1,m2,m3,m4,m5,m6⟩) | go_keep) (first | (go_at_call 151;refine (q_sent qp q w0 _ _ hq.drew).mono ?_;rintro e w5 ⟨rfl,rfl⟩) | (go_at_call 152;refine (q_left qp q w0 _ _ hq.drew okq).mono ?_;rintro e w6 ⟨rfl,n,hw6⟩;have h6:St w0 w6 _:=hw6 ▸ h2.drew.drewN n;clear hw6;have m0:=(h6.cell 0).trans (show _=some (Value.int .i64 vs) from rfl);have m1:=(h6.cell 1).trans (show _=some (Value.int .i64 va) from rfl);have m2:=(h6.cell 2).trans (show _=some (Value.int .i64 vr) from rfl);have m3:=(h6.cell 3).trans (show _=some (Value.bool peer) from rfl);have m4:=(h6.cell 4).trans (show _=some (Value.bool own) from rfl);have m5:=(h6.cell 5).trans (show _=some (Value.bool refused) from rfl);have m6:=((h6.eq (star_3 _ _ _ _)).cell 7).trans (show _=some (ptr qp) from rfl);have c6:=(h6.eq (star_left_comm _ _ _)).cell;have f6:=(h6.eq (star_left_comm _ _ _)).free))
 go_wp2;have h9:=(((((((((h6.eq (star_left_comm _ _ _)).set 0 (.int .i64 vs)).set 1 (.int .i64 va)).set 2 (.int .i64 vr)).set 3 (.bool peer)).set 4 (.bool own)).set 5 (.bool refused)).set 6 (.int .i64 q.sent)).set 7 (.int .i64 ((q.l.length:Int) - q.sent)));generalize ((((((((w6.setCell ⟨g,0,none⟩ (.int .i64 vs)).setCell ⟨g,1,none⟩ (.int .i64 va)).setCell ⟨g,2,none⟩ (.int .i64 vr)).setCell ⟨g,3,none⟩ (.bool peer)).setCell ⟨g,4,none⟩ (.bool own)).setCell ⟨g,5,none⟩ (.bool refused)).setCell ⟨g,6,none⟩ (.int .i64 q.sent)).setCell ⟨g,7,none⟩ (.int .i64 ((q.l.length:Int) - q.sent)))=w9 at *;have c9:=h9.cell;refine bodyPost_ret (v:=.agg (Fl.view ⟨vs,va,vr,peer,own,refused,k,q⟩)) (by simp[results,Tryz.results81,go_sem,Fl.view,c9]) rfl ⟨rfl,?_⟩
 exact h9.drop.drop.f_shut rfl rfl
theorem push_sent (q:Q) (s:ByteArray):(q.push s).1.sent=q.sent:=by unfold Q.push;split <;> (try split) <;> rfl
theorem back0_sent (q:Q):(q.back 0).1={ q with sent:=0 }:=by unfold Q.back;rw[if_neg (by omega)];rfl
theorem Fl.Ok.new (k:Int) (n:Int):Fl.Ok ⟨0,0,0,false,false,false,k,⟨(max 1 (min n 256)).toNat,[],0⟩⟩:=⟨by simp,by simp,by simp,Q.Ok.new n,by simp,by simp only[];omega⟩
theorem Fl.Ok.push {s:Fl} (ok:s.Ok) (d:ByteArray):Fl.Ok { s with q:=(s.q.push d).1 }:=⟨ok.s1,ok.a1,ok.r1,ok.q.push d,by simp only[push_sent];exact ok.w,by simp only[push_sent];exact ok.n⟩
theorem Fl.Ok.take {s:Fl} (ok:s.Ok):s.take.1.Ok:=by
 unfold Fl.take;split
 ·exact ok
 ·rename_i h
  simp only[not_or] at h;have hw:=ok.w;have h3:=h.2.2;unfold roomOf at h3;have hs:s.q.take.1.sent=s.q.sent+1:=by unfold Q.take;rw[if_pos (by omega)]
  have:=ok.s1
  have:=ok.a1
  refine⟨by simp only[];omega,ok.a1,ok.r1,ok.q.take,?_,?_⟩
  ·simp only[hs]
   omega
  ·simp only[hs]
   omega
theorem Fl.Ok.ack {s:Fl} (ok:s.Ok) (nr:Int):(s.ack nr).1.Ok:=by
 unfold Fl.ack;split
 ·rename_i h
  have hw:=ok.w;have:=ok.s1
  have:=ok.a1
  have hn:=ok.n;have hs:(s.q.done ((nr - s.va) % 128)).1.sent=s.q.sent - ((nr - s.va) % 128).toNat:=by unfold Q.done;rw[if_neg (by omega)]
  refine⟨ok.s1,by simp only[];omega,ok.r1,ok.q.done _,?_,?_⟩
  ·simp only[hs]
   omega
  ·simp only[hs]
   omega
 ·exact ok
theorem Fl.Ok.back {s:Fl} (ok:s.Ok):s.back.Ok:=⟨ok.a1,ok.a1,ok.r1,ok.q.back 0,by simp only[Fl.back,back0_sent];simp,by simp only[Fl.back,back0_sent];omega⟩
theorem Fl.Ok.come {s:Fl} (ok:s.Ok) (ns:Int):(s.come ns).1.Ok:=by
 unfold Fl.come;split
 ·exact ok
 ·split
  ·exact⟨ok.s1,ok.a1,by simp only[];omega,ok.q,ok.w,ok.n⟩
  ·split
   ·exact ok
   ·exact⟨ok.s1,ok.a1,ok.r1,ok.q,ok.w,ok.n⟩
theorem Fl.Ok.peer {s:Fl} (ok:s.Ok) (b:Bool):Fl.Ok { s with peer:=b }:=⟨ok.s1,ok.a1,ok.r1,ok.q,ok.w,ok.n⟩
theorem Fl.Ok.own {s:Fl} (ok:s.Ok) (b:Bool):Fl.Ok { s with own:=b }:=⟨ok.s1,ok.a1,ok.r1,ok.q,ok.w,ok.n⟩
theorem Fl.Ok.reset {s:Fl} (ok:s.Ok):s.reset.Ok:=⟨by simp[Fl.reset],by simp[Fl.reset],by simp[Fl.reset],ok.q.back 0,by simp only[Fl.reset,back0_sent];simp,by simp only[Fl.reset,back0_sent];omega⟩
theorem Fl.Ok.clear {s:Fl} (ok:s.Ok):s.clear.Ok:=⟨ok.a1,ok.a1,ok.r1,ok.q.clear,by simp[Fl.clear],by simp only[Fl.clear];omega⟩
structure Fl.Like (s t:Fl):Prop where
 k:t.k=s.k
 most:t.q.most=s.q.most
theorem Fl.Like.refl (s:Fl):s.Like s:=⟨rfl,rfl⟩
theorem Fl.Like.trans {a b c:Fl} (h:a.Like b) (g:b.Like c):a.Like c:=⟨g.k.trans h.k,g.most.trans h.most⟩
end Go.Proofs.YtnnahljdhdippaaGreatDoor
