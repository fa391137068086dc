/- Parts of a proof (PutC, GetP, TeiP, GetC, GetD). No condition. -/
import Derived.Test.YtjcldoejpldcmaaGreatDoorC3
import Derived.Test.YtjcldoejpldcmaaGreatDoorC6
namespace Go.Proofs.YtjcldoejpldcmaaGreatDoor
set_option maxRecDepth 100000
set_option maxHeartbeats 6400000
open Go.RowKit
def firstK:List Int:=[0,1,5,9,111,15,3,67,99,135]
def FirstAt (w:World):Prop:=∀ i:Nat,i<10->w.cell? ⟨1,i,none⟩=some (.int .u8 (firstK.getD i 0))
theorem FirstAt.old {w w':World} {n:Nat} (h:FirstAt w) (hb:Below n w w') (hn:1<n):FirstAt w':=fun i hi=>(hb.cell (p:=⟨1,i,none⟩) hn).trans (h i hi)
theorem FirstAt.pos {w:World} (h:FirstAt w):1<w.heap.size:=World.block_lt_of_cell? _ _ (h 0 (by decide))
def bitI (b:Bool):Int:=if b=true then 1 else 0
def ctlO (k:Int) (pf:Bool) (ns nr:Int):List Int :=
 if numb k=true then [if k=0 then 2*ns else firstK.getD k.toNat 0,2*nr+bitI pf]
 else [bits .or .u8 (firstK.getD k.toNat 0) (16*bitI pf)]
theorem packs_b7 (b:Bool) (n:Int) (h0:0<=n) (h1:n<128):packs [(1,bitI b),(7,n)] 0 0=(2*n+bitI b,0):=by
 obtain⟨m,rfl⟩:∃ m:Nat,n=m:=⟨n.toNat,by omega⟩;have:∀ (b:Bool) (n:Fin 128),packs [(1,bitI b),(7,(n:Nat))] 0 0=(2*((n:Nat):Int)+bitI b,0):=by decide +kernel
 exact this b ⟨m,by omega⟩
theorem ctl_or:∀ (i:Fin 10) (b:Bool),0<=bits .or .u8 (firstK.getD i 0) (16*bitI b)/\bits .or .u8 (firstK.getD i 0) (16*bitI b)<256/\0<=firstK.getD i 0/\firstK.getD i 0<256:=by decide +kernel
theorem c_one (b:Bool) (w:World):Calls Tryz.prog 137 #[.bool b] w fun r w'=>r=.returned (.int .i64 (bitI b))/\w=w':=by
 cases b
 all_goals (
  go_enter Tryz.func137,Tryz.ntmps137
  go_wp2;go_ret
  exact⟨rfl,rfl⟩)
theorem a_one (b:Bool) (w:World):Calls Tryz.prog 138 #[.bool b] w fun r w'=>r=.returned (.int .i64 (bitI b))/\w=w':=by
 cases b
 all_goals (
  go_enter Tryz.func138,Tryz.ntmps138
  go_wp2;go_ret
  exact⟨rfl,rfl⟩)
theorem b_pack2 {a b c d x y:Int} (hv:packs [(a,b),(c,d)] 0 0=(x,y)) {w0 wd:World} {R:HP} (h:St w0 wd R) :
  Calls Tryz.prog 135 #[.slice (some ⟨wd.heap.size,0,none⟩) 2 2] (wd.alloc (.cells #[.int .i64 a,.int .i64 b,.int .i64 c,.int .i64 d] 277)) fun e w'=>e=.returned (.tuple #[.int .u8 x,.int .i64 y])/\St w0 w' R:=by
 have h3:=h.alloc (.cells #[.int .i64 a,.int .i64 b,.int .i64 c,.int .i64 d] 277);have h4:=St.row_mk (xs:=pairC [(a,b),(c,d)]) (n:=2) (cap:=2) (sz:=2) (off:=0) h3 rfl (by decide) (by decide) (by simp) (fun j hj=>by match j,hj with | 0,_=>rfl | 1,_=>rfl | 2,_=>rfl | 3,_=>rfl);have hp:=b_pack [(a,b),(c,d)] _ w0 _ _ h4 (by simp);rw[hv] at hp;exact hp.mono fun e w' ⟨he,hs⟩=>⟨he,hs.drop⟩
theorem b_pack3 {a b c d f g x y:Int} (hv:packs [(a,b),(c,d),(f,g)] 0 0=(x,y)) {w0 wd:World} {R:HP} (h:St w0 wd R) :
  Calls Tryz.prog 135 #[.slice (some ⟨wd.heap.size,0,none⟩) 3 3] (wd.alloc (.cells #[.int .i64 a,.int .i64 b,.int .i64 c,.int .i64 d,.int .i64 f,.int .i64 g] 277)) fun e w'=>e=.returned (.tuple #[.int .u8 x,.int .i64 y])/\St w0 w' R:=by
 have h3:=h.alloc (.cells #[.int .i64 a,.int .i64 b,.int .i64 c,.int .i64 d,.int .i64 f,.int .i64 g] 277);have h4:=St.row_mk (xs:=pairC [(a,b),(c,d),(f,g)]) (n:=3) (cap:=3) (sz:=2) (off:=0) h3 rfl (by decide) (by decide) (by simp) (fun j hj=>by match j,hj with | 0,_=>rfl | 1,_=>rfl | 2,_=>rfl | 3,_=>rfl | 4,_=>rfl | 5,_=>rfl);have hp:=b_pack [(a,b),(c,d),(f,g)] _ w0 _ _ h4 (by simp);rw[hv] at hp;exact hp.mono fun e w' ⟨he,hs⟩=>⟨he,hs.drop⟩
theorem c_put (k:Int) (pf:Bool) (ns nr:Int) (k0:0<=k) (k1:k<10) (n0:0<=ns) (n1:ns<128) (r0:0<=nr) (r1:nr<128) (w0 w:World) (R:HP) (hF:FirstAt w) (h:St w0 w R) :
  Calls Tryz.prog 73 #[.agg #[.int .i64 k,.bool pf,.int .i64 ns,.int .i64 nr]] w fun e w'=>e=.returned (.tuple #[.string (octets (ctlO k pf ns nr)),.int .i64 0])/\St w0 w' R:=by
 have hg:=k_good k;have h1:=h.alloc (.cells #[.int .i64 k,.bool pf,.int .i64 ns,.int .i64 nr] 150);have hF1:=hF.old ((Below.refl w.heap.size w).alloc (Nat.le_refl _) (.cells #[.int .i64 k,.bool pf,.int .i64 ns,.int .i64 nr] 150)) hF.pos;obtain⟨i,rfl⟩:∃ i:Nat,k=i:=⟨k.toNat,by omega⟩;have hi:i<10:=by omega
 have hc:=hF1 i hi;have ho:=ctl_or ⟨i,hi⟩ pf;have hn:∀ w,Calls Tryz.prog 114 #[.int .i64 (i:Int)] w fun r w'=>r=.returned (.bool (numb i))/\w=w':=fun w=>(k_numb (i:Int) w).mono fun _ _ h=>⟨h.1,h.2.symm⟩
 have ho2:=c_one pf;have hgt:(decide ((0:Int)<=(i:Int)) && decide ((i:Int)<10))=true:=by simp;omega
 simp only[hgt] at hg;unfold ctlO;simp only[Int.toNat_natCast] at ho ⊢;generalize firstK.getD i 0=F at *;clear h hF hF1 hgt;by_cases h4:numb i=true
 ·rw[if_pos h4]
  rw[h4] at hn;have hp:=packs_b7 pf nr r0 r1;have hp0:=packs_b7 false ns n0 n1;have e0:∀ n:Int,2*n+bitI false=2*n:=fun n=>Int.add_zero _
  rw[e0] at hp0;clear e0;have hb2:0<=bitI pf/\bitI pf<=1:=by cases pf <;> decide
  generalize bitI pf=b at *;obtain⟨y,hy⟩:∃ y,2*nr+b=y:=⟨_,rfl⟩;have q0:0<=y/\y<256:=by omega
  rw[hy] at hp ⊢;obtain⟨X,hX⟩:∃ X,(if (i:Int)=0 then 2*ns else F)=X:=⟨_,rfl⟩;rw[hX];have HX:=Lib.hid hX;have Q0:=Lib.hid q0;clear hX hy hb2 q0;go_enter Tryz.func73,Tryz.ntmps73
  go_upto_region 1 with fail
  generalize w.alloc _=wa at *;generalize w.heap.size=ga at *;have c:=h1.cell;go_upto_region 6 with (first | (go_at_call 136;refine (hg _).mono ?_;rintro e w1 ⟨rfl,rfl⟩) | (go_at_call 114;refine (hn _).mono ?_;rintro e w1 ⟨rfl,rfl⟩) | (go_at_call 137;refine (ho2 _).mono ?_;rintro e w1 ⟨rfl,rfl⟩))
  have cd:=h1.drew.cell;have ce:=(h1.drew.alloc (.cells #[.int .i64 1,.int .i64 b,.int .i64 7,.int .i64 nr] 277)).f2.cell;go_region_held3 (fun w'=>w'.cell? ⟨ga,1,none⟩=some (.bool pf)/\w'.cell? ⟨ga,3,none⟩=some (.int .i64 nr)) (first | exact⟨c 1,c 3⟩ | exact⟨cd 1,cd 3⟩ | exact⟨ce 1,ce 3⟩ | exact⟨c5 1,c5 3⟩) (first
   | (go_at_call 137;refine (ho2 _).mono ?_;rintro e w1 ⟨rfl,rfl⟩)
   | (go_at_call 135;refine (b_pack2 hp h1.drew).mono ?_;rintro e w5 ⟨rfl,h5⟩;have c5:=h5.cell))
  clear c cd ce hp ho2 hg hn hc;have c:=h5.cell;have q0:=Q0.out;have hX:=HX.out;clear Q0 HX;by_cases k4:i=0
  ·subst k4
   rw[if_pos (show ((0:Nat):Int)=0 from rfl)] at hX;subst hX;go_wp2_with fail
   refine (b_pack2 hp0 h5).mono ?_
   rintro e w6 ⟨rfl,h6⟩;have hq:=run_octets (P:=Tryz.prog) (src:=126) (dst:=9) (e:=5) Tryz.underlying126 Tryz.underlying5 Tryz.underlying9 (w6.alloc (.cells #[.int .u8 (2*ns),.int .u8 y] 5)) ⟨w6.heap.size,0,none⟩ 2 [2*ns,y] 2 rfl
    (by intro n hn;simp at hn;omega) (by intro j hj;rw[add_none];match j,hj with | 0,_=>simp | 1,_=>simp)
   clear q0;go_wp2;go_ret2
   exact⟨rfl,(h6.alloc _).drop.drop⟩
  ·rw[if_neg (show ¬ ((i:Nat):Int)=0 by omega)] at hX
   subst hX;have k5:((i:Int) == 0)=false:=by simp;omega
   have hq:=run_octets (P:=Tryz.prog) (src:=126) (dst:=9) (e:=5) Tryz.underlying126 Tryz.underlying5 Tryz.underlying9 (w5.alloc (.cells #[.int .u8 F,.int .u8 y] 5)) ⟨w5.heap.size,0,none⟩ 2 [F,y] 2 rfl
    (by intro n hn;simp at hn;omega) (by intro j hj;rw[add_none];match j,hj with | 0,_=>simp | 1,_=>simp)
   clear q0;go_wp2;go_ret2
   exact⟨rfl,(h5.alloc _).drop.drop⟩
 ·rw[if_neg h4]
  rw[show numb i=false by simpa using h4] at hn;have hb:16*bitI pf=bitI pf*16:=Int.mul_comm _ _;have hw:IntKind.u8.wrap (bitI pf*16)=bitI pf*16:=by cases pf <;> decide
  have hw2:IntKind.i64.wrap (bitI pf*16)=bitI pf*16:=by cases pf <;> decide
  rw[hb] at ho ⊢;obtain⟨o1,o2,_,_⟩:=ho;generalize bitI pf=b at *;obtain⟨o,hor⟩:∃ o,bits .or .u8 F (b*16)=o:=⟨_,rfl⟩;rw[hor] at o1 o2 ⊢;clear hb h4;go_enter Tryz.func73,Tryz.ntmps73
  go_upto_region 1 with fail
  generalize w.alloc _=wa at *;generalize w.heap.size=ga at *;have c:=h1.cell;have hq:=run_octets (P:=Tryz.prog) (src:=126) (dst:=9) (e:=5) Tryz.underlying126 Tryz.underlying5 Tryz.underlying9 (wa.alloc (.cells #[.int .u8 o] 5)) ⟨wa.heap.size,0,none⟩ 1 [o] 1 rfl
   (by intro n hn;simp at hn;omega) (by intro j hj;rw[add_none];match j,hj with | 0,_=>simp)
  go_wp2_with (first | (go_at_call 136;refine (hg _).mono ?_;rintro e w1 ⟨rfl,rfl⟩) | (go_at_call 114;refine (hn _).mono ?_;rintro e w1 ⟨rfl,rfl⟩) | (go_at_call 137;refine (ho2 _).mono ?_;rintro e w1 ⟨rfl,rfl⟩))
  go_ret2
  exact⟨rfl,(h1.alloc _).drop.drop⟩
theorem packs_adr (b:Bool) (n:Int) (h0:0<=n) (h1:n<64):packs [(1,0),(1,bitI b),(6,n)] 0 0=(2*bitI b+4*n,0):=by
 obtain⟨m,rfl⟩:∃ m:Nat,n=m:=⟨n.toNat,by omega⟩;have:∀ (b:Bool) (n:Fin 64),packs [(1,0),(1,bitI b),(6,(n:Nat))] 0 0=(2*bitI b+4*((n:Nat):Int),0):=by decide +kernel
 exact this b ⟨m,by omega⟩
def adrO (s t:Int) (cr:Bool):List Int:=[2*bitI cr+4*s,2*t+1]
theorem a_put (s t:Int) (cr:Bool) (s0:0<=s) (s1:s<64) (t0:0<=t) (t1:t<128) (w0 w:World) (R:HP) (h:St w0 w R) :
  Calls Tryz.prog 74 #[.agg #[.int .i64 s,.int .i64 t,.bool cr]] w fun e w'=>e=.returned (.tuple #[.string (octets (adrO s t cr)),.int .i64 0])/\St w0 w' R:=by
 have h1:=h.alloc (.cells #[.int .i64 s,.int .i64 t,.bool cr] 146);have ho:=a_one cr;have hp:=packs_adr cr s s0 s1;have hp2:=packs_17 t;rw[if_pos (by omega)] at hp2;have hb:0<=bitI cr/\bitI cr<=1:=by cases cr <;> decide
 unfold adrO;generalize bitI cr=b at *;obtain⟨x,hx⟩:∃ x,2*b+4*s=x:=⟨_,rfl⟩;obtain⟨y,hy⟩:∃ y,2*t+1=y:=⟨_,rfl⟩;have q:0<=x/\x<256/\0<=y/\y<256:=by omega
 rw[hx] at hp ⊢;rw[hy] at hp2 ⊢;have Q:=Lib.hid q;clear hx hy hb q h;go_enter Tryz.func74,Tryz.ntmps74
 go_upto_region 1 with fail
 generalize w.alloc _=wa at *;generalize w.heap.size=ga at *;have c:=h1.cell;have cd:=h1.drew.cell;have ce:=(h1.drew.alloc (.cells #[.int .i64 1,.int .i64 0,.int .i64 1,.int .i64 b,.int .i64 6,.int .i64 s] 277)).f2.cell;go_region_held3 (fun w'=>w'.cell? ⟨ga,2,none⟩=some (.bool cr)/\w'.cell? ⟨ga,0,none⟩=some (.int .i64 s)) (first | exact⟨c 2,c 0⟩ | exact⟨cd 2,cd 0⟩ | exact⟨ce 2,ce 0⟩ | exact⟨c5 2,c5 0⟩) (first
  | (go_at_call 138;refine (ho _).mono ?_;rintro e w1 ⟨rfl,rfl⟩)
  | (go_at_call 135;refine (b_pack3 hp h1.drew).mono ?_;rintro e w5 ⟨rfl,h5⟩;have c5:=h5.cell))
 clear c cd ce hp ho h1;have c:=h5.cell;go_wp2_with fail
 refine (b_pack2 hp2 h5).mono ?_
 rintro e w6 ⟨rfl,h6⟩;have hq:=run_octets (P:=Tryz.prog) (src:=126) (dst:=9) (e:=5) Tryz.underlying126 Tryz.underlying5 Tryz.underlying9 (w6.alloc (.cells #[.int .u8 x,.int .u8 y] 5)) ⟨w6.heap.size,0,none⟩ 2 [x,y] 2 rfl
  (by have:=Q.out;intro n hn;simp at hn;omega) (by intro j hj;rw[add_none];match j,hj with | 0,_=>simp | 1,_=>simp)
 go_wp2;go_ret2
 exact⟨rfl,(h6.alloc _).drop.drop⟩
theorem a_make (s t:Int) (c n:Bool) (w0 w:World) (R:HP) (h:St w0 w R) :
  Calls Tryz.prog 75 #[.agg #[.int .i64 s,.int .i64 t],.bool c,.bool n] w fun e w'=>e=.returned (.agg #[.int .i64 s,.int .i64 t,.bool (c == n)])/\St w0 w' R:=by
 have h2:=(h.alloc (.cells #[.int .i64 s,.int .i64 t] 73)).alloc (.cells #[.int .i64 s,.int .i64 t,.bool (c == n)] 146);have c2:=h2.cell;simp only[World.size_alloc] at *;go_enter Tryz.func75,Tryz.ntmps75
 go_wp2;refine bodyPost_ret (v:=.agg #[.int .i64 s,.int .i64 t,.bool (c == n)]) (by simp[results,Tryz.results75,go_sem,c2]) rfl ⟨rfl,h2.drop.drop⟩
def putO (f:Fr) (net:Bool):ByteArray:=sealed (octets (adrO f.sapi f.tei (f.cmd == net))++octets (ctlO f.kind f.pf f.ns f.nr)++f.info)
structure PutOk (f:Fr):Prop where
 s0:0<=f.sapi
 s1:f.sapi<64
 t0:0<=f.tei
 t1:f.tei<128
 may:mayK f.kind f.cmd=true
 car:carries f.kind f.info.size=true
 n0:0<=f.ns
 n1:f.ns<128
 r0:0<=f.nr
 r1:f.nr<128
theorem carries_le {k n:Int} (h:carries k n=true):n<=260/\0<=k/\k<10:=by
 unfold carries at h;split at h
 ·simp at h
  omega
 ·split at h
  ·simp at h
   omega
  ·simp at h
   omega
theorem ctlO_len (k:Int) (pf:Bool) (ns nr:Int):(ctlO k pf ns nr).length<=2:=by
 unfold ctlO;split <;> simp
theorem p_put (f:Fr) (net:Bool) (ok:PutOk f) (w0 w:World) (R:HP) (hN:∀ w',St w0 w' R->NamesAt w') (hF:∀ w',St w0 w' R->FirstAt w') (h:St w0 w R) :
  Calls Tryz.prog 35 #[.agg f.cells.toArray,.bool net] w fun e w'=>e=.returned (.tuple #[.string (putO f net),.int .i64 0])/\St w0 w' R:=by
 obtain⟨s0,s1,t0,t1,may,car,n0,n1,r0,r1⟩:=ok;obtain⟨a1,a2,cmd,k,pf,ns,nr,inf⟩:=f;simp only[] at *;obtain⟨i1,k0,k1⟩:=carries_le car;have h1:=h.alloc (.cells (Fr.cells ⟨a1,a2,cmd,k,pf,ns,nr,inf⟩).toArray TFr);have hc:=c_put k pf ns nr k0 k1 n0 n1 r0 r1 w0 _ _ (hF _ h1.drop) h1;have hm:=k_may k cmd;rw[may] at hm;have hk:=fun w hN=>k_carries k (inf.size:Int) w hN
 rw[car] at hk;unfold putO;have z1:(octets (adrO a1 a2 (cmd == net))).size=2:=by rw[octets_size];rfl
 have z2:(octets (ctlO k pf ns nr)).size<=2:=by rw[octets_size];exact ctlO_len _ _ _ _
 have ha:=fun v R h=>a_put a1 a2 (cmd == net) s0 s1 t0 t1 w0 v R h
 have hmk:=fun v R h=>a_make a1 a2 cmd net w0 v R h
 obtain⟨inn,hin⟩:∃ n,inf.size=n:=⟨_,rfl⟩;rw[hin] at hk i1;simp only[Fr.cells] at *;generalize (cmd == net)=cr at *;generalize octets (ctlO k pf ns nr)=oc at *;generalize octets (adrO a1 a2 cr)=oa at *;have y1:¬ 9223372036854775807<oa.size+oc.size:=by omega
 have y2:¬ 9223372036854775807<(oa++oc).size+inf.size:=by rw[ByteArray.size_append];omega
 have hs:=fun v R h=>s_seal (oa++oc++inf) w0 v R h (by rw[ByteArray.size_append,ByteArray.size_append];omega)
 have HN:=Lib.hid hN;have c:=h1.cell;clear hF hN h z1 z2 i1 car may;go_enter Tryz.func35,Tryz.ntmps35
 go_upto_region 1 with fail
 generalize w.alloc _=wa at *;generalize w.heap.size=ga at *;go_wp2_with fail
 refine hc.mono ?_
 rintro e w1 ⟨rfl,h2⟩;clear hc h1 c;have c:=h2.cell;go_wp2_with fail
 refine (hm _).mono ?_
 rintro e w2 ⟨rfl,rfl⟩;go_wp2_with fail
 refine (hmk _ _ h2).mono ?_
 rintro e w3 ⟨rfl,h3⟩;clear hmk;go_wp2_with fail
 refine (ha _ _ h3).mono ?_
 rintro e w4 ⟨rfl,h4⟩;clear ha c h2 h3;have c:=h4.cell;go_wp2_with fail
 refine (hk _ (HN.out _ h4.drop)).mono ?_
 rintro e w5 ⟨rfl,rfl⟩;clear hk;go_wp2_with fail
 refine (hs _ _ h4).mono ?_
 rintro e w6 ⟨rfl,h5⟩;go_wp2;go_ret2
 exact⟨rfl,h5.drop⟩
def byteAt (s:ByteArray) (i:Nat):Int:=((s.data.toList.getD i 0).toNat:Int)
theorem byteAt_range (s:ByteArray) (i:Nat):0<=byteAt s i/\byteAt s i<256:=by
 unfold byteAt;have:=(s.data.toList.getD i 0).toNat_lt
 omega
def checkO (s:ByteArray):ByteArray × Int :=
 if s.size<2 then (noStr,3)
 else if sealed (s.extract 0 (s.size - 2))=s then (s.extract 0 (s.size - 2),0)
 else (noStr,6)
theorem sealed_size (b:ByteArray):(sealed b).size=b.size+2:=by
 unfold sealed;rw[ByteArray.size_append,octets_size];rfl
theorem sealed_body (b:ByteArray):(sealed b).extract 0 b.size=b:=by
 unfold sealed;exact ByteArray.extract_append_eq_left rfl
theorem check_seal (b:ByteArray):checkO (sealed b)=(b,0):=by
 unfold checkO;rw[sealed_size,if_neg (by omega),show b.size+2 - 2=b.size by omega,sealed_body,if_pos rfl]
structure Adr where
 s:Int
 t:Int
 cr:Bool
abbrev Adr.cells (a:Adr):List Value:=[.int .i64 a.s,.int .i64 a.t,.bool a.cr]
def adrG (s:ByteArray):Adr × Int :=
 if s.size<2 then (⟨0,0,false⟩,3)
 else if byteAt s 0 % 2≠0\/byteAt s 1 % 2=0 then (⟨0,0,false⟩,4)
 else (⟨byteAt s 0 / 4,byteAt s 1 / 2,byteAt s 0 / 2 % 2 == 1⟩,0)
structure Ctl where
 k:Int
 pf:Bool
 ns:Int
 nr:Int
abbrev Ctl.none:Ctl:=⟨0,false,0,0⟩
abbrev Ctl.cells (c:Ctl):List Value:=[.int .i64 c.k,.bool c.pf,.int .i64 c.ns,.int .i64 c.nr]
def idxK (x:Int):Int:=if x=1 then 1 else if x=5 then 2 else if x=9 then 3 else if x=111 then 4 else if x=15 then 5 else if x=3 then 6 else if x=67 then 7 else if x=99 then 8 else if x=135 then 9 else 0
def noPF (x:Int):Int:=x - 16*(x / 16 % 2)
def kOf (x:Int):Int:=if idxK x=0 then idxK (noPF x) else idxK x
def ctlG (s:ByteArray):Ctl × Int × Int :=
 if s.size=0 then (.none,0,3)
 else
  let x:=byteAt s 0
  let k:=if x % 2=0 then 0 else kOf x
  if x % 2≠0/\(kOf x=0\/(numb (kOf x)=true/\x≠firstK.getD (kOf x).toNat 0)) then (.none,0,4)
  else if numb k=false then (⟨k,x / 16 % 2 == 1,0,0⟩,1,0)
  else if s.size<2 then (.none,0,3)
  else (⟨k,byteAt s 1 % 2 == 1,if k=0 then x / 2 else 0,byteAt s 1 / 2⟩,2,0)
def getO (s:ByteArray) (net:Bool):Fr × Int :=
 if (checkO s).2≠0 then (.none,6)
 else
  let b:=(checkO s).1
  if (adrG b).2≠0 then (.none,(adrG b).2)
  else
   let c:=ctlG (b.extract 2 b.size)
   let cmd:=(adrG b).1.cr == net
   if c.2.2≠0 then (.none,c.2.2)
   else
    let info:=b.extract (2+c.2.1).toNat b.size
    if mayK c.1.k cmd=false then (.none,4)
    else if carries c.1.k info.size=false then (.none,5)
    else (⟨(adrG b).1.s,(adrG b).1.t,cmd,c.1.k,c.1.pf,c.1.ns,c.1.nr,info⟩,0)
theorem octets_at (l:List Int) (i:Nat) (n:Int) (h:l[i]?=some n) (h0:0<=n) (h1:n<256) (r:ByteArray):byteAt (octets l++r) i=n:=by
 have hi:i<l.length:=(List.getElem?_eq_some_iff.1 h).1;unfold byteAt octets;have e:((⟨(l.map fun n=>UInt8.ofNat n.toNat).toArray⟩:ByteArray)++r).data.toList=(l.map fun n=>UInt8.ofNat n.toNat)++r.data.toList:=by
  rw[ByteArray.data_append];simp
 rw[e,List.getD_eq_getElem?_getD,List.getElem?_append_left (by rw[List.length_map];exact hi),List.getElem?_map,h];simp only[Option.map_some,Option.getD_some,UInt8.toNat_ofNat'];omega
theorem adr_get (s t:Int) (cr:Bool) (s0:0<=s) (s1:s<64) (t0:0<=t) (t1:t<128) (r:ByteArray):adrG (octets (adrO s t cr)++r)=(⟨s,t,cr⟩,0):=by
 have hs:2<=(octets (adrO s t cr)++r).size:=by rw[ByteArray.size_append,octets_size];show 2<=2+_;omega
 have hb:bitI cr=0\/bitI cr=1:=by cases cr <;> simp[bitI]
 have a0:=octets_at (adrO s t cr) 0 (2*bitI cr+4*s) rfl (by omega) (by omega) r;have a1:=octets_at (adrO s t cr) 1 (2*t+1) rfl (by omega) (by omega) r;unfold adrG;rw[if_neg (by omega),a0,a1,if_neg (by omega)];have e1:(2*bitI cr+4*s) / 4=s:=by omega
 have e2:(2*t+1) / 2=t:=by omega
 have e3:(2*bitI cr+4*s) / 2 % 2=bitI cr:=by omega
 rw[e1,e2,e3];cases cr <;> rfl
def Ctl.kept (k:Int) (pf:Bool) (ns nr:Int):Ctl:=⟨k,pf,if k=0 then ns else 0,if numb k=true then nr else 0⟩
theorem ctl_un:∀ (i:Fin 10) (b:Bool),numb ((i:Nat):Int)=false->(bits .or .u8 (firstK.getD i 0) (16*bitI b)) % 2≠0/\kOf (bits .or .u8 (firstK.getD i 0) (16*bitI b))=((i:Nat):Int)/\(bits .or .u8 (firstK.getD i 0) (16*bitI b)) / 16 % 2=bitI b:=by decide +kernel
theorem ctl_nu:∀ i:Fin 4,1<=(i:Nat)->firstK.getD i 0 % 2≠0/\kOf (firstK.getD i 0)=((i:Nat):Int):=by decide +kernel
theorem ctl_get (k:Int) (pf:Bool) (ns nr:Int) (k0:0<=k) (k1:k<10) (n0:0<=ns) (n1:ns<128) (r0:0<=nr) (r1:nr<128) (r:ByteArray):ctlG (octets (ctlO k pf ns nr)++r)=(Ctl.kept k pf ns nr,((ctlO k pf ns nr).length:Int),0):=by
 obtain⟨i,rfl⟩:∃ i:Nat,k=i:=⟨k.toNat,by omega⟩;have hi:i<10:=by omega
 have hb:bitI pf=0\/bitI pf=1:=by cases pf <;> simp[bitI]
 have ho:=ctl_or ⟨i,hi⟩ pf;unfold ctlO Ctl.kept;by_cases hn:numb (i:Int)=true
 ·rw[if_pos hn,if_pos hn]
  have h4:i<4:=by unfold numb at hn;simp at hn;omega
  simp only[Int.toNat_natCast] at ho ⊢;have a0:=octets_at [if (i:Int)=0 then 2*ns else firstK.getD i 0,2*nr+bitI pf] 0 (if (i:Int)=0 then 2*ns else firstK.getD i 0) rfl (by split <;> omega) (by split <;> omega) r;have a1:=octets_at [if (i:Int)=0 then 2*ns else firstK.getD i 0,2*nr+bitI pf] 1 (2*nr+bitI pf) rfl (by omega) (by omega) r;have hz:2<=(octets [if (i:Int)=0 then 2*ns else firstK.getD i 0,2*nr+bitI pf]++r).size:=by rw[ByteArray.size_append,octets_size];show 2<=2+_;omega
  have hlen:(([if (i:Int)=0 then 2*ns else firstK.getD i 0,2*nr+bitI pf]:List Int).length:Int)=2:=rfl;rw[hlen];obtain⟨X,hX⟩:∃ X,(if (i:Int)=0 then 2*ns else firstK.getD i 0)=X:=⟨_,rfl⟩;rw[hX] at a0 a1 hz ⊢;generalize octets [X,2*nr+bitI pf]++r=S at *;have e1:(2*nr+bitI pf) / 2=nr:=by omega
  have e2:((2*nr+bitI pf) % 2 == 1)=pf:=by
   have:(2*nr+bitI pf) % 2=bitI pf:=by omega
   rw[this];cases pf <;> rfl
  unfold ctlG;rw[if_neg (show ¬ S.size=0 by omega),a0,a1];by_cases i0:i=0
  ·subst i0
   rw[if_pos (show ((0:Nat):Int)=0 from rfl)] at hX;have hx:X % 2=0:=by omega
   have e3:X / 2=ns:=by omega
   rw[if_neg (fun h=>h.1 hx),if_pos hx,if_neg (show ¬ numb 0=false by decide),if_neg (by omega),if_pos rfl,e1,e2,e3,if_pos (show ((0:Nat):Int)=0 from rfl)];rfl
  ·have hi0:¬ (i:Int)=0:=by omega
   rw[if_neg hi0] at hX;obtain⟨g1,g2⟩:=ctl_nu ⟨i,h4⟩ (by show 1<=i;omega);simp only[hX] at g1 g2;have hc:¬ (X % 2≠0/\(kOf X=0\/(numb (kOf X)=true/\X≠firstK.getD (kOf X).toNat 0))):=by
    rw[g2,Int.toNat_natCast,hX];rintro ⟨_,h | h⟩
    ·exact hi0 h
    ·exact h.2 rfl
   rw[if_neg hc,if_neg g1,g2,if_neg (by rw[hn];decide),if_neg (by omega),if_neg hi0,if_neg hi0,e1,e2]
 ·rw[if_neg hn,if_neg hn]
  have hn':numb (i:Int)=false:=by simpa using hn
  obtain⟨g1,g2,g3⟩:=ctl_un ⟨i,hi⟩ pf hn';simp only[Int.toNat_natCast] at g1 g2 g3 ho ⊢;have a0:=octets_at [bits .or .u8 (firstK.getD i 0) (16*bitI pf)] 0 _ rfl ho.1 ho.2.1 r;have hz:(octets [bits .or .u8 (firstK.getD i 0) (16*bitI pf)]++r).size≠0:=by rw[ByteArray.size_append,octets_size];show 1+_≠0;omega
  have hi0:¬ (i:Int)=0:=by
   intro e;rw[e] at hn';exact absurd hn' (by decide)
  unfold ctlG;rw[if_neg hz,a0];dsimp only;rw[if_neg g1,g2,hn',if_neg (by simp;intro _;omega),if_pos rfl,g3,if_neg hi0];cases pf <;> rfl
def Fr.kept (f:Fr):Fr:={ f with ns:=if f.kind=0 then f.ns else 0,nr:=if numb f.kind=true then f.nr else 0 }
theorem get_put {f:Fr} (net:Bool) (ok:PutOk f):getO (putO f net) net=(f.kept,0):=by
 obtain⟨i1,k0,k1⟩:=carries_le ok.car;unfold getO putO;rw[check_seal];dsimp only;rw[if_neg (by decide),ByteArray.append_assoc,adr_get _ _ _ ok.s0 ok.s1 ok.t0 ok.t1];dsimp only;rw[if_neg (by decide)];have e2:(octets (adrO f.sapi f.tei (f.cmd == net))).size=2:=by rw[octets_size];rfl
 have e3:(octets (adrO f.sapi f.tei (f.cmd == net))++(octets (ctlO f.kind f.pf f.ns f.nr)++f.info)).extract 2 (octets (adrO f.sapi f.tei (f.cmd == net))++(octets (ctlO f.kind f.pf f.ns f.nr)++f.info)).size=octets (ctlO f.kind f.pf f.ns f.nr)++f.info:=by
  rw[ByteArray.size_append,← e2];exact ByteArray.extract_append_eq_right rfl rfl
 have e4:(octets (adrO f.sapi f.tei (f.cmd == net))++(octets (ctlO f.kind f.pf f.ns f.nr)++f.info)).extract (2+((ctlO f.kind f.pf f.ns f.nr).length:Int)).toNat (octets (adrO f.sapi f.tei (f.cmd == net))++(octets (ctlO f.kind f.pf f.ns f.nr)++f.info)).size=f.info:=by
  have e5:(2+((ctlO f.kind f.pf f.ns f.nr).length:Int)).toNat=(octets (adrO f.sapi f.tei (f.cmd == net))++octets (ctlO f.kind f.pf f.ns f.nr)).size:=by
   rw[ByteArray.size_append,e2,octets_size];omega
  rw[← ByteArray.append_assoc,e5,ByteArray.size_append (a:=octets (adrO f.sapi f.tei (f.cmd == net))++octets (ctlO f.kind f.pf f.ns f.nr))];exact ByteArray.extract_append_eq_right rfl rfl
 have e6:((f.cmd == net) == net)=f.cmd:=by cases f.cmd <;> cases net <;> rfl
 rw[e3,ctl_get f.kind f.pf f.ns f.nr k0 k1 ok.n0 ok.n1 ok.r0 ok.r1];dsimp only;rw[e4,e6,if_neg (by decide),show (Ctl.kept f.kind f.pf f.ns f.nr).k=f.kind from rfl,if_neg (by rw[ok.may];decide),if_neg (by rw[ok.car];decide)];rfl
structure Tm where
 ty:Int
 ri:Int
 ai:Int
abbrev Tm.cells (m:Tm):List Value:=[.int .i64 m.ty,.int .i64 m.ri,.int .i64 m.ai]
abbrev Tm.zero:Tm:=⟨0,0,0⟩
def Tm.bad (m:Tm):Int:=if m.ty<1\/7<m.ty then 4 else if m.ri<0\/65536<=m.ri then 2 else if 0<=m.ai/\m.ai<=127 then 0 else 2
def Tm.oct (m:Tm):ByteArray:=if m.bad=0 then octets [15,m.ri / 256,m.ri % 256,m.ty,2*m.ai+1] else noStr
def Tm.fr (m:Tm):Fr:=if m.bad=0 then ⟨63,127,true,6,false,0,0,m.oct⟩ else .none
def tmG (s:ByteArray):Tm × Int :=
 if s.size<5 then (.zero,3)
 else if 5<s.size then (.zero,5)
 else if byteAt s 0≠15\/byteAt s 3<1\/7<byteAt s 3\/byteAt s 4 % 2=0 then (.zero,4)
 else (⟨byteAt s 3,256*byteAt s 1+byteAt s 2,byteAt s 4 / 2⟩,0)
def fromNet (t:Int):Bool:=t == 2 || t == 3 || t == 4 || t == 6
def tmOf (f:Fr) (net:Bool):Tm × Bool :=
 if ¬ (f.sapi=63/\f.tei=127)\/f.kind≠6\/f.cmd=false\/(tmG f.info).2≠0\/fromNet (tmG f.info).1.ty≠net then (.zero,false)
 else ((tmG f.info).1,true)
theorem tm_get {m:Tm} (h:m.bad=0):tmG m.oct=(m,0):=by
 have hb:1<=m.ty/\m.ty<=7/\0<=m.ri/\m.ri<65536/\0<=m.ai/\m.ai<=127:=by
  unfold Tm.bad at h;split at h
  ·exact absurd h (by decide)
  ·split at h
   ·exact absurd h (by decide)
   ·split at h
    ·omega
    ·exact absurd h (by decide)
 obtain⟨ty,ri,ai⟩:=m;simp only[] at hb;unfold Tm.oct;rw[if_pos h];have key:∀ (i:Nat) (n:Int),[15,ri / 256,ri % 256,ty,2*ai+1][i]?=some n->0<=n->n<256->byteAt (octets [15,ri / 256,ri % 256,ty,2*ai+1]) i=n:=fun i n h1 h2 h3=>by
  have:=octets_at _ i n h1 h2 h3 noStr
  rw[show octets [15,ri / 256,ri % 256,ty,2*ai+1]++noStr=octets [15,ri / 256,ri % 256,ty,2*ai+1] from ByteArray.append_empty] at this;exact this
 have a0:=key 0 _ rfl (by omega) (by omega);have a1:=key 1 _ rfl (by omega) (by omega);have a2:=key 2 _ rfl (by omega) (by omega);have a3:=key 3 _ rfl (by omega) (by omega);have a4:=key 4 _ rfl (by omega) (by omega);have hz:(octets [15,ri / 256,ri % 256,ty,2*ai+1]).size=5:=octets_size _;generalize octets [15,ri / 256,ri % 256,ty,2*ai+1]=S at *;unfold tmG;rw[if_neg (by omega),if_neg (by omega),a0,a1,a2,a3,a4,if_neg (by omega)];have e1:256*(ri / 256)+ri % 256=ri:=by omega
 have e2:(2*ai+1) / 2=ai:=by omega
 rw[e1,e2]
theorem tm_bounds {m:Tm} (h:m.bad=0):m.oct.size=5:=by
 unfold Tm.oct;rw[if_pos h];exact octets_size _
theorem tm_fr {m:Tm} (h:m.bad=0):PutOk m.fr/\m.fr.kept=m.fr:=by
 have hz:=tm_bounds h;unfold Tm.fr;rw[if_pos h];refine⟨⟨show (0:Int)<=63 by decide,show (63:Int)<64 by decide,show (0:Int)<=127 by decide,show (127:Int)<128 by decide,show mayK 6 true=true by decide,?_,show (0:Int)<=0 by decide,show (0:Int)<128 by decide,show (0:Int)<=0 by decide,show (0:Int)<128 by decide⟩,rfl⟩
 show carries 6 m.oct.size=true
 rw[hz];decide
theorem tm_of {m:Tm} (h:m.bad=0) (net:Bool) (hn:fromNet m.ty=net):tmOf m.fr net=(m,true):=by
 have hg:=tm_get h;have e:m.fr=⟨63,127,true,6,false,0,0,m.oct⟩:=by unfold Tm.fr;rw[if_pos h]
 unfold tmOf;rw[e];dsimp only;rw[hg,if_neg (by simp[hn])]
structure Uv where
 tei:Int
 asking:Bool
 ri:Int
 tries:Int
abbrev Uv.cells (v:Uv):List Value:=[.int .i64 v.tei,.bool v.asking,.int .i64 v.ri,.int .i64 v.tries]
abbrev Uv.zero:Uv:=⟨-1,false,0,0⟩
structure Ue where
 kind:Int
 m:Tm
 tei:Int
abbrev Ue.cells (x:Ue):List Value:=[.int .i64 x.kind,.int .i64 x.m.ty,.int .i64 x.m.ri,.int .i64 x.m.ai,.int .i64 x.tei]
abbrev Ue.say (t ri ai:Int):Ue:=⟨0,⟨t,ri,ai⟩,0⟩
abbrev Ue.of (k t:Int):Ue:=⟨k,.zero,t⟩
structure Dr where
 no:Bool
 first:List Int
 state:Int
def Dr.next (d:Dr):Dr × Int :=
 if d.no=true then (d,0)
 else match d.first with
 | n :: r=>(⟨d.no,r,d.state⟩,IntKind.u16.wrap n)
 | []=>(⟨d.no,[],IntKind.u64.wrap (IntKind.u64.wrap (d.state*6364136223846793005)+1442695040888963407)⟩,IntKind.u64.wrap (IntKind.u64.wrap (d.state*6364136223846793005)+1442695040888963407) / 281474976710656)
structure Us where
 v:Uv
 most:Int
 d:Dr
def Us.ask (u:Us) (tries:Int):Us × List Ue:=(⟨⟨-1,true,u.d.next.2,tries⟩,u.most,u.d.next.1⟩,[.say 1 u.d.next.2 127,.of 4 0])
def Us.lose (u:Us):Us × List Ue:=({ u with v:=.zero },[.of 2 u.v.tei])
def autoTei (t:Int):Bool:=decide (64<=t) && decide (t<=126)
def Us.mine (u:Us) (m:Tm):Bool:=u.v.tei != -1 && (m.ai == u.v.tei || m.ai == 127)
def Us.message (u:Us) (m:Tm):Us × List Ue :=
 if m.bad≠0 then (u,[])
 else if m.ty=2/\u.v.asking=true/\m.ri=u.v.ri/\autoTei m.ai=true then ({ u with v:=⟨m.ai,false,0,0⟩ },[.of 5 0,.of 1 m.ai])
 else if (m.ty=2/\u.mine m=true/\m.ai=u.v.tei)\/(m.ty=6/\u.mine m=true) then u.lose
 else if m.ty=4/\u.mine m=true then ({ u with d:=u.d.next.1 },[.say 5 u.d.next.2 u.v.tei])
 else (u,[])
def Us.drop (u:Us):Us × List Ue × Int :=
 if u.v.asking=true then ({ u with v:=.zero },[.of 5 0],0)
 else if u.v.tei= -1 then (u,[],11)
 else (u.lose.1,u.lose.2,0)
def Us.timeout (u:Us):Us × List Ue :=
 if u.v.asking=false then (u,[])
 else if u.v.tries=u.most then ({ u with v:=.zero },[.of 3 0])
 else u.ask (u.v.tries+1)
theorem str_eq (a b:ByteArray):(a.toList == b.toList)=decide (a=b):=by
 rw[ByteArray.toList_eq,ByteArray.toList_eq];by_cases h:a=b
 ·rw[h];simp
 ·have:¬ a.data=b.data:=fun e=>h (ByteArray.ext e)
  simp[h,this]
theorem s_check (s:ByteArray) (w0 w:World) (R:HP) (h:St w0 w R) (hs:s.size<=1000000000) :
  Calls Tryz.prog 55 #[.string s] w fun e w'=>e=.returned (.tuple #[.string (checkO s).1,.int .i64 (checkO s).2])/\St w0 w' R:=by
 obtain⟨n,hn⟩:∃ n,s.size=n:=⟨_,rfl⟩;unfold checkO;rw[hn] at hs ⊢;by_cases h2:n<2
 ·rw[if_pos h2]
  have b2:decide ((n:Int)<2)=true:=by simp;omega
  go_enter Tryz.func55,Tryz.ntmps55
  go_wp2;go_ret2
  exact⟨rfl,h⟩
 ·rw[if_neg h2]
  have b2:decide ((n:Int)<2)=false:=by simp;omega
  have w2:IntKind.i64.wrap ((n:Int) - 2)=(n:Int) - 2:=by rw[IntKind.wrap_i64];omega
  have hb:(s.extract 0 (n - 2)).size=n - 2:=by rw[ByteArray.size_extract];omega
  have hse:=s_seal (s.extract 0 (n - 2)) w0 w R h (by omega);have hcut:((n:Int) - 2).toNat=n - 2:=by omega
  obtain⟨y,hy⟩:∃ y,sealed (s.extract 0 (n - 2))=y:=⟨_,rfl⟩;obtain⟨z,hz⟩:∃ z,s.extract 0 (n - 2)=z:=⟨_,rfl⟩;rw[hy,hz] at hse;rw[hy];have hq:(if y=s then (s.extract 0 (n - 2),(0:Int)) else (noStr,6))=(if y=s then s.extract 0 (n - 2) else noStr,if y=s then 0 else 6):=by split <;> rfl
  rw[hq];obtain⟨X,hX⟩:∃ X,(if y=s then s.extract 0 (n - 2) else noStr)=X:=⟨_,rfl⟩;obtain⟨Z,hZ⟩:∃ Z,(if y=s then (0:Int) else 6)=Z:=⟨_,rfl⟩;show Calls _ _ _ _ (fun e w'=>e=.returned (.tuple #[.string (if y=s then s.extract 0 (n - 2) else noStr),.int .i64 (if y=s then (0:Int) else 6)])/\St w0 w' R)
  rw[hX,hZ];rw[hz] at hX;clear hq;go_enter Tryz.func55,Tryz.ntmps55
  go_wp2_with fail
  refine hse.mono ?_
  rintro e w5 ⟨rfl,h5⟩;by_cases he:y=s
  ·have hd:(y.toList == s.toList)=true:=by rw[str_eq];exact decide_eq_true he
   rw[if_pos he] at hX hZ;go_wp2;go_ret2
   rw[← hX,← hZ];exact⟨rfl,h5⟩
  ·have hd:(y.toList == s.toList)=false:=by rw[str_eq];exact decide_eq_false he
   rw[if_neg he] at hX hZ;go_wp2;go_ret2
   rw[← hX,← hZ];exact⟨rfl,h5⟩
theorem f_k4:∀ y:Fin 256,bits .and .i64 ((y:Nat) / 4:Int) 63=((y:Nat) / 4:Int):=by decide +kernel
theorem f_k2:∀ y:Fin 256,bits .and .i64 ((y:Nat) / 2:Int) 127=((y:Nat) / 2:Int):=by decide +kernel
theorem f_k1:∀ y:Fin 256,bits .and .i64 ((y:Nat) / 2:Int) 1=((y:Nat) / 2 % 2:Int):=by decide +kernel
theorem oct_nat {x:Int} (x0:0<=x) (x1:x<256):∃ y:Fin 256,x=((y:Nat):Int):=⟨⟨x.toNat,by omega⟩,by simp;omega⟩
theorem b_field26 (x:Int) (x0:0<=x) (x1:x<256) (w:World):Calls Tryz.prog 112 #[.int .u8 x,.int .i64 2,.int .i64 6] w fun e w'=>e=.returned (.int .i64 (x / 4))/\∃ n,w'=w.drewN n:=by
 have hk:bits .and .i64 (x / 4) 63=x / 4:=by obtain⟨y,rfl⟩:=oct_nat x0 x1;exact f_k4 y
 go_enter Tryz.func112,Tryz.ntmps112
 go_wp2;go_quiet (fail)
 go_wp2;go_ret
 exact⟨rfl,_,rfl⟩
theorem b_field17 (x:Int) (x0:0<=x) (x1:x<256) (w:World):Calls Tryz.prog 112 #[.int .u8 x,.int .i64 1,.int .i64 7] w fun e w'=>e=.returned (.int .i64 (x / 2))/\∃ n,w'=w.drewN n:=by
 have hk:bits .and .i64 (x / 2) 127=x / 2:=by obtain⟨y,rfl⟩:=oct_nat x0 x1;exact f_k2 y
 go_enter Tryz.func112,Tryz.ntmps112
 go_wp2;go_quiet (fail)
 go_wp2;go_ret
 exact⟨rfl,_,rfl⟩
theorem b_field11 (x:Int) (x0:0<=x) (x1:x<256) (w:World):Calls Tryz.prog 112 #[.int .u8 x,.int .i64 1,.int .i64 1] w fun e w'=>e=.returned (.int .i64 (x / 2 % 2))/\∃ n,w'=w.drewN n:=by
 have hk:bits .and .i64 (x / 2) 1=x / 2 % 2:=by obtain⟨y,rfl⟩:=oct_nat x0 x1;exact f_k1 y
 go_enter Tryz.func112,Tryz.ntmps112
 go_wp2;go_quiet (fail)
 go_wp2;go_ret
 exact⟨rfl,_,rfl⟩
theorem f_s26 (x:Int) (x0:0<=x) (x1:x<256) (w0 w:World) (R:HP) (h:St w0 w R):Calls Tryz.prog 112 #[.int .u8 x,.int .i64 2,.int .i64 6] w fun e w'=>e=.returned (.int .i64 (x / 4))/\St w0 w' R:=by
 refine (b_field26 x x0 x1 w).mono ?_
 rintro e w1 ⟨rfl,n,rfl⟩;exact⟨rfl,h.drewN n⟩
theorem f_s17 (x:Int) (x0:0<=x) (x1:x<256) (w0 w:World) (R:HP) (h:St w0 w R):Calls Tryz.prog 112 #[.int .u8 x,.int .i64 1,.int .i64 7] w fun e w'=>e=.returned (.int .i64 (x / 2))/\St w0 w' R:=by
 refine (b_field17 x x0 x1 w).mono ?_
 rintro e w1 ⟨rfl,n,rfl⟩;exact⟨rfl,h.drewN n⟩
theorem f_s11 (x:Int) (x0:0<=x) (x1:x<256) (w0 w:World) (R:HP) (h:St w0 w R):Calls Tryz.prog 112 #[.int .u8 x,.int .i64 1,.int .i64 1] w fun e w'=>e=.returned (.int .i64 (x / 2 % 2))/\St w0 w' R:=by
 refine (b_field11 x x0 x1 w).mono ?_
 rintro e w1 ⟨rfl,n,rfl⟩;exact⟨rfl,h.drewN n⟩
theorem u8_1:∀ y:Fin 256,bits .and .u8 ((y:Nat):Int) 1=((y:Nat):Int) % 2:=by decide +kernel
theorem u8_and1 {x:Int} (x0:0<=x) (x1:x<256):bits .and .u8 x 1=x % 2:=by obtain⟨y,rfl⟩:=oct_nat x0 x1;exact u8_1 y
theorem str_at (s:ByteArray) (i:Nat) (hi:i<s.size) (w:World):(Instr.index 9 (.string s) (.int .i64 (i:Int))).run Tryz.prog w=.ok (.int .u8 (byteAt s i)) w:=by
 rw[run_index_string (P:=Tryz.prog) w 9 s .i64 i Tryz.underlying9,dif_pos ⟨by omega,by omega⟩];have hl:i<s.data.toList.length:=by rw[Array.length_toList];exact hi
 have:s[(i:Int).toNat]'(by omega)=s.data.toList.getD i 0:=by
  rw[List.getD_eq_getElem?_getD,List.getElem?_eq_getElem hl];rfl
 rw[this];rfl
abbrev TAdr:TypeId:=146
theorem a_get (s:ByteArray) (w0 w:World) (R:HP) (h:St w0 w R) (hs:s.size<=1000000000) :
  Calls Tryz.prog 56 #[.string s] w fun e w'=>e=.returned (.tuple #[.agg (adrG s).1.cells.toArray,.int .i64 (adrG s).2])/\St w0 w' R:=by
 obtain⟨n,hn⟩:∃ n,s.size=n:=⟨_,rfl⟩;have h1:=h.alloc (.cells #[.int .i64 0,.int .i64 0,.bool false] TAdr);unfold adrG;rw[hn] at hs ⊢;have c:=h1.cell;have f:=h1.free;by_cases h2:n<2
 ·rw[if_pos h2]
  have b2:decide (n<2)=true:=decide_eq_true h2;go_enter Tryz.func56,Tryz.ntmps56
  go_upto_region 2 with fail
  generalize w.alloc _=wa at *;generalize w.heap.size=ga at *;have h9:=((h1.set 0 (.int .i64 0)).set 1 (.int .i64 0)).set 2 (.bool false);go_wp2;have cr:=h9.cell;refine bodyPost_ret (v:=.tuple #[.agg #[.int .i64 0,.int .i64 0,.bool false],.int .i64 3]) (by simp[results,Tryz.results56,go_sem,cr]) rfl ⟨rfl,h9.drop⟩
 ·rw[if_neg h2]
  have b2:decide (n<2)=false:=decide_eq_false h2;have hx:∀ w,(Instr.index 9 (.string s) (.int .i64 0)).run Tryz.prog w=.ok (.int .u8 (byteAt s 0)) w:=str_at s 0 (by omega);have hy:∀ w,(Instr.index 9 (.string s) (.int .i64 1)).run Tryz.prog w=.ok (.int .u8 (byteAt s 1)) w:=str_at s 1 (by omega);obtain⟨x0,x1⟩:=byteAt_range s 0;obtain⟨y0,y1⟩:=byteAt_range s 1;generalize byteAt s 0=x at *;generalize byteAt s 1=y at *;have ux:=u8_and1 x0 x1;have uy:=u8_and1 y0 y1;have hr:(if x % 2≠0\/y % 2=0 then ((⟨0,0,false⟩:Adr),(4:Int)) else (⟨x / 4,y / 2,x / 2 % 2 == 1⟩,0))=if x % 2≠0\/y % 2=0 then ((⟨0,0,false⟩:Adr),(4:Int)) else (⟨x / 4,y / 2,x / 2 % 2 == 1⟩,0):=rfl
  by_cases e1:x % 2=0
  ·by_cases e2:y % 2=0
   ·rw[if_pos (.inr e2)]
    have q1:(x % 2 != 0)=false:=by simp[e1]
    have q2:(y % 2 == 0)=true:=by simp[e2]
    clear hr e1 e2;go_enter Tryz.func56,Tryz.ntmps56
    go_upto_region 4 with fail
    generalize w.alloc _=wa at *;generalize w.heap.size=ga at *;have h9:=((h1.set 0 (.int .i64 0)).set 1 (.int .i64 0)).set 2 (.bool false);go_wp2;have cr:=h9.cell;refine bodyPost_ret (v:=.tuple #[.agg #[.int .i64 0,.int .i64 0,.bool false],.int .i64 4]) (by simp[results,Tryz.results56,go_sem,cr]) rfl ⟨rfl,h9.drop⟩
   ·rw[if_neg (by rintro (h | h) <;> contradiction)]
    have q1:(x % 2 != 0)=false:=by simp[e1]
    have q2:(y % 2 == 0)=false:=by simp[e2]
    clear hr e1 e2;have g1:=f_s26 x x0 x1 w0;have g2:=f_s17 y y0 y1 w0;have g3:=f_s11 x x0 x1 w0;generalize x / 2 % 2=z at *;generalize x / 4=xs at *;generalize y / 2=yt at *;go_enter Tryz.func56,Tryz.ntmps56
    go_upto_region 5 with fail
    generalize w.alloc _=wa at *;generalize w.heap.size=ga at *;clear c f;go_region_held3 (fun _=>True) (trivial) (first | (go_at_call 112;with_reducible refine (g1 _ _ h1.drew).mono ?_;rintro e w5 ⟨rfl,h5⟩) | (go_at_call 112;with_reducible refine (g2 _ _ h5).mono ?_;rintro e w6 ⟨rfl,h6⟩) | (go_at_call 112;with_reducible refine (g3 _ _ h6).mono ?_;rintro e w7 ⟨rfl,h7⟩;have c7:=h7.cell;have f7:=h7.free))
    all_goals
     have h9:=((h7.set 0 (.int .i64 xs)).set 1 (.int .i64 yt)).set 2 (.bool (z == 1));go_wp2;have cr:=h9.cell;refine bodyPost_ret (v:=.tuple #[.agg #[.int .i64 xs,.int .i64 yt,.bool (z == 1)],.int .i64 0]) (by simp[results,Tryz.results56,go_sem,cr]) rfl ⟨rfl,h9.drop⟩
  ·rw[if_pos (.inl e1)]
   have q1:(x % 2 != 0)=true:=by simp[e1]
   clear hr e1;go_enter Tryz.func56,Tryz.ntmps56
   go_upto_region 4 with fail
   generalize w.alloc _=wa at *;generalize w.heap.size=ga at *;have h9:=((h1.set 0 (.int .i64 0)).set 1 (.int .i64 0)).set 2 (.bool false);go_wp2;have cr:=h9.cell;refine bodyPost_ret (v:=.tuple #[.agg #[.int .i64 0,.int .i64 0,.bool false],.int .i64 4]) (by simp[results,Tryz.results56,go_sem,cr]) rfl ⟨rfl,h9.drop⟩
theorem idxK_at:∀ (x:Fin 256) (i:Fin 9),idxK ((x:Nat):Int)=((i:Nat):Int)+1↔((x:Nat):Int)=firstK.getD (i+1) 0:=by decide +kernel
theorem idxK_range:∀ x:Fin 256,0<=idxK ((x:Nat):Int)/\idxK ((x:Nat):Int)<=9:=by decide +kernel
theorem idxK_lt {x:Int} (x0:0<=x) (x1:x<256):0<=idxK x/\idxK x<=9:=by obtain⟨y,rfl⟩:=oct_nat x0 x1;exact idxK_range y
theorem sl_index (x:Int) (x0:0<=x) (x1:x<256) (w:World) (hF:FirstAt w) :
  Calls Tryz.prog 113 #[.slice (some ⟨1,1,none⟩) 9 9,.int .u8 x] w fun e w'=>e=.returned (.int .i64 (idxK x - 1))/\w=w':=by
 obtain⟨k0,k9⟩:=idxK_lt x0 x1;obtain⟨y,hy⟩:=oct_nat x0 x1;obtain⟨k,hk⟩:∃ k,idxK x=k:=⟨_,rfl⟩;have hall:∀ i:Fin 9,k=((i:Nat):Int)+1↔x=firstK.getD (i+1) 0:=by
  intro i;rw[← hk];subst hy;exact idxK_at y i
 rw[hk] at k0 k9 ⊢;have HA:=Lib.hid hall;have HF:=Lib.hid hF;clear hk hall hy hF;go_enter Tryz.func113,Tryz.ntmps113
 go_wp2;go_loopw [8] (fun s8 wr=>∃ i:Nat,i<=9/\s8=.int .i64 i/\(k=0\/(i:Int)<k)/\w=wr) (fun s8 _=>9 - (intOf s8).toNat)
 case atStart=>exact⟨0,by omega,rfl,by omega,rfl⟩
 case round =>
  obtain⟨i,hi,rfl,hki,rfl⟩:=hrel;rcases (show i=0\/i=1\/i=2\/i=3\/i=4\/i=5\/i=6\/i=7\/i=8\/i=9 by omega) with rfl | rfl | rfl | rfl | rfl | rfl | rfl | rfl | rfl | rfl
  ·have hat:k=(0:Int)+1↔x=1:=HA.out ⟨0,by decide⟩
   have hl:w.cell? ⟨1,1+0,none⟩=some (.int .u8 1):=HF.out (1+0) (by decide);by_cases hx:x=1
   ·have hk:=hat.2 hx
    have hq:(x == 1)=true:=by simp[hx]
    clear hat hki hx;go_wp2;go_ret
    exact⟨by rw[hk];rfl,rfl⟩
   ·have hq:(x == 1)=false:=by simp[hx]
    have hk:¬ k=(0:Int)+1:=fun e=>hx (hat.1 e)
    clear hat hx;go_wp2;go_roundw
    case rel=>exact⟨0+1,by omega,by go_num,by omega,trivial⟩
    case measure=>simp[intOf]
  ·have hat:k=(1:Int)+1↔x=5:=HA.out ⟨1,by decide⟩
   have hl:w.cell? ⟨1,1+1,none⟩=some (.int .u8 5):=HF.out (1+1) (by decide);by_cases hx:x=5
   ·have hk:=hat.2 hx
    have hq:(x == 5)=true:=by simp[hx]
    clear hat hki hx;go_wp2;go_ret
    exact⟨by rw[hk];rfl,rfl⟩
   ·have hq:(x == 5)=false:=by simp[hx]
    have hk:¬ k=(1:Int)+1:=fun e=>hx (hat.1 e)
    clear hat hx;go_wp2;go_roundw
    case rel=>exact⟨1+1,by omega,by go_num,by omega,trivial⟩
    case measure=>simp[intOf]
  ·have hat:k=(2:Int)+1↔x=9:=HA.out ⟨2,by decide⟩
   have hl:w.cell? ⟨1,1+2,none⟩=some (.int .u8 9):=HF.out (1+2) (by decide);by_cases hx:x=9
   ·have hk:=hat.2 hx
    have hq:(x == 9)=true:=by simp[hx]
    clear hat hki hx;go_wp2;go_ret
    exact⟨by rw[hk];rfl,rfl⟩
   ·have hq:(x == 9)=false:=by simp[hx]
    have hk:¬ k=(2:Int)+1:=fun e=>hx (hat.1 e)
    clear hat hx;go_wp2;go_roundw
    case rel=>exact⟨2+1,by omega,by go_num,by omega,trivial⟩
    case measure=>simp[intOf]
  ·have hat:k=(3:Int)+1↔x=111:=HA.out ⟨3,by decide⟩
   have hl:w.cell? ⟨1,1+3,none⟩=some (.int .u8 111):=HF.out (1+3) (by decide);by_cases hx:x=111
   ·have hk:=hat.2 hx
    have hq:(x == 111)=true:=by simp[hx]
    clear hat hki hx;go_wp2;go_ret
    exact⟨by rw[hk];rfl,rfl⟩
   ·have hq:(x == 111)=false:=by simp[hx]
    have hk:¬ k=(3:Int)+1:=fun e=>hx (hat.1 e)
    clear hat hx;go_wp2;go_roundw
    case rel=>exact⟨3+1,by omega,by go_num,by omega,trivial⟩
    case measure=>simp[intOf]
  ·have hat:k=(4:Int)+1↔x=15:=HA.out ⟨4,by decide⟩
   have hl:w.cell? ⟨1,1+4,none⟩=some (.int .u8 15):=HF.out (1+4) (by decide);by_cases hx:x=15
   ·have hk:=hat.2 hx
    have hq:(x == 15)=true:=by simp[hx]
    clear hat hki hx;go_wp2;go_ret
    exact⟨by rw[hk];rfl,rfl⟩
   ·have hq:(x == 15)=false:=by simp[hx]
    have hk:¬ k=(4:Int)+1:=fun e=>hx (hat.1 e)
    clear hat hx;go_wp2;go_roundw
    case rel=>exact⟨4+1,by omega,by go_num,by omega,trivial⟩
    case measure=>simp[intOf]
  ·have hat:k=(5:Int)+1↔x=3:=HA.out ⟨5,by decide⟩
   have hl:w.cell? ⟨1,1+5,none⟩=some (.int .u8 3):=HF.out (1+5) (by decide);by_cases hx:x=3
   ·have hk:=hat.2 hx
    have hq:(x == 3)=true:=by simp[hx]
    clear hat hki hx;go_wp2;go_ret
    exact⟨by rw[hk];rfl,rfl⟩
   ·have hq:(x == 3)=false:=by simp[hx]
    have hk:¬ k=(5:Int)+1:=fun e=>hx (hat.1 e)
    clear hat hx;go_wp2;go_roundw
    case rel=>exact⟨5+1,by omega,by go_num,by omega,trivial⟩
    case measure=>simp[intOf]
  ·have hat:k=(6:Int)+1↔x=67:=HA.out ⟨6,by decide⟩
   have hl:w.cell? ⟨1,1+6,none⟩=some (.int .u8 67):=HF.out (1+6) (by decide);by_cases hx:x=67
   ·have hk:=hat.2 hx
    have hq:(x == 67)=true:=by simp[hx]
    clear hat hki hx;go_wp2;go_ret
    exact⟨by rw[hk];rfl,rfl⟩
   ·have hq:(x == 67)=false:=by simp[hx]
    have hk:¬ k=(6:Int)+1:=fun e=>hx (hat.1 e)
    clear hat hx;go_wp2;go_roundw
    case rel=>exact⟨6+1,by omega,by go_num,by omega,trivial⟩
    case measure=>simp[intOf]
  ·have hat:k=(7:Int)+1↔x=99:=HA.out ⟨7,by decide⟩
   have hl:w.cell? ⟨1,1+7,none⟩=some (.int .u8 99):=HF.out (1+7) (by decide);by_cases hx:x=99
   ·have hk:=hat.2 hx
    have hq:(x == 99)=true:=by simp[hx]
    clear hat hki hx;go_wp2;go_ret
    exact⟨by rw[hk];rfl,rfl⟩
   ·have hq:(x == 99)=false:=by simp[hx]
    have hk:¬ k=(7:Int)+1:=fun e=>hx (hat.1 e)
    clear hat hx;go_wp2;go_roundw
    case rel=>exact⟨7+1,by omega,by go_num,by omega,trivial⟩
    case measure=>simp[intOf]
  ·have hat:k=(8:Int)+1↔x=135:=HA.out ⟨8,by decide⟩
   have hl:w.cell? ⟨1,1+8,none⟩=some (.int .u8 135):=HF.out (1+8) (by decide);by_cases hx:x=135
   ·have hk:=hat.2 hx
    have hq:(x == 135)=true:=by simp[hx]
    clear hat hki hx;go_wp2;go_ret
    exact⟨by rw[hk];rfl,rfl⟩
   ·have hq:(x == 135)=false:=by simp[hx]
    have hk:¬ k=(8:Int)+1:=fun e=>hx (hat.1 e)
    clear hat hx;go_wp2;go_roundw
    case rel=>exact⟨8+1,by omega,by go_num,by omega,trivial⟩
    case measure=>simp[intOf]
  ·have hk:k=0:=by omega
   clear hki;go_wp2;go_ret
   exact⟨by rw[hk];rfl,rfl⟩
end Go.Proofs.YtjcldoejpldcmaaGreatDoor
