/- Parts of a proof (RefE, RefF, RefG). No condition. -/
import Derived.Test.YtnnahljdhdippaaGreatDoorC28
import Derived.Test.YtnnahljdhdippaaGreatDoorC29
import Derived.Test.YtnnahljdhdippaaGreatDoorC12
import Derived.Test.YtnnahljdhdippaaGreatDoorC11
namespace Go.Proofs.YtnnahljdhdippaaGreatDoor
set_option maxRecDepth 100000
set_option maxHeartbeats 6400000
open Go.RowKit
def putD (f:Fr) (net:Bool):ByteArray × Int :=
 if (ctlD f.kind f.pf f.ns f.nr).2=4 then (noStr,4)
 else if mayK f.kind f.cmd=false then (noStr,4)
 else if (ctlD f.kind f.pf f.ns f.nr).2≠0 then (noStr,(ctlD f.kind f.pf f.ns f.nr).2)
 else if (adrD f.sapi f.tei (f.cmd == net)).2≠0 then (noStr,(adrD f.sapi f.tei (f.cmd == net)).2)
 else if carries f.kind f.info.size=false then (noStr,5)
 else (sealed ((adrD f.sapi f.tei (f.cmd == net)).1++(ctlD f.kind f.pf f.ns f.nr).1++f.info),0)
theorem ctlD_size (k:Int) (pf:Bool) (ns nr:Int):(ctlD k pf ns nr).1.size<=2:=by
 unfold ctlD;split
 ·exact Nat.zero_le _
 split
 ·exact Nat.zero_le _
 split
 ·exact Nat.zero_le _
 show (octets _).size<=2
 rw[octets_size];exact ctlO_len _ _ _ _
theorem adrD_size (s t:Int) (cr:Bool):(adrD s t cr).1.size<=2:=by
 unfold adrD;split
 ·exact Nat.zero_le _
 show (octets _).size<=2
 rw[octets_size];exact Nat.le_refl 2
theorem putD_ok {f:Fr} (net:Bool) (ok:PutOk f):putD f net=(putO f net,0):=by
 obtain⟨i1,k0,k1⟩:=carries_le ok.car;have e1:ctlD f.kind f.pf f.ns f.nr=(octets (ctlO f.kind f.pf f.ns f.nr),0):=by
  have:=ok.n0;have:=ok.n1;have:=ok.r0;have:=ok.r1
  unfold ctlD;rw[if_neg (by omega),if_neg (by omega),if_neg (by omega)]
 have e2:adrD f.sapi f.tei (f.cmd == net)=(octets (adrO f.sapi f.tei (f.cmd == net)),0):=by
  have:=ok.s0;have:=ok.s1;have:=ok.t0;have:=ok.t1
  unfold adrD;rw[if_neg (by omega)]
 unfold putD putO;rw[e1,e2,ok.may,ok.car];rfl
theorem putD_size (f:Fr) (net:Bool):(putD f net).1.size<=266:=by
 have h1:=ctlD_size f.kind f.pf f.ns f.nr;have h2:=adrD_size f.sapi f.tei (f.cmd == net);unfold putD;split
 ·exact Nat.zero_le _
 split
 ·exact Nat.zero_le _
 split
 ·exact Nat.zero_le _
 split
 ·exact Nat.zero_le _
 split
 ·exact Nat.zero_le _
 rename_i hc
 have:=(carries_le (by simpa using hc:carries f.kind f.info.size=true)).1
 show (sealed _).size<=266
 rw[sealed_size,ByteArray.size_append,ByteArray.size_append];omega
theorem rfr_put (f:Fr) (net:Bool) (hf:f.info.size<=maxLen) (w0 w:World) (R:HP) (h:St w0 w R) :
  Calls Tryz.prog 48 #[.agg f.cells.toArray,.bool net] w fun e w'=>e=.returned (.tuple #[.string (putD f net).1,.int .i64 (putD f net).2])/\St w0 w' R:=by
 have z1:=ctlD_size f.kind f.pf f.ns f.nr;have z2:=adrD_size f.sapi f.tei (f.cmd == net);unfold putD;obtain⟨a1,a2,cmd,k,pf,ns,nr,inf⟩:=f;simp only[] at *;have h1:=h.alloc (.cells (Fr.cells ⟨a1,a2,cmd,k,pf,ns,nr,inf⟩).toArray TRf);have hc:=fun v R h=>rc_put k pf ns nr w0 v R h
 have hm:=fun v R h=>t_may k cmd w0 v R h
 have hk:=fun w=>t_carries k (inf.size:Int) w
 have hcl:=@carries_le k inf.size;have hmk:=fun v R h=>ra_make a1 a2 cmd net w0 v R h
 have ha:=fun v R h=>ra_put a1 a2 (cmd == net) w0 v R h
 obtain⟨inn,hin⟩:∃ n,inf.size=n:=⟨_,rfl⟩;rw[hin] at hk hcl ⊢;simp only[Fr.cells] at *;generalize (cmd == net)=cr at *;generalize ctlD k pf ns nr=C at *;generalize adrD a1 a2 cr=D at *;generalize mayK k cmd=M at *;generalize carries k (inn:Int)=N at *;obtain⟨oc,e1⟩:=C;obtain⟨oa,e2⟩:=D;simp only[] at *;have c:=h1.cell;clear h;by_cases q4:e1=4
 ·rw[if_pos q4]
  subst q4;clear hcl;go_enter Tryz.func48,Tryz.ntmps48
  go_upto_region 1 with fail
  generalize w.alloc _=wa at *;generalize w.heap.size=ga at *;go_wp2_with fail
  refine (hc _ _ h1).mono ?_
  rintro e w1 ⟨rfl,h2⟩;clear hc h1 c;have c:=h2.cell;go_wp2;go_ret2
  exact⟨rfl,h2.drop⟩
 ·rw[if_neg q4]
  have b4:(e1 == 4)=false:=by simp[q4]
  cases M with
  | false =>
    rw[if_pos rfl];clear hcl q4;go_enter Tryz.func48,Tryz.ntmps48
    go_upto_region 1 with fail
    generalize w.alloc _=wa at *;generalize w.heap.size=ga at *;go_wp2_with fail
    refine (hc _ _ h1).mono ?_
    rintro e w1 ⟨rfl,h2⟩;clear hc h1 c;have c:=h2.cell;go_wp2_with fail
    refine (hm _ _ h2).mono ?_
    rintro e w2 ⟨rfl,h3⟩;clear hm h2 c;have c:=h3.cell;go_wp2;go_ret2
    exact⟨rfl,h3.drop⟩
  | true =>
    rw[if_neg (by decide)];by_cases q0:e1=0
    ·rw[if_neg (fun h=>h q0)]
     subst q0;clear q4 b4;by_cases q2:e2=0
     ·rw[if_neg (fun h=>h q2)]
      subst q2;cases N with
      | false =>
        rw[if_pos rfl];clear hcl;go_enter Tryz.func48,Tryz.ntmps48
        go_upto_region 1 with fail
        generalize w.alloc _=wa at *;generalize w.heap.size=ga at *;go_wp2_with fail
        refine (hc _ _ h1).mono ?_
        rintro e w1 ⟨rfl,h2⟩;clear hc h1 c;have c:=h2.cell;go_wp2_with fail
        refine (hm _ _ h2).mono ?_
        rintro e w2 ⟨rfl,h3⟩;clear hm h2 c;have c:=h3.cell;go_wp2_with fail
        refine (hmk _ _ h3).mono ?_
        rintro e w3 ⟨rfl,h4⟩;clear hmk h3 c;have c:=h4.cell;go_upto_region 10 with fail
        have h5:=h4.alloc (.cells #[.int .i64 a1,.int .i64 a2,.bool cr] TAdrR);have lt:=h4.lt;generalize (w3.alloc _)=wb at *;generalize hgb:w3.heap.size=gb at *;have ne1:ga≠gb:=by omega
        have ne2:gb≠ga:=by omega
        clear h4 c;have c9:=h5.cell;go_wp2_with fail
        refine (ha _ _ h5).mono ?_
        rintro e w4 ⟨rfl,h6⟩;clear ha h5 c9;have c:=h6.f2.cell;go_wp2_with fail
        refine (hk _).mono ?_
        rintro e w5 ⟨rfl,rfl⟩;clear hk;go_wp2;go_ret2
        exact⟨rfl,h6.drop.drop⟩
      | true =>
        rw[if_neg (by decide)];have i1:=(hcl rfl).1;clear hcl;have y1:¬ 9223372036854775807<oa.size+oc.size:=by omega
        have y2:¬ 9223372036854775807<(oa++oc).size+inf.size:=by rw[ByteArray.size_append];omega
        have hs:=fun v R h=>rf_seal (oa++oc++inf) w0 v R h (by rw[ByteArray.size_append,ByteArray.size_append];omega)
        go_enter Tryz.func48,Tryz.ntmps48
        go_upto_region 1 with fail
        generalize w.alloc _=wa at *;generalize w.heap.size=ga at *;go_wp2_with fail
        refine (hc _ _ h1).mono ?_
        rintro e w1 ⟨rfl,h2⟩;clear hc h1 c;have c:=h2.cell;go_wp2_with fail
        refine (hm _ _ h2).mono ?_
        rintro e w2 ⟨rfl,h3⟩;clear hm h2 c;have c:=h3.cell;go_wp2_with fail
        refine (hmk _ _ h3).mono ?_
        rintro e w3 ⟨rfl,h4⟩;clear hmk h3 c;have c:=h4.cell;go_upto_region 10 with fail
        have h5:=h4.alloc (.cells #[.int .i64 a1,.int .i64 a2,.bool cr] TAdrR);have lt:=h4.lt;generalize (w3.alloc _)=wb at *;generalize hgb:w3.heap.size=gb at *;have ne1:ga≠gb:=by omega
        have ne2:gb≠ga:=by omega
        clear h4 c;have c9:=h5.cell;go_wp2_with fail
        refine (ha _ _ h5).mono ?_
        rintro e w4 ⟨rfl,h6⟩;clear ha h5 c9;have c:=h6.f2.cell;go_wp2_with fail
        refine (hk _).mono ?_
        rintro e w5 ⟨rfl,rfl⟩;clear hk;go_wp2_with fail
        refine (hs _ _ h6).mono ?_
        rintro e w6 ⟨rfl,h7⟩;go_wp2;go_ret2
        exact⟨rfl,h7.drop.drop⟩
     ·rw[if_pos q2]
      have b0:(e2 != 0)=true:=by simp[q2]
      clear hcl q2;go_enter Tryz.func48,Tryz.ntmps48
      go_upto_region 1 with fail
      generalize w.alloc _=wa at *;generalize w.heap.size=ga at *;go_wp2_with fail
      refine (hc _ _ h1).mono ?_
      rintro e w1 ⟨rfl,h2⟩;clear hc h1 c;have c:=h2.cell;go_wp2_with fail
      refine (hm _ _ h2).mono ?_
      rintro e w2 ⟨rfl,h3⟩;clear hm h2 c;have c:=h3.cell;go_wp2_with fail
      refine (hmk _ _ h3).mono ?_
      rintro e w3 ⟨rfl,h4⟩;clear hmk h3 c;have c:=h4.cell;go_upto_region 10 with fail
      have h5:=h4.alloc (.cells #[.int .i64 a1,.int .i64 a2,.bool cr] TAdrR);have lt:=h4.lt;generalize (w3.alloc _)=wb at *;generalize hgb:w3.heap.size=gb at *;have ne1:ga≠gb:=by omega
      have ne2:gb≠ga:=by omega
      clear h4 c;have c9:=h5.cell;go_wp2_with fail
      refine (ha _ _ h5).mono ?_
      rintro e w4 ⟨rfl,h6⟩;clear ha h5 c9;have c:=h6.f2.cell;go_wp2;go_ret2
      exact⟨rfl,h6.drop.drop⟩
    ·rw[if_pos q0]
     have b0:(e1 != 0)=true:=by simp[q0]
     clear hcl q0 q4;go_enter Tryz.func48,Tryz.ntmps48
     go_upto_region 1 with fail
     generalize w.alloc _=wa at *;generalize w.heap.size=ga at *;go_wp2_with fail
     refine (hc _ _ h1).mono ?_
     rintro e w1 ⟨rfl,h2⟩;clear hc h1 c;have c:=h2.cell;go_wp2_with fail
     refine (hm _ _ h2).mono ?_
     rintro e w2 ⟨rfl,h3⟩;clear hm h2 c;have c:=h3.cell;go_wp2;go_ret2
     exact⟨rfl,h3.drop⟩
theorem rfr_get (s:ByteArray) (net:Bool) (w0 w:World) (R:HP) (h:St w0 w R) (hs:s.size<=1000000000) :
  Calls Tryz.prog 114 #[.string s,.bool net] w fun e w'=>e=.returned (.tuple #[.agg (getO s net).1.cells.toArray,.int .i64 (getO s net).2])/\St w0 w' R:=by
 have h1:=h.alloc (.cells #[.int .i64 0,.int .i64 0,.bool false,.int .i64 0,.bool false,.int .i64 0,.int .i64 0,.string ⟨#[]⟩] TRf);have hc1:=fun v A h=>rf_check s w0 v A h hs
 have hb:=checkO_size s;unfold getO;dsimp only;generalize checkO s=C at *;obtain⟨b,e1⟩:=C;simp only[] at *;by_cases he1:e1=0
 ·rw[if_neg (fun h=>h he1)]
  subst he1;have hc2:=fun v A h=>ra_get b w0 v A h (by omega)
  have hb2:=@adrG_two b;generalize adrG b=A at *;obtain⟨⟨asp,atp,acr⟩,e2⟩:=A;simp only[Adr.cells] at *;have hcm:=fun v A h=>ra_cmd asp atp acr net w0 v A h
  generalize (acr == net)=cmd at *;by_cases he2:e2=0
  ·rw[if_neg (fun h=>h he2)]
   subst he2;have hb3:=hb2 rfl;clear hb2;obtain⟨m,hm⟩:∃ m,b.size=m:=⟨_,rfl⟩;rw[hm] at hb hb3 ⊢;have hbs:(b.extract 2 m).size=m - 2:=by rw[ByteArray.size_extract,hm];omega
   have hc3:=fun v A h=>rc_get (b.extract 2 m) w0 v A h (by omega)
   have hL:=@ctlG_len (b.extract 2 m);generalize ctlG (b.extract 2 m)=C at *;obtain⟨⟨k,pf,ns,nr⟩,L,e3⟩:=C;simp only[Ctl.cells] at *;by_cases he3:e3=0
   ·rw[if_neg (fun h=>h he3)]
    subst he3;obtain⟨l0,l1⟩:=hL rfl;rw[hbs] at l1;obtain⟨ln,rfl⟩:∃ n:Nat,L=n:=⟨L.toNat,by omega⟩;have w2:IntKind.i64.wrap (2+(ln:Int))=2+(ln:Int):=by rw[IntKind.wrap_i64];omega
    have t2:(2+(ln:Int)).toNat=2+ln:=by omega
    have l2:2+ln<=m:=by omega
    rw[t2];obtain⟨u,hu⟩:∃ u,b.extract (2+ln) m=u:=⟨_,rfl⟩;rw[hu];have hm1:=fun v A h=>t_may k cmd w0 v A h
    have hk1:=fun w=>t_carries k (u.size:Int) w
    generalize mayK k cmd=M at *;generalize carries k (u.size:Int)=N at *;clear hL hbs l0 l1;cases M with
    | false =>
      rw[if_pos rfl];clear hk1;go_enter Tryz.func114,Tryz.ntmps114
      go_upto_region 1 with fail
      generalize w.alloc _=wa at *;generalize hga:w.heap.size=ga at *;go_upto_region 2 with (go_at_call 190;with_reducible refine (hc1 _ _ h1).mono ?_;rintro e w5 ⟨rfl,h5⟩)
      have c:=h5.cell;have f:=h5.free;go_upto_region 5 with (go_at_call 191;with_reducible refine (hc2 _ _ h5).mono ?_;rintro e w6 ⟨rfl,h6⟩)
      clear c f h5 hc1 hc2;have h7:=h6.alloc (.cells #[.int .i64 asp,.int .i64 atp,.bool acr] TAdrR);have lt1:=h6.lt;generalize w6.alloc _=w7 at *;generalize hgb:w6.heap.size=gb at *;have ne1:ga≠gb:=by omega
      have ne2:gb≠ga:=by omega
      clear h6;have hc4:=hc3 _ _ h7;have c:=h7.f2.cell;have f:=h7.f2.free;go_upto_region 8 with (go_at_call 192;with_reducible refine hc4.mono ?_;rintro e w8 ⟨rfl,h8⟩)
      clear c f hc4 hc3 h7;have hC:=h8.alloc (.cells #[.int .i64 k,.bool pf,.int .i64 ns,.int .i64 nr] TCtlR);have lt2:=h8.lt;have lt3:=h8.drop.lt;generalize w8.alloc _=w9 at *;generalize hgc:w8.heap.size=gc at *;have ne3:gc≠gb:=by omega
      have ne4:gb≠gc:=by omega
      have ne5:gc≠ga:=by omega
      have ne6:ga≠gc:=by omega
      clear h8;have ca:=hC.f2.cell;have fa:=hC.f2.free;go_wp2_with fail
      refine (hcm _ _ hC).mono ?_
      rintro e w10 ⟨rfl,h10⟩;clear ca fa hC hcm;have cc:=h10.cell;go_wp2_with fail
      refine (hm1 _ _ h10).mono ?_
      rintro e w11 ⟨rfl,h11⟩;clear cc h10 hm1;have ca:=h11.f2.cell;have cc:=h11.cell;have c:=h11.f3.cell;have f:=h11.f3.free;have h9:=(((((((((h11.f3).set 0 (.int .i64 0)).set 1 (.int .i64 0)).set 2 (.bool false)).set 3 (.int .i64 0)).set 4 (.bool false)).set 5 (.int .i64 0)).set 6 (.int .i64 0)).set 7 (.string ⟨#[]⟩));go_wp2;have cr:=h9.cell;refine bodyPost_ret (v:=.tuple #[.agg #[.int .i64 0,.int .i64 0,.bool false,.int .i64 0,.bool false,.int .i64 0,.int .i64 0,.string ⟨#[]⟩],.int .i64 4]) (by simp[results,Tryz.results114,go_sem,cr]) rfl ⟨rfl,h9.drop.drop.drop⟩
    | true =>
      rw[if_neg (by decide)];cases N with
      | false =>
        rw[if_pos rfl];go_enter Tryz.func114,Tryz.ntmps114
        go_upto_region 1 with fail
        generalize w.alloc _=wa at *;generalize hga:w.heap.size=ga at *;go_upto_region 2 with (go_at_call 190;with_reducible refine (hc1 _ _ h1).mono ?_;rintro e w5 ⟨rfl,h5⟩)
        have c:=h5.cell;have f:=h5.free;go_upto_region 5 with (go_at_call 191;with_reducible refine (hc2 _ _ h5).mono ?_;rintro e w6 ⟨rfl,h6⟩)
        clear c f h5 hc1 hc2;have h7:=h6.alloc (.cells #[.int .i64 asp,.int .i64 atp,.bool acr] TAdrR);have lt1:=h6.lt;generalize w6.alloc _=w7 at *;generalize hgb:w6.heap.size=gb at *;have ne1:ga≠gb:=by omega
        have ne2:gb≠ga:=by omega
        clear h6;have hc4:=hc3 _ _ h7;have c:=h7.f2.cell;have f:=h7.f2.free;go_upto_region 8 with (go_at_call 192;with_reducible refine hc4.mono ?_;rintro e w8 ⟨rfl,h8⟩)
        clear c f hc4 hc3 h7;have hC:=h8.alloc (.cells #[.int .i64 k,.bool pf,.int .i64 ns,.int .i64 nr] TCtlR);have lt2:=h8.lt;have lt3:=h8.drop.lt;generalize w8.alloc _=w9 at *;generalize hgc:w8.heap.size=gc at *;have ne3:gc≠gb:=by omega
        have ne4:gb≠gc:=by omega
        have ne5:gc≠ga:=by omega
        have ne6:ga≠gc:=by omega
        clear h8;have ca:=hC.f2.cell;have fa:=hC.f2.free;go_wp2_with fail
        refine (hcm _ _ hC).mono ?_
        rintro e w10 ⟨rfl,h10⟩;clear ca fa hC hcm;have cc:=h10.cell;go_wp2_with fail
        refine (hm1 _ _ h10).mono ?_
        rintro e w11 ⟨rfl,h11⟩;clear cc h10 hm1;have ca:=h11.f2.cell;have cc:=h11.cell;have c:=h11.f3.cell;have f:=h11.f3.free;go_upto_region 17 with (go_at_call 107;with_reducible refine (hk1 _).mono ?_;rintro e w12 ⟨rfl,rfl⟩)
        have h9:=(((((((((h11.f3).set 0 (.int .i64 0)).set 1 (.int .i64 0)).set 2 (.bool false)).set 3 (.int .i64 0)).set 4 (.bool false)).set 5 (.int .i64 0)).set 6 (.int .i64 0)).set 7 (.string ⟨#[]⟩));go_wp2;have cr:=h9.cell;refine bodyPost_ret (v:=.tuple #[.agg #[.int .i64 0,.int .i64 0,.bool false,.int .i64 0,.bool false,.int .i64 0,.int .i64 0,.string ⟨#[]⟩],.int .i64 5]) (by simp[results,Tryz.results114,go_sem,cr]) rfl ⟨rfl,h9.drop.drop.drop⟩
      | true =>
        rw[if_neg (by decide)];go_enter Tryz.func114,Tryz.ntmps114
        go_upto_region 1 with fail
        generalize w.alloc _=wa at *;generalize hga:w.heap.size=ga at *;go_upto_region 2 with (go_at_call 190;with_reducible refine (hc1 _ _ h1).mono ?_;rintro e w5 ⟨rfl,h5⟩)
        have c:=h5.cell;have f:=h5.free;go_upto_region 5 with (go_at_call 191;with_reducible refine (hc2 _ _ h5).mono ?_;rintro e w6 ⟨rfl,h6⟩)
        clear c f h5 hc1 hc2;have h7:=h6.alloc (.cells #[.int .i64 asp,.int .i64 atp,.bool acr] TAdrR);have lt1:=h6.lt;generalize w6.alloc _=w7 at *;generalize hgb:w6.heap.size=gb at *;have ne1:ga≠gb:=by omega
        have ne2:gb≠ga:=by omega
        clear h6;have hc4:=hc3 _ _ h7;have c:=h7.f2.cell;have f:=h7.f2.free;go_upto_region 8 with (go_at_call 192;with_reducible refine hc4.mono ?_;rintro e w8 ⟨rfl,h8⟩)
        clear c f hc4 hc3 h7;have hC:=h8.alloc (.cells #[.int .i64 k,.bool pf,.int .i64 ns,.int .i64 nr] TCtlR);have lt2:=h8.lt;have lt3:=h8.drop.lt;generalize w8.alloc _=w9 at *;generalize hgc:w8.heap.size=gc at *;have ne3:gc≠gb:=by omega
        have ne4:gb≠gc:=by omega
        have ne5:gc≠ga:=by omega
        have ne6:ga≠gc:=by omega
        clear h8;have ca:=hC.f2.cell;have fa:=hC.f2.free;go_wp2_with fail
        refine (hcm _ _ hC).mono ?_
        rintro e w10 ⟨rfl,h10⟩;clear ca fa hC hcm;have cc:=h10.cell;go_wp2_with fail
        refine (hm1 _ _ h10).mono ?_
        rintro e w11 ⟨rfl,h11⟩;clear cc h10 hm1;have ca:=h11.f2.cell;have cc:=h11.cell;have c:=h11.f3.cell;have f:=h11.f3.free;go_upto_region 18 with (go_at_call 107;with_reducible refine (hk1 _).mono ?_;rintro e w12 ⟨rfl,rfl⟩)
        have h9:=((((((((h11.f3.set 0 (.int .i64 asp)).set 1 (.int .i64 atp)).set 2 (.bool cmd)).set 3 (.int .i64 k)).set 4 (.bool pf)).set 5 (.int .i64 ns)).set 6 (.int .i64 nr)).set 7 (.string u));go_wp2;have cr:=h9.cell;refine bodyPost_ret (v:=.tuple #[.agg #[.int .i64 asp,.int .i64 atp,.bool cmd,.int .i64 k,.bool pf,.int .i64 ns,.int .i64 nr,.string u],.int .i64 0]) (by simp[results,Tryz.results114,go_sem,cr]) rfl ⟨rfl,h9.drop.drop.drop⟩
   ·rw[if_pos he3]
    have q1:(e3 == 0)=false:=by simp[he3]
    have q2:(e3 != 0)=true:=by simp[he3]
    clear he3 hL hbs;go_enter Tryz.func114,Tryz.ntmps114
    go_upto_region 1 with fail
    generalize w.alloc _=wa at *;generalize hga:w.heap.size=ga at *;go_upto_region 2 with (go_at_call 190;with_reducible refine (hc1 _ _ h1).mono ?_;rintro e w5 ⟨rfl,h5⟩)
    have c:=h5.cell;have f:=h5.free;go_upto_region 5 with (go_at_call 191;with_reducible refine (hc2 _ _ h5).mono ?_;rintro e w6 ⟨rfl,h6⟩)
    clear c f h5 hc1 hc2;have h7:=h6.alloc (.cells #[.int .i64 asp,.int .i64 atp,.bool acr] TAdrR);have lt1:=h6.lt;generalize w6.alloc _=w7 at *;generalize hgb:w6.heap.size=gb at *;have ne1:ga≠gb:=by omega
    have ne2:gb≠ga:=by omega
    clear h6;have hc4:=hc3 _ _ h7;have c:=h7.f2.cell;have f:=h7.f2.free;go_upto_region 8 with (go_at_call 192;with_reducible refine hc4.mono ?_;rintro e w8 ⟨rfl,h8⟩)
    clear c f hc4 hc3 h7;have hC:=h8.alloc (.cells #[.int .i64 k,.bool pf,.int .i64 ns,.int .i64 nr] TCtlR);have lt2:=h8.lt;have lt3:=h8.drop.lt;generalize w8.alloc _=w9 at *;generalize hgc:w8.heap.size=gc at *;have ne3:gc≠gb:=by omega
    have ne4:gb≠gc:=by omega
    have ne5:gc≠ga:=by omega
    have ne6:ga≠gc:=by omega
    clear h8;have ca:=hC.f2.cell;have fa:=hC.f2.free;have c:=hC.f3.cell;have f:=hC.f3.free;have h9:=(((((((((hC.f3).set 0 (.int .i64 0)).set 1 (.int .i64 0)).set 2 (.bool false)).set 3 (.int .i64 0)).set 4 (.bool false)).set 5 (.int .i64 0)).set 6 (.int .i64 0)).set 7 (.string ⟨#[]⟩));go_wp2;have cr:=h9.cell;refine bodyPost_ret (v:=.tuple #[.agg #[.int .i64 0,.int .i64 0,.bool false,.int .i64 0,.bool false,.int .i64 0,.int .i64 0,.string ⟨#[]⟩],.int .i64 e3]) (by simp[results,Tryz.results114,go_sem,cr]) rfl ⟨rfl,h9.drop.drop.drop⟩
  ·rw[if_pos he2]
   have q1:(e2 != 0)=true:=by simp[he2]
   clear hb2 he2;go_enter Tryz.func114,Tryz.ntmps114
   go_upto_region 1 with fail
   generalize w.alloc _=wa at *;generalize hga:w.heap.size=ga at *;go_upto_region 2 with (go_at_call 190;with_reducible refine (hc1 _ _ h1).mono ?_;rintro e w5 ⟨rfl,h5⟩)
   have c:=h5.cell;have f:=h5.free;go_upto_region 5 with (go_at_call 191;with_reducible refine (hc2 _ _ h5).mono ?_;rintro e w6 ⟨rfl,h6⟩)
   clear c f h5 hc1 hc2;have h7:=h6.alloc (.cells #[.int .i64 asp,.int .i64 atp,.bool acr] TAdrR);have lt1:=h6.lt;generalize w6.alloc _=w7 at *;generalize hgb:w6.heap.size=gb at *;have ne1:ga≠gb:=by omega
   have ne2:gb≠ga:=by omega
   have c:=h7.f2.cell;have f:=h7.f2.free;have h9:=(((((((((h7.f2).set 0 (.int .i64 0)).set 1 (.int .i64 0)).set 2 (.bool false)).set 3 (.int .i64 0)).set 4 (.bool false)).set 5 (.int .i64 0)).set 6 (.int .i64 0)).set 7 (.string ⟨#[]⟩));go_wp2;have cr:=h9.cell;refine bodyPost_ret (v:=.tuple #[.agg #[.int .i64 0,.int .i64 0,.bool false,.int .i64 0,.bool false,.int .i64 0,.int .i64 0,.string ⟨#[]⟩],.int .i64 e2]) (by simp[results,Tryz.results114,go_sem,cr]) rfl ⟨rfl,h9.drop.drop⟩
 ·rw[if_pos he1]
  have q1:(e1 != 0)=true:=by simp[he1]
  clear he1;go_enter Tryz.func114,Tryz.ntmps114
  go_upto_region 1 with fail
  generalize w.alloc _=wa at *;generalize hga:w.heap.size=ga at *;go_upto_region 2 with (go_at_call 190;with_reducible refine (hc1 _ _ h1).mono ?_;rintro e w5 ⟨rfl,h5⟩)
  have c:=h5.cell;have f:=h5.free;have h9:=(((((((((h5).set 0 (.int .i64 0)).set 1 (.int .i64 0)).set 2 (.bool false)).set 3 (.int .i64 0)).set 4 (.bool false)).set 5 (.int .i64 0)).set 6 (.int .i64 0)).set 7 (.string ⟨#[]⟩));go_wp2;have cr:=h9.cell;refine bodyPost_ret (v:=.tuple #[.agg #[.int .i64 0,.int .i64 0,.bool false,.int .i64 0,.bool false,.int .i64 0,.int .i64 0,.string ⟨#[]⟩],.int .i64 6]) (by simp[results,Tryz.results114,go_sem,cr]) rfl ⟨rfl,h9.drop⟩
abbrev TTmR:TypeId:=143
theorem rm_put (m:Tm) (w0 w:World) (R:HP) (h:St w0 w R) :
  Calls Tryz.prog 102 #[.agg m.cells.toArray] w fun e w'=>e=.returned (.tuple #[.string m.oct,.int .i64 m.bad])/\St w0 w' R:=by
 obtain⟨ty,ri,ai⟩:=m;simp only[Tm.cells];have h1:=(h.alloc (.cells #[.int .i64 ty,.int .i64 ri,.int .i64 ai] TTmR)).drop;by_cases a:ty<1
 ·have a2:decide (ty<1)=true:=by simp;omega
  have hbd:Tm.bad ⟨ty,ri,ai⟩=4:=by
   show (if ty<1\/7<ty then (4:Int) else if ri<0\/65536<=ri then 2 else if 0<=ai/\ai<=127 then 0 else 2)=4
   rw[if_pos (.inl a)]
  have hoc:Tm.oct ⟨ty,ri,ai⟩=noStr:=by
   unfold Tm.oct;rw[hbd,if_neg (by decide)]
  rw[hbd,hoc];clear hbd hoc;go_enter Tryz.func102,Tryz.ntmps102
  go_wp2;go_ret2
  exact⟨rfl,h1⟩
 have a2:decide (ty<1)=false:=by simp;omega
 by_cases b:7<ty
 ·have b2:decide (7<ty)=true:=by simp;omega
  have hbd:Tm.bad ⟨ty,ri,ai⟩=4:=by
   show (if ty<1\/7<ty then (4:Int) else if ri<0\/65536<=ri then 2 else if 0<=ai/\ai<=127 then 0 else 2)=4
   rw[if_pos (.inr b)]
  have hoc:Tm.oct ⟨ty,ri,ai⟩=noStr:=by
   unfold Tm.oct;rw[hbd,if_neg (by decide)]
  rw[hbd,hoc];clear hbd hoc;go_enter Tryz.func102,Tryz.ntmps102
  go_wp2;go_ret2
  exact⟨rfl,h1⟩
 have b2:decide (7<ty)=false:=by simp;omega
 by_cases c:ri<0
 ·have c2:decide (ri<0)=true:=by simp;omega
  have hbd:Tm.bad ⟨ty,ri,ai⟩=2:=by
   show (if ty<1\/7<ty then (4:Int) else if ri<0\/65536<=ri then 2 else if 0<=ai/\ai<=127 then 0 else 2)=2
   rw[if_neg (by omega),if_pos (.inl c)]
  have hoc:Tm.oct ⟨ty,ri,ai⟩=noStr:=by
   unfold Tm.oct;rw[hbd,if_neg (by decide)]
  rw[hbd,hoc];clear hbd hoc;go_enter Tryz.func102,Tryz.ntmps102
  go_wp2;go_ret2
  exact⟨rfl,h1⟩
 have c2:decide (ri<0)=false:=by simp;omega
 by_cases d:65535<ri
 ·have d2:decide (65535<ri)=true:=by simp;omega
  have hbd:Tm.bad ⟨ty,ri,ai⟩=2:=by
   show (if ty<1\/7<ty then (4:Int) else if ri<0\/65536<=ri then 2 else if 0<=ai/\ai<=127 then 0 else 2)=2
   rw[if_neg (by omega),if_pos (.inr (by omega))]
  have hoc:Tm.oct ⟨ty,ri,ai⟩=noStr:=by
   unfold Tm.oct;rw[hbd,if_neg (by decide)]
  rw[hbd,hoc];clear hbd hoc;go_enter Tryz.func102,Tryz.ntmps102
  go_wp2;go_ret2
  exact⟨rfl,h1⟩
 have d2:decide (65535<ri)=false:=by simp;omega
 by_cases e:ai<0
 ·have e2:decide (ai<0)=true:=by simp;omega
  have hbd:Tm.bad ⟨ty,ri,ai⟩=2:=by
   show (if ty<1\/7<ty then (4:Int) else if ri<0\/65536<=ri then 2 else if 0<=ai/\ai<=127 then 0 else 2)=2
   rw[if_neg (by omega),if_neg (by omega),if_neg (by omega)]
  have hoc:Tm.oct ⟨ty,ri,ai⟩=noStr:=by
   unfold Tm.oct;rw[hbd,if_neg (by decide)]
  rw[hbd,hoc];clear hbd hoc;go_enter Tryz.func102,Tryz.ntmps102
  go_wp2;go_ret2
  exact⟨rfl,h1⟩
 have e2:decide (ai<0)=false:=by simp;omega
 by_cases f:127<ai
 ·have f2:decide (127<ai)=true:=by simp;omega
  have hbd:Tm.bad ⟨ty,ri,ai⟩=2:=by
   show (if ty<1\/7<ty then (4:Int) else if ri<0\/65536<=ri then 2 else if 0<=ai/\ai<=127 then 0 else 2)=2
   rw[if_neg (by omega),if_neg (by omega),if_neg (by omega)]
  have hoc:Tm.oct ⟨ty,ri,ai⟩=noStr:=by
   unfold Tm.oct;rw[hbd,if_neg (by decide)]
  rw[hbd,hoc];clear hbd hoc;go_enter Tryz.func102,Tryz.ntmps102
  go_wp2;go_ret2
  exact⟨rfl,h1⟩
 have f2:decide (127<ai)=false:=by simp;omega
 clear h1;have h1:=h.alloc (.cells #[.int .i64 ty,.int .i64 ri,.int .i64 ai] TTmR);have hbd:Tm.bad ⟨ty,ri,ai⟩=0:=by
  show (if ty<1\/7<ty then (4:Int) else if ri<0\/65536<=ri then 2 else if 0<=ai/\ai<=127 then 0 else 2)=0
  rw[if_neg (by omega),if_neg (by omega),if_pos (by omega)]
 have hoc:Tm.oct ⟨ty,ri,ai⟩=octets [15,ri / 256,ri % 256,ty,2*ai+1]:=by
  unfold Tm.oct;rw[if_pos hbd]
 rw[hbd,hoc];clear hbd hoc;have t1:Int.tdiv ri 256=ri / 256:=Int.tdiv_eq_ediv_of_nonneg (by omega);have t2:Int.tmod ri 256=ri % 256:=Int.tmod_eq_emod_of_nonneg (by omega);obtain⟨p,hp⟩:∃ p,ri / 256=p:=⟨_,rfl⟩;obtain⟨q,hq⟩:∃ q,ri % 256=q:=⟨_,rfl⟩;obtain⟨z,hz⟩:∃ z,2*ai+1=z:=⟨_,rfl⟩;rw[hp] at t1;rw[hq] at t2;rw[hp,hq,hz];have pr:0<=p/\p<256/\0<=q/\q<256/\0<=z/\z<256:=by omega
 have wp:IntKind.u8.wrap p=p:=by rw[IntKind.wrap_u8];omega
 have wq:IntKind.u8.wrap q=q:=by rw[IntKind.wrap_u8];omega
 have wt:IntKind.u8.wrap ty=ty:=by rw[IntKind.wrap_u8];omega
 have wz:IntKind.u8.wrap z=z:=by rw[IntKind.wrap_u8];omega
 clear hp hq;go_enter Tryz.func102,Tryz.ntmps102
 go_upto_region 1 with fail
 have c1:=h1.cell;generalize w.alloc _=wa at *;generalize w.heap.size=ga at *;have hc:=run_octets (P:=Tryz.prog) (src:=121) (dst:=9) (e:=5) Tryz.underlying121 Tryz.underlying5 Tryz.underlying9 (wa.alloc (.cells #[.int .u8 15,.int .u8 p,.int .u8 q,.int .u8 ty,.int .u8 z] 5)) ⟨wa.heap.size,0,none⟩ 5 [15,p,q,ty,z] 5 rfl
  (by intro n hn;simp at hn;omega) (by intro j hj;rw[add_none];match j,hj with | 0,_=>simp | 1,_=>simp | 2,_=>simp | 3,_=>simp | 4,_=>simp)
 go_wp2;go_ret2
 exact⟨rfl,(h1.alloc _).drop.drop⟩
theorem rm_from (t:Int) (w:World):Calls Tryz.prog 195 #[.int .i64 t] w fun e w'=>e=.returned (.bool (fromNet t))/\w=w':=by
 unfold fromNet;by_cases a:t=2
 ·subst a
  go_enter Tryz.func195,Tryz.ntmps195
  go_wp2;go_ret
  exact⟨rfl,rfl⟩
 have qa:(t == 2)=false:=by simp[a]
 by_cases b:t=3
 ·subst b
  go_enter Tryz.func195,Tryz.ntmps195
  go_wp2;go_ret
  exact⟨rfl,rfl⟩
 have qb:(t == 3)=false:=by simp[b]
 by_cases c:t=4
 ·subst c
  go_enter Tryz.func195,Tryz.ntmps195
  go_wp2;go_ret
  exact⟨rfl,rfl⟩
 have qc:(t == 4)=false:=by simp[c]
 by_cases d:t=6
 ·subst d
  go_enter Tryz.func195,Tryz.ntmps195
  go_wp2;go_ret
  exact⟨rfl,rfl⟩
 have qd:(t == 6)=false:=by simp[d]
 rw[qa,qb,qc,qd];clear a b c d;go_enter Tryz.func195,Tryz.ntmps195
 go_wp2;go_ret
 exact⟨rfl,rfl⟩
theorem rm_get (s:ByteArray) (w0 w:World) (R:HP) (h:St w0 w R) (hs:s.size<=1000000000) :
  Calls Tryz.prog 194 #[.string s] w fun e w'=>e=.returned (.tuple #[.agg (tmG s).1.cells.toArray,.int .i64 (tmG s).2])/\St w0 w' R:=by
 obtain⟨n,hn⟩:∃ n,s.size=n:=⟨_,rfl⟩;have h1:=h.alloc (.cells #[.int .i64 0,.int .i64 0,.int .i64 0] TTmR);unfold tmG;rw[hn] at hs ⊢;have c:=h1.cell;have f:=h1.free;by_cases a:n<5
 ·rw[if_pos a]
  have qa:decide ((n:Int)<5)=true:=by simp;omega
  go_enter Tryz.func194,Tryz.ntmps194
  go_upto_region 2 with fail
  generalize w.alloc _=wa at *;generalize w.heap.size=ga at *;have h9:=(((h1.set 0 (.int .i64 0)).set 1 (.int .i64 0)).set 2 (.int .i64 0));go_wp2;have cr:=h9.cell;refine bodyPost_ret (v:=.tuple #[.agg #[.int .i64 0,.int .i64 0,.int .i64 0],.int .i64 3]) (by simp[results,Tryz.results194,go_sem,cr]) rfl ⟨rfl,h9.drop⟩
 have qa:decide ((n:Int)<5)=false:=by simp;omega
 rw[if_neg a];by_cases b:5<n
 ·rw[if_pos b]
  have qb:decide (5<(n:Int))=true:=by simp;omega
  go_enter Tryz.func194,Tryz.ntmps194
  go_upto_region 4 with fail
  generalize w.alloc _=wa at *;generalize w.heap.size=ga at *;have h9:=(((h1.set 0 (.int .i64 0)).set 1 (.int .i64 0)).set 2 (.int .i64 0));go_wp2;have cr:=h9.cell;refine bodyPost_ret (v:=.tuple #[.agg #[.int .i64 0,.int .i64 0,.int .i64 0],.int .i64 5]) (by simp[results,Tryz.results194,go_sem,cr]) rfl ⟨rfl,h9.drop⟩
 have qb:decide (5<(n:Int))=false:=by simp;omega
 rw[if_neg b];have i0:∀ w,(Instr.index 9 (.string s) (.int .i64 0)).run Tryz.prog w=.ok (.int .u8 (byteAt s 0)) w:=str_at s 0 (by omega);have i1:∀ w,(Instr.index 9 (.string s) (.int .i64 1)).run Tryz.prog w=.ok (.int .u8 (byteAt s 1)) w:=str_at s 1 (by omega);have i2:∀ w,(Instr.index 9 (.string s) (.int .i64 2)).run Tryz.prog w=.ok (.int .u8 (byteAt s 2)) w:=str_at s 2 (by omega);have i3:∀ w,(Instr.index 9 (.string s) (.int .i64 3)).run Tryz.prog w=.ok (.int .u8 (byteAt s 3)) w:=str_at s 3 (by omega);have i4:∀ w,(Instr.index 9 (.string s) (.int .i64 4)).run Tryz.prog w=.ok (.int .u8 (byteAt s 4)) w:=str_at s 4 (by omega);obtain⟨p0,r0⟩:=byteAt_range s 0;obtain⟨p1,r1⟩:=byteAt_range s 1;obtain⟨p2,r2⟩:=byteAt_range s 2;obtain⟨p3,r3⟩:=byteAt_range s 3;obtain⟨p4,r4⟩:=byteAt_range s 4;generalize byteAt s 0=x0 at *;generalize byteAt s 1=x1 at *;generalize byteAt s 2=x2 at *;generalize byteAt s 3=x3 at *;generalize byteAt s 4=x4 at *;obtain⟨V,hV⟩:∃ V,(if x0≠15\/x3<1\/7<x3\/x4 % 2=0 then (Tm.zero,(4:Int)) else (⟨x3,256*x1+x2,x4 / 2⟩,0))=V:=⟨_,rfl⟩;rw[hV];have u4:Int.tmod x4 2=x4 % 2:=Int.tmod_eq_emod_of_nonneg p4;by_cases e0:x0=15
 ·have q0:(x0 != 15)=false:=by simp[e0]
  by_cases e1:x3<1
  ·have q1:decide (x3<1)=true:=decide_eq_true e1
   have HC:(x0≠15\/x3<1\/7<x3\/x4 % 2=0):=.inr (.inl e1);clear e0 e1;have hV2:=(if_pos HC).symm.trans hV;clear hV;have HV:=Lib.hid hV2;clear hV2;go_enter Tryz.func194,Tryz.ntmps194
   go_upto_region 6 with fail
   generalize w.alloc _=wa at *;generalize w.heap.size=ga at *;have h9:=(((h1.set 0 (.int .i64 0)).set 1 (.int .i64 0)).set 2 (.int .i64 0));go_wp2;have cr:=h9.cell;refine bodyPost_ret (v:=.tuple #[.agg #[.int .i64 0,.int .i64 0,.int .i64 0],.int .i64 4]) (by simp[results,Tryz.results194,go_sem,cr]) rfl ⟨by rw[← HV.out],h9.drop⟩
  ·have q1:decide (x3<1)=false:=decide_eq_false e1
   by_cases e2:7<x3
   ·have q2:decide (7<x3)=true:=decide_eq_true e2
    have HC:(x0≠15\/x3<1\/7<x3\/x4 % 2=0):=.inr (.inr (.inl e2));clear e0 e1 e2;have hV2:=(if_pos HC).symm.trans hV;clear hV;have HV:=Lib.hid hV2;clear hV2;go_enter Tryz.func194,Tryz.ntmps194
    go_upto_region 6 with fail
    generalize w.alloc _=wa at *;generalize w.heap.size=ga at *;have h9:=(((h1.set 0 (.int .i64 0)).set 1 (.int .i64 0)).set 2 (.int .i64 0));go_wp2;have cr:=h9.cell;refine bodyPost_ret (v:=.tuple #[.agg #[.int .i64 0,.int .i64 0,.int .i64 0],.int .i64 4]) (by simp[results,Tryz.results194,go_sem,cr]) rfl ⟨by rw[← HV.out],h9.drop⟩
   ·have q2:decide (7<x3)=false:=decide_eq_false e2
    by_cases e3:x4 % 2=0
    ·have q3:(x4 % 2 == 0)=true:=by simp[e3]
     have HC:(x0≠15\/x3<1\/7<x3\/x4 % 2=0):=.inr (.inr (.inr e3));clear e0 e1 e2 e3;have hV2:=(if_pos HC).symm.trans hV;clear hV;have HV:=Lib.hid hV2;clear hV2;go_enter Tryz.func194,Tryz.ntmps194
     go_upto_region 6 with fail
     generalize w.alloc _=wa at *;generalize w.heap.size=ga at *;have h9:=(((h1.set 0 (.int .i64 0)).set 1 (.int .i64 0)).set 2 (.int .i64 0));go_wp2;have cr:=h9.cell;refine bodyPost_ret (v:=.tuple #[.agg #[.int .i64 0,.int .i64 0,.int .i64 0],.int .i64 4]) (by simp[results,Tryz.results194,go_sem,cr]) rfl ⟨by rw[← HV.out],h9.drop⟩
    ·have q3:(x4 % 2 == 0)=false:=by simp[e3]
     have hV2:=(if_neg (show ¬ (x0≠15\/x3<1\/7<x3\/x4 % 2=0) by omega)).symm.trans hV;have W1:IntKind.i64.wrap x1=x1:=by rw[IntKind.wrap_i64];omega
     have W2:IntKind.i64.wrap x2=x2:=by rw[IntKind.wrap_i64];omega
     have W3:IntKind.i64.wrap x3=x3:=by rw[IntKind.wrap_i64];omega
     have W4:IntKind.i64.wrap x4=x4:=by rw[IntKind.wrap_i64];omega
     have W5:IntKind.i64.wrap (256*x1)=256*x1:=by rw[IntKind.wrap_i64];omega
     have W6:IntKind.i64.wrap (256*x1+x2)=256*x1+x2:=by rw[IntKind.wrap_i64];omega
     have T4:Int.tdiv x4 2=x4 / 2:=Int.tdiv_eq_ediv_of_nonneg p4;have W7:IntKind.i64.wrap (x4 / 2)=x4 / 2:=by rw[IntKind.wrap_i64];omega
     clear e0 e1 e2 e3 hV;generalize hXX:256*x1+x2=X at *;have HX:=Lib.hid hXX;generalize x4 / 2=y4 at *;have HV:=Lib.hid hV2;clear hV2;go_enter Tryz.func194,Tryz.ntmps194
     go_upto_region 7 with fail
     generalize w.alloc _=wa at *;generalize w.heap.size=ga at *;have hd:=h1.drew;clear c f h1;refine wp_region_held_drew (S:=fun _=>True) (by kernel_rfl) trivial (fun hHeld=>?_)
     generalize wa.drew=wd at *;have cd:=hd.cell;have fd:=hd.free;refine tk 0 ?_ rfl (fun w hSw=>?_) ?_
     rotate_left 1
     ·try dsimp only at hSw
      go_simp
      try with_reducible rfl
     try simp only[Act.put,sl]
     refine tk 1 ?_ rfl (fun w hSw=>?_) ?_
     rotate_left 1
     ·try dsimp only at hSw
      go_simp
      try with_reducible rfl
     try simp only[Act.put,sl]
     refine tk 2 ?_ rfl (fun w hSw=>?_) ?_
     rotate_left 1
     ·try dsimp only at hSw
      go_simp
      try with_reducible rfl
     try simp only[Act.put,sl]
     refine tk 3 ?_ rfl (fun w hSw=>?_) ?_
     rotate_left 1
     ·try dsimp only at hSw
      go_simp
      try with_reducible rfl
     try simp only[Act.put,sl]
     refine tk 4 ?_ rfl (fun w hSw=>?_) ?_
     rotate_left 1
     ·try dsimp only at hSw
      go_simp
      try with_reducible rfl
     try simp only[Act.put,sl]
     refine tk 5 ?_ rfl (fun w hSw=>?_) ?_
     rotate_left 1
     ·try dsimp only at hSw
      go_simp
      try with_reducible rfl
     try simp only[Act.put,sl]
     refine tk 6 ?_ rfl (fun w hSw=>?_) ?_
     rotate_left 1
     ·try dsimp only at hSw
      go_simp
      try with_reducible rfl
     try simp only[Act.put,sl]
     refine tk 7 ?_ rfl (fun w hSw=>?_) ?_
     rotate_left 1
     ·try dsimp only at hSw
      go_simp
      try with_reducible rfl
     try simp only[Act.put,sl]
     refine tk 8 ?_ rfl (fun w hSw=>?_) ?_
     rotate_left 1
     ·try dsimp only at hSw
      go_simp
      try with_reducible rfl
     try simp only[Act.put,sl]
     refine tk 9 ?_ rfl (fun w hSw=>?_) ?_
     rotate_left 1
     ·try dsimp only at hSw
      go_simp
      try with_reducible rfl
     try simp only[Act.put,sl]
     refine tk 10 ?_ rfl (fun w hSw=>?_) ?_
     rotate_left 1
     ·try dsimp only at hSw
      go_simp
      try with_reducible rfl
     try simp only[Act.put,sl]
     refine tk 11 ?_ rfl (fun w hSw=>?_) ?_
     rotate_left 1
     ·try dsimp only at hSw
      go_simp
      try with_reducible rfl
     try simp only[Act.put,sl]
     refine tk 12 ?_ rfl (fun w hSw=>?_) ?_
     rotate_left 1
     ·try dsimp only at hSw
      go_simp
      try with_reducible rfl
     try simp only[Act.put,sl]
     refine tk 13 ?_ rfl (fun w hSw=>?_) ?_
     rotate_left 1
     ·try dsimp only at hSw
      go_simp
      try with_reducible rfl
     try simp only[Act.put,sl]
     refine tk 14 ?_ rfl (fun w hSw=>?_) ?_
     rotate_left 1
     ·try dsimp only at hSw
      go_simp
      try with_reducible rfl
     try simp only[Act.put,sl]
     refine tk 15 ?_ rfl (fun w hSw=>?_) ?_
     rotate_left 1
     ·try dsimp only at hSw
      go_simp
      try with_reducible rfl
     try simp only[Act.put,sl]
     refine rd 16 rfl (fun K hK=>?_)
     go_simp
     go_simp
     refine hK.out _ _ trivial (fun hHeld=>?_)
     clear hK K;try simp only[Act.put,sl]
     refine tk 17 ?_ rfl (fun w hSw=>?_) ?_
     rotate_left 1
     ·try dsimp only at hSw
      go_simp
      try with_reducible rfl
     try simp only[Act.put,sl]
     refine wpAnyH_done (by kernel_rfl) ?_ _
     have h9:=(((hd.set 0 (.int .i64 x3)).set 1 (.int .i64 X)).set 2 (.int .i64 y4));go_wp2;have cr:=h9.cell;refine bodyPost_ret (v:=.tuple #[.agg #[.int .i64 x3,.int .i64 X,.int .i64 y4],.int .i64 0]) (by simp[results,Tryz.results194,go_sem,cr]) rfl ⟨by rw[← HV.out],h9.drop⟩
 ·have q0:(x0 != 15)=true:=by simp[e0]
  have HC:(x0≠15\/x3<1\/7<x3\/x4 % 2=0):=.inl e0;clear e0;have hV2:=(if_pos HC).symm.trans hV;clear hV;have HV:=Lib.hid hV2;clear hV2;go_enter Tryz.func194,Tryz.ntmps194
  go_upto_region 6 with fail
  generalize w.alloc _=wa at *;generalize w.heap.size=ga at *;have h9:=(((h1.set 0 (.int .i64 0)).set 1 (.int .i64 0)).set 2 (.int .i64 0));go_wp2;have cr:=h9.cell;refine bodyPost_ret (v:=.tuple #[.agg #[.int .i64 0,.int .i64 0,.int .i64 0],.int .i64 4]) (by simp[results,Tryz.results194,go_sem,cr]) rfl ⟨by rw[← HV.out],h9.drop⟩
end Go.Proofs.YtnnahljdhdippaaGreatDoor
