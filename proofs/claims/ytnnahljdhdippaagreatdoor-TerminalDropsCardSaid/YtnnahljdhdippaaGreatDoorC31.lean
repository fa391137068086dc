/- Parts of a proof (RefH, RefU, RefV). No condition. -/
import Derived.Test.YtnnahljdhdippaaGreatDoorC30
import Derived.Test.YtnnahljdhdippaaGreatDoorC19
namespace Go.Proofs.YtnnahljdhdippaaGreatDoor
set_option maxRecDepth 100000
set_option maxHeartbeats 6400000
open Go.RowKit
theorem rm_frame (m:Tm) (w0 w:World) (R:HP) (h:St w0 w R) :
  Calls Tryz.prog 47 #[.agg m.cells.toArray] w fun e w'=>e=.returned (.tuple #[.agg m.fr.cells.toArray,.int .i64 m.bad])/\St w0 w' R:=by
 have h1:=h.alloc (.cells #[.int .i64 m.ty,.int .i64 m.ri,.int .i64 m.ai] TTmR);have h2:=h1.alloc (.cells #[.int .i64 0,.int .i64 0,.bool false,.int .i64 0,.bool false,.int .i64 0,.int .i64 0,.string ⟨#[]⟩] TRf);have hp:=rm_put m w0 _ _ h2;have c1:=h2.f2.cell;unfold Tm.fr;by_cases hb:m.bad=0
 ·rw[if_pos hb]
  rw[hb] at hp ⊢;obtain⟨ty,ri,ai⟩:=m;simp only[Tm.cells] at *;generalize Tm.oct _=oc at *;clear hb;go_enter Tryz.func47,Tryz.ntmps47
  go_upto_region 1 with fail
  simp only[World.size_alloc] at *;generalize hg:w.heap.size=ga at *;generalize (w.alloc _).alloc _=wb at *;go_wp2_with fail
  refine hp.mono ?_
  rintro e w5 ⟨rfl,h5⟩;have c5:=h5.cell;have f5:=h5.free;clear c1 hp h1 h2;have h9:=((((((((h5.set 0 (.int .i64 63)).set 1 (.int .i64 127)).set 2 (.bool true)).set 3 (.int .i64 6)).set 4 (.bool false)).set 5 (.int .i64 0)).set 6 (.int .i64 0)).set 7 (.string oc));go_wp2;have cr:=h9.cell;refine bodyPost_ret (v:=.tuple #[.agg #[.int .i64 63,.int .i64 127,.bool true,.int .i64 6,.bool false,.int .i64 0,.int .i64 0,.string oc],.int .i64 0]) (by simp[results,Tryz.results47,go_sem,cr]) rfl ⟨rfl,h9.drop.drop⟩
 ·rw[if_neg hb]
  have qb:(m.bad != 0)=true:=by simp[hb]
  generalize m.bad=bd at *;obtain⟨ty,ri,ai⟩:=m;simp only[Tm.cells] at *;generalize Tm.oct _=oc at *;clear hb;go_enter Tryz.func47,Tryz.ntmps47
  go_upto_region 1 with fail
  simp only[World.size_alloc] at *;generalize hg:w.heap.size=ga at *;generalize (w.alloc _).alloc _=wb at *;go_wp2_with fail
  refine hp.mono ?_
  rintro e w5 ⟨rfl,h5⟩;have c5:=h5.cell;have f5:=h5.free;clear c1 hp h1 h2;have h9:=((((((((h5.set 0 (.int .i64 0)).set 1 (.int .i64 0)).set 2 (.bool false)).set 3 (.int .i64 0)).set 4 (.bool false)).set 5 (.int .i64 0)).set 6 (.int .i64 0)).set 7 (.string ⟨#[]⟩));go_wp2;have cr:=h9.cell;refine bodyPost_ret (v:=.tuple #[.agg #[.int .i64 0,.int .i64 0,.bool false,.int .i64 0,.bool false,.int .i64 0,.int .i64 0,.string ⟨#[]⟩],.int .i64 bd]) (by simp[results,Tryz.results47,go_sem,cr]) rfl ⟨rfl,h9.drop.drop⟩
theorem rm_of (f:Fr) (net:Bool) (w0 w:World) (R:HP) (h:St w0 w R) (hs:f.info.size<=1000000000) :
  Calls Tryz.prog 115 #[.agg f.cells.toArray,.bool net] w fun e w'=>e=.returned (.tuple #[.agg (tmOf f net).1.cells.toArray,.bool (tmOf f net).2])/\St w0 w' R:=by
 obtain⟨a1,a2,cmd,k,pf,ns,nr,inf⟩:=f;simp only[] at *;have h1:=h.alloc (.cells (Fr.cells ⟨a1,a2,cmd,k,pf,ns,nr,inf⟩).toArray TRf);have h2:=h1.alloc (.cells #[.int .i64 0,.int .i64 0,.int .i64 0] TTmR);have hg1:=rm_get inf w0 _ _ h2 hs;have c1:=h2.f2.cell;unfold tmOf;dsimp only;generalize tmG inf=C at *;obtain⟨⟨ty,ri,ai⟩,er⟩:=C;simp only[Tm.cells,Fr.cells] at *;have hf:=fun w=>rm_from ty w
 generalize fromNet ty=fn at *;obtain⟨V,hV⟩:∃ V,(if ¬ (a1=63/\a2=127)\/k≠6\/cmd=false\/er≠0\/fn≠net then (Tm.zero,false) else (⟨ty,ri,ai⟩,true))=V:=⟨_,rfl⟩;rw[hV];by_cases b1:a1=63
 ·have q1:(a1 != 63)=false:=by simp[b1]
  by_cases b2:a2=127
  ·have q2:(a2 != 127)=false:=by simp[b2]
   cases hcm:cmd with
   | false =>
     have HC:(¬ (a1=63/\a2=127)\/k≠6\/cmd=false\/er≠0\/fn≠net):=.inr (.inr (.inl hcm));subst hcm;clear b1 b2;have HV:=Lib.hid ((if_pos HC).symm.trans hV);clear hV;go_enter Tryz.func115,Tryz.ntmps115
     go_upto_region 1 with fail
     simp only[World.size_alloc] at *;generalize hg:w.heap.size=gf at *;generalize (w.alloc _).alloc _=wb at *;go_upto_region 2 with (go_at_call 194;refine hg1.mono ?_;rintro e w5 ⟨rfl,h5⟩)
     have lt1:=h5.lt;have lt2:=h5.drop.lt;have h6:=h5.alloc (.cells #[.int .i64 ty,.int .i64 ri,.int .i64 ai] TTmR);generalize w5.alloc _=w6 at *;generalize hgc:w5.heap.size=gc at *;have ne1:gc≠gf+1:=by omega
     have ne2:gf+1≠gc:=by omega
     have ne3:gc≠gf:=by omega
     have ne4:gf≠gc:=by omega
     clear c1 hg1 h1 h2 h5;have c6:=h6.cell;have c7:=h6.f2.cell;have f7:=h6.f2.free;have c8:=h6.f3.cell;have h9:=(((h6.f2.set 0 (.int .i64 0)).set 1 (.int .i64 0)).set 2 (.int .i64 0));go_wp2_with (go_at_call 195;refine (hf _).mono ?_;rintro e w8 ⟨rfl,rfl⟩)
     have cr:=h9.cell;refine bodyPost_ret (v:=.tuple #[.agg #[.int .i64 0,.int .i64 0,.int .i64 0],.bool false]) (by simp[results,Tryz.results115,go_sem,cr]) rfl ⟨by rw[← HV.out],h9.drop.drop.drop⟩
   | true =>
     subst hcm;by_cases b3:k=6
     ·have q3:(k != 6)=false:=by simp[b3]
      by_cases b4:er=0
      ·have q4:(er != 0)=false:=by simp[b4]
       have good:fn=net->(¬ (¬ (a1=63/\a2=127)\/k≠6\/true=false\/er≠0\/fn≠net)):=fun b5=>by simp[b1,b2,b3,b4,b5]
       have bad:fn≠net->(¬ (a1=63/\a2=127)\/k≠6\/true=false\/er≠0\/fn≠net):=fun b5=>.inr (.inr (.inr (.inr b5)))
       clear b1 b2 b3 b4;cases fn with
       | false =>
         cases net with
         | false =>
           have HV:=Lib.hid ((if_neg (good rfl)).symm.trans hV);clear hV good bad;go_enter Tryz.func115,Tryz.ntmps115
           go_upto_region 1 with fail
           simp only[World.size_alloc] at *;generalize hg:w.heap.size=gf at *;generalize (w.alloc _).alloc _=wb at *;go_upto_region 2 with (go_at_call 194;refine hg1.mono ?_;rintro e w5 ⟨rfl,h5⟩)
           have lt1:=h5.lt;have lt2:=h5.drop.lt;have h6:=h5.alloc (.cells #[.int .i64 ty,.int .i64 ri,.int .i64 ai] TTmR);generalize w5.alloc _=w6 at *;generalize hgc:w5.heap.size=gc at *;have ne1:gc≠gf+1:=by omega
           have ne2:gf+1≠gc:=by omega
           have ne3:gc≠gf:=by omega
           have ne4:gf≠gc:=by omega
           clear c1 hg1 h1 h2 h5;have c6:=h6.cell;have c7:=h6.f2.cell;have f7:=h6.f2.free;have c8:=h6.f3.cell;have h9:=(((h6.f2.set 0 (.int .i64 ty)).set 1 (.int .i64 ri)).set 2 (.int .i64 ai));go_wp2_with (go_at_call 195;refine (hf _).mono ?_;rintro e w8 ⟨rfl,rfl⟩)
           have cr:=h9.cell;refine bodyPost_ret (v:=.tuple #[.agg #[.int .i64 ty,.int .i64 ri,.int .i64 ai],.bool true]) (by simp[results,Tryz.results115,go_sem,cr]) rfl ⟨by rw[← HV.out],h9.drop.drop.drop⟩
         | true =>
           have HC:=bad (by decide);clear good bad;have HV:=Lib.hid ((if_pos HC).symm.trans hV);clear hV;go_enter Tryz.func115,Tryz.ntmps115
           go_upto_region 1 with fail
           simp only[World.size_alloc] at *;generalize hg:w.heap.size=gf at *;generalize (w.alloc _).alloc _=wb at *;go_upto_region 2 with (go_at_call 194;refine hg1.mono ?_;rintro e w5 ⟨rfl,h5⟩)
           have lt1:=h5.lt;have lt2:=h5.drop.lt;have h6:=h5.alloc (.cells #[.int .i64 ty,.int .i64 ri,.int .i64 ai] TTmR);generalize w5.alloc _=w6 at *;generalize hgc:w5.heap.size=gc at *;have ne1:gc≠gf+1:=by omega
           have ne2:gf+1≠gc:=by omega
           have ne3:gc≠gf:=by omega
           have ne4:gf≠gc:=by omega
           clear c1 hg1 h1 h2 h5;have c6:=h6.cell;have c7:=h6.f2.cell;have f7:=h6.f2.free;have c8:=h6.f3.cell;have h9:=(((h6.f2.set 0 (.int .i64 0)).set 1 (.int .i64 0)).set 2 (.int .i64 0));go_wp2_with (go_at_call 195;refine (hf _).mono ?_;rintro e w8 ⟨rfl,rfl⟩)
           have cr:=h9.cell;refine bodyPost_ret (v:=.tuple #[.agg #[.int .i64 0,.int .i64 0,.int .i64 0],.bool false]) (by simp[results,Tryz.results115,go_sem,cr]) rfl ⟨by rw[← HV.out],h9.drop.drop.drop⟩
       | true =>
         cases net with
         | false =>
           have HC:=bad (by decide);clear good bad;have HV:=Lib.hid ((if_pos HC).symm.trans hV);clear hV;go_enter Tryz.func115,Tryz.ntmps115
           go_upto_region 1 with fail
           simp only[World.size_alloc] at *;generalize hg:w.heap.size=gf at *;generalize (w.alloc _).alloc _=wb at *;go_upto_region 2 with (go_at_call 194;refine hg1.mono ?_;rintro e w5 ⟨rfl,h5⟩)
           have lt1:=h5.lt;have lt2:=h5.drop.lt;have h6:=h5.alloc (.cells #[.int .i64 ty,.int .i64 ri,.int .i64 ai] TTmR);generalize w5.alloc _=w6 at *;generalize hgc:w5.heap.size=gc at *;have ne1:gc≠gf+1:=by omega
           have ne2:gf+1≠gc:=by omega
           have ne3:gc≠gf:=by omega
           have ne4:gf≠gc:=by omega
           clear c1 hg1 h1 h2 h5;have c6:=h6.cell;have c7:=h6.f2.cell;have f7:=h6.f2.free;have c8:=h6.f3.cell;have h9:=(((h6.f2.set 0 (.int .i64 0)).set 1 (.int .i64 0)).set 2 (.int .i64 0));go_wp2_with (go_at_call 195;refine (hf _).mono ?_;rintro e w8 ⟨rfl,rfl⟩)
           have cr:=h9.cell;refine bodyPost_ret (v:=.tuple #[.agg #[.int .i64 0,.int .i64 0,.int .i64 0],.bool false]) (by simp[results,Tryz.results115,go_sem,cr]) rfl ⟨by rw[← HV.out],h9.drop.drop.drop⟩
         | true =>
           have HV:=Lib.hid ((if_neg (good rfl)).symm.trans hV);clear hV good bad;go_enter Tryz.func115,Tryz.ntmps115
           go_upto_region 1 with fail
           simp only[World.size_alloc] at *;generalize hg:w.heap.size=gf at *;generalize (w.alloc _).alloc _=wb at *;go_upto_region 2 with (go_at_call 194;refine hg1.mono ?_;rintro e w5 ⟨rfl,h5⟩)
           have lt1:=h5.lt;have lt2:=h5.drop.lt;have h6:=h5.alloc (.cells #[.int .i64 ty,.int .i64 ri,.int .i64 ai] TTmR);generalize w5.alloc _=w6 at *;generalize hgc:w5.heap.size=gc at *;have ne1:gc≠gf+1:=by omega
           have ne2:gf+1≠gc:=by omega
           have ne3:gc≠gf:=by omega
           have ne4:gf≠gc:=by omega
           clear c1 hg1 h1 h2 h5;have c6:=h6.cell;have c7:=h6.f2.cell;have f7:=h6.f2.free;have c8:=h6.f3.cell;have h9:=(((h6.f2.set 0 (.int .i64 ty)).set 1 (.int .i64 ri)).set 2 (.int .i64 ai));go_wp2_with (go_at_call 195;refine (hf _).mono ?_;rintro e w8 ⟨rfl,rfl⟩)
           have cr:=h9.cell;refine bodyPost_ret (v:=.tuple #[.agg #[.int .i64 ty,.int .i64 ri,.int .i64 ai],.bool true]) (by simp[results,Tryz.results115,go_sem,cr]) rfl ⟨by rw[← HV.out],h9.drop.drop.drop⟩
      ·have q4:(er != 0)=true:=by simp[b4]
       have HC:(¬ (a1=63/\a2=127)\/k≠6\/true=false\/er≠0\/fn≠net):=.inr (.inr (.inr (.inl b4)));clear b1 b2 b3 b4;have HV:=Lib.hid ((if_pos HC).symm.trans hV);clear hV;go_enter Tryz.func115,Tryz.ntmps115
       go_upto_region 1 with fail
       simp only[World.size_alloc] at *;generalize hg:w.heap.size=gf at *;generalize (w.alloc _).alloc _=wb at *;go_upto_region 2 with (go_at_call 194;refine hg1.mono ?_;rintro e w5 ⟨rfl,h5⟩)
       have lt1:=h5.lt;have lt2:=h5.drop.lt;have h6:=h5.alloc (.cells #[.int .i64 ty,.int .i64 ri,.int .i64 ai] TTmR);generalize w5.alloc _=w6 at *;generalize hgc:w5.heap.size=gc at *;have ne1:gc≠gf+1:=by omega
       have ne2:gf+1≠gc:=by omega
       have ne3:gc≠gf:=by omega
       have ne4:gf≠gc:=by omega
       clear c1 hg1 h1 h2 h5;have c6:=h6.cell;have c7:=h6.f2.cell;have f7:=h6.f2.free;have c8:=h6.f3.cell;have h9:=(((h6.f2.set 0 (.int .i64 0)).set 1 (.int .i64 0)).set 2 (.int .i64 0));go_wp2_with (go_at_call 195;refine (hf _).mono ?_;rintro e w8 ⟨rfl,rfl⟩)
       have cr:=h9.cell;refine bodyPost_ret (v:=.tuple #[.agg #[.int .i64 0,.int .i64 0,.int .i64 0],.bool false]) (by simp[results,Tryz.results115,go_sem,cr]) rfl ⟨by rw[← HV.out],h9.drop.drop.drop⟩
     ·have q3:(k != 6)=true:=by simp[b3]
      have HC:(¬ (a1=63/\a2=127)\/k≠6\/true=false\/er≠0\/fn≠net):=.inr (.inl b3);clear b1 b2 b3;have HV:=Lib.hid ((if_pos HC).symm.trans hV);clear hV;go_enter Tryz.func115,Tryz.ntmps115
      go_upto_region 1 with fail
      simp only[World.size_alloc] at *;generalize hg:w.heap.size=gf at *;generalize (w.alloc _).alloc _=wb at *;go_upto_region 2 with (go_at_call 194;refine hg1.mono ?_;rintro e w5 ⟨rfl,h5⟩)
      have lt1:=h5.lt;have lt2:=h5.drop.lt;have h6:=h5.alloc (.cells #[.int .i64 ty,.int .i64 ri,.int .i64 ai] TTmR);generalize w5.alloc _=w6 at *;generalize hgc:w5.heap.size=gc at *;have ne1:gc≠gf+1:=by omega
      have ne2:gf+1≠gc:=by omega
      have ne3:gc≠gf:=by omega
      have ne4:gf≠gc:=by omega
      clear c1 hg1 h1 h2 h5;have c6:=h6.cell;have c7:=h6.f2.cell;have f7:=h6.f2.free;have c8:=h6.f3.cell;have h9:=(((h6.f2.set 0 (.int .i64 0)).set 1 (.int .i64 0)).set 2 (.int .i64 0));go_wp2_with (go_at_call 195;refine (hf _).mono ?_;rintro e w8 ⟨rfl,rfl⟩)
      have cr:=h9.cell;refine bodyPost_ret (v:=.tuple #[.agg #[.int .i64 0,.int .i64 0,.int .i64 0],.bool false]) (by simp[results,Tryz.results115,go_sem,cr]) rfl ⟨by rw[← HV.out],h9.drop.drop.drop⟩
  ·have q2:(a2 != 127)=true:=by simp[b2]
   have HC:(¬ (a1=63/\a2=127)\/k≠6\/cmd=false\/er≠0\/fn≠net):=.inl fun e=>b2 e.2
   clear b1 b2;have HV:=Lib.hid ((if_pos HC).symm.trans hV);clear hV;go_enter Tryz.func115,Tryz.ntmps115
   go_upto_region 1 with fail
   simp only[World.size_alloc] at *;generalize hg:w.heap.size=gf at *;generalize (w.alloc _).alloc _=wb at *;go_upto_region 2 with (go_at_call 194;refine hg1.mono ?_;rintro e w5 ⟨rfl,h5⟩)
   have lt1:=h5.lt;have lt2:=h5.drop.lt;have h6:=h5.alloc (.cells #[.int .i64 ty,.int .i64 ri,.int .i64 ai] TTmR);generalize w5.alloc _=w6 at *;generalize hgc:w5.heap.size=gc at *;have ne1:gc≠gf+1:=by omega
   have ne2:gf+1≠gc:=by omega
   have ne3:gc≠gf:=by omega
   have ne4:gf≠gc:=by omega
   clear c1 hg1 h1 h2 h5;have c6:=h6.cell;have c7:=h6.f2.cell;have f7:=h6.f2.free;have c8:=h6.f3.cell;have h9:=(((h6.f2.set 0 (.int .i64 0)).set 1 (.int .i64 0)).set 2 (.int .i64 0));go_wp2_with (go_at_call 195;refine (hf _).mono ?_;rintro e w8 ⟨rfl,rfl⟩)
   have cr:=h9.cell;refine bodyPost_ret (v:=.tuple #[.agg #[.int .i64 0,.int .i64 0,.int .i64 0],.bool false]) (by simp[results,Tryz.results115,go_sem,cr]) rfl ⟨by rw[← HV.out],h9.drop.drop.drop⟩
 ·have q1:(a1 != 63)=true:=by simp[b1]
  have HC:(¬ (a1=63/\a2=127)\/k≠6\/cmd=false\/er≠0\/fn≠net):=.inl fun e=>b1 e.1
  clear b1;have HV:=Lib.hid ((if_pos HC).symm.trans hV);clear hV;go_enter Tryz.func115,Tryz.ntmps115
  go_upto_region 1 with fail
  simp only[World.size_alloc] at *;generalize hg:w.heap.size=gf at *;generalize (w.alloc _).alloc _=wb at *;go_upto_region 2 with (go_at_call 194;refine hg1.mono ?_;rintro e w5 ⟨rfl,h5⟩)
  have lt1:=h5.lt;have lt2:=h5.drop.lt;have h6:=h5.alloc (.cells #[.int .i64 ty,.int .i64 ri,.int .i64 ai] TTmR);generalize w5.alloc _=w6 at *;generalize hgc:w5.heap.size=gc at *;have ne1:gc≠gf+1:=by omega
  have ne2:gf+1≠gc:=by omega
  have ne3:gc≠gf:=by omega
  have ne4:gf≠gc:=by omega
  clear c1 hg1 h1 h2 h5;have c6:=h6.cell;have c7:=h6.f2.cell;have f7:=h6.f2.free;have c8:=h6.f3.cell;have h9:=(((h6.f2.set 0 (.int .i64 0)).set 1 (.int .i64 0)).set 2 (.int .i64 0));go_wp2_with (go_at_call 195;refine (hf _).mono ?_;rintro e w8 ⟨rfl,rfl⟩)
  have cr:=h9.cell;refine bodyPost_ret (v:=.tuple #[.agg #[.int .i64 0,.int .i64 0,.int .i64 0],.bool false]) (by simp[results,Tryz.results115,go_sem,cr]) rfl ⟨by rw[← HV.out],h9.drop.drop.drop⟩
abbrev TRd:TypeId:=128
abbrev TRu:TypeId:=146
abbrev TRue:TypeId:=305
theorem tyRue:ETy Tryz.prog 144 TRue 5 40 Ue.cells :=
 ⟨Tryz.underlying144,⟨.agg #[.int .i64 0,.int .i64 0,.int .i64 0,.int .i64 0,.int .i64 0],by kernel_rfl,rfl⟩,fun _=>rfl,fun b u hu=>by simp[Ue.cells] at hu;rcases hu with rfl | rfl | rfl | rfl | rfl <;> rfl,by decide,by decide⟩
abbrev Dr.rcells (d:Dr):Array Value:=#[.slice none 0 0,.int .i64 0,.int .u64 d.state]
abbrev Dr.Plain (d:Dr):Prop:=d.first=[]/\d.no=false
theorem rd_next (p:Nat) (d:Dr) (hd:d.Plain) (w0 w:World) (R:HP) (h:St w0 w (blk p (.cells d.rcells TRd (0,0))*R)) :
  Calls Tryz.prog 199 #[ptr p] w fun e w'=>e=.returned (.int .i64 d.next.2)/\St w0 w' (blk p (.cells d.next.1.rcells TRd (0,0))*R)/\d.next.1.Plain:=by
 obtain⟨no,L,st⟩:=d;obtain⟨h1,h2⟩:=hd;simp only[] at h1 h2;subst h1 h2;unfold Dr.next;rw[if_neg (show ¬ false=true by decide)];have c:=h.cell;have f:=h.free;obtain⟨S,hS⟩:∃ S,IntKind.u64.wrap (IntKind.u64.wrap (st*6364136223846793005)+1442695040888963407)=S:=⟨_,rfl⟩;obtain⟨s0,s1⟩:=u64_range (IntKind.u64.wrap (st*6364136223846793005)+1442695040888963407);rw[hS] at s0 s1;simp only[hS];have hS2:IntKind.u64.wrap (IntKind.u64.wrap (6364136223846793005*st)+1442695040888963407)=S:=by rw[Int.mul_comm];exact hS
 have wq:IntKind.i64.wrap (S / 281474976710656)=S / 281474976710656:=by rw[IntKind.wrap_i64];omega
 have tq:Int.tdiv S 281474976710656=S / 281474976710656:=Int.tdiv_eq_ediv_of_nonneg s0;have uq:IntKind.u64.wrap (S / 281474976710656)=S / 281474976710656:=by
  show (S / 281474976710656) % 18446744073709551616=_
  omega
 obtain⟨X,hX⟩:∃ X,S / 281474976710656=X:=⟨_,rfl⟩;rw[hX] at wq tq uq ⊢;clear hS;go_enter Tryz.func199,Tryz.ntmps199
 go_upto_region 1 with fail
 go_quiet (fail)
 have h1:=(h.drewN nq).set 2 (.int .u64 S);go_upto_region 5 with fail
 generalize (w.drewN nq).setCell _ _=w2 at *;clear c f h;have c:=h1.cell;go_wp2;go_ret
 exact⟨rfl,h1,rfl,rfl⟩
abbrev Us.rcells (x:Us) (p:Nat) (ov:Value):Array Value:=#[.int .i64 x.most,.int .i64 x.v.tei,.bool x.v.asking,.int .i64 x.v.ri,.int .i64 x.v.tries,ptr p,ov]
def RuAt (u:Nat) (x:Us) (o:List Ue):HP:=hex fun z:Nat × Value =>
 blk u (.cells (x.rcells z.1 z.2) TRu (0,0))*(LAt TRue 5 Ue.cells z.2 o*(blk z.1 (.cells x.d.rcells TRd (0,0))*fact x.d.Plain))
section
variable {w0 w:World} {R:HP} {u:Nat} {x:Us} {o:List Ue}
theorem St.ru_open (h:St w0 w (RuAt u x o*R)):∃ p ov,x.d.Plain/\St w0 w (blk u (.cells (x.rcells p ov) TRu (0,0))*(LAt TRue 5 Ue.cells ov o*(blk p (.cells x.d.rcells TRd (0,0))*R))):=by
 obtain⟨⟨p,ov⟩,h⟩:=h.ex;obtain⟨hf,h⟩:=(h.eq (show _=fact x.d.Plain*(blk u (.cells (x.rcells p ov) TRu (0,0))*(LAt TRue 5 Ue.cells ov o*(blk p (.cells x.d.rcells TRd (0,0))*R))) by ac_rfl)).out;exact⟨p,ov,hf,h⟩
theorem St.ru_shut {p:Nat} {ov:Value} {c d:Array Value} {o':List Ue} (h:St w0 w (blk u (.cells c TRu (0,0))*(LAt TRue 5 Ue.cells ov o'*(blk p (.cells d TRd (0,0))*R)))) (hc:c=x.rcells p ov) (hd:d=x.d.rcells) (hp:x.d.Plain) (ho:o'=o):St w0 w (RuAt u x o*R):=by
 subst hc hd ho;exact St.mk_ex (p,ov) ((h.inn hp).eq (by ac_rfl))
theorem St.ru_none (h:St w0 w (RuAt u x o*R)):St w0 (w.setCell ⟨u,6,none⟩ (.slice none 0 0)) (RuAt u x []*R):=by
 obtain⟨p,ov,hp,h1⟩:=h.ru_open;have h2:=(h1.set 6 (.slice none 0 0)).l_nil TRue 5 Ue.cells;have h3:=h2.eq (show _=blk u (.cells ((x.rcells p ov).setIfInBounds 6 (.slice none 0 0)) TRu (0,0))*(LAt TRue 5 Ue.cells (.slice none 0 0) []*(blk p (.cells x.d.rcells TRd (0,0))*(LAt TRue 5 Ue.cells ov o*R))) by ac_rfl);exact (h3.ru_shut (x:=x) rfl rfl hp rfl).f2.drop
theorem St.ru_cell (h:St w0 w (RuAt u x o*R)):w.cell? ⟨u,0,none⟩=some (.int .i64 x.most)/\w.cell? ⟨u,1,none⟩=some (.int .i64 x.v.tei)/\w.cell? ⟨u,2,none⟩=some (.bool x.v.asking)/\w.cell? ⟨u,3,none⟩=some (.int .i64 x.v.ri)/\w.cell? ⟨u,4,none⟩=some (.int .i64 x.v.tries)/\(∃ v,w.cell? ⟨u,6,none⟩=some v)/\∀ i,w.frozen? ⟨u,i,none⟩=false:=by
 obtain⟨p,ov,hp,h1⟩:=h.ru_open;exact⟨h1.cell 0,h1.cell 1,h1.cell 2,h1.cell 3,h1.cell 4,⟨ov,h1.cell 6⟩,h1.free⟩
end
theorem ru_say (u:Nat) (x:Us) (o:List Ue) (t r a:Int) (hl:o.length<=1000) (w0 w:World) (R:HP) (h:St w0 w (RuAt u x o*R)) :
  Calls Tryz.prog 200 #[ptr u,.int .i64 t,.int .i64 r,.int .i64 a] w fun e w'=>e=.returned (.tuple #[])/\St w0 w' (RuAt u x (o++[Ue.say t r a])*R):=by
 obtain⟨p,ov,hp,h1⟩:=h.ru_open;have hA0:=(h1.alloc (.cells (Ue.say t r a).cells.toArray TRue)).drop;have hA:=hA0.f2;have c:=h1.cell;clear h h1 hA0;go_enter Tryz.func200,Tryz.ntmps200
 go_wp2_with (at_builtin;refine wp_append_elem rfl (.tmp 12) (.tmp 18) rfl tyRue hA (Ue.say t r a) rfl _ rfl (new_cells _ (Ue.say t r a).cells _ _ (by simp)) (by omega) ?ha;(case' ha=>(intro g off cap w8 h8;have c8:=h8.f2.cell;have f8:=h8.f2.free)))
 go_end0
 exact⟨rfl,(h8.f2.set 6 (.slice (some ⟨g,off,none⟩) (o.length+1) cap)).ru_shut (x:=x) rfl rfl hp rfl⟩
theorem ru_tell (u:Nat) (x:Us) (o:List Ue) (k t:Int) (hl:o.length<=1000) (w0 w:World) (R:HP) (h:St w0 w (RuAt u x o*R)) :
  Calls Tryz.prog 196 #[ptr u,.int .i64 k,.int .i64 t] w fun e w'=>e=.returned (.tuple #[])/\St w0 w' (RuAt u x (o++[Ue.of k t])*R):=by
 obtain⟨p,ov,hp,h1⟩:=h.ru_open;have hA0:=(h1.alloc (.cells (Ue.of k t).cells.toArray TRue)).drop;have hA:=hA0.f2;have c:=h1.cell;clear h h1 hA0;go_enter Tryz.func196,Tryz.ntmps196
 go_wp2_with (at_builtin;refine wp_append_elem rfl (.tmp 10) (.tmp 14) rfl tyRue hA (Ue.of k t) rfl _ rfl (new_cells _ (Ue.of k t).cells _ _ (by simp)) (by omega) ?ha;(case' ha=>(intro g off cap w8 h8;have c8:=h8.f2.cell;have f8:=h8.f2.free)))
 go_end0
 exact⟨rfl,(h8.f2.set 6 (.slice (some ⟨g,off,none⟩) (o.length+1) cap)).ru_shut (x:=x) rfl rfl hp rfl⟩
theorem ru_idle (u:Nat) (x:Us) (o:List Ue) (w0 w:World) (R:HP) (h:St w0 w (RuAt u x o*R)) :
  Calls Tryz.prog 197 #[ptr u] w fun e w'=>e=.returned (.tuple #[])/\St w0 w' (RuAt u ⟨⟨x.v.tei,false,0,0⟩,x.most,x.d⟩ o*R):=by
 obtain⟨p,ov,hp,h1⟩:=h.ru_open;have c:=h1.cell;have f:=h1.free;have h2:=((h1.set 2 (.bool false)).set 3 (.int .i64 0)).set 4 (.int .i64 0);clear h h1;go_enter Tryz.func197,Tryz.ntmps197
 go_wp2;go_end0
 exact⟨rfl,h2.ru_shut (x:=⟨⟨x.v.tei,false,0,0⟩,x.most,x.d⟩) rfl rfl hp rfl⟩
theorem ru_ask (u:Nat) (x:Us) (o:List Ue) (hl:o.length<=100) (w0 w:World) (R:HP) (h:St w0 w (RuAt u x o*R)) :
  Calls Tryz.prog 176 #[ptr u] w fun e w'=>e=.returned (.tuple #[])/\St w0 w' (RuAt u ⟨⟨x.v.tei,true,x.d.next.2,x.v.tries⟩,x.most,x.d.next.1⟩ (o++[.say 1 x.d.next.2 127,.of 4 0])*R):=by
 obtain⟨p,ov,hp,h1⟩:=h.ru_open;obtain⟨⟨a1,a2,a3,a4⟩,m,d⟩:=x;simp only[] at *;have hn:=fun w R h=>rd_next p d hp w0 w R h
 generalize d.next=D at *;obtain⟨d',n⟩:=D;simp only[] at *;have c:=h1.cell;have f:=h1.free;go_enter Tryz.func176,Tryz.ntmps176
 go_upto_region 1 with fail
 have h2:=h1.set 2 (.bool true);generalize w.setCell _ _=wa at *;clear c f h h1;have c:=h2.cell;have f:=h2.free;have hn:=hn wa _ h2.f3;go_upto_region 2 with (go_at_call 199;refine hn.mono ?_;rintro e w1 ⟨rfl,h3,hp2⟩;have c3:=h3.b3.cell;have f3:=h3.b3.free)
 have h4:=h3.b3.set 3 (.int .i64 n);generalize w1.setCell _ _=wb at *;clear c f hn h2 h3 c3 f3;have h5:St w0 wb (RuAt u ⟨⟨a1,true,n,a4⟩,m,d'⟩ o*R):=h4.ru_shut (x:=⟨⟨a1,true,n,a4⟩,m,d'⟩) rfl rfl hp2 rfl;have c:=h4.cell;clear h4;go_wp2_with fail
 refine (ru_say u _ o 1 n 127 (by omega) w0 _ _ h5).mono ?_
 rintro e w2 ⟨rfl,h6⟩;clear c h5;go_wp2_with fail
 refine (ru_tell u _ _ 4 0 (by simp;omega) w0 _ _ h6).mono ?_
 rintro e w3 ⟨rfl,h7⟩;go_wp2;go_end0
 refine⟨rfl,?_⟩
 rw[List.append_assoc] at h7;exact h7
theorem ru_lose (u:Nat) (x:Us) (o:List Ue) (hl:o.length<=100) (w0 w:World) (R:HP) (h:St w0 w (RuAt u x o*R)) :
  Calls Tryz.prog 198 #[ptr u] w fun e w'=>e=.returned (.tuple #[])/\St w0 w' (RuAt u ⟨⟨-1,x.v.asking,x.v.ri,x.v.tries⟩,x.most,x.d⟩ (o++[.of 2 x.v.tei])*R):=by
 have ht:=ru_tell u x o 2 x.v.tei (by omega) w0 w R h;obtain⟨_,c1,_⟩:=h.ru_cell;go_enter Tryz.func198,Tryz.ntmps198
 go_wp2_with fail
 refine ht.mono ?_
 rintro e w1 ⟨rfl,h2⟩;obtain⟨p,ov,hp,h3⟩:=h2.ru_open;have c:=h3.cell;have f:=h3.free;have h4:=h3.set 1 (.int .i64 (-1));clear h h2 ht c1 h3;go_wp2;go_end0
 exact⟨rfl,h4.ru_shut (x:=⟨⟨-1,x.v.asking,x.v.ri,x.v.tries⟩,x.most,x.d⟩) rfl rfl hp rfl⟩
structure Us.Tidy (x:Us):Prop where
 tei:x.v.tei= -1\/(64<=x.v.tei/\x.v.tei<=126)
 ask:x.v.asking=true->x.v.tei= -1
 idle:x.v.asking=false->x.v.ri=0/\x.v.tries=0
 tr:0<=x.v.tries/\x.v.tries<=32
 m32:x.most<=32
theorem Us.Tidy.neg {x:Us} (h:x.Tidy):decide (0<=x.v.tei)=(x.v.tei != -1):=by
 rcases h.tei with e | e
 ·rw[e];rfl
 ·have h1:decide (0<=x.v.tei)=true:=by simp;omega
  have h2:(x.v.tei != -1)=true:=by simp;omega
  rw[h1,h2]
theorem Us.Tidy.gone {x:Us} (h:x.Tidy) (ht:x.v.tei≠ -1):(⟨⟨-1,x.v.asking,x.v.ri,x.v.tries⟩,x.most,x.d⟩:Us)=x.lose.1:=by
 have hf:x.v.asking=false:=by
  cases e:x.v.asking with
  | false=>rfl
  | true=>exact absurd (h.ask e) ht
 obtain⟨e1,e2⟩:=h.idle hf;rw[hf,e1,e2];rfl
theorem Us.Tidy.quiet {x:Us} (h:x.Tidy) (ha:x.v.asking=true):(⟨⟨x.v.tei,false,0,0⟩,x.most,x.d⟩:Us)={ x with v:=.zero }:=by rw[h.ask ha]
theorem ru_want (u:Nat) (x:Us) (o:List Ue) (ok:x.Tidy) (w0 w:World) (R:HP) (h:St w0 w (RuAt u x o*R)) :
  Calls Tryz.prog 100 #[ptr u] w fun e w'=>e=.returned (.int .i64 x.want.2.2)/\St w0 w' (RuAt u x.want.1 x.want.2.1*R):=by
 have hn:=ok.neg;have hask:=ok.ask;have hid:=ok.idle;unfold Us.want Us.ask;have hra:=fun w h=>ru_ask u ⟨⟨x.v.tei,x.v.asking,x.v.ri,1⟩,x.most,x.d⟩ [] (by simp) w0 w R h
 obtain⟨⟨a1,a2,a3,a4⟩,mo,d⟩:=x;simp only[] at *;by_cases e1:a1= -1
 ·subst e1
  rw[if_neg (fun h=>h rfl)];clear hn hask;cases a2 with
  | true =>
    rw[if_pos rfl];clear hra hid;obtain⟨q0,q1,q2,q3,q4,⟨ov,q6⟩,qf⟩:=h.ru_cell;go_enter Tryz.func100,Tryz.ntmps100
    go_upto_region 2 with fail
    have h2:=h.ru_none;generalize w.setCell _ _=wa at *;clear q0 q1 q2 q3 q4 q6 qf h;obtain⟨q0,q1,q2,q3,q4,⟨ov2,q6⟩,qf⟩:=h2.ru_cell;go_wp2;go_ret
    exact⟨rfl,h2⟩
  | false =>
    rw[if_neg (by decide)];clear hid;obtain⟨q0,q1,q2,q3,q4,⟨ov,q6⟩,qf⟩:=h.ru_cell;go_enter Tryz.func100,Tryz.ntmps100
    go_upto_region 2 with fail
    have h2:=h.ru_none;generalize w.setCell _ _=wa at *;clear q0 q1 q2 q3 q4 q6 qf h;obtain⟨q0,q1,q2,q3,q4,⟨ov2,q6⟩,qf⟩:=h2.ru_cell;go_upto_region 7 with fail
    obtain⟨p,ov3,hp,h3⟩:=h2.ru_open;have h4:St w0 _ (RuAt u ⟨⟨-1,false,a3,1⟩,mo,d⟩ []*R):=(h3.set 4 (.int .i64 1)).ru_shut (x:=⟨⟨-1,false,a3,1⟩,mo,d⟩) rfl rfl hp rfl;generalize wa.setCell _ _=wb at *;clear q0 q1 q2 q3 q4 q6 qf h2 h3;go_wp2_with fail
    refine (hra _ h4).mono ?_
    rintro e w2 ⟨rfl,h5⟩;clear hra h4;go_wp2;go_ret
    exact⟨rfl,h5⟩
 ·rw[if_pos e1]
  have b1:(a1 != -1)=true:=by simp[e1]
  rw[b1] at hn;have b2:0<=a1:=by simpa using hn
  clear hra hask hid b1 e1;obtain⟨q0,q1,q2,q3,q4,⟨ov,q6⟩,qf⟩:=h.ru_cell;go_enter Tryz.func100,Tryz.ntmps100
  go_upto_region 2 with fail
  have h2:=h.ru_none;generalize w.setCell _ _=wa at *;clear q0 q1 q2 q3 q4 q6 qf h;obtain⟨q0,q1,q2,q3,q4,⟨ov2,q6⟩,qf⟩:=h2.ru_cell;go_wp2;go_ret
  exact⟨rfl,h2⟩
theorem ru_drop (u:Nat) (x:Us) (o:List Ue) (ok:x.Tidy) (w0 w:World) (R:HP) (h:St w0 w (RuAt u x o*R)) :
  Calls Tryz.prog 140 #[ptr u] w fun e w'=>e=.returned (.int .i64 x.drop.2.2)/\St w0 w' (RuAt u x.drop.1 x.drop.2.1*R):=by
 have hn:=ok.neg;have hg:=ok.gone;have hq:=ok.quiet;have ht:=fun w h=>ru_tell u x [] 5 0 (by simp) w0 w R h
 have hi:=fun w h=>ru_idle u x [Ue.of 5 0] w0 w R h
 have hl:=fun w h=>ru_lose u x [] (by simp) w0 w R h
 unfold Us.drop;cases ha:x.v.asking with
 | true =>
   rw[if_pos rfl,← hq ha];clear hn hg hq hl;obtain⟨⟨a1,a2,a3,a4⟩,mo,d⟩:=x;simp only[] at *;subst ha;obtain⟨q0,q1,q2,q3,q4,⟨ov,q6⟩,qf⟩:=h.ru_cell;go_enter Tryz.func140,Tryz.ntmps140
   go_upto_region 2 with fail
   have h2:=h.ru_none;generalize w.setCell _ _=wa at *;clear q0 q1 q2 q3 q4 q6 qf h;obtain⟨q0,q1,q2,q3,q4,⟨ov2,q6⟩,qf⟩:=h2.ru_cell;go_wp2_with fail
   refine (ht _ h2).mono ?_
   rintro e w1 ⟨rfl,h3⟩;clear ht h2 q0 q1 q2 q3 q4 q6 qf;go_wp2_with fail
   refine (hi _ h3).mono ?_
   rintro e w2 ⟨rfl,h4⟩;clear hi h3;go_wp2;go_ret
   exact⟨rfl,h4⟩
 | false =>
   rw[if_neg (by decide)];clear ht hi hq;by_cases e1:x.v.tei= -1
   ·rw[if_pos e1]
    clear hl hg hn;obtain⟨⟨a1,a2,a3,a4⟩,mo,d⟩:=x;simp only[] at *;subst ha e1;obtain⟨q0,q1,q2,q3,q4,⟨ov,q6⟩,qf⟩:=h.ru_cell;go_enter Tryz.func140,Tryz.ntmps140
    go_upto_region 2 with fail
    have h2:=h.ru_none;generalize w.setCell _ _=wa at *;clear q0 q1 q2 q3 q4 q6 qf h;obtain⟨q0,q1,q2,q3,q4,⟨ov2,q6⟩,qf⟩:=h2.ru_cell;go_wp2;go_ret
    exact⟨rfl,h2⟩
   ·rw[if_neg e1]
    have b1:(x.v.tei != -1)=true:=by simp[e1]
    rw[b1] at hn;have b2:0<=x.v.tei:=by simpa using hn
    rw[← hg e1];unfold Us.lose;clear hg hn b1 e1;obtain⟨⟨a1,a2,a3,a4⟩,mo,d⟩:=x;simp only[] at *;subst ha;obtain⟨q0,q1,q2,q3,q4,⟨ov,q6⟩,qf⟩:=h.ru_cell;go_enter Tryz.func140,Tryz.ntmps140
    go_upto_region 2 with fail
    have h2:=h.ru_none;generalize w.setCell _ _=wa at *;clear q0 q1 q2 q3 q4 q6 qf h;obtain⟨q0,q1,q2,q3,q4,⟨ov2,q6⟩,qf⟩:=h2.ru_cell;go_wp2_with fail
    refine (hl _ h2).mono ?_
    rintro e w1 ⟨rfl,h3⟩;clear hl h2 q0 q1 q2 q3 q4 q6 qf;go_wp2;go_ret
    exact⟨rfl,h3⟩
theorem ru_timeout (u:Nat) (x:Us) (o:List Ue) (ok:x.Tidy) (w0 w:World) (R:HP) (h:St w0 w (RuAt u x o*R)) :
  Calls Tryz.prog 138 #[ptr u] w fun e w'=>e=.returned (.tuple #[])/\St w0 w' (RuAt u x.timeout.1 x.timeout.2*R):=by
 have hq:=ok.quiet;have hask:=ok.ask;have htr:=ok.tr;have hi:=fun w h=>ru_idle u x [] w0 w R h
 have ht:=fun w h=>ru_tell u ⟨⟨x.v.tei,false,0,0⟩,x.most,x.d⟩ [] 3 0 (by simp) w0 w R h
 have hra:=fun w h=>ru_ask u ⟨⟨x.v.tei,x.v.asking,x.v.ri,x.v.tries+1⟩,x.most,x.d⟩ [] (by simp) w0 w R h
 unfold Us.timeout;cases ha:x.v.asking with
 | false =>
   rw[if_pos rfl];clear hq hi ht hra hask htr;obtain⟨⟨a1,a2,a3,a4⟩,mo,d⟩:=x;simp only[] at *;subst ha;obtain⟨q0,q1,q2,q3,q4,⟨ov,q6⟩,qf⟩:=h.ru_cell;go_enter Tryz.func138,Tryz.ntmps138
   go_upto_region 1 with fail
   have h2:=h.ru_none;generalize w.setCell _ _=wa at *;clear q0 q1 q2 q3 q4 q6 qf h;obtain⟨q0,q1,q2,q3,q4,⟨ov2,q6⟩,qf⟩:=h2.ru_cell;go_wp2;refine bodyPost_ret (v:=.tuple #[]) (by simp[results,Tryz.results138,go_sem]) rfl ?_
   exact⟨rfl,h2⟩
 | true =>
   rw[if_neg (by decide)];by_cases e1:x.v.tries=x.most
   ·rw[if_pos e1,← hq ha]
    have b1:(x.v.tries == x.most)=true:=by simp[e1]
    clear hq hra hask htr e1;obtain⟨⟨a1,a2,a3,a4⟩,mo,d⟩:=x;simp only[] at *;subst ha;obtain⟨q0,q1,q2,q3,q4,⟨ov,q6⟩,qf⟩:=h.ru_cell;go_enter Tryz.func138,Tryz.ntmps138
    go_upto_region 1 with fail
    have h2:=h.ru_none;generalize w.setCell _ _=wa at *;clear q0 q1 q2 q3 q4 q6 qf h;obtain⟨q0,q1,q2,q3,q4,⟨ov2,q6⟩,qf⟩:=h2.ru_cell;go_upto_region 2 with fail
    go_quiet (fail)
    have h2:=h2.drewN nq;go_wp2_with fail
    refine (hi _ h2).mono ?_
    rintro e w2 ⟨rfl,h3⟩;clear hi q0 q1 q2 q3 q4 q6 qf h2;go_wp2_with fail
    refine (ht _ h3).mono ?_
    rintro e w3 ⟨rfl,h4⟩;clear ht h3;go_wp2;refine bodyPost_ret (v:=.tuple #[]) (by simp[results,Tryz.results138,go_sem]) rfl ?_
    exact⟨rfl,h4⟩
   ·rw[if_neg e1]
    have b1:(x.v.tries == x.most)=false:=by simp[e1]
    unfold Us.ask;have h1:=hask ha;clear hq hi ht hask e1;obtain⟨⟨a1,a2,a3,a4⟩,mo,d⟩:=x;simp only[] at *;subst ha h1;obtain⟨t4,ht4⟩:∃ t4,a4+1=t4:=⟨_,rfl⟩;rw[ht4] at hra ⊢;obtain⟨q0,q1,q2,q3,q4,⟨ov,q6⟩,qf⟩:=h.ru_cell;go_enter Tryz.func138,Tryz.ntmps138
    go_upto_region 1 with fail
    have h2:=h.ru_none;generalize w.setCell _ _=wa at *;clear q0 q1 q2 q3 q4 q6 qf h;obtain⟨q0,q1,q2,q3,q4,⟨ov2,q6⟩,qf⟩:=h2.ru_cell;go_upto_region 2 with fail
    go_quiet (fail)
    have h2:=h2.drewN nq;go_upto_region 6 with fail
    obtain⟨p,ov3,hp,h3⟩:=h2.ru_open;have h4:St w0 _ (RuAt u ⟨⟨-1,true,a3,t4⟩,mo,d⟩ []*R):=(h3.set 4 (.int .i64 t4)).ru_shut (x:=⟨⟨-1,true,a3,t4⟩,mo,d⟩) rfl rfl hp rfl;generalize (wa.drewN nq).setCell _ _=wb at *;clear q0 q1 q2 q3 q4 q6 qf h2 h3;go_wp2_with fail
    refine (hra _ h4).mono ?_
    rintro e w2 ⟨rfl,h5⟩;clear hra h4;go_wp2;go_end0
    exact⟨rfl,h5⟩
end Go.Proofs.YtnnahljdhdippaaGreatDoor
