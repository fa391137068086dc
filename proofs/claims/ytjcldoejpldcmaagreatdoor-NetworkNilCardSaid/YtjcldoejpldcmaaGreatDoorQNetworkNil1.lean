/- Parts of a proof (WNetworkNil). No condition. -/
import Derived.Test.YtjcldoejpldcmaaGreatDoorC28
namespace Go.Proofs.YtjcldoejpldcmaaGreatDoor
set_option maxRecDepth 100000
set_option maxHeartbeats 6400000
open Go.RowKit
theorem NetworkNil.walk (a0:Array Value) (w:World) (hN:NamesAt w) (hF:FirstAt w) (hL:LinkAt w) (w0:Sh.ok w anSh a0.toList) :
  Calls Tryz.prog 7 #[.agg a0] w fun e w'=>e=.returned (.bool true)/\Below w.heap.size w w':=by
 obtain⟨a,ha,wf⟩:=an_of w0;obtain rfl:a0=a.cells.toArray:=by rw[← ha]
 obtain⟨Do,ask,tei,later,data,fa,fn,fc,near,N,M,raw⟩:=a;have hO:∀ w',St w w' (Old w)->NamesAt w':=fun w' h=>hN.old h.old0 hN.pos
 have hO2:∀ w',St w w' (Old w)->FirstAt w':=fun w' h=>hF.old h.old0 hF.pos
 have hO3:∀ w',St w w' (Old w)->LinkAt w':=fun w' h=>hL.old h.old0 hL.pos
 have h2:=((St.start w).alloc (.cells (AcN.cells ⟨Do,ask,tei,later,data,fa,fn,fc,near,N,M,raw⟩).toArray TAcN));clear w0 ha wf hN hF hL;have d:=h2.cell;go_enter Tryz.func7,Tryz.ntmps7
 go_upto_region 1 with fail
 generalize w.alloc _=wa at *;generalize w.heap.size=ga at *;go_wp2_with fail
 refine (nn_ask _ _ _ _ w wa _ h2).mono ?_
 rintro r wb ⟨rfl,hb⟩;have h3:=hb.alloc (.cells #[.slice none 0 0,.slice none 0 0] TNRes);clear d h2 hb;go_upto_region 3 with fail
 generalize wb.alloc _=w1 at *;generalize wb.heap.size=g1 at *;have d:=h3.f2.cell;go_wp2_with fail
 refine (nn_bits _ _ w w1 _ h3).mono ?_
 rintro r wb ⟨rfl,hb⟩;have h4:=hb.alloc (.cells #[.slice none 0 0,.slice none 0 0] TNRes);clear d h3 hb;go_upto_region 4 with fail
 generalize wb.alloc _=w2 at *;generalize wb.heap.size=g2 at *;have d:=h4.f3.cell;go_wp2_with fail
 refine (nn_tick _ w w2 _ h4).mono ?_
 rintro r wb ⟨rfl,hb⟩;have h5:=hb.alloc (.cells #[.slice none 0 0,.slice none 0 0] TNRes);clear d h4 hb;go_upto_region 5 with fail
 generalize wb.alloc _=w3 at *;generalize wb.heap.size=g3 at *;have d:=h5.f4.cell;go_wp2_with fail
 refine (nn_audit _ w w3 _ h5).mono ?_
 rintro r wb ⟨rfl,hb⟩;have h6:=hb.alloc (.cells #[.slice none 0 0,.slice none 0 0] TNRes);clear d h5 hb;go_upto_region 6 with fail
 generalize wb.alloc _=w4 at *;generalize wb.heap.size=g4 at *;have d:=h6.f5.cell;go_wp2_with fail
 refine (nn_remove _ _ w w4 _ h6).mono ?_
 rintro r wb ⟨rfl,hb⟩;have h7:=hb.alloc (.cells #[.slice none 0 0,.slice none 0 0] TNRes);clear d h6 hb;go_upto_region 7 with fail
 generalize wb.alloc _=w5 at *;generalize wb.heap.size=g5 at *;go_upto_region 8 with (go_at_call 16;refine (nn_next _).mono ?_;rintro r w' ⟨rfl,rfl⟩)
 have h8:=h7.drop;have d:=h8.f5.cell;go_wp2_with fail
 refine (nn_link tei w w5 _ h8).mono ?_
 rintro r wb ⟨rfl,hb⟩;have h9:=hb.alloc (.cells zeroView TVw);clear d h7 h8 hb;go_upto_region 9 with fail
 generalize wb.alloc _=w6 at *;generalize wb.heap.size=g6 at *;have hk:=nw_wakes w w6 _ (fun w' h=>hO w' h.drop.drop.drop.drop.drop.drop) (fun w' h=>hO2 w' h.drop.drop.drop.drop.drop.drop) (fun w' h=>hO3 w' h.drop.drop.drop.drop.drop.drop) h9;go_wp2_with fail
 refine hk.mono ?_
 rintro r w7 ⟨rfl,h10⟩;clear hk h9;go_wp2_with fail
 refine (nn_list _).mono ?_
 rintro r w' ⟨rfl,rfl⟩;go_wp2;go_ret
 exact⟨rfl,h10.drop.drop.drop.drop.drop.drop.old0⟩
end Go.Proofs.YtjcldoejpldcmaaGreatDoor
