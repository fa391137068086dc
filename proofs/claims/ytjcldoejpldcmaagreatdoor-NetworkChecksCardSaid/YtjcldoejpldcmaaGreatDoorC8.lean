/- Parts of a proof (EntX, EntOkB). No condition. -/
import Derived.Test.YtjcldoejpldcmaaGreatDoorC7
import Derived.Test.YtjcldoejpldcmaaGreatDoorC6
namespace Go.Proofs.YtjcldoejpldcmaaGreatDoor
set_option maxRecDepth 100000
set_option maxHeartbeats 6400000
open Go.RowKit
def En.view (x:En):Array Value:=#[.int .i64 x.state,.int .i64 x.tei,.int .i64 x.tries,.bool x.asked,.bool x.t2,.bool x.t3,.int .i64 x.units.length,.int .i64 x.fl.vs,.int .i64 x.fl.va,.int .i64 x.fl.vr,.bool x.fl.peer,.bool x.fl.own,.bool x.fl.refused,.int .i64 x.fl.q.sent,.int .i64 ((x.fl.q.l.length:Int) - x.fl.q.sent)]
abbrev zeroView:Array Value:=#[.int .i64 0,.int .i64 0,.int .i64 0,.bool false,.bool false,.bool false,.int .i64 0,.int .i64 0,.int .i64 0,.int .i64 0,.bool false,.bool false,.bool false,.int .i64 0,.int .i64 0]
theorem St.e_lt {w0 w:World} {R:HP} {e:Nat} {x:En} (h:St w0 w (EnAt e x*R)):e<w.heap.size:=by
 obtain⟨rm,fp,uv,ov,rl,hr,h1⟩:=h.e_open;exact h1.lt
theorem St.f6 {w0 w:World} {A B C D E F R:HP} (h:St w0 w (A*(B*(C*(D*(E*(F*R))))))):St w0 w (F*(A*(B*(C*(D*(E*R)))))):=h.eq (by ac_rfl)
structure Shows (w:World) (e rm fp n uc:Nat) (ua:Option Addr) (state tei tries:Int) (asked t2 t3:Bool):Prop where
 k1:w.cell? ⟨e,1,none⟩=some (.int .i64 state)
 k2:w.cell? ⟨e,2,none⟩=some (.int .i64 tei)
 k3:w.cell? ⟨e,3,none⟩=some (.int .i64 tries)
 k4:w.cell? ⟨e,4,none⟩=some (.bool asked)
 k5:w.cell? ⟨e,5,none⟩=some (.map (some rm))
 k6:w.cell? ⟨e,6,none⟩=some (.slice ua n uc)
 k7:w.cell? ⟨e,7,none⟩=some (ptr fp)
 b2:(Instr.lookup 192 (.map (some rm)) (.int .i64 200) false).run Tryz.prog w=.ok (.bool t2) w
 b3:(Instr.lookup 192 (.map (some rm)) (.int .i64 203) false).run Tryz.prog w=.ok (.bool t3) w
theorem Shows.mk' {w0 w:World} {R A:HP} {e rm fp n uc:Nat} {ua:Option Addr} {most state tei tries:Int} {asked t2 t3:Bool} {ov:Value} {rl:BM} (r2:bOf rl 200=t2) (r3:bOf rl 203=t3)
  (h:St w0 w (blk e (.cells #[.int .i64 most,.int .i64 state,.int .i64 tei,.int .i64 tries,.bool asked,.map (some rm),.slice ua n uc,ptr fp,ov] TEn (0,0))*(A*(MAt kInt vBool rm rl*R)))):Shows w e rm fp n uc ua state tei tries asked t2 t3:=by
 have b2:=h.f3.bm 200 (kok _ (by omega) (by omega));have b3:=h.f3.bm 203 (kok _ (by omega) (by omega));rw[r2] at b2;rw[r3] at b3;exact⟨h.cell 1,h.cell 2,h.cell 3,h.cell 4,h.cell 5,h.cell 6,h.cell 7,b2,b3⟩
theorem view_set (v0 v1 v2 v3 v4 v5 v6 v7 v8 v9 v10 v11 v12 v13 v14:Value):(((((((((((((((zeroView.setIfInBounds 0 v0).setIfInBounds 1 v1).setIfInBounds 2 v2).setIfInBounds 3 v3).setIfInBounds 4 v4).setIfInBounds 5 v5).setIfInBounds 6 v6).setIfInBounds 7 v7).setIfInBounds 8 v8).setIfInBounds 9 v9).setIfInBounds 10 v10).setIfInBounds 11 v11).setIfInBounds 12 v12).setIfInBounds 13 v13).setIfInBounds 14 v14)=#[v0,v1,v2,v3,v4,v5,v6,v7,v8,v9,v10,v11,v12,v13,v14]:=by kernel_rfl
theorem view_stored {w0 w6:World} {R:HP} {e rm fp n uc ga:Nat} {ua:Option Addr} {most state tei tries:Int} {asked t2 t3:Bool} {ov:Value} {rl:BM} {fl:Fl} {out:List Fx} {us:List Value} (h:St w0 w6 (FAt TF TQ fp fl*(blk e (.cells #[.int .i64 most,.int .i64 state,.int .i64 tei,.int .i64 tries,.bool asked,.map (some rm),.slice ua n uc,ptr fp,ov] TEn (0,0))*(LAt TFx 11 Fx.cells ov out*(MAt kInt vBool rm rl*(Row 9 1 (.slice ua n uc) n us*(blk ga (.cells zeroView 49 (0,0))*R))))))) :
  St w0 (((((((((((((((w6.setCell ⟨ga,0,none⟩ (.int .i64 state)).setCell ⟨ga,1,none⟩ (.int .i64 tei)).setCell ⟨ga,2,none⟩ (.int .i64 tries)).setCell ⟨ga,3,none⟩ (.bool asked)).setCell ⟨ga,4,none⟩ (.bool t2)).setCell ⟨ga,5,none⟩ (.bool t3)).setCell ⟨ga,6,none⟩ (.int .i64 n)).setCell ⟨ga,7,none⟩ (.int .i64 fl.vs)).setCell ⟨ga,8,none⟩ (.int .i64 fl.va)).setCell ⟨ga,9,none⟩ (.int .i64 fl.vr)).setCell ⟨ga,10,none⟩ (.bool fl.peer)).setCell ⟨ga,11,none⟩ (.bool fl.own)).setCell ⟨ga,12,none⟩ (.bool fl.refused)).setCell ⟨ga,13,none⟩ (.int .i64 fl.q.sent)).setCell ⟨ga,14,none⟩ (.int .i64 ((fl.q.l.length:Int) - fl.q.sent))) (blk ga (.cells #[.int .i64 state,.int .i64 tei,.int .i64 tries,.bool asked,.bool t2,.bool t3,.int .i64 n,.int .i64 fl.vs,.int .i64 fl.va,.int .i64 fl.vr,.bool fl.peer,.bool fl.own,.bool fl.refused,.int .i64 fl.q.sent,.int .i64 ((fl.q.l.length:Int) - fl.q.sent)] 49 (0,0))*(FAt TF TQ fp fl*(blk e (.cells #[.int .i64 most,.int .i64 state,.int .i64 tei,.int .i64 tries,.bool asked,.map (some rm),.slice ua n uc,ptr fp,ov] TEn (0,0))*(LAt TFx 11 Fx.cells ov out*(MAt kInt vBool rm rl*(Row 9 1 (.slice ua n uc) n us*R)))))):=by
 have h':=(((((((((((((((h.f6.set 0 (.int .i64 state)).set 1 (.int .i64 tei)).set 2 (.int .i64 tries)).set 3 (.bool asked)).set 4 (.bool t2)).set 5 (.bool t3)).set 6 (.int .i64 n)).set 7 (.int .i64 fl.vs)).set 8 (.int .i64 fl.va)).set 9 (.int .i64 fl.vr)).set 10 (.bool fl.peer)).set 11 (.bool fl.own)).set 12 (.bool fl.refused)).set 13 (.int .i64 fl.q.sent)).set 14 (.int .i64 ((fl.q.l.length:Int) - fl.q.sent)));rw[view_set] at h';exact h'
theorem view_left {w0 w6:World} {R:HP} {e rm fp n uc ga:Nat} {ua:Option Addr} {most state tei tries:Int} {asked:Bool} {ov:Value} {rl:BM} {fl:Fl} {out:List Fx} {us:List Value} {c:Array Value} (h:St w0 w6 (blk ga (.cells c 49 (0,0))*(FAt TF TQ fp fl*(blk e (.cells #[.int .i64 most,.int .i64 state,.int .i64 tei,.int .i64 tries,.bool asked,.map (some rm),.slice ua n uc,ptr fp,ov] TEn (0,0))*(LAt TFx 11 Fx.cells ov out*(MAt kInt vBool rm rl*(Row 9 1 (.slice ua n uc) n us*R))))))):St w0 w6 (blk e (.cells #[.int .i64 most,.int .i64 state,.int .i64 tei,.int .i64 tries,.bool asked,.map (some rm),.slice ua n uc,ptr fp,ov] TEn (0,0))*(LAt TFx 11 Fx.cells ov out*(MAt kInt vBool rm rl*(FAt TF TQ fp fl*(Row 9 1 (.slice ua n uc) n us*R))))):=h.drop.b4
theorem e_view (e:Nat) (x:En) (ok:x.fl.Ok) (w0 w:World) (R:HP) (h:St w0 w (EnAt e x*R)) :
  Calls Tryz.prog 38 #[ptr e] w fun r w'=>r=.returned (.agg x.view)/\St w0 w' (EnAt e x*R):=by
 have ha:=h.alloc (.cells zeroView 49);obtain⟨rm,fp,uv,ov,rl,hr,h1⟩:=ha.f2.e_open;have hne:e≠w.heap.size:=by have:=h.e_lt;omega
 clear ha h;obtain⟨most,state,tei,tries,asked,t2,t3,units,fl,out⟩:=x;simp only[] at *;obtain⟨n,hn⟩:∃ n,units.length=n:=⟨_,rfl⟩;have sh:=h1.f5.row_shape;rw[hn] at sh h1;obtain⟨ua,uc,rfl,un,um⟩:=sh;have r2:bOf rl 200=t2:=hr 200;have r3:bOf rl 203=t3:=hr 203;have hgoal:(⟨most,state,tei,tries,asked,t2,t3,units,fl,out⟩:En).view=#[.int .i64 state,.int .i64 tei,.int .i64 tries,.bool asked,.bool t2,.bool t3,.int .i64 n,.int .i64 fl.vs,.int .i64 fl.va,.int .i64 fl.vr,.bool fl.peer,.bool fl.own,.bool fl.refused,.int .i64 fl.q.sent,.int .i64 ((fl.q.l.length:Int) - fl.q.sent)]:=by rw[← hn];rfl
 rw[hgoal];have fin:∀ w':World,St w0 w' (blk e (.cells #[.int .i64 most,.int .i64 state,.int .i64 tei,.int .i64 tries,.bool asked,.map (some rm),.slice ua n uc,ptr fp,ov] TEn (0,0))*(LAt TFx 11 Fx.cells ov out*(MAt kInt vBool rm rl*(FAt TF TQ fp fl*(Row 9 1 (.slice ua n uc) n (strs units)*R)))))->St w0 w' (EnAt e ⟨most,state,tei,tries,asked,t2,t3,units,fl,out⟩*R):=fun w' h10=>h10.e_shut (x:=⟨most,state,tei,tries,asked,t2,t3,units,fl,out⟩) rfl rfl hr rfl hn.symm rfl
 clear hn hgoal hr;go_enter Tryz.func38,Tryz.ntmps38
 go_upto_region 3 with fail
 generalize w.alloc _=wa at *;generalize w.heap.size=ga at *;obtain⟨k1,k2,k3,k4,k5,k6,k7,b2,b3⟩:=Shows.mk' r2 r3 h1.drew;have hv:=f_view fp fl w0 wa.drew _ h1.f4.drew ok;unfold Fl.view at hv;have arm:∀ w6:World,St w0 w6 (FAt TF TQ fp fl*(blk e (.cells #[.int .i64 most,.int .i64 state,.int .i64 tei,.int .i64 tries,.bool asked,.map (some rm),.slice ua n uc,ptr fp,ov] TEn (0,0))*(LAt TFx 11 Fx.cells ov out*(MAt kInt vBool rm rl*(Row 9 1 (.slice ua n uc) n (strs units)*(blk ga (.cells zeroView 49 (0,0))*R))))))->Shows w6 e rm fp n uc ua state tei tries asked t2 t3/\(∀ i,w6.cell? ⟨ga,i,none⟩=zeroView[i]?)/\(∀ i,w6.frozen? ⟨ga,i,none⟩=false)/\St w0 (((((((((((((((w6.setCell ⟨ga,0,none⟩ (.int .i64 state)).setCell ⟨ga,1,none⟩ (.int .i64 tei)).setCell ⟨ga,2,none⟩ (.int .i64 tries)).setCell ⟨ga,3,none⟩ (.bool asked)).setCell ⟨ga,4,none⟩ (.bool t2)).setCell ⟨ga,5,none⟩ (.bool t3)).setCell ⟨ga,6,none⟩ (.int .i64 n)).setCell ⟨ga,7,none⟩ (.int .i64 fl.vs)).setCell ⟨ga,8,none⟩ (.int .i64 fl.va)).setCell ⟨ga,9,none⟩ (.int .i64 fl.vr)).setCell ⟨ga,10,none⟩ (.bool fl.peer)).setCell ⟨ga,11,none⟩ (.bool fl.own)).setCell ⟨ga,12,none⟩ (.bool fl.refused)).setCell ⟨ga,13,none⟩ (.int .i64 fl.q.sent)).setCell ⟨ga,14,none⟩ (.int .i64 ((fl.q.l.length:Int) - fl.q.sent))) (blk ga (.cells #[.int .i64 state,.int .i64 tei,.int .i64 tries,.bool asked,.bool t2,.bool t3,.int .i64 n,.int .i64 fl.vs,.int .i64 fl.va,.int .i64 fl.vr,.bool fl.peer,.bool fl.own,.bool fl.refused,.int .i64 fl.q.sent,.int .i64 ((fl.q.l.length:Int) - fl.q.sent)] 49 (0,0))*(FAt TF TQ fp fl*(blk e (.cells #[.int .i64 most,.int .i64 state,.int .i64 tei,.int .i64 tries,.bool asked,.map (some rm),.slice ua n uc,ptr fp,ov] TEn (0,0))*(LAt TFx 11 Fx.cells ov out*(MAt kInt vBool rm rl*(Row 9 1 (.slice ua n uc) n (strs units)*R))))))/\Shows (((((((((((((((w6.setCell ⟨ga,0,none⟩ (.int .i64 state)).setCell ⟨ga,1,none⟩ (.int .i64 tei)).setCell ⟨ga,2,none⟩ (.int .i64 tries)).setCell ⟨ga,3,none⟩ (.bool asked)).setCell ⟨ga,4,none⟩ (.bool t2)).setCell ⟨ga,5,none⟩ (.bool t3)).setCell ⟨ga,6,none⟩ (.int .i64 n)).setCell ⟨ga,7,none⟩ (.int .i64 fl.vs)).setCell ⟨ga,8,none⟩ (.int .i64 fl.va)).setCell ⟨ga,9,none⟩ (.int .i64 fl.vr)).setCell ⟨ga,10,none⟩ (.bool fl.peer)).setCell ⟨ga,11,none⟩ (.bool fl.own)).setCell ⟨ga,12,none⟩ (.bool fl.refused)).setCell ⟨ga,13,none⟩ (.int .i64 fl.q.sent)).setCell ⟨ga,14,none⟩ (.int .i64 ((fl.q.l.length:Int) - fl.q.sent))) e rm fp n uc ua state tei tries asked t2 t3:=fun w6 h6=>⟨Shows.mk' r2 r3 h6.b4,h6.f6.cell,h6.f6.free,view_stored h6,Shows.mk' r2 r3 (view_left (view_stored h6))⟩
 clear h1;refine wp_region_held_drew (S:=(fun wx=>wx.cell? ⟨e,1,none⟩=some (.int .i64 state)/\wx.cell? ⟨e,2,none⟩=some (.int .i64 tei)/\wx.cell? ⟨e,3,none⟩=some (.int .i64 tries)/\wx.cell? ⟨e,4,none⟩=some (.bool asked)/\wx.cell? ⟨e,5,none⟩=some (.map (some rm))/\wx.cell? ⟨e,6,none⟩=some (.slice ua n uc)/\wx.cell? ⟨e,7,none⟩=some (ptr fp)/\(Instr.lookup 192 (.map (some rm)) (.int .i64 200) false).run Tryz.prog wx=.ok (.bool t2) wx/\(Instr.lookup 192 (.map (some rm)) (.int .i64 203) false).run Tryz.prog wx=.ok (.bool t3) wx)) (by kernel_rfl) ?_ (fun hHeld=>?_)
 ·with_reducible exact⟨k1,k2,k3,k4,k5,k6,k7,b2,b3⟩
 refine tk 0 ?_ rfl (fun w hSw=>?_) ?_
 rotate_left 1
 ·try dsimp only at hSw
  go_simp
  try with_reducible rfl
 try simp only[Act.put,sl]
 refine tk 1 ?_ rfl (fun w hSw=>?_) ?_
 rotate_left 1
 ·try dsimp only at hSw
  go_simp
  try with_reducible rfl
 try simp only[Act.put,sl]
 refine tk 2 ?_ rfl (fun w hSw=>?_) ?_
 rotate_left 1
 ·try dsimp only at hSw
  go_simp
  try with_reducible rfl
 try simp only[Act.put,sl]
 refine tk 3 ?_ rfl (fun w hSw=>?_) ?_
 rotate_left 1
 ·try dsimp only at hSw
  go_simp
  try with_reducible rfl
 try simp only[Act.put,sl]
 refine tk 4 ?_ rfl (fun w hSw=>?_) ?_
 rotate_left 1
 ·try dsimp only at hSw
  go_simp
  try with_reducible rfl
 try simp only[Act.put,sl]
 refine tk 5 ?_ rfl (fun w hSw=>?_) ?_
 rotate_left 1
 ·try dsimp only at hSw
  go_simp
  try with_reducible rfl
 try simp only[Act.put,sl]
 refine tk 6 ?_ rfl (fun w hSw=>?_) ?_
 rotate_left 1
 ·try dsimp only at hSw
  go_simp
  try with_reducible rfl
 try simp only[Act.put,sl]
 refine tk 7 ?_ rfl (fun w hSw=>?_) ?_
 rotate_left 1
 ·try dsimp only at hSw
  go_simp
  try with_reducible rfl
 try simp only[Act.put,sl]
 refine tk 8 ?_ rfl (fun w hSw=>?_) ?_
 rotate_left 1
 ·try dsimp only at hSw
  go_simp
  try with_reducible rfl
 try simp only[Act.put,sl]
 refine tk 9 ?_ rfl (fun w hSw=>?_) ?_
 rotate_left 1
 ·try dsimp only at hSw
  go_simp
  try with_reducible rfl
 try simp only[Act.put,sl]
 refine tk 10 ?_ rfl (fun w hSw=>?_) ?_
 rotate_left 1
 ·try dsimp only at hSw
  go_simp
  try with_reducible rfl
 try simp only[Act.put,sl]
 refine tk 11 ?_ rfl (fun w hSw=>?_) ?_
 rotate_left 1
 ·try dsimp only at hSw
  go_simp
  try with_reducible rfl
 try simp only[Act.put,sl]
 refine tk 12 ?_ rfl (fun w hSw=>?_) ?_
 rotate_left 1
 ·try dsimp only at hSw
  go_simp
  try with_reducible rfl
 try simp only[Act.put,sl]
 refine tk 13 ?_ rfl (fun w hSw=>?_) ?_
 rotate_left 1
 ·try dsimp only at hSw
  go_simp
  try with_reducible rfl
 try simp only[Act.put,sl]
 refine tk 14 ?_ rfl (fun w hSw=>?_) ?_
 rotate_left 1
 ·try dsimp only at hSw
  go_simp
  try with_reducible rfl
 try simp only[Act.put,sl]
 refine tk 15 ?_ rfl (fun w hSw=>?_) ?_
 rotate_left 1
 ·try dsimp only at hSw
  go_simp
  try with_reducible rfl
 try simp only[Act.put,sl]
 refine tk 16 ?_ rfl (fun w hSw=>?_) ?_
 rotate_left 1
 ·try dsimp only at hSw
  go_simp
  try with_reducible rfl
 try simp only[Act.put,sl]
 refine tk 17 ?_ rfl (fun w hSw=>?_) ?_
 rotate_left 1
 ·try dsimp only at hSw
  go_simp
  try with_reducible rfl
 try simp only[Act.put,sl]
 refine tk 18 ?_ rfl (fun w hSw=>?_) ?_
 rotate_left 1
 ·try dsimp only at hSw
  go_simp
  try with_reducible rfl
 try simp only[Act.put,sl]
 refine tk 19 ?_ rfl (fun w hSw=>?_) ?_
 rotate_left 1
 ·try dsimp only at hSw
  go_simp
  try with_reducible rfl
 try simp only[Act.put,sl]
 refine tk 20 ?_ rfl (fun w hSw=>?_) ?_
 rotate_left 1
 ·try dsimp only at hSw
  go_simp
  try with_reducible rfl
 try simp only[Act.put,sl]
 refine tk 21 ?_ rfl (fun w hSw=>?_) ?_
 rotate_left 1
 ·try dsimp only at hSw
  go_simp
  try with_reducible rfl
 try simp only[Act.put,sl]
 refine tk 22 ?_ rfl (fun w hSw=>?_) ?_
 rotate_left 1
 ·try dsimp only at hSw
  go_simp
  try with_reducible rfl
 try simp only[Act.put,sl]
 refine tk 23 ?_ rfl (fun w hSw=>?_) ?_
 rotate_left 1
 ·try dsimp only at hSw
  go_simp
  try with_reducible rfl
 try simp only[Act.put,sl]
 refine tk 24 ?_ rfl (fun w hSw=>?_) ?_
 rotate_left 1
 ·try dsimp only at hSw
  go_simp
  try with_reducible rfl
 try simp only[Act.put,sl]
 refine tk 25 ?_ rfl (fun w hSw=>?_) ?_
 rotate_left 1
 ·try dsimp only at hSw
  go_simp
  try with_reducible rfl
 try simp only[Act.put,sl]
 refine tk 26 ?_ rfl (fun w hSw=>?_) ?_
 rotate_left 1
 ·try dsimp only at hSw
  go_simp
  try with_reducible rfl
 try simp only[Act.put,sl]
 refine tk 27 ?_ rfl (fun w hSw=>?_) ?_
 rotate_left 1
 ·try dsimp only at hSw
  go_simp
  try with_reducible rfl
 try simp only[Act.put,sl]
 refine tk 28 ?_ rfl (fun w hSw=>?_) ?_
 rotate_left 1
 ·try dsimp only at hSw
  go_simp
  try with_reducible rfl
 try simp only[Act.put,sl]
 refine tk 29 ?_ rfl (fun w hSw=>?_) ?_
 rotate_left 1
 ·try dsimp only at hSw
  go_simp
  try with_reducible rfl
 try simp only[Act.put,sl]
 refine tk 30 ?_ rfl (fun w hSw=>?_) ?_
 rotate_left 1
 ·try dsimp only at hSw
  go_simp
  try with_reducible rfl
 try simp only[Act.put,sl]
 refine tk 31 ?_ rfl (fun w hSw=>?_) ?_
 rotate_left 1
 ·try dsimp only at hSw
  go_simp
  try with_reducible rfl
 try simp only[Act.put,sl]
 refine tk 32 ?_ rfl (fun w hSw=>?_) ?_
 rotate_left 1
 ·try dsimp only at hSw
  go_simp
  try with_reducible rfl
 try simp only[Act.put,sl]
 refine tk 33 ?_ rfl (fun w hSw=>?_) ?_
 rotate_left 1
 ·try dsimp only at hSw
  go_simp
  try with_reducible rfl
 try simp only[Act.put,sl]
 refine tk 34 ?_ rfl (fun w hSw=>?_) ?_
 rotate_left 1
 ·try dsimp only at hSw
  go_simp
  try with_reducible rfl
 try simp only[Act.put,sl]
 refine rd 35 rfl (fun K hK=>?_)
 go_simp
 go_at_call 80
 refine hv.mono ?_
 rintro r w6 ⟨rfl,h6⟩;obtain⟨⟨m1,m2,m3,m4,m5,m6,m7,e2,e3⟩,c6,f6,h9,⟨q1,q2,q3,q4,q5,q6,q7,p2,p3⟩⟩:=arm w6 h6;go_simp
 refine hK.out _ _ ⟨m1,m2,m3,m4,m5,m6,m7,e2,e3⟩ (fun hHeld=>?_)
 clear hK K;try simp only[Act.put,sl]
 refine tk 36 ?_ rfl (fun w hSw=>?_) ?_
 rotate_left 1
 ·try dsimp only at hSw
  go_simp
  try with_reducible rfl
 try simp only[Act.put,sl]
 refine rd 37 rfl (fun K hK=>?_)
 go_simp
 go_simp
 refine hK.out _ _ ⟨q1,q2,q3,q4,q5,q6,q7,p2,p3⟩ (fun hHeld=>?_)
 clear hK K;try simp only[Act.put,sl]
 refine wpAnyH_done (by kernel_rfl) ?_ _
 all_goals (
  clear q1 q2 q3 q4 q5 q6 q7 p2 p3 m1 m2 m3 m4 m5 m6 m7 e2 e3 c6 f6 h6;go_wp2;generalize (((((((((((((((w6.setCell ⟨ga,0,none⟩ (.int .i64 state)).setCell ⟨ga,1,none⟩ (.int .i64 tei)).setCell ⟨ga,2,none⟩ (.int .i64 tries)).setCell ⟨ga,3,none⟩ (.bool asked)).setCell ⟨ga,4,none⟩ (.bool t2)).setCell ⟨ga,5,none⟩ (.bool t3)).setCell ⟨ga,6,none⟩ (.int .i64 n)).setCell ⟨ga,7,none⟩ (.int .i64 fl.vs)).setCell ⟨ga,8,none⟩ (.int .i64 fl.va)).setCell ⟨ga,9,none⟩ (.int .i64 fl.vr)).setCell ⟨ga,10,none⟩ (.bool fl.peer)).setCell ⟨ga,11,none⟩ (.bool fl.own)).setCell ⟨ga,12,none⟩ (.bool fl.refused)).setCell ⟨ga,13,none⟩ (.int .i64 fl.q.sent)).setCell ⟨ga,14,none⟩ (.int .i64 ((fl.q.l.length:Int) - fl.q.sent)))=w9 at *;have c9:=h9.cell;have g9:=view_left h9;refine bodyPost_ret (v:=.agg #[.int .i64 state,.int .i64 tei,.int .i64 tries,.bool asked,.bool t2,.bool t3,.int .i64 n,.int .i64 fl.vs,.int .i64 fl.va,.int .i64 fl.vr,.bool fl.peer,.bool fl.own,.bool fl.refused,.int .i64 fl.q.sent,.int .i64 ((fl.q.l.length:Int) - fl.q.sent)]) (by simp[results,Tryz.results38,go_sem,c9]) rfl ⟨rfl,fin _ g9⟩)
section
variable (x:En)
theorem En.start_tei (t:Int):(x.start t).tei=x.tei:=x.setT_tei t true
theorem En.stop_tei (t:Int):(x.stop t).tei=x.tei:=by unfold En.stop;split;exact x.setT_tei t false;rfl
theorem En.start200_t3:(x.start 200).t3=x.t3:=rfl
theorem En.stop200_t2:(x.stop 200).t2=false:=by
 unfold En.stop;have h:x.runs 200=x.t2:=rfl;rw[h];split
 ·rfl
 ·rename_i h2;simpa using h2
theorem En.stop203_t3:(x.stop 203).t3=false:=by
 unfold En.stop;have h:x.runs 203=x.t3:=rfl;rw[h];split
 ·rfl
 ·rename_i h2;simpa using h2
end
structure En.B (x:En):Prop where
 fl:x.fl.Ok
 tr0:0<=x.tries
 trm:x.tries<=x.most
 m1:1<=x.most
 m32:x.most<=32
 un:x.units.length<=256
theorem En.B.stop {x:En} (h:x.B) (t:Int):(x.stop t).B:=⟨by rw[En.stop_fl];exact h.fl,by rw[En.stop_tries];exact h.tr0,by rw[En.stop_tries,En.stop_most];exact h.trm,by rw[En.stop_most];exact h.m1,by rw[En.stop_most];exact h.m32,by rw[En.stop_units];exact h.un⟩
theorem En.B.start {x:En} (h:x.B) (t:Int):(x.start t).B:=⟨by rw[En.start_fl];exact h.fl,by rw[En.start_tries];exact h.tr0,by rw[En.start_tries,En.start_most];exact h.trm,by rw[En.start_most];exact h.m1,by rw[En.start_most];exact h.m32,by rw[En.start_units];exact h.un⟩
theorem En.B.flow {x:En} (h:x.B) {f:Fl} (ok:f.Ok):(x.setFl f).B:=⟨ok,h.tr0,h.trm,h.m1,h.m32,h.un⟩
theorem En.B.zero {x:En} (h:x.B):(x.setTries 0).B:=⟨h.fl,Int.le_refl _,by show (0:Int)<=x.most;have:=h.m1;omega,h.m1,h.m32,h.un⟩
theorem En.B.state {x:En} (h:x.B) (s:Int):(x.setState s).B:=⟨h.fl,h.tr0,h.trm,h.m1,h.m32,h.un⟩
theorem En.B.asked {x:En} (h:x.B) (b:Bool):(x.setAsked b).B:=⟨h.fl,h.tr0,h.trm,h.m1,h.m32,h.un⟩
theorem En.B.out {x:En} (h:x.B) (l:List Fx):(x.setOut l).B:=⟨h.fl,h.tr0,h.trm,h.m1,h.m32,h.un⟩
theorem En.B.tell {x:En} (h:x.B) (f:Fx):(x.tell f).B:=⟨h.fl,h.tr0,h.trm,h.m1,h.m32,h.un⟩
theorem En.B.told {x:En} (h:x.B) (k:Int) (d:ByteArray):(x.told k d).B:=h.tell _
theorem En.B.send {x:En} (h:x.B) (k:Int) (c p:Bool):(x.send k c p).B:=h.tell _
theorem En.B.superv {x:En} (h:x.B) (c p:Bool):(x.superv c p).B:=h.tell _
theorem En.B.tei {x:En} (h:x.B) (t:Int):(x.setTei t).B:=⟨h.fl,h.tr0,h.trm,h.m1,h.m32,h.un⟩
theorem En.B.setT {x:En} (h:x.B) (t:Int) (b:Bool):(x.setT t b).B:=⟨by rw[En.setT_fl];exact h.fl,by rw[En.setT_tries];exact h.tr0,by rw[En.setT_tries,En.setT_most];exact h.trm,by rw[En.setT_most];exact h.m1,by rw[En.setT_most];exact h.m32,by rw[En.setT_units];exact h.un⟩
structure En.J (x:En):Prop where
 one:x.t3=true->x.t2=false
 quiet:x.t3=true->x.fl.va=x.fl.vs
structure En.Ok (x:En):Prop where
 b:x.B
 s1:1<=x.state
 s8:x.state<=8
 tei:0<=x.tei↔4<=x.state
 t3:x.t3=true->x.state=7
 j:x.state=7->x.J
theorem En.Ok.same {x y:En} (h:x.Ok) (hb:y.B) (hs:y.state=x.state) (ht:y.tei=x.tei) (h2:y.t2=x.t2) (h3:y.t3=x.t3) (hf:y.fl.va=x.fl.va/\y.fl.vs=x.fl.vs):y.Ok :=
 ⟨hb,by rw[hs];exact h.s1,by rw[hs];exact h.s8,by rw[hs,ht];exact h.tei,by rw[hs,h3];exact h.t3,fun e=>by
  rw[hs] at e;exact⟨by rw[h3,h2];exact (h.j e).one,by rw[h3,hf.1,hf.2];exact (h.j e).quiet⟩⟩
theorem En.Ok.tell {x:En} (h:x.Ok) (f:Fx):(x.tell f).Ok:=h.same (h.b.tell f) rfl rfl rfl rfl ⟨rfl,rfl⟩
theorem En.Ok.out {x:En} (h:x.Ok) (l:List Fx):(x.setOut l).Ok:=h.same (h.b.out l) rfl rfl rfl rfl ⟨rfl,rfl⟩
theorem En.Ok.asked {x:En} (h:x.Ok) (l:Bool):(x.setAsked l).Ok:=h.same (h.b.asked l) rfl rfl rfl rfl ⟨rfl,rfl⟩
theorem call_t3 (x:En):x.call.t3=false:=En.stop203_t3 _
theorem call_tei (x:En):x.call.tei=x.tei:=by
 show (((((x.setTries 0).send 4 true true).stop 203).start 200)).tei=_
 rw[En.start_tei,En.stop_tei];rfl
theorem ok_call {x:En} (h:x.B) (ht:0<=x.tei):x.call.Ok :=
 ⟨((((h.zero.send 4 true true).stop 203).start 200).state 5),by show (1:Int)<=5;decide,by show (5:Int)<=8;decide,by rw[call_tei];exact⟨fun _=>by show (4:Int)<=5;decide,fun _=>ht⟩,fun e=>(by rw[call_t3] at e;cases e),fun e=>by have:(5:Int)=7:=e;omega⟩
theorem ok_anew {x:En} (h:x.B) (ht:0<=x.tei) (l:ByteArray):(x.anew l).Ok:=ok_call ((h.told 7 l).asked false) ht
theorem take1_t3 {x:En} (h:x.t3=true->x.t2=false):x.take1.t3=false:=by
 unfold En.take1;simp only[];split
 ·rename_i h2
  show x.t3=false
  cases h3:x.t3 with
  | false=>rfl
  | true=>rw[h h3] at h2;cases h2
 ·rw[En.start200_t3,En.stop203_t3]
theorem take1_b {x:En} (h:x.B):x.take1.B:=by
 unfold En.take1;simp only[];split
 ·exact (h.flow h.fl.take).tell _
 ·exact ((((h.flow h.fl.take).tell _).stop 203).start 200)
theorem take1_tei (x:En):x.take1.tei=x.tei:=by
 unfold En.take1;simp only[];split
 ·rfl
 ·rw[En.start_tei,En.stop_tei];rfl
structure En.G (x:En):Prop where
 b:x.B
 j:x.J
theorem goOnK_g:∀ (n:Nat) {x:En},x.G->(En.goOnK n x).G/\(En.goOnK n x).state=x.state/\(En.goOnK n x).tei=x.tei
 | 0,x,h=>⟨h,rfl,rfl⟩
 | n+1,x,h=>by
   unfold En.goOnK;split
   ·have h3:=take1_t3 h.j.one
    obtain⟨a,b,c⟩:=goOnK_g n (x:=x.take1) ⟨take1_b h.b,⟨fun e=>(by rw[h3] at e;cases e),fun e=>(by rw[h3] at e;cases e)⟩⟩;exact⟨a,b.trans x.take1_state,c.trans (take1_tei x)⟩
   ·exact⟨h,rfl,rfl⟩
theorem ok_goOn7 {x:En} (h:x.G) (hs:x.state=7) (ht:0<=x.tei):x.goOn.Ok:=by
 unfold En.goOn;rw[if_pos hs];obtain⟨a,b,c⟩:=goOnK_g 128 h;exact⟨a.b,by rw[b,hs];decide,by rw[b,hs];decide,by rw[b,c,hs];exact⟨fun _=>by decide,fun _=>ht⟩,fun _=>by rw[b,hs],fun _=>a.j⟩
theorem ok_goOn {x:En} (h:x.Ok):x.goOn.Ok:=by
 by_cases hs:x.state=7
 ·exact ok_goOn7 ⟨h.b,h.j hs⟩ hs (h.tei.2 (by rw[hs];decide))
 ·unfold En.goOn
  rw[if_neg hs];exact h
theorem ok_open1 {x:En} (h:x.B) (ht:0<=x.tei):x.open1.Ok:=by
 unfold En.open1;refine ok_goOn7 ⟨((((h.flow h.fl.reset).stop 200).start 203).state 7),⟨fun _=>?_,fun _=>?_⟩⟩ rfl ?_
 ·exact En.stop200_t2 _
 ·show (((x.setFl x.fl.reset).stop 200).start 203).fl.va=(((x.setFl x.fl.reset).stop 200).start 203).fl.vs
  rw[En.start_fl,En.stop_fl];rfl
 ·show 0<=(((x.setFl x.fl.reset).stop 200).start 203).tei
  rw[En.start_tei,En.stop_tei];exact ht
theorem end1_t3 (x:En):x.end1.t3=false:=En.stop203_t3 _
theorem end1_tei (x:En):x.end1.tei=x.tei:=by
 show (((x.setFl x.fl.clear).stop 200).stop 203).tei=_
 rw[En.stop_tei,En.stop_tei];rfl
theorem end1_b {x:En} (h:x.B):x.end1.B:=(((h.flow h.fl.clear).stop 200).stop 203).state 4
theorem ok_end1 {x:En} (h:x.B) (ht:0<=x.tei):x.end1.Ok :=
 ⟨end1_b h,by show (1:Int)<=4;decide,by show (4:Int)<=8;decide,by rw[end1_tei];exact⟨fun _=>by show (4:Int)<=4;decide,fun _=>ht⟩,fun e=>(by rw[end1_t3] at e;cases e),fun e=>by have:(4:Int)=7:=e;omega⟩
theorem unsure_b {x:En} (h:x.B):x.unsure.B:=by
 unfold En.unsure;split
 ·exact (h.flow h.fl.clear).told _ _
 ·exact h
theorem unsure_tei (x:En):x.unsure.tei=x.tei:=by unfold En.unsure;split <;> rfl
theorem ok_establish {x:En} (h:x.Ok):x.establish.1.Ok:=by
 unfold En.establish;split
 ·rename_i s
  have ht:=h.tei;rw[s] at ht;refine⟨(h.b.state 3).told _ _,by show (1:Int)<=3;decide,by show (3:Int)<=8;decide,⟨fun e=>absurd (ht.1 e) (by decide),fun e=>absurd (show (4:Int)<=3 from e) (by decide)⟩,fun e=>?_,fun e=>?_⟩
  ·have:=h.t3 e;omega
  ·have:(3:Int)=7:=e;omega
 ·split
  ·rename_i s
   have ht:=h.tei;rw[s] at ht;refine⟨(h.b.state 3),by show (1:Int)<=3;decide,by show (3:Int)<=8;decide,⟨fun e=>absurd (ht.1 e) (by decide),fun e=>absurd (show (4:Int)<=3 from e) (by decide)⟩,fun e=>?_,fun e=>?_⟩
   ·have:=h.t3 e;omega
   ·have:(3:Int)=7:=e;omega
  ·split
   ·exact h
   ·split
    ·rename_i s
     refine⟨(h.b.flow h.b.fl.clear).asked true,h.s1,h.s8,h.tei,h.t3,fun e=>?_⟩
     have:x.state=7:=e
     omega
    ·split
     ·rename_i s
      exact ok_call ((h.b.flow h.b.fl.clear).asked true) (h.tei.2 (by omega))
     ·split
      ·rename_i s
       exact ok_call (h.b.asked true) (h.tei.2 (by omega))
      ·exact h
theorem ok_release {x:En} (h:x.Ok):x.release.1.Ok:=by
 unfold En.release;split
 ·exact h.tell _
 ·split
  ·rename_i hu
   have hu:=(En.up_iff x).1 hu;have ht:0<=x.tei:=h.tei.2 (by omega);have hb:=((((((h.b.flow h.b.fl.clear).zero).send 7 true true).stop 203).start 200).state 6);refine⟨hb,by show (1:Int)<=6;decide,by show (6:Int)<=8;decide,⟨fun _=>by show (4:Int)<=6;decide,fun _=>?_⟩,fun e=>?_,fun e=>?_⟩
   ·show 0<=(((((x.setFl x.fl.clear).setTries 0).send 7 true true).stop 203).start 200).tei
    rw[En.start_tei,En.stop_tei];exact ht
   ·have:(((((x.setFl x.fl.clear).setTries 0).send 7 true true).stop 203)).t3=true:=e
    rw[En.stop203_t3] at this;cases this
   ·have:(6:Int)=7:=e;omega
  ·exact h
theorem ok_data {x:En} (h:x.Ok) (s:ByteArray):(x.data s).1.Ok:=by
 have hp:(x.setFl (Fl.withQ x.fl (x.fl.q.push s).1)).Ok:=h.same (h.b.flow (h.b.fl.push s)) rfl rfl rfl rfl ⟨rfl,rfl⟩;unfold En.data;split
 ·exact h
 ·split
  ·exact ok_goOn hp
  ·exact hp
theorem ok_unit {x:En} (h:x.Ok) (s:ByteArray):(x.unit s).1.Ok:=by
 unfold En.unit;split
 ·exact h.tell _
 ·rename_i h4
  split
  ·exact h
  ·rename_i hl
   have hb:(x.setUnits (x.units++[s])).B:=⟨h.b.fl,h.b.tr0,h.b.trm,h.b.m1,h.b.m32,by show (x.units++[s]).length<=256;simp;omega⟩;split
   ·rename_i s1
    have ht:=h.tei;rw[s1] at ht;refine⟨(hb.state 2).told _ _,by show (1:Int)<=2;decide,by show (2:Int)<=8;decide,⟨fun e=>absurd (ht.1 e) (by decide),fun e=>absurd (show (4:Int)<=2 from e) (by decide)⟩,fun e=>?_,fun e=>?_⟩
    ·have:=h.t3 e;omega
    ·have:(2:Int)=7:=e;omega
   ·exact h.same hb rfl rfl rfl rfl ⟨rfl,rfl⟩
theorem ok_own {x:En} (h:x.Ok) (b:Bool):(x.own b).1.Ok:=by
 unfold En.own;split
 ·exact h
 ·split
  ·exact h
  ·exact (h.same (y:=x.setFl (Fl.withOwn x.fl b)) (h.b.flow (h.b.fl.own b)) rfl rfl rfl rfl ⟨rfl,rfl⟩).tell _
theorem ok_ask {x:En} (h:x.Ok) (a:Int) (d:ByteArray):(x.ask a d).1.Ok:=by
 unfold En.ask;split
 ·exact h
 ·split
  ·exact h
  ·show (En.done _).Ok
   unfold En.done;apply En.Ok.out
   split
   ·exact ok_establish h
   ·split
    ·exact ok_release h
    ·split
     ·exact ok_data h d
     ·split
      ·exact ok_unit h d
      ·exact ok_own h _
theorem ok_units (l:List ByteArray):∀ {x:En},x.Ok->(l.foldl (fun y s=>(y.unit s).1) x).Ok:=by
 induction l with
 | nil=>intro x h;exact h
 | cons s l ih=>intro x h;exact ih (ok_unit h s)
theorem unitsK_tei (l:List ByteArray):∀ {x:En},4<=x.state->(l.foldl (fun y s=>(y.unit s).1) x).tei=x.tei:=by
 induction l with
 | nil=>intro x h;rfl
 | cons s l ih =>
   intro x h;have e:(x.unit s).1=x.sendD 6 true false 0 s:=by unfold En.unit;rw[if_pos h]
   show (l.foldl (fun y s=>(y.unit s).1) (x.unit s).1).tei=_
   rw[e];exact ih (x:=x.sendD 6 true false 0 s) h
theorem ok_assign {x:En} (h:x.Ok) (t:Int):(x.assign t).1.Ok:=by
 unfold En.assign;split
 ·exact h
 ·rename_i ht
  split
  ·exact h
  ·rename_i h4
   show (En.done _).Ok
   unfold En.done;apply En.Ok.out
   have h0:(((x.setTei t).setState 4).setUnits []).Ok:=⟨⟨h.b.fl,h.b.tr0,h.b.trm,h.b.m1,h.b.m32,by show ([]:List ByteArray).length<=256;simp⟩,by show (1:Int)<=4;decide,by show (4:Int)<=8;decide,⟨fun _=>by show (4:Int)<=4;decide,fun _=>by show 0<=t;omega⟩,fun e=>by have:=h.t3 e;omega,fun e=>by have:(4:Int)=7:=e;omega⟩;have h1:=ok_units x.units h0;have h2:=unitsK_tei x.units (x:=((x.setTei t).setState 4).setUnits []) (show (4:Int)<=4 by decide);split
   ·refine ok_call (h1.b.asked true) ?_
    show 0<=(x.units.foldl (fun y s=>(y.unit s).1) (((x.setTei t).setState 4).setUnits [])).tei
    rw[h2];show 0<=t
    omega
   ·exact h1
theorem ok_remove {x:En} (h:x.Ok):x.remove.1.Ok:=by
 unfold En.remove;split
 ·exact h
 ·have key:∀ z:En,z.B->z.t3=false->(((z.done.setTei (-1)).setState 1).setUnits []).Ok:=fun z hz h3 =>
   ⟨⟨hz.fl,hz.tr0,hz.trm,hz.m1,hz.m32,by show ([]:List ByteArray).length<=256;simp⟩,by show (1:Int)<=1;decide,by show (1:Int)<=8;decide,⟨fun e=>absurd (show (0:Int)<= -1 from e) (by decide),fun e=>absurd (show (4:Int)<=1 from e) (by decide)⟩,fun e=>(by have:z.t3=true:=e;rw[h3] at this;cases this),fun e=>by have:(1:Int)=7:=e;omega⟩
  show (((En.done _).setTei (-1)).setState 1).setUnits [] |>.Ok
  apply key
  ·split
   ·exact (end1_b h.b).told _ _
   ·split
    ·exact (end1_b h.b).told _ _
    ·exact end1_b h.b
  ·split
   ·exact end1_t3 x
   ·split
    ·exact end1_t3 x
    ·exact end1_t3 x
theorem ack_quiet {s:Fl} (ok:s.Ok) (nr:Int) (h:s.va=s.vs):(s.ack nr).1.va=(s.ack nr).1.vs:=by
 unfold Fl.ack;split
 ·rename_i h1
  have:=ok.a1
  show (nr % 128).toNat=s.vs
  omega
 ·exact h
theorem ok_mk {x:En} (hb:x.B) (s:Int) (hs:x.state=s) (h1:1<=s) (h8:s<=8) (h7:s≠7) (ht:0<=x.tei↔4<=s) (h3:x.t3=false):x.Ok :=
 ⟨hb,by rw[hs];exact h1,by rw[hs];exact h8,by rw[hs];exact ht,fun e=>(by rw[h3] at e;cases e),fun e=>absurd (hs.symm.trans e) h7⟩
theorem count_b {x:En} (h:x.B) (n:Int):(x.count n).B:=by
 unfold En.count;split
 ·exact (h.stop 200).start 203
 ·split
  ·exact h.start 200
  ·exact h
theorem count_g {x:En} (h:x.B) (hq:x.t3=true->x.fl.va=x.fl.vs) (n:Int):(x.count n).G:=by
 refine⟨count_b h n,?_⟩
 unfold En.count;split
 ·rename_i hv
  exact⟨fun _=>En.stop200_t2 x,fun _=>by rw[En.start_fl,En.stop_fl];exact hv⟩
 ·rename_i hv
  have h3:x.t3=false:=by
   cases e:x.t3 with
   | false=>rfl
   | true=>exact absurd (hq e) hv
  split
  ·exact⟨fun e=>(by rw[En.start200_t3,h3] at e;cases e),fun e=>(by rw[En.start200_t3,h3] at e;cases e)⟩
  ·exact⟨fun e=>(by rw[h3] at e;cases e),fun e=>(by rw[h3] at e;cases e)⟩
theorem count_state (x:En) (n:Int):(x.count n).state=x.state:=by
 unfold En.count;split
 ·rw[En.start_state,En.stop_state]
 ·split
  ·rw[En.start_state]
  ·rfl
theorem count_tei (x:En) (n:Int):(x.count n).tei=x.tei:=by
 unfold En.count;split
 ·rw[En.start_tei,En.stop_tei]
 ·split
  ·rw[En.start_tei]
  ·rfl
theorem ok_sup3 {x:En} (hb:x.B) (hs:x.state=7\/x.state=8) (ht:0<=x.tei) (hq:x.t3=true->x.fl.va=x.fl.vs) (h3:x.t3=true->x.state=7) (f:Fr) (hk:f.kind=1\/f.kind=2\/f.kind=3) (n b:Int):(x.sup3 f n b).Ok:=by
 unfold En.sup3;split
 ·exact ok_anew hb ht _
 ·split
  ·rename_i h8
   have h30:x.t3=false:=by
    cases e:x.t3 with
    | false=>rfl
    | true=>have:=h3 e;omega
   exact ok_mk hb 8 h8.1 (by decide) (by decide) (by decide) ⟨fun _=>by decide,fun _=>ht⟩ h30
  ·rename_i hn8
   split
   ·rename_i h7
    exact ok_goOn7 (count_g hb hq n) (by rw[count_state];exact h7.1) (by rw[count_tei];exact ht)
   ·rename_i hn1
    simp only[];have x4b:(if f.kind≠2 then (x.stop 200).start 203 else (if x.state=7 then x.stop 203 else x).start 200).B:=by
     split
     ·exact (hb.stop 200).start 203
     ·split
      ·exact (hb.stop 203).start 200
      ·exact hb.start 200
    have x4t:(if f.kind≠2 then (x.stop 200).start 203 else (if x.state=7 then x.stop 203 else x).start 200).tei=x.tei:=by
     split
     ·rw[En.start_tei,En.stop_tei]
     ·split
      ·rw[En.start_tei,En.stop_tei]
      ·rw[En.start_tei]
    have x4j:(if f.kind≠2 then (x.stop 200).start 203 else (if x.state=7 then x.stop 203 else x).start 200).t3=true->(if f.kind≠2 then (x.stop 200).start 203 else (if x.state=7 then x.stop 203 else x).start 200).t2=false/\f.kind≠2:=by
     split
     ·rename_i hk
      exact fun _=>⟨En.stop200_t2 x,hk⟩
     ·split
      ·intro e
       rw[En.start200_t3,En.stop203_t3] at e;cases e
      ·rename_i h7
       intro e;rw[En.start200_t3] at e;exact absurd (h3 e) h7
    have x4f:(if f.kind≠2 then (x.stop 200).start 203 else (if x.state=7 then x.stop 203 else x).start 200).fl=x.fl:=by
     split
     ·rw[En.start_fl,En.stop_fl]
     ·split
      ·rw[En.start_fl,En.stop_fl]
      ·rw[En.start_fl]
    generalize (if f.kind≠2 then (x.stop 200).start 203 else (if x.state=7 then x.stop 203 else x).start 200)=y at *;split
    ·refine ok_goOn7 ⟨(x4b.flow x4b.fl.back).state 7,⟨fun e=>(x4j e).1,fun _=>rfl⟩⟩ rfl ?_
     show 0<=y.tei
     rw[x4t];exact ht
    ·rename_i hn
     refine ok_goOn7 ⟨x4b.state 7,⟨fun e=>(x4j e).1,fun e=>?_⟩⟩ rfl ?_
     ·have h2:=(x4j e).2
      exfalso
      rcases hs with s | s
      ·rcases hk with k | k | k
       ·exact hn1 ⟨s,k⟩
       ·exact h2 k
       ·exact hn (.inr k)
      ·exact hn (.inl s)
     ·show 0<=y.tei
      rw[x4t];exact ht
theorem sup1_b {x:En} (h:x.B) (c p:Bool):(x.sup1 c p).B:=by
 unfold En.sup1;split
 ·exact h.superv _ _
 ·split
  ·exact h.told _ _
  ·exact h
theorem sup1_tei (x:En) (c p:Bool):(x.sup1 c p).tei=x.tei:=by
 unfold En.sup1;split
 ·rfl
 ·split <;> rfl
theorem sup1_t3 (x:En) (c p:Bool):(x.sup1 c p).t3=x.t3:=by
 unfold En.sup1;split
 ·rfl
 ·split <;> rfl
theorem ok_supervised {x:En} (h:x.Ok) (hs:x.state=7\/x.state=8) (f:Fr) (hk:f.kind=1\/f.kind=2\/f.kind=3):(x.supervised f).Ok:=by
 rw[sup_eq];unfold En.sup2;have hb:=sup1_b h.b f.cmd f.pf;have e1:=sup1_state x f.cmd f.pf;have e2:=sup1_fl x f.cmd f.pf;have e3:=sup1_tei x f.cmd f.pf;have e4:=sup1_t3 x f.cmd f.pf;generalize x.sup1 f.cmd f.pf=y at *;have okp:(Fl.withPeer y.fl (f.kind == 2)).Ok:=hb.fl.peer _;refine ok_sup3 ((hb.flow okp).flow (okp.ack f.nr)) ?_ ?_ ?_ ?_ f hk _ _
 ·show y.state=7\/y.state=8
  rw[e1];exact hs
 ·show 0<=y.tei
  rw[e3];exact h.tei.2 (by omega)
 ·intro e
  have e':y.t3=true:=e;rw[e4] at e';have h7:=h.t3 e';refine ack_quiet okp f.nr ?_
  show y.fl.va=y.fl.vs
  rw[e2];exact (h.j h7).quiet e'
 ·intro e
  have e':y.t3=true:=e;rw[e4] at e';show y.state=7
  rw[e1];exact h.t3 e'
theorem come_va (s:Fl) (n:Int):(s.come n).1.va=s.va/\(s.come n).1.vs=s.vs:=by
 unfold Fl.come;split
 ·exact⟨rfl,rfl⟩
 ·split
  ·exact⟨rfl,rfl⟩
  ·split <;> exact⟨rfl,rfl⟩
theorem inf1_b {x:En} (h:x.B) (f:Fr) (g:Int):(x.inf1 f g).B:=by
 unfold En.inf1;split
 ·exact (h.told _ _).superv _ _
 ·split
  ·exact h.send _ _ _
  ·split
   ·exact h.superv _ _
   ·exact h
theorem inf1_tei (x:En) (f:Fr) (g:Int):(x.inf1 f g).tei=x.tei/\(x.inf1 f g).t3=x.t3/\(x.inf1 f g).t2=x.t2:=by
 unfold En.inf1;split
 ·exact⟨rfl,rfl,rfl⟩
 ·split
  ·exact⟨rfl,rfl,rfl⟩
  ·split <;> exact⟨rfl,rfl,rfl⟩
theorem ok_info {x:En} (h:x.Ok) (hs:x.state=7\/x.state=8) (f:Fr):(x.info f).Ok:=by
 rw[info_eq];unfold En.inf2;have hb:=inf1_b (h.b.flow (h.b.fl.come f.ns)) f (x.fl.come f.ns).2;have e1:((x.setFl (x.fl.come f.ns).1).inf1 f (x.fl.come f.ns).2).state=x.state:=inf1_state _ f _;have e2:=inf1_fl (x.setFl (x.fl.come f.ns).1) f (x.fl.come f.ns).2;have e3:=inf1_tei (x.setFl (x.fl.come f.ns).1) f (x.fl.come f.ns).2;have e4:=come_va x.fl f.ns;generalize (x.setFl (x.fl.come f.ns).1).inf1 f (x.fl.come f.ns).2=y at *;have yt:y.t3=x.t3:=e3.2.1;have y2:y.t2=x.t2:=e3.2.2;have yi:y.tei=x.tei:=e3.1;have yf:y.fl=(x.fl.come f.ns).1:=e2;have ht:0<=x.tei:=h.tei.2 (by omega);have zb:=hb.flow (hb.fl.ack f.nr);have zq:y.t3=true->(y.fl.ack f.nr).1.va=(y.fl.ack f.nr).1.vs:=by
  intro e;refine ack_quiet hb.fl f.nr ?_
  rw[yf,e4.1,e4.2];rw[yt] at e;exact (h.j (h.t3 e)).quiet e
 unfold En.inf3;split
 ·exact ok_anew zb (by show 0<=y.tei;rw[yi];exact ht) _
 ·split
  ·rename_i h7
   have h7':y.state=7:=h7;split
   ·refine ok_goOn7 (count_g zb zq _) (by rw[count_state];exact h7) ?_
    rw[count_tei];show 0<=y.tei
    rw[yi];exact ht
   ·refine ok_goOn7 ⟨zb,⟨fun e=>?_,zq⟩⟩ h7 (by show 0<=y.tei;rw[yi];exact ht)
    show y.t2=false
    rw[y2];have e':y.t3=true:=e;rw[yt] at e';exact (h.j (h.t3 e')).one e'
  ·rename_i h7
   have h7':¬ y.state=7:=h7;have h8:y.state=8:=by rw[e1];rw[e1] at h7';omega
   refine ok_mk zb 8 h8 (by decide) (by decide) (by decide) ⟨fun _=>by decide,fun _=>by show 0<=y.tei;rw[yi];exact ht⟩ ?_
   show y.t3=false
   cases e:y.t3 with
   | false=>rfl
   | true=>rw[yt] at e;have:=h.t3 e;rw[e1] at h8;omega
theorem ok_inOpen {x:En} (h:x.Ok) (hs:x.state=7\/x.state=8) (f:Fr) (hm:mayK f.kind f.cmd=true) (h6:f.kind≠6):(x.inOpen f).Ok:=by
 have ht:0<=x.tei:=h.tei.2 (by omega);unfold En.inOpen;split
 ·exact ok_open1 (unsure_b ((h.b.send _ _ _).told _ _)) (by rw[unsure_tei];exact ht)
 ·split
  ·exact ok_end1 ((h.b.send _ _ _).told _ _) ht
  ·split
   ·exact h.tell _
   ·split
    ·exact ok_anew h.b ht _
    ·split
     ·exact ok_anew h.b ht _
     ·split
      ·exact ok_info h hs f
      ·refine ok_supervised h hs f ?_
       unfold mayK numb at hm;rw[if_neg (by omega),if_neg (by omega)] at hm;simp at hm
       omega
theorem ok_inAssigned {x:En} (h:x.Ok) (hs:x.state=4) (f:Fr):(x.inAssigned f).Ok:=by
 have ht:0<=x.tei:=h.tei.2 (by omega);unfold En.inAssigned;split
 ·exact ok_open1 ((h.b.send _ _ _).told _ _) ht
 ·split
  ·exact h.tell _
  ·split
   ·exact h.tell _
   ·split
    ·exact ok_call (h.b.asked _) ht
    ·exact h
theorem ok_inConnecting {x:En} (h:x.Ok) (hs:x.state=5) (f:Fr):(x.inConnecting f).Ok:=by
 have ht:0<=x.tei:=h.tei.2 (by omega);unfold En.inConnecting;split
 ·exact h.tell _
 ·split
  ·exact h.tell _
  ·split
   ·exact h.tell _
   ·split
    ·refine ok_open1 (En.B.asked ?_ false) ?_
     ·split
      ·exact h.b.told _ _
      ·exact unsure_b h.b
     ·show 0<=(if x.asked=true then x.told 2 noStr else x.unsure).tei
      split
      ·exact ht
      ·rw[unsure_tei];exact ht
    ·split
     ·exact ok_end1 (h.b.told _ _) ht
     ·exact h
theorem ok_inReleasing {x:En} (h:x.Ok) (hs:x.state=6) (f:Fr):(x.inReleasing f).Ok:=by
 have ht:0<=x.tei:=h.tei.2 (by omega);unfold En.inReleasing;split
 ·exact h.tell _
 ·split
  ·exact h.tell _
  ·split
   ·exact h.tell _
   ·split
    ·exact ok_end1 (h.b.told _ _) ht
    ·exact h
theorem ok_frame {x:En} (h:x.Ok) (f:Fr):(x.frame f).1.Ok:=by
 unfold En.frame;split
 ·exact h
 ·rename_i hn
  have ht:0<=x.tei:=by
   rcases Int.lt_or_le x.tei 0 with h1 | h1
   ·exact absurd (.inl h1) hn
   ·exact h1
  have hm:mayK f.kind f.cmd=true:=by
   cases e:mayK f.kind f.cmd with
   | true=>rfl
   | false=>exact absurd (.inr (.inl e)) hn
  have h4:=h.tei.1 ht;have h8:=h.s8;show (En.done _).Ok
  unfold En.done;apply En.Ok.out
  split
  ·exact h.tell _
  ·rename_i h6
   split
   ·rename_i s;exact ok_inAssigned h s f
   ·split
    ·rename_i s;exact ok_inConnecting h s f
    ·split
     ·rename_i s;exact ok_inReleasing h s f
     ·exact ok_inOpen h (by omega) f hm h6
theorem ok_again {x:En} (h:x.B) (s:Int) (hs:x.state=s) (s56:s=5\/s=6) (ht:0<=x.tei) (h3:x.t3=false) (k:Int) (l:ByteArray) (g:Int):(x.again k l g).Ok:=by
 unfold En.again;split
 ·exact ok_end1 ((h.told _ _).told _ _) ht
 ·rename_i hm
  have hb:(x.setTries (x.tries+1)).B:=⟨h.fl,by show 0<=x.tries+1;have:=h.tr0;omega,by show x.tries+1<=x.most;have:=h.trm;omega,h.m1,h.m32,h.un⟩;refine ok_mk ((hb.send k true true).start 200) s ?_ (by omega) (by omega) (by omega) ⟨fun _=>by omega,fun _=>?_⟩ ?_
  ·rw[En.start_state];exact hs
  ·rw[En.start_tei];exact ht
  ·rw[En.start200_t3];exact h3
theorem ok_timeout {x:En} (h:x.Ok) (t:Int):(x.timeout t).1.Ok:=by
 unfold En.timeout;split
 ·exact h
 ·rename_i hr
  have hr':x.runs t=true:=by cases e:x.runs t with
   | true=>rfl
   | false=>exact absurd e hr
  have ht2:t=200/\x.t2=true\/t=203/\x.t3=true:=by
   unfold En.runs at hr';split at hr'
   ·rename_i e;exact .inl ⟨e,hr'⟩
   ·split at hr'
    ·rename_i e;exact .inr ⟨e,hr'⟩
    ·cases hr'
  have yb:=h.b.setT t false;have ys:(x.setT t false).state=x.state:=x.setT_state t false;have yi:(x.setT t false).tei=x.tei:=x.setT_tei t false;have yt:(x.setT t false).tries=x.tries:=x.setT_tries t false;have ym:(x.setT t false).most=x.most:=x.setT_most t false;have y3:(x.setT t false).t3=false:=by
   rcases ht2 with ⟨rfl,h2⟩ | ⟨rfl,h2⟩
   ·show x.t3=false
    cases e:x.t3 with
    | false=>rfl
    | true=>have:=(h.j (h.t3 e)).one e;rw[this] at h2;cases h2
   ·rfl
  generalize x.setT t false=y at *;show (En.done _).Ok
  unfold En.done;apply En.Ok.out
  have iq:∀ z:En,z.B->z.t3=false->0<=z.tei->(z.inquire.setState 8).Ok:=fun z zb z3 zt=>by
   refine ok_mk (((zb.superv true true).start 200).state 8) 8 rfl (by decide) (by decide) (by decide) ⟨fun _=>by decide,fun _=>?_⟩ ?_
   ·show 0<=((z.superv true true).start 200).tei
    rw[En.start_tei];exact zt
   ·show ((z.superv true true).start 200).t3=false
    rw[En.start200_t3];exact z3
  split
  ·rename_i s
   exact ok_again yb 5 (ys.trans s) (.inl rfl) (by rw[yi];exact h.tei.2 (by omega)) y3 _ _ _
  ·split
   ·rename_i s
    exact ok_again yb 6 (ys.trans s) (.inr rfl) (by rw[yi];exact h.tei.2 (by omega)) y3 _ _ _
   ·split
    ·rename_i s
     exact iq (y.setTries 0) yb.zero y3 (by show 0<=y.tei;rw[yi];exact h.tei.2 (by omega))
    ·split
     ·rename_i s
      have ht:0<=y.tei:=by rw[yi];exact h.tei.2 (by omega)
      split
      ·exact ok_anew yb ht _
      ·rename_i hm
       have hb:(y.setTries (x.tries+1)).B:=⟨yb.fl,by show 0<=x.tries+1;have:=h.b.tr0;omega,by show x.tries+1<=y.most;have:=h.b.trm;rw[ym];omega,yb.m1,yb.m32,yb.un⟩;have h8:(y.setTries (x.tries+1)).inquire.state=8:=by
        show (((y.setTries (x.tries+1)).superv true true).start 200).state=8
        rw[En.start_state];exact ys.trans s
       refine ok_mk ((hb.superv true true).start 200) 8 h8 (by decide) (by decide) (by decide) ⟨fun _=>by decide,fun _=>?_⟩ ?_
       ·show 0<=(((y.setTries (x.tries+1)).superv true true).start 200).tei
        rw[En.start_tei];exact ht
       ·show (((y.setTries (x.tries+1)).superv true true).start 200).t3=false
        rw[En.start200_t3];exact y3
     ·rename_i n5 n6 n7 n8
      refine⟨yb,by rw[ys];exact h.s1,by rw[ys];exact h.s8,by rw[ys,yi];exact h.tei,fun e=>(by rw[y3] at e;cases e),fun e=>absurd (ys.symm.trans e) n7⟩
theorem ok_new (k n:Int):(newEn k n).Ok :=
 ⟨⟨Fl.Ok.new k 256,by show (0:Int)<=0;decide,by show (0:Int)<=max 1 (min n 32);omega,by show (1:Int)<=max 1 (min n 32);omega,by show max 1 (min n 32)<=(32:Int);omega,by show ([]:List ByteArray).length<=256;simp⟩,by show (1:Int)<=1;decide,by show (1:Int)<=8;decide,⟨fun e=>absurd (show (0:Int)<= -1 from e) (by decide),fun e=>absurd (show (4:Int)<=1 from e) (by decide)⟩,fun e=>(by cases e),fun e=>absurd (show (1:Int)=7 from e) (by decide)⟩
end Go.Proofs.YtjcldoejpldcmaaGreatDoor
