/- Parts of a proof (EntI, EntJ, EntN, EntO, EntP, EntQ). No condition. -/
import Derived.Test.YtjcldoejpldcmaaGreatDoorC4
namespace Go.Proofs.YtjcldoejpldcmaaGreatDoor
set_option maxRecDepth 100000
set_option maxHeartbeats 6400000
open Go.RowKit
abbrev encS (s:ByteArray):List Value:=[.string s]
theorem tyStr:ETy Tryz.prog 34 9 1 16 encS :=
 ⟨Tryz.underlying34,⟨.string noStr,by kernel_rfl,rfl⟩,fun _=>rfl,fun b u hu=>by simp[encS] at hu;subst hu;rfl,by decide,by decide⟩
theorem strs_l (l:List ByteArray):l.flatMap encS=strs l:=by
 induction l with
 | nil=>rfl
 | cons a l ih=>rw[List.flatMap_cons,ih];rfl
theorem row_strs (v:Value) (l:List ByteArray):Row 9 1 v l.length (strs l)=LAt 9 1 encS v l:=by unfold LAt;rw[strs_l]
theorem e_unit (e:Nat) (x:En) (s:ByteArray) (ok:x.fl.Ok) (hl:x.out.length<=99990) (w0 w:World) (R:HP) (h:St w0 w (EnAt e x*R)) :
  Calls Tryz.prog 120 #[ptr e,.string s] w fun r w'=>r=.returned (.int .i64 (x.unit s).2)/\St w0 w' (EnAt e (x.unit s).1*R):=by
 have c1:=h.e_c1;unfold En.unit;by_cases h4:4<=x.state
 ·rw[if_pos h4]
  have b:decide (x.state ≥ 4)=true:=by simpa using h4
  go_enter Tryz.func120,Tryz.ntmps120
  go_wp2_with fail
  refine (e_sendD e x 6 true false 0 s ok (by omega) w0 _ R h).mono ?_
  rintro r w1 ⟨rfl,h3⟩;go_wp2;go_ret
  exact⟨rfl,h3⟩
 rw[if_neg h4];have b4:decide (x.state ≥ 4)=false:=by simpa using h4
 obtain⟨rm,fp,uv,ov,rl,hr,h1⟩:=h.e_open;have c:=h1.cell;have f:=h1.free;have sh:=h1.f5.row_shape;obtain⟨n,hn⟩:∃ n,x.units.length=n:=⟨_,rfl⟩;rw[hn] at sh;obtain⟨ua,uc,rfl,_,_⟩:=sh;by_cases hf:256<=x.units.length
 ·rw[if_pos hf]
  have b6:decide ((n:Int) ≥ 256)=true:=by simp;omega
  clear h1;go_enter Tryz.func120,Tryz.ntmps120
  go_wp2;go_ret
  exact⟨rfl,h⟩
 rw[if_neg hf];have b6:decide ((n:Int) ≥ 256)=false:=by simp;omega
 have hA0:=(h1.alloc (.cells #[.string s] 9)).drop;rw[row_strs] at hA0;have hA:=hA0.eq (show _=LAt 9 1 encS (.slice ua n uc) x.units*(blk e (.cells (x.cells rm fp (.slice ua n uc) ov) TEn (0,0))*(LAt TFx 11 Fx.cells ov x.out*(MAt kInt vBool rm rl*(FAt TF TQ fp x.fl*R)))) by ac_rfl);clear hA0 h1 h hn;by_cases s1:x.state=1
 ·rw[if_pos s1]
  have b1:(x.state == 1)=true:=by simpa using s1
  go_enter Tryz.func120,Tryz.ntmps120
  go_wp2_with (at_builtin;refine wp_append_elem rfl (.tmp 23) (.tmp 25) rfl tyStr hA s rfl _ rfl (new_cells _ [.string s] _ _ (by simp)) (by omega) ?ha;(case' ha=>(intro g off cap w8 h8;have c8:=h8.f2.cell;have f8:=h8.f2.free)))
  have h9:St w0 _ (EnAt e (x.setUnits (x.units++[s]))*R):=((h8.f2.set 6 (.slice (some ⟨g,off,none⟩) (x.units.length+1) cap)).eq (show _=blk e (.cells ((x.cells rm fp (.slice ua n uc) ov).setIfInBounds 6 (.slice (some ⟨g,off,none⟩) (x.units.length+1) cap)) TEn (0,0))*(LAt TFx 11 Fx.cells ov x.out*(MAt kInt vBool rm rl*(FAt TF TQ fp x.fl*(Row 9 1 (.slice (some ⟨g,off,none⟩) (x.units.length+1) cap) (x.units++[s]).length (strs (x.units++[s]))*R)))) by rw[row_strs];ac_rfl)).e_shut (x:=x.setUnits (x.units++[s])) (rm:=rm) (fp:=fp) (l:=rl) (n:=(x.units++[s]).length) (us:=strs (x.units++[s])) (uv:=.slice (some ⟨g,off,none⟩) (x.units.length+1) cap) rfl rfl hr rfl rfl rfl;have h10:=h9.e_set_state 2;refine (e_told e ((x.setUnits (x.units++[s])).setState 2) 8 noStr (show x.out.length<=100000 by omega) w0 _ R h10).mono ?_
  rintro r w9 ⟨rfl,h11⟩;clear c8 f8 h8 h9 h10;go_wp2;go_ret
  exact⟨rfl,h11⟩
 ·rw[if_neg s1]
  have b1:(x.state == 1)=false:=by simpa using s1
  go_enter Tryz.func120,Tryz.ntmps120
  go_wp2_with (at_builtin;refine wp_append_elem rfl (.tmp 23) (.tmp 25) rfl tyStr hA s rfl _ rfl (new_cells _ [.string s] _ _ (by simp)) (by omega) ?hb;(case' hb=>(intro g off cap w8 h8;have c8:=h8.f2.cell;have f8:=h8.f2.free)))
  have h9:St w0 _ (EnAt e (x.setUnits (x.units++[s]))*R):=((h8.f2.set 6 (.slice (some ⟨g,off,none⟩) (x.units.length+1) cap)).eq (show _=blk e (.cells ((x.cells rm fp (.slice ua n uc) ov).setIfInBounds 6 (.slice (some ⟨g,off,none⟩) (x.units.length+1) cap)) TEn (0,0))*(LAt TFx 11 Fx.cells ov x.out*(MAt kInt vBool rm rl*(FAt TF TQ fp x.fl*(Row 9 1 (.slice (some ⟨g,off,none⟩) (x.units.length+1) cap) (x.units++[s]).length (strs (x.units++[s]))*R)))) by rw[row_strs];ac_rfl)).e_shut (x:=x.setUnits (x.units++[s])) (rm:=rm) (fp:=fp) (l:=rl) (n:=(x.units++[s]).length) (us:=strs (x.units++[s])) (uv:=.slice (some ⟨g,off,none⟩) (x.units.length+1) cap) rfl rfl hr rfl rfl rfl;go_ret
  exact⟨rfl,h9⟩
abbrev newFl (k:Int):Fl:=⟨0,0,0,false,false,false,k,⟨(max (1:Int) (min 256 256)).toNat,[],0⟩⟩
abbrev newEn (k n:Int):En:=⟨max 1 (min n 32),1,-1,0,false,false,false,[],newFl k,[]⟩
theorem newEn_runs (k n t:Int):(newEn k n).runs t=false:=by
 unfold En.runs;split
 ·rfl
 ·split <;> rfl
theorem new_end {M k:Int} {rm fp ga:Nat} {o:Obj} {w0 w1:World} {R:HP} (h2:St w0 w1 (FAt TF TQ fp (newFl k)*(MAt kInt vBool rm []*(blk ga o*R)))) :
  St w0 (w1.alloc (.cells #[.int .i64 M,.int .i64 1,.int .i64 (-1),.int .i64 0,.bool false,.map (some rm),.slice none 0 0,ptr fp,.slice none 0 0] TEn)) (EnAt w1.heap.size ⟨M,1,-1,0,false,false,false,[],newFl k,[]⟩*R):=by
 have h3:=((h2.alloc (.cells #[.int .i64 M,.int .i64 1,.int .i64 (-1),.int .i64 0,.bool false,.map (some rm),.slice none 0 0,ptr fp,.slice none 0 0] TEn)).row_nil 9 1).l_nil TFx 11 Fx.cells;have h4:=h3.eq (show _=blk w1.heap.size (.cells #[.int .i64 M,.int .i64 1,.int .i64 (-1),.int .i64 0,.bool false,.map (some rm),.slice none 0 0,ptr fp,.slice none 0 0] TEn (0,0))*(LAt TFx 11 Fx.cells (.slice none 0 0) []*(MAt kInt vBool rm []*(FAt TF TQ fp (newFl k)*(Row 9 1 (.slice none 0 0) 0 []*(blk ga o*R))))) by ac_rfl);exact (h4.e_shut (x:=⟨M,1,-1,0,false,false,false,[],newFl k,[]⟩) rfl rfl (fun t=>(newEn_runs k M t).symm) rfl rfl rfl).f2.drop
theorem e_new (k n:Int) (w0 w:World) (R:HP) (h:St w0 w R) :
  Calls Tryz.prog 152 #[.agg #[.int .i64 k,.int .i64 n]] w fun r w'=>∃ e,r=.returned (ptr e)/\St w0 w' (EnAt e (newEn k n)*R):=by
 have hmm:=@run_makeMap Tryz.prog;have hA:=h.alloc (.cells #[.int .i64 k,.int .i64 n] 301);by_cases n32:32<n
 ·have hM:max 1 (min n 32)=32:=by omega
  rw[newEn,hM];clear hM;go_enter Tryz.func152,Tryz.ntmps152
  go_upto_region 1 with fail
  generalize w.alloc _=wa at *;generalize w.heap.size=ga at *;have c0:=hA.cell;have lt0:=hA.lt;have h1:=hA.map_new kInt vBool;go_region_held3 (fun wx=>wx.cell? ⟨ga,0,none⟩=some (.int .i64 k)/\wx.cell? ⟨ga,1,none⟩=some (.int .i64 n)) (first | exact⟨c0 0,c0 1⟩ | exact⟨c1 0,c1 1⟩ | exact⟨c2 0,c2 1⟩ | go_keep) (first | (go_at_call 227;with_reducible refine (f_new k 256 w0 _ _ h1.drew).mono ?_;rintro r w1 ⟨fp,rfl,h2⟩;have c1:=h2.f3.cell) | (go_at_call 227;with_reducible refine (f_new k 256 w0 _ _ hA.drew).mono ?_;rintro r w1 ⟨fp,rfl,h3⟩;have c2:=h3.f2.cell))
  all_goals (
   go_wp2;go_ret
   first
    | exact⟨_,rfl,new_end h2⟩
    | exact⟨_,rfl,by have:=new_end (M:=32) (h3.map_new kInt vBool).f2;simpa only [World.size_alloc] using this⟩)
 by_cases n1:1<n
 ·have hM:max 1 (min n 32)=n:=by omega
  rw[newEn,hM];clear hM;go_enter Tryz.func152,Tryz.ntmps152
  go_upto_region 1 with fail
  generalize w.alloc _=wa at *;generalize w.heap.size=ga at *;have c0:=hA.cell;have lt0:=hA.lt;have h1:=hA.map_new kInt vBool;go_region_held3 (fun wx=>wx.cell? ⟨ga,0,none⟩=some (.int .i64 k)/\wx.cell? ⟨ga,1,none⟩=some (.int .i64 n)) (first | exact⟨c0 0,c0 1⟩ | exact⟨c1 0,c1 1⟩ | exact⟨c2 0,c2 1⟩ | go_keep) (first | (go_at_call 227;with_reducible refine (f_new k 256 w0 _ _ h1.drew).mono ?_;rintro r w1 ⟨fp,rfl,h2⟩;have c1:=h2.f3.cell) | (go_at_call 227;with_reducible refine (f_new k 256 w0 _ _ hA.drew).mono ?_;rintro r w1 ⟨fp,rfl,h3⟩;have c2:=h3.f2.cell))
  all_goals (
   go_wp2;go_ret
   first
    | exact⟨_,rfl,new_end h2⟩
    | exact⟨_,rfl,by have:=new_end (M:=n) (h3.map_new kInt vBool).f2;simpa only [World.size_alloc] using this⟩)
 ·have hM:max 1 (min n 32)=1:=by omega
  rw[newEn,hM];clear hM;go_enter Tryz.func152,Tryz.ntmps152
  go_upto_region 1 with fail
  generalize w.alloc _=wa at *;generalize w.heap.size=ga at *;have c0:=hA.cell;have lt0:=hA.lt;have h1:=hA.map_new kInt vBool;go_region_held3 (fun wx=>wx.cell? ⟨ga,0,none⟩=some (.int .i64 k)/\wx.cell? ⟨ga,1,none⟩=some (.int .i64 n)) (first | exact⟨c0 0,c0 1⟩ | exact⟨c1 0,c1 1⟩ | exact⟨c2 0,c2 1⟩ | go_keep) (first | (go_at_call 227;with_reducible refine (f_new k 256 w0 _ _ h1.drew).mono ?_;rintro r w1 ⟨fp,rfl,h2⟩;have c1:=h2.f3.cell) | (go_at_call 227;with_reducible refine (f_new k 256 w0 _ _ hA.drew).mono ?_;rintro r w1 ⟨fp,rfl,h3⟩;have c2:=h3.f2.cell))
  all_goals (
   go_wp2;go_ret
   first
    | exact⟨_,rfl,new_end h2⟩
    | exact⟨_,rfl,by have:=new_end (M:=1) (h3.map_new kInt vBool).f2;simpa only [World.size_alloc] using this⟩)
theorem St.e_gone {w0 w:World} {R:HP} {e:Nat} {x:En} (h:St w0 w (EnAt e x*R)):St w0 (((w.setCell ⟨e,2,none⟩ (.int .i64 (-1))).setCell ⟨e,1,none⟩ (.int .i64 1)).setCell ⟨e,6,none⟩ (.slice none 0 0)) (EnAt e (((x.setTei (-1)).setState 1).setUnits [])*R):=by
 have h1:=(h.e_set_tei (-1)).e_set_state 1;obtain⟨rm,fp,uv,ov,rl,hr,h5⟩:=h1.e_open;have h6:=(h5.set 6 (.slice none 0 0)).row_nil 9 1;have h7:=h6.eq (show _=blk e (.cells ((((x.setTei (-1)).setState 1).cells rm fp uv ov).setIfInBounds 6 (.slice none 0 0)) TEn (0,0))*(LAt TFx 11 Fx.cells ov ((x.setTei (-1)).setState 1).out*(MAt kInt vBool rm rl*(FAt TF TQ fp ((x.setTei (-1)).setState 1).fl*(Row 9 1 (.slice none 0 0) 0 []*(Row 9 1 uv ((x.setTei (-1)).setState 1).units.length (strs ((x.setTei (-1)).setState 1).units)*R))))) by ac_rfl);exact (h7.e_shut (x:=((x.setTei (-1)).setState 1).setUnits []) rfl rfl hr rfl rfl rfl).f2.drop
theorem e_remove (e:Nat) (x:En) (ok:x.fl.Ok) (ho:x.out=[]) (w0 w:World) (R:HP) (h:St w0 w (EnAt e x*R)) :
  Calls Tryz.prog 155 #[ptr e] w fun r w'=>∃ v,r=.returned (.tuple #[v,.int .i64 x.remove.2.2])/\St w0 w' (LAt TFx 11 Fx.cells v x.remove.2.1*(EnAt e x.remove.1*R)):=by
 have c1:=h.e_c1;unfold En.remove;by_cases s1:x.state=1
 ·rw[if_pos s1]
  rw[s1] at c1;go_enter Tryz.func155,Tryz.ntmps155
  go_wp2;go_ret2
  exact⟨_,rfl,h.l_nil _ _ _⟩
 rw[if_neg s1];have b1:(x.state == 1)=false:=by simpa using s1
 have hl:x.out.length<=99990:=by rw[ho];decide
 have l1:=end1_len x;have l2:x.end1.out.length<=100000:=by rw[ho] at l1;simp at l1;omega
 simp only[];by_cases st:x.state=3\/x.state=5\/x.state=7\/x.state=8
 ·rw[if_pos st]
  rcases st with s | s | s | s
  all_goals
   rw[s] at c1;clear b1;go_enter Tryz.func155,Tryz.ntmps155
   go_wp2_with fail
   refine (e_end e x ok hl w0 _ R h).mono ?_
   rintro r w1 ⟨rfl,h3⟩;go_wp2_with fail
   refine (e_told e x.end1 3 noStr l2 w0 _ R h3).mono ?_
   rintro r w2 ⟨rfl,h4⟩;clear h3 c1 h;have f4:=h4.e_fr;have c1':=h4.e_c1;have h5:=h4.e_gone;obtain⟨rm,fp,uv,ov,rl,hr,hq⟩:=h4.e_open;have c2':=hq.cell;clear hq hr;go_wp2_with fail
   refine (e_done e _ w0 _ R h5).mono ?_
   rintro r w2 ⟨v,rfl,h6⟩;clear f4 c1' c2' h4 h5;go_wp2;go_ret2
   exact⟨v,rfl,h6⟩
 rw[if_neg st];by_cases s6:x.state=6
 ·rw[if_pos s6]
  rw[s6] at c1;clear b1;go_enter Tryz.func155,Tryz.ntmps155
  go_wp2_with fail
  refine (e_end e x ok hl w0 _ R h).mono ?_
  rintro r w1 ⟨rfl,h3⟩;go_wp2_with fail
  refine (e_told e x.end1 4 noStr l2 w0 _ R h3).mono ?_
  rintro r w2 ⟨rfl,h4⟩;clear h3 c1 h;have f4:=h4.e_fr;have c1':=h4.e_c1;have h5:=h4.e_gone;obtain⟨rm,fp,uv,ov,rl,hr,hq⟩:=h4.e_open;have c2':=hq.cell;clear hq hr;go_wp2_with fail
  refine (e_done e _ w0 _ R h5).mono ?_
  rintro r w2 ⟨v,rfl,h6⟩;clear f4 c1' c2' h4 h5;go_wp2;go_ret2
  exact⟨v,rfl,h6⟩
 ·rw[if_neg s6]
  have b3:(x.state == 3)=false:=by simpa using fun e=>st (.inl e)
  have b5:(x.state == 5)=false:=by simpa using fun e=>st (.inr (.inl e))
  have b7:(x.state == 7)=false:=by simpa using fun e=>st (.inr (.inr (.inl e)))
  have b8:(x.state == 8)=false:=by simpa using fun e=>st (.inr (.inr (.inr e)))
  have b6:(x.state == 6)=false:=by simpa using s6
  go_enter Tryz.func155,Tryz.ntmps155
  go_wp2_with fail
  refine (e_end e x ok hl w0 _ R h).mono ?_
  rintro r w1 ⟨rfl,h4⟩;clear h;have f4:=h4.e_fr;have c1':=h4.e_c1;have h5:=h4.e_gone;obtain⟨rm,fp,uv,ov,rl,hr,hq⟩:=h4.e_open;have c2':=hq.cell;clear hq hr;go_wp2_with fail
  refine (e_done e _ w0 _ R h5).mono ?_
  rintro r w2 ⟨v,rfl,h6⟩;clear f4 c1' c2' h4 h5;go_wp2;go_ret2
  exact⟨v,rfl,h6⟩
abbrev TFr:TypeId:=76
theorem view_f6 (a b c g h:Int) (x y z:Bool) (w:World):(Instr.field 47 (.agg #[.int .i64 a,.int .i64 b,.int .i64 c,.bool x,.bool y,.bool z,.int .i64 g,.int .i64 h]) 6).run Tryz.prog w=.ok (.int .i64 g) w:=by kernel_rfl
theorem e_reply (e:Nat) (x:En) (k:Int) (y:Fr) (ok:x.fl.Ok) (hl:x.out.length<=100000) (w0 w:World) (R:HP) (h:St w0 w (EnAt e x*R)) :
  Calls Tryz.prog 209 #[ptr e,.int .i64 k,.agg y.cells.toArray] w fun r w'=>r=.returned (.tuple #[])/\St w0 w' (EnAt e (x.send k false y.pf)*R):=by
 have h2:=h.alloc (.cells y.cells.toArray TFr);clear h;go_enter Tryz.func209,Tryz.ntmps209
 go_upto_region 1 with fail
 generalize w.alloc _=wa at *;generalize w.heap.size=ga at *;have d:=h2.cell;go_wp2_with fail
 refine (e_send e x k false y.pf ok hl w0 _ _ h2.f2).mono ?_
 rintro r w1 ⟨rfl,h3⟩;clear d h2;go_wp2;go_end0
 exact⟨rfl,h3.f2.drop⟩
theorem e_strange (e:Nat) (x:En) (y:Fr) (hl:x.out.length<=100000) (w0 w:World) (R:HP) (h:St w0 w (EnAt e x*R)) :
  Calls Tryz.prog 211 #[ptr e,.agg y.cells.toArray] w fun r w'=>r=.returned (.tuple #[])/\St w0 w' (EnAt e (x.strange y)*R):=by
 obtain⟨a1,a2,a3,a4,pf,a6,a7,a8⟩:=y;have h2:=h.alloc (.cells (Fr.cells ⟨a1,a2,a3,a4,pf,a6,a7,a8⟩).toArray TFr);clear h;unfold En.strange;cases pf with
 | true =>
   rw[if_pos rfl];go_enter Tryz.func211,Tryz.ntmps211
   go_upto_region 1 with fail
   generalize w.alloc _=wa at *;generalize w.heap.size=ga at *;have d:=h2.cell;go_wp2_with fail
   refine (e_told e x 7 ⟨#[67]⟩ hl w0 _ _ h2.f2).mono ?_
   rintro r w1 ⟨rfl,h3⟩;clear d h2;go_wp2;go_end0
   exact⟨rfl,h3.f2.drop⟩
 | false =>
   rw[if_neg (by simp)];go_enter Tryz.func211,Tryz.ntmps211
   go_upto_region 1 with fail
   generalize w.alloc _=wa at *;generalize w.heap.size=ga at *;have d:=h2.cell;go_wp2_with fail
   refine (e_told e x 7 ⟨#[68]⟩ hl w0 _ _ h2.f2).mono ?_
   rintro r w1 ⟨rfl,h3⟩;clear d h2;go_wp2;go_end0
   exact⟨rfl,h3.f2.drop⟩
theorem e_unsure (e:Nat) (x:En) (ok:x.fl.Ok) (hl:x.out.length<=100000) (w0 w:World) (R:HP) (h:St w0 w (EnAt e x*R)) :
  Calls Tryz.prog 212 #[ptr e] w fun r w'=>r=.returned (.tuple #[])/\St w0 w' (EnAt e x.unsure*R):=by
 have hv6:=view_f6;obtain⟨fp,R',c7,hf,hb⟩:=h.e_fl;have hv:=f_view fp x.fl w0 w _ hf ok;unfold Fl.view at hv;unfold En.unsure;by_cases hs:x.fl.q.sent=0
 ·rw[if_neg (by simpa using hs)]
  rw[hs] at hv;go_enter Tryz.func212,Tryz.ntmps212
  go_wp2_with fail
  refine hv.mono ?_
  rintro r w1 ⟨rfl,h3⟩;have h4:=hb _ _ h3;clear hv hf h3 hb c7 h;go_wp2;go_end0
  exact⟨rfl,h4⟩
 ·rw[if_pos hs]
  have bs:(((x.fl.q.sent:Nat):Int) != 0)=true:=by simp;omega
  go_enter Tryz.func212,Tryz.ntmps212
  go_wp2_with fail
  refine hv.mono ?_
  rintro r w1 ⟨rfl,h3⟩;have h4:=hb _ _ h3;clear hv hf h3 hb c7 h;obtain⟨fp,R',c7,hf,hb⟩:=h4.e_fl;go_wp2_with fail
  refine (f_clear fp x.fl w0 w1 _ hf ok).mono ?_
  rintro r w2 ⟨rfl,h5⟩;have h6:=hb _ _ h5;clear hf hb h4 h5 c7;go_wp2_with fail
  refine (e_told e (x.setFl x.fl.clear) 1 noStr hl w0 w2 R h6).mono ?_
  rintro r w3 ⟨rfl,h7⟩;go_wp2;go_end0
  exact⟨rfl,h7⟩
theorem e_again (e:Nat) (x:En) (k:Int) (l:ByteArray) (g:Int) (ok:x.fl.Ok) (ht:0<=x.tries/\x.tries<=1000) (hl:x.out.length<=99980) (w0 w:World) (R:HP) (h:St w0 w (EnAt e x*R)) :
  Calls Tryz.prog 92 #[ptr e,.int .i64 k,.string l,.int .i64 g] w fun r w'=>r=.returned (.tuple #[])/\St w0 w' (EnAt e (x.again k l g)*R):=by
 have c0:=h.e_c0;have c3:=h.e_c3;have l1:=x.told_len 7 l;have l2:=(x.told 7 l).told_len g noStr;unfold En.again;by_cases hm:x.tries=x.most
 ·rw[if_pos hm]
  have b:(x.tries == x.most)=true:=by simpa using hm
  have H:=Lib.hid h;go_enter Tryz.func92,Tryz.ntmps92
  clear hm h;go_wp2;go_quiet (fail)
  go_wp2_with fail
  refine (e_told e x 7 l (by omega) w0 _ R (H.out.drewN _)).mono ?_
  rintro r w1 ⟨rfl,h3⟩;go_wp2_with fail
  refine (e_told e (x.told 7 l) g noStr (by omega) w0 _ R h3).mono ?_
  rintro r w2 ⟨rfl,h4⟩;go_wp2_with fail
  refine (e_end e ((x.told 7 l).told g noStr) ok (by omega) w0 _ R h4).mono ?_
  rintro r w3 ⟨rfl,h5⟩;clear c0 c3 h3 h4;go_wp2;refine bodyPost_ret (v:=.tuple #[]) (by simp[results,Tryz.results92,go_sem]) rfl ?_
  exact⟨rfl,h5⟩
 ·rw[if_neg hm]
  have b:(x.tries == x.most)=false:=by simpa using hm
  have hw:IntKind.i64.wrap (x.tries+1)=x.tries+1:=by rw[IntKind.wrap_i64];omega
  have H:=Lib.hid h;have l3:((x.setTries (x.tries+1)).send k true true).out.length=x.out.length+1:=En.send_len (x.setTries (x.tries+1)) k true true;have f:=h.e_fr;go_enter Tryz.func92,Tryz.ntmps92
  clear hm h;go_wp2;go_quiet (fail)
  go_wp2_with fail
  refine (e_send e (x.setTries (x.tries+1)) k true true ok (show x.out.length<=100000 by omega) w0 _ R ((H.out.drewN _).e_set_tries (x.tries+1))).mono ?_
  rintro r w1 ⟨rfl,h3⟩;clear c0 c3 f;go_wp2_with fail
  refine (e_start e _ 200 (.inl rfl) (by omega) w0 _ R h3).mono ?_
  rintro r w2 ⟨rfl,h4⟩;go_wp2;go_end0
  exact⟨rfl,h4⟩
theorem e_count (e:Nat) (x:En) (n:Int) (ok:x.fl.Ok) (hl:x.out.length<=99990) (w0 w:World) (R:HP) (h:St w0 w (EnAt e x*R)) :
  Calls Tryz.prog 280 #[ptr e,.int .i64 n] w fun r w'=>r=.returned (.tuple #[])/\St w0 w' (EnAt e (x.count n)*R):=by
 obtain⟨fp,R',c7,hf,hb⟩:=h.e_fl;have hv:=f_view fp x.fl w0 w _ hf ok;unfold Fl.view at hv;unfold En.count;have l1:=x.stop_len 200;by_cases hs:x.fl.va=x.fl.vs
 ·rw[if_pos hs]
  have b:(((x.fl.va:Nat):Int) == ((x.fl.vs:Nat):Int))=true:=by simp[hs]
  have HS:=Lib.hid hs;clear hs;go_enter Tryz.func280,Tryz.ntmps280
  go_wp2_with fail
  refine hv.mono ?_
  rintro r w1 ⟨rfl,h3⟩;have h4:=(hb _ _ h3).alloc (.cells #[.int .i64 x.fl.vs,.int .i64 x.fl.va,.int .i64 x.fl.vr,.bool x.fl.peer,.bool x.fl.own,.bool x.fl.refused,.int .i64 x.fl.q.sent,.int .i64 ((x.fl.q.l.length:Int) - x.fl.q.sent)] 47);clear hv hf h3 hb c7 h;go_upto_region 1 with fail
  generalize w1.alloc _=wa at *;generalize w1.heap.size=ga at *;have d:=h4.cell;go_wp2_with fail
  refine (e_stop e x 200 (.inl rfl) (by omega) w0 _ _ h4.f2).mono ?_
  rintro r w2 ⟨rfl,h5⟩;clear d h4;go_wp2_with fail
  refine (e_start e _ 203 (.inr rfl) (by omega) w0 _ _ h5).mono ?_
  rintro r w3 ⟨rfl,h6⟩;go_wp2;go_end0
  exact⟨rfl,h6.f2.drop⟩
 ·rw[if_neg hs]
  have b:(((x.fl.va:Nat):Int) == ((x.fl.vs:Nat):Int))=false:=by simp;omega
  by_cases hn:0<n
  ·rw[if_pos hn]
   have bn:decide (n > 0)=true:=by simpa using hn
   go_enter Tryz.func280,Tryz.ntmps280
   go_wp2_with fail
   refine hv.mono ?_
   rintro r w1 ⟨rfl,h3⟩;have h4:=(hb _ _ h3).alloc (.cells #[.int .i64 x.fl.vs,.int .i64 x.fl.va,.int .i64 x.fl.vr,.bool x.fl.peer,.bool x.fl.own,.bool x.fl.refused,.int .i64 x.fl.q.sent,.int .i64 ((x.fl.q.l.length:Int) - x.fl.q.sent)] 47);clear hv hf h3 hb c7 h;go_upto_region 1 with fail
   generalize w1.alloc _=wa at *;generalize w1.heap.size=ga at *;have d:=h4.cell;go_wp2_with fail
   refine (e_start e x 200 (.inl rfl) (by omega) w0 _ _ h4.f2).mono ?_
   rintro r w2 ⟨rfl,h5⟩;clear d h4;go_wp2;go_end0
   exact⟨rfl,h5.f2.drop⟩
  ·rw[if_neg hn]
   have bn:decide (n > 0)=false:=by simpa using hn
   go_enter Tryz.func280,Tryz.ntmps280
   go_wp2_with fail
   refine hv.mono ?_
   rintro r w1 ⟨rfl,h3⟩;have h4:=(hb _ _ h3).alloc (.cells #[.int .i64 x.fl.vs,.int .i64 x.fl.va,.int .i64 x.fl.vr,.bool x.fl.peer,.bool x.fl.own,.bool x.fl.refused,.int .i64 x.fl.q.sent,.int .i64 ((x.fl.q.l.length:Int) - x.fl.q.sent)] 47);clear hv hf h3 hb c7 h;go_upto_region 1 with fail
   generalize w1.alloc _=wa at *;generalize w1.heap.size=ga at *;have d:=h4.cell;go_wp2;go_end0
   exact⟨rfl,h4.drop⟩
theorem e_inAssigned (e:Nat) (x:En) (y:Fr) (ok:x.fl.Ok) (hl:x.out.length<=98000) (w0 w:World) (R:HP) (h:St w0 w (EnAt e x*R)) :
  Calls Tryz.prog 131 #[ptr e,.agg y.cells.toArray] w fun r w'=>r=.returned (.tuple #[])/\St w0 w' (EnAt e (x.inAssigned y)*R):=by
 obtain⟨a1,a2,a3,k,pf,a6,a7,a8⟩:=y;have h2:=h.alloc (.cells (Fr.cells ⟨a1,a2,a3,k,pf,a6,a7,a8⟩).toArray TFr);have l1:=x.send_len 8 false pf;have l2:=(x.send 8 false pf).told_len 1 noStr;clear h;unfold En.inAssigned;simp only[];by_cases k4:k=4
 ·subst k4
  rw[if_pos rfl];go_enter Tryz.func131,Tryz.ntmps131
  go_upto_region 1 with fail
  generalize w.alloc _=wa at *;generalize w.heap.size=ga at *;have d:=h2.cell;go_wp2_with fail
  refine (e_reply e x 8 ⟨a1,a2,a3,4,pf,a6,a7,a8⟩ ok (by omega) w0 _ _ h2.f2).mono ?_
  rintro r w1 ⟨rfl,h3⟩;clear d h2;go_wp2_with fail
  refine (e_told e (x.send 8 false pf) 1 noStr (by omega) w0 _ _ h3).mono ?_
  rintro r w2 ⟨rfl,h4⟩;clear h3;go_wp2_with fail
  refine (e_open1 e ((x.send 8 false pf).told 1 noStr) ok (by omega) w0 _ _ h4).mono ?_
  rintro r w9 ⟨rfl,h9⟩;go_wp2;first
   | (go_end0;exact⟨rfl,h9.f2.drop⟩)
   | (refine bodyPost_ret (v:=.tuple #[]) (by simp[results,go_sem]) rfl ?_;exact⟨rfl,h9.f2.drop⟩)
 rw[if_neg k4];have b4:(k == 4)=false:=by simpa using k4
 by_cases k7:k=7
 ·subst k7
  rw[if_pos rfl];go_enter Tryz.func131,Tryz.ntmps131
  go_upto_region 1 with fail
  generalize w.alloc _=wa at *;generalize w.heap.size=ga at *;have d:=h2.cell;go_wp2_with fail
  refine (e_reply e x 5 ⟨a1,a2,a3,7,pf,a6,a7,a8⟩ ok (by omega) w0 _ _ h2.f2).mono ?_
  rintro r w9 ⟨rfl,h9⟩;go_wp2;first
   | (go_end0;exact⟨rfl,h9.f2.drop⟩)
   | (refine bodyPost_ret (v:=.tuple #[]) (by simp[results,go_sem]) rfl ?_;exact⟨rfl,h9.f2.drop⟩)
 rw[if_neg k7];have b7:(k == 7)=false:=by simpa using k7
 by_cases k8:k=8
 ·subst k8
  rw[if_pos rfl];go_enter Tryz.func131,Tryz.ntmps131
  go_upto_region 1 with fail
  generalize w.alloc _=wa at *;generalize w.heap.size=ga at *;have d:=h2.cell;go_wp2_with fail
  refine (e_strange e x ⟨a1,a2,a3,8,pf,a6,a7,a8⟩ (by omega) w0 _ _ h2.f2).mono ?_
  rintro r w9 ⟨rfl,h9⟩;go_wp2;first
   | (go_end0;exact⟨rfl,h9.f2.drop⟩)
   | (refine bodyPost_ret (v:=.tuple #[]) (by simp[results,go_sem]) rfl ?_;exact⟨rfl,h9.f2.drop⟩)
 rw[if_neg k8];have b8:(k == 8)=false:=by simpa using k8
 by_cases k5:k=5
 ·subst k5
  cases pf with
  | false =>
    rw[if_pos ⟨rfl,rfl⟩];have f4:=h2.f2.e_fr;go_enter Tryz.func131,Tryz.ntmps131
    go_upto_region 1 with fail
    generalize w.alloc _=wa at *;generalize w.heap.size=ga at *;have d:=h2.cell;have c4:=h2.f2.e_c4;have f5:=h2.f2.e_fr;have h3:=h2.f2.e_set_asked true;clear f4;go_wp2_with fail
    refine (e_call e (x.setAsked true) ok (show x.out.length<=99990 by omega) w0 _ _ h3).mono ?_
    rintro r w9 ⟨rfl,h9⟩;go_wp2;first
     | (go_end0;exact⟨rfl,h9.f2.drop⟩)
     | (refine bodyPost_ret (v:=.tuple #[]) (by simp[results,go_sem]) rfl ?_;exact⟨rfl,h9.f2.drop⟩)
  | true =>
    rw[if_neg (by simp)];go_enter Tryz.func131,Tryz.ntmps131
    go_upto_region 1 with fail
    generalize w.alloc _=wa at *;generalize w.heap.size=ga at *;have d:=h2.cell;go_wp2;go_end0
    exact⟨rfl,h2.drop⟩
 ·rw[if_neg (fun h=>k5 h.1)]
  have b5:(k == 5)=false:=by simpa using k5
  go_enter Tryz.func131,Tryz.ntmps131
  go_upto_region 1 with fail
  generalize w.alloc _=wa at *;generalize w.heap.size=ga at *;have d:=h2.cell;go_wp2;go_end0
  exact⟨rfl,h2.drop⟩
theorem En.unsure_len (x:En):x.unsure.out.length<=x.out.length+1:=by
 unfold En.unsure;split
 ·exact Nat.le_of_eq (En.told_len (x.setFl x.fl.clear) 1 noStr)
 ·omega
theorem En.unsure_ok (x:En) (ok:x.fl.Ok):x.unsure.fl.Ok:=by
 unfold En.unsure;split
 ·exact ok.clear
 ·exact ok
theorem e_inConnecting (e:Nat) (x:En) (y:Fr) (ok:x.fl.Ok) (hl:x.out.length<=98000) (w0 w:World) (R:HP) (h:St w0 w (EnAt e x*R)) :
  Calls Tryz.prog 132 #[ptr e,.agg y.cells.toArray] w fun r w'=>r=.returned (.tuple #[])/\St w0 w' (EnAt e (x.inConnecting y)*R):=by
 obtain⟨a1,a2,a3,k,pf,a6,a7,a8⟩:=y;have h2:=h.alloc (.cells (Fr.cells ⟨a1,a2,a3,k,pf,a6,a7,a8⟩).toArray TFr);clear h;unfold En.inConnecting;simp only[];by_cases k4:k=4
 ·subst k4
  rw[if_pos rfl];go_enter Tryz.func132,Tryz.ntmps132
  go_upto_region 1 with fail
  generalize w.alloc _=wa at *;generalize w.heap.size=ga at *;have d:=h2.cell;go_wp2_with fail
  refine (e_reply e x 8 ⟨a1,a2,a3,4,pf,a6,a7,a8⟩ ok (by omega) w0 _ _ h2.f2).mono ?_
  rintro r w9 ⟨rfl,h9⟩;go_wp2;first
   | (go_end0;exact⟨rfl,h9.f2.drop⟩)
   | (refine bodyPost_ret (v:=.tuple #[]) (by simp[results,go_sem]) rfl ?_;exact⟨rfl,h9.f2.drop⟩)
 rw[if_neg k4];have b4:(k == 4)=false:=by simpa using k4
 by_cases k7:k=7
 ·subst k7
  rw[if_pos rfl];go_enter Tryz.func132,Tryz.ntmps132
  go_upto_region 1 with fail
  generalize w.alloc _=wa at *;generalize w.heap.size=ga at *;have d:=h2.cell;go_wp2_with fail
  refine (e_reply e x 5 ⟨a1,a2,a3,7,pf,a6,a7,a8⟩ ok (by omega) w0 _ _ h2.f2).mono ?_
  rintro r w9 ⟨rfl,h9⟩;go_wp2;first
   | (go_end0;exact⟨rfl,h9.f2.drop⟩)
   | (refine bodyPost_ret (v:=.tuple #[]) (by simp[results,go_sem]) rfl ?_;exact⟨rfl,h9.f2.drop⟩)
 rw[if_neg k7];have b7:(k == 7)=false:=by simpa using k7
 by_cases k8:k=8
 ·subst k8
  clear b4 b7 k4 k7;cases pf with
  | false =>
    rw[if_pos ⟨rfl,rfl⟩];go_enter Tryz.func132,Tryz.ntmps132
    go_upto_region 1 with fail
    generalize w.alloc _=wa at *;generalize w.heap.size=ga at *;have d:=h2.cell;go_wp2_with fail
    refine (e_told e x 7 ⟨#[68]⟩ (by omega) w0 _ _ h2.f2).mono ?_
    rintro r w9 ⟨rfl,h9⟩;go_wp2;first
     | (go_end0;exact⟨rfl,h9.f2.drop⟩)
     | (refine bodyPost_ret (v:=.tuple #[]) (by simp[results,go_sem]) rfl ?_;exact⟨rfl,h9.f2.drop⟩)
  | true =>
    rw[if_neg (by simp),if_pos rfl];cases ha:x.asked with
    | true =>
      rw[if_pos rfl];have l1:=x.told_len 2 noStr;go_enter Tryz.func132,Tryz.ntmps132
      go_upto_region 1 with fail
      generalize w.alloc _=wa at *;generalize w.heap.size=ga at *;have d:=h2.cell;have c4:=h2.f2.e_c4;rw[ha] at c4;clear ha;go_wp2_with fail
      refine (e_told e x 2 noStr (by omega) w0 _ _ h2.f2).mono ?_
      rintro r w1 ⟨rfl,h3⟩;clear d h2 c4;have f5:=(h3).e_fr;have c5:=(h3).e_c4;have h5:=(h3).e_set_asked false;go_wp2_with fail
      refine (e_open1 e ((x.told 2 noStr).setAsked false) ok (show (x.told 2 noStr).out.length<=98990 by omega) w0 _ _ h5).mono ?_
      rintro r w9 ⟨rfl,h9⟩;go_wp2;first
       | (go_end0;exact⟨rfl,h9.f2.drop⟩)
       | (refine bodyPost_ret (v:=.tuple #[]) (by simp[results,go_sem]) rfl ?_;exact⟨rfl,h9.f2.drop⟩)
    | false =>
      rw[if_neg (by simp)];have l1:=x.unsure_len;have ok1:=x.unsure_ok ok;go_enter Tryz.func132,Tryz.ntmps132
      go_upto_region 1 with fail
      generalize w.alloc _=wa at *;generalize w.heap.size=ga at *;have d:=h2.cell;have c4:=h2.f2.e_c4;rw[ha] at c4;clear ha;go_wp2_with fail
      refine (e_unsure e x ok (by omega) w0 _ _ h2.f2).mono ?_
      rintro r w1 ⟨rfl,h3⟩;clear d h2 c4;have f5:=(h3).e_fr;have c5:=(h3).e_c4;have h5:=(h3).e_set_asked false;go_wp2_with fail
      refine (e_open1 e ((x.unsure).setAsked false) ok1 (show x.unsure.out.length<=98990 by omega) w0 _ _ h5).mono ?_
      rintro r w9 ⟨rfl,h9⟩;go_wp2;first
       | (go_end0;exact⟨rfl,h9.f2.drop⟩)
       | (refine bodyPost_ret (v:=.tuple #[]) (by simp[results,go_sem]) rfl ?_;exact⟨rfl,h9.f2.drop⟩)
 rw[if_neg (fun h=>k8 h.1),if_neg k8];have b8:(k == 8)=false:=by simpa using k8
 by_cases k5:k=5
 ·subst k5
  clear b4 b7 k4 k7 b8 k8;cases pf with
  | true =>
    rw[if_pos ⟨rfl,rfl⟩];have l1:=x.told_len 3 noStr;go_enter Tryz.func132,Tryz.ntmps132
    go_upto_region 1 with fail
    generalize w.alloc _=wa at *;generalize w.heap.size=ga at *;have d:=h2.cell;go_wp2_with fail
    refine (e_told e x 3 noStr (by omega) w0 _ _ h2.f2).mono ?_
    rintro r w1 ⟨rfl,h3⟩;clear d h2;go_wp2_with fail
    refine (e_end e (x.told 3 noStr) ok (by omega) w0 _ _ h3).mono ?_
    rintro r w9 ⟨rfl,h9⟩;go_wp2;first
     | (go_end0;exact⟨rfl,h9.f2.drop⟩)
     | (refine bodyPost_ret (v:=.tuple #[]) (by simp[results,go_sem]) rfl ?_;exact⟨rfl,h9.f2.drop⟩)
  | false =>
    rw[if_neg (by simp)];go_enter Tryz.func132,Tryz.ntmps132
    go_upto_region 1 with fail
    generalize w.alloc _=wa at *;generalize w.heap.size=ga at *;have d:=h2.cell;go_wp2;go_end0
    exact⟨rfl,h2.drop⟩
 ·rw[if_neg (fun h=>k5 h.1)]
  have b5:(k == 5)=false:=by simpa using k5
  go_enter Tryz.func132,Tryz.ntmps132
  go_upto_region 1 with fail
  generalize w.alloc _=wa at *;generalize w.heap.size=ga at *;have d:=h2.cell;go_wp2;go_end0
  exact⟨rfl,h2.drop⟩
theorem e_inReleasing (e:Nat) (x:En) (y:Fr) (ok:x.fl.Ok) (hl:x.out.length<=98000) (w0 w:World) (R:HP) (h:St w0 w (EnAt e x*R)) :
  Calls Tryz.prog 133 #[ptr e,.agg y.cells.toArray] w fun r w'=>r=.returned (.tuple #[])/\St w0 w' (EnAt e (x.inReleasing y)*R):=by
 obtain⟨a1,a2,a3,k,pf,a6,a7,a8⟩:=y;have h2:=h.alloc (.cells (Fr.cells ⟨a1,a2,a3,k,pf,a6,a7,a8⟩).toArray TFr);clear h;unfold En.inReleasing;simp only[];by_cases k4:k=4
 ·subst k4
  rw[if_pos rfl];go_enter Tryz.func133,Tryz.ntmps133
  go_upto_region 1 with fail
  generalize w.alloc _=wa at *;generalize w.heap.size=ga at *;have d:=h2.cell;go_wp2_with fail
  refine (e_reply e x 5 ⟨a1,a2,a3,4,pf,a6,a7,a8⟩ ok (by omega) w0 _ _ h2.f2).mono ?_
  rintro r w9 ⟨rfl,h9⟩;go_wp2;first
   | (go_end0;exact⟨rfl,h9.f2.drop⟩)
   | (refine bodyPost_ret (v:=.tuple #[]) (by simp[results,go_sem]) rfl ?_;exact⟨rfl,h9.f2.drop⟩)
 rw[if_neg k4];have b4:(k == 4)=false:=by simpa using k4
 by_cases k7:k=7
 ·subst k7
  rw[if_pos rfl];go_enter Tryz.func133,Tryz.ntmps133
  go_upto_region 1 with fail
  generalize w.alloc _=wa at *;generalize w.heap.size=ga at *;have d:=h2.cell;go_wp2_with fail
  refine (e_reply e x 8 ⟨a1,a2,a3,7,pf,a6,a7,a8⟩ ok (by omega) w0 _ _ h2.f2).mono ?_
  rintro r w9 ⟨rfl,h9⟩;go_wp2;first
   | (go_end0;exact⟨rfl,h9.f2.drop⟩)
   | (refine bodyPost_ret (v:=.tuple #[]) (by simp[results,go_sem]) rfl ?_;exact⟨rfl,h9.f2.drop⟩)
 rw[if_neg k7];have b7:(k == 7)=false:=by simpa using k7
 by_cases k8:k=8
 ·subst k8
  clear b4 b7 k4 k7;cases pf with
  | false =>
    rw[if_pos ⟨rfl,rfl⟩];go_enter Tryz.func133,Tryz.ntmps133
    go_upto_region 1 with fail
    generalize w.alloc _=wa at *;generalize w.heap.size=ga at *;have d:=h2.cell;go_wp2_with fail
    refine (e_told e x 7 ⟨#[68]⟩ (by omega) w0 _ _ h2.f2).mono ?_
    rintro r w9 ⟨rfl,h9⟩;go_wp2;first
     | (go_end0;exact⟨rfl,h9.f2.drop⟩)
     | (refine bodyPost_ret (v:=.tuple #[]) (by simp[results,go_sem]) rfl ?_;exact⟨rfl,h9.f2.drop⟩)
  | true =>
    rw[if_neg (by simp),if_pos ⟨rfl,.inl rfl⟩];have l1:=x.told_len 4 noStr;go_enter Tryz.func133,Tryz.ntmps133
    go_upto_region 1 with fail
    generalize w.alloc _=wa at *;generalize w.heap.size=ga at *;have d:=h2.cell;go_wp2_with fail
    refine (e_told e x 4 noStr (by omega) w0 _ _ h2.f2).mono ?_
    rintro r w1 ⟨rfl,h3⟩;clear d h2;go_wp2_with fail
    refine (e_end e (x.told 4 noStr) ok (by omega) w0 _ _ h3).mono ?_
    rintro r w9 ⟨rfl,h9⟩;go_wp2;first
     | (go_end0;exact⟨rfl,h9.f2.drop⟩)
     | (refine bodyPost_ret (v:=.tuple #[]) (by simp[results,go_sem]) rfl ?_;exact⟨rfl,h9.f2.drop⟩)
 rw[if_neg (fun h=>k8 h.1)];have b8:(k == 8)=false:=by simpa using k8
 by_cases k5:k=5
 ·subst k5
  clear b4 b7 k4 k7 b8 k8;cases pf with
  | true =>
    rw[if_pos ⟨rfl,.inr rfl⟩];have l1:=x.told_len 4 noStr;go_enter Tryz.func133,Tryz.ntmps133
    go_upto_region 1 with fail
    generalize w.alloc _=wa at *;generalize w.heap.size=ga at *;have d:=h2.cell;go_wp2_with fail
    refine (e_told e x 4 noStr (by omega) w0 _ _ h2.f2).mono ?_
    rintro r w1 ⟨rfl,h3⟩;clear d h2;go_wp2_with fail
    refine (e_end e (x.told 4 noStr) ok (by omega) w0 _ _ h3).mono ?_
    rintro r w9 ⟨rfl,h9⟩;go_wp2;first
     | (go_end0;exact⟨rfl,h9.f2.drop⟩)
     | (refine bodyPost_ret (v:=.tuple #[]) (by simp[results,go_sem]) rfl ?_;exact⟨rfl,h9.f2.drop⟩)
  | false =>
    rw[if_neg (by simp)];go_enter Tryz.func133,Tryz.ntmps133
    go_upto_region 1 with fail
    generalize w.alloc _=wa at *;generalize w.heap.size=ga at *;have d:=h2.cell;go_wp2;go_end0
    exact⟨rfl,h2.drop⟩
 ·rw[if_neg (fun h=>h.2.elim k8 k5)]
  have b5:(k == 5)=false:=by simpa using k5
  cases pf with
  | true =>
    go_enter Tryz.func133,Tryz.ntmps133
    go_upto_region 1 with fail
    generalize w.alloc _=wa at *;generalize w.heap.size=ga at *;have d:=h2.cell;go_wp2;go_end0
    exact⟨rfl,h2.drop⟩
  | false =>
    go_enter Tryz.func133,Tryz.ntmps133
    go_upto_region 1 with fail
    generalize w.alloc _=wa at *;generalize w.heap.size=ga at *;have d:=h2.cell;go_wp2;go_end0
    exact⟨rfl,h2.drop⟩
end Go.Proofs.YtjcldoejpldcmaaGreatDoor
