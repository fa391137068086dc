/- Parts of a proof (Ren). No condition. -/
import Derived.Test.YtnnahljdhdippaaGreatDoorC8
namespace Go.Proofs.YtnnahljdhdippaaGreatDoor
set_option maxRecDepth 100000
set_option maxHeartbeats 6400000
open Go.RowKit
abbrev TRe:TypeId:=141
abbrev TRx:TypeId:=228
abbrev TRf:TypeId:=148
theorem tyRx:ETy Tryz.prog 139 TRx 11 104 Fx.cells :=
 ⟨Tryz.underlying139,⟨.agg #[.int .i64 0,.int .i64 0,.int .i64 0,.bool false,.int .i64 0,.bool false,.int .i64 0,.int .i64 0,.string noStr,.string noStr,.int .i64 0],by kernel_rfl,rfl⟩,fun _=>rfl,fun b u hu=>by simp[Fx.cells] at hu;rcases hu with rfl | rfl | rfl | rfl | rfl | rfl | rfl | rfl | rfl | rfl | rfl <;> rfl,by decide,by decide⟩
abbrev En.rcells (x:En) (fp:Nat) (uv ov:Value):Array Value:=#[.int .i64 x.most,.int .i64 x.state,.int .i64 x.tei,.int .i64 x.tries,.bool x.asked,.bool x.t2,.bool x.t3,uv,ptr fp,ov]
def RnAt (e:Nat) (x:En):HP:=hex fun z:Nat × Value × Value =>
 blk e (.cells (x.rcells z.1 z.2.1 z.2.2) TRe (0,0))*(LAt TRx 11 Fx.cells z.2.2 x.out*(FAt TG TR z.1 x.fl*Row 9 1 z.2.1 x.units.length (strs x.units)))
section
variable {w0 w:World} {R:HP} {e:Nat} {x:En}
theorem St.n_open (h:St w0 w (RnAt e x*R)):∃ fp uv ov,St w0 w (blk e (.cells (x.rcells fp uv ov) TRe (0,0))*(LAt TRx 11 Fx.cells ov x.out*(FAt TG TR fp x.fl*(Row 9 1 uv x.units.length (strs x.units)*R)))):=by
 obtain⟨⟨fp,uv,ov⟩,h⟩:=h.ex;exact⟨fp,uv,ov,h.eq (by simp only[star_assoc])⟩
theorem St.n_shut {fp:Nat} {uv ov:Value} {c:Array Value} {out:List Fx} {fl:Fl} {n:Nat} {us:List Value} (h:St w0 w (blk e (.cells c TRe (0,0))*(LAt TRx 11 Fx.cells ov out*(FAt TG TR fp fl*(Row 9 1 uv n us*R)))))
  (hc:c=x.rcells fp uv ov) (ho:out=x.out) (hf:fl=x.fl) (hn:n=x.units.length) (hu:us=strs x.units):St w0 w (RnAt e x*R):=by
 subst hc ho hf hn hu;exact St.mk_ex (fp,uv,ov) (h.eq (by simp only[star_assoc]))
theorem St.n_set_state (h:St w0 w (RnAt e x*R)) (v:Int):St w0 (w.setCell ⟨e,1,none⟩ (.int .i64 v)) (RnAt e (x.setState v)*R):=by
 obtain⟨fp,uv,ov,h1⟩:=h.n_open;exact (h1.set 1 (.int .i64 v)).n_shut (x:=x.setState v) rfl rfl rfl rfl rfl
theorem St.n_set_tei (h:St w0 w (RnAt e x*R)) (v:Int):St w0 (w.setCell ⟨e,2,none⟩ (.int .i64 v)) (RnAt e (x.setTei v)*R):=by
 obtain⟨fp,uv,ov,h1⟩:=h.n_open;exact (h1.set 2 (.int .i64 v)).n_shut (x:=x.setTei v) rfl rfl rfl rfl rfl
theorem St.n_set_tries (h:St w0 w (RnAt e x*R)) (v:Int):St w0 (w.setCell ⟨e,3,none⟩ (.int .i64 v)) (RnAt e (x.setTries v)*R):=by
 obtain⟨fp,uv,ov,h1⟩:=h.n_open;exact (h1.set 3 (.int .i64 v)).n_shut (x:=x.setTries v) rfl rfl rfl rfl rfl
theorem St.n_set_asked (h:St w0 w (RnAt e x*R)) (v:Bool):St w0 (w.setCell ⟨e,4,none⟩ (.bool v)) (RnAt e (x.setAsked v)*R):=by
 obtain⟨fp,uv,ov,h1⟩:=h.n_open;exact (h1.set 4 (.bool v)).n_shut (x:=x.setAsked v) rfl rfl rfl rfl rfl
theorem St.n_set_t2 (h:St w0 w (RnAt e x*R)) (v:Bool):St w0 (w.setCell ⟨e,5,none⟩ (.bool v)) (RnAt e (x.setT 200 v)*R):=by
 obtain⟨fp,uv,ov,h1⟩:=h.n_open;exact (h1.set 5 (.bool v)).n_shut (x:=x.setT 200 v) rfl rfl rfl rfl rfl
theorem St.n_set_t3 (h:St w0 w (RnAt e x*R)) (v:Bool):St w0 (w.setCell ⟨e,6,none⟩ (.bool v)) (RnAt e (x.setT 203 v)*R):=by
 obtain⟨fp,uv,ov,h1⟩:=h.n_open;exact (h1.set 6 (.bool v)).n_shut (x:=x.setT 203 v) rfl rfl rfl rfl rfl
theorem St.n_set_out (h:St w0 w (RnAt e x*R)):St w0 (w.setCell ⟨e,9,none⟩ (.slice none 0 0)) (RnAt e (x.setOut [])*R):=by
 obtain⟨fp,uv,ov,h1⟩:=h.n_open;have h2:=(h1.set 9 (.slice none 0 0)).l_nil TRx 11 Fx.cells;have h3:=h2.eq (show _=blk e (.cells ((x.rcells fp uv ov).setIfInBounds 9 (.slice none 0 0)) TRe (0,0))*(LAt TRx 11 Fx.cells (.slice none 0 0) []*(FAt TG TR fp x.fl*(Row 9 1 uv x.units.length (strs x.units)*(LAt TRx 11 Fx.cells ov x.out*R)))) by ac_rfl);exact (h3.n_shut (x:=x.setOut []) rfl rfl rfl rfl rfl).f2.drop
theorem St.n_set_units (h:St w0 w (RnAt e x*R)):St w0 (w.setCell ⟨e,7,none⟩ (.slice none 0 0)) (RnAt e (x.setUnits [])*R):=by
 obtain⟨fp,uv,ov,h1⟩:=h.n_open;have h2:=(h1.set 7 (.slice none 0 0)).row_nil 9 1;have h3:=h2.eq (show _=blk e (.cells ((x.rcells fp uv ov).setIfInBounds 7 (.slice none 0 0)) TRe (0,0))*(LAt TRx 11 Fx.cells ov x.out*(FAt TG TR fp x.fl*(Row 9 1 (.slice none 0 0) 0 []*(Row 9 1 uv x.units.length (strs x.units)*R)))) by ac_rfl);exact (h3.n_shut (x:=x.setUnits []) rfl rfl rfl rfl rfl).f2.drop
theorem St.n_fl (h:St w0 w (RnAt e x*R)):∃ fp R',w.cell? ⟨e,8,none⟩=some (ptr fp)/\St w0 w (FAt TG TR fp x.fl*R')/\(∀ w' fl,St w0 w' (FAt TG TR fp fl*R')->St w0 w' (RnAt e (x.setFl fl)*R))/\∀ w' fl,St w0 w' (FAt TG TR fp fl*R')->w'.cell? ⟨e,8,none⟩=some (ptr fp):=by
 obtain⟨fp,uv,ov,h1⟩:=h.n_open;exact⟨fp,_,h1.cell 8,h1.f3,fun w' fl h2=>h2.b3.n_shut (x:=x.setFl fl) rfl rfl rfl rfl rfl,fun w' fl h2=>h2.b3.cell 8⟩
theorem St.n_c0 (h:St w0 w (RnAt e x*R)):w.cell? ⟨e,0,none⟩=some (.int .i64 x.most):=by obtain⟨fp,uv,ov,h1⟩:=h.n_open;exact h1.cell 0
theorem St.n_c1 (h:St w0 w (RnAt e x*R)):w.cell? ⟨e,1,none⟩=some (.int .i64 x.state):=by obtain⟨fp,uv,ov,h1⟩:=h.n_open;exact h1.cell 1
theorem St.n_c2 (h:St w0 w (RnAt e x*R)):w.cell? ⟨e,2,none⟩=some (.int .i64 x.tei):=by obtain⟨fp,uv,ov,h1⟩:=h.n_open;exact h1.cell 2
theorem St.n_c3 (h:St w0 w (RnAt e x*R)):w.cell? ⟨e,3,none⟩=some (.int .i64 x.tries):=by obtain⟨fp,uv,ov,h1⟩:=h.n_open;exact h1.cell 3
theorem St.n_c4 (h:St w0 w (RnAt e x*R)):w.cell? ⟨e,4,none⟩=some (.bool x.asked):=by obtain⟨fp,uv,ov,h1⟩:=h.n_open;exact h1.cell 4
theorem St.n_c5 (h:St w0 w (RnAt e x*R)):w.cell? ⟨e,5,none⟩=some (.bool x.t2):=by obtain⟨fp,uv,ov,h1⟩:=h.n_open;exact h1.cell 5
theorem St.n_c6 (h:St w0 w (RnAt e x*R)):w.cell? ⟨e,6,none⟩=some (.bool x.t3):=by obtain⟨fp,uv,ov,h1⟩:=h.n_open;exact h1.cell 6
theorem St.n_fr (h:St w0 w (RnAt e x*R)):∀ i,w.frozen? ⟨e,i,none⟩=false:=by obtain⟨fp,uv,ov,h1⟩:=h.n_open;exact h1.free
end
theorem n_tell (e:Nat) (x:En) (k:Int) (d:ByteArray) (hl:x.out.length<=100000) (w0 w:World) (R:HP) (h:St w0 w (RnAt e x*R)) :
  Calls Tryz.prog 166 #[ptr e,.int .i64 k,.string d] w fun r w'=>r=.returned (.tuple #[])/\St w0 w' (RnAt e (x.told k d)*R):=by
 obtain⟨fp,uv,ov,h1⟩:=h.n_open;have hA0:=(h1.alloc (.cells (Fx.of k d).cells.toArray TRx)).drop;have hA:=hA0.f2;have c:=h1.cell;clear h h1 hA0;go_enter Tryz.func166,Tryz.ntmps166
 go_wp2_with (at_builtin;refine wp_append_elem rfl (.tmp 10) (.tmp 14) rfl tyRx hA (Fx.of k d) rfl _ rfl (new_cells _ (Fx.of k d).cells _ _ (by simp)) (by omega) ?ha;(case' ha=>(intro g off cap w8 h8;have c8:=h8.f2.cell;have f8:=h8.f2.free)))
 go_end0
 exact⟨rfl,(h8.f2.set 9 (.slice (some ⟨g,off,none⟩) (x.out.length+1) cap)).n_shut (x:=x.told k d) rfl rfl rfl rfl rfl⟩
theorem t_numb (k:Int) (w:World):Calls Tryz.prog 179 #[.int .i64 k] w fun r w'=>r=.returned (.bool (numb k))/\w=w':=by
 by_cases h0:k=0
 ·subst h0
  go_enter Tryz.func179,Tryz.ntmps179
  go_wp2;go_ret
  exact⟨rfl,rfl⟩
 have b0:(k == 0)=false:=by simpa using h0
 by_cases h1:k=1
 ·subst h1
  clear b0;go_enter Tryz.func179,Tryz.ntmps179
  go_wp2;go_ret
  exact⟨rfl,rfl⟩
 have b1:(k == 1)=false:=by simpa using h1
 by_cases h2:k=2
 ·subst h2
  clear b0 b1;go_enter Tryz.func179,Tryz.ntmps179
  go_wp2;go_ret
  exact⟨rfl,rfl⟩
 have b2:(k == 2)=false:=by simpa using h2
 by_cases h3:k=3
 ·subst h3
  clear b0 b1 b2;go_enter Tryz.func179,Tryz.ntmps179
  go_wp2;go_ret
  exact⟨rfl,rfl⟩
 have b3:(k == 3)=false:=by simpa using h3
 have e:numb k=false:=by unfold numb;by_cases p:0<=k <;> simp[p];omega
 rw[e];clear e h0 h1 h2 h3;go_enter Tryz.func179,Tryz.ntmps179
 go_wp2;go_ret
 exact⟨rfl,rfl⟩
theorem n_start (e:Nat) (x:En) (t:Int) (ht:t=200\/t=203) (hl:x.out.length<=100000) (w0 w:World) (R:HP) (h:St w0 w (RnAt e x*R)) :
  Calls Tryz.prog 171 #[ptr e,.int .i64 t] w fun r w'=>r=.returned (.tuple #[])/\St w0 w' (RnAt e (x.start t)*R):=by
 have f0:=h.n_fr;have c5:=h.n_c5;have c6:=h.n_c6;unfold En.start;rcases ht with rfl | rfl
 ·have h2:=h.n_set_t2 true
  have lt:=x.setT_out 200 true;clear h;generalize x.setT 200 true=x2 at *;go_enter Tryz.func171,Tryz.ntmps171
  go_upto_region 3 with fail
  generalize w.setCell _ _=w2 at *;clear f0 c5 c6;rw[← lt] at hl;clear lt;obtain⟨fp,uv,ov,h1⟩:=h2.n_open;have hA0:=(h1.alloc (.cells (Fx.tim 9 200).cells.toArray TRx)).drop;have hA:=hA0.f2;have c:=h1.cell;clear h2 h1 hA0;go_wp2_with (at_builtin;refine wp_append_elem rfl (.tmp 16) (.tmp 19) rfl tyRx hA (Fx.tim 9 200) rfl _ rfl (new_cells _ (Fx.tim 9 200).cells _ _ (by simp)) (by omega) ?ha;(case' ha=>(intro g off cap w8 h8;have c8:=h8.f2.cell;have f8:=h8.f2.free)))
  go_end0
  exact⟨rfl,(h8.f2.set 9 (.slice (some ⟨g,off,none⟩) ((x2).out.length+1) cap)).n_shut (x:=(x2).tell (Fx.tim 9 200)) rfl rfl rfl rfl rfl⟩
 ·have h2:=h.n_set_t3 true
  have lt:=x.setT_out 203 true;clear h;generalize x.setT 203 true=x2 at *;go_enter Tryz.func171,Tryz.ntmps171
  go_upto_region 3 with fail
  generalize w.setCell _ _=w2 at *;clear f0 c5 c6;rw[← lt] at hl;clear lt;obtain⟨fp,uv,ov,h1⟩:=h2.n_open;have hA0:=(h1.alloc (.cells (Fx.tim 9 203).cells.toArray TRx)).drop;have hA:=hA0.f2;have c:=h1.cell;clear h2 h1 hA0;go_wp2_with (at_builtin;refine wp_append_elem rfl (.tmp 16) (.tmp 19) rfl tyRx hA (Fx.tim 9 203) rfl _ rfl (new_cells _ (Fx.tim 9 203).cells _ _ (by simp)) (by omega) ?hb;(case' hb=>(intro g off cap w8 h8;have c8:=h8.f2.cell;have f8:=h8.f2.free)))
  go_end0
  exact⟨rfl,(h8.f2.set 9 (.slice (some ⟨g,off,none⟩) ((x2).out.length+1) cap)).n_shut (x:=(x2).tell (Fx.tim 9 203)) rfl rfl rfl rfl rfl⟩
theorem n_stop (e:Nat) (x:En) (t:Int) (ht:t=200\/t=203) (hl:x.out.length<=100000) (w0 w:World) (R:HP) (h:St w0 w (RnAt e x*R)) :
  Calls Tryz.prog 170 #[ptr e,.int .i64 t] w fun r w'=>r=.returned (.tuple #[])/\St w0 w' (RnAt e (x.stop t)*R):=by
 have f0:=h.n_fr;have c5:=h.n_c5;have c6:=h.n_c6;obtain⟨z,hz⟩:∃ z,x.stop t=z:=⟨_,rfl⟩;rw[hz];unfold En.stop at hz;have hr:x.runs 200=x.t2:=rfl;have hr3:x.runs 203=x.t3:=rfl;rcases ht with rfl | rfl
 ·rw[hr] at hz
  clear hr hr3;cases ha:x.t2 with
  | false =>
    rw[ha] at hz c5;rw[if_neg (by simp)] at hz;subst hz;clear ha;go_enter Tryz.func170,Tryz.ntmps170
    go_wp2;refine bodyPost_ret (v:=.tuple #[]) (by simp[results,Tryz.results170,go_sem]) rfl ?_
    exact⟨rfl,h⟩
  | true =>
    rw[ha] at hz c5;rw[if_pos rfl] at hz;have h2:=h.n_set_t2 false;have lt:=x.setT_out 200 false;clear h ha;generalize x.setT 200 false=x2 at *;subst hz;go_enter Tryz.func170,Tryz.ntmps170
    go_upto_region 7 with fail
    generalize w.setCell _ _=w2 at *;clear f0 c5 c6;rw[← lt] at hl;clear lt;obtain⟨fp,uv,ov,h1⟩:=h2.n_open;have hA0:=(h1.alloc (.cells (Fx.tim 10 200).cells.toArray TRx)).drop;have hA:=hA0.f2;have c:=h1.cell;clear h2 h1 hA0;go_wp2_with (at_builtin;refine wp_append_elem rfl (.tmp 29) (.tmp 32) rfl tyRx hA (Fx.tim 10 200) rfl _ rfl (new_cells _ (Fx.tim 10 200).cells _ _ (by simp)) (by omega) ?ha;(case' ha=>(intro g off cap w8 h8;have c8:=h8.f2.cell;have f8:=h8.f2.free)))
    go_end0
    exact⟨rfl,(h8.f2.set 9 (.slice (some ⟨g,off,none⟩) ((x2).out.length+1) cap)).n_shut (x:=(x2).tell (Fx.tim 10 200)) rfl rfl rfl rfl rfl⟩
 ·rw[hr3] at hz
  clear hr hr3;cases ha:x.t3 with
  | false =>
    rw[ha] at hz c6;rw[if_neg (by simp)] at hz;subst hz;clear ha;go_enter Tryz.func170,Tryz.ntmps170
    go_wp2;refine bodyPost_ret (v:=.tuple #[]) (by simp[results,Tryz.results170,go_sem]) rfl ?_
    exact⟨rfl,h⟩
  | true =>
    rw[ha] at hz c6;rw[if_pos rfl] at hz;have h2:=h.n_set_t3 false;have lt:=x.setT_out 203 false;clear h ha;generalize x.setT 203 false=x2 at *;subst hz;go_enter Tryz.func170,Tryz.ntmps170
    go_upto_region 7 with fail
    generalize w.setCell _ _=w2 at *;clear f0 c5 c6;rw[← lt] at hl;clear lt;obtain⟨fp,uv,ov,h1⟩:=h2.n_open;have hA0:=(h1.alloc (.cells (Fx.tim 10 203).cells.toArray TRx)).drop;have hA:=hA0.f2;have c:=h1.cell;clear h2 h1 hA0;go_wp2_with (at_builtin;refine wp_append_elem rfl (.tmp 29) (.tmp 32) rfl tyRx hA (Fx.tim 10 203) rfl _ rfl (new_cells _ (Fx.tim 10 203).cells _ _ (by simp)) (by omega) ?hb;(case' hb=>(intro g off cap w8 h8;have c8:=h8.f2.cell;have f8:=h8.f2.free)))
    go_end0
    exact⟨rfl,(h8.f2.set 9 (.slice (some ⟨g,off,none⟩) ((x2).out.length+1) cap)).n_shut (x:=(x2).tell (Fx.tim 10 203)) rfl rfl rfl rfl rfl⟩
def En.sendF (x:En) (f:Fr):En:=x.tell ⟨0,{ f with tei:=x.tei,nr:=if numb f.kind=true then (x.fl.vr:Int) else f.nr },noStr,0⟩
theorem n_send (e:Nat) (x:En) (f:Fr) (hl:x.out.length<=100000) (w0 w:World) (R:HP) (h:St w0 w (RnAt e x*R)) :
  Calls Tryz.prog 169 #[ptr e,.agg f.cells.toArray] w fun r w'=>r=.returned (.tuple #[])/\St w0 w' (RnAt e (x.sendF f)*R):=by
 obtain⟨a1,a2,cmd,k,pf,ns,nr,inf⟩:=f;have h2:=h.alloc (.cells (Fr.cells ⟨a1,a2,cmd,k,pf,ns,nr,inf⟩).toArray TRf);clear h;have hk:=t_numb k;unfold En.sendF;simp only[];cases hn:numb k with
 | false =>
   rw[hn] at hk;rw[if_neg (by simp)];go_enter Tryz.func169,Tryz.ntmps169
   go_upto_region 1 with fail
   generalize w.alloc _=wa at *;generalize w.heap.size=ga at *;have c2:=h2.f2.n_c2;have d:=h2.cell;have f:=h2.free;have h3:=h2.set 1 (.int .i64 x.tei);go_upto_region 2 with fail
   generalize wa.setCell _ _=wb at *;clear h2 c2 f d;have d:=h3.cell;go_wp2_with fail
   refine (hk wb).mono ?_
   rintro r w1 ⟨rfl,rfl⟩;go_upto_region 5 with fail
   have h4:St w0 wb (blk ga (.cells #[.int .i64 a1,.int .i64 x.tei,.bool cmd,.int .i64 k,.bool pf,.int .i64 ns,.int .i64 nr,.string inf] TRf (0,0))*(RnAt e x*R)):=h3;clear h3 d;have HX0:=h4;obtain⟨fp,uv,ov,h1⟩:=h4.f2.n_open;have ltg:=h4.lt;have lte:=h1.lt;have c:=h1.cell;have dd:=h4.cell;have hx:=((h1.alloc (.cells (Fx.cells ⟨0,(⟨a1,x.tei,cmd,k,pf,ns,nr,inf⟩:Fr),noStr,0⟩).toArray TRx)).l_mk tyRx.len [⟨0,(⟨a1,x.tei,cmd,k,pf,ns,nr,inf⟩:Fr),noStr,0⟩] 1 rfl (by simp) (by decide)).f3;have hge:(x.out.length+[(⟨0,(⟨a1,x.tei,cmd,k,pf,ns,nr,inf⟩:Fr),noStr,0⟩:Fx)].length)*104<=140737488355328:=by simp;omega
   have HX:=Lib.hid hx;clear hx h1 HX0 h4;go_region_law (refine step_append_l rfl (.tmp 26) (.tmp 29) rfl tyRx HX.out.drew (by simp) rfl rfl hge ?_;intro g off cap w8 h8;have c8:=h8.f2.cell;have f8:=h8.f2.free)
   all_goals (
    go_end0
    exact⟨rfl,(((h8.f2.set 9 (.slice (some ⟨g,off,none⟩) (x.out.length+1) cap)).n_shut (x:=x.tell ⟨0,(⟨a1,x.tei,cmd,k,pf,ns,nr,inf⟩:Fr),noStr,0⟩) rfl rfl rfl rfl rfl).f2).drop⟩)
 | true =>
   rw[hn] at hk;rw[if_pos rfl];go_enter Tryz.func169,Tryz.ntmps169
   go_upto_region 1 with fail
   generalize w.alloc _=wa at *;generalize w.heap.size=ga at *;have c2:=h2.f2.n_c2;have d:=h2.cell;have f:=h2.free;have h3:=h2.set 1 (.int .i64 x.tei);go_upto_region 2 with fail
   generalize wa.setCell _ _=wb at *;clear h2 c2 f d;have d:=h3.cell;go_wp2_with fail
   refine (hk wb).mono ?_
   rintro r w1 ⟨rfl,rfl⟩;obtain⟨fp,R',c8,hf,hb,hc⟩:=h3.f2.n_fl;obtain⟨qp,hf1⟩:=hf.f_open;have cv:wb.cell? ⟨fp,2,none⟩=some (.int .i64 x.fl.vr):=hf1.cell 2;have f:=h3.free;have h5:=h3.set 6 (.int .i64 x.fl.vr);clear hf1 hf hb hc;go_upto_region 5 with fail
   generalize wb.setCell _ _=wc at *;have h4:St w0 wc (blk ga (.cells #[.int .i64 a1,.int .i64 x.tei,.bool cmd,.int .i64 k,.bool pf,.int .i64 ns,.int .i64 x.fl.vr,.string inf] TRf (0,0))*(RnAt e x*R)):=h5;clear h3 d h5 f cv c8;have HX0:=h4;obtain⟨fp,uv,ov,h1⟩:=h4.f2.n_open;have ltg:=h4.lt;have lte:=h1.lt;have c:=h1.cell;have dd:=h4.cell;have hx:=((h1.alloc (.cells (Fx.cells ⟨0,(⟨a1,x.tei,cmd,k,pf,ns,x.fl.vr,inf⟩:Fr),noStr,0⟩).toArray TRx)).l_mk tyRx.len [⟨0,(⟨a1,x.tei,cmd,k,pf,ns,x.fl.vr,inf⟩:Fr),noStr,0⟩] 1 rfl (by simp) (by decide)).f3;have hge:(x.out.length+[(⟨0,(⟨a1,x.tei,cmd,k,pf,ns,x.fl.vr,inf⟩:Fr),noStr,0⟩:Fx)].length)*104<=140737488355328:=by simp;omega
   have HX:=Lib.hid hx;clear hx h1 HX0 h4;go_region_law (refine step_append_l rfl (.tmp 26) (.tmp 29) rfl tyRx HX.out.drew (by simp) rfl rfl hge ?_;intro g off cap w8 h8;have c8:=h8.f2.cell;have f8:=h8.f2.free)
   all_goals (
    go_end0
    exact⟨rfl,(((h8.f2.set 9 (.slice (some ⟨g,off,none⟩) (x.out.length+1) cap)).n_shut (x:=x.tell ⟨0,(⟨a1,x.tei,cmd,k,pf,ns,x.fl.vr,inf⟩:Fr),noStr,0⟩) rfl rfl rfl rfl rfl).f2).drop⟩)
theorem n_call (e:Nat) (x:En) (hl:x.out.length<=99990) (w0 w:World) (R:HP) (h:St w0 w (RnAt e x*R)) :
  Calls Tryz.prog 168 #[ptr e] w fun r w'=>r=.returned (.tuple #[])/\St w0 w' (RnAt e x.call*R):=by
 have h2:=h.n_set_tries 0;have l1:((x.setTries 0).send 4 true true).out.length=x.out.length+1:=En.send_len (x.setTries 0) 4 true true;have l2:=En.stop_len ((x.setTries 0).send 4 true true) 203;have c3:=h.n_c3;have f:=h.n_fr;clear h;go_enter Tryz.func168,Tryz.ntmps168
 go_wp2_with fail
 refine (n_send e (x.setTries 0) ⟨0,0,true,4,true,0,0,noStr⟩ (show x.out.length<=100000 by omega) w0 _ R h2).mono ?_
 rintro r w_ ⟨rfl,h3⟩;clear h2 c3 f;go_wp2_with fail
 refine (n_stop e ((x.setTries 0).send 4 true true) 203 (.inr rfl) (by omega) w0 _ R h3).mono ?_
 rintro r w_ ⟨rfl,h4⟩;go_wp2_with fail
 refine (n_start e _ 200 (.inl rfl) (by omega) w0 _ R h4).mono ?_
 rintro r w_ ⟨rfl,h5⟩;have c1:=h5.n_c1;have f:=h5.n_fr;have h6:=h5.n_set_state 5;clear h3 h4 h5;go_wp2;first
  | (go_end0;exact⟨rfl,h6⟩)
  | (refine bodyPost_ret (v:=.tuple #[]) (by simp[results,go_sem]) rfl ?_;exact⟨rfl,h6⟩)
theorem n_anew (e:Nat) (x:En) (l:ByteArray) (hl:x.out.length<=99980) (w0 w:World) (R:HP) (h:St w0 w (RnAt e x*R)) :
  Calls Tryz.prog 216 #[ptr e,.string l] w fun r w'=>r=.returned (.tuple #[])/\St w0 w' (RnAt e (x.anew l)*R):=by
 have l1:=x.told_len 7 l;go_enter Tryz.func216,Tryz.ntmps216
 go_wp2_with fail
 refine (n_tell e x 7 l (by omega) w0 _ R h).mono ?_
 rintro r w_ ⟨rfl,h2⟩;have c4:=h2.n_c4;have f:=h2.n_fr;have h3:=h2.n_set_asked false;clear h2;go_wp2_with fail
 refine (n_call e ((x.told 7 l).setAsked false) (show (x.told 7 l).out.length<=99990 by omega) w0 _ R h3).mono ?_
 rintro r w_ ⟨rfl,h4⟩;clear c4 f h3;go_wp2;first
  | (go_end0;exact⟨rfl,h4⟩)
  | (refine bodyPost_ret (v:=.tuple #[]) (by simp[results,go_sem]) rfl ?_;exact⟨rfl,h4⟩)
theorem n_answer (e:Nat) (x:En) (a b:Bool) (hl:x.out.length<=100000) (w0 w:World) (R:HP) (h:St w0 w (RnAt e x*R)) :
  Calls Tryz.prog 96 #[ptr e,.bool a,.bool b] w fun r w'=>r=.returned (.tuple #[])/\St w0 w' (RnAt e (x.superv a b)*R):=by
 obtain⟨fp,R',c8,hf,hb,hc⟩:=h.n_fl;obtain⟨qp,hf1⟩:=hf.f_open;have cv:w.cell? ⟨fp,4,none⟩=some (.bool x.fl.own):=hf1.cell 4;clear hf1 hf hb hc;unfold En.superv;cases ho:x.fl.own with
 | true =>
   rw[ho] at cv;rw[if_pos rfl];go_enter Tryz.func96,Tryz.ntmps96
   go_wp2_with fail
   refine (n_send e x ⟨0,0,a,2,b,0,0,noStr⟩ hl w0 _ R h).mono ?_
   rintro r w_ ⟨rfl,h2⟩;clear cv c8 h;go_wp2;first
    | (go_end0;exact⟨rfl,h2⟩)
    | (refine bodyPost_ret (v:=.tuple #[]) (by simp[results,go_sem]) rfl ?_;exact⟨rfl,h2⟩)
 | false =>
   rw[ho] at cv;rw[if_neg (by simp)];go_enter Tryz.func96,Tryz.ntmps96
   go_wp2_with fail
   refine (n_send e x ⟨0,0,a,1,b,0,0,noStr⟩ hl w0 _ R h).mono ?_
   rintro r w_ ⟨rfl,h2⟩;clear cv c8 h;go_wp2;first
    | (go_end0;exact⟨rfl,h2⟩)
    | (refine bodyPost_ret (v:=.tuple #[]) (by simp[results,go_sem]) rfl ?_;exact⟨rfl,h2⟩)
theorem n_inquire (e:Nat) (x:En) (hl:x.out.length<=99990) (w0 w:World) (R:HP) (h:St w0 w (RnAt e x*R)) :
  Calls Tryz.prog 214 #[ptr e] w fun r w'=>r=.returned (.tuple #[])/\St w0 w' (RnAt e x.inquire*R):=by
 have l1:=x.superv_len true true;go_enter Tryz.func214,Tryz.ntmps214
 go_wp2_with fail
 refine (n_answer e x true true (by omega) w0 _ R h).mono ?_
 rintro r w_ ⟨rfl,h2⟩;go_wp2_with fail
 refine (n_start e _ 200 (.inl rfl) (by omega) w0 _ R h2).mono ?_
 rintro r w_ ⟨rfl,h3⟩;clear h h2;go_wp2;first
  | (go_end0;exact⟨rfl,h3⟩)
  | (refine bodyPost_ret (v:=.tuple #[]) (by simp[results,go_sem]) rfl ?_;exact⟨rfl,h3⟩)
theorem n_end (e:Nat) (x:En) (ok:x.fl.Ok) (hl:x.out.length<=99990) (w0 w:World) (R:HP) (h:St w0 w (RnAt e x*R)) :
  Calls Tryz.prog 217 #[ptr e] w fun r w'=>r=.returned (.tuple #[])/\St w0 w' (RnAt e x.end1*R):=by
 have l1:((x.setFl x.fl.clear).stop 200).out.length<=x.out.length+1:=En.stop_len (x.setFl x.fl.clear) 200;obtain⟨fp,R',c8,hf,hb,hc⟩:=h.n_fl;clear h;go_enter Tryz.func217,Tryz.ntmps217
 go_wp2_with fail
 refine (g_clear fp x.fl w0 w _ hf ok).mono ?_
 rintro r w_ ⟨rfl,h2⟩;have h3:=hb _ _ h2;clear h2 c8 hb hc hf;go_wp2_with fail
 refine (n_stop e (x.setFl x.fl.clear) 200 (.inl rfl) (show x.out.length<=100000 by omega) w0 _ R h3).mono ?_
 rintro r w_ ⟨rfl,h4⟩;go_wp2_with fail
 refine (n_stop e _ 203 (.inr rfl) (by omega) w0 _ R h4).mono ?_
 rintro r w_ ⟨rfl,h5⟩;have c1:=h5.n_c1;have f:=h5.n_fr;have h6:=h5.n_set_state 4;clear h3 h4 h5;go_wp2;first
  | (go_end0;exact⟨rfl,h6⟩)
  | (refine bodyPost_ret (v:=.tuple #[]) (by simp[results,go_sem]) rfl ?_;exact⟨rfl,h6⟩)
theorem n_unit1 (e:Nat) (x:En) (s:ByteArray) (hl:x.out.length<=100000) (w0 w:World) (R:HP) (h:St w0 w (RnAt e x*R)) :
  Calls Tryz.prog 174 #[ptr e,.string s] w fun r w'=>r=.returned (.tuple #[])/\St w0 w' (RnAt e (x.sendD 6 true false 0 s)*R):=by
 go_enter Tryz.func174,Tryz.ntmps174
 go_wp2_with fail
 refine (n_send e x ⟨0,0,true,6,false,0,0,s⟩ hl w0 _ R h).mono ?_
 rintro r w_ ⟨rfl,h2⟩;clear h;go_wp2;first
  | (go_end0;exact⟨rfl,h2⟩)
  | (refine bodyPost_ret (v:=.tuple #[]) (by simp[results,go_sem]) rfl ?_;exact⟨rfl,h2⟩)
theorem n_goOn (e:Nat) (x:En) (ok:x.fl.Ok) (hl:x.out.length<=99000) (w0 w:World) (R:HP) (h:St w0 w (RnAt e x*R)) :
  Calls Tryz.prog 173 #[ptr e] w fun r w'=>r=.returned (.tuple #[])/\St w0 w' (RnAt e x.goOn*R):=by
 have c1:=h.n_c1;unfold En.goOn;by_cases hs:x.state=7
 ·rw[if_pos hs]
  rw[hs] at c1;go_enter Tryz.func173,Tryz.ntmps173
  go_wp2;go_loopw [2] (fun s2 wr=>∃ (j:Nat) (y:En),s2=.int .i64 j/\Hid (Far x y j)/\St w0 wr (RnAt e y*R)) (fun s2 _=>128 - (intOf s2).toNat)
  case atStart=>exact⟨0,x,rfl,Lib.hid ⟨rfl,hs,ok,Nat.zero_le _,by omega⟩,h⟩
  case round =>
   clear h c1 hs;obtain⟨j,y,rfl,hF,h2⟩:=hrel;have hy:=hF.out.len;have hj:=hF.out.lt;have hj2:(j:Int)<128:=by omega
   obtain⟨fp,R',c8,hf,hb,hc⟩:=h2.n_fl;have hT:=g_take fp y.fl w0 wr _ hf hF.out.ok;clear h2 hf;cases ht:y.fl.take.2.2.2 with
   | false =>
     rw[ht,take_none ht] at hT;have hL:=Lib.hid (hF.out.last ht);clear ht;go_wp2_with fail
     refine hT.mono ?_
     rintro r w1 ⟨rfl,h3⟩;have h4:St w0 w1 (RnAt e y*R):=hb _ _ h3;clear h3 c8 hb hc hT;go_wp2;refine bodyPost_ret (v:=.tuple #[]) (by simp[results,Tryz.results173,go_sem]) rfl ?_
     rw[hL.out];exact⟨rfl,h4⟩
   | true =>
     have hN:=Lib.hid (hF.out.next ht);have okt:=hF.out.ok.take;rw[ht] at hT;obtain⟨z,hz⟩:∃ z,y.take1=z:=⟨_,rfl⟩;rw[hz] at hN;unfold En.take1 at hz;simp only[] at hz;generalize y.fl.take=tk at hT hz okt;obtain⟨fl',ns,s,b⟩:=tk;simp only[] at hT hz okt;have hb':=fun w' h=>hb w' fl' h
     clear ht hb hc;have HZ:=Lib.hid hz;clear hz;go_wp2_with fail
     refine hT.mono ?_
     rintro r w1 ⟨rfl,h3⟩;have h4:St w0 w1 (RnAt e (y.setFl fl')*R):=hb' _ h3;clear h3 c8 hT hb';go_wp2_with fail
     refine (n_send e (y.setFl fl') ⟨0,0,true,0,false,ns,0,s⟩ (show y.out.length<=100000 by omega) w0 _ R h4).mono ?_
     rintro r w_ ⟨rfl,h5⟩;have h5':St w0 _ (RnAt e ((y.setFl fl').sendD 0 true false ns s)*R):=h5;have hlY:((y.setFl fl').sendD 0 true false ns s).out.length=y.out.length+1:=En.sendD_len (y.setFl fl') 0 true false ns s;have hR:((y.setFl fl').sendD 0 true false ns s).t2=y.t2:=rfl;have hz:=HZ.out;clear HZ h5 h4;generalize (y.setFl fl').sendD 0 true false ns s=Y at *;have c5:=h5'.n_c5;rw[hR] at c5;cases h2:y.t2 with
     | true =>
       rw[h2] at c5 hz;rw[if_pos rfl] at hz;subst hz;clear h2 hR;go_wp2;go_roundw
       case rel=>exact⟨j+1,_,by go_num,hN,h5'⟩
       case measure=>simp[intOf];omega
     | false =>
       rw[h2] at c5 hz;rw[if_neg (by simp)] at hz;clear h2 hR;have lS:=En.stop_len Y 203;go_wp2_with fail
       refine (n_stop e Y 203 (.inr rfl) (by omega) w0 _ R h5').mono ?_
       rintro r w_ ⟨rfl,h7⟩;clear c5 h5';go_wp2_with fail
       refine (n_start e (Y.stop 203) 200 (.inl rfl) (by omega) w0 _ R h7).mono ?_
       rintro r w_ ⟨rfl,h8⟩;clear h7;rw[hz] at h8;clear hz;go_wp2;go_roundw
       case rel=>exact⟨j+1,_,by go_num,hN,h8⟩
       case measure=>simp[intOf];omega
 ·rw[if_neg hs]
  have b:(x.state != 7)=true:=by simpa using hs
  go_enter Tryz.func173,Tryz.ntmps173
  go_wp2;first
   | (go_end0;exact⟨rfl,h⟩)
   | (refine bodyPost_ret (v:=.tuple #[]) (by simp[results,go_sem]) rfl ?_;exact⟨rfl,h⟩)
theorem n_open1 (e:Nat) (x:En) (ok:x.fl.Ok) (hl:x.out.length<=98990) (w0 w:World) (R:HP) (h:St w0 w (RnAt e x*R)) :
  Calls Tryz.prog 237 #[ptr e] w fun r w'=>r=.returned (.tuple #[])/\St w0 w' (RnAt e x.open1*R):=by
 have l1:((x.setFl x.fl.reset).stop 200).out.length<=x.out.length+1:=En.stop_len (x.setFl x.fl.reset) 200;have l2:=En.start_len ((x.setFl x.fl.reset).stop 200) 203;have ok2:((((x.setFl x.fl.reset).stop 200).start 203).setState 7).fl.Ok:=by
  show (((x.setFl x.fl.reset).stop 200).start 203).fl.Ok
  rw[En.start_fl,En.stop_fl];exact ok.reset
 obtain⟨fp,R',c8,hf,hb,hc⟩:=h.n_fl;clear h;go_enter Tryz.func237,Tryz.ntmps237
 go_wp2_with fail
 refine (g_reset fp x.fl w0 w _ hf).mono ?_
 rintro r w_ ⟨rfl,h2⟩;have h3:=hb _ _ h2;clear h2 c8 hb hc hf;go_wp2_with fail
 refine (n_stop e (x.setFl x.fl.reset) 200 (.inl rfl) (show x.out.length<=100000 by omega) w0 _ R h3).mono ?_
 rintro r w_ ⟨rfl,h4⟩;go_wp2_with fail
 refine (n_start e _ 203 (.inr rfl) (by omega) w0 _ R h4).mono ?_
 rintro r w_ ⟨rfl,h5⟩;have h6:=h5.n_set_state 7;have c1:=h5.n_c1;have f1:=h5.n_fr;clear h3 h4 h5;go_wp2_with fail
 refine (n_goOn e _ ok2 (show (((x.setFl x.fl.reset).stop 200).start 203).out.length<=99000 by omega) w0 _ R h6).mono ?_
 rintro r w_ ⟨rfl,h7⟩;clear c1 f1 h6;go_wp2;first
  | (go_end0;exact⟨rfl,h7⟩)
  | (refine bodyPost_ret (v:=.tuple #[]) (by simp[results,go_sem]) rfl ?_;exact⟨rfl,h7⟩)
theorem n_establish (e:Nat) (x:En) (ok:x.fl.Ok) (hl:x.out.length<=99980) (w0 w:World) (R:HP) (h:St w0 w (RnAt e x*R)) :
  Calls Tryz.prog 92 #[ptr e] w fun r w'=>r=.returned (.int .i64 x.establish.2)/\St w0 w' (RnAt e x.establish.1*R):=by
 have c1:=h.n_c1;have f:=h.n_fr;unfold En.establish;by_cases s1:x.state=1
 ·rw[if_pos s1]
  rw[s1] at c1;have h2:=h.n_set_state 3;go_enter Tryz.func92,Tryz.ntmps92
  go_wp2_with fail
  refine (n_tell e (x.setState 3) 8 noStr (show x.out.length<=100000 by omega) w0 _ R h2).mono ?_
  rintro r w_ ⟨rfl,h3⟩;clear c1 f h h2;go_wp2;go_ret
  exact⟨rfl,h3⟩
 rw[if_neg s1];by_cases s2:x.state=2
 ·rw[if_pos s2]
  rw[s2] at c1;have h2:=h.n_set_state 3;go_enter Tryz.func92,Tryz.ntmps92
  go_wp2;go_ret
  exact⟨rfl,h2⟩
 rw[if_neg s2];by_cases s6:x.state=6
 ·rw[if_pos s6]
  rw[s6] at c1;go_enter Tryz.func92,Tryz.ntmps92
  go_wp2;go_ret
  exact⟨rfl,h⟩
 rw[if_neg s6];by_cases s5:x.state=5
 ·rw[if_pos s5]
  rw[s5] at c1;obtain⟨fp,R',c8,hf,hb,hc⟩:=h.n_fl;go_enter Tryz.func92,Tryz.ntmps92
  go_wp2_with fail
  refine (g_clear fp x.fl w0 w R' hf ok).mono ?_
  rintro r w_ ⟨rfl,h2⟩;have h3:=hb _ _ h2;have f3:=h3.n_fr;have c4:=h3.n_c4;have h4:=h3.n_set_asked true;clear hb hf h2 hc;go_wp2;go_ret
  exact⟨rfl,h4⟩
 rw[if_neg s5];by_cases s78:x.state=7\/x.state=8
 ·rw[if_pos s78]
  rcases s78 with s7 | s7
  all_goals
   rw[s7] at c1;clear s1 s2 s6 s5 s7;obtain⟨fp,R',c8,hf,hb,hc⟩:=h.n_fl;go_enter Tryz.func92,Tryz.ntmps92
   go_wp2_with fail
   refine (g_clear fp x.fl w0 w R' hf ok).mono ?_
   rintro r w_ ⟨rfl,h2⟩;have h3:=hb _ _ h2;have f3:=h3.n_fr;have c4:=h3.n_c4;have h4:=h3.n_set_asked true;clear hb hf h2 hc;go_wp2_with fail
   refine (n_call e ((x.setFl x.fl.clear).setAsked true) (show x.out.length<=99990 by omega) w0 _ R h4).mono ?_
   rintro r w_ ⟨rfl,h5⟩;clear c4 f3 h3 h4 c8 h;go_wp2;go_ret
   exact⟨rfl,h5⟩
 rw[if_neg s78];by_cases s4:x.state=4
 ·rw[if_pos s4]
  rw[s4] at c1;have c4:=h.n_c4;have h2:=h.n_set_asked true;go_enter Tryz.func92,Tryz.ntmps92
  go_wp2_with fail
  refine (n_call e (x.setAsked true) (show x.out.length<=99990 by omega) w0 _ R h2).mono ?_
  rintro r w_ ⟨rfl,h5⟩;clear c4 f c1 h h2;go_wp2;go_ret
  exact⟨rfl,h5⟩
 rw[if_neg s4];have b1:(x.state == 1)=false:=by simpa using s1
 have b2:(x.state == 2)=false:=by simpa using s2
 have b4:(x.state == 4)=false:=by simpa using s4
 have b5:(x.state == 5)=false:=by simpa using s5
 have b6:(x.state == 6)=false:=by simpa using s6
 have b7:(x.state == 7)=false:=by simpa using fun e=>s78 (.inl e)
 have b8:(x.state == 8)=false:=by simpa using fun e=>s78 (.inr e)
 go_enter Tryz.func92,Tryz.ntmps92
 go_wp2;go_ret
 exact⟨rfl,h⟩
theorem n_release (e:Nat) (x:En) (ok:x.fl.Ok) (hl:x.out.length<=99980) (w0 w:World) (R:HP) (h:St w0 w (RnAt e x*R)) :
  Calls Tryz.prog 93 #[ptr e] w fun r w'=>r=.returned (.int .i64 x.release.2)/\St w0 w' (RnAt e x.release.1*R):=by
 have c1:=h.n_c1;unfold En.release;by_cases s4:x.state=4
 ·rw[if_pos s4]
  rw[s4] at c1;go_enter Tryz.func93,Tryz.ntmps93
  go_wp2_with fail
  refine (n_tell e x 4 noStr (by omega) w0 _ R h).mono ?_
  rintro r w_ ⟨rfl,h3⟩;clear h;go_wp2;go_ret
  exact⟨rfl,h3⟩
 rw[if_neg s4];have b4:(x.state == 4)=false:=by simpa using s4
 by_cases s78:x.state=7\/x.state=8
 ·rw[if_pos ((En.up_iff x).2 s78)]
  have l1:(((x.setFl x.fl.clear).setTries 0).send 7 true true).out.length=x.out.length+1:=En.send_len ((x.setFl x.fl.clear).setTries 0) 7 true true;have l2:=En.stop_len (((x.setFl x.fl.clear).setTries 0).send 7 true true) 203;rcases s78 with s7 | s7
  all_goals
   rw[s7] at c1;clear s7 s4 b4;obtain⟨fp,R',c8,hf,hb,hc⟩:=h.n_fl;go_enter Tryz.func93,Tryz.ntmps93
   go_wp2_with fail
   refine (g_clear fp x.fl w0 w R' hf ok).mono ?_
   rintro r w_ ⟨rfl,h2⟩;have h3:=hb _ _ h2;have f3:=h3.n_fr;have c3:=h3.n_c3;have h4:=h3.n_set_tries 0;clear hb hf h2 hc h c8 c1;go_wp2_with fail
   refine (n_send e ((x.setFl x.fl.clear).setTries 0) ⟨0,0,true,7,true,0,0,noStr⟩ (show x.out.length<=100000 by omega) w0 _ R h4).mono ?_
   rintro r w_ ⟨rfl,h5⟩;clear h3 h4 f3 c3;have h5':St w0 _ (RnAt e (((x.setFl x.fl.clear).setTries 0).send 7 true true)*R):=h5;clear h5;go_wp2_with fail
   refine (n_stop e _ 203 (.inr rfl) (by omega) w0 _ R h5').mono ?_
   rintro r w_ ⟨rfl,h6⟩;go_wp2_with fail
   refine (n_start e _ 200 (.inl rfl) (by omega) w0 _ R h6).mono ?_
   rintro r w_ ⟨rfl,h7⟩;have f7:=h7.n_fr;have c1:=h7.n_c1;have h8:=h7.n_set_state 6;clear h5' h6 h7;go_wp2;go_ret
   exact⟨rfl,h8⟩
 ·have hu:x.up=false:=by
   cases hq:x.up with
   | false=>rfl
   | true=>exact absurd ((En.up_iff x).1 hq) s78
  rw[if_neg (by rw[hu];simp)];have b7:(x.state != 7)=true:=by simpa using fun e=>s78 (.inl e)
  have b8:(x.state != 8)=true:=by simpa using fun e=>s78 (.inr e)
  go_enter Tryz.func93,Tryz.ntmps93
  go_wp2;go_ret
  exact⟨rfl,h⟩
theorem n_data (e:Nat) (x:En) (s:ByteArray) (ok:x.fl.Ok) (hl:x.out.length<=98990) (w0 w:World) (R:HP) (h:St w0 w (RnAt e x*R)) :
  Calls Tryz.prog 94 #[ptr e,.string s] w fun r w'=>r=.returned (.int .i64 (x.data s).2)/\St w0 w' (RnAt e (x.data s).1*R):=by
 have c1:=h.n_c1;have c4:=h.n_c4;unfold En.data;by_cases s7:x.state=7
 ·rw[s7] at c1
  rw[if_neg (by rw[(En.up_iff x).2 (.inl s7)];simp)];clear s7;obtain⟨fp,R',c8,hf,hb,hc⟩:=h.n_fl;obtain⟨qp,hq⟩:=hf.f_open;have cq:=hq.cell;have hp:=r_push qp x.fl.q s w0 w _ hq.f2 ok.q;have okp:=ok.push s;generalize x.fl.q.push s=pu at *;obtain⟨q',cd⟩:=pu;simp only[] at hp okp ⊢;have hb':=fun w' h=>hb w' (Fl.withQ x.fl q') h
  clear hb hc hf;by_cases hcd:cd=0
  ·subst hcd
   rw[if_pos rfl];go_enter Tryz.func94,Tryz.ntmps94
   go_wp2_with fail
   refine (hp).mono ?_
   rintro r w_ ⟨rfl,h2⟩;have h3:=hb' _ (h2.f2.f_shut (s:=Fl.withQ x.fl q') rfl rfl);clear hp hq hb' h2 h c8 cq c1 c4;go_wp2_with fail
   refine (n_goOn e (x.setFl (Fl.withQ x.fl q')) okp (show x.out.length<=99000 by omega) w0 _ R h3).mono ?_
   rintro r w_ ⟨rfl,h4⟩;clear h3;go_wp2;go_ret
   exact⟨rfl,h4⟩
  ·rw[if_neg hcd]
   have bc:(cd == 0)=false:=by simpa using hcd
   go_enter Tryz.func94,Tryz.ntmps94
   go_wp2_with fail
   refine (hp).mono ?_
   rintro r w_ ⟨rfl,h2⟩;have h3:=hb' _ (h2.f2.f_shut (s:=Fl.withQ x.fl q') rfl rfl);clear hp hq hb' h2 h c8 cq c1 c4;go_wp2;go_ret
   exact⟨rfl,h3⟩
 by_cases s8:x.state=8
 ·rw[s8] at c1
  rw[if_neg (by rw[(En.up_iff x).2 (.inr s8)];simp)];clear s8 s7;obtain⟨fp,R',c8,hf,hb,hc⟩:=h.n_fl;obtain⟨qp,hq⟩:=hf.f_open;have cq:=hq.cell;have hp:=r_push qp x.fl.q s w0 w _ hq.f2 ok.q;have okp:=ok.push s;generalize x.fl.q.push s=pu at *;obtain⟨q',cd⟩:=pu;simp only[] at hp okp ⊢;have hb':=fun w' h=>hb w' (Fl.withQ x.fl q') h
  clear hb hc hf;by_cases hcd:cd=0
  ·subst hcd
   rw[if_pos rfl];go_enter Tryz.func94,Tryz.ntmps94
   go_wp2_with fail
   refine (hp).mono ?_
   rintro r w_ ⟨rfl,h2⟩;have h3:=hb' _ (h2.f2.f_shut (s:=Fl.withQ x.fl q') rfl rfl);clear hp hq hb' h2 h c8 cq c1 c4;go_wp2_with fail
   refine (n_goOn e (x.setFl (Fl.withQ x.fl q')) okp (show x.out.length<=99000 by omega) w0 _ R h3).mono ?_
   rintro r w_ ⟨rfl,h4⟩;clear h3;go_wp2;go_ret
   exact⟨rfl,h4⟩
  ·rw[if_neg hcd]
   have bc:(cd == 0)=false:=by simpa using hcd
   go_enter Tryz.func94,Tryz.ntmps94
   go_wp2_with fail
   refine (hp).mono ?_
   rintro r w_ ⟨rfl,h2⟩;have h3:=hb' _ (h2.f2.f_shut (s:=Fl.withQ x.fl q') rfl rfl);clear hp hq hb' h2 h c8 cq c1 c4;go_wp2;go_ret
   exact⟨rfl,h3⟩
 have hu:x.up=false:=by
  cases hq:x.up with
  | false=>rfl
  | true=>exact absurd ((En.up_iff x).1 hq) (by simp[s7,s8])
 by_cases s5:x.state=5
 ·rw[s5] at c1
  cases ha:x.asked with
  | true =>
    rw[ha] at c4;rw[if_pos ⟨hu,.inr rfl⟩];clear s5 s7 s8;go_enter Tryz.func94,Tryz.ntmps94
    go_wp2;go_ret
    exact⟨rfl,h⟩
  | false =>
    rw[ha] at c4;rw[if_neg (by simp[s5])];clear s5 s7 s8 ha hu;obtain⟨fp,R',c8,hf,hb,hc⟩:=h.n_fl;obtain⟨qp,hq⟩:=hf.f_open;have cq:=hq.cell;have hp:=r_push qp x.fl.q s w0 w _ hq.f2 ok.q;have okp:=ok.push s;generalize x.fl.q.push s=pu at *;obtain⟨q',cd⟩:=pu;simp only[] at hp okp ⊢;have hb':=fun w' h=>hb w' (Fl.withQ x.fl q') h
    clear hb hc hf;by_cases hcd:cd=0
    ·subst hcd
     rw[if_pos rfl];go_enter Tryz.func94,Tryz.ntmps94
     go_wp2_with fail
     refine (hp).mono ?_
     rintro r w_ ⟨rfl,h2⟩;have h3:=hb' _ (h2.f2.f_shut (s:=Fl.withQ x.fl q') rfl rfl);clear hp hq hb' h2 h c8 cq c1 c4;go_wp2_with fail
     refine (n_goOn e (x.setFl (Fl.withQ x.fl q')) okp (show x.out.length<=99000 by omega) w0 _ R h3).mono ?_
     rintro r w_ ⟨rfl,h4⟩;clear h3;go_wp2;go_ret
     exact⟨rfl,h4⟩
    ·rw[if_neg hcd]
     have bc:(cd == 0)=false:=by simpa using hcd
     go_enter Tryz.func94,Tryz.ntmps94
     go_wp2_with fail
     refine (hp).mono ?_
     rintro r w_ ⟨rfl,h2⟩;have h3:=hb' _ (h2.f2.f_shut (s:=Fl.withQ x.fl q') rfl rfl);clear hp hq hb' h2 h c8 cq c1 c4;go_wp2;go_ret
     exact⟨rfl,h3⟩
 ·rw[if_pos ⟨hu,.inl s5⟩]
  have b7:(x.state == 7)=false:=by simpa using s7
  have b8:(x.state == 8)=false:=by simpa using s8
  have b5:(x.state == 5)=false:=by simpa using s5
  go_enter Tryz.func94,Tryz.ntmps94
  go_wp2;go_ret
  exact⟨rfl,h⟩
theorem n_units (e:Nat) (x:En) (s:ByteArray) (hu:x.units.length<=256) (hl:x.out.length<=99990) (w0 w:World) (R:HP) (h:St w0 w (RnAt e x*R)) :
  Calls Tryz.prog 95 #[ptr e,.string s] w fun r w'=>r=.returned (.int .i64 (x.unit s).2)/\St w0 w' (RnAt e (x.unit s).1*R):=by
 have c1:=h.n_c1;unfold En.unit;by_cases h4:4<=x.state
 ·rw[if_pos h4]
  have b:decide (x.state ≥ 4)=true:=by simpa using h4
  go_enter Tryz.func95,Tryz.ntmps95
  go_wp2_with fail
  refine (n_unit1 e x s (by omega) w0 _ R h).mono ?_
  rintro r w_ ⟨rfl,h3⟩;clear h;go_wp2;go_ret
  exact⟨rfl,h3⟩
 rw[if_neg h4];have b4:decide (x.state ≥ 4)=false:=by simpa using h4
 obtain⟨fp,uv,ov,h1⟩:=h.n_open;have c:=h1.cell;have f:=h1.free;have sh:=h1.f4.row_shape;obtain⟨n,hn⟩:∃ n,x.units.length=n:=⟨_,rfl⟩;rw[hn] at sh;obtain⟨ua,uc,rfl,_,_⟩:=sh;by_cases hf:256<=x.units.length
 ·rw[if_pos hf]
  obtain rfl:n=256:=by omega
  clear h1 hn hu hf;go_enter Tryz.func95,Tryz.ntmps95
  go_wp2;go_ret
  exact⟨rfl,h⟩
 rw[if_neg hf];have b6:((n:Int) == 256)=false:=by simp;omega
 have hA0:=(h1.alloc (.cells #[.string s] 9)).drop;rw[row_strs] at hA0;have hA:=hA0.eq (show _=LAt 9 1 encS (.slice ua n uc) x.units*(blk e (.cells (x.rcells fp (.slice ua n uc) ov) TRe (0,0))*(LAt TRx 11 Fx.cells ov x.out*(FAt TG TR fp x.fl*R))) by ac_rfl);clear hA0 h1 h hn;by_cases s1:x.state=1
 ·rw[if_pos s1]
  have b1:(x.state == 1)=true:=by simpa using s1
  go_enter Tryz.func95,Tryz.ntmps95
  go_wp2_with (at_builtin;refine wp_append_elem rfl (.tmp 23) (.tmp 25) rfl tyStr hA s rfl _ rfl (new_cells _ [.string s] _ _ (by simp)) (by omega) ?ha;(case' ha=>(intro g off cap w8 h8;have c8:=h8.f2.cell;have f8:=h8.f2.free)))
  have h9:St w0 _ (RnAt e (x.setUnits (x.units++[s]))*R):=((h8.f2.set 7 (.slice (some ⟨g,off,none⟩) (x.units.length+1) cap)).eq (show _=blk e (.cells ((x.rcells fp (.slice ua n uc) ov).setIfInBounds 7 (.slice (some ⟨g,off,none⟩) (x.units.length+1) cap)) TRe (0,0))*(LAt TRx 11 Fx.cells ov x.out*(FAt TG TR fp x.fl*(Row 9 1 (.slice (some ⟨g,off,none⟩) (x.units.length+1) cap) (x.units++[s]).length (strs (x.units++[s]))*R))) by rw[row_strs];ac_rfl)).n_shut (x:=x.setUnits (x.units++[s])) (fp:=fp) (n:=(x.units++[s]).length) (us:=strs (x.units++[s])) (uv:=.slice (some ⟨g,off,none⟩) (x.units.length+1) cap) rfl rfl rfl rfl rfl;have h10:=h9.n_set_state 2;refine (n_tell e ((x.setUnits (x.units++[s])).setState 2) 8 noStr (show x.out.length<=100000 by omega) w0 _ R h10).mono ?_
  rintro r w9 ⟨rfl,h11⟩;clear c8 f8 h8 h9 h10;go_wp2;go_ret
  exact⟨rfl,h11⟩
 ·rw[if_neg s1]
  have b1:(x.state == 1)=false:=by simpa using s1
  go_enter Tryz.func95,Tryz.ntmps95
  go_wp2_with (at_builtin;refine wp_append_elem rfl (.tmp 23) (.tmp 25) rfl tyStr hA s rfl _ rfl (new_cells _ [.string s] _ _ (by simp)) (by omega) ?hb;(case' hb=>(intro g off cap w8 h8;have c8:=h8.f2.cell;have f8:=h8.f2.free)))
  have h9:St w0 _ (RnAt e (x.setUnits (x.units++[s]))*R):=((h8.f2.set 7 (.slice (some ⟨g,off,none⟩) (x.units.length+1) cap)).eq (show _=blk e (.cells ((x.rcells fp (.slice ua n uc) ov).setIfInBounds 7 (.slice (some ⟨g,off,none⟩) (x.units.length+1) cap)) TRe (0,0))*(LAt TRx 11 Fx.cells ov x.out*(FAt TG TR fp x.fl*(Row 9 1 (.slice (some ⟨g,off,none⟩) (x.units.length+1) cap) (x.units++[s]).length (strs (x.units++[s]))*R))) by rw[row_strs];ac_rfl)).n_shut (x:=x.setUnits (x.units++[s])) (fp:=fp) (n:=(x.units++[s]).length) (us:=strs (x.units++[s])) (uv:=.slice (some ⟨g,off,none⟩) (x.units.length+1) cap) rfl rfl rfl rfl rfl;go_ret
  exact⟨rfl,h9⟩
theorem n_ask (e:Nat) (x:En) (a:Int) (d:ByteArray) (ok:x.fl.Ok) (hu:x.units.length<=256) (w0 w:World) (R:HP) (h:St w0 w (RnAt e x*R)) :
  Calls Tryz.prog 45 #[ptr e,.int .i64 a,.string d] w fun r w'=>r=.returned (.int .i64 ((x.setOut []).ask a d).2.2)/\St w0 w' (RnAt e (((x.setOut []).ask a d).1.setOut ((x.setOut []).ask a d).2.1)*R):=by
 have h2:=h.n_set_out;have c9:∃ v,w.cell? ⟨e,9,none⟩=some v:=by
  obtain⟨fp,uv,ov,h1⟩:=h.n_open;exact⟨_,h1.cell 9⟩
 obtain⟨v9,c9⟩:=c9;have f9:=h.n_fr;have ok2:(x.setOut []).fl.Ok:=ok;have hu2:(x.setOut []).units.length<=256:=hu;have hl2:(x.setOut []).out.length<=98000:=by simp[En.setOut]
 have ho2:(x.setOut []).setOut []=x.setOut []:=rfl;clear h ok hu;generalize x.setOut []=y at *;unfold En.ask;by_cases ha:a<0\/5<a
 ·rw[if_pos ha]
  simp only[];rw[ho2];by_cases h0:a<0
  ·have b0:decide (a<0)=true:=by simpa using h0
   go_enter Tryz.func45,Tryz.ntmps45
   go_upto_region 2 with fail
   generalize w.setCell _ _=w2 at *;clear f9 c9;go_wp2;go_ret
   exact⟨rfl,h2⟩
  ·have b0:decide (a<0)=false:=by simpa using h0
   have b5:decide (a > 5)=true:=by simp;omega
   go_enter Tryz.func45,Tryz.ntmps45
   go_upto_region 2 with fail
   generalize w.setCell _ _=w2 at *;clear f9 c9;go_wp2;go_ret
   exact⟨rfl,h2⟩
 rw[if_neg ha];have b0:decide (a<0)=false:=by simp;omega
 have b5:decide (a > 5)=false:=by simp;omega
 by_cases hL:(a=2\/a=3)/\260<d.size
 ·rw[if_pos hL]
  simp only[];rw[ho2];obtain⟨h23,hd⟩:=hL;have bd:decide ((d.size:Int) > 260)=true:=by simp;omega
  rcases h23 with rfl | rfl
  all_goals
   clear b0 b5;go_enter Tryz.func45,Tryz.ntmps45
   go_upto_region 2 with fail
   generalize w.setCell _ _=w2 at *;clear f9 c9;go_wp2;go_ret
   exact⟨rfl,h2⟩
 rw[if_neg hL];have bd:(a=2\/a=3)->decide ((d.size:Int) > 260)=false:=fun h23=>by
  have:¬ 260<d.size:=fun h'=>hL ⟨h23,h'⟩
  simp
  omega
 have h6:a=0\/a=1\/a=2\/a=3\/a=4\/a=5:=by omega
 clear ho2;rcases h6 with rfl | rfl | rfl | rfl | rfl | rfl
 ·clear b0 b5 bd
  go_enter Tryz.func45,Tryz.ntmps45
  go_upto_region 2 with fail
  generalize w.setCell _ _=w2 at *;clear f9 c9;go_wp2_with fail
  refine (n_establish e y ok2 (by omega) w0 _ R h2).mono ?_
  rintro r w_ ⟨rfl,h3⟩;clear h2;go_wp2;go_ret
  exact⟨rfl,h3⟩
 ·clear b0 b5 bd
  go_enter Tryz.func45,Tryz.ntmps45
  go_upto_region 2 with fail
  generalize w.setCell _ _=w2 at *;clear f9 c9;go_wp2_with fail
  refine (n_release e y ok2 (by omega) w0 _ R h2).mono ?_
  rintro r w_ ⟨rfl,h3⟩;clear h2;go_wp2;go_ret
  exact⟨rfl,h3⟩
 ·have bd:=bd (.inl rfl)
  clear b0 b5;go_enter Tryz.func45,Tryz.ntmps45
  go_upto_region 2 with fail
  generalize w.setCell _ _=w2 at *;clear f9 c9;go_wp2_with fail
  refine (n_data e y d ok2 (by omega) w0 _ R h2).mono ?_
  rintro r w_ ⟨rfl,h3⟩;clear h2;go_wp2;go_ret
  exact⟨rfl,h3⟩
 ·have bd:=bd (.inr rfl)
  clear b0 b5;go_enter Tryz.func45,Tryz.ntmps45
  go_upto_region 2 with fail
  generalize w.setCell _ _=w2 at *;clear f9 c9;go_wp2_with fail
  refine (n_units e y d hu2 (by omega) w0 _ R h2).mono ?_
  rintro r w_ ⟨rfl,h3⟩;clear h2;go_wp2;go_ret
  exact⟨rfl,h3⟩
 ·clear b0 b5 bd
  have e1:((if (4:Int)=0 then y.establish else if (4:Int)=1 then y.release else if (4:Int)=2 then y.data d else if (4:Int)=3 then y.unit d else y.own ((4:Int) == 4)):En × Int)=y.own true:=rfl;simp only[];rw[e1];clear e1;have c1:=h2.n_c1;unfold En.own;by_cases hup:y.up=true
  ·rw[if_neg (by rw[hup];simp)]
   have h78:=(En.up_iff y).1 hup;clear hup;by_cases ho:y.fl.own=true
   ·rw[if_pos ho]
    obtain⟨fp,R',c8,hf,hb,hc⟩:=h2.n_fl;obtain⟨qp,hq⟩:=hf.f_open;have cv:_:=hq.cell 4;rw[show (Fl.cells y.fl qp)[4]?=some (.bool y.fl.own) from rfl,ho] at cv;clear hb hc hf hq ho;rcases h78 with s7 | s7
    all_goals
     rw[s7] at c1;clear s7;go_enter Tryz.func45,Tryz.ntmps45
     go_upto_region 2 with fail
     generalize w.setCell _ _=w2 at *;clear f9 c9;go_wp2;go_ret
     exact⟨rfl,h2⟩
   ·rw[if_neg ho]
    have ho':y.fl.own=!true:=by cases hh:y.fl.own <;> simp_all
    obtain⟨fp,R',c8,hf,hb,hc⟩:=h2.n_fl;obtain⟨qp,hq⟩:=hf.f_open;have cv:_:=hq.cell 4;rw[show (Fl.cells y.fl qp)[4]?=some (.bool y.fl.own) from rfl,ho'] at cv;have fq:=hq.free;have h3:=hb _ _ ((hq.set 4 (.bool true)).f_shut (s:=Fl.withOwn y.fl true) rfl rfl);clear hb hc hf hq ho ho';have hlo:(y.setFl (Fl.withOwn y.fl true)).out.length<=98000:=hl2;rcases h78 with s7 | s7
    all_goals
     rw[s7] at c1;clear s7;go_enter Tryz.func45,Tryz.ntmps45
     go_upto_region 2 with fail
     generalize w.setCell _ _=w2 at *;clear f9 c9;go_upto_region 19 with fail
     generalize w2.setCell _ _=w3 at *;clear cv c8 c1 fq;go_wp2_with fail
     refine (n_answer e (y.setFl (Fl.withOwn y.fl true)) false false (by omega) w0 _ R h3).mono ?_
     rintro r w_ ⟨rfl,h4⟩;clear h3 h2;go_wp2;go_ret
     exact⟨rfl,h4⟩
  ·have hup':y.up=false:=by cases hq:y.up with
    | false=>rfl
    | true=>exact absurd hq hup
   rw[if_pos hup'];have b7:(y.state != 7)=true:=by simpa using fun e=>hup ((En.up_iff y).2 (.inl e))
   have b8:(y.state != 8)=true:=by simpa using fun e=>hup ((En.up_iff y).2 (.inr e))
   clear hup hup';go_enter Tryz.func45,Tryz.ntmps45
   go_upto_region 2 with fail
   generalize w.setCell _ _=w2 at *;clear f9 c9;go_wp2;go_ret
   exact⟨rfl,h2⟩
 ·clear b0 b5 bd
  have e1:((if (5:Int)=0 then y.establish else if (5:Int)=1 then y.release else if (5:Int)=2 then y.data d else if (5:Int)=3 then y.unit d else y.own ((5:Int) == 4)):En × Int)=y.own false:=rfl;simp only[];rw[e1];clear e1;have c1:=h2.n_c1;unfold En.own;by_cases hup:y.up=true
  ·rw[if_neg (by rw[hup];simp)]
   have h78:=(En.up_iff y).1 hup;clear hup;by_cases ho:y.fl.own=false
   ·rw[if_pos ho]
    obtain⟨fp,R',c8,hf,hb,hc⟩:=h2.n_fl;obtain⟨qp,hq⟩:=hf.f_open;have cv:_:=hq.cell 4;rw[show (Fl.cells y.fl qp)[4]?=some (.bool y.fl.own) from rfl,ho] at cv;clear hb hc hf hq ho;rcases h78 with s7 | s7
    all_goals
     rw[s7] at c1;clear s7;go_enter Tryz.func45,Tryz.ntmps45
     go_upto_region 2 with fail
     generalize w.setCell _ _=w2 at *;clear f9 c9;go_wp2;go_ret
     exact⟨rfl,h2⟩
   ·rw[if_neg ho]
    have ho':y.fl.own=!false:=by cases hh:y.fl.own <;> simp_all
    obtain⟨fp,R',c8,hf,hb,hc⟩:=h2.n_fl;obtain⟨qp,hq⟩:=hf.f_open;have cv:_:=hq.cell 4;rw[show (Fl.cells y.fl qp)[4]?=some (.bool y.fl.own) from rfl,ho'] at cv;have fq:=hq.free;have h3:=hb _ _ ((hq.set 4 (.bool false)).f_shut (s:=Fl.withOwn y.fl false) rfl rfl);clear hb hc hf hq ho ho';have hlo:(y.setFl (Fl.withOwn y.fl false)).out.length<=98000:=hl2;rcases h78 with s7 | s7
    all_goals
     rw[s7] at c1;clear s7;go_enter Tryz.func45,Tryz.ntmps45
     go_upto_region 2 with fail
     generalize w.setCell _ _=w2 at *;clear f9 c9;go_upto_region 19 with fail
     generalize w2.setCell _ _=w3 at *;clear cv c8 c1 fq;go_wp2_with fail
     refine (n_answer e (y.setFl (Fl.withOwn y.fl false)) false false (by omega) w0 _ R h3).mono ?_
     rintro r w_ ⟨rfl,h4⟩;clear h3 h2;go_wp2;go_ret
     exact⟨rfl,h4⟩
  ·have hup':y.up=false:=by cases hq:y.up with
    | false=>rfl
    | true=>exact absurd hq hup
   rw[if_pos hup'];have b7:(y.state != 7)=true:=by simpa using fun e=>hup ((En.up_iff y).2 (.inl e))
   have b8:(y.state != 8)=true:=by simpa using fun e=>hup ((En.up_iff y).2 (.inr e))
   clear hup hup';go_enter Tryz.func45,Tryz.ntmps45
   go_upto_region 2 with fail
   generalize w.setCell _ _=w2 at *;clear f9 c9;go_wp2;go_ret
   exact⟨rfl,h2⟩
theorem n_remove (e:Nat) (x:En) (ok:x.fl.Ok) (w0 w:World) (R:HP) (h:St w0 w (RnAt e x*R)) :
  Calls Tryz.prog 141 #[ptr e] w fun r w'=>r=.returned (.int .i64 (x.setOut []).remove.2.2)/\St w0 w' (RnAt e ((x.setOut []).remove.1.setOut (x.setOut []).remove.2.1)*R):=by
 have h2:=h.n_set_out;have c9:∃ v,w.cell? ⟨e,9,none⟩=some v:=by
  obtain⟨fp,uv,ov,h1⟩:=h.n_open;exact⟨_,h1.cell 9⟩
 obtain⟨v9,c9⟩:=c9;have f9:=h.n_fr;have ok2:(x.setOut []).fl.Ok:=ok;have hl2:(x.setOut []).out.length<=98000:=by simp[En.setOut]
 have ho2:(x.setOut []).setOut []=x.setOut []:=rfl;clear h ok;generalize x.setOut []=y at *;have c1:=h2.n_c1;unfold En.remove;by_cases s1:y.state=1
 ·rw[if_pos s1]
  rw[s1] at c1;simp only[];rw[ho2];go_enter Tryz.func141,Tryz.ntmps141
  go_upto_region 2 with fail
  generalize w.setCell _ _=w2 at *;clear f9 c9;go_wp2;go_ret
  exact⟨rfl,h2⟩
 rw[if_neg s1];have b1:(y.state == 1)=false:=by simpa using s1
 simp only[];clear ho2;by_cases st:y.state=3\/y.state=5\/y.state=7\/y.state=8
 ·rw[if_pos st]
  rcases st with s | s | s | s
  all_goals
   rw[s] at c1;clear b1 s1 s;go_enter Tryz.func141,Tryz.ntmps141
   go_upto_region 2 with fail
   generalize w.setCell _ _=w2 at *;clear f9 c9;have l1:=end1_len y;go_wp2_with fail
   refine (n_end e y ok2 (by omega) w0 _ R h2).mono ?_
   rintro r w3 ⟨rfl,h3⟩;clear h2 c1;go_wp2_with fail
   refine (n_tell e y.end1 3 noStr (by omega) w0 _ R h3).mono ?_
   rintro r w4 ⟨rfl,h4⟩;clear h3;have h5:=h4.n_set_units;have h6:=h5.n_set_tei (-1);have h7:=h6.n_set_state 1;have f4:=h4.n_fr;have c4:∃ v,w4.cell? ⟨e,7,none⟩=some v:=by
    obtain⟨fp,uv,ov,h1⟩:=h4.n_open;exact⟨_,h1.cell 7⟩
   obtain⟨v7,c7⟩:=c4;have c1:=h4.n_c1;have c2:=h4.n_c2;clear h4 h5 h6;go_wp2;go_ret
   exact⟨rfl,h7⟩
 rw[if_neg st];by_cases s6:y.state=6
 ·rw[if_pos s6]
  rw[s6] at c1;clear b1 s1 s6 st;go_enter Tryz.func141,Tryz.ntmps141
  go_upto_region 2 with fail
  generalize w.setCell _ _=w2 at *;clear f9 c9;have l1:=end1_len y;go_wp2_with fail
  refine (n_end e y ok2 (by omega) w0 _ R h2).mono ?_
  rintro r w3 ⟨rfl,h3⟩;clear h2 c1;go_wp2_with fail
  refine (n_tell e y.end1 4 noStr (by omega) w0 _ R h3).mono ?_
  rintro r w4 ⟨rfl,h4⟩;clear h3;have h5:=h4.n_set_units;have h6:=h5.n_set_tei (-1);have h7:=h6.n_set_state 1;have f4:=h4.n_fr;have c4:∃ v,w4.cell? ⟨e,7,none⟩=some v:=by
   obtain⟨fp,uv,ov,h1⟩:=h4.n_open;exact⟨_,h1.cell 7⟩
  obtain⟨v7,c7⟩:=c4;have c1:=h4.n_c1;have c2:=h4.n_c2;clear h4 h5 h6;go_wp2;go_ret
  exact⟨rfl,h7⟩
 ·rw[if_neg s6]
  have b3:(y.state == 3)=false:=by simpa using fun e=>st (.inl e)
  have b5:(y.state == 5)=false:=by simpa using fun e=>st (.inr (.inl e))
  have b7:(y.state == 7)=false:=by simpa using fun e=>st (.inr (.inr (.inl e)))
  have b8:(y.state == 8)=false:=by simpa using fun e=>st (.inr (.inr (.inr e)))
  have b6:(y.state == 6)=false:=by simpa using s6
  clear st s6 s1;go_enter Tryz.func141,Tryz.ntmps141
  go_upto_region 2 with fail
  generalize w.setCell _ _=w2 at *;clear f9 c9;go_wp2_with fail
  refine (n_end e y ok2 (by omega) w0 _ R h2).mono ?_
  rintro r w4 ⟨rfl,h4⟩;clear h2 c1;have h5:=h4.n_set_units;have h6:=h5.n_set_tei (-1);have h7:=h6.n_set_state 1;have f4:=h4.n_fr;have c4:∃ v,w4.cell? ⟨e,7,none⟩=some v:=by
   obtain⟨fp,uv,ov,h1⟩:=h4.n_open;exact⟨_,h1.cell 7⟩
  obtain⟨v7,c7⟩:=c4;have c1:=h4.n_c1;have c2:=h4.n_c2;clear h4 h5 h6;go_wp2;go_ret
  exact⟨rfl,h7⟩
def En.sendK (x:En) (l:List ByteArray):En:=l.foldl (fun y s=>y.sendD 6 true false 0 s) x
theorem sendK_units (l:List ByteArray):∀ x:En,(x.sendK l).units=x.units:=by
 induction l with
 | nil=>intro x;rfl
 | cons s l ih=>intro x;exact ih (x.sendD 6 true false 0 s)
theorem sendK_len (l:List ByteArray):∀ x:En,(x.sendK l).out.length=x.out.length+l.length:=by
 induction l with
 | nil=>intro x;rfl
 | cons s l ih =>
   intro x;have h:=ih (x.sendD 6 true false 0 s);rw[En.sendD_len] at h;show ((x.sendD 6 true false 0 s).sendK l).out.length=_
   simp only[List.length_cons];omega
theorem sendK_take (l:List ByteArray) (x:En) (i:Nat) (s:ByteArray) (h:l[i]?=some s):x.sendK (l.take (i+1))=(x.sendK (l.take i)).sendD 6 true false 0 s:=by
 unfold En.sendK;rw[List.take_add_one,List.foldl_append,h];rfl
theorem unitsK_sendK (l:List ByteArray):∀ x:En,4<=x.state->(x.setUnits []).unitsK l=(x.sendK l).setUnits []:=by
 induction l with
 | nil=>intro x _;rfl
 | cons s l ih =>
   intro x hx;have e1:((x.setUnits []).unit s).1=(x.sendD 6 true false 0 s).setUnits []:=by
    unfold En.unit;rw[if_pos (show 4<=(x.setUnits []).state from hx)];rfl
   show ((x.setUnits []).unit s).1.unitsK l=((x.sendD 6 true false 0 s).sendK l).setUnits []
   rw[e1];exact ih (x.sendD 6 true false 0 s) hx
theorem St.n_units_at {w0 w:World} {R:HP} {e:Nat} {x:En} (h:St w0 w (RnAt e x*R)):∃ a cap,w.cell? ⟨e,7,none⟩=some (.slice a x.units.length cap)/\∀ i,i<x.units.length->∃ b off s,a=some ⟨b,off,none⟩/\x.units[i]?=some s/\w.cell? ⟨b,off+i,none⟩=some (.string s):=by
 obtain⟨fp,uv,ov,h1⟩:=h.n_open;obtain⟨a,cap,rfl,_,_⟩:=h1.f4.row_shape;exact⟨a,cap,h1.cell 7,fun i hi=>h1.f4.row_str i hi⟩
theorem n_assign (e:Nat) (x:En) (t:Int) (ok:x.fl.Ok) (hu:x.units.length<=1000) (w0 w:World) (R:HP) (h:St w0 w (RnAt e x*R)) :
  Calls Tryz.prog 177 #[ptr e,.int .i64 t] w fun r w'=>r=.returned (.int .i64 ((x.setOut []).assign t).2.2)/\St w0 w' (RnAt e (((x.setOut []).assign t).1.setOut ((x.setOut []).assign t).2.1)*R):=by
 have h2:=h.n_set_out;have c9:∃ v,w.cell? ⟨e,9,none⟩=some v:=by
  obtain⟨fp,uv,ov,h1⟩:=h.n_open;exact⟨_,h1.cell 9⟩
 obtain⟨v9,c9⟩:=c9;have f9:=h.n_fr;have ok2:(x.setOut []).fl.Ok:=ok;have hu2:(x.setOut []).units.length<=1000:=hu;have hl2:(x.setOut []).out.length<=0:=by simp[En.setOut]
 have ho2:(x.setOut []).setOut []=x.setOut []:=rfl;clear h ok hu;generalize x.setOut []=y at *;have c1:=h2.n_c1;unfold En.assign;by_cases ht:t<0\/126<t
 ·rw[if_pos ht]
  simp only[];rw[ho2];by_cases h0:t<0
  ·have b0:decide (t<0)=true:=by simpa using h0
   go_enter Tryz.func177,Tryz.ntmps177
   go_upto_region 2 with fail
   generalize w.setCell _ _=w2 at *;clear f9 c9;go_wp2;go_ret
   exact⟨rfl,h2⟩
  ·have b0:decide (t<0)=false:=by simpa using h0
   have b1:decide (t > 126)=true:=by simp;omega
   go_enter Tryz.func177,Tryz.ntmps177
   go_upto_region 2 with fail
   generalize w.setCell _ _=w2 at *;clear f9 c9;go_wp2;go_ret
   exact⟨rfl,h2⟩
 rw[if_neg ht];have b0:decide (t<0)=false:=by simp;omega
 have b1:decide (t > 126)=false:=by simp;omega
 by_cases h4:4<=y.state
 ·rw[if_pos h4]
  simp only[];rw[ho2];have b4:decide (y.state ≥ 4)=true:=by simpa using h4
  go_enter Tryz.func177,Tryz.ntmps177
  go_upto_region 2 with fail
  generalize w.setCell _ _=w2 at *;clear f9 c9;go_wp2;go_ret
  exact⟨rfl,h2⟩
 rw[if_neg h4];have b4:decide (y.state ≥ 4)=false:=by simpa using h4
 clear ht h4 ho2;obtain⟨z,hz⟩:∃ z,(if y.state=3 then (((((y.setTei t).setState 4).sendK y.units).setUnits []).setAsked true).call else (((y.setTei t).setState 4).sendK y.units).setUnits [])=z:=⟨_,rfl⟩;have e1:(let q:=y.units.foldl (fun q s=>(q.unit s).1) (((y.setTei t).setState 4).setUnits []);let z:=if y.state=3 then (q.setAsked true).call else q;(z.done,z.out,(0:Int)))=(z.done,z.out,0):=by
  have e2:=unitsK_sendK y.units ((y.setTei t).setState 4) (by show 4<=(4:Int);decide);unfold En.unitsK at e2;simp only[];rw[e2,hz]
 rw[e1];clear e1;have HZ:=Lib.hid hz;clear hz;have e3:(z.done).setOut z.out=z:=rfl;simp only[];rw[e3];clear e3;go_enter Tryz.func177,Tryz.ntmps177
 go_upto_region 2 with fail
 generalize w.setCell _ _=w2 at *;clear f9 c9;have c2:=h2.n_c2;have f2:=h2.n_fr;have h3:=(h2.n_set_tei t).n_set_state 4;obtain⟨n,hn⟩:∃ n,y.units.length=n:=⟨_,rfl⟩;have hn9:n<=1000:=by omega
 go_upto_region 9 with fail
 generalize (w2.setCell ⟨e,2,none⟩ (.int .i64 t)).setCell ⟨e,1,none⟩ (.int .i64 4)=w3 at *;have hz:=HZ.out;clear HZ c2 f2 c1 h2;have ok0:((y.setTei t).setState 4).fl.Ok:=ok2;have hl0:((y.setTei t).setState 4).out.length<=0:=hl2;have hy0:((y.setTei t).setState 4).units=y.units:=rfl;have hst:(y.state=3)\/¬ (y.state=3):=Classical.em _;have HN:=Lib.hid hn;generalize ((y.setTei t).setState 4)=y0 at *;have HZ:=Lib.hid hz;have HU:=Lib.hid hy0;clear hz ok2 hl2 hn hy0 hu2;go_wp2;go_loopw [6] (fun s6 wr=>∃ i:Nat,i<=n/\s6=.int .i64 i/\St w0 wr (RnAt e (y0.sendK (y.units.take i))*R)) (fun s6 _=>n - (intOf s6).toNat)
 case atStart=>exact⟨0,by omega,rfl,h3⟩
 case round =>
  clear h3;obtain⟨i,hi,rfl,h4⟩:=hrel;obtain⟨ua,uc,c7,hr⟩:=h4.n_units_at;rw[sendK_units,HU.out,HN.out] at c7 hr;by_cases hlt:i<n
  ·obtain⟨b,off,s,rfl,hs,hc⟩:=hr i hlt
   have hstep:=sendK_take y.units y0 i s hs;have l1:=sendK_len (y.units.take i) y0;have htk:(y.units.take i).length<=i:=by rw[List.length_take];omega
   have HS:=Lib.hid hstep;clear hstep hs hr;have hlti:(i:Int)<(n:Int):=by omega
   have hw:IntKind.i64.wrap ((i:Int)+1)=(i:Int)+1:=by rw[IntKind.wrap_i64];omega
   go_wp2_with fail
   refine (n_unit1 e (y0.sendK (y.units.take i)) s (by omega) w0 wr _ h4).mono ?_
   rintro r w1 ⟨rfl,h5⟩;rw[← HS.out] at h5;clear h4 hc c7;go_wp2;go_roundw
   case rel=>exact⟨i+1,by omega,by go_num,h5⟩
   case measure=>simp[intOf];omega
  ·obtain rfl:i=n:=by omega
   have e1:y.units.take i=y.units:=by rw[← HN.out];exact List.take_length
   rw[e1] at h4;have l1:=sendK_len y.units y0;rw[HN.out] at l1;have lk:(y0.sendK y.units).out.length<=91000:=by omega
   have hz:=HZ.out;clear HZ e1 l1 hr HU;generalize y0.sendK y.units=y1 at *;have f4:=h4.n_fr;have h5:=h4.n_set_units;by_cases s3:y.state=3
   ·rw[if_pos s3] at hz
    have b3:(y.state == 3)=true:=by simpa using s3
    subst hz;have c4:=h4.n_c4;have h6:=h5.n_set_asked true;clear s3;go_wp2_with fail
    refine (n_call e ((y1.setUnits []).setAsked true) (show y1.out.length<=99990 by omega) w0 _ R h6).mono ?_
    rintro r w_ ⟨rfl,h7⟩;clear c4 f4 h4 h5 h6;go_wp2;go_ret
    exact⟨rfl,h7⟩
   ·rw[if_neg s3] at hz
    have b3:(y.state == 3)=false:=by simpa using s3
    subst hz;clear s3;go_wp2;go_ret
    exact⟨rfl,h5⟩
end Go.Proofs.YtnnahljdhdippaaGreatDoor
