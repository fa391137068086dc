/- Parts of a proof (Ent, EntC, EntE, EntG). No condition. -/
import Derived.Test.YtjcldoejpldcmaaGreatDoorC3
import Derived.Test.YtjcldoejpldcmaaGreatDoorC2
namespace Go.Proofs.YtjcldoejpldcmaaGreatDoor
set_option maxRecDepth 100000
set_option maxHeartbeats 6400000
open Go.RowKit
def kInt:KD Int:=⟨fun n=>.int .i64 n,fun n=>(Lit.int .i64 n).wf=true,fun a b h=>by simpa using h⟩
theorem kok (n:Int) (h1: -9223372036854775808<=n) (h2:n<9223372036854775808):kInt.ok n:=WalkArith.wf_i64 (by omega)
abbrev vBool (b:Bool):Value:=.bool b
abbrev BM:=List (Int × Bool)
theorem tyBM:MTy Tryz.prog 192 3 4 kInt :=
 ⟨Tryz.underlying192,Maps.int_keyed Tryz.underlying3,fun _ h=>⟨_,Maps.keyOf_int_mk Tryz.underlying3 h⟩⟩
theorem zeroBool (w:World):(zeroValue 4).run Tryz.prog w=.ok (.bool false) w:=by kernel_rfl
def bOf (m:BM) (t:Int):Bool:=(mlook m t).getD false
theorem mlook_mput_same {β:Type}:∀ (l:List (Int × β)) (k:Int) (v:β),mlook (mput l k v) k=some v
 | [],k,v=>by simp[mput,mlook]
 | p :: l,k,v=>by
   unfold mput;by_cases h:p.1=k
   ·rw[if_pos h];simp[mlook]
   ·rw[if_neg h]
    unfold mlook;rw[if_neg h];exact mlook_mput_same l k v
theorem mlook_mput_ne {β:Type} {k k':Int} {v:β} (h:k'≠k):∀ l:List (Int × β),mlook (mput l k v) k'=mlook l k'
 | []=>by simp[mput,mlook,Ne.symm h]
 | p :: l=>by
   unfold mput;split
   ·rename_i hp
    unfold mlook;rw[if_neg (by simpa using Ne.symm h),if_neg (by rw[hp];exact Ne.symm h)]
   ·conv=>lhs;unfold mlook
    conv=>rhs;unfold mlook
    split
    ·rfl
    ·exact mlook_mput_ne h l
theorem bOf_put (m:BM) (t:Int) (b:Bool) (u:Int):bOf (mput m t b) u=if u=t then b else bOf m u:=by
 unfold bOf;split
 ·rename_i h;rw[h,mlook_mput_same];rfl
 ·rename_i h;rw[mlook_mput_ne h]
theorem St.bm {w0 w:World} {R:HP} {b:Nat} {m:BM} (h:St w0 w (MAt kInt vBool b m*R)) (t:Int) (hk:kInt.ok t) :
  (Instr.lookup 192 (.map (some b)) (.int .i64 t) false).run Tryz.prog w=.ok (.bool (bOf m t)) w:=by
 have:=h.map_look tyBM t hk (zeroBool _) false
 rw[show ((mlook m t).map vBool).getD (.bool false)=.bool (bOf m t) by unfold bOf;cases mlook m t <;> rfl] at this;exact this
structure Fr where
 sapi:Int
 tei:Int
 cmd:Bool
 kind:Int
 pf:Bool
 ns:Int
 nr:Int
 info:ByteArray
abbrev Fr.cells (f:Fr):List Value:=[.int .i64 f.sapi,.int .i64 f.tei,.bool f.cmd,.int .i64 f.kind,.bool f.pf,.int .i64 f.ns,.int .i64 f.nr,.string f.info]
structure Fx where
 kind:Int
 fr:Fr
 data:ByteArray
 timer:Int
abbrev Fx.cells (x:Fx):List Value:=[.int .i64 x.kind,.int .i64 x.fr.sapi,.int .i64 x.fr.tei,.bool x.fr.cmd,.int .i64 x.fr.kind,.bool x.fr.pf,.int .i64 x.fr.ns,.int .i64 x.fr.nr,.string x.fr.info,.string x.data,.int .i64 x.timer]
abbrev noStr:ByteArray:=⟨#[]⟩
abbrev Fr.none:Fr:=⟨0,0,false,0,false,0,0,noStr⟩
abbrev Fx.of (k:Int) (d:ByteArray):Fx:=⟨k,.none,d,0⟩
abbrev Fx.tim (k t:Int):Fx:=⟨k,.none,noStr,t⟩
structure En where
 most:Int
 state:Int
 tei:Int
 tries:Int
 asked:Bool
 t2:Bool
 t3:Bool
 units:List ByteArray
 fl:Fl
 out:List Fx
def En.tell (x:En) (f:Fx):En:={ x with out:=x.out++[f] }
def En.told (x:En) (k:Int) (d:ByteArray):En:=x.tell (.of k d)
def numb (k:Int):Bool:=decide (0<=k) && decide (k<=3)
def En.sendD (x:En) (k:Int) (c p:Bool) (ns:Int) (i:ByteArray):En:=x.tell ⟨0,⟨0,x.tei,c,k,p,ns,if numb k=true then (x.fl.vr:Int) else 0,i⟩,noStr,0⟩
def En.send (x:En) (k:Int) (c p:Bool):En:=x.sendD k c p 0 noStr
def En.runs (x:En) (t:Int):Bool:=if t=200 then x.t2 else if t=203 then x.t3 else false
def En.setT (x:En) (t:Int) (b:Bool):En:=if t=200 then { x with t2:=b } else { x with t3:=b }
def En.start (x:En) (t:Int):En:=(x.setT t true).tell (.tim 9 t)
def En.stop (x:En) (t:Int):En:=if x.runs t=true then (x.setT t false).tell (.tim 10 t) else x
def En.setFl (x:En) (v:Fl):En:={ x with fl:=v }
def En.setState (x:En) (v:Int):En:={ x with state:=v }
def En.setTries (x:En) (v:Int):En:={ x with tries:=v }
def En.setAsked (x:En) (v:Bool):En:={ x with asked:=v }
def En.setUnits (x:En) (v:List ByteArray):En:={ x with units:=v }
def En.setTei (x:En) (v:Int):En:={ x with tei:=v }
def En.setOut (x:En) (v:List Fx):En:={ x with out:=v }
abbrev Fl.withPeer (s:Fl) (b:Bool):Fl:={ s with peer:=b }
abbrev Fl.withOwn (s:Fl) (b:Bool):Fl:={ s with own:=b }
abbrev Fl.withQ (s:Fl) (q:Q):Fl:={ s with q:=q }
def En.call (x:En):En:=(((((x.setTries (0)).send 4 true true).stop 203).start 200).setState (5))
def En.anew (x:En) (l:ByteArray):En:=((x.told 7 l).setAsked (false)).call
def En.take1 (x:En):En :=
 let y:=(x.setFl (x.fl.take.1)).sendD 0 true false x.fl.take.2.1 x.fl.take.2.2.1
 if x.t2=true then y else (y.stop 203).start 200
def En.goOnK:Nat->En->En
 | 0,x=>x
 | n+1,x=>if x.fl.take.2.2.2=true then En.goOnK n x.take1 else x
def En.goOn (x:En):En:=if x.state=7 then En.goOnK 128 x else x
def En.open1 (x:En):En:=((((x.setFl (x.fl.reset)).stop 200).start 203).setState (7)).goOn
def En.superv (x:En) (c p:Bool):En:=x.send (if x.fl.own=true then 2 else 1) c p
def En.inquire (x:En):En:=(x.superv true true).start 200
def En.end1 (x:En):En:=((((x.setFl (x.fl.clear)).stop 200).stop 203).setState (4))
def En.up (x:En):Bool:=x.state == 7 || x.state == 8
def En.establish (x:En):En × Int :=
 if x.state=1 then ((x.setState (3)).told 8 noStr,0)
 else if x.state=2 then ((x.setState (3)),0)
 else if x.state=6 then (x,12)
 else if x.state=5 then (((x.setFl (x.fl.clear)).setAsked (true)),0)
 else if x.state=7\/x.state=8 then (((x.setFl (x.fl.clear)).setAsked (true)).call,0)
 else if x.state=4 then ((x.setAsked (true)).call,0)
 else (x,0)
def En.release (x:En):En × Int :=
 if x.state=4 then (x.told 4 noStr,0)
 else if x.up=true then (((((((x.setFl (x.fl.clear)).setTries (0)).send 7 true true).stop 203).start 200).setState (6)),0)
 else (x,12)
def En.data (x:En) (s:ByteArray):En × Int :=
 if x.up=false/\(x.state≠5\/x.asked=true) then (x,12)
 else if (x.fl.q.push s).2=0 then ((x.setFl ((Fl.withQ (x.fl) ((x.fl.q.push s).1)))).goOn,0)
 else ((x.setFl ((Fl.withQ (x.fl) ((x.fl.q.push s).1)))),(x.fl.q.push s).2)
def En.unit (x:En) (s:ByteArray):En × Int :=
 if 4<=x.state then (x.sendD 6 true false 0 s,0)
 else if 256<=x.units.length then (x,10)
 else if x.state=1 then (((x.setUnits (x.units++[s])).setState (2)).told 8 noStr,0)
 else ((x.setUnits (x.units++[s])),0)
def En.own (x:En) (b:Bool):En × Int :=
 if x.up=false then (x,12)
 else if x.fl.own=b then (x,0)
 else ((x.setFl ((Fl.withOwn (x.fl) (b)))).superv false false,0)
def En.done (x:En):En:=(x.setOut ([]))
def En.ask (x:En) (a:Int) (d:ByteArray):En × List Fx × Int :=
 if a<0\/5<a then (x,[],2)
 else if (a=2\/a=3)/\260<d.size then (x,[],5)
 else
  let y:=if a=0 then x.establish else if a=1 then x.release else if a=2 then x.data d else if a=3 then x.unit d else x.own (a == 4)
  (y.1.done,y.1.out,y.2)
def En.assign (x:En) (t:Int):En × List Fx × Int :=
 if t<0\/126<t then (x,[],2)
 else if 4<=x.state then (x,[],13)
 else
  let y:=x.units.foldl (fun y s=>(y.unit s).1) (((x.setTei (t)).setState (4)).setUnits ([]))
  let z:=if x.state=3 then (y.setAsked (true)).call else y
  (z.done,z.out,0)
def En.remove (x:En):En × List Fx × Int :=
 if x.state=1 then (x,[],11)
 else
  let y:=x.end1
  let z:=if x.state=3\/x.state=5\/x.state=7\/x.state=8 then y.told 3 noStr else if x.state=6 then y.told 4 noStr else y
  (((((z.done).setTei (-1)).setState (1)).setUnits ([])),z.out,0)
def En.strange (x:En) (f:Fr):En:=x.told 7 (if f.pf=true then ⟨#[67]⟩ else ⟨#[68]⟩)
def En.inAssigned (x:En) (f:Fr):En :=
 if f.kind=4 then ((x.send 8 false f.pf).told 1 noStr).open1
 else if f.kind=7 then x.send 5 false f.pf
 else if f.kind=8 then x.strange f
 else if f.kind=5/\f.pf=false then (x.setAsked (true)).call
 else x
def En.unsure (x:En):En:=if x.fl.q.sent≠0 then (x.setFl (x.fl.clear)).told 1 noStr else x
def En.inConnecting (x:En) (f:Fr):En :=
 if f.kind=4 then x.send 8 false f.pf
 else if f.kind=7 then x.send 5 false f.pf
 else if f.kind=8/\f.pf=false then x.told 7 ⟨#[68]⟩
 else if f.kind=8 then (((if x.asked=true then x.told 2 noStr else x.unsure)).setAsked (false)).open1
 else if f.kind=5/\f.pf=true then (x.told 3 noStr).end1
 else x
def En.inReleasing (x:En) (f:Fr):En :=
 if f.kind=4 then x.send 5 false f.pf
 else if f.kind=7 then x.send 8 false f.pf
 else if f.kind=8/\f.pf=false then x.told 7 ⟨#[68]⟩
 else if f.pf=true/\(f.kind=8\/f.kind=5) then (x.told 4 noStr).end1
 else x
def En.count (x:En) (n:Int):En :=
 if x.fl.va=x.fl.vs then (x.stop 200).start 203
 else if 0<n then x.start 200
 else x
def En.supervised (x:En) (f:Fr):En :=
 let x1:=if f.cmd=true/\f.pf=true then x.superv false true else if f.pf=true/\x.state=7 then x.told 7 ⟨#[65]⟩ else x
 let x2:=(x1.setFl ((Fl.withPeer (x1.fl) (f.kind == 2))))
 let a:=x2.fl.ack f.nr
 let x3:=(x2.setFl (a.1))
 if a.2.2≠0 then x3.anew ⟨#[74]⟩
 else if x.state=8/\(f.cmd=true\/f.pf=false) then x3
 else if x.state=7/\f.kind=1 then (x3.count a.2.1).goOn
 else
  let x4:=if f.kind≠2 then (x3.stop 200).start 203 else (if x.state=7 then x3.stop 203 else x3).start 200
  let x5:=if x.state=8\/f.kind=3 then (x4.setFl (x4.fl.back)) else x4
  (x5.setState (7)).goOn
def En.info (x:En) (f:Fr):En :=
 let c:=x.fl.come f.ns
 let x0:=(x.setFl (c.1))
 let x1:=if c.2=0 then (x0.told 5 f.info).superv false f.pf
  else if c.2=1 then x0.send 3 false f.pf
  else if f.pf=true then x0.superv false true else x0
 let a:=x1.fl.ack f.nr
 let x2:=(x1.setFl (a.1))
 if a.2.2≠0 then x2.anew ⟨#[74]⟩
 else if x.state=7 then (if x2.fl.peer=false then x2.count a.2.1 else x2).goOn
 else x2
def En.inOpen (x:En) (f:Fr):En :=
 if f.kind=4 then (((x.send 8 false f.pf).told 7 ⟨#[70]⟩).unsure).open1
 else if f.kind=7 then ((x.send 8 false f.pf).told 3 noStr).end1
 else if f.kind=8 then x.strange f
 else if f.kind=5 then x.anew (if f.pf=true then ⟨#[66]⟩ else ⟨#[69]⟩)
 else if f.kind=9 then x.anew ⟨#[75]⟩
 else if f.kind=0 then x.info f
 else x.supervised f
def mayK (k:Int) (c:Bool):Bool:=if k=0\/k=4\/k=6\/k=7 then c else if k=5\/k=8\/k=9 then !c else numb k
def carries (k n:Int):Bool:=if k=0\/k=6 then decide (0<=n) && decide (n<=260) else if k=9 then n == 5 else n == 0 && (decide (0<=k) && decide (k<10))
def En.frame (x:En) (f:Fr):En × List Fx :=
 if x.tei<0\/mayK f.kind f.cmd=false\/carries f.kind f.info.size=false then (x,[])
 else
  let y:=if f.kind=6 then x.told 6 f.info else if x.state=4 then x.inAssigned f else if x.state=5 then x.inConnecting f else if x.state=6 then x.inReleasing f else x.inOpen f
  (y.done,y.out)
def En.again (x:En) (k:Int) (l:ByteArray) (g:Int):En :=
 if x.tries=x.most then ((x.told 7 l).told g noStr).end1
 else ((x.setTries (x.tries+1)).send k true true).start 200
def En.timeout (x:En) (t:Int):En × List Fx :=
 if x.runs t=false then (x,[])
 else
  let x0:=x.setT t false
  let y:=if x.state=5 then x0.again 4 ⟨#[71]⟩ 3 else if x.state=6 then x0.again 7 ⟨#[72]⟩ 4
   else if x.state=7 then (((x0.setTries (0)).inquire).setState (8))
   else if x.state=8 then (if x.tries=x.most then x0.anew ⟨#[73]⟩ else (x0.setTries (x.tries+1)).inquire)
   else x0
  (y.done,y.out)
abbrev TEn:TypeId:=195
abbrev TFx:TypeId:=214
theorem tyFx:ETy Tryz.prog 116 TFx 11 104 Fx.cells :=
 ⟨Tryz.underlying116,⟨.agg #[.int .i64 0,.int .i64 0,.int .i64 0,.bool false,.int .i64 0,.bool false,.int .i64 0,.int .i64 0,.string noStr,.string noStr,.int .i64 0],by kernel_rfl,rfl⟩,fun _=>rfl,fun b u hu=>by simp[Fx.cells] at hu;rcases hu with rfl | rfl | rfl | rfl | rfl | rfl | rfl | rfl | rfl | rfl | rfl <;> rfl,by decide,by decide⟩
abbrev En.cells (x:En) (rm fp:Nat) (uv ov:Value):Array Value:=#[.int .i64 x.most,.int .i64 x.state,.int .i64 x.tei,.int .i64 x.tries,.bool x.asked,.map (some rm),uv,ptr fp,ov]
def EnAt (e:Nat) (x:En):HP:=hex fun z:(Nat × Nat × Value × Value) × {l:BM // ∀ t,bOf l t=x.runs t} =>
 blk e (.cells (x.cells z.1.1 z.1.2.1 z.1.2.2.1 z.1.2.2.2) TEn (0,0))*(LAt TFx 11 Fx.cells z.1.2.2.2 x.out*(MAt kInt vBool z.1.1 z.2.1*(FAt TF TQ z.1.2.1 x.fl*Row 9 1 z.1.2.2.1 x.units.length (strs x.units))))
section
variable {w0 w:World} {R:HP} {e:Nat} {x:En}
theorem St.e_open (h:St w0 w (EnAt e x*R)):∃ rm fp uv ov l,(∀ t,bOf l t=x.runs t)/\St w0 w (blk e (.cells (x.cells rm fp uv ov) TEn (0,0))*(LAt TFx 11 Fx.cells ov x.out*(MAt kInt vBool rm l*(FAt TF TQ fp x.fl*(Row 9 1 uv x.units.length (strs x.units)*R))))):=by
 obtain⟨⟨⟨rm,fp,uv,ov⟩,l,hl⟩,h⟩:=h.ex;exact⟨rm,fp,uv,ov,l,hl,h.eq (by simp only[star_assoc])⟩
theorem St.e_shut {rm fp:Nat} {uv ov:Value} {l:BM} {c:Array Value} {out:List Fx} {fl:Fl} {n:Nat} {us:List Value} (h:St w0 w (blk e (.cells c TEn (0,0))*(LAt TFx 11 Fx.cells ov out*(MAt kInt vBool rm l*(FAt TF TQ fp fl*(Row 9 1 uv n us*R))))))
  (hc:c=x.cells rm fp uv ov) (ho:out=x.out) (hl:∀ t,bOf l t=x.runs t) (hf:fl=x.fl) (hn:n=x.units.length) (hu:us=strs x.units):St w0 w (EnAt e x*R):=by
 subst hc ho hf hn hu;exact St.mk_ex ((rm,fp,uv,ov),⟨l,hl⟩) (h.eq (by simp only[star_assoc]))
end
section
variable (x:En)
theorem En.setT_out (t:Int) (b:Bool):(x.setT t b).out=x.out:=by unfold En.setT;split <;> rfl
theorem En.setT_fl (t:Int) (b:Bool):(x.setT t b).fl=x.fl:=by unfold En.setT;split <;> rfl
theorem En.setT_state (t:Int) (b:Bool):(x.setT t b).state=x.state:=by unfold En.setT;split <;> rfl
theorem En.setT_units (t:Int) (b:Bool):(x.setT t b).units=x.units:=by unfold En.setT;split <;> rfl
theorem En.setT_most (t:Int) (b:Bool):(x.setT t b).most=x.most:=by unfold En.setT;split <;> rfl
theorem En.setT_tries (t:Int) (b:Bool):(x.setT t b).tries=x.tries:=by unfold En.setT;split <;> rfl
theorem En.setT_tei (t:Int) (b:Bool):(x.setT t b).tei=x.tei:=by unfold En.setT;split <;> rfl
theorem En.setT_cells (t:Int) (b:Bool) (rm fp:Nat) (uv ov:Value):(x.setT t b).cells rm fp uv ov=x.cells rm fp uv ov:=by unfold En.setT;split <;> rfl
theorem En.setT_runs {t:Int} (ht:t=200\/t=203) (b:Bool) (u:Int):(x.setT t b).runs u=if u=t then b else x.runs u:=by
 unfold En.setT En.runs;rcases ht with rfl | rfl
 ·rw[if_pos rfl]
  by_cases h:u=200
  ·rw[if_pos h,if_pos h]
  ·rw[if_neg h,if_neg h,if_neg h]
 ·rw[if_neg (show ¬ (203:Int)=200 by decide)]
  by_cases h:u=200
  ·subst h;rw[if_pos rfl,if_neg (by decide),if_pos rfl]
  ·rw[if_neg h,if_neg h]
   by_cases h2:u=203
   ·rw[if_pos h2,if_pos h2]
   ·rw[if_neg h2,if_neg h2,if_neg h2]
theorem En.sendD_len (k:Int) (c p:Bool) (n:Int) (i:ByteArray):(x.sendD k c p n i).out.length=x.out.length+1:=by simp[En.sendD,En.tell]
theorem En.send_len (k:Int) (c p:Bool):(x.send k c p).out.length=x.out.length+1:=x.sendD_len k c p 0 noStr
theorem En.told_len (k:Int) (d:ByteArray):(x.told k d).out.length=x.out.length+1:=by simp[En.told,En.tell]
theorem En.start_len (t:Int):(x.start t).out.length=x.out.length+1:=by simp[En.start,En.tell,setT_out]
theorem En.stop_len (t:Int):(x.stop t).out.length<=x.out.length+1:=by unfold En.stop;split <;> simp[En.tell,setT_out]
theorem En.superv_len (c p:Bool):(x.superv c p).out.length=x.out.length+1:=x.send_len _ c p
theorem En.start_fl (t:Int):(x.start t).fl=x.fl:=x.setT_fl t true
theorem En.stop_fl (t:Int):(x.stop t).fl=x.fl:=by unfold En.stop;split;exact x.setT_fl t false;rfl
theorem En.start_state (t:Int):(x.start t).state=x.state:=x.setT_state t true
theorem En.stop_state (t:Int):(x.stop t).state=x.state:=by unfold En.stop;split;exact x.setT_state t false;rfl
theorem En.start_units (t:Int):(x.start t).units=x.units:=x.setT_units t true
theorem En.stop_units (t:Int):(x.stop t).units=x.units:=by unfold En.stop;split;exact x.setT_units t false;rfl
theorem En.start_most (t:Int):(x.start t).most=x.most:=x.setT_most t true
theorem En.stop_most (t:Int):(x.stop t).most=x.most:=by unfold En.stop;split;exact x.setT_most t false;rfl
theorem En.start_tries (t:Int):(x.start t).tries=x.tries:=x.setT_tries t true
theorem En.stop_tries (t:Int):(x.stop t).tries=x.tries:=by unfold En.stop;split;exact x.setT_tries t false;rfl
theorem En.call_len:x.call.out.length<=x.out.length+3:=by
 have h1:=En.stop_len ((x.setTries 0).send 4 true true) 203;have h2:((x.setTries 0).send 4 true true).out.length=x.out.length+1:=En.send_len (x.setTries 0) 4 true true;have h3:=En.start_len (((x.setTries 0).send 4 true true).stop 203) 200;show ((((x.setTries 0).send 4 true true).stop 203).start 200).out.length<=_
 omega
theorem En.anew_len (l:ByteArray):(x.anew l).out.length<=x.out.length+4:=by
 have h1:=En.call_len ((x.told 7 l).setAsked false);have h2:((x.told 7 l).setAsked false).out.length=x.out.length+1:=x.told_len 7 l;unfold En.anew;omega
theorem En.take1_fl:x.take1.fl=x.fl.take.1:=by
 unfold En.take1;simp only[];split
 ·rfl
 ·exact (En.start_fl _ _).trans (En.stop_fl _ _)
theorem En.take1_state:x.take1.state=x.state:=by
 unfold En.take1;simp only[];split
 ·rfl
 ·exact (En.start_state _ _).trans (En.stop_state _ _)
theorem En.take1_len:x.take1.out.length<=x.out.length+3:=by
 have h1:((x.setFl x.fl.take.1).sendD 0 true false x.fl.take.2.1 x.fl.take.2.2.1).out.length=x.out.length+1:=En.sendD_len (x.setFl x.fl.take.1) 0 true false x.fl.take.2.1 x.fl.take.2.2.1;unfold En.take1;simp only[];split
 ·omega
 ·rw[En.start_len]
  have:=En.stop_len ((x.setFl x.fl.take.1).sendD 0 true false x.fl.take.2.1 x.fl.take.2.2.1) 203
  omega
end
theorem goOnK_len:∀ (n:Nat) (x:En),(En.goOnK n x).out.length<=x.out.length+3*n
 | 0,_=>Nat.le_refl _
 | n+1,x=>by
   unfold En.goOnK;split
   ·have h1:=goOnK_len n x.take1
    have h2:=x.take1_len;omega
   ·omega
theorem goOn_len (x:En):x.goOn.out.length<=x.out.length+384:=by
 unfold En.goOn;split
 ·exact goOnK_len 128 x
 ·omega
theorem open1_len (x:En):x.open1.out.length<=x.out.length+386:=by
 unfold En.open1;have h1:=goOn_len ((((x.setFl x.fl.reset).stop 200).start 203).setState 7);have h2:((x.setFl x.fl.reset).stop 200).out.length<=x.out.length+1:=En.stop_len (x.setFl x.fl.reset) 200;have h3:((((x.setFl x.fl.reset).stop 200).start 203).setState 7).out.length=((x.setFl x.fl.reset).stop 200).out.length+1:=En.start_len ((x.setFl x.fl.reset).stop 200) 203;omega
theorem end1_len (x:En):x.end1.out.length<=x.out.length+2:=by
 have h2:((x.setFl x.fl.clear).stop 200).out.length<=x.out.length+1:=En.stop_len (x.setFl x.fl.clear) 200;have h3:x.end1.out.length<=((x.setFl x.fl.clear).stop 200).out.length+1:=En.stop_len ((x.setFl x.fl.clear).stop 200) 203;omega
theorem inquire_len (x:En):x.inquire.out.length=x.out.length+2:=by
 unfold En.inquire;rw[En.start_len,En.superv_len]
theorem take_sent {s:Fl} (h:s.take.2.2.2=true):s.take.1.q.sent=s.q.sent+1:=by
 unfold Fl.take at h ⊢;split
 ·rename_i h1;rw[if_pos h1] at h;cases h
 ·rename_i h1
  have:¬ s.q.l.length<=s.q.sent:=fun h2=>h1 (.inr (.inl h2))
  simp only[Q.take];rw[if_pos (by omega)]
theorem goOnK_stop {n:Nat} {x:En} (h:x.fl.take.2.2.2=false):En.goOnK n x=x:=by
 cases n with
 | zero=>rfl
 | succ n=>unfold En.goOnK;rw[if_neg (by rw[h];simp)]
theorem goOnK_step {n:Nat} {x:En} (h:x.fl.take.2.2.2=true):En.goOnK (n+1) x=En.goOnK n x.take1:=by
 conv=>lhs;unfold En.goOnK
 rw[if_pos h]
theorem e_tell (e:Nat) (x:En) (y:Fx) (hl:x.out.length<=100000) (w0 w:World) (R:HP) (h:St w0 w (EnAt e x*R)) :
  Calls Tryz.prog 208 #[ptr e,.agg y.cells.toArray] w fun r w'=>r=.returned (.tuple #[])/\St w0 w' (EnAt e (x.tell y)*R):=by
 obtain⟨rm,fp,uv,ov,rl,hr,h1⟩:=h.e_open;have h2:=h1.alloc (.cells y.cells.toArray TFx);clear h h1;go_enter Tryz.func208,Tryz.ntmps208
 go_upto_region 1 with fail
 generalize w.alloc _=wa at *;generalize w.heap.size=ga at *;have d:=h2.cell;have lte:=h2.f2.lt;have ltg:=h2.lt;have c:=h2.f2.cell;have hx:=((h2.alloc (.cells y.cells.toArray TFx)).l_mk tyFx.len [y] 1 rfl (by simp) (by decide)).f4;have hge:(x.out.length+[y].length)*104<=140737488355328:=by simp;omega
 have HX:=Lib.hid hx;clear hx;go_region_law (refine step_append_l rfl (.tmp 8) (.tmp 10) rfl tyFx HX.out.drew (by simp) rfl rfl hge ?_;intro g off cap w8 h8;have c8:=h8.f3.cell;have f8:=h8.f3.free)
 all_goals (
  go_end0
  exact⟨rfl,((h8.f3.set 8 (.slice (some ⟨g,off,none⟩) (x.out.length+1) cap)).f3.drop).e_shut (x:=x.tell y) (rm:=rm) (fp:=fp) (uv:=uv) rfl rfl hr rfl rfl rfl⟩)
theorem k_numb (k:Int) (w:World):Calls Tryz.prog 114 #[.int .i64 k] w fun r w'=>r=.returned (.bool (numb k))/\w'=w:=by
 unfold numb;by_cases h0:0<=k
 ·have b0:decide (0<=k)=true:=by simpa using h0
  have b1:decide (k ≥ 0)=true:=by simpa using h0
  rw[b0];go_enter Tryz.func114,Tryz.ntmps114
  go_wp2;go_ret
  exact⟨rfl,rfl⟩
 ·have b0:decide (0<=k)=false:=by simpa using h0
  have b1:decide (k ≥ 0)=false:=by simpa using h0
  rw[b0];go_enter Tryz.func114,Tryz.ntmps114
  go_wp2;go_ret
  exact⟨rfl,rfl⟩
theorem view_f2 (a b c g h:Int) (x y z:Bool) (w:World):(Instr.field 47 (.agg #[.int .i64 a,.int .i64 b,.int .i64 c,.bool x,.bool y,.bool z,.int .i64 g,.int .i64 h]) 2).run Tryz.prog w=.ok (.int .i64 c) w:=by kernel_rfl
theorem view_f4 (a b c g h:Int) (x y z:Bool) (w:World):(Instr.field 47 (.agg #[.int .i64 a,.int .i64 b,.int .i64 c,.bool x,.bool y,.bool z,.int .i64 g,.int .i64 h]) 4).run Tryz.prog w=.ok (.bool y) w:=by kernel_rfl
theorem e_told (e:Nat) (x:En) (k:Int) (d:ByteArray) (hl:x.out.length<=100000) (w0 w:World) (R:HP) (h:St w0 w (EnAt e x*R)) :
  Calls Tryz.prog 130 #[ptr e,.int .i64 k,.string d] w fun r w'=>r=.returned (.tuple #[])/\St w0 w' (EnAt e (x.told k d)*R):=by
 go_enter Tryz.func130,Tryz.ntmps130
 go_wp2_with fail
 refine (e_tell e x (.of k d) hl w0 w R h).mono ?_
 rintro r w1 ⟨rfl,h1⟩;go_wp2;go_end0
 exact⟨rfl,h1⟩
theorem e_start (e:Nat) (x:En) (t:Int) (ht:t=200\/t=203) (hl:x.out.length<=100000) (w0 w:World) (R:HP) (h:St w0 w (EnAt e x*R)) :
  Calls Tryz.prog 161 #[ptr e,.int .i64 t] w fun r w'=>r=.returned (.tuple #[])/\St w0 w' (EnAt e (x.start t)*R):=by
 have hk:kInt.ok t:=kok _ (by omega) (by omega);obtain⟨rm,fp,uv,ov,rl,hr,h1⟩:=h.e_open;have c:=h1.cell;have f:=h1.free;go_enter Tryz.func161,Tryz.ntmps161
 go_wp2_with (at_mapUpdate;refine wp_mput rfl (.tmp 7) (.tmp 8) (.const (Value.bool true)) 192 rfl tyBM h1.f3 rfl t rfl hk true rfl ?_;intro w5 h4)
 have h5:St w0 w5 (EnAt e (x.setT t true)*R):=h4.b3.e_shut (x.setT_cells t true rm fp uv ov).symm (x.setT_out t true).symm (fun u=>by rw[bOf_put,x.setT_runs ht,hr]) (x.setT_fl t true).symm (by rw[x.setT_units]) (by rw[x.setT_units]);clear h4 h1 h c f;go_wp2_with fail
 refine (e_tell e (x.setT t true) (.tim 9 t) (by rw[En.setT_out];exact hl) w0 w5 R h5).mono ?_
 rintro r w6 ⟨rfl,h6⟩;go_wp2;go_end0
 exact⟨rfl,h6⟩
theorem e_stop (e:Nat) (x:En) (t:Int) (ht:t=200\/t=203) (hl:x.out.length<=100000) (w0 w:World) (R:HP) (h:St w0 w (EnAt e x*R)) :
  Calls Tryz.prog 201 #[ptr e,.int .i64 t] w fun r w'=>r=.returned (.tuple #[])/\St w0 w' (EnAt e (x.stop t)*R):=by
 have hk:kInt.ok t:=kok _ (by omega) (by omega);obtain⟨rm,fp,uv,ov,rl,hr,h1⟩:=h.e_open;have c:=h1.cell;have f:=h1.free;have hb:=h1.f3.bm t hk;rw[hr t] at hb;unfold En.stop;cases hx:x.runs t with
 | false =>
   rw[hx] at hb;rw[if_neg (by simp)];go_enter Tryz.func201,Tryz.ntmps201
   go_wp2;go_end0
   exact⟨rfl,h⟩
 | true =>
   rw[hx] at hb;rw[if_pos rfl];go_enter Tryz.func201,Tryz.ntmps201
   go_wp2_with (at_mapUpdate;refine wp_mput rfl (.tmp 13) (.tmp 14) (.const (Value.bool false)) 192 rfl tyBM h1.f3 rfl t rfl hk false rfl ?_;intro w5 h4)
   have h5:St w0 w5 (EnAt e (x.setT t false)*R):=h4.b3.e_shut (x.setT_cells t false rm fp uv ov).symm (x.setT_out t false).symm (fun u=>by rw[bOf_put,x.setT_runs ht,hr]) (x.setT_fl t false).symm (by rw[x.setT_units]) (by rw[x.setT_units]);clear h4 h1 h c f hb;go_wp2_with fail
   refine (e_tell e (x.setT t false) (.tim 10 t) (by rw[En.setT_out];exact hl) w0 w5 R h5).mono ?_
   rintro r w6 ⟨rfl,h6⟩;go_wp2;go_end0
   exact⟨rfl,h6⟩
theorem e_sendD (e:Nat) (x:En) (k:Int) (c p:Bool) (ns:Int) (i:ByteArray) (ok:x.fl.Ok) (hl:x.out.length<=100000) (w0 w:World) (R:HP) (h:St w0 w (EnAt e x*R)) :
  Calls Tryz.prog 204 #[ptr e,.int .i64 k,.bool c,.bool p,.int .i64 ns,.string i] w fun r w'=>r=.returned (.tuple #[])/\St w0 w' (EnAt e (x.sendD k c p ns i)*R):=by
 obtain⟨rm,fp,uv,ov,rl,hr,h1⟩:=h.e_open;have c0:=h1.cell;have h2:=h1.alloc (.cells #[.int .i64 0,.int .i64 x.tei,.bool c,.int .i64 k,.bool p,.int .i64 ns,.int .i64 0,.string i] 76);have hv2:=view_f2;unfold En.sendD;have hk:=k_numb k;clear h h1;cases hn:numb k with
 | false =>
   rw[hn] at hk;rw[if_neg (by simp)];go_enter Tryz.func204,Tryz.ntmps204
   go_upto_region 1 with fail
   generalize w.alloc _=wa at *;generalize w.heap.size=ga at *;have d:=h2.cell;have ce:=h2.f2.cell;clear c0;go_wp2_with fail
   refine (hk wa).mono ?_
   rintro r w1 ⟨rfl,rfl⟩;have h3:St w0 w1 (EnAt e x*(blk ga _*R)):=(h2.eq (show _=blk e _*(_*(_*(_*(_*(blk ga _*R))))) by ac_rfl)).e_shut rfl rfl hr rfl rfl rfl;go_wp2_with fail
   refine (e_tell e x ⟨0,⟨0,x.tei,c,k,p,ns,0,i⟩,noStr,0⟩ hl w0 w1 _ h3).mono ?_
   rintro r w2 ⟨rfl,h4⟩;go_wp2;go_end0
   exact⟨rfl,h4.f2.drop⟩
 | true =>
   rw[hn] at hk;rw[if_pos rfl];go_enter Tryz.func204,Tryz.ntmps204
   go_upto_region 1 with fail
   generalize w.alloc _=wa at *;generalize w.heap.size=ga at *;have d:=h2.cell;have ce:=h2.f2.cell;clear c0;go_wp2_with fail
   refine (hk wa).mono ?_
   rintro r w1 ⟨rfl,rfl⟩;have hv:=f_view fp x.fl w0 w1 _ h2.f5 ok;unfold Fl.view at hv;go_wp2_with fail
   refine hv.mono ?_
   rintro r w2 ⟨rfl,h3⟩;have h4:=h3.b5;have d4:=h4.cell;have f4:=h4.free;have h5:=h4.set 6 (.int .i64 x.fl.vr);clear h2 h3 h4 d ce hv;go_upto_region 3 with fail
   generalize w2.setCell _ _=w3 at *;have d5:=h5.cell;have h6:St w0 w3 (EnAt e x*(blk ga (.cells #[.int .i64 0,.int .i64 x.tei,.bool c,.int .i64 k,.bool p,.int .i64 ns,.int .i64 x.fl.vr,.string i] 76 (0,0))*R)):=(h5.eq (show _=blk e _*(_*(_*(_*(_*(blk ga _*R))))) by ac_rfl)).e_shut rfl rfl hr rfl rfl rfl;clear h5 d4 f4;go_wp2_with fail
   refine (e_tell e x ⟨0,⟨0,x.tei,c,k,p,ns,x.fl.vr,i⟩,noStr,0⟩ hl w0 w3 _ h6).mono ?_
   rintro r w4 ⟨rfl,h7⟩;go_wp2;go_end0
   exact⟨rfl,h7.f2.drop⟩
section
variable {w0 w:World} {R:HP} {e:Nat} {x:En}
theorem St.e_set_state (h:St w0 w (EnAt e x*R)) (v:Int):St w0 (w.setCell ⟨e,1,none⟩ (.int .i64 v)) (EnAt e (x.setState v)*R):=by
 obtain⟨rm,fp,uv,ov,rl,hr,h1⟩:=h.e_open;exact (h1.set 1 (.int .i64 v)).e_shut (x:=x.setState v) rfl rfl hr rfl rfl rfl
theorem St.e_set_tries (h:St w0 w (EnAt e x*R)) (v:Int):St w0 (w.setCell ⟨e,3,none⟩ (.int .i64 v)) (EnAt e (x.setTries v)*R):=by
 obtain⟨rm,fp,uv,ov,rl,hr,h1⟩:=h.e_open;exact (h1.set 3 (.int .i64 v)).e_shut (x:=x.setTries v) rfl rfl hr rfl rfl rfl
theorem St.e_set_tei (h:St w0 w (EnAt e x*R)) (v:Int):St w0 (w.setCell ⟨e,2,none⟩ (.int .i64 v)) (EnAt e (x.setTei v)*R):=by
 obtain⟨rm,fp,uv,ov,rl,hr,h1⟩:=h.e_open;exact (h1.set 2 (.int .i64 v)).e_shut (x:=x.setTei v) rfl rfl hr rfl rfl rfl
theorem St.e_set_asked (h:St w0 w (EnAt e x*R)) (v:Bool):St w0 (w.setCell ⟨e,4,none⟩ (.bool v)) (EnAt e (x.setAsked v)*R):=by
 obtain⟨rm,fp,uv,ov,rl,hr,h1⟩:=h.e_open;exact (h1.set 4 (.bool v)).e_shut (x:=x.setAsked v) rfl rfl hr rfl rfl rfl
end
theorem e_send (e:Nat) (x:En) (k:Int) (c p:Bool) (ok:x.fl.Ok) (hl:x.out.length<=100000) (w0 w:World) (R:HP) (h:St w0 w (EnAt e x*R)) :
  Calls Tryz.prog 160 #[ptr e,.int .i64 k,.bool c,.bool p] w fun r w'=>r=.returned (.tuple #[])/\St w0 w' (EnAt e (x.send k c p)*R):=by
 go_enter Tryz.func160,Tryz.ntmps160
 go_wp2_with fail
 refine (e_sendD e x k c p 0 noStr ok hl w0 w R h).mono ?_
 rintro r w1 ⟨rfl,h1⟩;go_wp2;go_end0
 exact⟨rfl,h1⟩
theorem e_call (e:Nat) (x:En) (ok:x.fl.Ok) (hl:x.out.length<=99990) (w0 w:World) (R:HP) (h:St w0 w (EnAt e x*R)) :
  Calls Tryz.prog 163 #[ptr e] w fun r w'=>r=.returned (.tuple #[])/\St w0 w' (EnAt e x.call*R):=by
 have h2:=h.e_set_tries 0;have l1:((x.setTries 0).send 4 true true).out.length=x.out.length+1:=En.send_len (x.setTries 0) 4 true true;have l2:=En.stop_len ((x.setTries 0).send 4 true true) 203;obtain⟨rm,fp,uv,ov,rl,hr,h1⟩:=(h).e_open;have c:=h1.cell;have f:=h1.free;go_enter Tryz.func163,Tryz.ntmps163
 go_wp2_with fail
 refine (e_send e (x.setTries 0) 4 true true ok (show x.out.length<=100000 by omega) w0 _ R h2).mono ?_
 rintro r w1 ⟨rfl,h3⟩;clear c f h h1 h2;go_wp2_with fail
 refine (e_stop e _ 203 (.inr rfl) (by omega) w0 w1 R h3).mono ?_
 rintro r w2 ⟨rfl,h4⟩;go_wp2_with fail
 refine (e_start e _ 200 (.inl rfl) (by omega) w0 w2 R h4).mono ?_
 rintro r w3 ⟨rfl,h5⟩;have h6:=h5.e_set_state 5;obtain⟨rm,fp,uv,ov,rl,hr,h1⟩:=(h5).e_open;have c:=h1.cell;have f:=h1.free;go_wp2;go_end0
 exact⟨rfl,h6⟩
theorem e_anew (e:Nat) (x:En) (l:ByteArray) (ok:x.fl.Ok) (hl:x.out.length<=99980) (w0 w:World) (R:HP) (h:St w0 w (EnAt e x*R)) :
  Calls Tryz.prog 94 #[ptr e,.string l] w fun r w'=>r=.returned (.tuple #[])/\St w0 w' (EnAt e (x.anew l)*R):=by
 have l1:=x.told_len 7 l;go_enter Tryz.func94,Tryz.ntmps94
 go_wp2_with fail
 refine (e_told e x 7 l (by omega) w0 _ R h).mono ?_
 rintro r w1 ⟨rfl,h2⟩;have h3:=h2.e_set_asked false;obtain⟨rm,fp,uv,ov,rl,hr,h1⟩:=(h2).e_open;have c:=h1.cell;have f:=h1.free;go_wp2_with fail
 refine (e_call e ((x.told 7 l).setAsked false) ok (show (x.told 7 l).out.length<=99990 by omega) w0 _ R h3).mono ?_
 rintro r w2 ⟨rfl,h4⟩;clear c f h1 h2 h3;go_wp2;go_end0
 exact⟨rfl,h4⟩
theorem e_superv (e:Nat) (x:En) (a b:Bool) (ok:x.fl.Ok) (hl:x.out.length<=100000) (w0 w:World) (R:HP) (h:St w0 w (EnAt e x*R)) :
  Calls Tryz.prog 162 #[ptr e,.bool a,.bool b] w fun r w'=>r=.returned (.tuple #[])/\St w0 w' (EnAt e (x.superv a b)*R):=by
 have hv4:=view_f4;obtain⟨rm,fp,uv,ov,rl,hr,h1⟩:=h.e_open;have c:=h1.cell;clear h;cases ho:x.fl.own with
 | true =>
   have hv:=f_view fp x.fl w0 w _ h1.f4 ok;unfold Fl.view at hv;rw[ho] at hv;unfold En.superv;rw[ho];go_enter Tryz.func162,Tryz.ntmps162
   go_wp2_with fail
   refine hv.mono ?_
   rintro r w1 ⟨rfl,h3⟩;have h4:St w0 w1 (EnAt e x*R):=h3.b4.e_shut rfl rfl hr rfl rfl rfl;clear hv h3 h1 c;go_wp2_with fail
   refine (e_send e x 2 a b ok hl w0 w1 R h4).mono ?_
   rintro r w2 ⟨rfl,h5⟩;go_wp2;go_end0
   exact⟨rfl,h5⟩
 | false =>
   have hv:=f_view fp x.fl w0 w _ h1.f4 ok;unfold Fl.view at hv;rw[ho] at hv;unfold En.superv;rw[ho];go_enter Tryz.func162,Tryz.ntmps162
   go_wp2_with fail
   refine hv.mono ?_
   rintro r w1 ⟨rfl,h3⟩;have h4:St w0 w1 (EnAt e x*R):=h3.b4.e_shut rfl rfl hr rfl rfl rfl;clear hv h3 h1 c;go_wp2_with fail
   refine (e_send e x 1 a b ok hl w0 w1 R h4).mono ?_
   rintro r w2 ⟨rfl,h5⟩;go_wp2;go_end0
   exact⟨rfl,h5⟩
theorem e_inquire (e:Nat) (x:En) (ok:x.fl.Ok) (hl:x.out.length<=99990) (w0 w:World) (R:HP) (h:St w0 w (EnAt e x*R)) :
  Calls Tryz.prog 93 #[ptr e] w fun r w'=>r=.returned (.tuple #[])/\St w0 w' (EnAt e x.inquire*R):=by
 have l1:=x.superv_len true true;go_enter Tryz.func93,Tryz.ntmps93
 go_wp2_with fail
 refine (e_superv e x true true ok (by omega) w0 _ R h).mono ?_
 rintro r w1 ⟨rfl,h2⟩;go_wp2_with fail
 refine (e_start e _ 200 (.inl rfl) (by omega) w0 w1 R h2).mono ?_
 rintro r w2 ⟨rfl,h3⟩;go_wp2;go_end0
 exact⟨rfl,h3⟩
theorem e_end (e:Nat) (x:En) (ok:x.fl.Ok) (hl:x.out.length<=99990) (w0 w:World) (R:HP) (h:St w0 w (EnAt e x*R)) :
  Calls Tryz.prog 159 #[ptr e] w fun r w'=>r=.returned (.tuple #[])/\St w0 w' (EnAt e x.end1*R):=by
 have l1:((x.setFl x.fl.clear).stop 200).out.length<=x.out.length+1:=En.stop_len (x.setFl x.fl.clear) 200;obtain⟨rm,fp,uv,ov,rl,hr,h1⟩:=h.e_open;have c:=h1.cell;clear h;go_enter Tryz.func159,Tryz.ntmps159
 go_wp2_with fail
 refine (f_clear fp x.fl w0 w _ h1.f4 ok).mono ?_
 rintro r w1 ⟨rfl,h2⟩;have h3:St w0 w1 (EnAt e (x.setFl x.fl.clear)*R):=h2.b4.e_shut (x:=x.setFl x.fl.clear) rfl rfl hr rfl rfl rfl;clear h1 h2 c;go_wp2_with fail
 refine (e_stop e (x.setFl x.fl.clear) 200 (.inl rfl) (show x.out.length<=100000 by omega) w0 w1 R h3).mono ?_
 rintro r w2 ⟨rfl,h4⟩;go_wp2_with fail
 refine (e_stop e _ 203 (.inr rfl) (by omega) w0 w2 R h4).mono ?_
 rintro r w3 ⟨rfl,h5⟩;have h6:=h5.e_set_state 4;clear h3 h4;obtain⟨rm,fp,uv,ov,rl,hr,h1⟩:=(h5).e_open;have c:=h1.cell;have f:=h1.free;go_wp2;go_end0
 exact⟨rfl,h6⟩
theorem e_done (e:Nat) (x:En) (w0 w:World) (R:HP) (h:St w0 w (EnAt e x*R)) :
  Calls Tryz.prog 95 #[ptr e] w fun r w'=>∃ v,r=.returned v/\St w0 w' (LAt TFx 11 Fx.cells v x.out*(EnAt e x.done*R)):=by
 obtain⟨rm,fp,uv,ov,rl,hr,h1⟩:=h.e_open;have c:=h1.cell;have f:=h1.free;have h2:=h1.set 8 (.slice none 0 0);obtain⟨a1,c1,rfl,_,_⟩:=h1.f2.l_shape;clear h;go_enter Tryz.func95,Tryz.ntmps95
 go_wp2;go_ret
 have h3:=(h2.f2.l_nil TFx 11 Fx.cells).eq (show _=blk e (.cells ((x.cells rm fp uv (.slice a1 x.out.length c1)).setIfInBounds 8 (.slice none 0 0)) TEn (0,0))*(LAt TFx 11 Fx.cells (.slice none 0 0) []*(MAt kInt vBool rm rl*(FAt TF TQ fp x.fl*(Row 9 1 uv x.units.length (strs x.units)*(LAt TFx 11 Fx.cells (.slice a1 x.out.length c1) x.out*R))))) by ac_rfl);exact⟨_,rfl,(h3.e_shut (x:=x.done) rfl rfl hr rfl rfl rfl).f2⟩
def lenAt:Option Value->Nat
 | some (.slice _ n _)=>n
 | _=>0
theorem St.e_len {w0 w:World} {R:HP} {e:Nat} {x:En} (h:St w0 w (EnAt e x*R)):lenAt (w.cell? ⟨e,8,none⟩)=x.out.length:=by
 obtain⟨rm,fp,uv,ov,rl,hr,h1⟩:=h.e_open;obtain⟨a1,c1,rfl,_,_⟩:=h1.f2.l_shape;rw[h1.cell 8];rfl
theorem En.stop_le (x:En) (t:Int):x.out.length<=(x.stop t).out.length:=by unfold En.stop;split <;> simp[En.tell,En.setT_out]
theorem En.take1_gt (x:En):x.out.length<x.take1.out.length:=by
 have h1:((x.setFl x.fl.take.1).sendD 0 true false x.fl.take.2.1 x.fl.take.2.2.1).out.length=x.out.length+1:=En.sendD_len (x.setFl x.fl.take.1) 0 true false x.fl.take.2.1 x.fl.take.2.2.1;unfold En.take1;simp only[];split
 ·omega
 ·rw[En.start_len]
  have:=En.stop_le ((x.setFl x.fl.take.1).sendD 0 true false x.fl.take.2.1 x.fl.take.2.2.1) 203
  omega
theorem take_none {s:Fl} (h:s.take.2.2.2=false):s.take.1=s:=by
 unfold Fl.take at h ⊢;split
 ·rfl
 ·rename_i h1;rw[if_neg h1] at h;cases h
structure Far (x y:En) (j:Nat):Prop where
 go:En.goOnK (128 - j) y=En.goOnK 128 x
 st:y.state=7
 ok:y.fl.Ok
 sent:j<=y.fl.q.sent
 len:y.out.length<=x.out.length+3*j
theorem Far.lt {x y:En} {j:Nat} (h:Far x y j):j<=127:=by
 have:=h.ok.n
 have:=h.sent
 omega
theorem Far.next {x y:En} {j:Nat} (h:Far x y j) (ht:y.fl.take.2.2.2=true):Far x y.take1 (j+1):=by
 have hj:=h.lt;have ok2:=h.ok.take;have hs:=take_sent ht;have h1:=h.sent;refine⟨?_,y.take1_state.trans h.st,by rw[y.take1_fl];exact ok2,by rw[y.take1_fl];omega,?_⟩
 ·rw[← h.go,show 128 - j=(128 - (j+1))+1 by omega,goOnK_step ht]
 ·have:=y.take1_len
  have:=h.len
  omega
theorem Far.last {x y:En} {j:Nat} (h:Far x y j) (ht:y.fl.take.2.2.2=false):En.goOnK 128 x=y:=by
 rw[← h.go,goOnK_stop ht]
theorem e_goOn (e:Nat) (x:En) (ok:x.fl.Ok) (hl:x.out.length<=99000) (w0 w:World) (R:HP) (h:St w0 w (EnAt e x*R)) :
  Calls Tryz.prog 203 #[ptr e] w fun r w'=>r=.returned (.tuple #[])/\St w0 w' (EnAt e x.goOn*R):=by
 unfold En.goOn;by_cases hs:x.state=7
 ·rw[if_pos hs]
  go_enter Tryz.func203,Tryz.ntmps203
  go_wp2;go_loopw [] (fun wr=>∃ (j:Nat) (y:En),Hid (Far x y j)/\St w0 wr (EnAt e y*R)) (fun wr=>200000 - lenAt (wr.cell? ⟨e,8,none⟩))
  case atStart=>exact⟨0,x,Lib.hid ⟨rfl,hs,ok,Nat.zero_le _,by omega⟩,h⟩
  case round =>
   clear h;obtain⟨j,y,hF,h2⟩:=hrel;have hlen:=h2.e_len;have hy:=hF.out.len;have hj:=hF.out.lt;cases hb:y.fl.take.2.2.2 with
   | false =>
     obtain⟨rm,fp,uv,ov,rl,hr,h1⟩:=h2.e_open;have c:=h1.cell;have s7:wr.cell? ⟨e,1,none⟩=some (.int .i64 7):=(c 1).trans (show some (Value.int .i64 y.state)=_ by rw[hF.out.st]);have c7:wr.cell? ⟨e,7,none⟩=some (ptr fp):=c 7;clear c;have hT:=f_take fp y.fl w0 wr _ h1.f4 hF.out.ok;rw[hb,take_none hb] at hT;have hL:=Lib.hid (hF.out.last hb);clear hb;go_wp2_with fail
     refine hT.mono ?_
     rintro r w1 ⟨rfl,h3⟩;have h4:St w0 w1 (EnAt e y*R):=h3.b4.e_shut rfl rfl hr rfl rfl rfl;clear h1 h3 c7 s7 hr;go_wp2;refine bodyPost_ret (v:=.tuple #[]) (by simp[results,Tryz.results203,go_sem]) rfl ?_
     rw[hL.out];exact⟨rfl,h4⟩
   | true =>
     have hN:=Lib.hid (hF.out.next hb);have hg:=Lib.hid y.take1_gt;obtain⟨rm,fp,uv,ov,rl,hr,h1⟩:=h2.e_open;have c:=h1.cell;have s7:wr.cell? ⟨e,1,none⟩=some (.int .i64 7):=(c 1).trans (show some (Value.int .i64 y.state)=_ by rw[hF.out.st]);have c7:wr.cell? ⟨e,7,none⟩=some (ptr fp):=c 7;clear c;have hT:=f_take fp y.fl w0 wr _ h1.f4 hF.out.ok;have okt:=hF.out.ok.take;rw[hb] at hT;obtain⟨z,hz⟩:∃ z,y.take1=z:=⟨_,rfl⟩;rw[hz] at hN hg;unfold En.take1 at hz;simp only[] at hz;generalize y.fl.take=tk at hT hz okt;obtain⟨fl',ns,s,b⟩:=tk;simp only[] at hT hz okt;clear hb;go_wp2_with fail
     refine hT.mono ?_
     rintro r w1 ⟨rfl,h3⟩;have h4:St w0 w1 (EnAt e (y.setFl fl')*R):=h3.b4.e_shut (x:=y.setFl fl') rfl rfl hr rfl rfl rfl;clear h1 h3 h2 c7 s7 hT hr;go_wp2_with fail
     refine (e_sendD e (y.setFl fl') 0 true false ns s okt (show y.out.length<=100000 by omega) w0 w1 R h4).mono ?_
     rintro r w2 ⟨rfl,h5⟩;have hlY:((y.setFl fl').sendD 0 true false ns s).out.length=y.out.length+1:=En.sendD_len (y.setFl fl') 0 true false ns s;have hR:((y.setFl fl').sendD 0 true false ns s).runs 200=y.t2:=rfl;generalize (y.setFl fl').sendD 0 true false ns s=Y at *;obtain⟨rm,fp,uv,ov,rl,hr,h6⟩:=h5.e_open;have c:=h6.cell;have hb:=h6.f3.bm 200 (kok _ (by omega) (by omega));rw[hr 200,hR] at hb;clear h6 hr h4;cases h2:y.t2 with
     | true =>
       rw[h2] at hb hz;rw[if_pos rfl] at hz;subst hz;go_wp2;go_roundw
       case rel=>exact⟨j+1,_,hN,h5⟩
       case measure=>rw[h5.e_len,hlen];have:=hg.out;omega
     | false =>
       rw[h2] at hb hz;rw[if_neg (by simp)] at hz;have lS:=En.stop_len Y 203;go_wp2_with fail
       refine (e_stop e Y 203 (.inr rfl) (by omega) w0 w2 R h5).mono ?_
       rintro r w3 ⟨rfl,h7⟩;clear c hb h5;go_wp2_with fail
       refine (e_start e (Y.stop 203) 200 (.inl rfl) (by omega) w0 w3 R h7).mono ?_
       rintro r w4 ⟨rfl,h8⟩;clear h7;rw[hz] at h8;clear hz;go_wp2;go_roundw
       case rel=>exact⟨j+1,_,hN,h8⟩
       case measure=>rw[h8.e_len,hlen];have:=hg.out;omega
 ·rw[if_neg hs]
  have b:(x.state == 7)=false:=by simpa using hs
  go_enter Tryz.func203,Tryz.ntmps203
  go_wp2;go_loopw [] (fun wr=>St w0 wr (EnAt e x*R)) (fun _=>0)
  case atStart=>exact h
  case round =>
   clear h;obtain⟨rm,fp,uv,ov,rl,hr,h1⟩:=(hrel).e_open;have c:=h1.cell;have f:=h1.free;go_wp2;go_end0
   exact⟨rfl,hrel⟩
section
variable {w0 w:World} {R:HP} {e:Nat} {x:En}
theorem St.e_fl (h:St w0 w (EnAt e x*R)):∃ fp R',w.cell? ⟨e,7,none⟩=some (ptr fp)/\St w0 w (FAt TF TQ fp x.fl*R')/\∀ w' fl,St w0 w' (FAt TF TQ fp fl*R')->St w0 w' (EnAt e (x.setFl fl)*R):=by
 obtain⟨rm,fp,uv,ov,rl,hr,h1⟩:=h.e_open;exact⟨fp,_,h1.cell 7,h1.f4,fun w' fl h2=>h2.b4.e_shut (x:=x.setFl fl) rfl rfl hr rfl rfl rfl⟩
theorem St.e_c0 (h:St w0 w (EnAt e x*R)):w.cell? ⟨e,0,none⟩=some (.int .i64 x.most):=by obtain⟨rm,fp,uv,ov,rl,hr,h1⟩:=h.e_open;exact h1.cell 0
theorem St.e_c1 (h:St w0 w (EnAt e x*R)):w.cell? ⟨e,1,none⟩=some (.int .i64 x.state):=by obtain⟨rm,fp,uv,ov,rl,hr,h1⟩:=h.e_open;exact h1.cell 1
theorem St.e_c2 (h:St w0 w (EnAt e x*R)):w.cell? ⟨e,2,none⟩=some (.int .i64 x.tei):=by obtain⟨rm,fp,uv,ov,rl,hr,h1⟩:=h.e_open;exact h1.cell 2
theorem St.e_c3 (h:St w0 w (EnAt e x*R)):w.cell? ⟨e,3,none⟩=some (.int .i64 x.tries):=by obtain⟨rm,fp,uv,ov,rl,hr,h1⟩:=h.e_open;exact h1.cell 3
theorem St.e_c4 (h:St w0 w (EnAt e x*R)):w.cell? ⟨e,4,none⟩=some (.bool x.asked):=by obtain⟨rm,fp,uv,ov,rl,hr,h1⟩:=h.e_open;exact h1.cell 4
theorem St.e_fr (h:St w0 w (EnAt e x*R)):∀ i,w.frozen? ⟨e,i,none⟩=false:=by obtain⟨rm,fp,uv,ov,rl,hr,h1⟩:=h.e_open;exact h1.free
end
theorem e_open1 (e:Nat) (x:En) (ok:x.fl.Ok) (hl:x.out.length<=98990) (w0 w:World) (R:HP) (h:St w0 w (EnAt e x*R)) :
  Calls Tryz.prog 210 #[ptr e] w fun r w'=>r=.returned (.tuple #[])/\St w0 w' (EnAt e x.open1*R):=by
 have l1:((x.setFl x.fl.reset).stop 200).out.length<=x.out.length+1:=En.stop_len (x.setFl x.fl.reset) 200;have l2:=En.start_len ((x.setFl x.fl.reset).stop 200) 203;have ok2:((((x.setFl x.fl.reset).stop 200).start 203).setState 7).fl.Ok:=by
  show (((x.setFl x.fl.reset).stop 200).start 203).fl.Ok
  rw[En.start_fl,En.stop_fl];exact ok.reset
 obtain⟨fp,R',c7,hf,hb⟩:=h.e_fl;clear h;go_enter Tryz.func210,Tryz.ntmps210
 go_wp2_with fail
 refine (f_reset fp x.fl w0 w _ hf).mono ?_
 rintro r w1 ⟨rfl,h2⟩;have h3:=hb _ _ h2;clear hf hb h2 c7;go_wp2_with fail
 refine (e_stop e (x.setFl x.fl.reset) 200 (.inl rfl) (show x.out.length<=100000 by omega) w0 w1 R h3).mono ?_
 rintro r w2 ⟨rfl,h4⟩;go_wp2_with fail
 refine (e_start e _ 203 (.inr rfl) (by omega) w0 w2 R h4).mono ?_
 rintro r w3 ⟨rfl,h5⟩;have h6:=h5.e_set_state 7;have c1:=h5.e_c1;have f1:=h5.e_fr;clear h3 h4;go_wp2_with fail
 refine (e_goOn e _ ok2 (show (((x.setFl x.fl.reset).stop 200).start 203).out.length<=99000 by omega) w0 _ R h6).mono ?_
 rintro r w4 ⟨rfl,h7⟩;clear c1 f1 h5 h6;go_wp2;go_end0
 exact⟨rfl,h7⟩
theorem En.up_iff (x:En):x.up=true↔x.state=7\/x.state=8:=by simp[En.up]
end Go.Proofs.YtjcldoejpldcmaaGreatDoor
