/- Parts of a proof (ClockE, TermP). No condition. -/
import Derived.Test.YtnnahljdhdippaaGreatDoorC16
import Derived.Test.YtnnahljdhdippaaGreatDoorC11
import Derived.Test.YtnnahljdhdippaaGreatDoorC15
namespace Go.Proofs.YtnnahljdhdippaaGreatDoor
set_option maxRecDepth 100000
set_option maxHeartbeats 6400000
open Go.RowKit Go.Sort
def dueK (l:Tms) (now:Int):List Key:=sortK l ((l.filter fun p=>decide (p.2<=now)).map (·.1))
def leftK (l:Tms) (now:Int):Tms:=l.filter fun p=>decide (now<p.2)
structure Coll (l:Tms) (now:Int) (left:List Key) (out:List Key):Prop where
 nd:out.Nodup
 mem:∀ k,k ∈ out↔(∃ t,(k,t) ∈ l/\t<=now)/\k ∉ left
theorem Coll.start (l:Tms) (now:Int):Coll l now (l.map (·.1)) [] :=
 ⟨by simp,fun k=>by
  simp
  intro t h _;exact⟨t,h⟩⟩
theorem Coll.len {l:Tms} {now:Int} {left out:List Key} (h:Coll l now left out) (hn:(l.map (·.1)).Nodup):out.length<=l.length:=by
 have hp:out.Perm ((l.filter fun p=>decide (p.1 ∈ out)).map (·.1)):=by
  rw[List.perm_ext_iff_of_nodup h.nd ((List.filter_sublist.map _).nodup hn)];intro k;simp only[List.mem_map,List.mem_filter,decide_eq_true_eq];constructor
  ·intro hk
   obtain⟨⟨t,ht,_⟩,_⟩:=(h.mem k).1 hk;exact⟨(k,t),⟨ht,hk⟩,rfl⟩
  ·rintro ⟨q,⟨_,h2⟩,rfl⟩
   exact h2
 rw[hp.length_eq,List.length_map];exact List.length_filter_le _ _
theorem uniq {l:Tms} (hn:(l.map (·.1)).Nodup) {x:Key} {v t:Int} (hv:mlook l x=some v) (ht:(x,t) ∈ l):t=v:=by
 obtain⟨i,hi,e⟩:=List.getElem_of_mem ht;have:=mlook_at (k:=x) (u:=t) hn (j:=i) (by rw[List.getElem?_eq_getElem hi,e])
 rw[hv] at this;exact (Option.some.inj this).symm
theorem Coll.more {l:Tms} {now:Int} {left out:List Key} (h:Coll l now left out) (_:(l.map (·.1)).Nodup) {x:Key} {v:Int} (hx:x ∈ left) (hv:mlook l x=some v) (hle:v<=now) :
  Coll l now (left.filter fun y=>decide (y≠x)) (out++[x]):=by
 have hnot:x ∉ out:=fun hm=>((h.mem x).1 hm).2 hx
 refine⟨?_,fun k=>?_⟩
 ·rw[List.nodup_append]
  exact⟨h.nd,by simp,fun a ha b hb=>by simp at hb;subst hb;rintro rfl;exact hnot ha⟩
 ·rw[List.mem_append,List.mem_singleton,h.mem]
  simp only[List.mem_filter,decide_eq_true_eq,not_and,Decidable.not_not];constructor
  ·rintro (⟨h1,h2⟩ | rfl)
   ·exact⟨h1,fun h3=>absurd h3 h2⟩
   ·exact⟨⟨v,mlook_mem' hv,hle⟩,fun _=>rfl⟩
  ·rintro ⟨h1,h2⟩
   by_cases hk:k ∈ left
   ·exact .inr (h2 hk)
   ·exact .inl ⟨h1,hk⟩
theorem Coll.none {l:Tms} {now:Int} {left out:List Key} (h:Coll l now left out) (hn:(l.map (·.1)).Nodup) {x:Key} {v:Int} (hv:mlook l x=some v) (hle:¬ v<=now) :
  Coll l now (left.filter fun y=>decide (y≠x)) out:=by
 refine⟨h.nd,fun k=>?_⟩
 rw[h.mem];simp only[List.mem_filter,decide_eq_true_eq,not_and,Decidable.not_not];constructor
 ·rintro ⟨h1,h2⟩
  exact⟨h1,fun h3=>absurd h3 h2⟩
 ·rintro ⟨⟨t,h1,h3⟩,h2⟩
  refine⟨⟨t,h1,h3⟩,fun hk=>?_⟩
  have:=h2 hk
  subst this;exact hle (by rw[← uniq hn hv h1];exact h3)
theorem Coll.done {l:Tms} {now:Int} {out:List Key} (h:Coll l now [] out) (hn:(l.map (·.1)).Nodup):sortK l out=dueK l now:=by
 have hn2:(((l.filter fun p=>decide (p.2<=now)).map (·.1))).Nodup:=(List.filter_sublist.map _).nodup hn;have hp:out.Perm ((l.filter fun p=>decide (p.2<=now)).map (·.1)):=by
  rw[List.perm_ext_iff_of_nodup h.nd hn2];intro k;rw[h.mem];simp only[List.mem_map,List.mem_filter,decide_eq_true_eq,List.not_mem_nil,not_false_eq_true,and_true];constructor
  ·rintro ⟨t,h1,h2⟩
   exact⟨(k,t),⟨h1,h2⟩,rfl⟩
  ·rintro ⟨⟨k',t⟩,⟨h1,h2⟩,rfl⟩
   exact⟨t,h1,h2⟩
 refine List.Perm.eq_of_pairwise (le:=fun x y=>¬ aheadK l y x) (fun a b _ _ h1 h2=>?_) (sortK_sorted l out) (sortK_sorted l _) (((sortK_perm l out).trans hp).trans (sortK_perm l _).symm)
 refine totalK l a b ?_ ?_
 ·rw[Bool.eq_false_iff];exact fun h=>h2 ((ltOf_cmpK l a b).1 h)
 ·rw[Bool.eq_false_iff];exact fun h=>h1 ((ltOf_cmpK l b a).1 h)
def gone (l:Tms) (ks:List Key):Tms:=l.filter fun p=>decide (p.1 ∉ ks)
theorem gone_snoc {l:Tms} (hn:(l.map (·.1)).Nodup) (ks:List Key) (k:Key):mdel (gone l ks) k=gone l (ks++[k]):=by
 unfold gone;rw[mdel_filter ((List.filter_sublist.map _).nodup hn)];rw[List.filter_filter];refine List.filter_congr fun p _=>?_
 by_cases h1:p.1=k <;> by_cases h2:p.1 ∈ ks <;> simp[h1,h2]
theorem gone_due {l:Tms} (hn:(l.map (·.1)).Nodup) (now:Int):gone l (dueK l now)=leftK l now:=by
 unfold gone leftK;refine List.filter_congr fun p hp=>?_
 have:p.1 ∈ dueK l now↔p.2<=now:=by
  unfold dueK;rw[(sortK_perm l _).mem_iff];simp only[List.mem_map,List.mem_filter,decide_eq_true_eq];constructor
  ·rintro ⟨q,⟨h1,h2⟩,h3⟩
   obtain⟨i,hi,e⟩:=List.getElem_of_mem hp;have hv:mlook l p.1=some p.2:=mlook_at hn (j:=i) (by rw[List.getElem?_eq_getElem hi,e]);have:=uniq hn hv (t:=q.2) (by rw[← h3];exact h1)
   omega
  ·intro h
   exact⟨p,⟨hp,h⟩,rfl⟩
 simp only[this];by_cases h:p.2<=now
 ·simp[h]
 ·have h':now<p.2:=by omega
  simp[h,h']
theorem c_due (c:Nat) (l:Tms) (now:Int) (w0 w:World) (R:HP) (h:St w0 w (CAt c l*R)) (hl:l.length<=100000) :
  Calls Tryz.prog 63 #[ptrC c,.int .i64 now] w fun e w'=>∃ v,e=.returned v/\St w0 w' (LAt 186 2 keyC v (dueK l now)*(CAt c (leftK l now)*R)):=by
 have h0:=h.alloc (.cells #[ptrC c] 104);obtain⟨b,h1⟩:=h0.f2.c_open;have cc:=h1.cell;have cb:=h1.f3.cell;have hnd:=h1.f2.map_nodup;clear h0 h;go_enter Tryz.func63,Tryz.ntmps63
 go_upto_region 4 with fail
 generalize w.alloc _=w1 at *;generalize w.heap.size=bx at *;go_wp2_with (at_range;refine wp_mrange rfl (.tmp 15) 208 rfl tyTill.ht h1.f2 rfl ?_;intro w2 r h2)
 go_frame
 go_loopw [5] (fun s5 wr=>∃ (left out:List Key),Coll l now left out/\St w0 wr (RAt kKey vInt b r l left*(LAt 186 2 keyC s5 out*(blk bx (.cells #[ptrC c] 104 (0,0))*(blk c (.cells #[.map (some b)] 210 (0,0))*R))))) (fun _ wr=>wr.rangeLeft b r)
 case atStart =>
  refine⟨l.map (·.1),[],Coll.start l now,?_⟩
  exact (h2.m2.l_nil 186 2 keyC).f2
 case round =>
  obtain⟨left,out,hC,h3⟩:=hrel;have meas:∀ (x:Key) (w4:World) (R':HP),x ∈ left->St w0 w4 (RAt kKey vInt b r l (left.filter (fun y=>decide (y≠x)))*R')->w4.rangeLeft b r<wr.rangeLeft b r:=by
   intro x w4 R' hx h4;rw[h3.rmap_left,h4.rmap_left];exact List.length_filter_lt_length_iff_exists.2 ⟨x,hx,by simp⟩
  have MS:=Lib.hid meas;have HC:=Lib.hid hC;obtain⟨a5,cap5,rfl,_,_⟩:=h3.f2.l_shape;have hob:=hC.len hnd;clear meas hC h1 h2;go_wp2_with (first
   | (at_next;refine wp_mnext rfl (.tmp 16) rfl h3 rfl ?done ?more;(case' done=>(intro hl0;subst hl0;have H3:=Lib.hid h3;clear h3));(case' more=>(intro x v w4 hx hv h4 hen0;obtain⟨x1,x2⟩:=x;have hen:(Instr.entry (.pointer (some ⟨r,0,none⟩))).run Tryz.prog w4=.ok (.tuple #[.agg #[.int .i64 x1,.int .i64 x2],.int .i64 v]) w4:=hen0;have HA:=(((h4.alloc (.cells #[.int .i64 x1,.int .i64 x2] 186)).drop.alloc (.cells #[.int .i64 x1,.int .i64 x2] 186)).drop).f2;have H4:=Lib.hid h4;have HX:=Lib.hid hx;have HV:=Lib.hid hv;clear h4 h3 hx hv hen0)))
   | (at_builtin;refine wp_append_elem rfl (.tmp 25) (.tmp 27) rfl tyKey HA (x1,x2) rfl _ rfl (new_cells _ [.int .i64 x1,.int .i64 x2] _ _ (by simp)) (by omega) ?hk;(case' hk=>(intro g off cap w8 h8))))
  ·have h9:=h8.f2
   refine⟨⟨_,_,HC.out.more hnd HX.out HV.out (by assumption),h9⟩,MS.out _ _ _ HX.out h9⟩
  ·have h9:=(H4.out.alloc (.cells #[.int .i64 x1,.int .i64 x2] 186)).drop
   refine⟨⟨_,_,HC.out.none hnd HV.out (by omega),h9⟩,MS.out _ _ _ HX.out h9⟩
  ·have hok:=H3.out.rmap.1
   have h5:=H3.out.rmap_end.b4;have hko:∀ k ∈ out,okK k:=fun k hk=>by
    obtain⟨⟨t,ht,_⟩,_⟩:=(HC.out.mem k).1 hk;exact hok _ ht
   have hdn:=HC.out.done hnd;refine (due_sort (.slice a5 out.length cap5) out bx c b l hko (by omega) w0 _ R h5).mono ?_
   rintro e w5 ⟨rfl,h6⟩;rw[hdn] at h6;have hkl:(dueK l now).length=out.length:=by rw[← hdn];exact (sortK_perm l out).length_eq
   have hkk:∀ k ∈ dueK l now,okK k:=fun k hk=>by
    rw[← hdn] at hk;exact hko k ((sortK_perm l out).mem_iff.1 hk)
   have hgd:=gone_due hnd now;have hg0:gone l []=l:=by simp[gone]
   generalize hdu:dueK l now=ks at *;rw[← hkl] at h6 ⊢;have hks:ks.length<=100000:=by omega
   have HDU:=Lib.hid hdu;have HKK:=Lib.hid hkk;have HGD:=Lib.hid hgd;clear hdu hkk hgd hdn hko h5 hok H3 HC hkl hob;rw[← hg0] at h6;have h7:St w0 w5 (LAt 186 2 keyC (.slice a5 ks.length cap5) ks*(blk bx (.cells #[ptrC c] 104 (0,0))*(blk c (.cells #[.map (some b)] 210 (0,0))*(MAt kKey vInt b (gone l [])*R)))):=h6;clear h6 hg0;go_wp2;go_loopw [34] (fun i wr=>∃ k:Nat,k<=ks.length/\i=.int .i64 k/\St w0 wr (LAt 186 2 keyC (.slice a5 ks.length cap5) ks*(blk bx (.cells #[ptrC c] 104 (0,0))*(blk c (.cells #[.map (some b)] 210 (0,0))*(MAt kKey vInt b (gone l (ks.take k))*R))))) (fun i _=>ks.length - (intOf i).toNat)
   case atStart=>exact⟨0,by omega,rfl,h7⟩
   case round =>
    clear h7;obtain⟨k,hk,rfl,h8⟩:=hrel;by_cases hlt:k<ks.length
    ·obtain⟨⟨y1,y2⟩,hy⟩:∃ y,ks[k]?=some y:=⟨_,List.getElem?_eq_getElem hlt⟩
     have hyo:=HKK.out _ (List.mem_of_getElem? hy);have ht:ks.take (k+1)=ks.take k++[(y1,y2)]:=by rw[List.take_add_one,hy];rfl
     rcases h8.l_cells tyKey.len with ⟨h0,_⟩ | ⟨g,off,cap,hv,_,_,hcell⟩
     ·rw[h0] at hlt;simp at hlt
     simp only[Value.slice.injEq] at hv;obtain⟨rfl,_,rfl⟩:=hv;have d0:wr.cell? ⟨g,off+k*2,none⟩=some (.int .i64 y1):=hcell k _ hy 0 _ rfl;have d1:wr.cell? ⟨g,off+k*2+1,none⟩=some (.int .i64 y2):=hcell k _ hy 1 _ rfl;have h9:=h8.alloc (.cells #[.int .i64 y1,.int .i64 y2] 186);have HT:=Lib.hid ht;clear hcell ht hy h8;go_upto_region 13 with fail
     generalize wr.alloc _=w8 at *;have c9:=h9.cell;have c10:=h9.f3.cell;have c11:=h9.f4.cell;clear d0 d1;go_still_tail 5,(by kernel_rfl)
     change wpList _ _ _ _ _ w8.drew
     have h10:=h9.drew;clear c9 c10 c11;generalize w8.drew=w9 at *;go_wp2_with (at_delete;refine wp_mdel rfl (.tmp 41) (.tmp 42) 208 186 rfl tyTill h10.f5 rfl (y1,y2) rfl hyo ?_;intro w7 h11)
     go_roundw
     case rel =>
      refine⟨k+1,by omega,by go_num,?_⟩
      rw[HT.out,← gone_snoc hnd];exact h11.f2.drop.b4
     case measure=>simp[intOf];omega
    ·obtain rfl:k=ks.length:=by omega
     rw[List.take_length,HGD.out] at h8;go_wp2;go_ret
     refine⟨_,rfl,?_⟩
     rw[HDU.out];exact h8.f2.drop.b3.c_shut.f2
open Go.RowKit
structure Tcf where
 k:Int
 n200:Int
 n202:Int
 t200:Int
 t202:Int
 t203:Int
structure Tt where
 cf:Tcf
 e:En
 u:Us
 c:Tms
 d:De
 now:Int
 sent:List ByteArray
 told:List (Int × ByteArray)
def Tt.send (x:Tt) (f:Fr):Tt:={ x with sent:=x.sent++[bstr (encB (putO f false).data.toList)] }
def Tt.start (x:Tt) (t:Int):Tt:={ x with c:=(cstart x.c (0,t) x.now (if t=200 then x.cf.t200 else if t=202 then x.cf.t202 else x.cf.t203)).1 }
def Tt.stop (x:Tt) (t:Int):Tt:={ x with c:=mdel x.c (0,t) }
def Tt.tell (x:Tt) (k:Int) (d:ByteArray):Tt:={ x with told:=x.told++[(k,d)] }
def Tt.setE (x:Tt) (e:En):Tt:={ x with e:=e }
def Tt.setU (x:Tt) (u:Us):Tt:={ x with u:=u }
def Tt.link0 (x:Tt) (y:Fx):Tt:=if y.kind=0 then x.send y.fr else if y.kind=9 then x.start y.timer else if y.kind=10 then x.stop y.timer else x.tell y.kind y.data
def Tt.links0 (x:Tt) (l:List Fx):Tt:=l.foldl Tt.link0 x
def Tt.user1 (x:Tt) (y:Ue):Tt :=
 if y.kind=0 then x.send y.m.fr
 else if y.kind=4 then x.start 202
 else if y.kind=5 then x.stop 202
 else if y.kind=1 then (x.setE (x.e.assign y.tei).1).links0 (x.e.assign y.tei).2.1
 else (x.setE x.e.remove.1).links0 x.e.remove.2.1
def Tt.users (x:Tt) (l:List Ue):Tt:=l.foldl Tt.user1 x
def Tt.link1 (x:Tt) (y:Fx):Tt:=if y.kind=8 then (x.setU x.u.want.1).users x.u.want.2.1 else x.link0 y
def Tt.links (x:Tt) (l:List Fx):Tt:=l.foldl Tt.link1 x
def Tt.hush (x:Tt):Tt:={ x with sent:=[],told:=[] }
def badNow (now:Int):Bool:=decide (now<0\/9007199254740992<now)
def Tt.begin (x:Tt) (now:Int):Tt:={ x with now:=now,sent:=[],told:=[] }
def Tt.ask (x:Tt) (now a:Int) (d:ByteArray):Tt × Int :=
 if badNow now=true then (x.hush,2)
 else (((x.begin now).setE (x.e.ask a d).1).links (x.e.ask a d).2.1,(x.e.ask a d).2.2)
def Tt.come (x:Tt) (s:ByteArray):Tt :=
 let g:=getO s true
 if g.2≠0 then x
 else
  let m:=tmOf g.1 true
  if m.2=true then (x.setU (x.u.message m.1).1).users (x.u.message m.1).2
  else if g.1.sapi≠0 then x
  else if g.1.tei=127/\g.1.kind=6 then x.tell 6 g.1.info
  else if g.1.tei=x.e.tei then (x.setE (x.e.frame g.1).1).links (x.e.frame g.1).2
  else x
def Tt.event (x:Tt) (v:Ev):Tt:=if v.kind=0 then x.come ⟨v.s.toArray⟩ else x
def Tt.setD (x:Tt) (d:De):Tt:={ x with d:=d }
def Tt.bits (x:Tt) (now:Int) (b:ByteArray):Tt × Int :=
 if badNow now=true then (x.hush,2)
 else ((x.d.feed (bitsIn b.data.toList)).2.foldl Tt.event ((x.begin now).setD (x.d.feed (bitsIn b.data.toList)).1),0)
def Tt.over (x:Tt) (k:Key):Tt :=
 if k.2=202 then (x.setU x.u.timeout.1).users x.u.timeout.2
 else (x.setE (x.e.timeout k.2).1).links (x.e.timeout k.2).2
def Tt.setC (x:Tt) (c:Tms):Tt:={ x with c:=c }
def Tt.tick (x:Tt) (now:Int):Tt × Int :=
 if badNow now=true then (x.hush,2)
 else ((dueK x.c now).foldl Tt.over ((x.begin now).setC (leftK x.c now)),0)
def Tt.drop (x:Tt) (now:Int):Tt × Int :=
 if badNow now=true then (x.hush,2)
 else
  let y:=(x.begin now).setU x.u.drop.1 |>.users x.u.drop.2.1
  let z:=(y.setE y.e.remove.1).links y.e.remove.2.1
  ((z.setC (dropped z.c 0)).setD .new,0)
def newTt (cf:Tcf) (d:Dr):Tt:=⟨cf,newEn cf.k cf.n200,⟨.zero,max 1 (min cf.n202 32),d⟩,[],.new,0,[],[]⟩
end Go.Proofs.YtnnahljdhdippaaGreatDoor
