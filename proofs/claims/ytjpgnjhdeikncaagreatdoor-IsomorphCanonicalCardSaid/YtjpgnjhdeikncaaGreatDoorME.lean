/- A part of the proofs of this seat: functions and their contracts. -/
import Derived.Test.YtjpgnjhdeikncaaGreatDoorMD
import Derived.Shelf.Strconv.Itoa0
import Derived.Sort.WalkA14
import Derived.Test.YtjpgnjhdeikncaaGreatDoorProg
set_option linter.unusedVariables false
set_option linter.unusedSimpArgs false
set_option linter.unusedSectionVars false
namespace Go.Ab
open Go Go.Proofs
set_option maxRecDepth 10000
set_option maxHeartbeats 4000000
variable {T:Nat→Obj→Prop}
def zo9 (m:KM) (n:Int):Bool:=decide (¬(n < m.W∧m.W≤64)∧m.val.length≤20∧m.rel.length≤10 ∧ ∀ r∈m.rel,r.length≤70)
theorem zw8 (m:KM) (n:Int):Fn Tryz.prog T zfj [.d (dKM m),.d (.int .i64 n)] [] (.d (.bool (zo9 m n))) []:=by
 have no:(n < m.W∧m.W≤64∨20 < m.val.length∨10 < m.rel.length)→false=zo9 m n:=fun h=>by
  rw [zo9,decide_eq_false];rintro ⟨a,b,c,-⟩;omega
 refine zg zw zjX (by show 2≤41;decide) ?_
 (repeat' ((conv=>whnf);first|refine vA ?_|refine vB fun b hb=>?_|refine vC (fun hl=>?_) fun i kv vv hi=>?_|refine vE ?_|refine vG ?_|refine vH ?_|((first|refine vD ?_ ?_|refine vF ?_ ?_|refine vI ?_ ?_)<;>intro hc<;>try simp only [vL] at hc)|refine vJ fun hg=>?_|refine vK fun hg=>?_|refine vT ?_|refine vN ‹_› ?_|(refine vQ ?_ fun x hx=>?_;·first|omega|(simp only [vM] at *;omega))|((first|refine vO ?_ ?_|refine vR ?_ ‹_› ?_|refine vS ?_ fun x hx=>?_|refine vP ?_ ?_);·first|omega|(simp only [vM] at *;omega))|refine vW ⟨by omega,by omega⟩ ?_|(refine vU ?_ ?_;·kernel_rfl)|refine vX ?_|refine vY ?_|refine vZ ?_|refine za.mk _ ‹_› ?_|refine vP (show (_:BitVec 64)≠_ by decide) ?_));all_goals try conv=>whnf
 iterate 3 exact no (by omega)
 rotate_left
 iterate 2 exact no (by omega)
 all_goals
  have h1 : ¬(n < m.W∧m.W≤64):=by omega
  refine zj (fun (k:Nat)=>[(2,.ptr 0 0),(5,.d (.int .i64 ((k:Int))))]) (fun (k:Nat)=>[(0,some (zac m))]) 1 (fun (k:Nat)=>k≤m.rel.length ∧ ∀ (i:Nat) r,i < k→m.rel[i]? = some r→r.length≤70) (fun (k:Nat)=>m.rel.length - k) (0) [(0,0)] [] (⟨by simp,fun i r hi=>by omega⟩) (by (refine ⟨rfl,rfl,rfl,?_,?_⟩;repeat' first|exact trivial|exact rfl|exact ⟨_,rfl⟩|exact .inl rfl|exact .inr (.inl ⟨rfl,rfl⟩)|exact .inr (.inr ⟨rfl,rfl⟩)|refine And.intro ?_ ?_|refine ⟨_,rfl,?_⟩|decide|exact of_decide_eq_true rfl)) ?_
  rintro k ⟨hk,hI⟩
  (repeat' ((conv=>whnf);first|refine vA ?_|refine vB fun b hb=>?_|refine vC (fun hl=>?_) fun i kv vv hi=>?_|refine vE ?_|refine vG ?_|refine vH ?_|((first|refine vD ?_ ?_|refine vF ?_ ?_|refine vI ?_ ?_)<;>intro hc<;>try simp only [vL] at hc)|refine vJ fun hg=>?_|refine vK fun hg=>?_|refine vT ?_|refine vN ‹_› ?_|(refine vQ ?_ fun x hx=>?_;·first|omega|(simp only [vM] at *;omega))|((first|refine vO ?_ ?_|refine vR ?_ ‹_› ?_|refine vS ?_ fun x hx=>?_|refine vP ?_ ?_);·first|omega|(simp only [vM] at *;omega))|refine vW ⟨by omega,by omega⟩ ?_|(refine vU ?_ ?_;·kernel_rfl)|refine vX ?_|refine vY ?_|refine vZ ?_|refine za.mk _ ‹_› ?_|refine vP (show (_:BitVec 64)≠_ by decide) ?_));all_goals try conv=>whnf
  ·rw [zo9,decide_eq_false]
   rintro ⟨-,-,-,h⟩
   have:=h _ (List.mem_of_getElem? hx);omega
  ·exact ⟨k+1,[(0,0)],[],⟨by (first|omega|(simp only [vM] at *;omega)),fun i r hi hr=>by
    by_cases e:i=k
    ·subst e;rw [hx] at hr;cases hr;omega
    ·exact hI i r (by omega) hr⟩,by (first|omega|(simp only [vM] at *;omega)),by (refine ⟨rfl,rfl,rfl,?_,?_⟩;repeat' first|exact trivial|exact rfl|exact ⟨_,rfl⟩|exact .inl rfl|exact .inr (.inl ⟨rfl,rfl⟩)|exact .inr (.inr ⟨rfl,rfl⟩)|refine And.intro ?_ ?_|refine ⟨_,rfl,?_⟩|decide|exact of_decide_eq_true rfl)⟩
  ·rw [zo9,decide_eq_true]
   refine ⟨h1,by omega,by omega,fun r hr=>?_⟩
   obtain ⟨i,hi⟩:=List.getElem?_of_mem hr
   have:=(List.getElem?_eq_some_iff.1 hi).1
   exact hI i r (by omega) hi
theorem zmp (m:KM) (w:Int):Fn Tryz.prog T zev [.d (dKM m),.d (.int .i64 w)] [] (.d (.int .i64 (zeR m w))) []:=by
 refine zg zw ziK (by show 2≤39;decide) ?_
 (repeat' ((conv=>whnf);first|refine vA ?_|refine vB fun b hb=>?_|refine vC (fun hl=>?_) fun i kv vv hi=>?_|refine vE ?_|refine vG ?_|refine vH ?_|((first|refine vD ?_ ?_|refine vF ?_ ?_|refine vI ?_ ?_)<;>intro hc<;>try simp only [vL] at hc)|refine vJ fun hg=>?_|refine vK fun hg=>?_|refine vT ?_|refine vN ‹_› ?_|(refine vQ ?_ fun x hx=>?_;·first|omega|(simp only [vM] at *;omega))|((first|refine vO ?_ ?_|refine vR ?_ ‹_› ?_|refine vS ?_ fun x hx=>?_|refine vP ?_ ?_);·first|omega|(simp only [vM] at *;omega))|refine vW ⟨by omega,by omega⟩ ?_|(refine vU ?_ ?_;·kernel_rfl)|refine vX ?_|refine vY ?_|refine vZ ?_|refine yD (zfl m) ⟨⟨rfl,rfl⟩,rfl⟩ rfl ?_|refine za.mk _ ‹_› ?_|refine vP (show (_:BitVec 64)≠_ by decide) ?_));all_goals try conv=>whnf
 ·rw [zeR,if_pos (by omega)]
 ·rw [zeR,if_pos (by omega)]
 ·rw [zeR,if_pos (by omega)]
 ·have hc0:zm m=0:=by omega
  have hg0:=zB hc0
  have w2:=hg0.w2
  have v8:=hg0.v8
  obtain ⟨w,rfl⟩ : ∃ x:Nat,w=(x:Int):=⟨w.toNat,by omega⟩
  refine zj (fun ((i,x):Nat×Int)=>[(1,.d (.int .i64 ((w:Int)))),(2,.ptr 0 0),(5,.d (.int .i64 (x))),(6,.d (.int .i64 ((i:Int))))]) (fun ((i,x):Nat×Int)=>[(0,some (zac m))]) 1 (fun ((i,x):Nat×Int)=>i≤m.val.length∧x=(zbk m.val w i:Int)) (fun ((i,x):Nat×Int)=>m.val.length - i) ((0,0)) [(0,0)] [] (⟨by simp,rfl⟩) (by (refine ⟨rfl,rfl,rfl,?_,?_⟩;repeat' first|exact trivial|exact rfl|exact ⟨_,rfl⟩|exact .inl rfl|exact .inr (.inl ⟨rfl,rfl⟩)|exact .inr (.inr ⟨rfl,rfl⟩)|refine And.intro ?_ ?_|refine ⟨_,rfl,?_⟩|decide|exact of_decide_eq_true rfl)) ?_
  rintro ⟨i,x⟩ ⟨hi,hX⟩
  by_cases hil:i < m.val.length
  ·obtain ⟨s,hs⟩ : ∃ s,m.val[i]? = some s:=⟨_,List.getElem?_eq_getElem hil⟩
   obtain ⟨p1,p2⟩:=ztn (i:=(i:Int)) (by omega) (by omega)
   have p2:((2 ^ i:Nat):Int)=(1:Int) * 2 ^ (min (i:Int).toNat IntKind.i64.bits):=p2
   have f1:=zlr m.val w i
   have f2:2 ^ i≤2 ^ 7:=Nat.pow_le_pow_right (by decide) (by omega)
   have f3:zbk m.val w (i+1)=zbk m.val w i+if s.getLsbD w=true then 2 ^ i else 0:=by rw [zbk,show m.val.getD i 0#64=s by rw [List.getD,hs];rfl]
   (repeat' ((conv=>whnf);first|refine vA ?_|refine vB fun b hb=>?_|refine vC (fun hl=>?_) fun i kv vv hi=>?_|refine vE ?_|refine vG ?_|refine vH ?_|((first|refine vD ?_ ?_|refine vF ?_ ?_|refine vI ?_ ?_)<;>intro hc<;>try simp only [vL] at hc)|refine vJ fun hg=>?_|refine vK fun hg=>?_|refine vT ?_|refine vN ‹_› ?_|(refine vQ ?_ fun x hx=>?_;·first|omega|(simp only [vM] at *;omega))|((first|refine vO ?_ ?_|refine vR ?_ ‹_› ?_|refine vS ?_ fun x hx=>?_|refine vP ?_ ?_);·first|omega|(simp only [vM] at *;omega))|refine vW ⟨by omega,by omega⟩ ?_|(refine vU ?_ ?_;·kernel_rfl)|refine vX ?_|refine vY ?_|refine vZ ?_|refine yD (zhC s w) ⟨⟨rfl,rfl⟩,⟨rfl,rfl⟩,rfl⟩ rfl ?_|refine za.mk _ ‹_› ?_|refine vP (show (_:BitVec 64)≠_ by decide) ?_));all_goals try conv=>whnf
   ·refine ⟨(i+1,x),[(0,0)],[],?_,?_,by (refine ⟨rfl,rfl,rfl,?_,?_⟩;repeat' first|exact trivial|exact rfl|exact ⟨_,rfl⟩|exact .inl rfl|exact .inr (.inl ⟨rfl,rfl⟩)|exact .inr (.inr ⟨rfl,rfl⟩)|refine And.intro ?_ ?_|refine ⟨_,rfl,?_⟩|decide|exact of_decide_eq_true rfl)⟩
    ·exact ⟨by (first|omega|(simp only [vM] at *;omega)),by rw [f3,zoQ ‹_›,hX];simp⟩
    ·(first|omega|(simp only [vM] at *;omega))
   ·refine ⟨(i+1,_),[(0,0)],[],?_,?_,by (refine ⟨rfl,rfl,rfl,?_,?_⟩;repeat' first|exact trivial|exact rfl|exact ⟨_,rfl⟩|exact .inl rfl|exact .inr (.inl ⟨rfl,rfl⟩)|exact .inr (.inr ⟨rfl,rfl⟩)|refine And.intro ?_ ?_|refine ⟨_,rfl,?_⟩|decide|exact of_decide_eq_true rfl)⟩
    ·exact ⟨by (first|omega|(simp only [vM] at *;omega)),by rw [f3,zoR ‹_›,if_pos rfl,hX,Int.natCast_add,p2]⟩
    ·(first|omega|(simp only [vM] at *;omega))
   all_goals omega
  ·(repeat' ((conv=>whnf);first|refine vA ?_|refine vB fun b hb=>?_|refine vC (fun hl=>?_) fun i kv vv hi=>?_|refine vE ?_|refine vG ?_|refine vH ?_|((first|refine vD ?_ ?_|refine vF ?_ ?_|refine vI ?_ ?_)<;>intro hc<;>try simp only [vL] at hc)|refine vJ fun hg=>?_|refine vK fun hg=>?_|refine vT ?_|refine vN ‹_› ?_|(refine vQ ?_ fun x hx=>?_;·first|omega|(simp only [vM] at *;omega))|((first|refine vO ?_ ?_|refine vR ?_ ‹_› ?_|refine vS ?_ fun x hx=>?_|refine vP ?_ ?_);·first|omega|(simp only [vM] at *;omega))|refine vW ⟨by omega,by omega⟩ ?_|(refine vU ?_ ?_;·kernel_rfl)|refine vX ?_|refine vY ?_|refine vZ ?_|refine za.mk _ ‹_› ?_|refine vP (show (_:BitVec 64)≠_ by decide) ?_));all_goals try conv=>whnf
   ·omega
   ·unfold zeR
    rw [if_neg (by omega),hX,show i=m.val.length by omega];rfl
theorem zkT (s:BitVec 64) (k:Nat):(List.range (k+1)).filter (fun i=>s.getLsbD i)=(List.range k).filter (fun i=>s.getLsbD i)++if s.getLsbD k=true then [k] else []:=by
 rw [List.range_succ,List.filter_append,List.filter_cons,List.filter_nil]
theorem zqz (s:BitVec 64):Fn Tryz.prog T zdO [.d (.u64 s)] [] (.d (dN (zD s))) []:=by
 refine zg zw zhb (by show 1≤17;decide) ?_
 (repeat' ((conv=>whnf);first|refine vA ?_|refine vB fun b hb=>?_|refine vC (fun hl=>?_) fun i kv vv hi=>?_|refine vE ?_|refine vG ?_|refine vH ?_|((first|refine vD ?_ ?_|refine vF ?_ ?_|refine vI ?_ ?_)<;>intro hc<;>try simp only [vL] at hc)|refine vJ fun hg=>?_|refine vK fun hg=>?_|refine vT ?_|refine vN ‹_› ?_|(refine vQ ?_ fun x hx=>?_;·first|omega|(simp only [vM] at *;omega))|((first|refine vO ?_ ?_|refine vR ?_ ‹_› ?_|refine vS ?_ fun x hx=>?_|refine vP ?_ ?_);·first|omega|(simp only [vM] at *;omega))|refine vW ⟨by omega,by omega⟩ ?_|(refine vU ?_ ?_;·kernel_rfl)|refine vX ?_|refine vY ?_|refine vZ ?_|refine za.mk _ ‹_› ?_|refine vP (show (_:BitVec 64)≠_ by decide) ?_));all_goals try conv=>whnf
 refine zj (fun ((k,zs):Nat×List D)=>[(0,.d (.u64 (s))),(3,.own 0),(4,.d (.int .i64 ((k:Int))))]) (fun ((k,zs):Nat×List D)=>[(0,some (.row 1 zs))]) 1 (fun ((k,zs):Nat×List D)=>k≤64∧zs=((List.range k).filter fun i=>s.getLsbD i).map fun (x:Nat)=>D.int .i64 (x:Int)) (fun ((k,zs):Nat×List D)=>64 - k) ((0,[])) []   [0] (⟨by omega,rfl⟩) (by (refine ⟨rfl,rfl,rfl,?_,?_⟩;repeat' first|exact trivial|exact rfl|exact ⟨_,rfl⟩|exact .inl rfl|exact .inr (.inl ⟨rfl,rfl⟩)|exact .inr (.inr ⟨rfl,rfl⟩)|refine And.intro ?_ ?_|refine ⟨_,rfl,?_⟩|decide|exact of_decide_eq_true rfl)) ?_
 rintro ⟨k,zs⟩ ⟨hk,hz⟩
 have hzl:zs.length≤64:=by
  rw [hz,List.length_map]
  have:=List.length_filter_le (fun i=>s.getLsbD i) (List.range k)
  rw [List.length_range] at this;omega
 (repeat' ((conv=>whnf);first|refine vA ?_|refine vB fun b hb=>?_|refine vC (fun hl=>?_) fun i kv vv hi=>?_|refine vE ?_|refine vG ?_|refine vH ?_|((first|refine vD ?_ ?_|refine vF ?_ ?_|refine vI ?_ ?_)<;>intro hc<;>try simp only [vL] at hc)|refine vJ fun hg=>?_|refine vK fun hg=>?_|refine vT ?_|refine vN ‹_› ?_|(refine vQ ?_ fun x hx=>?_;·first|omega|(simp only [vM] at *;omega))|((first|refine vO ?_ ?_|refine vR ?_ ‹_› ?_|refine vS ?_ fun x hx=>?_|refine vP ?_ ?_);·first|omega|(simp only [vM] at *;omega))|refine vW ⟨by omega,by omega⟩ ?_|(refine vU ?_ ?_;·kernel_rfl)|refine vX ?_|refine vY ?_|refine vZ ?_|refine yD (zhC s k) ⟨⟨rfl,rfl⟩,⟨rfl,rfl⟩,rfl⟩ rfl ?_|refine za.mk _ ‹_› ?_|refine vP (show (_:BitVec 64)≠_ by decide) ?_));all_goals try conv=>whnf
 ·refine ⟨(k+1,_),[(0,0)],[],?_,?_,by (refine ⟨rfl,rfl,rfl,?_,?_⟩;repeat' first|exact trivial|exact rfl|exact ⟨_,rfl⟩|exact .inl rfl|exact .inr (.inl ⟨rfl,rfl⟩)|exact .inr (.inr ⟨rfl,rfl⟩)|refine And.intro ?_ ?_|refine ⟨_,rfl,?_⟩|decide|exact of_decide_eq_true rfl)⟩
  ·exact ⟨by omega,by rw [zkT,zoQ ‹_›,hz];simp⟩
  ·(first|omega|(simp only [vM] at *;omega))
 ·refine ⟨(k+1,_),[(0,2)],[],?_,?_,by (refine ⟨rfl,rfl,rfl,?_,?_⟩;repeat' first|exact trivial|exact rfl|exact ⟨_,rfl⟩|exact .inl rfl|exact .inr (.inl ⟨rfl,rfl⟩)|exact .inr (.inr ⟨rfl,rfl⟩)|refine And.intro ?_ ?_|refine ⟨_,rfl,?_⟩|decide|exact of_decide_eq_true rfl)⟩
  ·exact ⟨by omega,by rw [zkT,zoR ‹_›,hz];simp⟩
  ·(first|omega|(simp only [vM] at *;omega))
 ·have e0:k=64:=by omega
  subst e0
  show some (D.arr 1 _)=some (D.arr 1 _)
  rw [hz,List.map_map];rfl
theorem zmq (s:BitVec 64) (l:List Nat) (hl:l.length≤64):Fn Tryz.prog T zdP [.d (.u64 s),.d (dN l)] [] (.d (.u64 (zP s l))) []:=by
 refine zg zw zhc (by show 2≤24;decide) ?_
 (repeat' ((conv=>whnf);first|refine vA ?_|refine vB fun b hb=>?_|refine vC (fun hl=>?_) fun i kv vv hi=>?_|refine vE ?_|refine vG ?_|refine vH ?_|((first|refine vD ?_ ?_|refine vF ?_ ?_|refine vI ?_ ?_)<;>intro hc<;>try simp only [vL] at hc)|refine vJ fun hg=>?_|refine vK fun hg=>?_|refine vT ?_|refine vN ‹_› ?_|(refine vQ ?_ fun x hx=>?_;·first|omega|(simp only [vM] at *;omega))|((first|refine vO ?_ ?_|refine vR ?_ ‹_› ?_|refine vS ?_ fun x hx=>?_|refine vP ?_ ?_);·first|omega|(simp only [vM] at *;omega))|refine vW ⟨by omega,by omega⟩ ?_|(refine vU ?_ ?_;·kernel_rfl)|refine vX ?_|refine vY ?_|refine vZ ?_|refine za.mk _ ‹_› ?_|refine vP (show (_:BitVec 64)≠_ by decide) ?_));all_goals try conv=>whnf
 refine zW (fun ((k,o):Nat×BitVec 64)=>[(0,.d (.u64 (s))),(1,.d (dN l)),(5,.d (.u64 (o))),(6,.d (.int .i64 ((k:Int))))]) (fun ((k,o):Nat×BitVec 64)=>k≤l.length∧o=zbY (fun i=>s.getLsbD (l.getD i 0)) k) (fun ((k,o):Nat×BitVec 64)=>l.length - k) ((0,0#64)) (⟨by simp,rfl⟩) (by (repeat' first|exact trivial|exact rfl|exact ⟨_,rfl⟩|exact .inl rfl|exact .inr (.inl ⟨rfl,rfl⟩)|exact .inr (.inr ⟨rfl,rfl⟩)|refine And.intro ?_ ?_|refine ⟨_,rfl,?_⟩|decide|exact of_decide_eq_true rfl)) ?_
 rintro ⟨k,o⟩ ⟨hk,hI⟩
 by_cases hkl:k < l.length
 ·have e1:=zee hkl
  (repeat' ((conv=>whnf);first|refine vA ?_|refine vB fun b hb=>?_|refine vC (fun hl=>?_) fun i kv vv hi=>?_|refine vE ?_|refine vG ?_|refine vH ?_|((first|refine vD ?_ ?_|refine vF ?_ ?_|refine vI ?_ ?_)<;>intro hc<;>try simp only [vL] at hc)|refine vJ fun hg=>?_|refine vK fun hg=>?_|refine vT ?_|refine vN ‹_› ?_|(refine vQ ?_ fun x hx=>?_;·first|omega|(simp only [vM] at *;omega))|((first|refine vO ?_ ?_|refine vR ?_ ‹_› ?_|refine vS ?_ fun x hx=>?_|refine vP ?_ ?_);·first|omega|(simp only [vM] at *;omega))|refine vW ⟨by omega,by omega⟩ ?_|(refine vU ?_ ?_;·kernel_rfl)|refine vX ?_|refine vY ?_|refine vZ ?_|refine yD (zhC s (l.getD k 0)) ⟨⟨rfl,rfl⟩,⟨rfl,rfl⟩,rfl⟩ rfl ?_|refine za.mk _ ‹_› ?_|refine vP (show (_:BitVec 64)≠_ by decide) ?_));all_goals try conv=>whnf
  ·refine ⟨(k+1,_),[],[],?_,?_,by (refine ⟨rfl,rfl,rfl,?_,?_⟩;repeat' first|exact trivial|exact rfl|exact ⟨_,rfl⟩|exact .inl rfl|exact .inr (.inl ⟨rfl,rfl⟩)|exact .inr (.inr ⟨rfl,rfl⟩)|refine And.intro ?_ ?_|refine ⟨_,rfl,?_⟩|decide|exact of_decide_eq_true rfl)⟩
   ·exact ⟨by omega,by rw [zbY,zoQ ‹_›,hI];rfl⟩
   ·(first|omega|(simp only [vM] at *;omega))
  ·refine ⟨(k+1,_),[],[],?_,?_,by (refine ⟨rfl,rfl,rfl,?_,?_⟩;repeat' first|exact trivial|exact rfl|exact ⟨_,rfl⟩|exact .inl rfl|exact .inr (.inl ⟨rfl,rfl⟩)|exact .inr (.inr ⟨rfl,rfl⟩)|refine And.intro ?_ ?_|refine ⟨_,rfl,?_⟩|decide|exact of_decide_eq_true rfl)⟩
   ·exact ⟨by omega,by rw [zbY,zoR ‹_›,if_pos rfl,hI];rfl⟩
   ·(first|omega|(simp only [vM] at *;omega))
  ·omega
 ·(repeat' ((conv=>whnf);first|refine vA ?_|refine vB fun b hb=>?_|refine vC (fun hl=>?_) fun i kv vv hi=>?_|refine vE ?_|refine vG ?_|refine vH ?_|((first|refine vD ?_ ?_|refine vF ?_ ?_|refine vI ?_ ?_)<;>intro hc<;>try simp only [vL] at hc)|refine vJ fun hg=>?_|refine vK fun hg=>?_|refine vT ?_|refine vN ‹_› ?_|(refine vQ ?_ fun x hx=>?_;·first|omega|(simp only [vM] at *;omega))|((first|refine vO ?_ ?_|refine vR ?_ ‹_› ?_|refine vS ?_ fun x hx=>?_|refine vP ?_ ?_);·first|omega|(simp only [vM] at *;omega))|refine vW ⟨by omega,by omega⟩ ?_|(refine vU ?_ ?_;·kernel_rfl)|refine vX ?_|refine vY ?_|refine vZ ?_|refine za.mk _ ‹_› ?_|refine vP (show (_:BitVec 64)≠_ by decide) ?_));all_goals try conv=>whnf
  ·omega
  ·rw [hI,show k=l.length by omega];rfl
theorem zq6 {m:KM} (hk0:zm m=0) {l:List Nat} (hl:l.length≤64) (h : ∀ w∈l,w < m.W.toNat):Fn Tryz.prog T zeI [.d (dKM m),.d (dN l)] [] (.d (dKM (zA m l))) []:=by
 have hr:=zpq hk0 h
 have hg0:=zB hk0
 have hrl:=hg0.n4
 have hv:=hg0.v8
 refine zg zw zji (by show 2≤68;decide) ?_
 (repeat' ((conv=>whnf);first|refine vA ?_|refine vB fun b hb=>?_|refine vC (fun hl=>?_) fun i kv vv hi=>?_|refine vE ?_|refine vG ?_|refine vH ?_|((first|refine vD ?_ ?_|refine vF ?_ ?_|refine vI ?_ ?_)<;>intro hc<;>try simp only [vL] at hc)|refine vJ fun hg=>?_|refine vK fun hg=>?_|refine vT ?_|refine vN ‹_› ?_|(refine vQ ?_ fun x hx=>?_;·first|omega|(simp only [vM] at *;omega))|((first|refine vO ?_ ?_|refine vR ?_ ‹_› ?_|refine vS ?_ fun x hx=>?_|refine vP ?_ ?_);·first|omega|(simp only [vM] at *;omega))|refine vW ⟨by omega,by omega⟩ ?_|(refine vU ?_ ?_;·kernel_rfl)|refine vX ?_|refine vY ?_|refine vZ ?_|refine za.mk _ ‹_› ?_|refine vP (show (_:BitVec 64)≠_ by decide) ?_));all_goals try conv=>whnf
 refine zj (fun ((k,zs):Nat×List D)=>[(1,.d (dN l)),(2,.ptr 0 0),(4,.ptr 1 0),(5,.ptr 2 0),(6,.d (.int .i64 ((k:Int))))]) (fun ((k,zs):Nat×List D)=>[(0,some (zac m)),(1,some (.box [.d (.int .i64 0),.nils 1,.nils 1])),(2,some (.box [.d (.int .i64 (zgp l:Int)),.own 3,.nils 1])),(3,some (.row 1 zs))]) 4 (fun ((k,zs):Nat×List D)=>k≤m.val.length∧zs=(m.val.take k).map fun s=>D.u64 (zP s l)) (fun ((k,zs):Nat×List D)=>m.val.length - k) ((0,[])) [(0,0),(1,1),(2,2)]   [3] (⟨by simp,by simp⟩) (by (refine ⟨rfl,rfl,rfl,?_,?_⟩;repeat' first|exact trivial|exact rfl|exact ⟨_,rfl⟩|exact .inl rfl|exact .inr (.inl ⟨rfl,rfl⟩)|exact .inr (.inr ⟨rfl,rfl⟩)|refine And.intro ?_ ?_|refine ⟨_,rfl,?_⟩|decide|exact of_decide_eq_true rfl)) ?_
 rintro ⟨k,zs⟩ ⟨hk,hz⟩
 have hzl:zs.length≤8:=by rw [hz];simp;omega
 by_cases hkl:k < m.val.length
 ·obtain ⟨s,hs⟩ : ∃ s,m.val[k]? = some s:=⟨_,List.getElem?_eq_getElem hkl⟩
  (repeat' ((conv=>whnf);first|refine vA ?_|refine vB fun b hb=>?_|refine vC (fun hl=>?_) fun i kv vv hi=>?_|refine vE ?_|refine vG ?_|refine vH ?_|((first|refine vD ?_ ?_|refine vF ?_ ?_|refine vI ?_ ?_)<;>intro hc<;>try simp only [vL] at hc)|refine vJ fun hg=>?_|refine vK fun hg=>?_|refine vT ?_|refine vN ‹_› ?_|(refine vQ ?_ fun x hx=>?_;·first|omega|(simp only [vM] at *;omega))|((first|refine vO ?_ ?_|refine vR ?_ ‹_› ?_|refine vS ?_ fun x hx=>?_|refine vP ?_ ?_);·first|omega|(simp only [vM] at *;omega))|refine vW ⟨by omega,by omega⟩ ?_|(refine vU ?_ ?_;·kernel_rfl)|refine vX ?_|refine vY ?_|refine vZ ?_|refine yD (zmq s l hl) ⟨⟨rfl,rfl⟩,⟨rfl,rfl⟩,rfl⟩ rfl ?_|refine za.mk _ ‹_› ?_|refine vP (show (_:BitVec 64)≠_ by decide) ?_));all_goals try conv=>whnf
  ·refine ⟨(k+1,_),[(0,0),(1,1),(2,2),(3,5)],[],?_,?_,by (refine ⟨rfl,rfl,rfl,?_,?_⟩;repeat' first|exact trivial|exact rfl|exact ⟨_,rfl⟩|exact .inl rfl|exact .inr (.inl ⟨rfl,rfl⟩)|exact .inr (.inr ⟨rfl,rfl⟩)|refine And.intro ?_ ?_|refine ⟨_,rfl,?_⟩|decide|exact of_decide_eq_true rfl)⟩
   ·exact ⟨by omega,by rw [List.take_add_one,hs,hz];simp⟩
   ·(first|omega|(simp only [vM] at *;omega))
  all_goals omega
 ·have hzz:zs=m.val.map fun s=>D.u64 (zP s l):=by rw [hz,List.take_of_length_le (by omega)]
  clear hz
  subst hzz
  (repeat' ((conv=>whnf);first|refine vA ?_|refine vB fun b hb=>?_|refine vC (fun hl=>?_) fun i kv vv hi=>?_|refine vE ?_|refine vG ?_|refine vH ?_|((first|refine vD ?_ ?_|refine vF ?_ ?_|refine vI ?_ ?_)<;>intro hc<;>try simp only [vL] at hc)|refine vJ fun hg=>?_|refine vK fun hg=>?_|refine vT ?_|refine vN ‹_› ?_|(refine vQ ?_ fun x hx=>?_;·first|omega|(simp only [vM] at *;omega))|((first|refine vO ?_ ?_|refine vR ?_ ‹_› ?_|refine vS ?_ fun x hx=>?_|refine vP ?_ ?_);·first|omega|(simp only [vM] at *;omega))|refine vW ⟨by omega,by omega⟩ ?_|(refine vU ?_ ?_;·kernel_rfl)|refine vX ?_|refine vY ?_|refine vZ ?_|refine za.mk _ ‹_› ?_|refine vP (show (_:BitVec 64)≠_ by decide) ?_));all_goals try conv=>whnf
  ·omega
  refine zj (fun ((k,zs):Nat×List D)=>[(1,.d (dN l)),(2,.ptr 0 0),(4,.ptr 1 0),(5,.ptr 2 0),(7,.d (.int .i64 ((k:Int))))]) (fun ((k,zs):Nat×List D)=>[(0,some (zac m)),(1,some (.box [.d (.int .i64 0),.nils 1,.nils 1])),(2,some (.box [.d (.int .i64 (zgp l:Int)),.own 3,.own 4])),(3,some (.row 1 (m.val.map fun s=>D.u64 (zP s l)))),(4,some (.row 1 zs))]) 5 (fun ((k,zs):Nat×List D)=>k≤m.rel.length∧zs=(m.rel.take k).map fun r=>dU (l.map fun w=>zP (r.getD w 0#64) l)) (fun ((k,zs):Nat×List D)=>m.rel.length - k) ((0,[])) [(0,0),(1,1),(2,2),(3,3)]   [4] (⟨by simp,by simp⟩) (by (refine ⟨rfl,rfl,rfl,?_,?_⟩;repeat' first|exact trivial|exact rfl|exact ⟨_,rfl⟩|exact .inl rfl|exact .inr (.inl ⟨rfl,rfl⟩)|exact .inr (.inr ⟨rfl,rfl⟩)|refine And.intro ?_ ?_|refine ⟨_,rfl,?_⟩|decide|exact of_decide_eq_true rfl)) ?_
  rintro ⟨k,zs⟩ ⟨hk,hz⟩
  have hzl:zs.length≤4:=by rw [hz];simp;omega
  by_cases hkl:k < m.rel.length
  ·obtain ⟨r,hrr⟩ : ∃ r,m.rel[k]? = some r:=⟨_,List.getElem?_eq_getElem hkl⟩
   have hrw:=hr r (List.mem_of_getElem? hrr)
   (repeat' ((conv=>whnf);first|refine vA ?_|refine vB fun b hb=>?_|refine vC (fun hl=>?_) fun i kv vv hi=>?_|refine vE ?_|refine vG ?_|refine vH ?_|((first|refine vD ?_ ?_|refine vF ?_ ?_|refine vI ?_ ?_)<;>intro hc<;>try simp only [vL] at hc)|refine vJ fun hg=>?_|refine vK fun hg=>?_|refine vT ?_|refine vN ‹_› ?_|(refine vQ ?_ fun x hx=>?_;·first|omega|(simp only [vM] at *;omega))|((first|refine vO ?_ ?_|refine vR ?_ ‹_› ?_|refine vS ?_ fun x hx=>?_|refine vP ?_ ?_);·first|omega|(simp only [vM] at *;omega))|refine vW ⟨by omega,by omega⟩ ?_|(refine vU ?_ ?_;·kernel_rfl)|refine vX ?_|refine vY ?_|refine vZ ?_|refine za.mk _ ‹_› ?_|refine vP (show (_:BitVec 64)≠_ by decide) ?_));all_goals try conv=>whnf
   ·refine zj (fun ((j,ys):Nat×List D)=>[(1,.d (dN l)),(2,.ptr 0 0),(4,.ptr 1 0),(5,.ptr 2 0),(7,.d (.int .i64 ((k:Int)))),(8,.own 5),(9,.d (.int .i64 ((j:Int))))]) (fun ((j,ys):Nat×List D)=>[(0,some (zac m)),(1,some (.box [.d (.int .i64 0),.nils 1,.nils 1])),(2,some (.box [.d (.int .i64 (zgp l:Int)),.own 3,.own 4])),(3,some (.row 1 (m.val.map fun s=>D.u64 (zP s l)))),(4,some (.row 1 zs)),(5,some (.row 1 ys))]) 6 (fun ((j,ys):Nat×List D)=>j≤l.length∧ys=(l.take j).map fun w=>D.u64 (zP (r.getD w 0#64) l)) (fun ((j,ys):Nat×List D)=>l.length - j) ((0,[])) [(0,0),(1,1),(2,2),(3,3),(4,4)]   [5] (⟨by simp,by simp⟩) (by (refine ⟨rfl,rfl,rfl,?_,?_⟩;repeat' first|exact trivial|exact rfl|exact ⟨_,rfl⟩|exact .inl rfl|exact .inr (.inl ⟨rfl,rfl⟩)|exact .inr (.inr ⟨rfl,rfl⟩)|refine And.intro ?_ ?_|refine ⟨_,rfl,?_⟩|decide|exact of_decide_eq_true rfl)) ?_
    rintro ⟨j,ys⟩ ⟨hj,hy⟩
    have hyl:ys.length≤64:=by rw [hy];simp;omega
    by_cases hjl:j < l.length
    ·have e1:=zee hjl
     have e2:=hrw _ (ziz hjl)
     have e3:r[l.getD j 0]? = some (r.getD (l.getD j 0) 0#64):=zaZ e2
     (repeat' ((conv=>whnf);first|refine vA ?_|refine vB fun b hb=>?_|refine vC (fun hl=>?_) fun i kv vv hi=>?_|refine vE ?_|refine vG ?_|refine vH ?_|((first|refine vD ?_ ?_|refine vF ?_ ?_|refine vI ?_ ?_)<;>intro hc<;>try simp only [vL] at hc)|refine vJ fun hg=>?_|refine vK fun hg=>?_|refine vT ?_|refine vN ‹_› ?_|(refine vQ ?_ fun x hx=>?_;·first|omega|(simp only [vM] at *;omega))|((first|refine vO ?_ ?_|refine vR ?_ ‹_› ?_|refine vS ?_ fun x hx=>?_|refine vP ?_ ?_);·first|omega|(simp only [vM] at *;omega))|refine vW ⟨by omega,by omega⟩ ?_|(refine vU ?_ ?_;·kernel_rfl)|refine vX ?_|refine vY ?_|refine vZ ?_|refine yD (zmq (r.getD (l.getD j 0) 0#64) l hl) ⟨⟨rfl,rfl⟩,⟨rfl,rfl⟩,rfl⟩ rfl ?_|refine za.mk _ ‹_› ?_|refine vP (show (_:BitVec 64)≠_ by decide) ?_));all_goals try conv=>whnf
     ·refine ⟨(j+1,_),[(0,0),(1,1),(2,2),(3,3),(4,4),(5,7)],[],?_,?_,by (refine ⟨rfl,rfl,rfl,?_,?_⟩;repeat' first|exact trivial|exact rfl|exact ⟨_,rfl⟩|exact .inl rfl|exact .inr (.inl ⟨rfl,rfl⟩)|exact .inr (.inr ⟨rfl,rfl⟩)|refine And.intro ?_ ?_|refine ⟨_,rfl,?_⟩|decide|exact of_decide_eq_true rfl)⟩
      ·exact ⟨by omega,by rw [List.take_add_one,hy,zaZ (d:=0) hjl];simp⟩
      ·(first|omega|(simp only [vM] at *;omega))
     ·omega
    ·(repeat' ((conv=>whnf);first|refine vA ?_|refine vB fun b hb=>?_|refine vC (fun hl=>?_) fun i kv vv hi=>?_|refine vE ?_|refine vG ?_|refine vH ?_|((first|refine vD ?_ ?_|refine vF ?_ ?_|refine vI ?_ ?_)<;>intro hc<;>try simp only [vL] at hc)|refine vJ fun hg=>?_|refine vK fun hg=>?_|refine vT ?_|refine vN ‹_› ?_|(refine vQ ?_ fun x hx=>?_;·first|omega|(simp only [vM] at *;omega))|((first|refine vO ?_ ?_|refine vR ?_ ‹_› ?_|refine vS ?_ fun x hx=>?_|refine vP ?_ ?_);·first|omega|(simp only [vM] at *;omega))|refine vW ⟨by omega,by omega⟩ ?_|(refine vU ?_ ?_;·kernel_rfl)|refine vX ?_|refine vY ?_|refine vZ ?_|refine za.mk _ ‹_› ?_|refine vP (show (_:BitVec 64)≠_ by decide) ?_));all_goals try conv=>whnf
     ·omega
     ·have hyy:ys=l.map fun w=>D.u64 (zP (r.getD w 0#64) l):=by rw [hy,List.take_of_length_le (by omega)]
      refine ⟨(k+1,_),[(0,0),(1,1),(2,2),(3,3),(4,7)],[],?_,?_,by (refine ⟨rfl,rfl,rfl,?_,?_⟩;repeat' first|exact trivial|exact rfl|exact ⟨_,rfl⟩|exact .inl rfl|exact .inr (.inl ⟨rfl,rfl⟩)|exact .inr (.inr ⟨rfl,rfl⟩)|refine And.intro ?_ ?_|refine ⟨_,rfl,?_⟩|decide|exact of_decide_eq_true rfl)⟩
      ·refine ⟨by omega,?_⟩
       rw [List.take_add_one,hrr,hz,hyy];simp
      ·(first|omega|(simp only [vM] at *;omega))
   all_goals omega
  ·(repeat' ((conv=>whnf);first|refine vA ?_|refine vB fun b hb=>?_|refine vC (fun hl=>?_) fun i kv vv hi=>?_|refine vE ?_|refine vG ?_|refine vH ?_|((first|refine vD ?_ ?_|refine vF ?_ ?_|refine vI ?_ ?_)<;>intro hc<;>try simp only [vL] at hc)|refine vJ fun hg=>?_|refine vK fun hg=>?_|refine vT ?_|refine vN ‹_› ?_|(refine vQ ?_ fun x hx=>?_;·first|omega|(simp only [vM] at *;omega))|((first|refine vO ?_ ?_|refine vR ?_ ‹_› ?_|refine vS ?_ fun x hx=>?_|refine vP ?_ ?_);·first|omega|(simp only [vM] at *;omega))|refine vW ⟨by omega,by omega⟩ ?_|(refine vU ?_ ?_;·kernel_rfl)|refine vX ?_|refine vY ?_|refine vZ ?_|refine za.mk _ ‹_› ?_|refine vP (show (_:BitVec 64)≠_ by decide) ?_));all_goals try conv=>whnf
   ·omega
   ·have hzz:zs=m.rel.map fun r=>dU (l.map fun w=>zP (r.getD w 0#64) l):=by rw [hz,List.take_of_length_le (by omega)]
    subst hzz
    refine congrArg some (show D.agg [.int .i64 (zgp l:Int),.arr 1 (m.val.map fun s=>D.u64 (zP s l)),.arr 1 (m.rel.map fun r=>dU (l.map fun w=>zP (r.getD w 0#64) l))]=dKM (zA m l) from ?_)
    rw [zng]
    simp [zA,Function.comp_def]
theorem znd {m:KM} (hk0:zm m=0) {s:BitVec 64} (h0:s≠0#64) (hs : ∀ v,s.getLsbD v=true→v < m.W.toNat):Fn Tryz.prog T zdA [.d (dKM m),.d (.u64 s)] [] (.d (.tup [dKM (zA m (zD s)),dN (zD s),.int .i64 0])) []:=by
 have w1:=(zB hk0).w1
 have h1:=zmw hk0 hs
 have cc:=zfl (T:=T) m
 rw [hk0] at cc
 refine zg zw zgH (by show 2≤31;decide) ?_
 (repeat' ((conv=>whnf);first|refine vA ?_|refine vB fun b hb=>?_|refine vC (fun hl=>?_) fun i kv vv hi=>?_|refine vE ?_|refine vG ?_|refine vH ?_|((first|refine vD ?_ ?_|refine vF ?_ ?_|refine vI ?_ ?_)<;>intro hc<;>try simp only [vL] at hc)|refine vJ fun hg=>?_|refine vK fun hg=>?_|refine vT ?_|refine vN ‹_› ?_|(refine vQ ?_ fun x hx=>?_;·first|omega|(simp only [vM] at *;omega))|((first|refine vO ?_ ?_|refine vR ?_ ‹_› ?_|refine vS ?_ fun x hx=>?_|refine vP ?_ ?_);·first|omega|(simp only [vM] at *;omega))|refine vW ⟨by omega,by omega⟩ ?_|(refine vU ?_ ?_;·kernel_rfl)|refine vX ?_|refine vY ?_|refine vZ ?_|refine yD cc ⟨⟨rfl,rfl⟩,rfl⟩ rfl ?_|refine yD (zlu m.W (by omega)) ⟨⟨rfl,rfl⟩,rfl⟩ rfl ?_|refine yN (zqz s) ⟨⟨rfl,rfl⟩,rfl⟩ ?_|refine yN (zq6 hk0 (zfF s) (fun w hw=>hs w (zeA.1 hw))) ⟨⟨rfl,rfl⟩,⟨rfl,rfl⟩,rfl⟩ ?_|refine za.mk _ ‹_› ?_|refine vP (show (_:BitVec 64)≠_ by decide) ?_));all_goals try conv=>whnf
 ·exact absurd h1 ‹_›
 ·exact absurd ‹s=0› h0
 ·rfl
theorem zon {m:KM} (hk0:zm m=0) {f:BitVec 64} (hf : ∀ v,f.getLsbD v=true→v < m.W.toNat):Fn Tryz.prog T zde [.d (dKM m),.d (.u64 f)] [] (.d (.tup [.u64 (zeS m f),.int .i64 0])) []:=by
 have hg0:=zB hk0
 have w1:=hg0.w1
 have w2:=hg0.w2
 have n4:=hg0.n4
 have h1:=zmw hk0 hf
 have cc:=zfl (T:=T) m
 rw [hk0] at cc
 refine zg zw zgn (by show 2≤58;decide) ?_
 (repeat' ((conv=>whnf);first|refine vA ?_|refine vB fun b hb=>?_|refine vC (fun hl=>?_) fun i kv vv hi=>?_|refine vE ?_|refine vG ?_|refine vH ?_|((first|refine vD ?_ ?_|refine vF ?_ ?_|refine vI ?_ ?_)<;>intro hc<;>try simp only [vL] at hc)|refine vJ fun hg=>?_|refine vK fun hg=>?_|refine vT ?_|refine vN ‹_› ?_|(refine vQ ?_ fun x hx=>?_;·first|omega|(simp only [vM] at *;omega))|((first|refine vO ?_ ?_|refine vR ?_ ‹_› ?_|refine vS ?_ fun x hx=>?_|refine vP ?_ ?_);·first|omega|(simp only [vM] at *;omega))|refine vW ⟨by omega,by omega⟩ ?_|(refine vU ?_ ?_;·kernel_rfl)|refine vX ?_|refine vY ?_|refine vZ ?_|refine yD cc ⟨⟨rfl,rfl⟩,rfl⟩ rfl ?_|refine yD (zlu m.W (by omega)) ⟨⟨rfl,rfl⟩,rfl⟩ rfl ?_|refine za.mk _ ‹_› ?_|refine vP (show (_:BitVec 64)≠_ by decide) ?_));all_goals try conv=>whnf
 ·exact absurd h1 ‹_›
 refine zj (fun ((i,s):Nat×BitVec 64)=>[(2,.ptr 0 0),(7,.d (.u64 (s))),(8,.d (.int .i64 ((i:Int))))]) (fun ((i,s):Nat×BitVec 64)=>[(0,some (zac m))]) 1 (fun ((i,s):Nat×BitVec 64)=>i≤m.W.toNat∧zld m f i s) (fun ((i,s):Nat×BitVec 64)=>m.W.toNat - i) ((0,f)) [(0,0)] [] (⟨by omega,zrZ hf⟩) (by (refine ⟨rfl,rfl,rfl,?_,?_⟩;repeat' first|exact trivial|exact rfl|exact ⟨_,rfl⟩|exact .inl rfl|exact .inr (.inl ⟨rfl,rfl⟩)|exact .inr (.inr ⟨rfl,rfl⟩)|refine And.intro ?_ ?_|refine ⟨_,rfl,?_⟩|decide|exact of_decide_eq_true rfl)) ?_
 rintro ⟨i,s0⟩ ⟨hi,hR⟩
 by_cases hil:i < m.W.toNat
 ·(repeat' ((conv=>whnf);first|refine vA ?_|refine vB fun b hb=>?_|refine vC (fun hl=>?_) fun i kv vv hi=>?_|refine vE ?_|refine vG ?_|refine vH ?_|((first|refine vD ?_ ?_|refine vF ?_ ?_|refine vI ?_ ?_)<;>intro hc<;>try simp only [vL] at hc)|refine vJ fun hg=>?_|refine vK fun hg=>?_|refine vT ?_|refine vN ‹_› ?_|(refine vQ ?_ fun x hx=>?_;·first|omega|(simp only [vM] at *;omega))|((first|refine vO ?_ ?_|refine vR ?_ ‹_› ?_|refine vS ?_ fun x hx=>?_|refine vP ?_ ?_);·first|omega|(simp only [vM] at *;omega))|refine vW ⟨by omega,by omega⟩ ?_|(refine vU ?_ ?_;·kernel_rfl)|refine vX ?_|refine vY ?_|refine vZ ?_|refine za.mk _ ‹_› ?_|refine vP (show (_:BitVec 64)≠_ by decide) ?_));all_goals try conv=>whnf
  ·refine zj (fun ((w,s):Nat×BitVec 64)=>[(2,.ptr 0 0),(7,.d (.u64 (s))),(8,.d (.int .i64 ((i:Int)))),(9,.d (.int .i64 ((w:Int))))]) (fun ((w,s):Nat×BitVec 64)=>[(0,some (zac m))]) 1 (fun ((w,s):Nat×BitVec 64)=>w≤m.W.toNat∧zfZ m f s0 w s) (fun ((w,s):Nat×BitVec 64)=>m.W.toNat - w) ((0,s0)) [(0,0)] [] (⟨by omega,zr0 hR.gs⟩) (by (refine ⟨rfl,rfl,rfl,?_,?_⟩;repeat' first|exact trivial|exact rfl|exact ⟨_,rfl⟩|exact .inl rfl|exact .inr (.inl ⟨rfl,rfl⟩)|exact .inr (.inr ⟨rfl,rfl⟩)|refine And.intro ?_ ?_|refine ⟨_,rfl,?_⟩|decide|exact of_decide_eq_true rfl)) ?_
   rintro ⟨w,s⟩ ⟨hw,hW⟩
   by_cases hwl:w < m.W.toNat
   ·(repeat' ((conv=>whnf);first|refine vA ?_|refine vB fun b hb=>?_|refine vC (fun hl=>?_) fun i kv vv hi=>?_|refine vE ?_|refine vG ?_|refine vH ?_|((first|refine vD ?_ ?_|refine vF ?_ ?_|refine vI ?_ ?_)<;>intro hc<;>try simp only [vL] at hc)|refine vJ fun hg=>?_|refine vK fun hg=>?_|refine vT ?_|refine vN ‹_› ?_|(refine vQ ?_ fun x hx=>?_;·first|omega|(simp only [vM] at *;omega))|((first|refine vO ?_ ?_|refine vR ?_ ‹_› ?_|refine vS ?_ fun x hx=>?_|refine vP ?_ ?_);·first|omega|(simp only [vM] at *;omega))|refine vW ⟨by omega,by omega⟩ ?_|(refine vU ?_ ?_;·kernel_rfl)|refine vX ?_|refine vY ?_|refine vZ ?_|refine za.mk _ ‹_› ?_|refine vP (show (_:BitVec 64)≠_ by decide) ?_));all_goals try conv=>whnf
    ·refine zj (fun ((a,t):Nat×BitVec 64)=>[(2,.ptr 0 0),(7,.d (.u64 (t))),(8,.d (.int .i64 ((i:Int)))),(9,.d (.int .i64 ((w:Int)))),(10,.d (.int .i64 ((a:Int))))]) (fun ((a,t):Nat×BitVec 64)=>[(0,some (zac m))]) 1 (fun ((a,t):Nat×BitVec 64)=>a≤m.rel.length∧(zfZ m f s0 w t∧t.getLsbD w=false∧a=0∨zlb m f s0 w a t)) (fun ((a,t):Nat×BitVec 64)=>m.rel.length - a) ((0,s)) [(0,0)] [] (⟨by omega,by
      by_cases e:s.getLsbD w=true
      ·exact .inr (zrW hW e)
      ·exact .inl ⟨hW,by simpa using e,rfl⟩⟩) (by (refine ⟨rfl,rfl,rfl,?_,?_⟩;repeat' first|exact trivial|exact rfl|exact ⟨_,rfl⟩|exact .inl rfl|exact .inr (.inl ⟨rfl,rfl⟩)|exact .inr (.inr ⟨rfl,rfl⟩)|refine And.intro ?_ ?_|refine ⟨_,rfl,?_⟩|decide|exact of_decide_eq_true rfl)) ?_
     rintro ⟨a,t⟩ ⟨ha,hA⟩
     have hres:t.getLsbD w=false→zfZ m f s0 (w+1) t:=fun e=>by
      rcases hA with ⟨h1,-,-⟩|h1
      ·exact h1.skip e
      ·rw [h1.has] at e;cases e
     by_cases hal:a < m.rel.length
     ·obtain ⟨r,hr⟩ : ∃ r,m.rel[a]? = some r:=⟨_,List.getElem?_eq_getElem hal⟩
      have hrl:=hg0.len r (List.mem_of_getElem? hr)
      obtain ⟨x,hx⟩ : ∃ x,r[w]? = some x:=⟨_,List.getElem?_eq_getElem (by omega)⟩
      (repeat' ((conv=>whnf);first|refine vA ?_|refine vB fun b hb=>?_|refine vC (fun hl=>?_) fun i kv vv hi=>?_|refine vE ?_|refine vG ?_|refine vH ?_|((first|refine vD ?_ ?_|refine vF ?_ ?_|refine vI ?_ ?_)<;>intro hc<;>try simp only [vL] at hc)|refine vJ fun hg=>?_|refine vK fun hg=>?_|refine vT ?_|refine vN ‹_› ?_|(refine vQ ?_ fun x hx=>?_;·first|omega|(simp only [vM] at *;omega))|((first|refine vO ?_ ?_|refine vR ?_ ‹_› ?_|refine vS ?_ fun x hx=>?_|refine vP ?_ ?_);·first|omega|(simp only [vM] at *;omega))|refine vW ⟨by omega,by omega⟩ ?_|(refine vU ?_ ?_;·kernel_rfl)|refine vX ?_|refine vY ?_|refine vZ ?_|refine yD (zhC t w) ⟨⟨rfl,rfl⟩,⟨rfl,rfl⟩,rfl⟩ rfl ?_|refine za.mk _ ‹_› ?_|refine vP (show (_:BitVec 64)≠_ by decide) ?_));all_goals try conv=>whnf
      ·refine ⟨(w+1,t),[(0,0)],[],?_,?_,by (refine ⟨rfl,rfl,rfl,?_,?_⟩;repeat' first|exact trivial|exact rfl|exact ⟨_,rfl⟩|exact .inl rfl|exact .inr (.inl ⟨rfl,rfl⟩)|exact .inr (.inr ⟨rfl,rfl⟩)|refine And.intro ?_ ?_|refine ⟨_,rfl,?_⟩|decide|exact of_decide_eq_true rfl)⟩
       ·exact ⟨by omega,hres (zoQ ‹_›)⟩
       ·(first|omega|(simp only [vM] at *;omega))
      ·have hb:=zoR ‹¬1&&&t.toNat >>> w=0›
       refine ⟨(a+1,_),[(0,0)],[],?_,?_,by (refine ⟨rfl,rfl,rfl,?_,?_⟩;repeat' first|exact trivial|exact rfl|exact ⟨_,rfl⟩|exact .inl rfl|exact .inr (.inl ⟨rfl,rfl⟩)|exact .inr (.inr ⟨rfl,rfl⟩)|refine And.intro ?_ ?_|refine ⟨_,rfl,?_⟩|decide|exact of_decide_eq_true rfl)⟩
       ·refine ⟨by omega,.inr ?_⟩
        rcases hA with ⟨-,h2,-⟩|h2
        ·rw [hb] at h2;cases h2
        ·exact h2.next hk0 hr hx
       ·(first|omega|(simp only [vM] at *;omega))
      ·omega
     ·have e0:a=m.rel.length:=by omega
      (repeat' ((conv=>whnf);first|refine vA ?_|refine vB fun b hb=>?_|refine vC (fun hl=>?_) fun i kv vv hi=>?_|refine vE ?_|refine vG ?_|refine vH ?_|((first|refine vD ?_ ?_|refine vF ?_ ?_|refine vI ?_ ?_)<;>intro hc<;>try simp only [vL] at hc)|refine vJ fun hg=>?_|refine vK fun hg=>?_|refine vT ?_|refine vN ‹_› ?_|(refine vQ ?_ fun x hx=>?_;·first|omega|(simp only [vM] at *;omega))|((first|refine vO ?_ ?_|refine vR ?_ ‹_› ?_|refine vS ?_ fun x hx=>?_|refine vP ?_ ?_);·first|omega|(simp only [vM] at *;omega))|refine vW ⟨by omega,by omega⟩ ?_|(refine vU ?_ ?_;·kernel_rfl)|refine vX ?_|refine vY ?_|refine vZ ?_|refine yD (zhC t w) ⟨⟨rfl,rfl⟩,⟨rfl,rfl⟩,rfl⟩ rfl ?_|refine za.mk _ ‹_› ?_|refine vP (show (_:BitVec 64)≠_ by decide) ?_));all_goals try conv=>whnf
      iterate 2 (exfalso;omega)
      refine ⟨(w+1,t),[(0,0)],[],?_,?_,by (refine ⟨rfl,rfl,rfl,?_,?_⟩;repeat' first|exact trivial|exact rfl|exact ⟨_,rfl⟩|exact .inl rfl|exact .inr (.inl ⟨rfl,rfl⟩)|exact .inr (.inr ⟨rfl,rfl⟩)|refine And.intro ?_ ?_|refine ⟨_,rfl,?_⟩|decide|exact of_decide_eq_true rfl)⟩
      ·refine ⟨by omega,?_⟩
       rcases hA with ⟨h1,h2,-⟩|h2
       ·exact h1.skip h2
       ·subst e0;exact h2.end'
      ·(first|omega|(simp only [vM] at *;omega))
    ·omega
   ·(repeat' ((conv=>whnf);first|refine vA ?_|refine vB fun b hb=>?_|refine vC (fun hl=>?_) fun i kv vv hi=>?_|refine vE ?_|refine vG ?_|refine vH ?_|((first|refine vD ?_ ?_|refine vF ?_ ?_|refine vI ?_ ?_)<;>intro hc<;>try simp only [vL] at hc)|refine vJ fun hg=>?_|refine vK fun hg=>?_|refine vT ?_|refine vN ‹_› ?_|(refine vQ ?_ fun x hx=>?_;·first|omega|(simp only [vM] at *;omega))|((first|refine vO ?_ ?_|refine vR ?_ ‹_› ?_|refine vS ?_ fun x hx=>?_|refine vP ?_ ?_);·first|omega|(simp only [vM] at *;omega))|refine vW ⟨by omega,by omega⟩ ?_|(refine vU ?_ ?_;·kernel_rfl)|refine vX ?_|refine vY ?_|refine vZ ?_|refine za.mk _ ‹_› ?_|refine vP (show (_:BitVec 64)≠_ by decide) ?_));all_goals try conv=>whnf
    ·omega
    ·refine ⟨(i+1,s),[(0,0)],[],?_,?_,by (refine ⟨rfl,rfl,rfl,?_,?_⟩;repeat' first|exact trivial|exact rfl|exact ⟨_,rfl⟩|exact .inl rfl|exact .inr (.inl ⟨rfl,rfl⟩)|exact .inr (.inr ⟨rfl,rfl⟩)|refine And.intro ?_ ?_|refine ⟨_,rfl,?_⟩|decide|exact of_decide_eq_true rfl)⟩
     ·exact ⟨by omega,hR.next hk0 (by rw [show m.W.toNat=w by omega];exact hW)⟩
     ·(first|omega|(simp only [vM] at *;omega))
  ·omega
 ·(repeat' ((conv=>whnf);first|refine vA ?_|refine vB fun b hb=>?_|refine vC (fun hl=>?_) fun i kv vv hi=>?_|refine vE ?_|refine vG ?_|refine vH ?_|((first|refine vD ?_ ?_|refine vF ?_ ?_|refine vI ?_ ?_)<;>intro hc<;>try simp only [vL] at hc)|refine vJ fun hg=>?_|refine vK fun hg=>?_|refine vT ?_|refine vN ‹_› ?_|(refine vQ ?_ fun x hx=>?_;·first|omega|(simp only [vM] at *;omega))|((first|refine vO ?_ ?_|refine vR ?_ ‹_› ?_|refine vS ?_ fun x hx=>?_|refine vP ?_ ?_);·first|omega|(simp only [vM] at *;omega))|refine vW ⟨by omega,by omega⟩ ?_|(refine vU ?_ ?_;·kernel_rfl)|refine vX ?_|refine vY ?_|refine vZ ?_|refine za.mk _ ‹_› ?_|refine vP (show (_:BitVec 64)≠_ by decide) ?_));all_goals try conv=>whnf
  ·omega
  ·have e0:i=m.W.toNat:=by omega
   subst e0
   rw [hR.done hk0];rfl
def zcA (to:List Int) (i:Int) (j:Nat):List Nat:=(List.range j).filter fun w=>decide (at0 to w=i)
theorem zn3 (to:List Int) (i:Int) (j:Nat):zcA to i (j+1)=zcA to i j++if at0 to j=i then [j] else []:=by
 unfold zcA
 rw [List.range_succ,List.filter_append,List.filter_cons,List.filter_nil]
 by_cases h:at0 to j=i
 ·rw [if_pos (by simpa using h),if_pos h]
 ·rw [if_neg (by simpa using h),if_neg h]
theorem znm {to:List Int} {i:Int} {w:Nat} : w∈zcA to i to.length↔to[w]? = some i:=by
 unfold zcA
 rw [List.mem_filter,List.mem_range,decide_eq_true_eq]
 constructor
 ·rintro ⟨h,rfl⟩;exact zdr h
 ·intro h;exact ⟨(List.getElem?_eq_some_iff.1 h).1,zcG h⟩
theorem zvZ {to:List Int} {i:Int} {j:Nat} : (zcA to i j).length≤j:=by
 unfold zcA
 have:=List.length_filter_le (fun w=>decide (at0 to w=i)) (List.range j)
 rwa [List.length_range] at this
theorem zrf {to:List Int} {n:Nat} (hp:zaD to n=true) {i:Nat} (hi:i < n):zcA to i to.length=[to.idxOf (i:Int)]:=by
 obtain ⟨h1,h2,h3⟩:=zb8.1 hp
 have hm:=zpR hp hi
 have key : ∀ w,w∈zcA to i to.length↔w=to.idxOf (i:Int):=fun w=>by
  rw [znm]
  constructor
  ·intro h
   obtain ⟨a,b⟩:=List.getElem?_eq_some_iff.1 h
   rw [← b];exact (h3.idxOf_getElem w a).symm
  ·rintro rfl
   have:=List.idxOf_lt_length_of_mem hm
   rw [List.getElem?_eq_getElem this,List.getElem_idxOf]
 have hnd:(zcA to i to.length).Nodup:=List.nodup_range.filter _
 have h4:=zaL hnd (l':=[to.idxOf (i:Int)]) fun w hw=>by simpa using (key w).1 hw
 have h5:=(key _).2 rfl
 match hl:zcA to i to.length with
 | []=>rw [hl] at h5;cases h5
 | [a]=>rw [hl] at h5;simp only [List.mem_singleton] at h5;rw [h5]
 | a::b::l=>rw [hl] at h4;simp at h4
theorem zuS {to:List Int} (h : ∀ i:Nat,i < to.length→(zcA to i to.length).length=1):zaD to to.length=true:=by
 have hm : ∀ i:Nat,i < to.length→(i:Int)∈to:=fun i hi=>by
  have:=h i hi
  match hl:zcA to i to.length with
  | []=>rw [hl] at this;cases this
  | a::l=>exact List.mem_of_getElem? (znm.1 (by rw [hl];simp:a∈zcA to i to.length))
 have hrn:((List.range to.length).map fun (i:Nat)=>(i:Int)).Nodup:=by
  rw [List.Nodup,List.pairwise_map]
  exact List.nodup_range.imp fun h e=>h (by omega)
 have hr : ∀ x∈to,0≤x∧x < to.length:=fun x hx=>by
  apply Classical.byContradiction
  intro hn
  have:=zaL hrn (l':=to.erase x) fun y hy=>by
   obtain ⟨i,hi,rfl⟩:=List.mem_map.1 hy
   have hi:=List.mem_range.1 hi
   exact (List.mem_erase_of_ne (by omega)).2 (hm i hi)
  rw [List.length_map,List.length_range,List.length_erase_of_mem hx] at this
  have:=List.length_pos_of_mem hx
  omega
 refine zb8.2 ⟨rfl,hr,?_⟩
 rw [List.Nodup,List.pairwise_iff_getElem]
 intro a b ha hb hab e
 have hx:=hr to[a] (List.getElem_mem ha)
 have h1:=h to[a].toNat (by omega)
 rw [show ((to[a].toNat:Nat):Int)=to[a] by omega] at h1
 have:=zaL (l:=[a,b]) (l':=zcA to to[a] to.length) (by simp;omega) fun w hw=>by
  rw [znm]
  simp only [List.mem_cons,List.not_mem_nil,or_false] at hw
  rcases hw with rfl|rfl
  ·exact List.getElem?_eq_getElem ha
  ·rw [e];exact List.getElem?_eq_getElem hb
 rw [h1] at this;simp at this
theorem zrN (to:List Int) (n:Nat) (h64:n≤64):Fn Tryz.prog T zdN [.d (dI to),.d (.int .i64 (n:Int))] [] (.d (.tup [dN (if zaD to n=true then zck to n else []),.bool (zaD to n)])) []:=by
 refine zg zw zha (by show 2≤39;decide) ?_
 (repeat' ((conv=>whnf);first|refine vA ?_|refine vB fun b hb=>?_|refine vC (fun hl=>?_) fun i kv vv hi=>?_|refine vE ?_|refine vG ?_|refine vH ?_|((first|refine vD ?_ ?_|refine vF ?_ ?_|refine vI ?_ ?_)<;>intro hc<;>try simp only [vL] at hc)|refine vJ fun hg=>?_|refine vK fun hg=>?_|refine vT ?_|refine vN ‹_› ?_|(refine vQ ?_ fun x hx=>?_;·first|omega|(simp only [vM] at *;omega))|((first|refine vO ?_ ?_|refine vR ?_ ‹_› ?_|refine vS ?_ fun x hx=>?_|refine vP ?_ ?_);·first|omega|(simp only [vM] at *;omega))|refine vW ⟨by omega,by omega⟩ ?_|(refine vU ?_ ?_;·kernel_rfl)|refine vX ?_|refine vY ?_|refine vZ ?_|refine za.mk _ ‹_› ?_|refine vP (show (_:BitVec 64)≠_ by decide) ?_));all_goals try conv=>whnf
 ·have:zaD to n=false:=by rw [← Bool.not_eq_true];intro h;have:=(zb8.1 h).1;omega
  rw [this];rfl
 ·have e0:n=to.length:=by omega
  subst e0
  refine zj (fun ((i,zs):Nat×List D)=>[(0,.d (dI to)),(1,.d (.int .i64 ((to.length:Int)))),(6,.own 0),(7,.d (.int .i64 ((i:Int))))]) (fun ((i,zs):Nat×List D)=>[(0,some (.row 1 zs))]) 1 (fun ((i,zs):Nat×List D)=>i≤to.length∧zs.length=i∧(∀ j:Nat,j < i→(zcA to j to.length).length=1)∧(zaD to to.length=true→zs=((List.range i).map fun (j:Nat)=>to.idxOf (j:Int)).map fun (x:Nat)=>D.int .i64 (x:Int))) (fun ((i,zs):Nat×List D)=>to.length - i) ((0,[])) []   [0] (⟨by omega,rfl,fun j hj=>by omega,fun _=>rfl⟩) (by (refine ⟨rfl,rfl,rfl,?_,?_⟩;repeat' first|exact trivial|exact rfl|exact ⟨_,rfl⟩|exact .inl rfl|exact .inr (.inl ⟨rfl,rfl⟩)|exact .inr (.inr ⟨rfl,rfl⟩)|refine And.intro ?_ ?_|refine ⟨_,rfl,?_⟩|decide|exact of_decide_eq_true rfl)) ?_
  rintro ⟨i,zs⟩ ⟨hi,hzl,hone,hz⟩
  by_cases hil:i < to.length
  ·(repeat' ((conv=>whnf);first|refine vA ?_|refine vB fun b hb=>?_|refine vC (fun hl=>?_) fun i kv vv hi=>?_|refine vE ?_|refine vG ?_|refine vH ?_|((first|refine vD ?_ ?_|refine vF ?_ ?_|refine vI ?_ ?_)<;>intro hc<;>try simp only [vL] at hc)|refine vJ fun hg=>?_|refine vK fun hg=>?_|refine vT ?_|refine vN ‹_› ?_|(refine vQ ?_ fun x hx=>?_;·first|omega|(simp only [vM] at *;omega))|((first|refine vO ?_ ?_|refine vR ?_ ‹_› ?_|refine vS ?_ fun x hx=>?_|refine vP ?_ ?_);·first|omega|(simp only [vM] at *;omega))|refine vW ⟨by omega,by omega⟩ ?_|(refine vU ?_ ?_;·kernel_rfl)|refine vX ?_|refine vY ?_|refine vZ ?_|refine za.mk _ ‹_› ?_|refine vP (show (_:BitVec 64)≠_ by decide) ?_));all_goals try conv=>whnf
   ·refine zj (fun ((j,ys):Nat×List D)=>[(0,.d (dI to)),(1,.d (.int .i64 ((to.length:Int)))),(6,.own 0),(7,.d (.int .i64 ((i:Int)))),(8,.d (.int .i64 ((j:Int))))]) (fun ((j,ys):Nat×List D)=>[(0,some (.row 1 ys))]) 1 (fun ((j,ys):Nat×List D)=>j≤to.length∧ys=zs++(zcA to i j).map fun (x:Nat)=>D.int .i64 (x:Int)) (fun ((j,ys):Nat×List D)=>to.length - j) ((0,zs)) [(0,0)] [] (⟨by omega,by simp [zcA]⟩) (by (refine ⟨rfl,rfl,rfl,?_,?_⟩;repeat' first|exact trivial|exact rfl|exact ⟨_,rfl⟩|exact .inl rfl|exact .inr (.inl ⟨rfl,rfl⟩)|exact .inr (.inr ⟨rfl,rfl⟩)|refine And.intro ?_ ?_|refine ⟨_,rfl,?_⟩|decide|exact of_decide_eq_true rfl)) ?_
    rintro ⟨j,ys⟩ ⟨hj,hy⟩
    have hyl:ys.length=i+(zcA to i j).length:=by rw [hy];simp [hzl]
    have hpl:=zvZ (to:=to) (i:=(i:Int)) (j:=j)
    by_cases hjl:j < to.length
    ·have hx:=zdr hjl
     (repeat' ((conv=>whnf);first|refine vA ?_|refine vB fun b hb=>?_|refine vC (fun hl=>?_) fun i kv vv hi=>?_|refine vE ?_|refine vG ?_|refine vH ?_|((first|refine vD ?_ ?_|refine vF ?_ ?_|refine vI ?_ ?_)<;>intro hc<;>try simp only [vL] at hc)|refine vJ fun hg=>?_|refine vK fun hg=>?_|refine vT ?_|refine vN ‹_› ?_|(refine vQ ?_ fun x hx=>?_;·first|omega|(simp only [vM] at *;omega))|((first|refine vO ?_ ?_|refine vR ?_ ‹_› ?_|refine vS ?_ fun x hx=>?_|refine vP ?_ ?_);·first|omega|(simp only [vM] at *;omega))|refine vW ⟨by omega,by omega⟩ ?_|(refine vU ?_ ?_;·kernel_rfl)|refine vX ?_|refine vY ?_|refine vZ ?_|refine za.mk _ ‹_› ?_|refine vP (show (_:BitVec 64)≠_ by decide) ?_));all_goals try conv=>whnf
     ·refine ⟨(j+1,_),[(0,2)],[],?_,?_,by (refine ⟨rfl,rfl,rfl,?_,?_⟩;repeat' first|exact trivial|exact rfl|exact ⟨_,rfl⟩|exact .inl rfl|exact .inr (.inl ⟨rfl,rfl⟩)|exact .inr (.inr ⟨rfl,rfl⟩)|refine And.intro ?_ ?_|refine ⟨_,rfl,?_⟩|decide|exact of_decide_eq_true rfl)⟩
      ·exact ⟨by omega,by rw [zn3,if_pos ‹_›,hy];simp⟩
      ·(first|omega|(simp only [vM] at *;omega))
     ·refine ⟨(j+1,_),[(0,0)],[],?_,?_,by (refine ⟨rfl,rfl,rfl,?_,?_⟩;repeat' first|exact trivial|exact rfl|exact ⟨_,rfl⟩|exact .inl rfl|exact .inr (.inl ⟨rfl,rfl⟩)|exact .inr (.inr ⟨rfl,rfl⟩)|refine And.intro ?_ ?_|refine ⟨_,rfl,?_⟩|decide|exact of_decide_eq_true rfl)⟩
      ·exact ⟨by omega,by rw [zn3,if_neg ‹_›,hy];simp⟩
      ·(first|omega|(simp only [vM] at *;omega))
     iterate 2 (exfalso;omega)
    ·have e1:j=to.length:=by omega
     subst e1
     (repeat' ((conv=>whnf);first|refine vA ?_|refine vB fun b hb=>?_|refine vC (fun hl=>?_) fun i kv vv hi=>?_|refine vE ?_|refine vG ?_|refine vH ?_|((first|refine vD ?_ ?_|refine vF ?_ ?_|refine vI ?_ ?_)<;>intro hc<;>try simp only [vL] at hc)|refine vJ fun hg=>?_|refine vK fun hg=>?_|refine vT ?_|refine vN ‹_› ?_|(refine vQ ?_ fun x hx=>?_;·first|omega|(simp only [vM] at *;omega))|((first|refine vO ?_ ?_|refine vR ?_ ‹_› ?_|refine vS ?_ fun x hx=>?_|refine vP ?_ ?_);·first|omega|(simp only [vM] at *;omega))|refine vW ⟨by omega,by omega⟩ ?_|(refine vU ?_ ?_;·kernel_rfl)|refine vX ?_|refine vY ?_|refine vZ ?_|refine za.mk _ ‹_› ?_|refine vP (show (_:BitVec 64)≠_ by decide) ?_));all_goals try conv=>whnf
     iterate 2 (exfalso;omega)
     ·have hf:zaD to to.length=false:=by
       rw [← Bool.not_eq_true];intro hp
       rw [zrf hp hil] at hyl;simp at hyl;omega
      rw [hf];rfl
     ·refine ⟨(i+1,ys),[(0,0)],[],?_,?_,by (refine ⟨rfl,rfl,rfl,?_,?_⟩;repeat' first|exact trivial|exact rfl|exact ⟨_,rfl⟩|exact .inl rfl|exact .inr (.inl ⟨rfl,rfl⟩)|exact .inr (.inr ⟨rfl,rfl⟩)|refine And.intro ?_ ?_|refine ⟨_,rfl,?_⟩|decide|exact of_decide_eq_true rfl)⟩
      ·refine ⟨by omega,by omega,fun j hj=>?_,fun hp=>?_⟩
       ·by_cases e:j=i
        ·subst e;omega
        ·exact hone j (by omega)
       ·rw [hy,hz hp,zrf hp hil,List.range_succ];simp
      ·(first|omega|(simp only [vM] at *;omega))
   ·omega
  ·(repeat' ((conv=>whnf);first|refine vA ?_|refine vB fun b hb=>?_|refine vC (fun hl=>?_) fun i kv vv hi=>?_|refine vE ?_|refine vG ?_|refine vH ?_|((first|refine vD ?_ ?_|refine vF ?_ ?_|refine vI ?_ ?_)<;>intro hc<;>try simp only [vL] at hc)|refine vJ fun hg=>?_|refine vK fun hg=>?_|refine vT ?_|refine vN ‹_› ?_|(refine vQ ?_ fun x hx=>?_;·first|omega|(simp only [vM] at *;omega))|((first|refine vO ?_ ?_|refine vR ?_ ‹_› ?_|refine vS ?_ fun x hx=>?_|refine vP ?_ ?_);·first|omega|(simp only [vM] at *;omega))|refine vW ⟨by omega,by omega⟩ ?_|(refine vU ?_ ?_;·kernel_rfl)|refine vX ?_|refine vY ?_|refine vZ ?_|refine za.mk _ ‹_› ?_|refine vP (show (_:BitVec 64)≠_ by decide) ?_));all_goals try conv=>whnf
   ·omega
   ·have e1:i=to.length:=by omega
    subst e1
    have hp:=zuS hone
    have hz:=hz hp
    subst hz
    rw [hp,if_pos rfl]
    refine congrArg (fun l=>some (D.tup [D.arr 1 l,D.bool true])) ?_
    unfold zck
    simp only [List.map_map];rfl
theorem zrT (m:KM) (to:List Int):Fn Tryz.prog T zd7 [.d (dKM m),.d (dI to)] [] (.d (dKI (zfz m to))) []:=by
 have cc:=zfl (T:=T) m
 refine zg zw zhK (by show 2≤28;decide) ?_
 (repeat' ((conv=>whnf);first|refine vA ?_|refine vB fun b hb=>?_|refine vC (fun hl=>?_) fun i kv vv hi=>?_|refine vE ?_|refine vG ?_|refine vH ?_|((first|refine vD ?_ ?_|refine vF ?_ ?_|refine vI ?_ ?_)<;>intro hc<;>try simp only [vL] at hc)|refine vJ fun hg=>?_|refine vK fun hg=>?_|refine vT ?_|refine vN ‹_› ?_|(refine vQ ?_ fun x hx=>?_;·first|omega|(simp only [vM] at *;omega))|((first|refine vO ?_ ?_|refine vR ?_ ‹_› ?_|refine vS ?_ fun x hx=>?_|refine vP ?_ ?_);·first|omega|(simp only [vM] at *;omega))|refine vW ⟨by omega,by omega⟩ ?_|(refine vU ?_ ?_;·kernel_rfl)|refine vX ?_|refine vY ?_|refine vZ ?_|refine yD cc ⟨⟨rfl,rfl⟩,rfl⟩ rfl ?_|refine za.mk _ ‹_› ?_|refine vP (show (_:BitVec 64)≠_ by decide) ?_));all_goals try conv=>whnf
 ·rw [zfz,if_pos (by omega)];rfl
 ·have hk0:zm m=0:=by omega
  have hg0:=zB hk0
  have w1:=hg0.w1
  have w2:=hg0.w2
  have ci:=zrN (T:=T) to m.W.toNat (by omega)
  rw [show ((m.W.toNat:Nat):Int)=m.W by omega] at ci
  cases hp:zaD to m.W.toNat with
  | false =>
   rw [hp,if_neg (by decide)] at ci
   (repeat' ((conv=>whnf);first|refine vA ?_|refine vB fun b hb=>?_|refine vC (fun hl=>?_) fun i kv vv hi=>?_|refine vE ?_|refine vG ?_|refine vH ?_|((first|refine vD ?_ ?_|refine vF ?_ ?_|refine vI ?_ ?_)<;>intro hc<;>try simp only [vL] at hc)|refine vJ fun hg=>?_|refine vK fun hg=>?_|refine vT ?_|refine vN ‹_› ?_|(refine vQ ?_ fun x hx=>?_;·first|omega|(simp only [vM] at *;omega))|((first|refine vO ?_ ?_|refine vR ?_ ‹_› ?_|refine vS ?_ fun x hx=>?_|refine vP ?_ ?_);·first|omega|(simp only [vM] at *;omega))|refine vW ⟨by omega,by omega⟩ ?_|(refine vU ?_ ?_;·kernel_rfl)|refine vX ?_|refine vY ?_|refine vZ ?_|refine yN ci ⟨⟨rfl,rfl⟩,⟨rfl,rfl⟩,rfl⟩ ?_|refine za.mk _ ‹_› ?_|refine vP (show (_:BitVec 64)≠_ by decide) ?_));all_goals try conv=>whnf
   rw [zfz,if_neg (by omega),hp,if_neg (by decide)];rfl
  | true =>
   rw [hp,if_pos rfl] at ci
   have ct:=zq6 (T:=T) hk0 (l:=zck to m.W.toNat) (by rw [zhI];omega) (fun w hw=>by
    obtain ⟨i,hi,rfl⟩:=zlH hw
    rw [zhI] at hi
    exact zpu hp hi)
   (repeat' ((conv=>whnf);first|refine vA ?_|refine vB fun b hb=>?_|refine vC (fun hl=>?_) fun i kv vv hi=>?_|refine vE ?_|refine vG ?_|refine vH ?_|((first|refine vD ?_ ?_|refine vF ?_ ?_|refine vI ?_ ?_)<;>intro hc<;>try simp only [vL] at hc)|refine vJ fun hg=>?_|refine vK fun hg=>?_|refine vT ?_|refine vN ‹_› ?_|(refine vQ ?_ fun x hx=>?_;·first|omega|(simp only [vM] at *;omega))|((first|refine vO ?_ ?_|refine vR ?_ ‹_› ?_|refine vS ?_ fun x hx=>?_|refine vP ?_ ?_);·first|omega|(simp only [vM] at *;omega))|refine vW ⟨by omega,by omega⟩ ?_|(refine vU ?_ ?_;·kernel_rfl)|refine vX ?_|refine vY ?_|refine vZ ?_|refine yN ci ⟨⟨rfl,rfl⟩,⟨rfl,rfl⟩,rfl⟩ ?_|refine yN ct ⟨⟨rfl,rfl⟩,⟨rfl,rfl⟩,rfl⟩ ?_|refine za.mk _ ‹_› ?_|refine vP (show (_:BitVec 64)≠_ by decide) ?_));all_goals try conv=>whnf
   rw [zfz,if_neg (by omega),if_pos hp];rfl
theorem zi4 (a b:List (BitVec 64)):Fn Tryz.prog T zdB [.d (dU a),.d (dU b)] [] (.d (.bool (a==b))) []:=by
 refine zg zw zgI (by show 2≤26;decide) ?_
 (repeat' ((conv=>whnf);first|refine vA ?_|refine vB fun b hb=>?_|refine vC (fun hl=>?_) fun i kv vv hi=>?_|refine vE ?_|refine vG ?_|refine vH ?_|((first|refine vD ?_ ?_|refine vF ?_ ?_|refine vI ?_ ?_)<;>intro hc<;>try simp only [vL] at hc)|refine vJ fun hg=>?_|refine vK fun hg=>?_|refine vT ?_|refine vN ‹_› ?_|(refine vQ ?_ fun x hx=>?_;·first|omega|(simp only [vM] at *;omega))|((first|refine vO ?_ ?_|refine vR ?_ ‹_› ?_|refine vS ?_ fun x hx=>?_|refine vP ?_ ?_);·first|omega|(simp only [vM] at *;omega))|refine vW ⟨by omega,by omega⟩ ?_|(refine vU ?_ ?_;·kernel_rfl)|refine vX ?_|refine vY ?_|refine vZ ?_|refine za.mk _ ‹_› ?_|refine vP (show (_:BitVec 64)≠_ by decide) ?_));all_goals try conv=>whnf
 ·have:a≠b:=fun e=>hc (by rw [e])
  simp [this]
 ·refine zW (fun (k:Nat)=>[(0,.d (dU a)),(1,.d (dU b)),(5,.d (.int .i64 ((k:Int))))]) (fun (k:Nat)=>k≤a.length∧(a==b)=(a.drop k==b.drop k)) (fun (k:Nat)=>a.length - k) (0) (⟨by simp,by simp⟩) (by (repeat' first|exact trivial|exact rfl|exact ⟨_,rfl⟩|exact .inl rfl|exact .inr (.inl ⟨rfl,rfl⟩)|exact .inr (.inr ⟨rfl,rfl⟩)|refine And.intro ?_ ?_|refine ⟨_,rfl,?_⟩|decide|exact of_decide_eq_true rfl)) ?_
  rintro k ⟨hk,hI⟩
  (repeat' ((conv=>whnf);first|refine vA ?_|refine vB fun b hb=>?_|refine vC (fun hl=>?_) fun i kv vv hi=>?_|refine vE ?_|refine vG ?_|refine vH ?_|((first|refine vD ?_ ?_|refine vF ?_ ?_|refine vI ?_ ?_)<;>intro hc<;>try simp only [vL] at hc)|refine vJ fun hg=>?_|refine vK fun hg=>?_|refine vT ?_|refine vN ‹_› ?_|(refine vQ ?_ fun x hx=>?_;·first|omega|(simp only [vM] at *;omega))|((first|refine vO ?_ ?_|refine vR ?_ ‹_› ?_|refine vS ?_ fun x hx=>?_|refine vP ?_ ?_);·first|omega|(simp only [vM] at *;omega))|refine vW ⟨by omega,by omega⟩ ?_|(refine vU ?_ ?_;·kernel_rfl)|refine vX ?_|refine vY ?_|refine vZ ?_|refine za.mk _ ‹_› ?_|refine vP (show (_:BitVec 64)≠_ by decide) ?_));all_goals try conv=>whnf
  ·rw [hI,zx ‹a[k]? = some _›,zx ‹b[k]? = some _›];simp [hc]
  ·exact ⟨k+1,[],[],⟨by (first|omega|(simp only [vM] at *;omega)),by rw [hI,zx ‹a[k]? = some _›,zx ‹b[k]? = some _›];simp [hc]⟩,by (first|omega|(simp only [vM] at *;omega)),by (refine ⟨rfl,rfl,rfl,?_,?_⟩;repeat' first|exact trivial|exact rfl|exact ⟨_,rfl⟩|exact .inl rfl|exact .inr (.inl ⟨rfl,rfl⟩)|exact .inr (.inr ⟨rfl,rfl⟩)|refine And.intro ?_ ?_|refine ⟨_,rfl,?_⟩|decide|exact of_decide_eq_true rfl)⟩
  ·rw [hI,List.drop_eq_nil_of_le (by omega),List.drop_eq_nil_of_le (by omega)];rfl
theorem zwU (a b:KM):Fn Tryz.prog T zeH [.d (dKM a),.d (dKM b)] [] (.d (.bool (decide (a=b)))) []:=by
 have no:(a.W≠b.W∨a.val≠b.val∨a.rel≠b.rel)→false=decide (a=b):=fun h=>by
  rw [decide_eq_false];rintro rfl;simp at h
 refine zg zw zjh (by show 2≤47;decide) ?_
 (repeat' ((conv=>whnf);first|refine vA ?_|refine vB fun b hb=>?_|refine vC (fun hl=>?_) fun i kv vv hi=>?_|refine vE ?_|refine vG ?_|refine vH ?_|((first|refine vD ?_ ?_|refine vF ?_ ?_|refine vI ?_ ?_)<;>intro hc<;>try simp only [vL] at hc)|refine vJ fun hg=>?_|refine vK fun hg=>?_|refine vT ?_|refine vN ‹_› ?_|(refine vQ ?_ fun x hx=>?_;·first|omega|(simp only [vM] at *;omega))|((first|refine vO ?_ ?_|refine vR ?_ ‹_› ?_|refine vS ?_ fun x hx=>?_|refine vP ?_ ?_);·first|omega|(simp only [vM] at *;omega))|refine vW ⟨by omega,by omega⟩ ?_|(refine vU ?_ ?_;·kernel_rfl)|refine vX ?_|refine vY ?_|refine vZ ?_|refine yD (zi4 _ _) ⟨⟨rfl,rfl⟩,⟨rfl,rfl⟩,rfl⟩ rfl ?_|refine za.mk _ ‹_› ?_|refine vP (show (_:BitVec 64)≠_ by decide) ?_));all_goals try conv=>whnf
 ·exact no (.inl ‹_›)
 ·exact no (.inr (.inr fun e=>by have:=congrArg List.length e;omega))
 ·have e1:a.val=b.val:=by simpa using ‹(a.val==b.val)=true›
  refine zj (fun (k:Nat)=>[(2,.ptr 0 0),(3,.ptr 1 0),(5,.d (.int .i64 ((k:Int))))]) (fun (k:Nat)=>[(0,some (zac a)),(1,some (zac b))]) 2 (fun (k:Nat)=>k≤a.rel.length∧(a.rel==b.rel)=(a.rel.drop k==b.rel.drop k)) (fun (k:Nat)=>a.rel.length - k) (0) [(0,0),(1,1)] [] (⟨by simp,by simp⟩) (by (refine ⟨rfl,rfl,rfl,?_,?_⟩;repeat' first|exact trivial|exact rfl|exact ⟨_,rfl⟩|exact .inl rfl|exact .inr (.inl ⟨rfl,rfl⟩)|exact .inr (.inr ⟨rfl,rfl⟩)|refine And.intro ?_ ?_|refine ⟨_,rfl,?_⟩|decide|exact of_decide_eq_true rfl)) ?_
  rintro k ⟨hk,hI⟩
  (repeat' ((conv=>whnf);first|refine vA ?_|refine vB fun b hb=>?_|refine vC (fun hl=>?_) fun i kv vv hi=>?_|refine vE ?_|refine vG ?_|refine vH ?_|((first|refine vD ?_ ?_|refine vF ?_ ?_|refine vI ?_ ?_)<;>intro hc<;>try simp only [vL] at hc)|refine vJ fun hg=>?_|refine vK fun hg=>?_|refine vT ?_|refine vN ‹_› ?_|(refine vQ ?_ fun x hx=>?_;·first|omega|(simp only [vM] at *;omega))|((first|refine vO ?_ ?_|refine vR ?_ ‹_› ?_|refine vS ?_ fun x hx=>?_|refine vP ?_ ?_);·first|omega|(simp only [vM] at *;omega))|refine vW ⟨by omega,by omega⟩ ?_|(refine vU ?_ ?_;·kernel_rfl)|refine vX ?_|refine vY ?_|refine vZ ?_|refine yD (zi4 _ _) ⟨⟨rfl,rfl⟩,⟨rfl,rfl⟩,rfl⟩ rfl ?_|refine za.mk _ ‹_› ?_|refine vP (show (_:BitVec 64)≠_ by decide) ?_));all_goals try conv=>whnf
  ·exact ⟨k+1,[(0,0),(1,1)],[],⟨by (first|omega|(simp only [vM] at *;omega)),by rw [hI,zx ‹a.rel[k]? = some _›,zx ‹b.rel[k]? = some _›];simp_all⟩,by (first|omega|(simp only [vM] at *;omega)),by (refine ⟨rfl,rfl,rfl,?_,?_⟩;repeat' first|exact trivial|exact rfl|exact ⟨_,rfl⟩|exact .inl rfl|exact .inr (.inl ⟨rfl,rfl⟩)|exact .inr (.inr ⟨rfl,rfl⟩)|refine And.intro ?_ ?_|refine ⟨_,rfl,?_⟩|decide|exact of_decide_eq_true rfl)⟩
  ·refine no (.inr (.inr fun e=>?_))
   have g1:=‹a.rel[k]? = some _›
   rw [e,hx] at g1
   cases g1
   have:=‹(_==_)=false›
   simp at this
  ·rw [List.drop_eq_nil_of_le (by omega),List.drop_eq_nil_of_le (by omega)] at hI
   have e2:a.rel=b.rel:=by simpa using hI
   rw [decide_eq_true]
   cases a;cases b;simp_all
 ·exact no (.inr (.inl fun e=>by
   have:=‹(a.val==b.val)=false›
   rw [e] at this;simp at this))
end Go.Ab
namespace Go.Ab
def mkT (p:KM) (root:Int) (i:Nat):Tup:=[[if (i:Int)=root then (0:Int) else 1],[zaT p i]]
def zcz (p:KM) (root:Int):(Nat→Nat)×Nat:=zbw p.W.toNat (zu p) (mkT p root)
theorem zvy {m:KM} {l k:List Nat} (hl:l.length≤64) (hk:k.length≤64) (h : ∀ x∈k,x < l.length):zA (zA m l) k=zA m (k.map fun i=>l.getD i 0):=by
 have key : ∀ s,zP (zP s l) k=zP s (k.map fun i=>l.getD i 0):=fun s=>by
  unfold zP
  rw [List.length_map]
  refine zk8 fun i hi=>?_
  have hm:k.getD i 0∈k:=ziz hi
  rw [show (k.map fun i=>l.getD i 0).getD i 0=l.getD (k.getD i 0) 0 by simp [List.getD,List.getElem?_map,List.getElem?_eq_getElem hi]]
  rw [Bool.eq_iff_iff,zke hl]
  exact ⟨fun h=>h.2,fun h'=>⟨h _ hm,h'⟩⟩
 unfold zA
 simp only [List.length_map,List.map_map]
 congr 1
 ·exact List.map_congr_left fun s _=>key s
 ·refine List.map_congr_left fun r _=>?_
  show List.map _ k=List.map _ k
  refine List.map_congr_left fun w hw=>?_
  have hw:=h w hw
  show zP ((l.map fun w=>zP (r.getD w 0#64) l).getD w 0#64) k=zP (r.getD (l.getD w 0) 0#64) (k.map fun i=>l.getD i 0)
  rw [← key,show (l.map fun w=>zP (r.getD w 0#64) l).getD w 0#64=zP (r.getD (l.getD w 0) 0#64) l by
   simp [List.getD,List.getElem?_map,List.getElem?_eq_getElem hw]]
theorem zvT {m:KM} {l:List Nat} (hn:l.Nodup) (h2:l.length≤64) {w:Nat} (hw:w∈l) {i:Nat} (hi:i < l.length):mkT (zA m l) (l.idxOf w:Int) i=zoA l (zaT m) w i:=by
 unfold mkT zoA
 rw [zvz h2 hi]
 have h1:=zly hw
 by_cases e:i=l.idxOf w
 ·rw [if_pos (by omega),if_pos (by rw [e];exact h1.2)]
 ·rw [if_neg (by omega),if_neg (fun e'=>e (zpp hn hi h1.1 (by rw [h1.2,e'])))]
theorem zuM {m:KM} {l:List Nat} (hn:l.Nodup) (h2:l.length≤64) {w:Nat} (hw:w∈l):(∀ i,i < l.length→(zcz (zA m l) (l.idxOf w:Int)).1 i=(znk l (zu m) (zaT m) w).1 i)∧(zcz (zA m l) (l.idxOf w:Int)).2=(znk l (zu m) (zaT m) w).2:=by
 have hid:Ren l.length fun w=>w:=⟨fun _ h=>h,fun _ _ _ _ h=>h⟩
 have:=zrg hid (zuc h2 (m:=m)) (first:=zoA l (zaT m) w) (first':=mkT (zA m l) (l.idxOf w:Int)) fun i hi=>zvT hn h2 hw hi
 unfold zcz znk
 rw [show (zA m l).W.toNat=l.length from Int.toNat_natCast _]
 exact this.2.2
def zfx (p:KM):Bool:=decide ((zcz p (-1)).2=p.W.toNat)
theorem zwy {p:KM} (root:Int):(zcz p root).2≤p.W.toNat:=by
 unfold zcz;rw [zlL];exact zgc _ _
theorem zvS {p:KM} (h:zfx p=true) (root:Int):Ren p.W.toNat (zcz p root).1:=by
 refine (ztp (g:=mkT p (-1)) (fun v w _ _ e=>?_) (of_decide_eq_true h)).2
 unfold mkT at e ⊢
 have e2:zaT p v=zaT p w:=by
  simp only [List.cons.injEq,and_true] at e;exact e.2
 rw [e2,if_neg (by omega),if_neg (by omega)]
noncomputable def zcW (m:KM) (w:Nat):List Nat:=zwn (zcw m.W.toNat (zu m) w) (zu m) (zaT m) w
noncomputable def zel (m:KM) (w:Int):KM×List Int×Int :=
 if zm m≠0 then (zfq,[],zm m) else if w < 0∨m.W≤w then (zfq,[],2) else
 if zfx (zA m (zcw m.W.toNat (zu m) w.toNat))=false then (zfq,[],16) else (zA m (zcW m w.toNat),(zcW m w.toNat).map fun (x:Nat)=>(x:Int),0)
theorem zne {n:Nat} {R:zaa} {w:Nat} : (zcw n R w).length≤n:=by
 have:=zaL (zgS n R w) (l':=List.range n) fun x hx=>List.mem_range.2 (zku.1 hx).lt
 simpa using this
theorem zkD {n:Nat} {q:Nat→Nat} (h:Ren n q):zaD (ptL n q) n=true:=by
 rw [zb8]
 refine ⟨zbJ,fun x hx=>?_,?_⟩
 ·obtain ⟨w,hw,rfl⟩:=List.mem_map.1 hx
  have:=h.lt w (List.mem_range.1 hw);omega
 ·unfold ptL
  rw [List.Nodup,List.pairwise_map]
  exact List.Pairwise.imp_of_mem (fun {a b} ha hb hab e=>hab (h.inj a b (List.mem_range.1 ha) (List.mem_range.1 hb) (by omega))) List.nodup_range
theorem zwH {n:Nat} {q:Nat→Nat} {w:Nat} (hw:w < n):toF (ptL n q) w=q w:=by
 have:at0 (ptL n q) w=((q w:Nat):Int):=zcG (zaw hw)
 unfold toF;omega
theorem zwu {n:Nat} {q:Nat→Nat} (h:Ren n q) {i:Nat} (hi:i < n):(zck (ptL n q) n).getD i 0=zcQ n q i:=by
 obtain ⟨w,hw,rfl⟩:=h.surj hi
 have:=zs4 (zkD h) hw
 rw [zwH hw] at this
 rw [this,zkx h hw]
theorem zoV {m:KM} (hc:zm m=0) {w:Nat} (hw:w < m.W.toNat) (hmin:zfx (zA m (zcw m.W.toNat (zu m) w))=true) :
  let l:=zcw m.W.toNat (zu m) w
  let q:=(zcz (zA m l) (l.idxOf w:Int)).1
  Ren l.length q∧zA (zA m l) (zck (ptL l.length q) l.length)=zA m (zcW m w)∧zcW m w=(List.range l.length).map fun k=>l.getD (zcQ l.length q k) 0:=by
 intro l q
 have hg:=zB hc
 have w2:=hg.w2
 have hl:l.length≤64:=by have:=zne (n:=m.W.toNat) (R:=zu m) (w:=w);show (zcw m.W.toNat (zu m) w).length≤64;omega
 have hwl:w∈l:=zlw hw
 have hp:=zuM (m:=m) (zgS m.W.toNat (zu m) w) hl hwl
 have hq:Ren l.length q:=by
  have:=zvS hmin (l.idxOf w:Int)
  rw [show (zA m (zcw m.W.toNat (zu m) w)).W.toNat=l.length from Int.toNat_natCast _] at this
  exact this
 have e:zcW m w=(List.range l.length).map fun k=>l.getD (zcQ l.length q k) 0:=by
  unfold zcW zwn
  refine zS fun k hk=>?_
  show l.getD (zcQ l.length _ k) 0=_
  congr 1
  obtain ⟨v,hv,rfl⟩:=hq.surj hk
  have hq':Ren l.length (znk l (zu m) (zaT m) w).1:=⟨fun i hi=>(hp.1 i hi)▸hq.lt i hi,fun i j hi hj e=>hq.inj i j hi hj (((hp.1 i hi).trans e).trans (hp.1 j hj).symm)⟩
  rw [zkx hq hv,show q v=(znk l (zu m) (zaT m) w).1 v from hp.1 v hv,zkx hq' hv]
 refine ⟨hq,?_,e⟩
 have hk:(zck (ptL l.length q) l.length).length=l.length:=zhI _ _
 rw [zvy hl (by omega) (fun x hx=>?_),e]
 ·congr 1
  refine zdW (d:=0) (by simp [hk]) fun i hi=>?_
  rw [List.length_map,hk] at hi
  have h1:((zck (ptL l.length q) l.length).map fun i=>l.getD i 0).getD i 0=l.getD ((zck (ptL l.length q) l.length).getD i 0) 0:=by
   simp [List.getD,List.getElem?_map,List.getElem?_eq_getElem (show i < (zck (ptL l.length q) l.length).length by omega)]
  rw [h1,zwu hq hi]
  simp [List.getD,hi]
 ·obtain ⟨i,hi,rfl⟩:=zlH hx
  exact zpu (zkD hq) (by omega)
end Go.Ab
namespace Go.Proofs
def Tryz.lays129_ren:Go.Shelf.Ren:=⟨fun|129=>92|n=>n,fun|53=>45|3=>3|4=>4|46=>56|5=>5|9=>9|n=>n,fun|n=>n⟩
theorem Tryz.lays129:Go.Proofs.Lays.n129 Tryz.prog Tryz.lays129_ren := {
 mixed:=by kernel_rfl
 f129:=Tryz.func92.trans (congrArg some (by kernel_rfl))
 t3:=Tryz.underlying3
 a3:=Tryz.isAgg3
 z3:=Tryz.sizeOf3
 v3:=Tryz.zeroValue3
 t4:=Tryz.underlying4
 a4:=Tryz.isAgg4
 z4:=Tryz.sizeOf4
 v4:=Tryz.zeroValue4
 t5:=Tryz.underlying5
 a5:=Tryz.isAgg5
 z5:=Tryz.sizeOf5
 v5:=Tryz.zeroValue5
 t9:=Tryz.underlying9
 a9:=Tryz.isAgg9
 z9:=Tryz.sizeOf9
 v9:=Tryz.zeroValue9
 t46:=Tryz.underlying56
 a46:=Tryz.isAgg56
 z46:=Tryz.sizeOf56
 v46:=Tryz.zeroValue56
 t53:=Tryz.underlying45
 a53:=Tryz.isAgg45
 z53:=Tryz.sizeOf45
 v53:=Tryz.zeroValue45 }
end Go.Proofs
namespace Go.Ab
open Go Go.Proofs
set_option maxRecDepth 10000
set_option maxHeartbeats 4000000
variable {T:Nat→Obj→Prop}
theorem zrC:zb3 Tryz.prog zfD:=⟨_,Tryz.func92,by kernel_rfl,by kernel_rfl⟩
theorem zut (x:BitVec 64):Fn Tryz.prog T zfD [.d (.u64 x)] [] (.d (.int .i64 (Sort.bitsLen x.toNat:Int))) []:=by
 refine zq7 (ds:=[.u64 x]) zrC fun w args hw hsz hargs=>?_
 obtain ⟨X,hX⟩:=hargs 0 (by simp)
 have ha:args = #[.int .u64 (x.toNat:Int)]:=by
  have h0:args.getD 0 undef = .int .u64 (x.toNat:Int):=by
   generalize args.getD 0 undef=y at hX
   cases hX;rfl
  obtain ⟨l⟩:=args
  match l,hsz with
  | [y],_=>rw [← h0];rfl
 rw [ha]
 have:=Any.bits_Len64 Tryz.lays129 (x.toNat:Int) w (by omega) (by have:=x.isLt;omega)
 refine this.mono fun e w' he=>⟨_,he.1,he.2,fun X=>?_⟩
 rw [Int.toNat_natCast,Go.Proofs.bitLen_eq _ x.isLt]
 exact .int _ _ (by decide)
theorem zph (x:BitVec 64):Fn Tryz.prog T zcX [.d (.u64 x)] [] (.d (.int .i64 (Sort.bitsLen x.toNat:Int))) []:=by
 refine zg zw zmB (by show 1≤8;decide) ?_
 (repeat' ((conv=>whnf);first|refine vT ?_|refine vX ?_|refine yD (zut _) ⟨⟨rfl,rfl⟩,rfl⟩ rfl ?_));all_goals try conv=>whnf
end Go.Ab
namespace Go.Ab
open Go Go.Proofs
set_option maxRecDepth 10000
set_option maxHeartbeats 4000000
section
variable {α:Type} [Inhabited α] [DecidableEq α]
def ddA (d:Array α):Nat→List α
 | 0=>[]
 | n+1=>if 0 < n∧d[n]! = d[n - 1]! then ddA d n else ddA d n++[d[n]!]
def Steps (d:Array α):Prop := ∀ j,0 < j→j < d.size→d[j]! ≠ d[j - 1]!
theorem ztW {d:Array α} {n:Nat} (h:n < d.size):d.toList.take (n+1)=d.toList.take n++[d[n]!]:=by
 rw [List.take_add_one,zbd h];rfl
theorem zkr {d:Array α} : ∀ {n:Nat},n≤d.size→(∀ j,0 < j→j < n→d[j]! ≠ d[j - 1]!)→ddA d n=d.toList.take n
 | 0,_,_=>rfl
 | n+1,h,hs=>by
  rw [ddA,if_neg (fun hh=>hs n hh.1 (by omega) hh.2),zkr (by omega) (fun j h0 h1=>hs j h0 (by omega)),ztW (by omega)]
theorem zoZ {d:Array α} {k:Nat} (h0:0 < k) (h1:k < d.size) (hk : ∀ j,0 < j→j < k→d[j]! ≠ d[j - 1]!) (he:d[k]! = d[k - 1]!):d.toList.take k=ddA d (k+1):=by
 rw [ddA,if_pos ⟨h0,he⟩,zkr (by omega) hk]
theorem zp7 {e:Array α} {a:Nat} {x:α} (h:a < e.size):(e.setIfInBounds a x).toList.take (a+1)=e.toList.take a++[x]:=by
 have hl:a < e.toList.length:=by simpa using h
 rw [Array.toList_setIfInBounds,List.take_add_one,List.getElem?_set_self hl,List.take_set_of_le (Nat.le_refl a)];rfl
theorem zrk {e:Array α} {a j:Nat} {x:α} (h:a≠j):(e.setIfInBounds a x)[j]! = e[j]! := by
 simp [getElem!_def,Array.getElem?_setIfInBounds_ne h]
theorem zq5 {d:Array α} {n:Nat} (h:0 < n) (he:d[n]! = d[n - 1]!):ddA d (n+1)=ddA d n:=by rw [ddA,if_pos ⟨h,he⟩]
theorem zsN {d:Array α} {n:Nat} (he:d[n]! ≠ d[n - 1]!):ddA d (n+1)=ddA d n++[d[n]!]:=by rw [ddA,if_neg (fun h=>he h.2)]
theorem zq3 {enc:α→D} {e:Array α} {z:D} {a n:Nat} (h:a≤e.size):((List.take a (e.toList.map enc))++(List.replicate n z++List.drop (a+n) (e.toList.map enc))).take a=(e.toList.take a).map enc:=by
 rw [List.take_append_of_le_length (by simp;omega),List.take_take,Nat.min_self,List.map_take]
end
end Go.Ab
namespace Go.Ab
section
variable {α:Type} [Inhabited α] [DecidableEq α]
theorem zd4 {d:Array α} {x:α} : ∀ {n:Nat},x∈ddA d n ↔ ∃ i,i < n∧d[i]! = x
 | 0=>by simp [ddA]
 | n+1=>by
  rw [ddA]
  constructor
  ·intro h
   split at h
   ·obtain ⟨i,h1,h2⟩:=zd4.1 h
    exact ⟨i,by omega,h2⟩
   ·rcases List.mem_append.1 h with h|h
    ·obtain ⟨i,h1,h2⟩:=zd4.1 h
     exact ⟨i,by omega,h2⟩
    ·exact ⟨n,by omega,by simp at h;exact h.symm⟩
  ·rintro ⟨i,h1,h2⟩
   split
   ·rename_i hc
    by_cases e:i=n
    ·subst e
     exact zd4.2 ⟨i - 1,by omega,by rw [← hc.2];exact h2⟩
    ·exact zd4.2 ⟨i,by omega,h2⟩
   ·by_cases e:i=n
    ·subst e;exact List.mem_append.2 (.inr (by simp [h2]))
    ·exact List.mem_append.2 (.inl (zd4.2 ⟨i,by omega,h2⟩))
theorem zir {lt:α→α→Bool} {d:Array α} (hs : ∀ i j,i < j→j < d.size→lt d[j]! d[i]! = false) (tri : ∀ x y,lt x y=false→lt y x=false→x=y) : ∀ {n:Nat},n≤d.size→(ddA d n).Pairwise fun x y=>lt x y=true
 | 0,_=>List.Pairwise.nil
 | n+1,h=>by
  rw [ddA]
  split
  ·exact zir hs tri (by omega)
  ·rename_i hc
   refine List.pairwise_append.2 ⟨zir hs tri (by omega),List.pairwise_singleton _ _,fun x hx y hy=>?_⟩
   obtain ⟨i,hi,rfl⟩:=zd4.1 hx
   have hy:y=d[n]! := by simpa using hy
   subst hy
   cases hb:lt d[i]! d[n]! with
   | true=>rfl
   | false =>
    have e1:=tri _ _ hb (hs i n hi (by omega))
    refine absurd ⟨by omega,?_⟩ hc
    by_cases e:i=n - 1
    ·rw [← e];exact e1.symm
    ·refine (tri _ _ ?_ ?_)
     ·exact hs (n - 1) n (by omega) (by omega)
     ·rw [← e1];exact hs i (n - 1) (by omega) (by omega)
end
def ltT (x y:Tup):Bool:=decide (z7 x y < 0)
theorem zfT {x y:Tup} : ltT x y=true↔z7 x y < 0:=by simp [ltT]
theorem zpz {x y:Tup} : ltT x y=false↔0≤z7 x y:=by simp [ltT]
theorem zwG:Sort.SWO ltT:=by
 refine ⟨fun x=>zpz.2 (by rw [zZ.refl];omega),fun x y z h1 h2=>zfT.2 (zZ.tr (zfT.1 h1) (zfT.1 h2)),fun x y z h1 h2=>?_⟩
 rw [zpz] at *
 have a1:=zZ.anti x y
 have a2:=zZ.anti y z
 have a3:=zZ.anti x z
 by_cases e1:z7 x y=0
 ·rw [zZ.zero.1 e1];exact h2
 ·by_cases e2:z7 y z=0
  ·rw [← zZ.zero.1 e2];exact h1
  ·have:=zZ.tr (x:=z) (y:=y) (z:=x) (by omega) (by omega)
   omega
theorem zjK {α:Type} {p:α→Bool} : ∀ {S:List α} {i:Nat},i≤S.length→(∀ (k:Nat) x,k < i→S[k]? = some x→p x=true)→(∀ (k:Nat) x,i≤k→S[k]? = some x→p x=false)→(S.filter p).length=i
 | [],i,hi,_,_=>by simp at hi;simp [hi]
 | a::S,0,hi,h1,h2=>by
  have:(a::S).filter p=[]:=by
   rw [List.filter_eq_nil_iff]
   intro x hx
   obtain ⟨k,hk⟩:=List.getElem?_of_mem hx
   rw [h2 k x (by omega) hk];simp
  rw [this];rfl
 | a::S,i+1,hi,h1,h2=>by
  rw [List.filter_cons_of_pos (h1 0 a (by omega) rfl),List.length_cons,zjK (i:=i) (by simpa using hi) (fun k x hk hx=>h1 (k+1) x (by omega) (by simpa using hx)) fun k x hk hx=>h2 (k+1) x (by omega) (by simpa using hx)]
structure zbI (ts S:List Tup):Prop where
 pw:S.Pairwise fun x y=>z7 x y < 0
 mem : ∀ x,x∈S↔x∈ts
theorem zbI.nodup {ts S:List Tup} (h:zbI ts S):S.Nodup:=h.pw.imp fun {a b} h e=>by subst e;rw [zZ.refl] at h;omega
theorem zbI.cnt {ts S:List Tup} (h:zbI ts S):S.length=cnN ts:=zvk h.nodup h.mem
theorem zbI.le {ts S:List Tup} (h:zbI ts S):S.length≤ts.length:=zaL h.nodup fun x hx=>(h.mem x).1 hx
theorem zbI.rk {ts S:List Tup} (h:zbI ts S) {t:Tup} {i:Nat} (hi:i≤S.length) (h1 : ∀ (k:Nat) x,k < i→S[k]? = some x→z7 x t < 0) (h2 : ∀ (k:Nat) x,i≤k→S[k]? = some x → ¬z7 x t < 0):i=rkN ts t:=by
 rw [← zsj h.nodup h.mem]
 exact (zjK hi (fun k x hk hx=>decide_eq_true (h1 k x hk hx)) fun k x hk hx=>decide_eq_false (h2 k x hk hx)).symm
theorem zbI.lt_of {ts S:List Tup} (h:zbI ts S) {t:Tup} {i k:Nat} {x y:Tup} (hx:S[i]? = some x) (hy:S[k]? = some y) (hik:k≤i) (hl:z7 x t < 0):z7 y t < 0:=by
 by_cases e:k=i
 ·subst e;rw [hx] at hy;cases hy;exact hl
 ·obtain ⟨a,b⟩:=List.getElem?_eq_some_iff.1 hx
  obtain ⟨c,d⟩:=List.getElem?_eq_some_iff.1 hy
  have:=List.pairwise_iff_getElem.1 h.pw k i c a (by omega)
  rw [b,d] at this
  exact zZ.tr this hl
theorem zoe (d:Array Tup):(Sort.sort ltT d).toList.Perm d.toList:=by
 obtain ⟨⟨h1,-,h2⟩,-⟩:=Sort.sort_sorts ltT zwG d
 have e1:(Sort.sort ltT d).extract 0 d.size=Sort.sort ltT d:=by rw [← h1];simp
 have e2:d.extract 0 d.size=d:=by simp
 rwa [e1,e2] at h2
theorem zsq {ts:List Tup} {S:Array Tup} (hS:S=Sort.sort ltT ts.toArray):zbI ts (ddA S S.size):=by
 subst hS
 obtain ⟨⟨h1,-,-⟩,h3⟩:=Sort.sort_sorts _ zwG ts.toArray
 have hp:=zoe ts.toArray
 generalize Sort.sort ltT ts.toArray=S at h1 h3 hp
 refine ⟨?_,fun x=>?_⟩
 ·refine (zir (fun i j hij hj=>h3 i j (Nat.zero_le _) hij (by rw [← h1];exact hj)) (fun x y h1 h2=>zZ.zero.1 (by rw [zpz] at h1 h2;have:=zZ.anti x y;omega)) (Nat.le_refl _)).imp fun h=>zfT.1 h
 ·rw [zd4]
  have:=hp.mem_iff (a:=x)
  rw [show ts.toArray.toList=ts from rfl] at this
  rw [← this]
  constructor
  ·rintro ⟨i,hi,rfl⟩;exact List.mem_of_getElem? (zbd hi)
  ·intro hx
   obtain ⟨i,hi⟩:=List.getElem?_of_mem hx
   exact ⟨i,(zaB hi).2,(zaB hi).1⟩
end Go.Ab
namespace Go.Ab
open Go Go.Proofs
set_option maxRecDepth 10000
set_option maxHeartbeats 4000000
variable {T:Nat→Obj→Prop}
theorem zdp (a b:Int):Fn Tryz.prog T za7 [.d (.int .i64 a),.d (.int .i64 b)] [] (.d (.int .i64 (z6 a b))) []:=by
 have hn : ∀ z:Int,Fn Tryz.prog T zdY [.d (.int .i64 z)] [] (.d (.bool false)) []:=fun z=>by
  refine zg zw zgi (by show 1≤6;decide) ?_
  (repeat' ((conv=>whnf);first|refine vA ?_|refine vB fun b hb=>?_|refine vC (fun hl=>?_) fun i kv vv hi=>?_|refine vE ?_|refine vG ?_|refine vH ?_|((first|refine vD ?_ ?_|refine vF ?_ ?_|refine vI ?_ ?_)<;>intro hc<;>try simp only [vL] at hc)|refine vJ fun hg=>?_|refine vK fun hg=>?_|refine vT ?_|refine vN ‹_› ?_|(refine vQ ?_ fun x hx=>?_;·first|omega|(simp only [vM] at *;omega))|((first|refine vO ?_ ?_|refine vR ?_ ‹_› ?_|refine vS ?_ fun x hx=>?_|refine vP ?_ ?_);·first|omega|(simp only [vM] at *;omega))|refine vW ⟨by omega,by omega⟩ ?_|(refine vU ?_ ?_;·kernel_rfl)|refine vX ?_|refine vY ?_|refine vZ ?_|refine za.mk _ ‹_› ?_|refine vP (show (_:BitVec 64)≠_ by decide) ?_));all_goals try conv=>whnf
  simp
 refine zg zw zjS (by show 2≤20;decide) ?_
 (repeat' ((conv=>whnf);first|refine vA ?_|refine vB fun b hb=>?_|refine vC (fun hl=>?_) fun i kv vv hi=>?_|refine vE ?_|refine vG ?_|refine vH ?_|((first|refine vD ?_ ?_|refine vF ?_ ?_|refine vI ?_ ?_)<;>intro hc<;>try simp only [vL] at hc)|refine vJ fun hg=>?_|refine vK fun hg=>?_|refine vT ?_|refine vN ‹_› ?_|(refine vQ ?_ fun x hx=>?_;·first|omega|(simp only [vM] at *;omega))|((first|refine vO ?_ ?_|refine vR ?_ ‹_› ?_|refine vS ?_ fun x hx=>?_|refine vP ?_ ?_);·first|omega|(simp only [vM] at *;omega))|refine vW ⟨by omega,by omega⟩ ?_|(refine vU ?_ ?_;·kernel_rfl)|refine vX ?_|refine vY ?_|refine vZ ?_|refine yD (hn _) (by (repeat refine ⟨⟨rfl,rfl⟩,?_⟩);rfl) rfl ?_|refine yN (hn _) (by (repeat refine ⟨⟨rfl,rfl⟩,?_⟩);rfl) ?_|refine za.mk _ ‹_› ?_|refine vP (show (_:BitVec 64)≠_ by decide) ?_));all_goals try conv=>whnf
 all_goals (unfold z6;first|rw [if_pos ‹_›]|(rw [if_neg (by omega)];first|rw [if_pos ‹_›]|rw [if_neg (by omega)])|skip)
theorem zoW {α:Type} {c:α→α→Int} {a b:List α} {k:Nat} (h:k=min a.length b.length):zN c (a.drop k) (b.drop k)=z6 (a.length:Int) (b.length:Int):=by
 rcases Nat.lt_trichotomy a.length b.length with h1|h1|h1
 ·rw [List.drop_eq_nil_of_le (show a.length≤k by omega)]
  obtain ⟨x,hx⟩ : ∃ x,b[k]? = some x:=⟨_,List.getElem?_eq_getElem (by omega)⟩
  rw [zx hx,zN,z6,if_pos (by omega)]
 ·rw [List.drop_eq_nil_of_le (show a.length≤k by omega),List.drop_eq_nil_of_le (show b.length≤k by omega),zN,z6,if_neg (by omega),if_neg (by omega)]
 ·rw [List.drop_eq_nil_of_le (show b.length≤k by omega)]
  obtain ⟨x,hx⟩ : ∃ x,a[k]? = some x:=⟨_,List.getElem?_eq_getElem (by omega)⟩
  rw [zx hx,zN,z6,if_neg (by omega),if_pos (by omega)]
theorem znb (a b:List Int) (ha:a.length≤1000000):Fn Tryz.prog T zdy [.d (dI a),.d (dI b),.d (.fn za7 [])] [] (.d (.int .i64 (zN z6 a b))) []:=by
 refine zg zw zgF (by show 3≤36;decide) ?_
 (repeat' ((conv=>whnf);first|refine vA ?_|refine vB fun b hb=>?_|refine vC (fun hl=>?_) fun i kv vv hi=>?_|refine vE ?_|refine vG ?_|refine vH ?_|((first|refine vD ?_ ?_|refine vF ?_ ?_|refine vI ?_ ?_)<;>intro hc<;>try simp only [vL] at hc)|refine vJ fun hg=>?_|refine vK fun hg=>?_|refine vT ?_|refine vN ‹_› ?_|(refine vQ ?_ fun x hx=>?_;·first|omega|(simp only [vM] at *;omega))|((first|refine vO ?_ ?_|refine vR ?_ ‹_› ?_|refine vS ?_ fun x hx=>?_|refine vP ?_ ?_);·first|omega|(simp only [vM] at *;omega))|refine vW ⟨by omega,by omega⟩ ?_|(refine vU ?_ ?_;·kernel_rfl)|refine vX ?_|refine vY ?_|refine vZ ?_|refine za.mk _ ‹_› ?_|refine vP (show (_:BitVec 64)≠_ by decide) ?_));all_goals try conv=>whnf
 refine zW (fun (k:Nat)=>[(0,.d (dI a)),(1,.d (dI b)),(2,.d (.fn za7 [])),(13,.d (.int .i64 ((min ((a.map (D.int .i64)).length:Int) ((b.map (D.int .i64)).length:Int))))),(14,.d (.int .i64 ((k:Int))))]) (fun (k:Nat)=>k≤a.length∧k≤b.length∧zN z6 a b=zN z6 (a.drop k) (b.drop k)) (fun (k:Nat)=>a.length - k) (0) (⟨by simp,by simp,rfl⟩) (by (repeat' first|exact trivial|exact rfl|exact ⟨_,rfl⟩|exact .inl rfl|exact .inr (.inl ⟨rfl,rfl⟩)|exact .inr (.inr ⟨rfl,rfl⟩)|refine And.intro ?_ ?_|refine ⟨_,rfl,?_⟩|decide|exact of_decide_eq_true rfl)) ?_
 rintro k ⟨hk,hk2,hI⟩
 by_cases hkl:k < a.length∧k < b.length
 ·obtain ⟨x,hx⟩ : ∃ x,a[k]? = some x:=⟨_,List.getElem?_eq_getElem hkl.1⟩
  obtain ⟨y,hy⟩ : ∃ y,b[k]? = some y:=⟨_,List.getElem?_eq_getElem hkl.2⟩
  have hs:zN z6 a b=if z6 x y=0 then zN z6 (a.drop (k+1)) (b.drop (k+1)) else z6 x y:=by rw [hI,zx hx,zx hy,zN]
  (repeat' ((conv=>whnf);first|refine vA ?_|refine vB fun b hb=>?_|refine vC (fun hl=>?_) fun i kv vv hi=>?_|refine vE ?_|refine vG ?_|refine vH ?_|((first|refine vD ?_ ?_|refine vF ?_ ?_|refine vI ?_ ?_)<;>intro hc<;>try simp only [vL] at hc)|refine vJ fun hg=>?_|refine vK fun hg=>?_|refine vT ?_|refine vN ‹_› ?_|(refine vQ ?_ fun x hx=>?_;·first|omega|(simp only [vM] at *;omega))|((first|refine vO ?_ ?_|refine vR ?_ ‹_› ?_|refine vS ?_ fun x hx=>?_|refine vP ?_ ?_);·first|omega|(simp only [vM] at *;omega))|refine vW ⟨by omega,by omega⟩ ?_|(refine vU ?_ ?_;·kernel_rfl)|refine vX ?_|refine vY ?_|refine vZ ?_|refine yD (zdp _ _) ⟨⟨rfl,rfl⟩,⟨rfl,rfl⟩,rfl⟩ rfl ?_|refine za.mk _ ‹_› ?_|refine vP (show (_:BitVec 64)≠_ by decide) ?_));all_goals try conv=>whnf
  ·rw [hs,if_neg hc]
  ·exact ⟨k+1,[],[],⟨by omega,by omega,by rw [hs,if_pos hc]⟩,by (first|omega|(simp only [vM] at *;omega)),by (refine ⟨rfl,rfl,rfl,?_,?_⟩;repeat' first|exact trivial|exact rfl|exact ⟨_,rfl⟩|exact .inl rfl|exact .inr (.inl ⟨rfl,rfl⟩)|exact .inr (.inr ⟨rfl,rfl⟩)|refine And.intro ?_ ?_|refine ⟨_,rfl,?_⟩|decide|exact of_decide_eq_true rfl)⟩
  ·omega
 ·(repeat' ((conv=>whnf);first|refine vA ?_|refine vB fun b hb=>?_|refine vC (fun hl=>?_) fun i kv vv hi=>?_|refine vE ?_|refine vG ?_|refine vH ?_|((first|refine vD ?_ ?_|refine vF ?_ ?_|refine vI ?_ ?_)<;>intro hc<;>try simp only [vL] at hc)|refine vJ fun hg=>?_|refine vK fun hg=>?_|refine vT ?_|refine vN ‹_› ?_|(refine vQ ?_ fun x hx=>?_;·first|omega|(simp only [vM] at *;omega))|((first|refine vO ?_ ?_|refine vR ?_ ‹_› ?_|refine vS ?_ fun x hx=>?_|refine vP ?_ ?_);·first|omega|(simp only [vM] at *;omega))|refine vW ⟨by omega,by omega⟩ ?_|(refine vU ?_ ?_;·kernel_rfl)|refine vX ?_|refine vY ?_|refine vZ ?_|refine yD (zdp _ _) ⟨⟨rfl,rfl⟩,⟨rfl,rfl⟩,rfl⟩ rfl ?_|refine za.mk _ ‹_› ?_|refine vP (show (_:BitVec 64)≠_ by decide) ?_));all_goals try conv=>whnf
  iterate 2 (exfalso;omega)
  ·rw [hI,zoW (by omega),List.length_map,List.length_map]
def Sml (t:Tup):Prop:=t.length≤1000 ∧ ∀ r∈t,r.length≤1000
theorem zsT (x y:List Int) (h:x.length≤1000000):Fn Tryz.prog T za8 [.d (dI x),.d (dI y)] [] (.d (.int .i64 (zN z6 x y))) []:=by
 refine zg zw zjU (by show 2≤8;decide) ?_
 (repeat' ((conv=>whnf);first|refine vA ?_|refine vB fun b hb=>?_|refine vC (fun hl=>?_) fun i kv vv hi=>?_|refine vE ?_|refine vG ?_|refine vH ?_|((first|refine vD ?_ ?_|refine vF ?_ ?_|refine vI ?_ ?_)<;>intro hc<;>try simp only [vL] at hc)|refine vJ fun hg=>?_|refine vK fun hg=>?_|refine vT ?_|refine vN ‹_› ?_|(refine vQ ?_ fun x hx=>?_;·first|omega|(simp only [vM] at *;omega))|((first|refine vO ?_ ?_|refine vR ?_ ‹_› ?_|refine vS ?_ fun x hx=>?_|refine vP ?_ ?_);·first|omega|(simp only [vM] at *;omega))|refine vW ⟨by omega,by omega⟩ ?_|(refine vU ?_ ?_;·kernel_rfl)|refine vX ?_|refine vY ?_|refine vZ ?_|refine yD (znb x y h) ⟨⟨rfl,rfl⟩,⟨rfl,rfl⟩,⟨rfl,rfl⟩,rfl⟩ rfl ?_|refine za.mk _ ‹_› ?_|refine vP (show (_:BitVec 64)≠_ by decide) ?_));all_goals try conv=>whnf
theorem zpj (a b:Tup) (ha:a.length≤1000000) (hb : ∀ r∈a,r.length≤1000000):Fn Tryz.prog T zda [.d (dII a),.d (dII b),.d (.fn za8 [])] [] (.d (.int .i64 (zN (zN z6) a b))) []:=by
 refine zg zw zgj (by show 3≤36;decide) ?_
 (repeat' ((conv=>whnf);first|refine vA ?_|refine vB fun b hb=>?_|refine vC (fun hl=>?_) fun i kv vv hi=>?_|refine vE ?_|refine vG ?_|refine vH ?_|((first|refine vD ?_ ?_|refine vF ?_ ?_|refine vI ?_ ?_)<;>intro hc<;>try simp only [vL] at hc)|refine vJ fun hg=>?_|refine vK fun hg=>?_|refine vT ?_|refine vN ‹_› ?_|(refine vQ ?_ fun x hx=>?_;·first|omega|(simp only [vM] at *;omega))|((first|refine vO ?_ ?_|refine vR ?_ ‹_› ?_|refine vS ?_ fun x hx=>?_|refine vP ?_ ?_);·first|omega|(simp only [vM] at *;omega))|refine vW ⟨by omega,by omega⟩ ?_|(refine vU ?_ ?_;·kernel_rfl)|refine vX ?_|refine vY ?_|refine vZ ?_|refine za.mk _ ‹_› ?_|refine vP (show (_:BitVec 64)≠_ by decide) ?_));all_goals try conv=>whnf
 refine zW (fun (k:Nat)=>[(0,.d (dII a)),(1,.d (dII b)),(2,.d (.fn za8 [])),(13,.d (.int .i64 ((min ((a.map dI).length:Int) ((b.map dI).length:Int))))),(14,.d (.int .i64 ((k:Int))))]) (fun (k:Nat)=>k≤a.length∧k≤b.length∧zN (zN z6) a b=zN (zN z6) (a.drop k) (b.drop k)) (fun (k:Nat)=>a.length - k) (0) (⟨by simp,by simp,rfl⟩) (by (repeat' first|exact trivial|exact rfl|exact ⟨_,rfl⟩|exact .inl rfl|exact .inr (.inl ⟨rfl,rfl⟩)|exact .inr (.inr ⟨rfl,rfl⟩)|refine And.intro ?_ ?_|refine ⟨_,rfl,?_⟩|decide|exact of_decide_eq_true rfl)) ?_
 rintro k ⟨hk,hk2,hI⟩
 by_cases hkl:k < a.length∧k < b.length
 ·obtain ⟨x,hx⟩ : ∃ x,a[k]? = some x:=⟨_,List.getElem?_eq_getElem hkl.1⟩
  obtain ⟨y,hy⟩ : ∃ y,b[k]? = some y:=⟨_,List.getElem?_eq_getElem hkl.2⟩
  have hs:zN (zN z6) a b=if (zN z6) x y=0 then zN (zN z6) (a.drop (k+1)) (b.drop (k+1)) else (zN z6) x y:=by rw [hI,zx hx,zx hy,zN]
  have cA:=zsT (T:=T) x y (hb x (List.mem_of_getElem? hx))
  (repeat' ((conv=>whnf);first|refine vA ?_|refine vB fun b hb=>?_|refine vC (fun hl=>?_) fun i kv vv hi=>?_|refine vE ?_|refine vG ?_|refine vH ?_|((first|refine vD ?_ ?_|refine vF ?_ ?_|refine vI ?_ ?_)<;>intro hc<;>try simp only [vL] at hc)|refine vJ fun hg=>?_|refine vK fun hg=>?_|refine vT ?_|refine vN ‹_› ?_|(refine vQ ?_ fun x hx=>?_;·first|omega|(simp only [vM] at *;omega))|((first|refine vO ?_ ?_|refine vR ?_ ‹_› ?_|refine vS ?_ fun x hx=>?_|refine vP ?_ ?_);·first|omega|(simp only [vM] at *;omega))|refine vW ⟨by omega,by omega⟩ ?_|(refine vU ?_ ?_;·kernel_rfl)|refine vX ?_|refine vY ?_|refine vZ ?_|refine yD cA ⟨⟨rfl,rfl⟩,⟨rfl,rfl⟩,rfl⟩ rfl ?_|refine yD (zdp _ _) ⟨⟨rfl,rfl⟩,⟨rfl,rfl⟩,rfl⟩ rfl ?_|refine za.mk _ ‹_› ?_|refine vP (show (_:BitVec 64)≠_ by decide) ?_));all_goals try conv=>whnf
  ·rw [hs,if_neg hc]
  ·exact ⟨k+1,[],[],⟨by omega,by omega,by rw [hs,if_pos hc]⟩,by (first|omega|(simp only [vM] at *;omega)),by (refine ⟨rfl,rfl,rfl,?_,?_⟩;repeat' first|exact trivial|exact rfl|exact ⟨_,rfl⟩|exact .inl rfl|exact .inr (.inl ⟨rfl,rfl⟩)|exact .inr (.inr ⟨rfl,rfl⟩)|refine And.intro ?_ ?_|refine ⟨_,rfl,?_⟩|decide|exact of_decide_eq_true rfl)⟩
  ·omega
 ·(repeat' ((conv=>whnf);first|refine vA ?_|refine vB fun b hb=>?_|refine vC (fun hl=>?_) fun i kv vv hi=>?_|refine vE ?_|refine vG ?_|refine vH ?_|((first|refine vD ?_ ?_|refine vF ?_ ?_|refine vI ?_ ?_)<;>intro hc<;>try simp only [vL] at hc)|refine vJ fun hg=>?_|refine vK fun hg=>?_|refine vT ?_|refine vN ‹_› ?_|(refine vQ ?_ fun x hx=>?_;·first|omega|(simp only [vM] at *;omega))|((first|refine vO ?_ ?_|refine vR ?_ ‹_› ?_|refine vS ?_ fun x hx=>?_|refine vP ?_ ?_);·first|omega|(simp only [vM] at *;omega))|refine vW ⟨by omega,by omega⟩ ?_|(refine vU ?_ ?_;·kernel_rfl)|refine vX ?_|refine vY ?_|refine vZ ?_|refine yD (zdp _ _) ⟨⟨rfl,rfl⟩,⟨rfl,rfl⟩,rfl⟩ rfl ?_|refine za.mk _ ‹_› ?_|refine vP (show (_:BitVec 64)≠_ by decide) ?_));all_goals try conv=>whnf
  ·exfalso;omega
  ·rw [hI,zoW (by omega),List.length_map,List.length_map]
theorem zgh (x y:Tup) (h:Sml x):Fn Tryz.prog T zI [.d (dII x),.d (dII y)] [] (.d (.int .i64 (z7 x y))) []:=by
 have cB:=zpj (T:=T) x y (by have:=h.1;omega) (fun r hr=>by have:=h.2 r hr;omega)
 refine zg zw zlC (by show 2≤8;decide) ?_
 (repeat' ((conv=>whnf);first|refine vA ?_|refine vB fun b hb=>?_|refine vC (fun hl=>?_) fun i kv vv hi=>?_|refine vE ?_|refine vG ?_|refine vH ?_|((first|refine vD ?_ ?_|refine vF ?_ ?_|refine vI ?_ ?_)<;>intro hc<;>try simp only [vL] at hc)|refine vJ fun hg=>?_|refine vK fun hg=>?_|refine vT ?_|refine vN ‹_› ?_|(refine vQ ?_ fun x hx=>?_;·first|omega|(simp only [vM] at *;omega))|((first|refine vO ?_ ?_|refine vR ?_ ‹_› ?_|refine vS ?_ fun x hx=>?_|refine vP ?_ ?_);·first|omega|(simp only [vM] at *;omega))|refine vW ⟨by omega,by omega⟩ ?_|(refine vU ?_ ?_;·kernel_rfl)|refine vX ?_|refine vY ?_|refine vZ ?_|refine yD cB ⟨⟨rfl,rfl⟩,⟨rfl,rfl⟩,⟨rfl,rfl⟩,rfl⟩ rfl ?_|refine za.mk _ ‹_› ?_|refine vP (show (_:BitVec 64)≠_ by decide) ?_));all_goals try conv=>whnf
 rfl
theorem zwc {α:Type} [Inhabited α] {d:Array α} {i j:Nat} (hi:i < d.size) (hj:j < d.size) {x:α} (h:x∈(Sort.swp d i j).toList):x∈d.toList:=by
 have a1:=List.mem_of_getElem? (zbd hi)
 have a2:=List.mem_of_getElem? (zbd hj)
 unfold Sort.swp at h
 simp only [Array.set!_eq_setIfInBounds,Array.toList_setIfInBounds] at h
 rcases List.mem_or_eq_of_mem_set h with h|rfl
 ·rcases List.mem_or_eq_of_mem_set h with h|rfl
  ·exact h
  ·exact a2
 ·exact a1
abbrev zeX (d:Array Tup):Ob := .row 1 (d.toList.map dII)
theorem zvL (d:Array Tup) (b:Nat) (hd : ∀ x∈d.toList,Sml x) (hb:b≤d.size) (hs:d.size≤1000) :
  Fn Tryz.prog T zas [.own 0,.d (.int .i64 0),.d (.int .i64 (b:Int)),.d (.fn zI [])] [zeX d] (.tup []) [some (zeX (Sort.insertionSort ltT d 0 b))]:=by
 refine zaS zw zbT (by show 4≤53;decide) _ (fun e env mem n h=>h) ?_
 (repeat' ((conv=>whnf);first|refine vA ?_|refine vB fun b hb=>?_|refine vC (fun hl=>?_) fun i kv vv hi=>?_|refine vE ?_|refine vG ?_|refine vH ?_|((first|refine vD ?_ ?_|refine vF ?_ ?_|refine vI ?_ ?_)<;>intro hc<;>try simp only [vL] at hc)|refine vJ fun hg=>?_|refine vK fun hg=>?_|refine vT ?_|refine vN ‹_› ?_|(refine vQ ?_ fun x hx=>?_;·first|omega|(simp only [vM] at *;omega))|((first|refine vO ?_ ?_|refine vR ?_ ‹_› ?_|refine vS ?_ fun x hx=>?_|refine vP ?_ ?_);·first|omega|(simp only [vM] at *;omega))|refine vW ⟨by omega,by omega⟩ ?_|(refine vU ?_ ?_;·kernel_rfl)|refine vX ?_|refine vY ?_|refine vZ ?_|refine za.mk _ ‹_› ?_|refine vP (show (_:BitVec 64)≠_ by decide) ?_));all_goals try conv=>whnf
 refine zj (fun ((ii,xs):Int×List D)=>[(0,.own 0),(1,.d (.int .i64 (0))),(2,.d (.int .i64 ((b:Int)))),(3,.d (.fn zI [])),(8,.d (.int .i64 (ii))),(zc,.own 0)]) (fun ((ii,xs):Int×List D)=>[(0,some (.row 1 xs))]) 1 (fun ((ii,xs):Int×List D) => ∃ (i:Nat) (e:Array Tup),ii=i∧xs=e.toList.map dII∧0 < i∧i≤b+1∧e.size=d.size∧(∀ x∈e.toList,Sml x)∧Sort.insOuter ltT 0 b i e=Sort.insertionSort ltT d 0 b) (fun ((ii,xs):Int×List D)=>(b - ii).toNat) (((0:Int)+1,d.toList.map dII)) [(0,0)] [] (⟨1,d,by omega,rfl,by omega,by omega,rfl,hd,rfl⟩) (by (refine ⟨rfl,rfl,rfl,?_,?_⟩;repeat' first|exact trivial|exact rfl|exact ⟨_,rfl⟩|exact .inl rfl|exact .inr (.inl ⟨rfl,rfl⟩)|exact .inr (.inr ⟨rfl,rfl⟩)|refine And.intro ?_ ?_|refine ⟨_,rfl,?_⟩|decide|exact of_decide_eq_true rfl)) ?_
 rintro ⟨_,_⟩ ⟨i,e,rfl,rfl,hi,hi2,he,hsm,hI⟩
 (repeat' ((conv=>whnf);first|refine vA ?_|refine vB fun b hb=>?_|refine vC (fun hl=>?_) fun i kv vv hi=>?_|refine vE ?_|refine vG ?_|refine vH ?_|((first|refine vD ?_ ?_|refine vF ?_ ?_|refine vI ?_ ?_)<;>intro hc<;>try simp only [vL] at hc)|refine vJ fun hg=>?_|refine vK fun hg=>?_|refine vT ?_|refine vN ‹_› ?_|(refine vQ ?_ fun x hx=>?_;·first|omega|(simp only [vM] at *;omega))|((first|refine vO ?_ ?_|refine vR ?_ ‹_› ?_|refine vS ?_ fun x hx=>?_|refine vP ?_ ?_);·first|omega|(simp only [vM] at *;omega))|refine vW ⟨by omega,by omega⟩ ?_|(refine vU ?_ ?_;·kernel_rfl)|refine vX ?_|refine vY ?_|refine vZ ?_|refine za.mk _ ‹_› ?_|refine vP (show (_:BitVec 64)≠_ by decide) ?_));all_goals try conv=>whnf
 ·refine zj (fun ((jj,xs):Int×List D)=>[(0,.own 0),(1,.d (.int .i64 (0))),(2,.d (.int .i64 ((b:Int)))),(3,.d (.fn zI [])),(8,.d (.int .i64 ((i:Int)))),(9,.d (.int .i64 (jj))),(zc,.own 0)]) (fun ((jj,xs):Int×List D)=>[(0,some (.row 1 xs))]) 1 (fun ((jj,xs):Int×List D) => ∃ (j:Nat) (g:Array Tup),jj=j∧xs=g.toList.map dII∧j≤i∧g.size=d.size∧(∀ x∈g.toList,Sml x)∧Sort.insInner ltT 0 j g=Sort.insInner ltT 0 i e) (fun ((jj,xs):Int×List D)=>jj.toNat) (((i:Int),e.toList.map dII)) [(0,0)] [] (⟨i,e,rfl,rfl,by omega,he,hsm,rfl⟩) (by (refine ⟨rfl,rfl,rfl,?_,?_⟩;repeat' first|exact trivial|exact rfl|exact ⟨_,rfl⟩|exact .inl rfl|exact .inr (.inl ⟨rfl,rfl⟩)|exact .inr (.inr ⟨rfl,rfl⟩)|refine And.intro ?_ ?_|refine ⟨_,rfl,?_⟩|decide|exact of_decide_eq_true rfl)) ?_
  rintro ⟨_,_⟩ ⟨j,g,rfl,rfl,hj,hg,hgm,hJ⟩
  have hgl:g.toList.length=d.size:=by rw [Array.length_toList];exact hg
  have stop : ¬(0 < j∧ltT g[j]! g[j - 1]! = true)→Sort.insOuter ltT 0 b (i+1) g=Sort.insertionSort ltT d 0 b:=fun h=>by
   rw [← hI,Sort.insOuter.eq_def ltT 0 b i,if_pos (by omega),← hJ,zi6 h]
  by_cases hj0:0 < j
  ·have hx1:g.toList[j]? = some g[j]! := zbd (by omega)
   have hx2:g.toList[((j:Int) - 1).toNat]? = some g[j - 1]! := by rw [show ((j:Int) - 1).toNat=j - 1 by omega];exact zbd (by omega)
   have co:=zgh (T:=T) g[j]! g[j - 1]! (hgm _ (List.mem_of_getElem? hx1))
   (repeat' ((conv=>whnf);first|refine vA ?_|refine vB fun b hb=>?_|refine vC (fun hl=>?_) fun i kv vv hi=>?_|refine vE ?_|refine vG ?_|refine vH ?_|((first|refine vD ?_ ?_|refine vF ?_ ?_|refine vI ?_ ?_)<;>intro hc<;>try simp only [vL] at hc)|refine vJ fun hg=>?_|refine vK fun hg=>?_|refine vT ?_|refine vN ‹_› ?_|(refine vQ ?_ fun x hx=>?_;·first|omega|(simp only [vM] at *;omega))|((first|refine vO ?_ ?_|refine vR ?_ ‹_› ?_|refine vS ?_ fun x hx=>?_|refine vP ?_ ?_);·first|omega|(simp only [vM] at *;omega))|refine vW ⟨by omega,by omega⟩ ?_|(refine vU ?_ ?_;·kernel_rfl)|refine vX ?_|refine vY ?_|refine vZ ?_|refine yD co ⟨⟨rfl,rfl⟩,⟨rfl,rfl⟩,rfl⟩ rfl ?_|refine za.mk _ ‹_› ?_|refine vP (show (_:BitVec 64)≠_ by decide) ?_));all_goals try conv=>whnf
   ·refine ⟨(_,_),[(0,0)],[],?_,?_,by (refine ⟨rfl,rfl,rfl,?_,?_⟩;repeat' first|exact trivial|exact rfl|exact ⟨_,rfl⟩|exact .inl rfl|exact .inr (.inl ⟨rfl,rfl⟩)|exact .inr (.inr ⟨rfl,rfl⟩)|refine And.intro ?_ ?_|refine ⟨_,rfl,?_⟩|decide|exact of_decide_eq_true rfl)⟩
    ·refine ⟨j - 1,Sort.swp g j (j - 1),by omega,?_,by omega,by rw [zqb,hg],fun x hx=>hgm x (zwc (by omega) (by omega) hx),?_⟩
     ·rw [show ((j:Int) - 1).toNat=j - 1 by omega] at hx2 ⊢
      exact zrq hx1 hx2
     ·exact (zi5 (d:=g) (j:=j) (by omega) (zfT.2 ‹_›)).symm.trans hJ
    ·(first|omega|(simp only [vM] at *;omega))
   ·refine ⟨(_,_),[(0,0)],[],?_,?_,by (refine ⟨rfl,rfl,rfl,?_,?_⟩;repeat' first|exact trivial|exact rfl|exact ⟨_,rfl⟩|exact .inl rfl|exact .inr (.inl ⟨rfl,rfl⟩)|exact .inr (.inr ⟨rfl,rfl⟩)|refine And.intro ?_ ?_|refine ⟨_,rfl,?_⟩|decide|exact of_decide_eq_true rfl)⟩
    ·exact ⟨i+1,g,by omega,rfl,by omega,by omega,hg,hgm,stop fun h=>by
      have:=zfT.1 h.2;omega⟩
    ·(first|omega|(simp only [vM] at *;omega))
   ·exfalso;omega
  ·(repeat' ((conv=>whnf);first|refine vA ?_|refine vB fun b hb=>?_|refine vC (fun hl=>?_) fun i kv vv hi=>?_|refine vE ?_|refine vG ?_|refine vH ?_|((first|refine vD ?_ ?_|refine vF ?_ ?_|refine vI ?_ ?_)<;>intro hc<;>try simp only [vL] at hc)|refine vJ fun hg=>?_|refine vK fun hg=>?_|refine vT ?_|refine vN ‹_› ?_|(refine vQ ?_ fun x hx=>?_;·first|omega|(simp only [vM] at *;omega))|((first|refine vO ?_ ?_|refine vR ?_ ‹_› ?_|refine vS ?_ fun x hx=>?_|refine vP ?_ ?_);·first|omega|(simp only [vM] at *;omega))|refine vW ⟨by omega,by omega⟩ ?_|(refine vU ?_ ?_;·kernel_rfl)|refine vX ?_|refine vY ?_|refine vZ ?_|refine za.mk _ ‹_› ?_|refine vP (show (_:BitVec 64)≠_ by decide) ?_));all_goals try conv=>whnf
   ·exfalso;omega
   ·refine ⟨(_,_),[(0,0)],[],?_,?_,by (refine ⟨rfl,rfl,rfl,?_,?_⟩;repeat' first|exact trivial|exact rfl|exact ⟨_,rfl⟩|exact .inl rfl|exact .inr (.inl ⟨rfl,rfl⟩)|exact .inr (.inr ⟨rfl,rfl⟩)|refine And.intro ?_ ?_|refine ⟨_,rfl,?_⟩|decide|exact of_decide_eq_true rfl)⟩
    ·exact ⟨i+1,g,by omega,rfl,by omega,by omega,hg,hgm,stop fun h=>by omega⟩
    ·(first|omega|(simp only [vM] at *;omega))
 ·have e0:Sort.insertionSort ltT d 0 b=e:=by
   rw [← hI,Sort.insOuter,if_neg (by omega)]
  rw [e0]
  refine ⟨trivial,_,[(0,0)],[],rfl,.inl (by (repeat' first|exact trivial|exact rfl|exact ⟨_,rfl⟩|exact .inl rfl|exact .inr (.inl ⟨rfl,rfl⟩)|exact .inr (.inr ⟨rfl,rfl⟩)|refine And.intro ?_ ?_|refine ⟨_,rfl,?_⟩|decide|exact of_decide_eq_true rfl)),⟨by rfl,by rfl,by rfl,trivial,by (repeat' first|exact trivial|exact rfl|exact ⟨_,rfl⟩|exact .inl rfl|exact .inr (.inl ⟨rfl,rfl⟩)|exact .inr (.inr ⟨rfl,rfl⟩)|refine And.intro ?_ ?_|refine ⟨_,rfl,?_⟩|decide|exact of_decide_eq_true rfl)⟩,by (repeat' first|exact trivial|exact rfl|exact ⟨_,rfl⟩|exact .inl rfl|exact .inr (.inl ⟨rfl,rfl⟩)|exact .inr (.inr ⟨rfl,rfl⟩)|refine And.intro ?_ ?_|refine ⟨_,rfl,?_⟩|decide|exact of_decide_eq_true rfl)⟩
theorem zvN (d:Array Tup) (hd : ∀ x∈d.toList,Sml x) (h12:d.size≤12) (l:Nat) :
  Fn Tryz.prog T zaR [.own 0,.d (.int .i64 0),.d (.int .i64 (d.size:Int)),.d (.int .i64 (l:Int)),.d (.fn zI [])] [zeX d] (.tup []) [some (zeX (Sort.pdq ltT d 0 d.size l true true))]:=by
 have hR:Sort.pdq ltT d 0 d.size l true true=Sort.insertionSort ltT d 0 d.size:=by rw [Sort.pdq,if_pos (by omega)]
 rw [hR]
 refine zaS zw zcM (by show 5≤148;decide) _ (fun e env mem n h=>h) ?_
 (repeat' ((conv=>whnf);first|refine vA ?_|refine vB fun b hb=>?_|refine vC (fun hl=>?_) fun i kv vv hi=>?_|refine vE ?_|refine vG ?_|refine vH ?_|((first|refine vD ?_ ?_|refine vF ?_ ?_|refine vI ?_ ?_)<;>intro hc<;>try simp only [vL] at hc)|refine vJ fun hg=>?_|refine vK fun hg=>?_|refine vT ?_|refine vN ‹_› ?_|(refine vQ ?_ fun x hx=>?_;·first|omega|(simp only [vM] at *;omega))|((first|refine vO ?_ ?_|refine vR ?_ ‹_› ?_|refine vS ?_ fun x hx=>?_|refine vP ?_ ?_);·first|omega|(simp only [vM] at *;omega))|refine vW ⟨by omega,by omega⟩ ?_|(refine vU ?_ ?_;·kernel_rfl)|refine vX ?_|refine vY ?_|refine vZ ?_|refine za.mk _ ‹_› ?_|refine vP (show (_:BitVec 64)≠_ by decide) ?_));all_goals try conv=>whnf
 refine zj (fun (u:Unit)=>[(0,.own 0),(1,.d (.int .i64 (0))),(2,.d (.int .i64 ((d.size:Int)))),(3,.d (.int .i64 ((l:Int)))),(4,.d (.fn zI [])),(10,.d (.bool (true))),(11,.d (.bool (true))),(zc,.own 0)]) (fun (u:Unit)=>[(0,some (zeX d))]) 1 (fun (u:Unit)=>True) (fun (u:Unit)=>0) (()) [(0,0)] [] (trivial) (by (refine ⟨rfl,rfl,rfl,?_,?_⟩;repeat' first|exact trivial|exact rfl|exact ⟨_,rfl⟩|exact .inl rfl|exact .inr (.inl ⟨rfl,rfl⟩)|exact .inr (.inr ⟨rfl,rfl⟩)|refine And.intro ?_ ?_|refine ⟨_,rfl,?_⟩|decide|exact of_decide_eq_true rfl)) ?_
 rintro u -
 (repeat' ((conv=>whnf);first|refine zf1.but 39 rfl ?_|refine vB fun b hb=>?_|refine vC (fun hl=>?_) fun i kv vv hi=>?_|refine vE ?_|refine vG ?_|refine vH ?_|((first|refine vD ?_ ?_|refine vF ?_ ?_|refine vI ?_ ?_)<;>intro hc<;>try simp only [vL] at hc)|refine vJ fun hg=>?_|refine vK fun hg=>?_|refine vT ?_|refine vN ‹_› ?_|(refine vQ ?_ fun x hx=>?_;·first|omega|(simp only [vM] at *;omega))|((first|refine vO ?_ ?_|refine vR ?_ ‹_› ?_|refine vS ?_ fun x hx=>?_|refine vP ?_ ?_);·first|omega|(simp only [vM] at *;omega))|refine vW ⟨by omega,by omega⟩ ?_|(refine vU ?_ ?_;·kernel_rfl)|refine vX ?_|refine vY ?_|refine vZ ?_|refine za.mk _ ‹_› ?_|refine vP (show (_:BitVec 64)≠_ by decide) ?_));all_goals try conv=>whnf
 ·refine zaU.objs [0] (zvL d d.size hd (Nat.le_refl _) (by omega)) (by (repeat' first|exact trivial|exact rfl|exact ⟨_,rfl⟩|exact .inl rfl|exact .inr (.inl ⟨rfl,rfl⟩)|exact .inr (.inr ⟨rfl,rfl⟩)|refine And.intro ?_ ?_|refine ⟨_,rfl,?_⟩|decide|exact of_decide_eq_true rfl)) (by (repeat' first|exact trivial|exact rfl|exact ⟨_,rfl⟩|exact .inl rfl|exact .inr (.inl ⟨rfl,rfl⟩)|exact .inr (.inr ⟨rfl,rfl⟩)|refine And.intro ?_ ?_|refine ⟨_,rfl,?_⟩|decide|exact of_decide_eq_true rfl)) (by rfl) (by rfl) (by simp) ?_
  (repeat' ((conv=>whnf);first|refine vA ?_|refine vB fun b hb=>?_|refine vC (fun hl=>?_) fun i kv vv hi=>?_|refine vE ?_|refine vG ?_|refine vH ?_|((first|refine vD ?_ ?_|refine vF ?_ ?_|refine vI ?_ ?_)<;>intro hc<;>try simp only [vL] at hc)|refine vJ fun hg=>?_|refine vK fun hg=>?_|refine vT ?_|refine vN ‹_› ?_|(refine vQ ?_ fun x hx=>?_;·first|omega|(simp only [vM] at *;omega))|((first|refine vO ?_ ?_|refine vR ?_ ‹_› ?_|refine vS ?_ fun x hx=>?_|refine vP ?_ ?_);·first|omega|(simp only [vM] at *;omega))|refine vW ⟨by omega,by omega⟩ ?_|(refine vU ?_ ?_;·kernel_rfl)|refine vX ?_|refine vY ?_|refine vZ ?_|refine za.mk _ ‹_› ?_|refine vP (show (_:BitVec 64)≠_ by decide) ?_));all_goals try conv=>whnf
  refine ⟨trivial,_,[(0,0)],[],rfl,.inl (by (repeat' first|exact trivial|exact rfl|exact ⟨_,rfl⟩|exact .inl rfl|exact .inr (.inl ⟨rfl,rfl⟩)|exact .inr (.inr ⟨rfl,rfl⟩)|refine And.intro ?_ ?_|refine ⟨_,rfl,?_⟩|decide|exact of_decide_eq_true rfl)),⟨by rfl,by rfl,by rfl,trivial,by (repeat' first|exact trivial|exact rfl|exact ⟨_,rfl⟩|exact .inl rfl|exact .inr (.inl ⟨rfl,rfl⟩)|exact .inr (.inr ⟨rfl,rfl⟩)|refine And.intro ?_ ?_|refine ⟨_,rfl,?_⟩|decide|exact of_decide_eq_true rfl)⟩,by (repeat' first|exact trivial|exact rfl|exact ⟨_,rfl⟩|exact .inl rfl|exact .inr (.inl ⟨rfl,rfl⟩)|exact .inr (.inr ⟨rfl,rfl⟩)|refine And.intro ?_ ?_|refine ⟨_,rfl,?_⟩|decide|exact of_decide_eq_true rfl)⟩
 all_goals (exfalso;omega)
theorem zpi (d:Array Tup) (hd : ∀ x∈d.toList,Sml x) (h12:d.size≤12):Fn Tryz.prog T zah [.own 0,.d (.fn zI [])] [zeX d] (.tup []) [some (zeX (Sort.sort ltT d))]:=by
 have hn:((BitVec.ofInt 64 (d.size:Int)).toNat)=d.size:=by simp;omega
 have hl:(d.toList.map dII).length=d.size:=by simp
 have hp:=zvN (T:=T) d hd h12 (Sort.bitsLen d.size)
 refine zaS zw zbq (by show 2≤14;decide) _ (fun e env mem n h=>h) ?_
 (repeat' ((conv=>whnf);first|refine vA ?_|refine vB fun b hb=>?_|refine vC (fun hl=>?_) fun i kv vv hi=>?_|refine vE ?_|refine vG ?_|refine vH ?_|((first|refine vD ?_ ?_|refine vF ?_ ?_|refine vI ?_ ?_)<;>intro hc<;>try simp only [vL] at hc)|refine vJ fun hg=>?_|refine vK fun hg=>?_|refine vT ?_|refine vN ‹_› ?_|(refine vQ ?_ fun x hx=>?_;·first|omega|(simp only [vM] at *;omega))|((first|refine vO ?_ ?_|refine vR ?_ ‹_› ?_|refine vS ?_ fun x hx=>?_|refine vP ?_ ?_);·first|omega|(simp only [vM] at *;omega))|refine vW ⟨by omega,by omega⟩ ?_|(refine vU ?_ ?_;·kernel_rfl)|refine vX ?_|refine vY ?_|refine vZ ?_|refine yD (zph _) ⟨⟨rfl,rfl⟩,rfl⟩ rfl ?_|refine za.mk _ ‹_› ?_|refine vP (show (_:BitVec 64)≠_ by decide) ?_));all_goals try conv=>whnf
 have e1:((d.toList.map dII).length:Int)=(d.size:Int):=by rw [hl]
 have e2:(Sort.bitsLen (BitVec.ofInt 64 ((d.toList.map dII).length:Int)).toNat:Int)=(Sort.bitsLen d.size:Int):=by rw [hl,hn]
 rw [← e1,← e2] at hp
 refine zaU.objs [0] (hp) (by (repeat' first|exact trivial|exact rfl|exact ⟨_,rfl⟩|exact .inl rfl|exact .inr (.inl ⟨rfl,rfl⟩)|exact .inr (.inr ⟨rfl,rfl⟩)|refine And.intro ?_ ?_|refine ⟨_,rfl,?_⟩|decide|exact of_decide_eq_true rfl)) (by (repeat' first|exact trivial|exact rfl|exact ⟨_,rfl⟩|exact .inl rfl|exact .inr (.inl ⟨rfl,rfl⟩)|exact .inr (.inr ⟨rfl,rfl⟩)|refine And.intro ?_ ?_|refine ⟨_,rfl,?_⟩|decide|exact of_decide_eq_true rfl)) (by rfl) (by rfl) (by simp) ?_
 (repeat' ((conv=>whnf);first|refine vA ?_|refine vB fun b hb=>?_|refine vC (fun hl=>?_) fun i kv vv hi=>?_|refine vE ?_|refine vG ?_|refine vH ?_|((first|refine vD ?_ ?_|refine vF ?_ ?_|refine vI ?_ ?_)<;>intro hc<;>try simp only [vL] at hc)|refine vJ fun hg=>?_|refine vK fun hg=>?_|refine vT ?_|refine vN ‹_› ?_|(refine vQ ?_ fun x hx=>?_;·first|omega|(simp only [vM] at *;omega))|((first|refine vO ?_ ?_|refine vR ?_ ‹_› ?_|refine vS ?_ fun x hx=>?_|refine vP ?_ ?_);·first|omega|(simp only [vM] at *;omega))|refine vW ⟨by omega,by omega⟩ ?_|(refine vU ?_ ?_;·kernel_rfl)|refine vX ?_|refine vY ?_|refine vZ ?_|refine za.mk _ ‹_› ?_|refine vP (show (_:BitVec 64)≠_ by decide) ?_));all_goals try conv=>whnf
 refine ⟨trivial,_,[(0,0)],[],rfl,.inl (by (repeat' first|exact trivial|exact rfl|exact ⟨_,rfl⟩|exact .inl rfl|exact .inr (.inl ⟨rfl,rfl⟩)|exact .inr (.inr ⟨rfl,rfl⟩)|refine And.intro ?_ ?_|refine ⟨_,rfl,?_⟩|decide|exact of_decide_eq_true rfl)),⟨by rfl,by rfl,by rfl,trivial,by (repeat' first|exact trivial|exact rfl|exact ⟨_,rfl⟩|exact .inl rfl|exact .inr (.inl ⟨rfl,rfl⟩)|exact .inr (.inr ⟨rfl,rfl⟩)|refine And.intro ?_ ?_|refine ⟨_,rfl,?_⟩|decide|exact of_decide_eq_true rfl)⟩,by (repeat' first|exact trivial|exact rfl|exact ⟨_,rfl⟩|exact .inl rfl|exact .inr (.inl ⟨rfl,rfl⟩)|exact .inr (.inr ⟨rfl,rfl⟩)|refine And.intro ?_ ?_|refine ⟨_,rfl,?_⟩|decide|exact of_decide_eq_true rfl)⟩
end Go.Ab
namespace Go.Ab
open Go Go.Proofs
set_option maxRecDepth 10000
set_option maxHeartbeats 4000000
variable {T:Nat→Obj→Prop}
theorem zpk (x y:Tup) (h:Sml x):Fn Tryz.prog T zbP [.d (dII x),.d (dII y)] [] (.d (.bool (decide (x=y)))) []:=by
 have cA:=zgh (T:=T) x y h
 refine zg zw zjV (by show 2≤9;decide) ?_
 (repeat' ((conv=>whnf);first|refine vA ?_|refine vB fun b hb=>?_|refine vC (fun hl=>?_) fun i kv vv hi=>?_|refine vE ?_|refine vG ?_|refine vH ?_|((first|refine vD ?_ ?_|refine vF ?_ ?_|refine vI ?_ ?_)<;>intro hc<;>try simp only [vL] at hc)|refine vJ fun hg=>?_|refine vK fun hg=>?_|refine vT ?_|refine vN ‹_› ?_|(refine vQ ?_ fun x hx=>?_;·first|omega|(simp only [vM] at *;omega))|((first|refine vO ?_ ?_|refine vR ?_ ‹_› ?_|refine vS ?_ fun x hx=>?_|refine vP ?_ ?_);·first|omega|(simp only [vM] at *;omega))|refine vW ⟨by omega,by omega⟩ ?_|(refine vU ?_ ?_;·kernel_rfl)|refine vX ?_|refine vY ?_|refine vZ ?_|refine yD cA ⟨⟨rfl,rfl⟩,⟨rfl,rfl⟩,rfl⟩ rfl ?_|refine za.mk _ ‹_› ?_|refine vP (show (_:BitVec 64)≠_ by decide) ?_));all_goals try conv=>whnf
 rw [Bool.eq_iff_iff,decide_eq_true_eq,decide_eq_true_eq];exact zZ.zero
abbrev fEq:D := .fn zbP []
theorem zqr (d:Array Tup) (hm : ∀ x∈d.toList,Sml x) (hs:d.size≤1000) (hd:Steps d):Fn Tryz.prog T zy [.own 0,.d fEq] [zeX d] (.own 1) [none,some (zeX d)]:=by
 have hln:d.toList.length=d.size:=Array.length_toList
 refine zaS zw zab (by show 2≤66;decide) _ (fun e env mem n h=>h) ?_
 (repeat' ((conv=>whnf);first|refine vA ?_|refine vB fun b hb=>?_|refine vC (fun hl=>?_) fun i kv vv hi=>?_|refine vE ?_|refine vG ?_|refine vH ?_|((first|refine vD ?_ ?_|refine vF ?_ ?_|refine vI ?_ ?_)<;>intro hc<;>try simp only [vL] at hc)|refine vJ fun hg=>?_|refine vK fun hg=>?_|refine vT ?_|refine vN ‹_› ?_|(refine vQ ?_ fun x hx=>?_;·first|omega|(simp only [vM] at *;omega))|((first|refine vO ?_ ?_|refine vR ?_ ‹_› ?_|refine vS ?_ fun x hx=>?_|refine vP ?_ ?_);·first|omega|(simp only [vM] at *;omega))|refine vW ⟨by omega,by omega⟩ ?_|(refine vU ?_ ?_;·kernel_rfl)|refine vX ?_|refine vY ?_|refine vZ ?_|refine za.mk _ ‹_› ?_|refine vP (show (_:BitVec 64)≠_ by decide) ?_));all_goals try conv=>whnf
 ·refine ⟨trivial,_,[(1,0)],[],rfl,.inl (by (repeat' first|exact trivial|exact rfl|exact ⟨_,rfl⟩|exact .inl rfl|exact .inr (.inl ⟨rfl,rfl⟩)|exact .inr (.inr ⟨rfl,rfl⟩)|refine And.intro ?_ ?_|refine ⟨_,rfl,?_⟩|decide|exact of_decide_eq_true rfl)),⟨by rfl,by rfl,by rfl,trivial,by (repeat' first|exact trivial|exact rfl|exact ⟨_,rfl⟩|exact .inl rfl|exact .inr (.inl ⟨rfl,rfl⟩)|exact .inr (.inr ⟨rfl,rfl⟩)|refine And.intro ?_ ?_|refine ⟨_,rfl,?_⟩|decide|exact of_decide_eq_true rfl)⟩,by (repeat' first|exact trivial|exact rfl|exact ⟨_,rfl⟩|exact .inl rfl|exact .inr (.inl ⟨rfl,rfl⟩)|exact .inr (.inr ⟨rfl,rfl⟩)|refine And.intro ?_ ?_|refine ⟨_,rfl,?_⟩|decide|exact of_decide_eq_true rfl)⟩
 refine zj (fun (i:Int)=>[(0,.own 0),(1,.d fEq),(5,.d (.int .i64 (i))),(zc,.own 0)]) (fun (i:Int)=>[(0,some (zeX d))]) 1 (fun (i:Int) => ∃ k:Nat,i=k∧0 < k∧k≤d.size) (fun (i:Int)=>(d.size - i).toNat) (1) [(0,0)] [] (⟨1,rfl,by omega,by omega⟩) (by (refine ⟨rfl,rfl,rfl,?_,?_⟩;repeat' first|exact trivial|exact rfl|exact ⟨_,rfl⟩|exact .inl rfl|exact .inr (.inl ⟨rfl,rfl⟩)|exact .inr (.inr ⟨rfl,rfl⟩)|refine And.intro ?_ ?_|refine ⟨_,rfl,?_⟩|decide|exact of_decide_eq_true rfl)) ?_
 rintro _ ⟨k,rfl,hk0,hk1⟩
 by_cases hkl:k < d.size
 ·have hx1:d.toList[k]? = some d[k]! := zbd hkl
  have hx2:d.toList[((k:Int) - 1).toNat]? = some d[k - 1]! := by rw [show ((k:Int) - 1).toNat=k - 1 by omega];exact zbd (by omega)
  have cA:=zpk (T:=T) d[k]! d[k - 1]! (hm _ (List.mem_of_getElem? hx1))
  (repeat' ((conv=>whnf);first|refine vA ?_|refine vB fun b hb=>?_|refine vC (fun hl=>?_) fun i kv vv hi=>?_|refine vE ?_|refine vG ?_|refine vH ?_|((first|refine vD ?_ ?_|refine vF ?_ ?_|refine vI ?_ ?_)<;>intro hc<;>try simp only [vL] at hc)|refine vJ fun hg=>?_|refine vK fun hg=>?_|refine vT ?_|refine vN ‹_› ?_|(refine vQ ?_ fun x hx=>?_;·first|omega|(simp only [vM] at *;omega))|((first|refine vO ?_ ?_|refine vR ?_ ‹_› ?_|refine vS ?_ fun x hx=>?_|refine vP ?_ ?_);·first|omega|(simp only [vM] at *;omega))|refine vW ⟨by omega,by omega⟩ ?_|(refine vU ?_ ?_;·kernel_rfl)|refine vX ?_|refine vY ?_|refine vZ ?_|refine yD cA ⟨⟨rfl,rfl⟩,⟨rfl,rfl⟩,rfl⟩ rfl ?_|refine za.mk _ ‹_› ?_|refine vP (show (_:BitVec 64)≠_ by decide) ?_));all_goals try conv=>whnf
  ·exact absurd ‹d[k]! = d[k - 1]!› (hd k hk0 hkl)
  ·refine ⟨_,[(0,0)],[],?_,?_,by (refine ⟨rfl,rfl,rfl,?_,?_⟩;repeat' first|exact trivial|exact rfl|exact ⟨_,rfl⟩|exact .inl rfl|exact .inr (.inl ⟨rfl,rfl⟩)|exact .inr (.inr ⟨rfl,rfl⟩)|refine And.intro ?_ ?_|refine ⟨_,rfl,?_⟩|decide|exact of_decide_eq_true rfl)⟩
   ·exact ⟨k+1,by omega,by omega,by omega⟩
   ·(first|omega|(simp only [vM] at *;omega))
  ·exfalso;omega
 ·(repeat' ((conv=>whnf);first|refine vA ?_|refine vB fun b hb=>?_|refine vC (fun hl=>?_) fun i kv vv hi=>?_|refine vE ?_|refine vG ?_|refine vH ?_|((first|refine vD ?_ ?_|refine vF ?_ ?_|refine vI ?_ ?_)<;>intro hc<;>try simp only [vL] at hc)|refine vJ fun hg=>?_|refine vK fun hg=>?_|refine vT ?_|refine vN ‹_› ?_|(refine vQ ?_ fun x hx=>?_;·first|omega|(simp only [vM] at *;omega))|((first|refine vO ?_ ?_|refine vR ?_ ‹_› ?_|refine vS ?_ fun x hx=>?_|refine vP ?_ ?_);·first|omega|(simp only [vM] at *;omega))|refine vW ⟨by omega,by omega⟩ ?_|(refine vU ?_ ?_;·kernel_rfl)|refine vX ?_|refine vY ?_|refine vZ ?_|refine za.mk _ ‹_› ?_|refine vP (show (_:BitVec 64)≠_ by decide) ?_));all_goals try conv=>whnf
  ·exfalso;omega
  ·refine ⟨trivial,_,[(1,0)],[],rfl,.inl (by (repeat' first|exact trivial|exact rfl|exact ⟨_,rfl⟩|exact .inl rfl|exact .inr (.inl ⟨rfl,rfl⟩)|exact .inr (.inr ⟨rfl,rfl⟩)|refine And.intro ?_ ?_|refine ⟨_,rfl,?_⟩|decide|exact of_decide_eq_true rfl)),⟨by rfl,by rfl,by rfl,trivial,by (repeat' first|exact trivial|exact rfl|exact ⟨_,rfl⟩|exact .inl rfl|exact .inr (.inl ⟨rfl,rfl⟩)|exact .inr (.inr ⟨rfl,rfl⟩)|refine And.intro ?_ ?_|refine ⟨_,rfl,?_⟩|decide|exact of_decide_eq_true rfl)⟩,by (repeat' first|exact trivial|exact rfl|exact ⟨_,rfl⟩|exact .inl rfl|exact .inr (.inl ⟨rfl,rfl⟩)|exact .inr (.inr ⟨rfl,rfl⟩)|refine And.intro ?_ ?_|refine ⟨_,rfl,?_⟩|decide|exact of_decide_eq_true rfl)⟩
theorem zpf (d:Array Tup) (hm : ∀ x∈d.toList,Sml x) (hs:d.size≤1000) (hd : ¬Steps d):Fn Tryz.prog T zy [.own 0,.d fEq] [zeX d] (.own 1) [none,some (.row 1 ((ddA d d.size).map dII))]:=by
 generalize hR:(ddA d d.size).map dII=R
 have hln:d.toList.length=d.size:=Array.length_toList
 refine zaS zw zab (by show 2≤66;decide) _ (fun e env mem n h=>h) ?_
 (repeat' ((conv=>whnf);first|refine vA ?_|refine vB fun b hb=>?_|refine vC (fun hl=>?_) fun i kv vv hi=>?_|refine vE ?_|refine vG ?_|refine vH ?_|((first|refine vD ?_ ?_|refine vF ?_ ?_|refine vI ?_ ?_)<;>intro hc<;>try simp only [vL] at hc)|refine vJ fun hg=>?_|refine vK fun hg=>?_|refine vT ?_|refine vN ‹_› ?_|(refine vQ ?_ fun x hx=>?_;·first|omega|(simp only [vM] at *;omega))|((first|refine vO ?_ ?_|refine vR ?_ ‹_› ?_|refine vS ?_ fun x hx=>?_|refine vP ?_ ?_);·first|omega|(simp only [vM] at *;omega))|refine vW ⟨by omega,by omega⟩ ?_|(refine vU ?_ ?_;·kernel_rfl)|refine vX ?_|refine vY ?_|refine vZ ?_|refine za.mk _ ‹_› ?_|refine vP (show (_:BitVec 64)≠_ by decide) ?_));all_goals try conv=>whnf
 ·exact absurd (fun j hj0 hj1=>by omega) hd
 refine zj (fun (i:Int)=>[(0,.own 0),(1,.d fEq),(5,.d (.int .i64 (i))),(zc,.own 0)]) (fun (i:Int)=>[(0,some (zeX d))]) 1 (fun (i:Int) => ∃ k:Nat,i=k∧0 < k∧k≤d.size ∧ ∀ j,0 < j→j < k→d[j]! ≠ d[j - 1]!) (fun (i:Int)=>(d.size - i).toNat) (1) [(0,0)] [] (⟨1,rfl,by omega,by omega,fun j _ _=>by omega⟩) (by (refine ⟨rfl,rfl,rfl,?_,?_⟩;repeat' first|exact trivial|exact rfl|exact ⟨_,rfl⟩|exact .inl rfl|exact .inr (.inl ⟨rfl,rfl⟩)|exact .inr (.inr ⟨rfl,rfl⟩)|refine And.intro ?_ ?_|refine ⟨_,rfl,?_⟩|decide|exact of_decide_eq_true rfl)) ?_
 rintro _ ⟨k,rfl,hk0,hk1,hk⟩
 by_cases hkl:k < d.size
 ·have hx1:d.toList[k]? = some d[k]! := zbd hkl
  have hx2:d.toList[((k:Int) - 1).toNat]? = some d[k - 1]! := by rw [show ((k:Int) - 1).toNat=k - 1 by omega];exact zbd (by omega)
  have cA:=zpk (T:=T) d[k]! d[k - 1]! (hm _ (List.mem_of_getElem? hx1))
  (repeat' ((conv=>whnf);first|refine vA ?_|refine vB fun b hb=>?_|refine vC (fun hl=>?_) fun i kv vv hi=>?_|refine vE ?_|refine vG ?_|refine vH ?_|((first|refine vD ?_ ?_|refine vF ?_ ?_|refine vI ?_ ?_)<;>intro hc<;>try simp only [vL] at hc)|refine vJ fun hg=>?_|refine vK fun hg=>?_|refine vT ?_|refine vN ‹_› ?_|(refine vQ ?_ fun x hx=>?_;·first|omega|(simp only [vM] at *;omega))|((first|refine vO ?_ ?_|refine vR ?_ ‹_› ?_|refine vS ?_ fun x hx=>?_|refine vP ?_ ?_);·first|omega|(simp only [vM] at *;omega))|refine vW ⟨by omega,by omega⟩ ?_|(refine vU ?_ ?_;·kernel_rfl)|refine vX ?_|refine vY ?_|refine vZ ?_|refine yD cA ⟨⟨rfl,rfl⟩,⟨rfl,rfl⟩,rfl⟩ rfl ?_|refine za.mk _ ‹_› ?_|refine vP (show (_:BitVec 64)≠_ by decide) ?_));all_goals try conv=>whnf
  ·have hkk:d[k]! = d[k - 1]! := ‹_›
   refine zj (fun ((w,q,xs):Int×Int×List D)=>[(0,.own 0),(1,.d fEq),(5,.d (.int .i64 (w))),(6,.view 0 k ((d.toList.map dII).length - k)),(7,.d (.int .i64 (q))),(zc,.own 0)]) (fun ((w,q,xs):Int×Int×List D)=>[(0,some (.row 1 xs))]) 1 (fun ((w,q,xs):Int×Int×List D) => ∃ (a b:Nat) (e:Array Tup),w=a∧q=b∧xs=e.toList.map dII∧0 < b∧k+b≤d.size∧a < k+b∧e.size=d.size∧e.toList.take a=ddA d (k+b) ∧ ∀ j,k+b - 1≤j→j < d.size→e[j]! = d[j]!) (fun ((w,q,xs):Int×Int×List D)=>(d.size - k - q).toNat) (((k:Int),(1:Int),d.toList.map dII)) [(0,0)] [] (⟨k,1,d,rfl,rfl,rfl,by omega,by omega,by omega,rfl,zoZ hk0 hkl hk hkk,fun _ _ _=>rfl⟩) (by (refine ⟨rfl,rfl,rfl,?_,?_⟩;repeat' first|exact trivial|exact rfl|exact ⟨_,rfl⟩|exact .inl rfl|exact .inr (.inl ⟨rfl,rfl⟩)|exact .inr (.inr ⟨rfl,rfl⟩)|refine And.intro ?_ ?_|refine ⟨_,rfl,?_⟩|decide|exact of_decide_eq_true rfl)) ?_
   rintro ⟨_,_,_⟩ ⟨a,b,e,rfl,rfl,rfl,hb0,hb1,hab,he,ha,hj⟩
   have hle:e.toList.length=e.size:=Array.length_toList
   by_cases hbl:k+b < d.size
   ·have hy1:e.toList[k+((b:Nat):Int).toNat]? = some e[k+b]! := by rw [Int.toNat_natCast];exact zbd (by omega)
    have hy2:e.toList[k+(((b:Nat):Int) - 1).toNat]? = some e[k+b - 1]! := by rw [show k+(((b:Nat):Int) - 1).toNat=k+b - 1 by omega];exact zbd (by omega)
    have e1:=hj (k+b) (by omega) (by omega)
    have e2:=hj (k+b - 1) (by omega) (by omega)
    have cC:=zpk (T:=T) e[k+b]! e[k+b - 1]! (by rw [e1];exact hm _ (List.mem_of_getElem? (zbd hbl)))
    (repeat' ((conv=>whnf);first|refine vA ?_|refine vB fun b hb=>?_|refine vC (fun hl=>?_) fun i kv vv hi=>?_|refine vE ?_|refine vG ?_|refine vH ?_|((first|refine vD ?_ ?_|refine vF ?_ ?_|refine vI ?_ ?_)<;>intro hc<;>try simp only [vL] at hc)|refine vJ fun hg=>?_|refine vK fun hg=>?_|refine vT ?_|refine vN ‹_› ?_|(refine vQ ?_ fun x hx=>?_;·first|omega|(simp only [vM] at *;omega))|((first|refine vO ?_ ?_|refine vR ?_ ‹_› ?_|refine vS ?_ fun x hx=>?_|refine vP ?_ ?_);·first|omega|(simp only [vM] at *;omega))|refine vW ⟨by omega,by omega⟩ ?_|(refine vU ?_ ?_;·kernel_rfl)|refine vX ?_|refine vY ?_|refine vZ ?_|refine yD cC ⟨⟨rfl,rfl⟩,⟨rfl,rfl⟩,rfl⟩ rfl ?_|refine za.mk _ ‹_› ?_|refine vP (show (_:BitVec 64)≠_ by decide) ?_));all_goals try conv=>whnf
    ·refine ⟨(_,_,_),[(0,0)],[],?_,?_,by (refine ⟨rfl,rfl,rfl,?_,?_⟩;repeat' first|exact trivial|exact rfl|exact ⟨_,rfl⟩|exact .inl rfl|exact .inr (.inl ⟨rfl,rfl⟩)|exact .inr (.inr ⟨rfl,rfl⟩)|refine And.intro ?_ ?_|refine ⟨_,rfl,?_⟩|decide|exact of_decide_eq_true rfl)⟩
     ·exact ⟨a,b+1,e,rfl,by omega,rfl,by omega,by omega,by omega,he,
       by rw [ha,← Nat.add_assoc,zq5 (by omega) (by rw [← e1,← e2];assumption)],
       fun j h0 h1=>hj j (by omega) h1⟩
     ·(first|omega|(simp only [vM] at *;omega))
    ·refine ⟨(_,_,_),[(0,0)],[],?_,?_,by (refine ⟨rfl,rfl,rfl,?_,?_⟩;repeat' first|exact trivial|exact rfl|exact ⟨_,rfl⟩|exact .inl rfl|exact .inr (.inl ⟨rfl,rfl⟩)|exact .inr (.inr ⟨rfl,rfl⟩)|refine And.intro ?_ ?_|refine ⟨_,rfl,?_⟩|decide|exact of_decide_eq_true rfl)⟩
     ·exact ⟨a+1,b+1,e.setIfInBounds a e[k+b]!,by omega,by omega,by simp [List.map_set],by omega,by omega,by omega,by simp [he],
       by rw [zp7 (by omega),ha,← Nat.add_assoc,zsN (by rw [← e1,← e2];assumption),e1],
       fun j h0 h1=>by rw [zrk (by omega)];exact hj j (by omega) h1⟩
     ·(first|omega|(simp only [vM] at *;omega))
    ·exfalso;omega
   ·(repeat' ((conv=>whnf);first|refine vA ?_|refine vB fun b hb=>?_|refine vC (fun hl=>?_) fun i kv vv hi=>?_|refine vE ?_|refine vG ?_|refine vH ?_|((first|refine vD ?_ ?_|refine vF ?_ ?_|refine vI ?_ ?_)<;>intro hc<;>try simp only [vL] at hc)|refine vJ fun hg=>?_|refine vK fun hg=>?_|refine vT ?_|refine vN ‹_› ?_|(refine vQ ?_ fun x hx=>?_;·first|omega|(simp only [vM] at *;omega))|((first|refine vO ?_ ?_|refine vR ?_ ‹_› ?_|refine vS ?_ fun x hx=>?_|refine vP ?_ ?_);·first|omega|(simp only [vM] at *;omega))|refine vW ⟨by omega,by omega⟩ ?_|(refine vU ?_ ?_;·kernel_rfl)|refine vX ?_|refine vY ?_|refine vZ ?_|refine za.mk _ ‹_› ?_|refine vP (show (_:BitVec 64)≠_ by decide) ?_));all_goals try conv=>whnf
    ·exfalso;omega
    ·have hE:=zq3 (enc:=dII) (e:=e) (z:=D.arr 1 []) (a:=a) (n:=(e.toList.map dII).length - a) (by omega)
     rw [ha,show k+b=d.size by omega,hR] at hE
     subst hE
     refine zlW.mk (by simp only [List.length_append,List.length_take,List.length_replicate,List.length_drop,List.length_map,hle];omega) ?_
     (repeat' ((conv=>whnf);first|refine vA ?_|refine vB fun b hb=>?_|refine vC (fun hl=>?_) fun i kv vv hi=>?_|refine vE ?_|refine vG ?_|refine vH ?_|((first|refine vD ?_ ?_|refine vF ?_ ?_|refine vI ?_ ?_)<;>intro hc<;>try simp only [vL] at hc)|refine vJ fun hg=>?_|refine vK fun hg=>?_|refine vT ?_|refine vN ‹_› ?_|(refine vQ ?_ fun x hx=>?_;·first|omega|(simp only [vM] at *;omega))|((first|refine vO ?_ ?_|refine vR ?_ ‹_› ?_|refine vS ?_ fun x hx=>?_|refine vP ?_ ?_);·first|omega|(simp only [vM] at *;omega))|refine vW ⟨by omega,by omega⟩ ?_|(refine vU ?_ ?_;·kernel_rfl)|refine vX ?_|refine vY ?_|refine vZ ?_|refine za.mk _ ‹_› ?_|refine vP (show (_:BitVec 64)≠_ by decide) ?_));all_goals try conv=>whnf
     refine ⟨trivial,_,[(1,1)],[],rfl,.inl (by (repeat' first|exact trivial|exact rfl|exact ⟨_,rfl⟩|exact .inl rfl|exact .inr (.inl ⟨rfl,rfl⟩)|exact .inr (.inr ⟨rfl,rfl⟩)|refine And.intro ?_ ?_|refine ⟨_,rfl,?_⟩|decide|exact of_decide_eq_true rfl)),⟨by rfl,by rfl,by rfl,trivial,by (repeat' first|exact trivial|exact rfl|exact ⟨_,rfl⟩|exact .inl rfl|exact .inr (.inl ⟨rfl,rfl⟩)|exact .inr (.inr ⟨rfl,rfl⟩)|refine And.intro ?_ ?_|refine ⟨_,rfl,?_⟩|decide|exact of_decide_eq_true rfl)⟩,by (repeat' first|exact trivial|exact rfl|exact ⟨_,rfl⟩|exact .inl rfl|exact .inr (.inl ⟨rfl,rfl⟩)|exact .inr (.inr ⟨rfl,rfl⟩)|refine And.intro ?_ ?_|refine ⟨_,rfl,?_⟩|decide|exact of_decide_eq_true rfl)⟩
  ·refine ⟨_,[(0,0)],[],?_,?_,by (refine ⟨rfl,rfl,rfl,?_,?_⟩;repeat' first|exact trivial|exact rfl|exact ⟨_,rfl⟩|exact .inl rfl|exact .inr (.inl ⟨rfl,rfl⟩)|exact .inr (.inr ⟨rfl,rfl⟩)|refine And.intro ?_ ?_|refine ⟨_,rfl,?_⟩|decide|exact of_decide_eq_true rfl)⟩
   ·exact ⟨k+1,by omega,by omega,by omega,fun j h0 h1=>by
     by_cases hjk:j=k
     ·subst hjk;assumption
     ·exact hk j h0 (by omega)⟩
   ·(first|omega|(simp only [vM] at *;omega))
  ·exfalso;omega
 ·(repeat' ((conv=>whnf);first|refine vA ?_|refine vB fun b hb=>?_|refine vC (fun hl=>?_) fun i kv vv hi=>?_|refine vE ?_|refine vG ?_|refine vH ?_|((first|refine vD ?_ ?_|refine vF ?_ ?_|refine vI ?_ ?_)<;>intro hc<;>try simp only [vL] at hc)|refine vJ fun hg=>?_|refine vK fun hg=>?_|refine vT ?_|refine vN ‹_› ?_|(refine vQ ?_ fun x hx=>?_;·first|omega|(simp only [vM] at *;omega))|((first|refine vO ?_ ?_|refine vR ?_ ‹_› ?_|refine vS ?_ fun x hx=>?_|refine vP ?_ ?_);·first|omega|(simp only [vM] at *;omega))|refine vW ⟨by omega,by omega⟩ ?_|(refine vU ?_ ?_;·kernel_rfl)|refine vX ?_|refine vY ?_|refine vZ ?_|refine za.mk _ ‹_› ?_|refine vP (show (_:BitVec 64)≠_ by decide) ?_));all_goals try conv=>whnf
  ·exfalso;omega
  ·exact absurd (fun j h0 h1=>hk j h0 (by omega)) hd
theorem zur (d:Array Tup) (hm : ∀ x∈d.toList,Sml x) (hs:d.size≤1000):Fn Tryz.prog T zy [.own 0,.d fEq] [zeX d] (.own 1) [none,some (.row 1 ((ddA d d.size).map dII))]:=by
 by_cases hd:Steps d
 ·have:=zqr (T:=T) d hm hs hd
  rw [zkr (Nat.le_refl _) hd,List.take_of_length_le (by rw [Array.length_toList];exact Nat.le_refl _)]
  exact this
 ·exact zpf d hm hs hd
theorem zsS (ts:List Tup) (h:ts≠[]) (hl:ts.length≤1000):Fn Tryz.prog T zU [.d (.arr 1 (ts.map dII))] [] (.own 0) [some (.row 1 (ts.map dII))]:=by
 refine zaS zw zbG (by show 1≤8;decide) _ (fun e env mem n h=>h) ?_
 (repeat' ((conv=>whnf);first|refine vA ?_|refine vB fun b hb=>?_|refine vC (fun hl=>?_) fun i kv vv hi=>?_|refine vE ?_|refine vG ?_|refine vH ?_|((first|refine vD ?_ ?_|refine vF ?_ ?_|refine vI ?_ ?_)<;>intro hc<;>try simp only [vL] at hc)|refine vJ fun hg=>?_|refine vK fun hg=>?_|refine vT ?_|refine vN ‹_› ?_|(refine vQ ?_ fun x hx=>?_;·first|omega|(simp only [vM] at *;omega))|((first|refine vO ?_ ?_|refine vR ?_ ‹_› ?_|refine vS ?_ fun x hx=>?_|refine vP ?_ ?_);·first|omega|(simp only [vM] at *;omega))|refine vW ⟨by omega,by omega⟩ ?_|(refine vU ?_ ?_;·kernel_rfl)|refine vX ?_|refine vY ?_|refine vZ ?_|refine za.mk _ ‹_› ?_|refine vP (show (_:BitVec 64)≠_ by decide) ?_));all_goals try conv=>whnf
 ·refine ⟨trivial,_,[(0,1)],[],rfl,.inl (by (repeat' first|exact trivial|exact rfl|exact ⟨_,rfl⟩|exact .inl rfl|exact .inr (.inl ⟨rfl,rfl⟩)|exact .inr (.inr ⟨rfl,rfl⟩)|refine And.intro ?_ ?_|refine ⟨_,rfl,?_⟩|decide|exact of_decide_eq_true rfl)),⟨by rfl,by rfl,by rfl,trivial,by (repeat' first|exact trivial|exact rfl|exact ⟨_,rfl⟩|exact .inl rfl|exact .inr (.inl ⟨rfl,rfl⟩)|exact .inr (.inr ⟨rfl,rfl⟩)|refine And.intro ?_ ?_|refine ⟨_,rfl,?_⟩|decide|exact of_decide_eq_true rfl)⟩,by (repeat' first|exact trivial|exact rfl|exact ⟨_,rfl⟩|exact .inl rfl|exact .inr (.inl ⟨rfl,rfl⟩)|exact .inr (.inr ⟨rfl,rfl⟩)|refine And.intro ?_ ?_|refine ⟨_,rfl,?_⟩|decide|exact of_decide_eq_true rfl)⟩
 ·exact absurd (List.map_eq_nil_iff.1 (hb (by simpa using hc))) h
theorem zwq (S:List Tup) (ts:List Tup) (hS:zbI ts S) (hl:S.length≤1000) (hm : ∀ x∈S,Sml x) (t:Tup) :
  ∃ b:Bool,Fn Tryz.prog T zO [.d (.arr 1 (S.map dII)),.d (dII t),.d (.fn zI [])] [] (.d (.tup [.int .i64 (rkN ts t:Int),.bool b])) []:=by
 have key : ∀ i:Nat,i≤S.length→(∀ (k:Nat) x,k < i→S[k]? = some x→z7 x t < 0)→(∀ (k:Nat) x,i≤k→S[k]? = some x → ¬z7 x t < 0)→i=rkN ts t:=fun i h1 h2 h3=>hS.rk h1 h2 h3
 refine ⟨decide (rkN ts t < S.length∧z7 (S.getD (rkN ts t) []) t=0),?_⟩
 refine zg zw zaj (by show 3≤49;decide) ?_
 (repeat' ((conv=>whnf);first|refine vA ?_|refine vB fun b hb=>?_|refine vC (fun hl=>?_) fun i kv vv hi=>?_|refine vE ?_|refine vG ?_|refine vH ?_|((first|refine vD ?_ ?_|refine vF ?_ ?_|refine vI ?_ ?_)<;>intro hc<;>try simp only [vL] at hc)|refine vJ fun hg=>?_|refine vK fun hg=>?_|refine vT ?_|refine vN ‹_› ?_|(refine vQ ?_ fun x hx=>?_;·first|omega|(simp only [vM] at *;omega))|((first|refine vO ?_ ?_|refine vR ?_ ‹_› ?_|refine vS ?_ fun x hx=>?_|refine vP ?_ ?_);·first|omega|(simp only [vM] at *;omega))|refine vW ⟨by omega,by omega⟩ ?_|(refine vU ?_ ?_;·kernel_rfl)|refine vX ?_|refine vY ?_|refine vZ ?_|refine za.mk _ ‹_› ?_|refine vP (show (_:BitVec 64)≠_ by decide) ?_));all_goals try conv=>whnf
 refine zW (fun ((i,j):Nat×Nat)=>[(0,.d (.arr 1 (S.map dII))),(1,.d (dII t)),(2,.d (.fn zI [])),(8,.d (.int .i64 ((S.map dII).length:Int))),(9,.d (.int .i64 ((i:Int)))),(10,.d (.int .i64 ((j:Int))))]) (fun ((i,j):Nat×Nat)=>i≤j∧j≤S.length∧(∀ (k:Nat) x,k < i→S[k]? = some x→z7 x t < 0)∧(∀ (k:Nat) x,j≤k→S[k]? = some x → ¬z7 x t < 0)) (fun ((i,j):Nat×Nat)=>j - i) ((0,(S.map dII).length)) (⟨by omega,by simp,fun k x hk=>by omega,fun k x hk hx=>by have:=(List.getElem?_eq_some_iff.1 hx).1;simp at hk;omega⟩) (by (repeat' first|exact trivial|exact rfl|exact ⟨_,rfl⟩|exact .inl rfl|exact .inr (.inl ⟨rfl,rfl⟩)|exact .inr (.inr ⟨rfl,rfl⟩)|refine And.intro ?_ ?_|refine ⟨_,rfl,?_⟩|decide|exact of_decide_eq_true rfl)) ?_
 rintro ⟨i,j⟩ ⟨hij,hj,h1,h2⟩
 by_cases hlt:i < j
 ·have hh:(i+j) / 2 < S.length:=by omega
  have e2:(BitVec.ofInt 64 ((i:Int)+(j:Int)) >>> BitVec.toNat (1:BitVec 64)).toNat=(i+j) / 2:=by
   rw [BitVec.toNat_ushiftRight,show BitVec.toNat (1:BitVec 64)=1 from rfl,show ((i:Int)+(j:Int))=((i+j:Nat):Int) by omega,ztk (by omega),Nat.shiftRight_eq_div_pow,Nat.pow_one]
  have hx:S[(BitVec.ofInt 64 ((i:Int)+(j:Int)) >>> BitVec.toNat (1:BitVec 64)).toNat]? = some (S.getD ((i+j) / 2) []):=by rw [e2];exact zaZ hh
  have hx':=zaZ (d:=[]) hh
  have cA:=zgh (T:=T) (S.getD ((i+j) / 2) []) t (hm _ (List.mem_of_getElem? hx))
  (repeat' ((conv=>whnf);first|refine vA ?_|refine vB fun b hb=>?_|refine vC (fun hl=>?_) fun i kv vv hi=>?_|refine vE ?_|refine vG ?_|refine vH ?_|((first|refine vD ?_ ?_|refine vF ?_ ?_|refine vI ?_ ?_)<;>intro hc<;>try simp only [vL] at hc)|refine vJ fun hg=>?_|refine vK fun hg=>?_|refine vT ?_|refine vN ‹_› ?_|(refine vQ ?_ fun x hx=>?_;·first|omega|(simp only [vM] at *;omega))|((first|refine vO ?_ ?_|refine vR ?_ ‹_› ?_|refine vS ?_ fun x hx=>?_|refine vP ?_ ?_);·first|omega|(simp only [vM] at *;omega))|refine vW ⟨by omega,by omega⟩ ?_|(refine vU ?_ ?_;·kernel_rfl)|refine vX ?_|refine vY ?_|refine vZ ?_|refine yD cA ⟨⟨rfl,rfl⟩,⟨rfl,rfl⟩,rfl⟩ rfl ?_|refine za.mk _ ‹_› ?_|refine vP (show (_:BitVec 64)≠_ by decide) ?_));all_goals try conv=>whnf
  ·refine ⟨((BitVec.ofInt 64 ((i:Int)+(j:Int)) >>> BitVec.toNat (1:BitVec 64)).toNat+1,j),[],[],?_,?_,by (refine ⟨rfl,rfl,rfl,?_,?_⟩;repeat' first|exact trivial|exact rfl|exact ⟨_,rfl⟩|exact .inl rfl|exact .inr (.inl ⟨rfl,rfl⟩)|exact .inr (.inr ⟨rfl,rfl⟩)|refine And.intro ?_ ?_|refine ⟨_,rfl,?_⟩|decide|exact of_decide_eq_true rfl)⟩
   ·rw [e2]
    refine ⟨by omega,hj,fun k x hk hxk=>?_,h2⟩
    by_cases e:k=(i+j) / 2
    ·subst e;rw [hx'] at hxk;cases hxk;assumption
    ·by_cases e':k < (i+j) / 2
     ·exact hS.lt_of hx' hxk (by omega) ‹_›
     ·exfalso;omega
   ·(first|omega|(simp only [vM] at *;omega))
  ·refine ⟨(i,(BitVec.ofInt 64 ((i:Int)+(j:Int)) >>> BitVec.toNat (1:BitVec 64)).toNat),[],[],?_,?_,by (refine ⟨rfl,rfl,rfl,?_,?_⟩;repeat' first|exact trivial|exact rfl|exact ⟨_,rfl⟩|exact .inl rfl|exact .inr (.inl ⟨rfl,rfl⟩)|exact .inr (.inr ⟨rfl,rfl⟩)|refine And.intro ?_ ?_|refine ⟨_,rfl,?_⟩|decide|exact of_decide_eq_true rfl)⟩
   ·rw [e2]
    refine ⟨by omega,by omega,h1,fun k x hk hxk hlk=>?_⟩
    have:=hS.lt_of hxk hx' hk hlk
    omega
   ·(first|omega|(simp only [vM] at *;omega))
  iterate 2 (exfalso;omega)
 ·have e0:j=i:=by omega
  subst e0
  have ek:=key j hj h1 h2
  by_cases hjl:j < S.length
  ·have hx:=zaZ (d:=[]) hjl
   have cA:=zgh (T:=T) (S.getD j []) t (hm _ (List.mem_of_getElem? hx))
   (repeat' ((conv=>whnf);first|refine vA ?_|refine vB fun b hb=>?_|refine vC (fun hl=>?_) fun i kv vv hi=>?_|refine vE ?_|refine vG ?_|refine vH ?_|((first|refine vD ?_ ?_|refine vF ?_ ?_|refine vI ?_ ?_)<;>intro hc<;>try simp only [vL] at hc)|refine vJ fun hg=>?_|refine vK fun hg=>?_|refine vT ?_|refine vN ‹_› ?_|(refine vQ ?_ fun x hx=>?_;·first|omega|(simp only [vM] at *;omega))|((first|refine vO ?_ ?_|refine vR ?_ ‹_› ?_|refine vS ?_ fun x hx=>?_|refine vP ?_ ?_);·first|omega|(simp only [vM] at *;omega))|refine vW ⟨by omega,by omega⟩ ?_|(refine vU ?_ ?_;·kernel_rfl)|refine vX ?_|refine vY ?_|refine vZ ?_|refine yD cA ⟨⟨rfl,rfl⟩,⟨rfl,rfl⟩,rfl⟩ rfl ?_|refine za.mk _ ‹_› ?_|refine vP (show (_:BitVec 64)≠_ by decide) ?_));all_goals try conv=>whnf
   ·exfalso;omega
   ·show some (D.tup [.int .i64 (j:Int),.bool (decide (z7 (S.getD j []) t=0))])=_
    rw [← ek];simp [hjl]
   ·exfalso;omega
  ·(repeat' ((conv=>whnf);first|refine vA ?_|refine vB fun b hb=>?_|refine vC (fun hl=>?_) fun i kv vv hi=>?_|refine vE ?_|refine vG ?_|refine vH ?_|((first|refine vD ?_ ?_|refine vF ?_ ?_|refine vI ?_ ?_)<;>intro hc<;>try simp only [vL] at hc)|refine vJ fun hg=>?_|refine vK fun hg=>?_|refine vT ?_|refine vN ‹_› ?_|(refine vQ ?_ fun x hx=>?_;·first|omega|(simp only [vM] at *;omega))|((first|refine vO ?_ ?_|refine vR ?_ ‹_› ?_|refine vS ?_ fun x hx=>?_|refine vP ?_ ?_);·first|omega|(simp only [vM] at *;omega))|refine vW ⟨by omega,by omega⟩ ?_|(refine vU ?_ ?_;·kernel_rfl)|refine vX ?_|refine vY ?_|refine vZ ?_|refine za.mk _ ‹_› ?_|refine vP (show (_:BitVec 64)≠_ by decide) ?_));all_goals try conv=>whnf
   iterate 2 (exfalso;omega)
   show some (D.tup [.int .i64 (j:Int),.bool false])=_
   rw [← ek];simp [hjl]
theorem zsX (ts:List Tup) (h0:ts≠[]) (h12:ts.length≤12) (hm : ∀ x∈ts,Sml x):Fn Tryz.prog T zdZ [.d (.arr 1 (ts.map dII))] [] (.d (.tup [dN (ts.map (rkN ts)),.int .i64 (cnN ts:Int)])) []:=by
 have c1:=zsS (T:=T) ts h0 (by omega)
 have c2:=zpi (T:=T) ts.toArray hm (by simpa using h12)
 have hS:=zsq (ts:=ts) rfl
 have hp:=zoe ts.toArray
 have hms : ∀ x∈(Sort.sort ltT ts.toArray).toList,Sml x:=fun x hx=>hm x (hp.mem_iff.1 hx)
 have hsz:(Sort.sort ltT ts.toArray).size=ts.length:=by have:=hp.length_eq;simpa using this
 generalize Sort.sort ltT ts.toArray=A at c2 hS hp hms hsz
 have hmd : ∀ x∈ddA A A.size,Sml x:=fun x hx=>hm x ((hS.mem x).1 hx)
 have hcn:=hS.cnt
 have hle:=hS.le
 have cb:=fun t=>zwq (T:=T) (ddA A A.size) ts hS (by omega) hmd t
 have c3:=zur (T:=T) A hms (by omega)
 generalize ddA A A.size=S at hS hmd hcn hle cb c3
 refine zg zw zlD (by show 1≤37;decide) ?_
 (repeat' ((conv=>whnf);first|refine vA ?_|refine vB fun b hb=>?_|refine vC (fun hl=>?_) fun i kv vv hi=>?_|refine vE ?_|refine vG ?_|refine vH ?_|((first|refine vD ?_ ?_|refine vF ?_ ?_|refine vI ?_ ?_)<;>intro hc<;>try simp only [vL] at hc)|refine vJ fun hg=>?_|refine vK fun hg=>?_|refine vT ?_|refine vN ‹_› ?_|(refine vQ ?_ fun x hx=>?_;·first|omega|(simp only [vM] at *;omega))|((first|refine vO ?_ ?_|refine vR ?_ ‹_› ?_|refine vS ?_ fun x hx=>?_|refine vP ?_ ?_);·first|omega|(simp only [vM] at *;omega))|refine vW ⟨by omega,by omega⟩ ?_|(refine vU ?_ ?_;·kernel_rfl)|refine vX ?_|refine vY ?_|refine vZ ?_|refine za.mk _ ‹_› ?_|refine vP (show (_:BitVec 64)≠_ by decide) ?_));all_goals try conv=>whnf
 refine zaU.res (c1) (by (repeat refine ⟨⟨rfl,rfl⟩,?_⟩);rfl) ?_
 (repeat' ((conv=>whnf);first|refine vA ?_|refine vB fun b hb=>?_|refine vC (fun hl=>?_) fun i kv vv hi=>?_|refine vE ?_|refine vG ?_|refine vH ?_|((first|refine vD ?_ ?_|refine vF ?_ ?_|refine vI ?_ ?_)<;>intro hc<;>try simp only [vL] at hc)|refine vJ fun hg=>?_|refine vK fun hg=>?_|refine vT ?_|refine vN ‹_› ?_|(refine vQ ?_ fun x hx=>?_;·first|omega|(simp only [vM] at *;omega))|((first|refine vO ?_ ?_|refine vR ?_ ‹_› ?_|refine vS ?_ fun x hx=>?_|refine vP ?_ ?_);·first|omega|(simp only [vM] at *;omega))|refine vW ⟨by omega,by omega⟩ ?_|(refine vU ?_ ?_;·kernel_rfl)|refine vX ?_|refine vY ?_|refine vZ ?_|refine za.mk _ ‹_› ?_|refine vP (show (_:BitVec 64)≠_ by decide) ?_));all_goals try conv=>whnf
 refine zaU.objs [0] (c2) (by (repeat' first|exact trivial|exact rfl|exact ⟨_,rfl⟩|exact .inl rfl|exact .inr (.inl ⟨rfl,rfl⟩)|exact .inr (.inr ⟨rfl,rfl⟩)|refine And.intro ?_ ?_|refine ⟨_,rfl,?_⟩|decide|exact of_decide_eq_true rfl)) (by (repeat' first|exact trivial|exact rfl|exact ⟨_,rfl⟩|exact .inl rfl|exact .inr (.inl ⟨rfl,rfl⟩)|exact .inr (.inr ⟨rfl,rfl⟩)|refine And.intro ?_ ?_|refine ⟨_,rfl,?_⟩|decide|exact of_decide_eq_true rfl)) (by rfl) (by rfl) (by simp) ?_
 (repeat' ((conv=>whnf);first|refine vA ?_|refine vB fun b hb=>?_|refine vC (fun hl=>?_) fun i kv vv hi=>?_|refine vE ?_|refine vG ?_|refine vH ?_|((first|refine vD ?_ ?_|refine vF ?_ ?_|refine vI ?_ ?_)<;>intro hc<;>try simp only [vL] at hc)|refine vJ fun hg=>?_|refine vK fun hg=>?_|refine vT ?_|refine vN ‹_› ?_|(refine vQ ?_ fun x hx=>?_;·first|omega|(simp only [vM] at *;omega))|((first|refine vO ?_ ?_|refine vR ?_ ‹_› ?_|refine vS ?_ fun x hx=>?_|refine vP ?_ ?_);·first|omega|(simp only [vM] at *;omega))|refine vW ⟨by omega,by omega⟩ ?_|(refine vU ?_ ?_;·kernel_rfl)|refine vX ?_|refine vY ?_|refine vZ ?_|refine za.mk _ ‹_› ?_|refine vP (show (_:BitVec 64)≠_ by decide) ?_));all_goals try conv=>whnf
 refine zaU.objs [0] (c3) (by (repeat' first|exact trivial|exact rfl|exact ⟨_,rfl⟩|exact .inl rfl|exact .inr (.inl ⟨rfl,rfl⟩)|exact .inr (.inr ⟨rfl,rfl⟩)|refine And.intro ?_ ?_|refine ⟨_,rfl,?_⟩|decide|exact of_decide_eq_true rfl)) (by (repeat' first|exact trivial|exact rfl|exact ⟨_,rfl⟩|exact .inl rfl|exact .inr (.inl ⟨rfl,rfl⟩)|exact .inr (.inr ⟨rfl,rfl⟩)|refine And.intro ?_ ?_|refine ⟨_,rfl,?_⟩|decide|exact of_decide_eq_true rfl)) (by rfl) (by rfl) (by simp) ?_
 (repeat' ((conv=>whnf);first|refine vA ?_|refine vB fun b hb=>?_|refine vC (fun hl=>?_) fun i kv vv hi=>?_|refine vE ?_|refine vG ?_|refine vH ?_|((first|refine vD ?_ ?_|refine vF ?_ ?_|refine vI ?_ ?_)<;>intro hc<;>try simp only [vL] at hc)|refine vJ fun hg=>?_|refine vK fun hg=>?_|refine vT ?_|refine vN ‹_› ?_|(refine vQ ?_ fun x hx=>?_;·first|omega|(simp only [vM] at *;omega))|((first|refine vO ?_ ?_|refine vR ?_ ‹_› ?_|refine vS ?_ fun x hx=>?_|refine vP ?_ ?_);·first|omega|(simp only [vM] at *;omega))|refine vW ⟨by omega,by omega⟩ ?_|(refine vU ?_ ?_;·kernel_rfl)|refine vX ?_|refine vY ?_|refine vZ ?_|refine za.mk _ ‹_› ?_|refine vP (show (_:BitVec 64)≠_ by decide) ?_));all_goals try conv=>whnf
 refine zj (fun ((k,zs):Nat×List D)=>[(4,.own 0),(5,.own 1),(17,.d (.arr 1 (ts.map dII))),(18,.d (.int .i64 ((ts.map dII).length:Int))),(19,.d (.int .i64 ((k:Int))))]) (fun ((k,zs):Nat×List D)=>[(0,some (.row 1 (S.map dII))),(1,some (.row 1 zs))]) 2 (fun ((k,zs):Nat×List D)=>k≤ts.length∧zs=(List.range ts.length).map fun i=>D.int .i64 (if i < k then (rkN ts (ts.getD i []):Int) else 0)) (fun ((k,zs):Nat×List D)=>ts.length - k) ((0,List.replicate (((ts.map dII).length:Int)).toNat (D.int .i64 0))) [(0,1),(1,2)] [] (⟨by omega,by simp only [Nat.not_lt_zero,if_false];rw [List.length_map,Int.toNat_natCast];exact zbg _ _⟩) (by (refine ⟨rfl,rfl,rfl,?_,?_⟩;repeat' first|exact trivial|exact rfl|exact ⟨_,rfl⟩|exact .inl rfl|exact .inr (.inl ⟨rfl,rfl⟩)|exact .inr (.inr ⟨rfl,rfl⟩)|refine And.intro ?_ ?_|refine ⟨_,rfl,?_⟩|decide|exact of_decide_eq_true rfl)) ?_
 rintro ⟨k,zs⟩ ⟨hk,hz⟩
 have hzl:zs.length=ts.length:=by rw [hz];simp
 by_cases hkl:k < ts.length
 ·have hx:=zaZ (d:=[]) hkl
  obtain ⟨b,cbk⟩:=cb (ts.getD k [])
  (repeat' ((conv=>whnf);first|refine vA ?_|refine vB fun b hb=>?_|refine vC (fun hl=>?_) fun i kv vv hi=>?_|refine vE ?_|refine vG ?_|refine vH ?_|((first|refine vD ?_ ?_|refine vF ?_ ?_|refine vI ?_ ?_)<;>intro hc<;>try simp only [vL] at hc)|refine vJ fun hg=>?_|refine vK fun hg=>?_|refine vT ?_|refine vN ‹_› ?_|(refine vQ ?_ fun x hx=>?_;·first|omega|(simp only [vM] at *;omega))|((first|refine vO ?_ ?_|refine vR ?_ ‹_› ?_|refine vS ?_ fun x hx=>?_|refine vP ?_ ?_);·first|omega|(simp only [vM] at *;omega))|refine vW ⟨by omega,by omega⟩ ?_|(refine vU ?_ ?_;·kernel_rfl)|refine vX ?_|refine vY ?_|refine vZ ?_|refine yD cbk (by (repeat refine ⟨⟨rfl,rfl⟩,?_⟩);rfl) rfl ?_|refine yN cbk (by (repeat refine ⟨⟨rfl,rfl⟩,?_⟩);rfl) ?_|refine za.mk _ ‹_› ?_|refine vP (show (_:BitVec 64)≠_ by decide) ?_));all_goals try conv=>whnf
  ·refine ⟨(k+1,_),[(0,0),(1,1)],[],?_,?_,by (refine ⟨rfl,rfl,rfl,?_,?_⟩;repeat' first|exact trivial|exact rfl|exact ⟨_,rfl⟩|exact .inl rfl|exact .inr (.inl ⟨rfl,rfl⟩)|exact .inr (.inr ⟨rfl,rfl⟩)|refine And.intro ?_ ?_|refine ⟨_,rfl,?_⟩|decide|exact of_decide_eq_true rfl)⟩
   ·refine ⟨by omega,?_⟩
    rw [hz]
    refine (zdm _).trans (zS fun u hu=>?_)
    show (if u=k then _ else _)=_
    by_cases e:u=k
    ·subst e;rw [if_pos rfl,if_pos (by omega)]
    ·rw [if_neg e]
     by_cases e2:u < k
     ·rw [if_pos e2,if_pos (by omega)]
     ·rw [if_neg e2,if_neg (by omega)]
   ·(first|omega|(simp only [vM] at *;omega))
  ·exfalso;omega
 ·(repeat' ((conv=>whnf);first|refine vA ?_|refine vB fun b hb=>?_|refine vC (fun hl=>?_) fun i kv vv hi=>?_|refine vE ?_|refine vG ?_|refine vH ?_|((first|refine vD ?_ ?_|refine vF ?_ ?_|refine vI ?_ ?_)<;>intro hc<;>try simp only [vL] at hc)|refine vJ fun hg=>?_|refine vK fun hg=>?_|refine vT ?_|refine vN ‹_› ?_|(refine vQ ?_ fun x hx=>?_;·first|omega|(simp only [vM] at *;omega))|((first|refine vO ?_ ?_|refine vR ?_ ‹_› ?_|refine vS ?_ fun x hx=>?_|refine vP ?_ ?_);·first|omega|(simp only [vM] at *;omega))|refine vW ⟨by omega,by omega⟩ ?_|(refine vU ?_ ?_;·kernel_rfl)|refine vX ?_|refine vY ?_|refine vZ ?_|refine za.mk _ ‹_› ?_|refine vP (show (_:BitVec 64)≠_ by decide) ?_));all_goals try conv=>whnf
  ·exfalso;omega
  ·have e0:k=ts.length:=by omega
   subst e0
   have hzz:zs=(ts.map (rkN ts)).map fun (x:Nat)=>D.int .i64 (x:Int):=by
    rw [hz]
    refine zdW (d := .nil) (by simp) fun i hi=>?_
    rw [List.length_map,List.length_range] at hi
    simp [List.getD,hi]
   refine congrArg some (show D.tup [.arr 1 zs,.int .i64 ((S.map dII).length:Int)]=_ from ?_)
   rw [hzz,List.length_map,hcn]
   simp [Function.comp_def]
end Go.Ab
namespace Go.Ab
open Go Go.Proofs
set_option maxRecDepth 10000
set_option maxHeartbeats 4000000
variable {T:Nat→Obj→Prop}
def ltI (x y:Int):Bool:=decide (x < y)
abbrev zbx (d:Array (Int)):Ob := .row 1 (d.toList.map (D.int .i64))
theorem zqs (x y:Int):Fn Tryz.prog T zgL [.d (.int .i64 x),.d (.int .i64 y)] [] (.d (.bool (ltI x y))) []:=by
 have hn : ∀ z:Int,Fn Tryz.prog T zdY [.d (.int .i64 z)] [] (.d (.bool false)) []:=fun z=>by
  refine zg zw zgi (by show 1≤6;decide) ?_
  (repeat' ((conv=>whnf);first|refine vA ?_|refine vB fun b hb=>?_|refine vC (fun hl=>?_) fun i kv vv hi=>?_|refine vE ?_|refine vG ?_|refine vH ?_|((first|refine vD ?_ ?_|refine vF ?_ ?_|refine vI ?_ ?_)<;>intro hc<;>try simp only [vL] at hc)|refine vJ fun hg=>?_|refine vK fun hg=>?_|refine vT ?_|refine vN ‹_› ?_|(refine vQ ?_ fun x hx=>?_;·first|omega|(simp only [vM] at *;omega))|((first|refine vO ?_ ?_|refine vR ?_ ‹_› ?_|refine vS ?_ fun x hx=>?_|refine vP ?_ ?_);·first|omega|(simp only [vM] at *;omega))|refine vW ⟨by omega,by omega⟩ ?_|(refine vU ?_ ?_;·kernel_rfl)|refine vX ?_|refine vY ?_|refine vZ ?_|refine za.mk _ ‹_› ?_|refine vP (show (_:BitVec 64)≠_ by decide) ?_));all_goals try conv=>whnf
  simp
 refine zg zw zmA (by show 2≤17;decide) ?_
 (repeat' ((conv=>whnf);first|refine vA ?_|refine vB fun b hb=>?_|refine vC (fun hl=>?_) fun i kv vv hi=>?_|refine vE ?_|refine vG ?_|refine vH ?_|((first|refine vD ?_ ?_|refine vF ?_ ?_|refine vI ?_ ?_)<;>intro hc<;>try simp only [vL] at hc)|refine vJ fun hg=>?_|refine vK fun hg=>?_|refine vT ?_|refine vN ‹_› ?_|(refine vQ ?_ fun x hx=>?_;·first|omega|(simp only [vM] at *;omega))|((first|refine vO ?_ ?_|refine vR ?_ ‹_› ?_|refine vS ?_ fun x hx=>?_|refine vP ?_ ?_);·first|omega|(simp only [vM] at *;omega))|refine vW ⟨by omega,by omega⟩ ?_|(refine vU ?_ ?_;·kernel_rfl)|refine vX ?_|refine vY ?_|refine vZ ?_|refine yD (hn _) (by (repeat refine ⟨⟨rfl,rfl⟩,?_⟩);rfl) rfl ?_|refine yN (hn _) (by (repeat refine ⟨⟨rfl,rfl⟩,?_⟩);rfl) ?_|refine za.mk _ ‹_› ?_|refine vP (show (_:BitVec 64)≠_ by decide) ?_));all_goals try conv=>whnf
 rfl
theorem zrP (d:Array (Int)) (a b:Nat) (hb:b≤d.size) (hs:d.size≤1073741824) (ha:a≤b) :
  Fn Tryz.prog T zap [.own 0,.d (.int .i64 (a:Int)),.d (.int .i64 (b:Int))] [zbx d] (.tup []) [some (zbx (Sort.insertionSort ltI d a b))]:=by
 refine zaS zw zdH (by show 3≤49;decide) _ (fun e env mem n h=>h) ?_
 (repeat' ((conv=>whnf);first|refine vA ?_|refine vB fun b hb=>?_|refine vC (fun hl=>?_) fun i kv vv hi=>?_|refine vE ?_|refine vG ?_|refine vH ?_|((first|refine vD ?_ ?_|refine vF ?_ ?_|refine vI ?_ ?_)<;>intro hc<;>try simp only [vL] at hc)|refine vJ fun hg=>?_|refine vK fun hg=>?_|refine vT ?_|refine vN ‹_› ?_|(refine vQ ?_ fun x hx=>?_;·first|omega|(simp only [vM] at *;omega))|((first|refine vO ?_ ?_|refine vR ?_ ‹_› ?_|refine vS ?_ fun x hx=>?_|refine vP ?_ ?_);·first|omega|(simp only [vM] at *;omega))|refine vW ⟨by omega,by omega⟩ ?_|(refine vU ?_ ?_;·kernel_rfl)|refine vX ?_|refine vY ?_|refine vZ ?_|refine za.mk _ ‹_› ?_|refine vP (show (_:BitVec 64)≠_ by decide) ?_));all_goals try conv=>whnf
 refine zj (fun ((ii,xs):Int×List D)=>[(0,.own 0),(1,.d (.int .i64 ((a:Int)))),(2,.d (.int .i64 ((b:Int)))),(6,.d (.int .i64 (ii))),(zc,.own 0)]) (fun ((ii,xs):Int×List D)=>[(0,some (.row 1 xs))]) 1 (fun ((ii,xs):Int×List D) => ∃ (i:Nat) (e:Array (Int)),ii=i∧xs=e.toList.map (D.int .i64)∧a < i∧i≤b+1∧e.size=d.size∧Sort.insOuter ltI a b i e=Sort.insertionSort ltI d a b) (fun ((ii,xs):Int×List D)=>(b - ii).toNat) (((a:Int)+1,d.toList.map (D.int .i64))) [(0,0)] [] (⟨a+1,d,by omega,rfl,by omega,by omega,rfl,rfl⟩) (by (refine ⟨rfl,rfl,rfl,?_,?_⟩;repeat' first|exact trivial|exact rfl|exact ⟨_,rfl⟩|exact .inl rfl|exact .inr (.inl ⟨rfl,rfl⟩)|exact .inr (.inr ⟨rfl,rfl⟩)|refine And.intro ?_ ?_|refine ⟨_,rfl,?_⟩|decide|exact of_decide_eq_true rfl)) ?_
 rintro ⟨_,_⟩ ⟨i,e,rfl,rfl,hi,hi2,he,hI⟩
 (repeat' ((conv=>whnf);first|refine vA ?_|refine vB fun b hb=>?_|refine vC (fun hl=>?_) fun i kv vv hi=>?_|refine vE ?_|refine vG ?_|refine vH ?_|((first|refine vD ?_ ?_|refine vF ?_ ?_|refine vI ?_ ?_)<;>intro hc<;>try simp only [vL] at hc)|refine vJ fun hg=>?_|refine vK fun hg=>?_|refine vT ?_|refine vN ‹_› ?_|(refine vQ ?_ fun x hx=>?_;·first|omega|(simp only [vM] at *;omega))|((first|refine vO ?_ ?_|refine vR ?_ ‹_› ?_|refine vS ?_ fun x hx=>?_|refine vP ?_ ?_);·first|omega|(simp only [vM] at *;omega))|refine vW ⟨by omega,by omega⟩ ?_|(refine vU ?_ ?_;·kernel_rfl)|refine vX ?_|refine vY ?_|refine vZ ?_|refine za.mk _ ‹_› ?_|refine vP (show (_:BitVec 64)≠_ by decide) ?_));all_goals try conv=>whnf
 ·refine zj (fun ((jj,xs):Int×List D)=>[(0,.own 0),(1,.d (.int .i64 ((a:Int)))),(2,.d (.int .i64 ((b:Int)))),(6,.d (.int .i64 ((i:Int)))),(7,.d (.int .i64 (jj))),(zc,.own 0)]) (fun ((jj,xs):Int×List D)=>[(0,some (.row 1 xs))]) 1 (fun ((jj,xs):Int×List D) => ∃ (j:Nat) (g:Array (Int)),jj=j∧xs=g.toList.map (D.int .i64)∧j≤i∧g.size=d.size∧Sort.insInner ltI a j g=Sort.insInner ltI a i e) (fun ((jj,xs):Int×List D)=>jj.toNat) (((i:Int),e.toList.map (D.int .i64))) [(0,0)] [] (⟨i,e,rfl,rfl,by omega,he,rfl⟩) (by (refine ⟨rfl,rfl,rfl,?_,?_⟩;repeat' first|exact trivial|exact rfl|exact ⟨_,rfl⟩|exact .inl rfl|exact .inr (.inl ⟨rfl,rfl⟩)|exact .inr (.inr ⟨rfl,rfl⟩)|refine And.intro ?_ ?_|refine ⟨_,rfl,?_⟩|decide|exact of_decide_eq_true rfl)) ?_
  rintro ⟨_,_⟩ ⟨j,g,rfl,rfl,hj,hg,hJ⟩
  have hgl:g.toList.length=d.size:=by rw [Array.length_toList];exact hg
  have stop : ¬(a < j∧ltI g[j]! g[j - 1]! = true)→Sort.insOuter ltI a b (i+1) g=Sort.insertionSort ltI d a b:=fun h=>by
   rw [← hI,Sort.insOuter.eq_def ltI a b i,if_pos (by omega),← hJ,zi6 h]
  (repeat' ((conv=>whnf);first|refine vA ?_|refine vB fun b hb=>?_|refine vC (fun hl=>?_) fun i kv vv hi=>?_|refine vE ?_|refine vG ?_|refine vH ?_|((first|refine vD ?_ ?_|refine vF ?_ ?_|refine vI ?_ ?_)<;>intro hc<;>try simp only [vL] at hc)|refine vJ fun hg=>?_|refine vK fun hg=>?_|refine vT ?_|refine vN ‹_› ?_|(refine vQ ?_ fun x hx=>?_;·first|omega|(simp only [vM] at *;omega))|((first|refine vO ?_ ?_|refine vR ?_ ‹_› ?_|refine vS ?_ fun x hx=>?_|refine vP ?_ ?_);·first|omega|(simp only [vM] at *;omega))|refine vW ⟨by omega,by omega⟩ ?_|(refine vU ?_ ?_;·kernel_rfl)|refine vX ?_|refine vY ?_|refine vZ ?_|refine yD (zqs _ _) ⟨⟨rfl,rfl⟩,⟨rfl,rfl⟩,rfl⟩ rfl ?_|refine za.mk _ ‹_› ?_|refine vP (show (_:BitVec 64)≠_ by decide) ?_));all_goals try conv=>whnf
  ·have e1:((j:Int) - 1).toNat=j - 1:=by omega
   have hx1:g.toList[j]? = some _:=‹g.toList[(j:Int).toNat]? = some _›
   have hx2:g.toList[j - 1]? = some x:=by rw [← e1];exact hx
   refine ⟨(_,_),[(0,0)],[],?_,?_,by (refine ⟨rfl,rfl,rfl,?_,?_⟩;repeat' first|exact trivial|exact rfl|exact ⟨_,rfl⟩|exact .inl rfl|exact .inr (.inl ⟨rfl,rfl⟩)|exact .inr (.inr ⟨rfl,rfl⟩)|refine And.intro ?_ ?_|refine ⟨_,rfl,?_⟩|decide|exact of_decide_eq_true rfl)⟩
   ·refine ⟨j - 1,Sort.swp g j (j - 1),by omega,?_,by omega,by rw [zqb,hg],?_⟩
    ·rw [e1];exact zrq hx1 hx2
    ·exact (zi5 (d:=g) (j:=j) (by omega) (by rw [(zaB hx1).1,(zaB hx2).1];exact decide_eq_true hc)).symm.trans hJ
   ·(first|omega|(simp only [vM] at *;omega))
  ·have e1:((j:Int) - 1).toNat=j - 1:=by omega
   have hx1:g.toList[j]? = some _:=‹g.toList[(j:Int).toNat]? = some _›
   have hx2:g.toList[j - 1]? = some x:=by rw [← e1];exact hx
   refine ⟨(_,_),[(0,0)],[],?_,?_,by (refine ⟨rfl,rfl,rfl,?_,?_⟩;repeat' first|exact trivial|exact rfl|exact ⟨_,rfl⟩|exact .inl rfl|exact .inr (.inl ⟨rfl,rfl⟩)|exact .inr (.inr ⟨rfl,rfl⟩)|refine And.intro ?_ ?_|refine ⟨_,rfl,?_⟩|decide|exact of_decide_eq_true rfl)⟩
   ·exact ⟨i+1,g,by omega,rfl,by omega,by omega,hg,stop fun h=>by
     rw [(zaB hx1).1,(zaB hx2).1] at h
     have:=of_decide_eq_true h.2;omega⟩
   ·(first|omega|(simp only [vM] at *;omega))
  ·refine ⟨(_,_),[(0,0)],[],?_,?_,by (refine ⟨rfl,rfl,rfl,?_,?_⟩;repeat' first|exact trivial|exact rfl|exact ⟨_,rfl⟩|exact .inl rfl|exact .inr (.inl ⟨rfl,rfl⟩)|exact .inr (.inr ⟨rfl,rfl⟩)|refine And.intro ?_ ?_|refine ⟨_,rfl,?_⟩|decide|exact of_decide_eq_true rfl)⟩
   ·exact ⟨i+1,g,by omega,rfl,by omega,by omega,hg,stop fun h=>by omega⟩
   ·(first|omega|(simp only [vM] at *;omega))
 ·have e0:Sort.insertionSort ltI d a b=e:=by
   rw [← hI,Sort.insOuter,if_neg (by omega)]
  rw [e0]
  refine ⟨trivial,_,[(0,0)],[],rfl,.inl (by (repeat' first|exact trivial|exact rfl|exact ⟨_,rfl⟩|exact .inl rfl|exact .inr (.inl ⟨rfl,rfl⟩)|exact .inr (.inr ⟨rfl,rfl⟩)|refine And.intro ?_ ?_|refine ⟨_,rfl,?_⟩|decide|exact of_decide_eq_true rfl)),⟨by rfl,by rfl,by rfl,trivial,by (repeat' first|exact trivial|exact rfl|exact ⟨_,rfl⟩|exact .inl rfl|exact .inr (.inl ⟨rfl,rfl⟩)|exact .inr (.inr ⟨rfl,rfl⟩)|refine And.intro ?_ ?_|refine ⟨_,rfl,?_⟩|decide|exact of_decide_eq_true rfl)⟩,by (repeat' first|exact trivial|exact rfl|exact ⟨_,rfl⟩|exact .inl rfl|exact .inr (.inl ⟨rfl,rfl⟩)|exact .inr (.inr ⟨rfl,rfl⟩)|refine And.intro ?_ ?_|refine ⟨_,rfl,?_⟩|decide|exact of_decide_eq_true rfl)⟩
theorem zqv (d:Array Int) {a b:Nat} {ai bi:Int} (ea:ai=a) (eb:bi=b) (hb:b≤d.size) (hs:d.size≤1073741824) (ha:a≤b) :
  Fn Tryz.prog T zap [.own 0,.d (.int .i64 ai),.d (.int .i64 bi)] [zbx d] (.tup []) [some (zbx (Sort.insertionSort ltI d a b))]:=by
 subst ea;subst eb;exact zrP d a b hb hs ha
theorem zrS (d:Array Int) {b l:Nat} {bi li:Int} (eb:bi=b) (el:li=l) (h12:b≤12) (hb:b≤d.size) (hs:d.size≤536870912) :
  Fn Tryz.prog T zcj [.own 0,.d (.int .i64 0),.d (.int .i64 bi),.d (.int .i64 li)] [zbx d] (.tup []) [some (zbx (Sort.pdq ltI d 0 b l true true))]:=by
 subst eb;subst el
 have hR:Sort.pdq ltI d 0 b l true true=Sort.insertionSort ltI d 0 b:=by rw [Sort.pdq,if_pos (by omega)]
 rw [hR]
 refine zaS zw zeU (by show 4≤134;decide) _ (fun e env mem n h=>h) ?_
 (repeat' ((conv=>whnf);first|refine vA ?_|refine vB fun b hb=>?_|refine vC (fun hl=>?_) fun i kv vv hi=>?_|refine vE ?_|refine vG ?_|refine vH ?_|((first|refine vD ?_ ?_|refine vF ?_ ?_|refine vI ?_ ?_)<;>intro hc<;>try simp only [vL] at hc)|refine vJ fun hg=>?_|refine vK fun hg=>?_|refine vT ?_|refine vN ‹_› ?_|(refine vQ ?_ fun x hx=>?_;·first|omega|(simp only [vM] at *;omega))|((first|refine vO ?_ ?_|refine vR ?_ ‹_› ?_|refine vS ?_ fun x hx=>?_|refine vP ?_ ?_);·first|omega|(simp only [vM] at *;omega))|refine vW ⟨by omega,by omega⟩ ?_|(refine vU ?_ ?_;·kernel_rfl)|refine vX ?_|refine vY ?_|refine vZ ?_|refine za.mk _ ‹_› ?_|refine vP (show (_:BitVec 64)≠_ by decide) ?_));all_goals try conv=>whnf
 refine zj (fun (u:Unit)=>[(0,.own 0),(1,.d (.int .i64 (0))),(2,.d (.int .i64 ((b:Int)))),(3,.d (.int .i64 ((l:Int)))),(8,.d (.bool (true))),(9,.d (.bool (true))),(zc,.own 0)]) (fun (u:Unit)=>[(0,some (zbx d))]) 1 (fun (u:Unit)=>True) (fun (u:Unit)=>0) (()) [(0,0)] [] (trivial) (by (refine ⟨rfl,rfl,rfl,?_,?_⟩;repeat' first|exact trivial|exact rfl|exact ⟨_,rfl⟩|exact .inl rfl|exact .inr (.inl ⟨rfl,rfl⟩)|exact .inr (.inr ⟨rfl,rfl⟩)|refine And.intro ?_ ?_|refine ⟨_,rfl,?_⟩|decide|exact of_decide_eq_true rfl)) ?_
 rintro u -
 (repeat' ((conv=>whnf);first|refine zf1.but 35 rfl ?_|refine vB fun b hb=>?_|refine vC (fun hl=>?_) fun i kv vv hi=>?_|refine vE ?_|refine vG ?_|refine vH ?_|((first|refine vD ?_ ?_|refine vF ?_ ?_|refine vI ?_ ?_)<;>intro hc<;>try simp only [vL] at hc)|refine vJ fun hg=>?_|refine vK fun hg=>?_|refine vT ?_|refine vN ‹_› ?_|(refine vQ ?_ fun x hx=>?_;·first|omega|(simp only [vM] at *;omega))|((first|refine vO ?_ ?_|refine vR ?_ ‹_› ?_|refine vS ?_ fun x hx=>?_|refine vP ?_ ?_);·first|omega|(simp only [vM] at *;omega))|refine vW ⟨by omega,by omega⟩ ?_|(refine vU ?_ ?_;·kernel_rfl)|refine vX ?_|refine vY ?_|refine vZ ?_|refine za.mk _ ‹_› ?_|refine vP (show (_:BitVec 64)≠_ by decide) ?_));all_goals try conv=>whnf
 ·refine zaU.objs [0] (zqv d (a:=0) (b:=b) rfl rfl (by omega) (by omega) (by omega)) (by (repeat' first|exact trivial|exact rfl|exact ⟨_,rfl⟩|exact .inl rfl|exact .inr (.inl ⟨rfl,rfl⟩)|exact .inr (.inr ⟨rfl,rfl⟩)|refine And.intro ?_ ?_|refine ⟨_,rfl,?_⟩|decide|exact of_decide_eq_true rfl)) (by (repeat' first|exact trivial|exact rfl|exact ⟨_,rfl⟩|exact .inl rfl|exact .inr (.inl ⟨rfl,rfl⟩)|exact .inr (.inr ⟨rfl,rfl⟩)|refine And.intro ?_ ?_|refine ⟨_,rfl,?_⟩|decide|exact of_decide_eq_true rfl)) (by rfl) (by rfl) (by simp) ?_
  (repeat' ((conv=>whnf);first|refine vA ?_|refine vB fun b hb=>?_|refine vC (fun hl=>?_) fun i kv vv hi=>?_|refine vE ?_|refine vG ?_|refine vH ?_|((first|refine vD ?_ ?_|refine vF ?_ ?_|refine vI ?_ ?_)<;>intro hc<;>try simp only [vL] at hc)|refine vJ fun hg=>?_|refine vK fun hg=>?_|refine vT ?_|refine vN ‹_› ?_|(refine vQ ?_ fun x hx=>?_;·first|omega|(simp only [vM] at *;omega))|((first|refine vO ?_ ?_|refine vR ?_ ‹_› ?_|refine vS ?_ fun x hx=>?_|refine vP ?_ ?_);·first|omega|(simp only [vM] at *;omega))|refine vW ⟨by omega,by omega⟩ ?_|(refine vU ?_ ?_;·kernel_rfl)|refine vX ?_|refine vY ?_|refine vZ ?_|refine za.mk _ ‹_› ?_|refine vP (show (_:BitVec 64)≠_ by decide) ?_));all_goals try conv=>whnf
  refine ⟨trivial,_,[(0,0)],[],rfl,.inl (by (repeat' first|exact trivial|exact rfl|exact ⟨_,rfl⟩|exact .inl rfl|exact .inr (.inl ⟨rfl,rfl⟩)|exact .inr (.inr ⟨rfl,rfl⟩)|refine And.intro ?_ ?_|refine ⟨_,rfl,?_⟩|decide|exact of_decide_eq_true rfl)),⟨by rfl,by rfl,by rfl,trivial,by (repeat' first|exact trivial|exact rfl|exact ⟨_,rfl⟩|exact .inl rfl|exact .inr (.inl ⟨rfl,rfl⟩)|exact .inr (.inr ⟨rfl,rfl⟩)|refine And.intro ?_ ?_|refine ⟨_,rfl,?_⟩|decide|exact of_decide_eq_true rfl)⟩,by (repeat' first|exact trivial|exact rfl|exact ⟨_,rfl⟩|exact .inl rfl|exact .inr (.inl ⟨rfl,rfl⟩)|exact .inr (.inr ⟨rfl,rfl⟩)|refine And.intro ?_ ?_|refine ⟨_,rfl,?_⟩|decide|exact of_decide_eq_true rfl)⟩
 all_goals (exfalso;omega)
set_option maxHeartbeats 1000000 in
theorem zqt (d:Array Int) (hs:d.size≤12):Fn Tryz.prog T zdz [.own 0] [zbx d] (.tup []) [some (zbx (Sort.sort ltI d))]:=by
 have hn:((BitVec.ofInt 64 (d.size:Int)).toNat)=d.size:=by simp;omega
 refine zaS zw zgG (by show 1≤11;decide) _ (fun e env mem n h=>h) ?_
 (repeat' ((conv=>whnf);first|refine vA ?_|refine vB fun b hb=>?_|refine vC (fun hl=>?_) fun i kv vv hi=>?_|refine vE ?_|refine vG ?_|refine vH ?_|((first|refine vD ?_ ?_|refine vF ?_ ?_|refine vI ?_ ?_)<;>intro hc<;>try simp only [vL] at hc)|refine vJ fun hg=>?_|refine vK fun hg=>?_|refine vT ?_|refine vN ‹_› ?_|(refine vQ ?_ fun x hx=>?_;·first|omega|(simp only [vM] at *;omega))|((first|refine vO ?_ ?_|refine vR ?_ ‹_› ?_|refine vS ?_ fun x hx=>?_|refine vP ?_ ?_);·first|omega|(simp only [vM] at *;omega))|refine vW ⟨by omega,by omega⟩ ?_|(refine vU ?_ ?_;·kernel_rfl)|refine vX ?_|refine vY ?_|refine vZ ?_|refine yD (zph _) ⟨⟨rfl,rfl⟩,rfl⟩ rfl ?_|refine za.mk _ ‹_› ?_|refine vP (show (_:BitVec 64)≠_ by decide) ?_));all_goals try conv=>whnf
 refine zaU.objs [0] (zrS d (b:=d.size) (l:=Sort.bitsLen d.size) (bi:=((d.toList.map (D.int .i64)).length:Int)) (li:=((Sort.bitsLen (BitVec.ofInt 64 ((d.toList.map (D.int .i64)).length:Int)).toNat:Nat):Int)) (by simp) (by rw [List.length_map,Array.length_toList,hn]) hs (Nat.le_refl _) (by omega)) (by (repeat' first|exact trivial|exact rfl|exact ⟨_,rfl⟩|exact .inl rfl|exact .inr (.inl ⟨rfl,rfl⟩)|exact .inr (.inr ⟨rfl,rfl⟩)|refine And.intro ?_ ?_|refine ⟨_,rfl,?_⟩|decide|exact of_decide_eq_true rfl)) (by (repeat' first|exact trivial|exact rfl|exact ⟨_,rfl⟩|exact .inl rfl|exact .inr (.inl ⟨rfl,rfl⟩)|exact .inr (.inr ⟨rfl,rfl⟩)|refine And.intro ?_ ?_|refine ⟨_,rfl,?_⟩|decide|exact of_decide_eq_true rfl)) (by rfl) (by rfl) (by simp) ?_
 (repeat' ((conv=>whnf);first|refine vA ?_|refine vB fun b hb=>?_|refine vC (fun hl=>?_) fun i kv vv hi=>?_|refine vE ?_|refine vG ?_|refine vH ?_|((first|refine vD ?_ ?_|refine vF ?_ ?_|refine vI ?_ ?_)<;>intro hc<;>try simp only [vL] at hc)|refine vJ fun hg=>?_|refine vK fun hg=>?_|refine vT ?_|refine vN ‹_› ?_|(refine vQ ?_ fun x hx=>?_;·first|omega|(simp only [vM] at *;omega))|((first|refine vO ?_ ?_|refine vR ?_ ‹_› ?_|refine vS ?_ fun x hx=>?_|refine vP ?_ ?_);·first|omega|(simp only [vM] at *;omega))|refine vW ⟨by omega,by omega⟩ ?_|(refine vU ?_ ?_;·kernel_rfl)|refine vX ?_|refine vY ?_|refine vZ ?_|refine za.mk _ ‹_› ?_|refine vP (show (_:BitVec 64)≠_ by decide) ?_));all_goals try conv=>whnf
 refine ⟨trivial,_,[(0,0)],[],rfl,.inl (by (repeat' first|exact trivial|exact rfl|exact ⟨_,rfl⟩|exact .inl rfl|exact .inr (.inl ⟨rfl,rfl⟩)|exact .inr (.inr ⟨rfl,rfl⟩)|refine And.intro ?_ ?_|refine ⟨_,rfl,?_⟩|decide|exact of_decide_eq_true rfl)),⟨by rfl,by rfl,by rfl,trivial,by (repeat' first|exact trivial|exact rfl|exact ⟨_,rfl⟩|exact .inl rfl|exact .inr (.inl ⟨rfl,rfl⟩)|exact .inr (.inr ⟨rfl,rfl⟩)|refine And.intro ?_ ?_|refine ⟨_,rfl,?_⟩|decide|exact of_decide_eq_true rfl)⟩,by (repeat' first|exact trivial|exact rfl|exact ⟨_,rfl⟩|exact .inl rfl|exact .inr (.inl ⟨rfl,rfl⟩)|exact .inr (.inr ⟨rfl,rfl⟩)|refine And.intro ?_ ?_|refine ⟨_,rfl,?_⟩|decide|exact of_decide_eq_true rfl)⟩
set_option maxHeartbeats 1000000 in
theorem zjL (d:Array Int) (hs:d.size≤536870912) (hd : ¬Steps d):Fn Tryz.prog T zax [.own 0] [zbx d] (.own 1) [none,some (.row 1 ((ddA d d.size).map (D.int .i64)))]:=by
 generalize hR:(ddA d d.size).map (D.int .i64)=R
 have hln:d.toList.length=d.size:=Array.length_toList
 refine zaS zw zcK (by show 1≤61;decide) _ (fun e env mem n h=>h) ?_
 (repeat' ((conv=>whnf);first|refine vA ?_|refine vB fun b hb=>?_|refine vC (fun hl=>?_) fun i kv vv hi=>?_|refine vE ?_|refine vG ?_|refine vH ?_|((first|refine vD ?_ ?_|refine vF ?_ ?_|refine vI ?_ ?_)<;>intro hc<;>try simp only [vL] at hc)|refine vJ fun hg=>?_|refine vK fun hg=>?_|refine vT ?_|refine vN ‹_› ?_|(refine vQ ?_ fun x hx=>?_;·first|omega|(simp only [vM] at *;omega))|((first|refine vO ?_ ?_|refine vR ?_ ‹_› ?_|refine vS ?_ fun x hx=>?_|refine vP ?_ ?_);·first|omega|(simp only [vM] at *;omega))|refine vW ⟨by omega,by omega⟩ ?_|(refine vU ?_ ?_;·kernel_rfl)|refine vX ?_|refine vY ?_|refine vZ ?_|refine za.mk _ ‹_› ?_|refine vP (show (_:BitVec 64)≠_ by decide) ?_));all_goals try conv=>whnf
 ·exact absurd (fun j hj0 hj1=>by omega) hd
 refine zj (fun (i:Int)=>[(0,.own 0),(3,.d (.int .i64 (i))),(zc,.own 0)]) (fun (i:Int)=>[(0,some (zbx d))]) 1 (fun (i:Int) => ∃ k:Nat,i=k∧0 < k∧k≤d.size ∧ ∀ j,0 < j→j < k→d[j]! ≠ d[j - 1]!) (fun (i:Int)=>(d.size - i).toNat) (1) [(0,0)] [] (⟨1,rfl,by omega,by omega,fun j _ _=>by omega⟩) (by (refine ⟨rfl,rfl,rfl,?_,?_⟩;repeat' first|exact trivial|exact rfl|exact ⟨_,rfl⟩|exact .inl rfl|exact .inr (.inl ⟨rfl,rfl⟩)|exact .inr (.inr ⟨rfl,rfl⟩)|refine And.intro ?_ ?_|refine ⟨_,rfl,?_⟩|decide|exact of_decide_eq_true rfl)) ?_
 rintro _ ⟨k,rfl,hk0,hk1,hk⟩
 (repeat' ((conv=>whnf);first|refine vA ?_|refine vB fun b hb=>?_|refine vC (fun hl=>?_) fun i kv vv hi=>?_|refine vE ?_|refine vG ?_|refine vH ?_|((first|refine vD ?_ ?_|refine vF ?_ ?_|refine vI ?_ ?_)<;>intro hc<;>try simp only [vL] at hc)|refine vJ fun hg=>?_|refine vK fun hg=>?_|refine vT ?_|refine vN ‹_› ?_|(refine vQ ?_ fun x hx=>?_;·first|omega|(simp only [vM] at *;omega))|((first|refine vO ?_ ?_|refine vR ?_ ‹_› ?_|refine vS ?_ fun x hx=>?_|refine vP ?_ ?_);·first|omega|(simp only [vM] at *;omega))|refine vW ⟨by omega,by omega⟩ ?_|(refine vU ?_ ?_;·kernel_rfl)|refine vX ?_|refine vY ?_|refine vZ ?_|refine za.mk _ ‹_› ?_|refine vP (show (_:BitVec 64)≠_ by decide) ?_));all_goals try conv=>whnf
 ·have g1:=zaB (zfd k ‹d.toList[(k:Int).toNat]? = some _› rfl)
  have g2:=zaB (zfd (k - 1) ‹d.toList[((k:Int) - 1).toNat]? = some _› (by omega))
  have hkk:d[k]! = d[k - 1]! := g1.1.trans (‹_=_›.trans g2.1.symm)
  refine zj (fun ((w,q,xs):Int×Int×List D)=>[(0,.own 0),(3,.d (.int .i64 (w))),(4,.view 0 k ((d.toList.map (D.int .i64)).length - k)),(5,.d (.int .i64 (q))),(zc,.own 0)]) (fun ((w,q,xs):Int×Int×List D)=>[(0,some (.row 1 xs))]) 1 (fun ((w,q,xs):Int×Int×List D) => ∃ (a b:Nat) (e:Array Int),w=a∧q=b∧xs=e.toList.map (D.int .i64)∧0 < b∧k+b≤d.size∧a < k+b∧e.size=d.size∧e.toList.take a=ddA d (k+b) ∧ ∀ j,k+b - 1≤j→j < d.size→e[j]! = d[j]!) (fun ((w,q,xs):Int×Int×List D)=>(d.size - k - q).toNat) (((k:Int),(1:Int),d.toList.map (D.int .i64))) [(0,0)] [] (⟨k,1,d,rfl,rfl,rfl,by omega,by omega,by omega,rfl,zoZ hk0 g1.2 hk hkk,fun _ _ _=>rfl⟩) (by (refine ⟨rfl,rfl,rfl,?_,?_⟩;repeat' first|exact trivial|exact rfl|exact ⟨_,rfl⟩|exact .inl rfl|exact .inr (.inl ⟨rfl,rfl⟩)|exact .inr (.inr ⟨rfl,rfl⟩)|refine And.intro ?_ ?_|refine ⟨_,rfl,?_⟩|decide|exact of_decide_eq_true rfl)) ?_
  rintro ⟨_,_,_⟩ ⟨a,b,e,rfl,rfl,rfl,hb0,hb1,hab,he,ha,hj⟩
  have hle:e.toList.length=e.size:=Array.length_toList
  (repeat' ((conv=>whnf);first|refine vA ?_|refine vB fun b hb=>?_|refine vC (fun hl=>?_) fun i kv vv hi=>?_|refine vE ?_|refine vG ?_|refine vH ?_|((first|refine vD ?_ ?_|refine vF ?_ ?_|refine vI ?_ ?_)<;>intro hc<;>try simp only [vL] at hc)|refine vJ fun hg=>?_|refine vK fun hg=>?_|refine vT ?_|refine vN ‹_› ?_|(refine vQ ?_ fun x hx=>?_;·first|omega|(simp only [vM] at *;omega))|((first|refine vO ?_ ?_|refine vR ?_ ‹_› ?_|refine vS ?_ fun x hx=>?_|refine vP ?_ ?_);·first|omega|(simp only [vM] at *;omega))|refine vW ⟨by omega,by omega⟩ ?_|(refine vU ?_ ?_;·kernel_rfl)|refine vX ?_|refine vY ?_|refine vZ ?_|refine za.mk _ ‹_› ?_|refine vP (show (_:BitVec 64)≠_ by decide) ?_));all_goals try conv=>whnf
  ·have h1:=zaB ‹e.toList[k+((b:Nat):Int).toNat]? = some _›
   have h2:=zaB (zfd (i:=((k+b - 1:Nat):Int)) (k+b - 1) (by rw [← ‹e.toList[k+(((b:Nat):Int) - 1).toNat]? = some _›];congr 1;omega) rfl)
   simp only [Int.toNat_natCast] at h1
   have e1:=hj (k+b) (by omega) (by omega)
   have e2:=hj (k+b - 1) (by omega) (by omega)
   refine ⟨(_,_,_),[(0,0)],[],?_,?_,by (refine ⟨rfl,rfl,rfl,?_,?_⟩;repeat' first|exact trivial|exact rfl|exact ⟨_,rfl⟩|exact .inl rfl|exact .inr (.inl ⟨rfl,rfl⟩)|exact .inr (.inr ⟨rfl,rfl⟩)|refine And.intro ?_ ?_|refine ⟨_,rfl,?_⟩|decide|exact of_decide_eq_true rfl)⟩
   ·exact ⟨a+1,b+1,e.setIfInBounds a e[k+b]!,by omega,by omega,by rw [h1.1];simp [List.map_set],by omega,by omega,by omega,by simp [he],
     by rw [zp7 (by omega),ha,← Nat.add_assoc,zsN (by rw [← e1,← e2,h1.1,h2.1];assumption),e1],
     fun j h0 h1=>by rw [zrk (by omega)];exact hj j (by omega) h1⟩
   ·(first|omega|(simp only [vM] at *;omega))
  ·have h1:=zaB ‹e.toList[k+((b:Nat):Int).toNat]? = some _›
   have h2:=zaB (zfd (i:=((k+b - 1:Nat):Int)) (k+b - 1) (by rw [← ‹e.toList[k+(((b:Nat):Int) - 1).toNat]? = some _›];congr 1;omega) rfl)
   simp only [Int.toNat_natCast] at h1
   have e1:=hj (k+b) (by omega) (by omega)
   have e2:=hj (k+b - 1) (by omega) (by omega)
   refine ⟨(_,_,_),[(0,0)],[],?_,?_,by (refine ⟨rfl,rfl,rfl,?_,?_⟩;repeat' first|exact trivial|exact rfl|exact ⟨_,rfl⟩|exact .inl rfl|exact .inr (.inl ⟨rfl,rfl⟩)|exact .inr (.inr ⟨rfl,rfl⟩)|refine And.intro ?_ ?_|refine ⟨_,rfl,?_⟩|decide|exact of_decide_eq_true rfl)⟩
   ·exact ⟨a,b+1,e,rfl,by omega,rfl,by omega,by omega,by omega,he,
     by rw [ha,← Nat.add_assoc,zq5 (by omega) (by rw [← e1,← e2,h1.1,h2.1];assumption)],
     fun j h0 h1=>hj j (by omega) h1⟩
   ·(first|omega|(simp only [vM] at *;omega))
  ·have hE:=zq3 (enc:=(D.int .i64)) (e:=e) (z:=(D.int .i64 0)) (a:=a) (n:=(e.toList.map (D.int .i64)).length - a) (by omega)
   rw [ha,show k+b=d.size by omega,hR] at hE
   subst hE
   refine zlW.mk (by simp only [List.length_append,List.length_take,List.length_replicate,List.length_drop,List.length_map,hle];omega) ?_
   (repeat' ((conv=>whnf);first|refine vA ?_|refine vB fun b hb=>?_|refine vC (fun hl=>?_) fun i kv vv hi=>?_|refine vE ?_|refine vG ?_|refine vH ?_|((first|refine vD ?_ ?_|refine vF ?_ ?_|refine vI ?_ ?_)<;>intro hc<;>try simp only [vL] at hc)|refine vJ fun hg=>?_|refine vK fun hg=>?_|refine vT ?_|refine vN ‹_› ?_|(refine vQ ?_ fun x hx=>?_;·first|omega|(simp only [vM] at *;omega))|((first|refine vO ?_ ?_|refine vR ?_ ‹_› ?_|refine vS ?_ fun x hx=>?_|refine vP ?_ ?_);·first|omega|(simp only [vM] at *;omega))|refine vW ⟨by omega,by omega⟩ ?_|(refine vU ?_ ?_;·kernel_rfl)|refine vX ?_|refine vY ?_|refine vZ ?_|refine za.mk _ ‹_› ?_|refine vP (show (_:BitVec 64)≠_ by decide) ?_));all_goals try conv=>whnf
   refine ⟨trivial,_,[(1,1)],[],rfl,.inl (by (repeat' first|exact trivial|exact rfl|exact ⟨_,rfl⟩|exact .inl rfl|exact .inr (.inl ⟨rfl,rfl⟩)|exact .inr (.inr ⟨rfl,rfl⟩)|refine And.intro ?_ ?_|refine ⟨_,rfl,?_⟩|decide|exact of_decide_eq_true rfl)),⟨by rfl,by rfl,by rfl,trivial,by (repeat' first|exact trivial|exact rfl|exact ⟨_,rfl⟩|exact .inl rfl|exact .inr (.inl ⟨rfl,rfl⟩)|exact .inr (.inr ⟨rfl,rfl⟩)|refine And.intro ?_ ?_|refine ⟨_,rfl,?_⟩|decide|exact of_decide_eq_true rfl)⟩,by (repeat' first|exact trivial|exact rfl|exact ⟨_,rfl⟩|exact .inl rfl|exact .inr (.inl ⟨rfl,rfl⟩)|exact .inr (.inr ⟨rfl,rfl⟩)|refine And.intro ?_ ?_|refine ⟨_,rfl,?_⟩|decide|exact of_decide_eq_true rfl)⟩
 ·refine ⟨_,[(0,0)],[],?_,?_,by (refine ⟨rfl,rfl,rfl,?_,?_⟩;repeat' first|exact trivial|exact rfl|exact ⟨_,rfl⟩|exact .inl rfl|exact .inr (.inl ⟨rfl,rfl⟩)|exact .inr (.inr ⟨rfl,rfl⟩)|refine And.intro ?_ ?_|refine ⟨_,rfl,?_⟩|decide|exact of_decide_eq_true rfl)⟩
  ·exact ⟨k+1,by omega,by omega,by omega,fun j h0 h1=>by
    by_cases hjk:j=k
    ·subst hjk
     have g1:=zaB (zfd j ‹d.toList[(j:Int).toNat]? = some _› rfl)
     have g2:=zaB (zfd (j - 1) ‹d.toList[((j:Int) - 1).toNat]? = some _› (by omega))
     rw [g1.1,g2.1];assumption
    ·exact hk j h0 (by omega)⟩
  ·(first|omega|(simp only [vM] at *;omega))
 ·exact absurd (fun j h0 h1=>hk j h0 (by omega)) hd
end Go.Ab
namespace Go.Ab
def zdg (ts:List Tup) (j:Nat):Bool:=(List.range j).all fun k=>decide (z7 (ts.getD k []) (ts.getD j [])≠0)
def zln (ts:List Tup) (t:Tup) (j:Nat):Nat:=((List.range j).filter fun j=>decide (z7 (ts.getD j []) t < 0)&&zdg ts j).length
theorem zsL (ts:List Tup) (t:Tup) (j:Nat):zln ts t (j+1)=zln ts t j+if z7 (ts.getD j []) t < 0∧zdg ts j=true then 1 else 0:=by
 unfold zln
 rw [List.range_succ,List.filter_append,List.length_append]
 congr 1
 rw [List.filter_cons,List.filter_nil]
 by_cases h1:z7 (ts.getD j []) t < 0∧zdg ts j=true
 ·rw [if_pos h1,if_pos (by rw [Bool.and_eq_true,decide_eq_true_eq];exact h1)];rfl
 ·rw [if_neg h1,if_neg (by rw [Bool.and_eq_true,decide_eq_true_eq];exact h1)];rfl
theorem ziw {ts:List Tup} {j:Nat} : zdg ts j=true ↔ ∀ k,k < j→ts.getD k []≠ts.getD j []:=by
 unfold zdg
 simp only [List.all_eq_true,List.mem_range,decide_eq_true_eq]
 exact ⟨fun h k hk e=>h k hk (by rw [e,zZ.refl]),fun h k hk e=>h k hk (zZ.zero.1 e)⟩
theorem zup {ts:List Tup} {x:Tup} (h:x∈ts) : ∃ j,j < ts.length∧ts.getD j []=x∧zdg ts j=true:=by
 obtain ⟨i,hi,hx⟩:=List.mem_iff_getElem.1 h
 have hd : ∀ n,n < ts.length→ts.getD n []=x → ∃ j,j < ts.length∧ts.getD j []=x∧zdg ts j=true:=fun n=>by
  induction n using Nat.strongRecOn with
  | _ n ih =>
   intro hn e
   by_cases hf:zdg ts n=true
   ·exact ⟨n,hn,e,hf⟩
   ·rw [ziw] at hf
    simp only [Classical.not_forall,Classical.not_not] at hf
    obtain ⟨k,hk,e'⟩:=hf
    exact ih k hk (by omega) (by rw [e',e])
 exact hd i hi (by simp [List.getD,hi,hx])
theorem zvF (ts:List Tup) (t:Tup):zln ts t ts.length=rkN ts t:=by
 rw [← zsj (ts:=ts) (S:=((List.range ts.length).filter (zdg ts)).map fun j=>ts.getD j [])]
 ·unfold zln
  rw [List.filter_map,List.length_map,List.filter_filter]
  rfl
 ·rw [List.Nodup,List.pairwise_map]
  have h1:((List.range ts.length).filter (zdg ts)).Pairwise (· < ·):=List.Pairwise.filter _ List.pairwise_lt_range
  refine List.Pairwise.imp_of_mem (fun {a b} ha hb hab e=>?_) h1
  exact ziw.1 (List.mem_filter.1 hb).2 a hab e
 ·intro x
  rw [List.mem_map]
  constructor
  ·rintro ⟨j,hj,rfl⟩
   have:=List.mem_range.1 (List.mem_filter.1 hj).1
   rw [List.getD,List.getElem?_eq_getElem this];exact List.getElem_mem this
  ·intro h
   obtain ⟨j,h1,h2,h3⟩:=zup h
   exact ⟨j,List.mem_filter.2 ⟨List.mem_range.2 h1,h3⟩,h2⟩
theorem zwx {ts:List Tup} (h:ts≠[]) : ∃ t∈ts,rkN ts t+1=cnN ts:=by
 apply Classical.byContradiction
 intro hn
 have h0:0 < cnN ts:=by
  cases ts with
  | nil=>exact absurd rfl h
  | cons a l=>have:=zgt (ts:=a::l) (t:=a) (by simp);omega
 have h1:(((ddT ts).map (rkN ts))).Nodup:=by
  rw [List.Nodup,List.pairwise_map]
  exact List.Pairwise.imp_of_mem (fun {a b} ha hb hab e=>hab (zj9 (zV.1 ha) (zV.1 hb) e)) (zba ts)
 have h2:=zaL h1 (l':=List.range (cnN ts - 1)) fun x hx=>by
  obtain ⟨t,ht,rfl⟩:=List.mem_map.1 hx
  have ht:=zV.1 ht
  have a1:=zgt ht
  have a2:rkN ts t+1≠cnN ts:=fun e=>hn ⟨t,ht,e⟩
  exact List.mem_range.2 (by omega)
 rw [List.length_map,List.length_range] at h2
 have:(ddT ts).length=cnN ts:=rfl
 omega
def atI (out:List Int) (x:Int):Nat:=(out.takeWhile fun y=>decide (y < x)).length
def ziB (out:List Int) (x:Int):List Int:=out.take (atI out x)++x::out.drop (atI out x)
theorem zsB (out:List Int) (x:Int):atI out x≤out.length:=(List.takeWhile_sublist _).length_le
theorem zl3 : ∀ {out:List Int} {x:Int} {k:Nat} {y:Int},k < atI out x→out[k]? = some y→y < x
 | [],x,k,y,h,_=>by simp [atI] at h
 | a::l,x,k,y,h,hy=>by
  unfold atI at h
  rw [List.takeWhile_cons] at h
  split at h
  ·rename_i hc
   cases k with
   | zero=>cases hy;simpa using hc
   | succ k=>exact zl3 (out:=l) (k:=k) (by unfold atI;simpa using h) (by simpa using hy)
  ·simp at h
theorem zid : ∀ {out:List Int} {x:Int} {y:Int},out[atI out x]? = some y→x≤y
 | [],x,y,h=>by simp at h
 | a::l,x,y,h=>by
  unfold atI at h
  rw [List.takeWhile_cons] at h
  split at h
  ·rw [List.length_cons,List.getElem?_cons_succ] at h
   exact zid (out:=l) h
  ·rename_i hc
   simp at h hc;omega
theorem zsA {out:List Int} {x:Int} {k:Nat} (hk:k≤out.length) (h1 : ∀ (j:Nat) y,j < k→out[j]? = some y→y < x) (h2 : ∀ y,out[k]? = some y→x≤y):atI out x=k:=by
 rcases Nat.lt_trichotomy (atI out x) k with h|h|h
 ·have:atI out x < out.length:=by omega
  have e:=List.getElem?_eq_getElem this
  have:=h1 _ _ h e
  have:=zid e
  omega
 ·exact h
 ·have h3:=zsB out x
  have e:=List.getElem?_eq_getElem (show k < out.length by omega)
  have:=zl3 h e
  have:=h2 _ e
  omega
theorem zmx {out:List Int} (h:out.Pairwise (· ≤ ·)) (x:Int):(ziB out x).Pairwise (· ≤ ·):=by
 unfold ziB
 refine List.pairwise_append.2 ⟨h.sublist (List.take_sublist _ _),List.pairwise_cons.2 ⟨fun y hy=>?_,h.sublist (List.drop_sublist _ _)⟩,fun a ha y hy=>?_⟩
 ·obtain ⟨j,hj⟩:=List.getElem?_of_mem hy
  rw [List.getElem?_drop] at hj
  have h0:atI out x < out.length:=by obtain ⟨q,-⟩:=List.getElem?_eq_some_iff.1 hj;omega
  have e:=List.getElem?_eq_getElem h0
  have h1:=zid e
  by_cases e0:j=0
  ·subst e0;rw [Nat.add_zero,e] at hj;cases hj;exact h1
  ·obtain ⟨q,r⟩:=List.getElem?_eq_some_iff.1 hj
   have:=List.pairwise_iff_getElem.1 h (atI out x) (atI out x+j) h0 q (by omega)
   rw [r] at this;omega
 ·obtain ⟨j,hj⟩:=List.getElem?_of_mem ha
  rw [List.getElem?_take] at hj
  split at hj
  ·rename_i hlt
   have h1:=zl3 hlt hj
   rcases List.mem_cons.1 hy with rfl|hy
   ·omega
   ·obtain ⟨i,hi⟩:=List.getElem?_of_mem hy
    rw [List.getElem?_drop] at hi
    obtain ⟨q,r⟩:=List.getElem?_eq_some_iff.1 hi
    obtain ⟨q',r'⟩:=List.getElem?_eq_some_iff.1 hj
    have:=List.pairwise_iff_getElem.1 h j (atI out x+i) q' q (by omega)
    rw [r,r'] at this;exact this
  ·cases hj
theorem zlz (out:List Int) (x:Int):(ziB out x).Perm (x::out):=by
 unfold ziB
 refine (List.perm_middle).trans ?_
 rw [List.take_append_drop]
def ziC (once:Bool) (out:List Int) (x:Int):List Int:=if once=true∧out[atI out x]? = some x then out else ziB out x
theorem zr3 {out:List Int} (h:out.Pairwise (· < ·)) (x:Int):(ziC true out x).Pairwise (· < ·) ∧ ∀ y,y∈ziC true out x↔y∈out∨y=x:=by
 unfold ziC
 by_cases e:out[atI out x]? = some x
 ·rw [if_pos ⟨rfl,e⟩]
  exact ⟨h,fun y=>⟨.inl,fun h=>h.elim id fun e'=>by subst e';exact List.mem_of_getElem? e⟩⟩
 ·rw [if_neg (fun h=>e h.2)]
  have h1:=zmx (h.imp fun h=>Int.le_of_lt h) x
  have hx:x ∉ out:=fun hx=>by
   obtain ⟨j,hj⟩:=List.getElem?_of_mem hx
   have h2 : ¬j < atI out x:=fun hl=>by have:=zl3 hl hj;omega
   have h3:j≠atI out x:=fun e'=>e (by rw [← e'];exact hj)
   obtain ⟨q,r⟩:=List.getElem?_eq_some_iff.1 hj
   have e0:=List.getElem?_eq_getElem (show atI out x < out.length by omega)
   have:=zid e0
   have:=List.pairwise_iff_getElem.1 h (atI out x) j (by omega) q (by omega)
   rw [r] at this;omega
  have hn:(ziB out x).Nodup:=(zlz out x).nodup_iff.2 (List.nodup_cons.2 ⟨hx,h.imp fun h e=>by subst e;omega⟩)
  refine ⟨?_,fun y=>?_⟩
  ·have:=h1.and hn
   exact this.imp fun ⟨a,b⟩=>by omega
  ·rw [(zlz out x).mem_iff,List.mem_cons];exact Or.comm
def zeD (once:Bool) (l:List Int):List Int:=if once=true then zdJ l else zbi l
theorem ztT (once:Bool) (l:List Int) (x:Int):zeD once (l++[x])=ziC once (zeD once l) x:=by
 unfold zeD
 cases once with
 | false =>
  simp only [Bool.false_eq_true,if_false]
  unfold ziC
  rw [if_neg (by simp)]
  refine (ztU (zmx (zcD l) x) ((zlz _ _).trans ?_)).symm
  exact ((za2 l).cons x).trans (List.perm_append_singleton x l).symm
 | true =>
  simp only [if_true]
  have hs : ∀ l:List Int,(zdJ l).Pairwise (· < ·):=fun l=>by
   have hn:(zdJ l).Nodup:=(za2 _).nodup_iff.2 (zba l)
   exact ((zcD (ddT l)).and hn).imp fun ⟨a,b⟩=>by omega
  have h1:=zr3 (hs l) x
  refine zcO ((hs _).imp fun h=>Int.le_of_lt h) (h1.1.imp fun h=>Int.le_of_lt h) (zeB ((hs _).imp fun h e=>by subst e;omega) (h1.1.imp fun h e=>by subst e;omega) fun y=>?_)
  rw [h1.2,zgr,zgr,List.mem_append,List.mem_singleton]
end Go.Ab
namespace Go.Ab
open Go Go.Proofs
set_option maxRecDepth 10000
set_option maxHeartbeats 4000000
variable {T:Nat→Obj→Prop}
theorem zw6:Sort.SWO ltI:=⟨fun x=>by simp [ltI],fun x y z h1 h2=>by simp [ltI] at *;omega,fun x y z h1 h2=>by simp [ltI] at *;omega⟩
theorem zsp (l:List Int):(Sort.sort ltI l.toArray).toList=zbi l:=by
 obtain ⟨⟨h1,-,h2⟩,h3⟩:=Sort.sort_sorts ltI zw6 l.toArray
 have e1:(Sort.sort ltI l.toArray).extract 0 l.toArray.size=Sort.sort ltI l.toArray:=by rw [← h1];simp
 have e2:l.toArray.extract 0 l.toArray.size=l.toArray:=by simp
 rw [e1,e2] at h2
 refine ztU ?_ h2
 rw [List.pairwise_iff_getElem]
 intro i j hi hj hij
 rw [Array.length_toList] at hi hj
 have:=h3 i j (Nat.zero_le _) hij (by rw [← h1];exact hj)
 have a1:=(zaB (List.getElem?_eq_getElem (l:=(Sort.sort ltI l.toArray).toList) (by rw [Array.length_toList];exact hi))).1
 have a2:=(zaB (List.getElem?_eq_getElem (l:=(Sort.sort ltI l.toArray).toList) (by rw [Array.length_toList];exact hj))).1
 rw [a1,a2] at this
 have:=of_decide_eq_false this
 omega
theorem zuq (d:Array Int) (hs:d.size≤1000):Fn Tryz.prog T zax [.own 0] [zbx d] (.own 1) [none,some (.row 1 ((ddA d d.size).map (D.int .i64)))]:=by
 by_cases hd:Steps d
 ·have hln:d.toList.length=d.size:=Array.length_toList
  have e0:ddA d d.size=d.toList:=by rw [zkr (Nat.le_refl _) hd,List.take_of_length_le (by omega)]
  rw [e0]
  refine zaS zw zcK (by show 1≤61;decide) _ (fun e env mem n h=>h) ?_
  (repeat' ((conv=>whnf);first|refine vA ?_|refine vB fun b hb=>?_|refine vC (fun hl=>?_) fun i kv vv hi=>?_|refine vE ?_|refine vG ?_|refine vH ?_|((first|refine vD ?_ ?_|refine vF ?_ ?_|refine vI ?_ ?_)<;>intro hc<;>try simp only [vL] at hc)|refine vJ fun hg=>?_|refine vK fun hg=>?_|refine vT ?_|refine vN ‹_› ?_|(refine vQ ?_ fun x hx=>?_;·first|omega|(simp only [vM] at *;omega))|((first|refine vO ?_ ?_|refine vR ?_ ‹_› ?_|refine vS ?_ fun x hx=>?_|refine vP ?_ ?_);·first|omega|(simp only [vM] at *;omega))|refine vW ⟨by omega,by omega⟩ ?_|(refine vU ?_ ?_;·kernel_rfl)|refine vX ?_|refine vY ?_|refine vZ ?_|refine za.mk _ ‹_› ?_|refine vP (show (_:BitVec 64)≠_ by decide) ?_));all_goals try conv=>whnf
  ·refine ⟨trivial,_,[(1,0)],[],rfl,.inl (by (repeat' first|exact trivial|exact rfl|exact ⟨_,rfl⟩|exact .inl rfl|exact .inr (.inl ⟨rfl,rfl⟩)|exact .inr (.inr ⟨rfl,rfl⟩)|refine And.intro ?_ ?_|refine ⟨_,rfl,?_⟩|decide|exact of_decide_eq_true rfl)),⟨by rfl,by rfl,by rfl,trivial,by (repeat' first|exact trivial|exact rfl|exact ⟨_,rfl⟩|exact .inl rfl|exact .inr (.inl ⟨rfl,rfl⟩)|exact .inr (.inr ⟨rfl,rfl⟩)|refine And.intro ?_ ?_|refine ⟨_,rfl,?_⟩|decide|exact of_decide_eq_true rfl)⟩,by (repeat' first|exact trivial|exact rfl|exact ⟨_,rfl⟩|exact .inl rfl|exact .inr (.inl ⟨rfl,rfl⟩)|exact .inr (.inr ⟨rfl,rfl⟩)|refine And.intro ?_ ?_|refine ⟨_,rfl,?_⟩|decide|exact of_decide_eq_true rfl)⟩
  refine zj (fun (i:Int)=>[(0,.own 0),(3,.d (.int .i64 (i))),(zc,.own 0)]) (fun (i:Int)=>[(0,some (zbx d))]) 1 (fun (i:Int) => ∃ k:Nat,i=k∧0 < k∧k≤d.size) (fun (i:Int)=>(d.size - i).toNat) (1) [(0,0)] [] (⟨1,rfl,by omega,by omega⟩) (by (refine ⟨rfl,rfl,rfl,?_,?_⟩;repeat' first|exact trivial|exact rfl|exact ⟨_,rfl⟩|exact .inl rfl|exact .inr (.inl ⟨rfl,rfl⟩)|exact .inr (.inr ⟨rfl,rfl⟩)|refine And.intro ?_ ?_|refine ⟨_,rfl,?_⟩|decide|exact of_decide_eq_true rfl)) ?_
  rintro _ ⟨k,rfl,hk0,hk1⟩
  (repeat' ((conv=>whnf);first|refine vA ?_|refine vB fun b hb=>?_|refine vC (fun hl=>?_) fun i kv vv hi=>?_|refine vE ?_|refine vG ?_|refine vH ?_|((first|refine vD ?_ ?_|refine vF ?_ ?_|refine vI ?_ ?_)<;>intro hc<;>try simp only [vL] at hc)|refine vJ fun hg=>?_|refine vK fun hg=>?_|refine vT ?_|refine vN ‹_› ?_|(refine vQ ?_ fun x hx=>?_;·first|omega|(simp only [vM] at *;omega))|((first|refine vO ?_ ?_|refine vR ?_ ‹_› ?_|refine vS ?_ fun x hx=>?_|refine vP ?_ ?_);·first|omega|(simp only [vM] at *;omega))|refine vW ⟨by omega,by omega⟩ ?_|(refine vU ?_ ?_;·kernel_rfl)|refine vX ?_|refine vY ?_|refine vZ ?_|refine za.mk _ ‹_› ?_|refine vP (show (_:BitVec 64)≠_ by decide) ?_));all_goals try conv=>whnf
  ·have g1:=zaB (zfd k ‹d.toList[(k:Int).toNat]? = some _› rfl)
   have g2:=zaB (zfd (k - 1) ‹d.toList[((k:Int) - 1).toNat]? = some _› (by omega))
   exact absurd (g1.1.trans (‹_=_›.trans g2.1.symm)) (hd k hk0 g1.2)
  ·refine ⟨_,[(0,0)],[],?_,?_,by (refine ⟨rfl,rfl,rfl,?_,?_⟩;repeat' first|exact trivial|exact rfl|exact ⟨_,rfl⟩|exact .inl rfl|exact .inr (.inl ⟨rfl,rfl⟩)|exact .inr (.inr ⟨rfl,rfl⟩)|refine And.intro ?_ ?_|refine ⟨_,rfl,?_⟩|decide|exact of_decide_eq_true rfl)⟩
   ·exact ⟨k+1,by omega,by omega,by omega⟩
   ·(first|omega|(simp only [vM] at *;omega))
  ·refine ⟨trivial,_,[(1,0)],[],rfl,.inl (by (repeat' first|exact trivial|exact rfl|exact ⟨_,rfl⟩|exact .inl rfl|exact .inr (.inl ⟨rfl,rfl⟩)|exact .inr (.inr ⟨rfl,rfl⟩)|refine And.intro ?_ ?_|refine ⟨_,rfl,?_⟩|decide|exact of_decide_eq_true rfl)),⟨by rfl,by rfl,by rfl,trivial,by (repeat' first|exact trivial|exact rfl|exact ⟨_,rfl⟩|exact .inl rfl|exact .inr (.inl ⟨rfl,rfl⟩)|exact .inr (.inr ⟨rfl,rfl⟩)|refine And.intro ?_ ?_|refine ⟨_,rfl,?_⟩|decide|exact of_decide_eq_true rfl)⟩,by (repeat' first|exact trivial|exact rfl|exact ⟨_,rfl⟩|exact .inl rfl|exact .inr (.inl ⟨rfl,rfl⟩)|exact .inr (.inr ⟨rfl,rfl⟩)|refine And.intro ?_ ?_|refine ⟨_,rfl,?_⟩|decide|exact of_decide_eq_true rfl)⟩
 ·exact zjL d (by omega) hd
theorem zwp (l:List Int):ddA (zbi l).toArray (zbi l).toArray.size=zdJ l:=by
 have hs:=zcD l
 have hg : ∀ i,i < (zbi l).length→(zbi l)[i]? = some (zbi l).toArray[i]! := fun i hi=>by
  have:=zbd (d:=(zbi l).toArray) (i:=i) (by simpa using hi)
  simpa using this
 have hsz:(zbi l).toArray.size=(zbi l).length:=by simp
 have h1:(ddA (zbi l).toArray (zbi l).toArray.size).Pairwise fun x y=>ltI x y=true:=zir (lt:=ltI) (fun i j hij hj=>by
   rw [hsz] at hj
   have a1:=hg i (by omega);have a2:=hg j hj
   obtain ⟨p1,q1⟩:=List.getElem?_eq_some_iff.1 a1
   obtain ⟨p2,q2⟩:=List.getElem?_eq_some_iff.1 a2
   have:=List.pairwise_iff_getElem.1 hs i j p1 p2 hij
   rw [q1,q2] at this
   unfold ltI
   rw [decide_eq_false_iff_not];omega) (fun x y h1 h2=>by simp [ltI] at h1 h2;omega) (Nat.le_refl _)
 have h1':(ddA (zbi l).toArray (zbi l).toArray.size).Pairwise (· < ·):=h1.imp fun h=>by simpa [ltI] using h
 have h2:(zdJ l).Nodup:=(za2 _).nodup_iff.2 (zba l)
 refine zcO (h1'.imp fun h=>Int.le_of_lt h) (zcD _) (zeB (h1'.imp fun h e=>by subst e;omega) h2 fun x=>?_)
 rw [zd4,zgr]
 rw [← (za2 l).mem_iff]
 constructor
 ·rintro ⟨i,hi,rfl⟩;rw [hsz] at hi;exact List.mem_of_getElem? (hg i hi)
 ·intro hx
  obtain ⟨i,hi⟩:=List.getElem?_of_mem hx
  have hl:=(List.getElem?_eq_some_iff.1 hi).1
  refine ⟨i,by rw [hsz];exact hl,?_⟩
  have:=hg i hl;rw [hi] at this;exact (Option.some.inj this).symm
theorem zqu (hT:zeM T) (s:BitVec 64):Fn Tryz.prog T zfh [.d (.u64 s)] [] (.d (dN (zD s))) []:=by
 refine zg zw zjT (by show 1≤16;decide) ?_
 (repeat' ((conv=>whnf);first|refine vA ?_|refine vB fun b hb=>?_|refine vC (fun hl=>?_) fun i kv vv hi=>?_|refine vE ?_|refine vG ?_|refine vH ?_|((first|refine vD ?_ ?_|refine vF ?_ ?_|refine vI ?_ ?_)<;>intro hc<;>try simp only [vL] at hc)|refine vJ fun hg=>?_|refine vK fun hg=>?_|refine vT ?_|refine vN ‹_› ?_|(refine vQ ?_ fun x hx=>?_;·first|omega|(simp only [vM] at *;omega))|((first|refine vO ?_ ?_|refine vR ?_ ‹_› ?_|refine vS ?_ fun x hx=>?_|refine vP ?_ ?_);·first|omega|(simp only [vM] at *;omega))|refine vW ⟨by omega,by omega⟩ ?_|(refine vU ?_ ?_;·kernel_rfl)|refine vX ?_|refine vY ?_|refine vZ ?_|refine za.mk _ ‹_› ?_|refine vP (show (_:BitVec 64)≠_ by decide) ?_));all_goals try conv=>whnf
 refine zj (fun ((r,zs):BitVec 64×List D)=>[(0,.d (.u64 (r))),(3,.own 0)]) (fun ((r,zs):BitVec 64×List D)=>[(0,some (.row 1 zs))]) 1 (fun ((r,zs):BitVec 64×List D) => ∃ l:List Nat,zs=l.map (fun (x:Nat)=>D.int .i64 (x:Int))∧zD s=l++zD r) (fun ((r,zs):BitVec 64×List D)=>(zD r).length) ((s,[])) []   [0] (⟨[],rfl,rfl⟩) (by (refine ⟨rfl,rfl,rfl,?_,?_⟩;repeat' first|exact trivial|exact rfl|exact ⟨_,rfl⟩|exact .inl rfl|exact .inr (.inl ⟨rfl,rfl⟩)|exact .inr (.inr ⟨rfl,rfl⟩)|refine And.intro ?_ ?_|refine ⟨_,rfl,?_⟩|decide|exact of_decide_eq_true rfl)) ?_
 rintro ⟨r,zs⟩ ⟨l,rfl,hI⟩
 by_cases hr:r=0#64
 ·subst hr
  (repeat' ((conv=>whnf);first|refine vA ?_|refine vB fun b hb=>?_|refine vC (fun hl=>?_) fun i kv vv hi=>?_|refine vE ?_|refine vG ?_|refine vH ?_|((first|refine vD ?_ ?_|refine vF ?_ ?_|refine vI ?_ ?_)<;>intro hc<;>try simp only [vL] at hc)|refine vJ fun hg=>?_|refine vK fun hg=>?_|refine vT ?_|refine vN ‹_› ?_|(refine vQ ?_ fun x hx=>?_;·first|omega|(simp only [vM] at *;omega))|((first|refine vO ?_ ?_|refine vR ?_ ‹_› ?_|refine vS ?_ fun x hx=>?_|refine vP ?_ ?_);·first|omega|(simp only [vM] at *;omega))|refine vW ⟨by omega,by omega⟩ ?_|(refine vU ?_ ?_;·kernel_rfl)|refine vX ?_|refine vY ?_|refine vZ ?_|refine za.mk _ ‹_› ?_|refine vP (show (_:BitVec 64)≠_ by decide) ?_));all_goals try conv=>whnf
  rw [hI,ze3,List.append_nil]
  show some (D.arr 1 _)=some (D.arr 1 _)
  rw [List.map_map];rfl
 ·have hb:=zkS r hr
  have hl:=congrArg List.length hI
  have hlen:=zfF s
  rw [List.length_append] at hl
  (repeat' ((conv=>whnf);first|refine vA ?_|refine vB fun b hb=>?_|refine vC (fun hl=>?_) fun i kv vv hi=>?_|refine vE ?_|refine vG ?_|refine vH ?_|((first|refine vD ?_ ?_|refine vF ?_ ?_|refine vI ?_ ?_)<;>intro hc<;>try simp only [vL] at hc)|refine vJ fun hg=>?_|refine vK fun hg=>?_|refine vT ?_|refine vN ‹_› ?_|(refine vQ ?_ fun x hx=>?_;·first|omega|(simp only [vM] at *;omega))|((first|refine vO ?_ ?_|refine vR ?_ ‹_› ?_|refine vS ?_ fun x hx=>?_|refine vP ?_ ?_);·first|omega|(simp only [vM] at *;omega))|refine vW ⟨by omega,by omega⟩ ?_|(refine vU ?_ ?_;·kernel_rfl)|refine vX ?_|refine vY ?_|refine vZ ?_|refine yD (hT r) (by (repeat refine ⟨⟨rfl,rfl⟩,?_⟩);rfl) rfl ?_|refine yN (hT r) (by (repeat refine ⟨⟨rfl,rfl⟩,?_⟩);rfl) ?_|refine za.mk _ ‹_› ?_|refine vP (show (_:BitVec 64)≠_ by decide) ?_));all_goals try conv=>whnf
  ·refine ⟨(r&&&(r - 1#64),_),[(0,2)],[],?_,?_,by (refine ⟨rfl,rfl,rfl,?_,?_⟩;repeat' first|exact trivial|exact rfl|exact ⟨_,rfl⟩|exact .inl rfl|exact .inr (.inl ⟨rfl,rfl⟩)|exact .inr (.inr ⟨rfl,rfl⟩)|refine And.intro ?_ ?_|refine ⟨_,rfl,?_⟩|decide|exact of_decide_eq_true rfl)⟩
   ·exact ⟨l++[Lib.ctz 64 r.toNat],by simp,by rw [hI,hb];simp⟩
   ·show (zD (r&&&(r - 1#64))).length < (zD r).length
    rw [hb];simp
  ·exact absurd ‹r=0› hr
def zbZ (q:Nat→Nat) (s:BitVec 64):List Int:=(zD s).map fun v=>(q v:Int)
theorem zqU {n:Nat} {s:BitVec 64} (hs : ∀ v,s.getLsbD v=true→v < n):(zD s).length≤n:=zq1 hs
theorem zs0 (hT:zeM T) (q:Nat→Nat) {n:Nat} (hn:n≤12) {s:BitVec 64} (hs : ∀ v,s.getLsbD v=true→v < n) :
  Fn Tryz.prog T zdF [.d (dI (ptL n q)),.d (.u64 s)] [] (.own 0) [some (.row 1 ((zbi (zbZ q s)).map (D.int .i64)))]:=by
 have hbl:=zqU hs
 have hvl:(zbZ q s).length=(zD s).length:=by simp [zbZ]
 have c1:=zqt (T:=T) (zbZ q s).toArray (by simp [hvl];omega)
 rw [show zbx (Sort.sort ltI (zbZ q s).toArray) = .row 1 ((zbi (zbZ q s)).map (D.int .i64)) by rw [zbx,zsp]] at c1
 have hln:(ptL n q).length=n:=zbJ
 refine zaS zw zkN (by show 2≤26;decide) _ (fun e env mem n h=>h) ?_
 (repeat' ((conv=>whnf);first|refine vA ?_|refine vB fun b hb=>?_|refine vC (fun hl=>?_) fun i kv vv hi=>?_|refine vE ?_|refine vG ?_|refine vH ?_|((first|refine vD ?_ ?_|refine vF ?_ ?_|refine vI ?_ ?_)<;>intro hc<;>try simp only [vL] at hc)|refine vJ fun hg=>?_|refine vK fun hg=>?_|refine vT ?_|refine vN ‹_› ?_|(refine vQ ?_ fun x hx=>?_;·first|omega|(simp only [vM] at *;omega))|((first|refine vO ?_ ?_|refine vR ?_ ‹_› ?_|refine vS ?_ fun x hx=>?_|refine vP ?_ ?_);·first|omega|(simp only [vM] at *;omega))|refine vW ⟨by omega,by omega⟩ ?_|(refine vU ?_ ?_;·kernel_rfl)|refine vX ?_|refine vY ?_|refine vZ ?_|refine yN (zqu hT s) ⟨⟨rfl,rfl⟩,rfl⟩ ?_|refine za.mk _ ‹_› ?_|refine vP (show (_:BitVec 64)≠_ by decide) ?_));all_goals try conv=>whnf
 refine zj (fun ((k,zs):Nat×List D)=>[(0,.d (dI (ptL n q))),(5,.own 0),(9,.d (dN (zD s))),(10,.d (.int .i64 ((zgp (zD s):Int)))),(11,.d (.int .i64 ((k:Int))))]) (fun ((k,zs):Nat×List D)=>[(0,some (.row 1 zs))]) 1 (fun ((k,zs):Nat×List D)=>k≤(zD s).length∧zs=((zbZ q s).take k).map (D.int .i64)) (fun ((k,zs):Nat×List D)=>(zD s).length - k) ((0,[])) []   [0] (⟨by omega,by simp⟩) (by (refine ⟨rfl,rfl,rfl,?_,?_⟩;repeat' first|exact trivial|exact rfl|exact ⟨_,rfl⟩|exact .inl rfl|exact .inr (.inl ⟨rfl,rfl⟩)|exact .inr (.inr ⟨rfl,rfl⟩)|refine And.intro ?_ ?_|refine ⟨_,rfl,?_⟩|decide|exact of_decide_eq_true rfl)) ?_
 rintro ⟨k,zs⟩ ⟨hk,hz⟩
 have hzl:zs.length≤12:=by rw [hz];simp;omega
 have hlD:=zng (zD s)
 by_cases hkl:k < (zD s).length
 ·have e1:=zee hkl
  have hw:=hs _ (zeA.1 (ziz hkl))
  have e2:=zaw (q:=q) hw
  (repeat' ((conv=>whnf);first|refine vA ?_|refine vB fun b hb=>?_|refine vC (fun hl=>?_) fun i kv vv hi=>?_|refine vE ?_|refine vG ?_|refine vH ?_|((first|refine vD ?_ ?_|refine vF ?_ ?_|refine vI ?_ ?_)<;>intro hc<;>try simp only [vL] at hc)|refine vJ fun hg=>?_|refine vK fun hg=>?_|refine vT ?_|refine vN ‹_› ?_|(refine vQ ?_ fun x hx=>?_;·first|omega|(simp only [vM] at *;omega))|((first|refine vO ?_ ?_|refine vR ?_ ‹_› ?_|refine vS ?_ fun x hx=>?_|refine vP ?_ ?_);·first|omega|(simp only [vM] at *;omega))|refine vW ⟨by omega,by omega⟩ ?_|(refine vU ?_ ?_;·kernel_rfl)|refine vX ?_|refine vY ?_|refine vZ ?_|refine za.mk _ ‹_› ?_|refine vP (show (_:BitVec 64)≠_ by decide) ?_));all_goals try conv=>whnf
  ·refine ⟨(k+1,_),[(0,2)],[],?_,?_,by (refine ⟨rfl,rfl,rfl,?_,?_⟩;repeat' first|exact trivial|exact rfl|exact ⟨_,rfl⟩|exact .inl rfl|exact .inr (.inl ⟨rfl,rfl⟩)|exact .inr (.inr ⟨rfl,rfl⟩)|refine And.intro ?_ ?_|refine ⟨_,rfl,?_⟩|decide|exact of_decide_eq_true rfl)⟩
   ·refine ⟨by omega,?_⟩
    have e3:(zbZ q s)[k]? = some ((q ((zD s).getD k 0):Nat):Int):=by
     rw [zbZ,List.getElem?_map,zaZ (d:=0) hkl];rfl
    rw [List.take_add_one,e3,hz];simp
   ·(first|omega|(simp only [vM] at *;omega))
  ·exfalso;omega
 ·(repeat' ((conv=>whnf);first|refine vA ?_|refine vB fun b hb=>?_|refine vC (fun hl=>?_) fun i kv vv hi=>?_|refine vE ?_|refine vG ?_|refine vH ?_|((first|refine vD ?_ ?_|refine vF ?_ ?_|refine vI ?_ ?_)<;>intro hc<;>try simp only [vL] at hc)|refine vJ fun hg=>?_|refine vK fun hg=>?_|refine vT ?_|refine vN ‹_› ?_|(refine vQ ?_ fun x hx=>?_;·first|omega|(simp only [vM] at *;omega))|((first|refine vO ?_ ?_|refine vR ?_ ‹_› ?_|refine vS ?_ fun x hx=>?_|refine vP ?_ ?_);·first|omega|(simp only [vM] at *;omega))|refine vW ⟨by omega,by omega⟩ ?_|(refine vU ?_ ?_;·kernel_rfl)|refine vX ?_|refine vY ?_|refine vZ ?_|refine za.mk _ ‹_› ?_|refine vP (show (_:BitVec 64)≠_ by decide) ?_));all_goals try conv=>whnf
  ·exfalso;omega
  ·have e0:zs=(zbZ q s).map (D.int .i64):=by rw [hz,List.take_of_length_le (by omega)]
   clear hz
   subst e0
   refine zaU.objs [0] (c1) (by (repeat' first|exact trivial|exact rfl|exact ⟨_,rfl⟩|exact .inl rfl|exact .inr (.inl ⟨rfl,rfl⟩)|exact .inr (.inr ⟨rfl,rfl⟩)|refine And.intro ?_ ?_|refine ⟨_,rfl,?_⟩|decide|exact of_decide_eq_true rfl)) (by (repeat' first|exact trivial|exact rfl|exact ⟨_,rfl⟩|exact .inl rfl|exact .inr (.inl ⟨rfl,rfl⟩)|exact .inr (.inr ⟨rfl,rfl⟩)|refine And.intro ?_ ?_|refine ⟨_,rfl,?_⟩|decide|exact of_decide_eq_true rfl)) (by rfl) (by rfl) (by simp) ?_
   (repeat' ((conv=>whnf);first|refine vA ?_|refine vB fun b hb=>?_|refine vC (fun hl=>?_) fun i kv vv hi=>?_|refine vE ?_|refine vG ?_|refine vH ?_|((first|refine vD ?_ ?_|refine vF ?_ ?_|refine vI ?_ ?_)<;>intro hc<;>try simp only [vL] at hc)|refine vJ fun hg=>?_|refine vK fun hg=>?_|refine vT ?_|refine vN ‹_› ?_|(refine vQ ?_ fun x hx=>?_;·first|omega|(simp only [vM] at *;omega))|((first|refine vO ?_ ?_|refine vR ?_ ‹_› ?_|refine vS ?_ fun x hx=>?_|refine vP ?_ ?_);·first|omega|(simp only [vM] at *;omega))|refine vW ⟨by omega,by omega⟩ ?_|(refine vU ?_ ?_;·kernel_rfl)|refine vX ?_|refine vY ?_|refine vZ ?_|refine za.mk _ ‹_› ?_|refine vP (show (_:BitVec 64)≠_ by decide) ?_));all_goals try conv=>whnf
   refine ⟨trivial,_,[(0,0)],[],rfl,.inl (by (repeat' first|exact trivial|exact rfl|exact ⟨_,rfl⟩|exact .inl rfl|exact .inr (.inl ⟨rfl,rfl⟩)|exact .inr (.inr ⟨rfl,rfl⟩)|refine And.intro ?_ ?_|refine ⟨_,rfl,?_⟩|decide|exact of_decide_eq_true rfl)),⟨by rfl,by rfl,by rfl,trivial,by (repeat' first|exact trivial|exact rfl|exact ⟨_,rfl⟩|exact .inl rfl|exact .inr (.inl ⟨rfl,rfl⟩)|exact .inr (.inr ⟨rfl,rfl⟩)|refine And.intro ?_ ?_|refine ⟨_,rfl,?_⟩|decide|exact of_decide_eq_true rfl)⟩,by (repeat' first|exact trivial|exact rfl|exact ⟨_,rfl⟩|exact .inl rfl|exact .inr (.inl ⟨rfl,rfl⟩)|exact .inr (.inr ⟨rfl,rfl⟩)|refine And.intro ?_ ?_|refine ⟨_,rfl,?_⟩|decide|exact of_decide_eq_true rfl)⟩
theorem zu1 {n:Nat} {q:Nat→Nat} {s:BitVec 64} (hn:n≤64) (hs : ∀ v,s.getLsbD v=true→v < n) {r:Nat→Nat→Bool} {w:Nat} (hr : ∀ v,v < n→r w v=s.getLsbD v):zby n r q w=zbZ q s:=by
 unfold zby zbZ zD
 rw [zew (n:=n) hs 64 hn]
 congr 1
 exact List.filter_congr fun v hv=>hr v (List.mem_range.1 hv)
end Go.Ab
namespace Go.Ab
open Go Go.Proofs
set_option maxRecDepth 10000
set_option maxHeartbeats 4000000
variable {T:Nat→Obj→Prop}
abbrev dTs (l:List Tup):D := .arr 1 (l.map dII)
theorem zpT {n:Nat} (t:Nat→Tup):(((List.range n).map t).map (rkN ((List.range n).map t))).map (fun (x:Nat)=>(x:Int))=ptL n fun w=>rkN ((List.range n).map t) (t w):=by
 unfold ptL;simp [Function.comp_def]
theorem znM {n:Nat} (t:Nat→Tup) (h1:1≤n) (h12:n≤12) (hs : ∀ w,w < n→Sml (t w)) :
  Fn Tryz.prog T zdZ [.d (dTs ((List.range n).map t))] [] (.d (.tup [dI (ptL n fun w=>rkN ((List.range n).map t) (t w)),.int .i64 (cnN ((List.range n).map t):Int)])) []:=by
 have h:=zsX (T:=T) ((List.range n).map t) (fun h=>by have:=congrArg List.length h;simp at this;omega) (by simpa using h12) (fun x hx=>by
  obtain ⟨w,hw,rfl⟩:=List.mem_map.1 hx
  exact hs w (List.mem_range.1 hw))
 rw [show dN (((List.range n).map t).map (rkN ((List.range n).map t)))=dI (ptL n fun w=>rkN ((List.range n).map t) (t w)) by rw [← zpT]] at h
 exact h
theorem zrU {n:Nat} (h1:1≤n) (h12:n≤12) (g:Nat) (y:D) (next:(Nat→Nat)→Nat→Tup) (first:Nat→Tup) (hF : ∀ q v w,v < n→w < n→next q v=next q w→q v=q w)
  (hs : ∀ q w,w < n→Sml (next q w)) (hf : ∀ w,w < n→Sml (first w)) (hx : ∀ (q:Nat→Nat) (w:Nat),w < n→Fn Tryz.prog T g [.d (dI (ptL n q)),.d (.int .i64 (w:Int)),.d y] [] (.d (dII (next q w))) []) :
  Fn Tryz.prog T zfC [.d (dTs ((List.range n).map first)),.d (.fn g [y])] []
   (.d (.tup [dI (ptL n (zaM n next (n+1) (fun w=>rkN ((List.range n).map first) (first w)) (cnN ((List.range n).map first))).1),.int .i64 ((zaM n next (n+1) (fun w=>rkN ((List.range n).map first) (first w)) (cnN ((List.range n).map first))).2:Int)])) []:=by
 have c1:=znM (T:=T) first h1 h12 hf
 have c2:=fun q=>znM (T:=T) (next q) h1 h12 (hs q)
 generalize hq0:(fun w=>rkN ((List.range n).map first) (first w))=q0 at c1
 have hd0:cnN ((List.range n).map first)=dcN n q0:=by
  have:=zca (n:=n) (next:=fun _=>first) (fun _=>0)
  unfold zam rfT zcm rfT at this
  rw [hq0] at this
  exact this.symm
 rw [hd0] at c1 ⊢
 generalize hR:zaM n next (n+1) q0 (dcN n q0)=R
 refine zg zw zkM (by show 2≤45;decide) ?_
 (repeat' ((conv=>whnf);first|refine vA ?_|refine vB fun b hb=>?_|refine vC (fun hl=>?_) fun i kv vv hi=>?_|refine vE ?_|refine vG ?_|refine vH ?_|((first|refine vD ?_ ?_|refine vF ?_ ?_|refine vI ?_ ?_)<;>intro hc<;>try simp only [vL] at hc)|refine vJ fun hg=>?_|refine vK fun hg=>?_|refine vT ?_|refine vN ‹_› ?_|(refine vQ ?_ fun x hx=>?_;·first|omega|(simp only [vM] at *;omega))|((first|refine vO ?_ ?_|refine vR ?_ ‹_› ?_|refine vS ?_ fun x hx=>?_|refine vP ?_ ?_);·first|omega|(simp only [vM] at *;omega))|refine vW ⟨by omega,by omega⟩ ?_|(refine vU ?_ ?_;·kernel_rfl)|refine vX ?_|refine vY ?_|refine vZ ?_|refine yN c1 ⟨⟨rfl,rfl⟩,rfl⟩ ?_|refine za.mk _ ‹_› ?_|refine vP (show (_:BitVec 64)≠_ by decide) ?_));all_goals try conv=>whnf
 refine zW (fun ((q,c):(Nat→Nat)×Nat)=>[(1,.d (.fn g [y])),(6,.d (dI (ptL n q))),(7,.d (.int .i64 ((c:Int))))]) (fun ((q,c):(Nat→Nat)×Nat)=>c=dcN n q∧zaM n next (n+1) q (dcN n q)=R) (fun ((q,c):(Nat→Nat)×Nat)=>n+1 - c) ((q0,dcN n q0)) (⟨rfl,hR⟩) (by (repeat' first|exact trivial|exact rfl|exact ⟨_,rfl⟩|exact .inl rfl|exact .inr (.inl ⟨rfl,rfl⟩)|exact .inr (.inr ⟨rfl,rfl⟩)|refine And.intro ?_ ?_|refine ⟨_,rfl,?_⟩|decide|exact of_decide_eq_true rfl)) ?_
 rintro ⟨q,c⟩ ⟨hc0,hI⟩
 have hln:(ptL n q).length=n:=zbJ
 (repeat' ((conv=>whnf);first|refine vA ?_|refine vB fun b hb=>?_|refine vC (fun hl=>?_) fun i kv vv hi=>?_|refine vE ?_|refine vG ?_|refine vH ?_|((first|refine vD ?_ ?_|refine vF ?_ ?_|refine vI ?_ ?_)<;>intro hc<;>try simp only [vL] at hc)|refine vJ fun hg=>?_|refine vK fun hg=>?_|refine vT ?_|refine vN ‹_› ?_|(refine vQ ?_ fun x hx=>?_;·first|omega|(simp only [vM] at *;omega))|((first|refine vO ?_ ?_|refine vR ?_ ‹_› ?_|refine vS ?_ fun x hx=>?_|refine vP ?_ ?_);·first|omega|(simp only [vM] at *;omega))|refine vW ⟨by omega,by omega⟩ ?_|(refine vU ?_ ?_;·kernel_rfl)|refine vX ?_|refine vY ?_|refine vZ ?_|refine za.mk _ ‹_› ?_|refine vP (show (_:BitVec 64)≠_ by decide) ?_));all_goals try conv=>whnf
 ·refine zj (fun ((k,zs):Nat×List D)=>[(1,.d (.fn g [y])),(6,.d (dI (ptL n q))),(7,.d (.int .i64 ((c:Int)))),(8,.own 0),(21,.d (.int .i64 (((List.replicate ((((ptL n q).map (D.int .i64)).length:Int)).toNat (D.arr 1 []))).length:Int))),(22,.d (.int .i64 ((k:Int))))]) (fun ((k,zs):Nat×List D)=>[(0,some (.row 1 zs))]) 1 (fun ((k,zs):Nat×List D)=>k≤n∧zs=(List.range n).map fun w=>if w < k then dII (next q w) else D.arr 1 []) (fun ((k,zs):Nat×List D)=>n - k) ((0,List.replicate ((((ptL n q).map (D.int .i64)).length:Int)).toNat (D.arr 1 []))) [(0,0)] [] (⟨by omega,by simp only [Nat.not_lt_zero,if_false];rw [List.length_map,hln,Int.toNat_natCast];exact zbg _ _⟩) (by (refine ⟨rfl,rfl,rfl,?_,?_⟩;repeat' first|exact trivial|exact rfl|exact ⟨_,rfl⟩|exact .inl rfl|exact .inr (.inl ⟨rfl,rfl⟩)|exact .inr (.inr ⟨rfl,rfl⟩)|refine And.intro ?_ ?_|refine ⟨_,rfl,?_⟩|decide|exact of_decide_eq_true rfl)) ?_
  rintro ⟨k,zs⟩ ⟨hk,hz⟩
  by_cases hkl:k < n
  ·subst hz
   have er:(List.range n)[k]? = some k:=List.getElem?_range hkl
   (repeat' ((conv=>whnf);first|refine vA ?_|refine vB fun b hb=>?_|refine vC (fun hl=>?_) fun i kv vv hi=>?_|refine vE ?_|refine vG ?_|refine vH ?_|((first|refine vD ?_ ?_|refine vF ?_ ?_|refine vI ?_ ?_)<;>intro hc<;>try simp only [vL] at hc)|refine vJ fun hg=>?_|refine vK fun hg=>?_|refine vT ?_|refine vN ‹_› ?_|(refine vQ ?_ fun x hx=>?_;·first|omega|(simp only [vM] at *;omega))|((first|refine vO ?_ ?_|refine vR ?_ ‹_› ?_|refine vS ?_ fun x hx=>?_|refine vP ?_ ?_);·first|omega|(simp only [vM] at *;omega))|refine vW ⟨by omega,by omega⟩ ?_|(refine vU ?_ ?_;·kernel_rfl)|refine vX ?_|refine vY ?_|refine vZ ?_|refine za.mk _ ‹_› ?_|refine vP (show (_:BitVec 64)≠_ by decide) ?_));all_goals try conv=>whnf
   ·refine zaU.dataN (hx q k hkl) (by (repeat refine ⟨⟨rfl,rfl⟩,?_⟩);rfl) ?_
    (repeat' ((conv=>whnf);first|refine vA ?_|refine vB fun b hb=>?_|refine vC (fun hl=>?_) fun i kv vv hi=>?_|refine vE ?_|refine vG ?_|refine vH ?_|((first|refine vD ?_ ?_|refine vF ?_ ?_|refine vI ?_ ?_)<;>intro hc<;>try simp only [vL] at hc)|refine vJ fun hg=>?_|refine vK fun hg=>?_|refine vT ?_|refine vN ‹_› ?_|(refine vQ ?_ fun x hx=>?_;·first|omega|(simp only [vM] at *;omega))|((first|refine vO ?_ ?_|refine vR ?_ ‹_› ?_|refine vS ?_ fun x hx=>?_|refine vP ?_ ?_);·first|omega|(simp only [vM] at *;omega))|refine vW ⟨by omega,by omega⟩ ?_|(refine vU ?_ ?_;·kernel_rfl)|refine vX ?_|refine vY ?_|refine vZ ?_|refine za.mk _ ‹_› ?_|refine vP (show (_:BitVec 64)≠_ by decide) ?_));all_goals try conv=>whnf
    refine ⟨(k+1,_),[(0,0)],[],?_,?_,by (refine ⟨rfl,rfl,rfl,?_,?_⟩;repeat' first|exact trivial|exact rfl|exact ⟨_,rfl⟩|exact .inl rfl|exact .inr (.inl ⟨rfl,rfl⟩)|exact .inr (.inr ⟨rfl,rfl⟩)|refine And.intro ?_ ?_|refine ⟨_,rfl,?_⟩|decide|exact of_decide_eq_true rfl)⟩
    ·refine ⟨by omega,(zdm _).trans (zS fun u hu=>?_)⟩
     show (if u=k then _ else _)=_
     by_cases e:u=k
     ·subst e;rw [if_pos rfl,if_pos (by omega)]
     ·rw [if_neg e]
      by_cases e2:u < k
      ·rw [if_pos e2,if_pos (by omega)]
      ·rw [if_neg e2,if_neg (by omega)]
    ·(first|omega|(simp only [vM] at *;omega))
   ·exfalso
    simp only [vM] at *;omega
  ·have hzz:zs=((List.range n).map (next q)).map dII:=by
    rw [hz,List.map_map];exact zS fun u hu=>by rw [if_pos (by omega)];rfl
   clear hz
   subst hzz
   have c3:=c2 q
   (repeat' ((conv=>whnf);first|refine vA ?_|refine vB fun b hb=>?_|refine vC (fun hl=>?_) fun i kv vv hi=>?_|refine vE ?_|refine vG ?_|refine vH ?_|((first|refine vD ?_ ?_|refine vF ?_ ?_|refine vI ?_ ?_)<;>intro hc<;>try simp only [vL] at hc)|refine vJ fun hg=>?_|refine vK fun hg=>?_|refine vT ?_|refine vN ‹_› ?_|(refine vQ ?_ fun x hx=>?_;·first|omega|(simp only [vM] at *;omega))|((first|refine vO ?_ ?_|refine vR ?_ ‹_› ?_|refine vS ?_ fun x hx=>?_|refine vP ?_ ?_);·first|omega|(simp only [vM] at *;omega))|refine vW ⟨by omega,by omega⟩ ?_|(refine vU ?_ ?_;·kernel_rfl)|refine vX ?_|refine vY ?_|refine vZ ?_|refine yD c3 (by (repeat refine ⟨⟨rfl,rfl⟩,?_⟩);rfl) rfl ?_|refine yN c3 (by (repeat refine ⟨⟨rfl,rfl⟩,?_⟩);rfl) ?_|refine za.mk _ ‹_› ?_|refine vP (show (_:BitVec 64)≠_ by decide) ?_));all_goals try conv=>whnf
   ·exfalso;simp only [vM] at *;omega
   ·have e1:zam n next q=dcN n q:=by have h:(cnN ((List.range n).map (next q)):Int)=(c:Int):=‹_›;unfold zam rfT;omega
    rw [zaM,if_pos e1] at hI
    rw [← hI,hc0];rfl
   ·have e1:zam n next q≠dcN n q:=fun e=>by
     have h : ¬(cnN ((List.range n).map (next q)):Int)=(c:Int):=‹_›
     unfold zam rfT at e;omega
    have e2:=zmh hF q
    have e3:=zca (n:=n) (next:=next) q
    have e4:=zoX (n:=n) (next:=next) q
    refine ⟨(zcm n next q,zam n next q),[],[],?_,?_,by (refine ⟨rfl,rfl,rfl,?_,?_⟩;repeat' first|exact trivial|exact rfl|exact ⟨_,rfl⟩|exact .inl rfl|exact .inr (.inl ⟨rfl,rfl⟩)|exact .inr (.inr ⟨rfl,rfl⟩)|refine And.intro ?_ ?_|refine ⟨_,rfl,?_⟩|decide|exact of_decide_eq_true rfl)⟩
    ·refine ⟨e3.symm,?_⟩
     rw [zaM,if_neg e1,← e3] at hI
     rw [← hI]
     exact znn hF _ _ _ (by omega) (by omega)
    ·show n+1 - zam n next q < n+1 - c
     omega
end Go.Ab
namespace Go.Ab
open Go Go.Proofs
set_option maxRecDepth 10000
set_option maxHeartbeats 4000000
variable {T:Nat→Obj→Prop}
theorem zu3 {n:Nat} (h12:n≤12) {R:zaa} (hR:R.length≤8) (q:Nat→Nat) (w:Nat):Sml (zgX n R q w)∧Sml (zq n R q w):=by
 have hsee : ∀ r:Nat→Nat→Bool,(zby n r q w).length≤12:=fun r=>by
  unfold zby
  rw [List.length_map]
  have:=List.length_filter_le (fun v=>r w v) (List.range n)
  rw [List.length_range] at this;omega
 refine ⟨⟨by simp [zgX];omega,fun x hx=>?_⟩,⟨by simp [zq];omega,fun x hx=>?_⟩⟩
 ·rcases List.mem_cons.1 hx with rfl|hx
  ·simp
  ·obtain ⟨r,-,rfl⟩:=List.mem_map.1 hx
   have:=hsee r
   rw [(za2 _).length_eq];omega
 ·rcases List.mem_cons.1 hx with rfl|hx
  ·simp
  ·obtain ⟨r,-,rfl⟩:=List.mem_map.1 hx
   have:=hsee r
   have h2:=zaL (zba (zby n r q w)) (l':=zby n r q w) fun y hy=>zV.1 hy
   unfold zdJ
   rw [(za2 _).length_eq];omega
theorem zpW {m:KM} (hk0:zm m=0) {r:List (BitVec 64)} (hr:r∈m.rel) (w:Nat) : ∀ v,(r.getD w 0#64).getLsbD v=true→v < m.W.toNat:=fun v hv=>(zvr hk0 hr (v:=w) (u:=v) hv).2
theorem zrR (hT:zeM T) {m:KM} (hk0:zm m=0) (h12:m.W≤12) (q:Nat→Nat) (w:Nat) (hw:w < m.W.toNat) :
  Fn Tryz.prog T zbC [.d (dI (ptL m.W.toNat q)),.d (.int .i64 (w:Int)),.d (bKM m)] [] (.d (dII (zq m.W.toNat (zu m) q w))) []:=by
 have hg0:=zB hk0
 have n4:=hg0.n4
 have e0:=zaw (q:=q) hw
 refine zg zw zjf (by show 3≤34;decide) ?_
 (repeat' ((conv=>whnf);first|refine vA ?_|refine vB fun b hb=>?_|refine vC (fun hl=>?_) fun i kv vv hi=>?_|refine vE ?_|refine vG ?_|refine vH ?_|((first|refine vD ?_ ?_|refine vF ?_ ?_|refine vI ?_ ?_)<;>intro hc<;>try simp only [vL] at hc)|refine vJ fun hg=>?_|refine vK fun hg=>?_|refine vT ?_|refine vN ‹_› ?_|(refine vQ ?_ fun x hx=>?_;·first|omega|(simp only [vM] at *;omega))|((first|refine vO ?_ ?_|refine vR ?_ ‹_› ?_|refine vS ?_ fun x hx=>?_|refine vP ?_ ?_);·first|omega|(simp only [vM] at *;omega))|refine vW ⟨by omega,by omega⟩ ?_|(refine vU ?_ ?_;·kernel_rfl)|refine vX ?_|refine vY ?_|refine vZ ?_|refine za.mk _ ‹_› ?_|refine vP (show (_:BitVec 64)≠_ by decide) ?_));all_goals try conv=>whnf
 refine zj (fun ((k,zs):Nat×List D)=>[(0,.d (dI (ptL m.W.toNat q))),(1,.d (.int .i64 ((w:Int)))),(6,.own 0),(16,.d (dUU m.rel)),(17,.d (.int .i64 ((m.rel.map dU).length:Int))),(18,.d (.int .i64 ((k:Int))))]) (fun ((k,zs):Nat×List D)=>[(0,some (.row 1 zs))]) 1 (fun ((k,zs):Nat×List D)=>k≤m.rel.length∧zs=dI [(q w:Int)]::(m.rel.take k).map fun r=>dI (zdJ (zbZ q (r.getD w 0#64)))) (fun ((k,zs):Nat×List D)=>m.rel.length - k) ((0,[dI [(q w:Int)]])) [(0,1)] [] (⟨by omega,by simp⟩) (by (refine ⟨rfl,rfl,rfl,?_,?_⟩;repeat' first|exact trivial|exact rfl|exact ⟨_,rfl⟩|exact .inl rfl|exact .inr (.inl ⟨rfl,rfl⟩)|exact .inr (.inr ⟨rfl,rfl⟩)|refine And.intro ?_ ?_|refine ⟨_,rfl,?_⟩|decide|exact of_decide_eq_true rfl)) ?_
 rintro ⟨k,zs⟩ ⟨hk,hz⟩
 have hzl:zs.length≤5:=by rw [hz];simp;omega
 by_cases hkl:k < m.rel.length
 ·obtain ⟨r,hr⟩ : ∃ r,m.rel[k]? = some r:=⟨_,List.getElem?_eq_getElem hkl⟩
  have hrm:=List.mem_of_getElem? hr
  have hrl:=hg0.len r hrm
  have hx:=zaZ (l:=r) (d:=0#64) (show w < r.length by omega)
  have hvl:=zqU (zpW hk0 hrm w)
  have c2:=zuq (T:=T) (zbi (zbZ q (r.getD w 0#64))).toArray (by rw [List.size_toArray,(za2 _).length_eq,zbZ,List.length_map];omega)
  rw [zwp] at c2
  (repeat' ((conv=>whnf);first|refine vA ?_|refine vB fun b hb=>?_|refine vC (fun hl=>?_) fun i kv vv hi=>?_|refine vE ?_|refine vG ?_|refine vH ?_|((first|refine vD ?_ ?_|refine vF ?_ ?_|refine vI ?_ ?_)<;>intro hc<;>try simp only [vL] at hc)|refine vJ fun hg=>?_|refine vK fun hg=>?_|refine vT ?_|refine vN ‹_› ?_|(refine vQ ?_ fun x hx=>?_;·first|omega|(simp only [vM] at *;omega))|((first|refine vO ?_ ?_|refine vR ?_ ‹_› ?_|refine vS ?_ fun x hx=>?_|refine vP ?_ ?_);·first|omega|(simp only [vM] at *;omega))|refine vW ⟨by omega,by omega⟩ ?_|(refine vU ?_ ?_;·kernel_rfl)|refine vX ?_|refine vY ?_|refine vZ ?_|refine za.mk _ ‹_› ?_|refine vP (show (_:BitVec 64)≠_ by decide) ?_));all_goals try conv=>whnf
  ·refine zaU.res (zs0 hT q (n:=m.W.toNat) (by omega) (zpW hk0 hrm w)) (by (repeat refine ⟨⟨rfl,rfl⟩,?_⟩);rfl) ?_
   (repeat' ((conv=>whnf);first|refine vA ?_|refine vB fun b hb=>?_|refine vC (fun hl=>?_) fun i kv vv hi=>?_|refine vE ?_|refine vG ?_|refine vH ?_|((first|refine vD ?_ ?_|refine vF ?_ ?_|refine vI ?_ ?_)<;>intro hc<;>try simp only [vL] at hc)|refine vJ fun hg=>?_|refine vK fun hg=>?_|refine vT ?_|refine vN ‹_› ?_|(refine vQ ?_ fun x hx=>?_;·first|omega|(simp only [vM] at *;omega))|((first|refine vO ?_ ?_|refine vR ?_ ‹_› ?_|refine vS ?_ fun x hx=>?_|refine vP ?_ ?_);·first|omega|(simp only [vM] at *;omega))|refine vW ⟨by omega,by omega⟩ ?_|(refine vU ?_ ?_;·kernel_rfl)|refine vX ?_|refine vY ?_|refine vZ ?_|refine za.mk _ ‹_› ?_|refine vP (show (_:BitVec 64)≠_ by decide) ?_));all_goals try conv=>whnf
   refine zaU.objs [1] (c2) (by (repeat' first|exact trivial|exact rfl|exact ⟨_,rfl⟩|exact .inl rfl|exact .inr (.inl ⟨rfl,rfl⟩)|exact .inr (.inr ⟨rfl,rfl⟩)|refine And.intro ?_ ?_|refine ⟨_,rfl,?_⟩|decide|exact of_decide_eq_true rfl)) (by (repeat' first|exact trivial|exact rfl|exact ⟨_,rfl⟩|exact .inl rfl|exact .inr (.inl ⟨rfl,rfl⟩)|exact .inr (.inr ⟨rfl,rfl⟩)|refine And.intro ?_ ?_|refine ⟨_,rfl,?_⟩|decide|exact of_decide_eq_true rfl)) (by rfl) (by rfl) (by simp) ?_
   (repeat' ((conv=>whnf);first|refine vA ?_|refine vB fun b hb=>?_|refine vC (fun hl=>?_) fun i kv vv hi=>?_|refine vE ?_|refine vG ?_|refine vH ?_|((first|refine vD ?_ ?_|refine vF ?_ ?_|refine vI ?_ ?_)<;>intro hc<;>try simp only [vL] at hc)|refine vJ fun hg=>?_|refine vK fun hg=>?_|refine vT ?_|refine vN ‹_› ?_|(refine vQ ?_ fun x hx=>?_;·first|omega|(simp only [vM] at *;omega))|((first|refine vO ?_ ?_|refine vR ?_ ‹_› ?_|refine vS ?_ fun x hx=>?_|refine vP ?_ ?_);·first|omega|(simp only [vM] at *;omega))|refine vW ⟨by omega,by omega⟩ ?_|(refine vU ?_ ?_;·kernel_rfl)|refine vX ?_|refine vY ?_|refine vZ ?_|refine za.mk _ ‹_› ?_|refine vP (show (_:BitVec 64)≠_ by decide) ?_));all_goals try conv=>whnf
   refine ⟨(k+1,_),[(0,4)],[],?_,?_,by (refine ⟨rfl,rfl,rfl,?_,?_⟩;repeat' first|exact trivial|exact rfl|exact ⟨_,rfl⟩|exact .inl rfl|exact .inr (.inl ⟨rfl,rfl⟩)|exact .inr (.inr ⟨rfl,rfl⟩)|refine And.intro ?_ ?_|refine ⟨_,rfl,?_⟩|decide|exact of_decide_eq_true rfl)⟩
   ·refine ⟨by omega,?_⟩
    rw [List.take_add_one,hr,hz];simp
   ·(first|omega|(simp only [vM] at *;omega))
  ·exfalso;omega
 ·have hzz:zs=dI [(q w:Int)]::m.rel.map fun r=>dI (zdJ (zbZ q (r.getD w 0#64))):=by rw [hz,List.take_of_length_le (by omega)]
  clear hz
  (repeat' ((conv=>whnf);first|refine vA ?_|refine vB fun b hb=>?_|refine vC (fun hl=>?_) fun i kv vv hi=>?_|refine vE ?_|refine vG ?_|refine vH ?_|((first|refine vD ?_ ?_|refine vF ?_ ?_|refine vI ?_ ?_)<;>intro hc<;>try simp only [vL] at hc)|refine vJ fun hg=>?_|refine vK fun hg=>?_|refine vT ?_|refine vN ‹_› ?_|(refine vQ ?_ fun x hx=>?_;·first|omega|(simp only [vM] at *;omega))|((first|refine vO ?_ ?_|refine vR ?_ ‹_› ?_|refine vS ?_ fun x hx=>?_|refine vP ?_ ?_);·first|omega|(simp only [vM] at *;omega))|refine vW ⟨by omega,by omega⟩ ?_|(refine vU ?_ ?_;·kernel_rfl)|refine vX ?_|refine vY ?_|refine vZ ?_|refine za.mk _ ‹_› ?_|refine vP (show (_:BitVec 64)≠_ by decide) ?_));all_goals try conv=>whnf
  ·exfalso;omega
  ·refine congrArg some (show D.arr 1 zs=dII (zq m.W.toNat (zu m) q w) from ?_)
   rw [hzz]
   unfold zq zu
   have a1 : ∀ r∈m.rel,zby m.W.toNat (fun v w=>rb r v w) q w=zbZ q (r.getD w 0#64):=fun r hr=>zu1 (by omega) (zpW hk0 hr w) fun v _=>rfl
   simp only [List.map_map,List.map_cons]
   refine congrArg (fun l=>D.arr 1 (dI [(q w:Int)]::l)) ?_
   rw [List.map_map]
   exact List.map_congr_left fun r hr=>by show dI _=dI (zdJ (zby _ (fun v w=>rb r v w) q w));rw [a1 r hr]
theorem znJ (hT:zeM T) {m:KM} (hk0:zm m=0) (h12:m.W≤12) (root:Int) :
  Fn Tryz.prog T zfB [.d (dKM m),.d (.int .i64 root)] [] (.d (.tup [dI (ptL m.W.toNat (zcz m root).1),.int .i64 ((zcz m root).2:Int)])) []:=by
 have hg0:=zB hk0
 have w1:=hg0.w1
 have n4:=hg0.n4
 have cr:=zrU (T:=T) (n:=m.W.toNat) (by omega) (by omega) zbC (bKM m) (zq m.W.toNat (zu m)) (mkT m root) (fun q v w hv hw h=>zcy q v w hv hw h) (fun q w hw=>(zu3 (by omega) (by simp [zu];omega) q w).2) (fun w hw=>⟨by simp [mkT],fun r hr=>by unfold mkT at hr;simp at hr;rcases hr with rfl|rfl<;>simp⟩) (fun q w hw=>zrR hT hk0 h12 q w hw)
 refine zg zw zkL (by show 2≤33;decide) ?_
 (repeat' ((conv=>whnf);first|refine vA ?_|refine vB fun b hb=>?_|refine vC (fun hl=>?_) fun i kv vv hi=>?_|refine vE ?_|refine vG ?_|refine vH ?_|((first|refine vD ?_ ?_|refine vF ?_ ?_|refine vI ?_ ?_)<;>intro hc<;>try simp only [vL] at hc)|refine vJ fun hg=>?_|refine vK fun hg=>?_|refine vT ?_|refine vN ‹_› ?_|(refine vQ ?_ fun x hx=>?_;·first|omega|(simp only [vM] at *;omega))|((first|refine vO ?_ ?_|refine vR ?_ ‹_› ?_|refine vS ?_ fun x hx=>?_|refine vP ?_ ?_);·first|omega|(simp only [vM] at *;omega))|refine vW ⟨by omega,by omega⟩ ?_|(refine vU ?_ ?_;·kernel_rfl)|refine vX ?_|refine vY ?_|refine vZ ?_|refine za.mk _ ‹_› ?_|refine vP (show (_:BitVec 64)≠_ by decide) ?_));all_goals try conv=>whnf
 refine zj (fun ((k,zs):Nat×List D)=>[(1,.d (.int .i64 (root))),(2,.ptr 0 0),(6,.own 1),(10,.d (.int .i64 (m.W))),(11,.d (.int .i64 ((k:Int))))]) (fun ((k,zs):Nat×List D)=>[(0,some (zac m)),(1,some (.row 1 zs))]) 2 (fun ((k,zs):Nat×List D)=>k≤m.W.toNat∧zs=((List.range k).map (mkT m root)).map dII) (fun ((k,zs):Nat×List D)=>m.W.toNat - k) ((0,[])) [(0,0)]   [1] (⟨by omega,rfl⟩) (by (refine ⟨rfl,rfl,rfl,?_,?_⟩;repeat' first|exact trivial|exact rfl|exact ⟨_,rfl⟩|exact .inl rfl|exact .inr (.inl ⟨rfl,rfl⟩)|exact .inr (.inr ⟨rfl,rfl⟩)|refine And.intro ?_ ?_|refine ⟨_,rfl,?_⟩|decide|exact of_decide_eq_true rfl)) ?_
 rintro ⟨k,zs⟩ ⟨hk,hz⟩
 have hzl:zs.length≤12:=by rw [hz];simp;omega
 by_cases hkl:k < m.W.toNat
 ·have cf:=znI (T:=T) m (k:Int)
  rw [zna hk0 hkl] at cf
  (repeat' ((conv=>whnf);first|refine vA ?_|refine vB fun b hb=>?_|refine vC (fun hl=>?_) fun i kv vv hi=>?_|refine vE ?_|refine vG ?_|refine vH ?_|((first|refine vD ?_ ?_|refine vF ?_ ?_|refine vI ?_ ?_)<;>intro hc<;>try simp only [vL] at hc)|refine vJ fun hg=>?_|refine vK fun hg=>?_|refine vT ?_|refine vN ‹_› ?_|(refine vQ ?_ fun x hx=>?_;·first|omega|(simp only [vM] at *;omega))|((first|refine vO ?_ ?_|refine vR ?_ ‹_› ?_|refine vS ?_ fun x hx=>?_|refine vP ?_ ?_);·first|omega|(simp only [vM] at *;omega))|refine vW ⟨by omega,by omega⟩ ?_|(refine vU ?_ ?_;·kernel_rfl)|refine vX ?_|refine vY ?_|refine vZ ?_|refine yD cf ⟨⟨rfl,rfl⟩,⟨rfl,rfl⟩,rfl⟩ rfl ?_|refine za.mk _ ‹_› ?_|refine vP (show (_:BitVec 64)≠_ by decide) ?_));all_goals try conv=>whnf
  ·refine ⟨(k+1,_),[(0,0),(1,6)],[],?_,?_,by (refine ⟨rfl,rfl,rfl,?_,?_⟩;repeat' first|exact trivial|exact rfl|exact ⟨_,rfl⟩|exact .inl rfl|exact .inr (.inl ⟨rfl,rfl⟩)|exact .inr (.inr ⟨rfl,rfl⟩)|refine And.intro ?_ ?_|refine ⟨_,rfl,?_⟩|decide|exact of_decide_eq_true rfl)⟩
   ·refine ⟨by omega,?_⟩
    rw [hz,List.range_succ,List.map_append,List.map_append]
    refine congrArg _ ?_
    show [D.arr 1 [D.arr 1 [D.int .i64 0],D.arr 1 [D.int .i64 (zaT m k)]]]=[dII (mkT m root k)]
    unfold mkT;rw [if_pos ‹_›];rfl
   ·(first|omega|(simp only [vM] at *;omega))
  ·refine ⟨(k+1,_),[(0,0),(1,6)],[],?_,?_,by (refine ⟨rfl,rfl,rfl,?_,?_⟩;repeat' first|exact trivial|exact rfl|exact ⟨_,rfl⟩|exact .inl rfl|exact .inr (.inl ⟨rfl,rfl⟩)|exact .inr (.inr ⟨rfl,rfl⟩)|refine And.intro ?_ ?_|refine ⟨_,rfl,?_⟩|decide|exact of_decide_eq_true rfl)⟩
   ·refine ⟨by omega,?_⟩
    rw [hz,List.range_succ,List.map_append,List.map_append]
    refine congrArg _ ?_
    show [D.arr 1 [D.arr 1 [D.int .i64 1],D.arr 1 [D.int .i64 (zaT m k)]]]=[dII (mkT m root k)]
    unfold mkT;rw [if_neg ‹_›];rfl
   ·(first|omega|(simp only [vM] at *;omega))
  ·exfalso;omega
 ·have hzz:zs=((List.range m.W.toNat).map (mkT m root)).map dII:=by rw [hz,show k=m.W.toNat by omega]
  clear hz
  subst hzz
  (repeat' ((conv=>whnf);first|refine vA ?_|refine vB fun b hb=>?_|refine vC (fun hl=>?_) fun i kv vv hi=>?_|refine vE ?_|refine vG ?_|refine vH ?_|((first|refine vD ?_ ?_|refine vF ?_ ?_|refine vI ?_ ?_)<;>intro hc<;>try simp only [vL] at hc)|refine vJ fun hg=>?_|refine vK fun hg=>?_|refine vT ?_|refine vN ‹_› ?_|(refine vQ ?_ fun x hx=>?_;·first|omega|(simp only [vM] at *;omega))|((first|refine vO ?_ ?_|refine vR ?_ ‹_› ?_|refine vS ?_ fun x hx=>?_|refine vP ?_ ?_);·first|omega|(simp only [vM] at *;omega))|refine vW ⟨by omega,by omega⟩ ?_|(refine vU ?_ ?_;·kernel_rfl)|refine vX ?_|refine vY ?_|refine vZ ?_|refine yN cr ⟨⟨rfl,rfl⟩,⟨rfl,rfl⟩,rfl⟩ ?_|refine za.mk _ ‹_› ?_|refine vP (show (_:BitVec 64)≠_ by decide) ?_));all_goals try conv=>whnf
  iterate 2 (exfalso;omega)
  rfl
end Go.Ab
namespace Go.Ab
open Go Go.Proofs
set_option maxRecDepth 10000
set_option maxHeartbeats 4000000
variable {T:Nat→Obj→Prop}
theorem zsR {l:List Nat} {w:Nat} (h:w∈l):zex (fun y=>(w:Int)==y) (l.map fun (x:Nat)=>(x:Int))=(l.idxOf w:Int):=by
 have h1:=zly h
 refine zgP (x:=(w:Int)) (by rw [zee h1.1,h1.2]) (by simp) fun i y hi hy=>?_
 rw [List.getElem?_map,Option.map_eq_some_iff] at hy
 obtain ⟨x,hx,rfl⟩:=hy
 have hne:x≠w:=fun e=>by
  subst e
  have h2:=List.idxOf_lt_length_of_mem h
  obtain ⟨p1,q1⟩:=List.getElem?_eq_some_iff.1 hx
  have : ∀ (l:List Nat) (i:Nat) (hi:i < l.length),l.idxOf l[i]≤i:=fun l=>by
   induction l with
   | nil=>intro i hi;simp at hi
   | cons a l ih =>
    intro i hi
    cases i with
    | zero=>simp
    | succ i =>
     rw [List.getElem_cons_succ,List.idxOf_cons]
     cases hb:a==l[i]'(by simpa using hi) with
     | true=>simp
     | false=>have:=ih i (by simpa using hi);simp;exact this
  have:=this l i p1
  rw [q1] at this;omega
 simp;omega
theorem zwr (hT:zeM T) (m:KM) (h12:zm m=0→m.W≤12) (w:Int):Fn Tryz.prog T zep [.d (dKM m),.d (.int .i64 w)] [] (.d (.tup [dKM (zel m w).1,dI (zel m w).2.1,.int .i64 (zel m w).2.2])) []:=by
 have cc:=zec (T:=T) m
 by_cases hk0:zm m=0
 ·have h12:=h12 hk0
  have hg0:=zB hk0
  have w1:=hg0.w1
  rw [hk0] at cc
  by_cases hw:w < 0∨m.W≤w
  ·refine zg zw zcx (by show 2≤95;decide) ?_
   (repeat' ((conv=>whnf);first|refine vA ?_|refine vB fun b hb=>?_|refine vC (fun hl=>?_) fun i kv vv hi=>?_|refine vE ?_|refine vG ?_|refine vH ?_|((first|refine vD ?_ ?_|refine vF ?_ ?_|refine vI ?_ ?_)<;>intro hc<;>try simp only [vL] at hc)|refine vJ fun hg=>?_|refine vK fun hg=>?_|refine vT ?_|refine vN ‹_› ?_|(refine vQ ?_ fun x hx=>?_;·first|omega|(simp only [vM] at *;omega))|((first|refine vO ?_ ?_|refine vR ?_ ‹_› ?_|refine vS ?_ fun x hx=>?_|refine vP ?_ ?_);·first|omega|(simp only [vM] at *;omega))|refine vW ⟨by omega,by omega⟩ ?_|(refine vU ?_ ?_;·kernel_rfl)|refine vX ?_|refine vY ?_|refine vZ ?_|refine yD cc ⟨⟨rfl,rfl⟩,rfl⟩ rfl ?_|refine za.mk _ ‹_› ?_|refine vP (show (_:BitVec 64)≠_ by decide) ?_));all_goals try conv=>whnf
   iterate 2 (rw [zel,if_neg (by omega),if_pos hw];rfl)
   exfalso;omega
  ·obtain ⟨w,rfl⟩ : ∃ v:Nat,w=(v:Int):=⟨w.toNat,by omega⟩
   have hwl:w < m.W.toNat:=by omega
   have hbit : ∀ v,(1#64 <<< w).getLsbD v=true→v < m.W.toNat:=fun v hv=>by have:=(zkC (by omega)).1 hv;omega
   have hl:=zpo hk0 hwl
   have hroot:=zlw (R:=zu m) hwl
   have hlen:=zne (n:=m.W.toNat) (R:=zu m) (w:=w)
   have hlt : ∀ x∈zcw m.W.toNat (zu m) w,x < m.W.toNat:=fun x hx=>(zku.1 hx).lt
   have hnd:=zgS m.W.toNat (zu m) w
   have hcan:zel m (w:Int)=if zfx (zA m (zcw m.W.toNat (zu m) w))=false then (zfq,[],16) else (zA m (zcW m w),(zcW m w).map fun (x:Nat)=>(x:Int),0):=by
    rw [zel,if_neg (by omega),if_neg hw,Int.toNat_natCast]
   have hcc:=zoV hk0 hwl
   have cg:=zom hT hk0 hbit
   have cr:=zpl hT hk0 (s:=zeS m (1#64 <<< w)) (fun e=>by
    rw [e,ze3] at hl;rw [← hl] at hroot;cases hroot) (fun v hv=>((zfS hk0).1 hv).lt)
   rw [hl] at cr
   generalize zeS m (1#64 <<< w)=gs at cg cr
   clear hl
   generalize hL:zcw m.W.toNat (zu m) w=l at hroot hlen hlt hnd hcan hcc cr
   have hll:1≤l.length:=List.length_pos_of_mem hroot
   have hp0:=zsz hk0 hll (by omega)
   have hpW:(zA m l).W.toNat=l.length:=Int.toNat_natCast _
   have hpI:(zA m l).W=(l.length:Int):=rfl
   have c1:=znJ hT hp0 (by rw [hpI];omega) (-1)
   have ci:=zpg (T:=T) (l.map fun (x:Nat)=>(x:Int)) (w:Int)
   rw [zsR hroot] at ci
   have c2:=znJ hT hp0 (by rw [hpI];omega) (l.idxOf w:Int)
   have hn:=zwy (p:=zA m l) (-1)
   rw [hpW] at c1 c2 hn
   refine zg zw zcx (by show 2≤95;decide) ?_
   cases hmin:zfx (zA m l) with
   | false =>
    have hne:(zcz (zA m l) (-1)).2≠l.length:=fun e=>by
     unfold zfx at hmin;rw [hpW,e] at hmin;simp at hmin
    rw [hcan,hmin,if_pos rfl]
    (repeat' ((conv=>whnf);first|refine vA ?_|refine vB fun b hb=>?_|refine vC (fun hl=>?_) fun i kv vv hi=>?_|refine vE ?_|refine vG ?_|refine vH ?_|((first|refine vD ?_ ?_|refine vF ?_ ?_|refine vI ?_ ?_)<;>intro hc<;>try simp only [vL] at hc)|refine vJ fun hg=>?_|refine vK fun hg=>?_|refine vT ?_|refine vN ‹_› ?_|(refine vQ ?_ fun x hx=>?_;·first|omega|(simp only [vM] at *;omega))|((first|refine vO ?_ ?_|refine vR ?_ ‹_› ?_|refine vS ?_ fun x hx=>?_|refine vP ?_ ?_);·first|omega|(simp only [vM] at *;omega))|refine vW ⟨by omega,by omega⟩ ?_|(refine vU ?_ ?_;·kernel_rfl)|refine vX ?_|refine vY ?_|refine vZ ?_|refine yD cc ⟨⟨rfl,rfl⟩,rfl⟩ rfl ?_|refine yN cg ⟨⟨rfl,rfl⟩,⟨rfl,rfl⟩,rfl⟩ ?_|refine yN cr ⟨⟨rfl,rfl⟩,⟨rfl,rfl⟩,rfl⟩ ?_|refine yN c1 ⟨⟨rfl,rfl⟩,⟨rfl,rfl⟩,rfl⟩ ?_|refine za.mk _ ‹_› ?_|refine vP (show (_:BitVec 64)≠_ by decide) ?_));all_goals try conv=>whnf
    ·exfalso;omega
    ·rfl
    ·have h : ¬((zcz (zA m l) (-1)).2:Int) < (l.length:Int):=by rw [← hpI];omega
     exfalso;omega
   | true =>
    have he:(zcz (zA m l) (-1)).2=l.length:=by
     unfold zfx at hmin;rw [hpW] at hmin;exact of_decide_eq_true hmin
    rw [hcan,hmin,if_neg (by decide)]
    obtain ⟨hq,ha,hw2⟩:=hcc hmin
    have c3:=zrQ (T:=T) (zA m l) (ptL l.length (zcz (zA m l) (l.idxOf w:Int)).1)
    rw [zfz,if_neg (by omega),if_pos (by rw [hpW];exact zkD hq),hpW,ha] at c3
    generalize (zcz (zA m l) (l.idxOf w:Int)).1=q at c2 c3 hq hw2
    have hln:(ptL l.length q).length=l.length:=zbJ
    (repeat' ((conv=>whnf);first|refine vA ?_|refine vB fun b hb=>?_|refine vC (fun hl=>?_) fun i kv vv hi=>?_|refine vE ?_|refine vG ?_|refine vH ?_|((first|refine vD ?_ ?_|refine vF ?_ ?_|refine vI ?_ ?_)<;>intro hc<;>try simp only [vL] at hc)|refine vJ fun hg=>?_|refine vK fun hg=>?_|refine vT ?_|refine vN ‹_› ?_|(refine vQ ?_ fun x hx=>?_;·first|omega|(simp only [vM] at *;omega))|((first|refine vO ?_ ?_|refine vR ?_ ‹_› ?_|refine vS ?_ fun x hx=>?_|refine vP ?_ ?_);·first|omega|(simp only [vM] at *;omega))|refine vW ⟨by omega,by omega⟩ ?_|(refine vU ?_ ?_;·kernel_rfl)|refine vX ?_|refine vY ?_|refine vZ ?_|refine yD cc ⟨⟨rfl,rfl⟩,rfl⟩ rfl ?_|refine yN cg ⟨⟨rfl,rfl⟩,⟨rfl,rfl⟩,rfl⟩ ?_|refine yN cr ⟨⟨rfl,rfl⟩,⟨rfl,rfl⟩,rfl⟩ ?_|refine yN c1 ⟨⟨rfl,rfl⟩,⟨rfl,rfl⟩,rfl⟩ ?_|refine yD ci ⟨⟨rfl,rfl⟩,⟨rfl,rfl⟩,rfl⟩ rfl ?_|refine yN c2 ⟨⟨rfl,rfl⟩,⟨rfl,rfl⟩,rfl⟩ ?_|refine yN c3 ⟨⟨rfl,rfl⟩,⟨rfl,rfl⟩,rfl⟩ ?_|refine za.mk _ ‹_› ?_|refine vP (show (_:BitVec 64)≠_ by decide) ?_));all_goals try conv=>whnf
    ·exfalso;omega
    ·exfalso;rw [hpI] at *;omega
    refine zj (fun ((k,zs):Nat×List D)=>[(4,.ptr 0 0),(11,.d (dN l)),(17,.ptr 1 0),(19,.own 2),(78,.d (dI (ptL l.length q))),(79,.d (.int .i64 (((ptL l.length q).map (D.int .i64)).length:Int))),(80,.d (.int .i64 ((k:Int))))]) (fun ((k,zs):Nat×List D)=>[(0,some (.box [.d (.int .i64 0),.nils 1,.nils 1])),(1,some (zac (zA m (zcW m w)))),(2,some (.row 1 zs))]) 3 (fun ((k,zs):Nat×List D)=>k≤l.length∧zs=(List.range l.length).map fun i=>D.int .i64 (if zcQ l.length q i < k then (l.getD (zcQ l.length q i) 0:Int) else 0)) (fun ((k,zs):Nat×List D)=>l.length - k) ((0,List.replicate ((((ptL l.length q).map (D.int .i64)).length:Int)).toNat (D.int .i64 0))) [(0,1),(1,3),(2,4)] [] (⟨by omega,by simp only [Nat.not_lt_zero,if_false];rw [List.length_map,zbJ,Int.toNat_natCast];exact zbg _ _⟩) (by (refine ⟨rfl,rfl,rfl,?_,?_⟩;repeat' first|exact trivial|exact rfl|exact ⟨_,rfl⟩|exact .inl rfl|exact .inr (.inl ⟨rfl,rfl⟩)|exact .inr (.inr ⟨rfl,rfl⟩)|refine And.intro ?_ ?_|refine ⟨_,rfl,?_⟩|decide|exact of_decide_eq_true rfl)) ?_
    rintro ⟨k,zs⟩ ⟨hk,hz⟩
    subst hz
    by_cases hkl:k < l.length
    ·have e1:=zaw (q:=q) hkl
     have e2:=zee hkl
     have er:(List.range l.length)[q k]? = some (q k):=List.getElem?_range (hq.lt k hkl)
     have hqk:=hq.lt k hkl
     (repeat' ((conv=>whnf);first|refine vA ?_|refine vB fun b hb=>?_|refine vC (fun hl=>?_) fun i kv vv hi=>?_|refine vE ?_|refine vG ?_|refine vH ?_|((first|refine vD ?_ ?_|refine vF ?_ ?_|refine vI ?_ ?_)<;>intro hc<;>try simp only [vL] at hc)|refine vJ fun hg=>?_|refine vK fun hg=>?_|refine vT ?_|refine vN ‹_› ?_|(refine vQ ?_ fun x hx=>?_;·first|omega|(simp only [vM] at *;omega))|((first|refine vO ?_ ?_|refine vR ?_ ‹_› ?_|refine vS ?_ fun x hx=>?_|refine vP ?_ ?_);·first|omega|(simp only [vM] at *;omega))|refine vW ⟨by omega,by omega⟩ ?_|(refine vU ?_ ?_;·kernel_rfl)|refine vX ?_|refine vY ?_|refine vZ ?_|refine za.mk _ ‹_› ?_|refine vP (show (_:BitVec 64)≠_ by decide) ?_));all_goals try conv=>whnf
     ·refine ⟨(k+1,_),[(0,0),(1,1),(2,2)],[],?_,?_,by (refine ⟨rfl,rfl,rfl,?_,?_⟩;repeat' first|exact trivial|exact rfl|exact ⟨_,rfl⟩|exact .inl rfl|exact .inr (.inl ⟨rfl,rfl⟩)|exact .inr (.inr ⟨rfl,rfl⟩)|refine And.intro ?_ ?_|refine ⟨_,rfl,?_⟩|decide|exact of_decide_eq_true rfl)⟩
      ·refine ⟨by omega,(zdm _).trans (zS fun u hu=>?_)⟩
       show (if u=q k then _ else _)=_
       by_cases e:u=q k
       ·subst e
        rw [if_pos rfl,zkx hq hkl,if_pos (by omega)]
       ·rw [if_neg e]
        have hne:zcQ l.length q u≠k:=fun e'=>e (by rw [← e'];exact (ziu hq hu).2.symm)
        by_cases e2:zcQ l.length q u < k
        ·rw [if_pos e2,if_pos (by omega)]
        ·rw [if_neg e2,if_neg (by omega)]
      ·(first|omega|(simp only [vM] at *;omega))
     all_goals (exfalso;omega)
    ·(repeat' ((conv=>whnf);first|refine vA ?_|refine vB fun b hb=>?_|refine vC (fun hl=>?_) fun i kv vv hi=>?_|refine vE ?_|refine vG ?_|refine vH ?_|((first|refine vD ?_ ?_|refine vF ?_ ?_|refine vI ?_ ?_)<;>intro hc<;>try simp only [vL] at hc)|refine vJ fun hg=>?_|refine vK fun hg=>?_|refine vT ?_|refine vN ‹_› ?_|(refine vQ ?_ fun x hx=>?_;·first|omega|(simp only [vM] at *;omega))|((first|refine vO ?_ ?_|refine vR ?_ ‹_› ?_|refine vS ?_ fun x hx=>?_|refine vP ?_ ?_);·first|omega|(simp only [vM] at *;omega))|refine vW ⟨by omega,by omega⟩ ?_|(refine vU ?_ ?_;·kernel_rfl)|refine vX ?_|refine vY ?_|refine vZ ?_|refine za.mk _ ‹_› ?_|refine vP (show (_:BitVec 64)≠_ by decide) ?_));all_goals try conv=>whnf
     all_goals try (exfalso;omega)
     have e0:k=l.length:=by omega
     refine congrArg (fun x=>some (D.tup [dKM (zA m (zcW m w)),D.arr 1 x,D.int .i64 0])) ?_
     rw [hw2,List.map_map,List.map_map]
     exact zS fun u hu=>by rw [if_pos (by rw [e0];exact (ziu hq hu).1)];rfl
 ·refine zg zw zcx (by show 2≤95;decide) ?_
  (repeat' ((conv=>whnf);first|refine vA ?_|refine vB fun b hb=>?_|refine vC (fun hl=>?_) fun i kv vv hi=>?_|refine vE ?_|refine vG ?_|refine vH ?_|((first|refine vD ?_ ?_|refine vF ?_ ?_|refine vI ?_ ?_)<;>intro hc<;>try simp only [vL] at hc)|refine vJ fun hg=>?_|refine vK fun hg=>?_|refine vT ?_|refine vN ‹_› ?_|(refine vQ ?_ fun x hx=>?_;·first|omega|(simp only [vM] at *;omega))|((first|refine vO ?_ ?_|refine vR ?_ ‹_› ?_|refine vS ?_ fun x hx=>?_|refine vP ?_ ?_);·first|omega|(simp only [vM] at *;omega))|refine vW ⟨by omega,by omega⟩ ?_|(refine vU ?_ ?_;·kernel_rfl)|refine vX ?_|refine vY ?_|refine vZ ?_|refine yD cc ⟨⟨rfl,rfl⟩,rfl⟩ rfl ?_|refine za.mk _ ‹_› ?_|refine vP (show (_:BitVec 64)≠_ by decide) ?_));all_goals try conv=>whnf
  ·rw [zel,if_pos hk0];rfl
  all_goals exact absurd ‹zm m=0› hk0
end Go.Ab
namespace Go.Ab
open Go Go.Proofs
set_option maxRecDepth 10000
set_option maxHeartbeats 4000000
variable {T:Nat→Obj→Prop}
theorem zvM (a b:List Int):Fn Tryz.prog T zeJ [.d (dI a),.d (dI b)] [] (.d (.int .i64 (zN z6 a b))) []:=by
 refine zg zw zjj (by show 2≤39;decide) ?_
 (repeat' ((conv=>whnf);first|refine vA ?_|refine vB fun b hb=>?_|refine vC (fun hl=>?_) fun i kv vv hi=>?_|refine vE ?_|refine vG ?_|refine vH ?_|((first|refine vD ?_ ?_|refine vF ?_ ?_|refine vI ?_ ?_)<;>intro hc<;>try simp only [vL] at hc)|refine vJ fun hg=>?_|refine vK fun hg=>?_|refine vT ?_|refine vN ‹_› ?_|(refine vQ ?_ fun x hx=>?_;·first|omega|(simp only [vM] at *;omega))|((first|refine vO ?_ ?_|refine vR ?_ ‹_› ?_|refine vS ?_ fun x hx=>?_|refine vP ?_ ?_);·first|omega|(simp only [vM] at *;omega))|refine vW ⟨by omega,by omega⟩ ?_|(refine vU ?_ ?_;·kernel_rfl)|refine vX ?_|refine vY ?_|refine vZ ?_|refine za.mk _ ‹_› ?_|refine vP (show (_:BitVec 64)≠_ by decide) ?_));all_goals try conv=>whnf
 refine zW (fun (k:Nat)=>[(0,.d (dI a)),(1,.d (dI b)),(7,.d (.int .i64 ((a.map (D.int .i64)).length:Int))),(8,.d (.int .i64 ((k:Int))))]) (fun (k:Nat)=>k≤a.length∧k≤b.length∧zN z6 a b=zN z6 (a.drop k) (b.drop k)) (fun (k:Nat)=>a.length - k) (0) (⟨by simp,by simp,rfl⟩) (by (repeat' first|exact trivial|exact rfl|exact ⟨_,rfl⟩|exact .inl rfl|exact .inr (.inl ⟨rfl,rfl⟩)|exact .inr (.inr ⟨rfl,rfl⟩)|refine And.intro ?_ ?_|refine ⟨_,rfl,?_⟩|decide|exact of_decide_eq_true rfl)) ?_
 rintro k ⟨hk,hk2,hI⟩
 by_cases hkl:k < a.length
 ·obtain ⟨x,hx⟩ : ∃ x,a[k]? = some x:=⟨_,List.getElem?_eq_getElem hkl⟩
  by_cases hkb:k < b.length
  ·obtain ⟨y,hy⟩ : ∃ y,b[k]? = some y:=⟨_,List.getElem?_eq_getElem hkb⟩
   have hs:zN z6 a b=if z6 x y=0 then zN z6 (a.drop (k+1)) (b.drop (k+1)) else z6 x y:=by rw [hI,zx hx,zx hy,zN]
   have hlt:x < y→z6 x y = -1:=fun h=>if_pos h
   have hgt : ¬x < y→x≠y→z6 x y=1:=fun h h'=>by rw [z6,if_neg h,if_pos (by omega)]
   (repeat' ((conv=>whnf);first|refine vA ?_|refine vB fun b hb=>?_|refine vC (fun hl=>?_) fun i kv vv hi=>?_|refine vE ?_|refine vG ?_|refine vH ?_|((first|refine vD ?_ ?_|refine vF ?_ ?_|refine vI ?_ ?_)<;>intro hc<;>try simp only [vL] at hc)|refine vJ fun hg=>?_|refine vK fun hg=>?_|refine vT ?_|refine vN ‹_› ?_|(refine vQ ?_ fun x hx=>?_;·first|omega|(simp only [vM] at *;omega))|((first|refine vO ?_ ?_|refine vR ?_ ‹_› ?_|refine vS ?_ fun x hx=>?_|refine vP ?_ ?_);·first|omega|(simp only [vM] at *;omega))|refine vW ⟨by omega,by omega⟩ ?_|(refine vU ?_ ?_;·kernel_rfl)|refine vX ?_|refine vY ?_|refine vZ ?_|refine za.mk _ ‹_› ?_|refine vP (show (_:BitVec 64)≠_ by decide) ?_));all_goals try conv=>whnf
   ·exfalso;omega
   ·rw [hs,hlt ‹x < y›,if_neg (by decide)]
   ·rw [hs,hgt (by omega) ‹x≠y›,if_neg (by decide)]
   ·have he:x=y:=‹_›
    subst he
    exact ⟨k+1,[],[],⟨by omega,by omega,by rw [hs,if_pos (zqZ.refl x)]⟩,by (first|omega|(simp only [vM] at *;omega)),by (refine ⟨rfl,rfl,rfl,?_,?_⟩;repeat' first|exact trivial|exact rfl|exact ⟨_,rfl⟩|exact .inl rfl|exact .inr (.inl ⟨rfl,rfl⟩)|exact .inr (.inr ⟨rfl,rfl⟩)|refine And.intro ?_ ?_|refine ⟨_,rfl,?_⟩|decide|exact of_decide_eq_true rfl)⟩
   all_goals (exfalso;omega)
  ·(repeat' ((conv=>whnf);first|refine vA ?_|refine vB fun b hb=>?_|refine vC (fun hl=>?_) fun i kv vv hi=>?_|refine vE ?_|refine vG ?_|refine vH ?_|((first|refine vD ?_ ?_|refine vF ?_ ?_|refine vI ?_ ?_)<;>intro hc<;>try simp only [vL] at hc)|refine vJ fun hg=>?_|refine vK fun hg=>?_|refine vT ?_|refine vN ‹_› ?_|(refine vQ ?_ fun x hx=>?_;·first|omega|(simp only [vM] at *;omega))|((first|refine vO ?_ ?_|refine vR ?_ ‹_› ?_|refine vS ?_ fun x hx=>?_|refine vP ?_ ?_);·first|omega|(simp only [vM] at *;omega))|refine vW ⟨by omega,by omega⟩ ?_|(refine vU ?_ ?_;·kernel_rfl)|refine vX ?_|refine vY ?_|refine vZ ?_|refine za.mk _ ‹_› ?_|refine vP (show (_:BitVec 64)≠_ by decide) ?_));all_goals try conv=>whnf
   ·rw [hI,List.drop_eq_nil_of_le (show b.length≤k by omega),zx hx,zN]
   all_goals (exfalso;omega)
 ·rw [List.drop_eq_nil_of_le (show a.length≤k by omega)] at hI
  (repeat' ((conv=>whnf);first|refine vA ?_|refine vB fun b hb=>?_|refine vC (fun hl=>?_) fun i kv vv hi=>?_|refine vE ?_|refine vG ?_|refine vH ?_|((first|refine vD ?_ ?_|refine vF ?_ ?_|refine vI ?_ ?_)<;>intro hc<;>try simp only [vL] at hc)|refine vJ fun hg=>?_|refine vK fun hg=>?_|refine vT ?_|refine vN ‹_› ?_|(refine vQ ?_ fun x hx=>?_;·first|omega|(simp only [vM] at *;omega))|((first|refine vO ?_ ?_|refine vR ?_ ‹_› ?_|refine vS ?_ fun x hx=>?_|refine vP ?_ ?_);·first|omega|(simp only [vM] at *;omega))|refine vW ⟨by omega,by omega⟩ ?_|(refine vU ?_ ?_;·kernel_rfl)|refine vX ?_|refine vY ?_|refine vZ ?_|refine za.mk _ ‹_› ?_|refine vP (show (_:BitVec 64)≠_ by decide) ?_));all_goals try conv=>whnf
  iterate 4 (exfalso;omega)
  ·obtain ⟨y,hy⟩ : ∃ y,b[k]? = some y:=⟨_,List.getElem?_eq_getElem (by omega)⟩
   rw [hI,zx hy,zN]
  ·rw [hI,List.drop_eq_nil_of_le (show b.length≤k by omega),zN]
theorem znG (a b:Tup) (h:a.length=b.length):Fn Tryz.prog T zd9 [.d (dII a),.d (dII b)] [] (.d (.int .i64 (z7 a b))) []:=by
 refine zg zw zhM (by show 2≤25;decide) ?_
 (repeat' ((conv=>whnf);first|refine vA ?_|refine vB fun b hb=>?_|refine vC (fun hl=>?_) fun i kv vv hi=>?_|refine vE ?_|refine vG ?_|refine vH ?_|((first|refine vD ?_ ?_|refine vF ?_ ?_|refine vI ?_ ?_)<;>intro hc<;>try simp only [vL] at hc)|refine vJ fun hg=>?_|refine vK fun hg=>?_|refine vT ?_|refine vN ‹_› ?_|(refine vQ ?_ fun x hx=>?_;·first|omega|(simp only [vM] at *;omega))|((first|refine vO ?_ ?_|refine vR ?_ ‹_› ?_|refine vS ?_ fun x hx=>?_|refine vP ?_ ?_);·first|omega|(simp only [vM] at *;omega))|refine vW ⟨by omega,by omega⟩ ?_|(refine vU ?_ ?_;·kernel_rfl)|refine vX ?_|refine vY ?_|refine vZ ?_|refine za.mk _ ‹_› ?_|refine vP (show (_:BitVec 64)≠_ by decide) ?_));all_goals try conv=>whnf
 refine zW (fun (k:Nat)=>[(0,.d (dII a)),(1,.d (dII b)),(8,.d (.int .i64 ((a.map dI).length:Int))),(9,.d (.int .i64 ((k:Int))))]) (fun (k:Nat)=>k≤a.length∧z7 a b=zN (zN z6) (a.drop k) (b.drop k)) (fun (k:Nat)=>a.length - k) (0) (⟨by simp,rfl⟩) (by (repeat' first|exact trivial|exact rfl|exact ⟨_,rfl⟩|exact .inl rfl|exact .inr (.inl ⟨rfl,rfl⟩)|exact .inr (.inr ⟨rfl,rfl⟩)|refine And.intro ?_ ?_|refine ⟨_,rfl,?_⟩|decide|exact of_decide_eq_true rfl)) ?_
 rintro k ⟨hk,hI⟩
 by_cases hkl:k < a.length
 ·obtain ⟨x,hx⟩ : ∃ x,a[k]? = some x:=⟨_,List.getElem?_eq_getElem hkl⟩
  obtain ⟨y,hy⟩ : ∃ y,b[k]? = some y:=⟨_,List.getElem?_eq_getElem (by omega)⟩
  have hs:z7 a b=if zN z6 x y=0 then zN (zN z6) (a.drop (k+1)) (b.drop (k+1)) else zN z6 x y:=by rw [hI,zx hx,zx hy,zN]
  (repeat' ((conv=>whnf);first|refine vA ?_|refine vB fun b hb=>?_|refine vC (fun hl=>?_) fun i kv vv hi=>?_|refine vE ?_|refine vG ?_|refine vH ?_|((first|refine vD ?_ ?_|refine vF ?_ ?_|refine vI ?_ ?_)<;>intro hc<;>try simp only [vL] at hc)|refine vJ fun hg=>?_|refine vK fun hg=>?_|refine vT ?_|refine vN ‹_› ?_|(refine vQ ?_ fun x hx=>?_;·first|omega|(simp only [vM] at *;omega))|((first|refine vO ?_ ?_|refine vR ?_ ‹_› ?_|refine vS ?_ fun x hx=>?_|refine vP ?_ ?_);·first|omega|(simp only [vM] at *;omega))|refine vW ⟨by omega,by omega⟩ ?_|(refine vU ?_ ?_;·kernel_rfl)|refine vX ?_|refine vY ?_|refine vZ ?_|refine yD (zvM x y) ⟨⟨rfl,rfl⟩,⟨rfl,rfl⟩,rfl⟩ rfl ?_|refine za.mk _ ‹_› ?_|refine vP (show (_:BitVec 64)≠_ by decide) ?_));all_goals try conv=>whnf
  ·rw [hs,if_neg hc]
  ·exact ⟨k+1,[],[],⟨by omega,by rw [hs,if_pos hc]⟩,by (first|omega|(simp only [vM] at *;omega)),by (refine ⟨rfl,rfl,rfl,?_,?_⟩;repeat' first|exact trivial|exact rfl|exact ⟨_,rfl⟩|exact .inl rfl|exact .inr (.inl ⟨rfl,rfl⟩)|exact .inr (.inr ⟨rfl,rfl⟩)|refine And.intro ?_ ?_|refine ⟨_,rfl,?_⟩|decide|exact of_decide_eq_true rfl)⟩
  ·exfalso;omega
 ·(repeat' ((conv=>whnf);first|refine vA ?_|refine vB fun b hb=>?_|refine vC (fun hl=>?_) fun i kv vv hi=>?_|refine vE ?_|refine vG ?_|refine vH ?_|((first|refine vD ?_ ?_|refine vF ?_ ?_|refine vI ?_ ?_)<;>intro hc<;>try simp only [vL] at hc)|refine vJ fun hg=>?_|refine vK fun hg=>?_|refine vT ?_|refine vN ‹_› ?_|(refine vQ ?_ fun x hx=>?_;·first|omega|(simp only [vM] at *;omega))|((first|refine vO ?_ ?_|refine vR ?_ ‹_› ?_|refine vS ?_ fun x hx=>?_|refine vP ?_ ?_);·first|omega|(simp only [vM] at *;omega))|refine vW ⟨by omega,by omega⟩ ?_|(refine vU ?_ ?_;·kernel_rfl)|refine vX ?_|refine vY ?_|refine vZ ?_|refine za.mk _ ‹_› ?_|refine vP (show (_:BitVec 64)≠_ by decide) ?_));all_goals try conv=>whnf
  ·exfalso;omega
  ·rw [hI,List.drop_eq_nil_of_le (by omega),List.drop_eq_nil_of_le (by omega),zN]
theorem zsY (ts:List Tup) (h0:ts≠[]) (h64:ts.length≤64) (hl : ∀ s∈ts,∀ t∈ts,s.length=t.length):Fn Tryz.prog T zcv [.d (.arr 1 (ts.map dII))] [] (.d (.tup [dN (ts.map (rkN ts)),.int .i64 (cnN ts:Int)])) []:=by
 have hcn:cnN ts≤ts.length:=zaL (zba ts) fun x hx=>zV.1 hx
 refine zg zw ziL (by show 1≤64;decide) ?_
 (repeat' ((conv=>whnf);first|refine vA ?_|refine vB fun b hb=>?_|refine vC (fun hl=>?_) fun i kv vv hi=>?_|refine vE ?_|refine vG ?_|refine vH ?_|((first|refine vD ?_ ?_|refine vF ?_ ?_|refine vI ?_ ?_)<;>intro hc<;>try simp only [vL] at hc)|refine vJ fun hg=>?_|refine vK fun hg=>?_|refine vT ?_|refine vN ‹_› ?_|(refine vQ ?_ fun x hx=>?_;·first|omega|(simp only [vM] at *;omega))|((first|refine vO ?_ ?_|refine vR ?_ ‹_› ?_|refine vS ?_ fun x hx=>?_|refine vP ?_ ?_);·first|omega|(simp only [vM] at *;omega))|refine vW ⟨by omega,by omega⟩ ?_|(refine vU ?_ ?_;·kernel_rfl)|refine vX ?_|refine vY ?_|refine vZ ?_|refine za.mk _ ‹_› ?_|refine vP (show (_:BitVec 64)≠_ by decide) ?_));all_goals try conv=>whnf
 refine zj (fun ((i,most,zs):Nat×Int×List D)=>[(0,.d (.arr 1 (ts.map dII))),(4,.own 0),(5,.d (.int .i64 (most))),(12,.d (.int .i64 ((ts.map dII).length:Int))),(13,.d (.int .i64 ((i:Int))))]) (fun ((i,most,zs):Nat×Int×List D)=>[(0,some (.row 1 zs))]) 1 (fun ((i,most,zs):Nat×Int×List D)=>i≤ts.length∧zs=((ts.take i).map (rkN ts)).map (fun (x:Nat)=>D.int .i64 (x:Int))∧(0≤most∧most≤cnN ts) ∧ ∀ t∈ts.take i,(rkN ts t:Int)+1≤most) (fun ((i,most,zs):Nat×Int×List D)=>ts.length - i) ((0,0,[])) []   [0] (⟨by omega,by simp,⟨by omega,by omega⟩,by simp⟩) (by (refine ⟨rfl,rfl,rfl,?_,?_⟩;repeat' first|exact trivial|exact rfl|exact ⟨_,rfl⟩|exact .inl rfl|exact .inr (.inl ⟨rfl,rfl⟩)|exact .inr (.inr ⟨rfl,rfl⟩)|refine And.intro ?_ ?_|refine ⟨_,rfl,?_⟩|decide|exact of_decide_eq_true rfl)) ?_
 rintro ⟨i,most,zs⟩ ⟨hi,hz,hm,hM⟩
 have hzl:zs.length≤64:=by rw [hz];simp;omega
 by_cases hil:i < ts.length
 ·have hti:=zaZ (d:=[]) hil
  have htm:=List.mem_of_getElem? hti
  generalize ts.getD i []=t at hti htm
  (repeat' ((conv=>whnf);first|refine vA ?_|refine vB fun b hb=>?_|refine vC (fun hl=>?_) fun i kv vv hi=>?_|refine vE ?_|refine vG ?_|refine vH ?_|((first|refine vD ?_ ?_|refine vF ?_ ?_|refine vI ?_ ?_)<;>intro hc<;>try simp only [vL] at hc)|refine vJ fun hg=>?_|refine vK fun hg=>?_|refine vT ?_|refine vN ‹_› ?_|(refine vQ ?_ fun x hx=>?_;·first|omega|(simp only [vM] at *;omega))|((first|refine vO ?_ ?_|refine vR ?_ ‹_› ?_|refine vS ?_ fun x hx=>?_|refine vP ?_ ?_);·first|omega|(simp only [vM] at *;omega))|refine vW ⟨by omega,by omega⟩ ?_|(refine vU ?_ ?_;·kernel_rfl)|refine vX ?_|refine vY ?_|refine vZ ?_|refine za.mk _ ‹_› ?_|refine vP (show (_:BitVec 64)≠_ by decide) ?_));all_goals try conv=>whnf
  ·refine zj (fun ((j,n):Nat×Nat)=>[(0,.d (.arr 1 (ts.map dII))),(4,.own 0),(5,.d (.int .i64 (most))),(6,.d (.int .i64 ((i:Int)))),(7,.d (.int .i64 ((n:Int)))),(12,.d (.int .i64 ((ts.map dII).length:Int))),(13,.d (.int .i64 ((i:Int)))),(17,.d (.int .i64 ((ts.map dII).length:Int))),(18,.d (.int .i64 ((j:Int))))]) (fun ((j,n):Nat×Nat)=>[(0,some (.row 1 zs))]) 1 (fun ((j,n):Nat×Nat)=>j≤ts.length∧n=zln ts t j) (fun ((j,n):Nat×Nat)=>ts.length - j) ((0,0)) [(0,0)] [] (⟨by omega,rfl⟩) (by (refine ⟨rfl,rfl,rfl,?_,?_⟩;repeat' first|exact trivial|exact rfl|exact ⟨_,rfl⟩|exact .inl rfl|exact .inr (.inl ⟨rfl,rfl⟩)|exact .inr (.inr ⟨rfl,rfl⟩)|refine And.intro ?_ ?_|refine ⟨_,rfl,?_⟩|decide|exact of_decide_eq_true rfl)) ?_
   rintro ⟨j,n⟩ ⟨hj,hn⟩
   have hnj:n≤j:=by
    rw [hn];unfold zln
    have:=List.length_filter_le (fun j=>decide (z7 (ts.getD j []) t < 0)&&zdg ts j) (List.range j)
    rwa [List.length_range] at this
   by_cases hjl:j < ts.length
   ·have htj:=zaZ (d:=[]) hjl
    have hjm:=List.mem_of_getElem? htj
    have hsucc:=zsL ts t j
    have hfB:=ziw (ts:=ts) (j:=j)
    generalize htjd:ts.getD j []=tj at htj hjm hsucc hfB
    have cb:=znG (T:=T) tj t (hl _ hjm _ htm)
    (repeat' ((conv=>whnf);first|refine vA ?_|refine vB fun b hb=>?_|refine vC (fun hl=>?_) fun i kv vv hi=>?_|refine vE ?_|refine vG ?_|refine vH ?_|((first|refine vD ?_ ?_|refine vF ?_ ?_|refine vI ?_ ?_)<;>intro hc<;>try simp only [vL] at hc)|refine vJ fun hg=>?_|refine vK fun hg=>?_|refine vT ?_|refine vN ‹_› ?_|(refine vQ ?_ fun x hx=>?_;·first|omega|(simp only [vM] at *;omega))|((first|refine vO ?_ ?_|refine vR ?_ ‹_› ?_|refine vS ?_ fun x hx=>?_|refine vP ?_ ?_);·first|omega|(simp only [vM] at *;omega))|refine vW ⟨by omega,by omega⟩ ?_|(refine vU ?_ ?_;·kernel_rfl)|refine vX ?_|refine vY ?_|refine vZ ?_|refine yD cb ⟨⟨rfl,rfl⟩,⟨rfl,rfl⟩,rfl⟩ rfl ?_|refine za.mk _ ‹_› ?_|refine vP (show (_:BitVec 64)≠_ by decide) ?_));all_goals try conv=>whnf
    ·refine ⟨(j+1,n),[(0,0)],[],?_,?_,by (refine ⟨rfl,rfl,rfl,?_,?_⟩;repeat' first|exact trivial|exact rfl|exact ⟨_,rfl⟩|exact .inl rfl|exact .inr (.inl ⟨rfl,rfl⟩)|exact .inr (.inr ⟨rfl,rfl⟩)|refine And.intro ?_ ?_|refine ⟨_,rfl,?_⟩|decide|exact of_decide_eq_true rfl)⟩
     ·refine ⟨by omega,?_⟩
      rw [hsucc,if_neg (fun h=>by have:=h.1;omega)];exact hn
     ·(first|omega|(simp only [vM] at *;omega))
    ·refine zj (fun ((k,f):Nat×Bool)=>[(0,.d (.arr 1 (ts.map dII))),(4,.own 0),(5,.d (.int .i64 (most))),(6,.d (.int .i64 ((i:Int)))),(7,.d (.int .i64 ((n:Int)))),(8,.d (.int .i64 ((j:Int)))),(9,.d (.bool (f))),(10,.d (.int .i64 ((k:Int)))),(12,.d (.int .i64 ((ts.map dII).length:Int))),(13,.d (.int .i64 ((i:Int)))),(17,.d (.int .i64 ((ts.map dII).length:Int))),(18,.d (.int .i64 ((j:Int))))]) (fun ((k,f):Nat×Bool)=>[(0,some (.row 1 zs))]) 1 (fun ((k,f):Nat×Bool)=>k≤j∧(f=true ↔ ∀ k',k' < k→ts.getD k' []≠tj)) (fun ((k,f):Nat×Bool)=>j - k) ((0,true)) [(0,0)] [] (⟨by omega,by simp⟩) (by (refine ⟨rfl,rfl,rfl,?_,?_⟩;repeat' first|exact trivial|exact rfl|exact ⟨_,rfl⟩|exact .inl rfl|exact .inr (.inl ⟨rfl,rfl⟩)|exact .inr (.inr ⟨rfl,rfl⟩)|refine And.intro ?_ ?_|refine ⟨_,rfl,?_⟩|decide|exact of_decide_eq_true rfl)) ?_
     rintro ⟨k,f⟩ ⟨hk,hf⟩
     by_cases hkj:k < j
     ·have htk:=zaZ (d:=[]) (show k < ts.length by omega)
      have cd:=znG (T:=T) (ts.getD k []) tj (hl _ (List.mem_of_getElem? htk) _ hjm)
      have hnx : ∀ g:Bool,(g=true↔f=true∧ts.getD k []≠tj)→(g=true ↔ ∀ k',k' < k+1→ts.getD k' []≠tj):=fun g hg=>by
       rw [hg,hf]
       refine ⟨fun h k' hk'=>?_,fun h=>⟨fun k' hk'=>h k' (by omega),h k (by omega)⟩⟩
       by_cases e:k'=k
       ·subst e;exact h.2
       ·exact h.1 k' (by omega)
      have hne:z7 (ts.getD k []) tj≠0↔ts.getD k []≠tj:=not_congr zZ.zero
      (repeat' ((conv=>whnf);first|refine vA ?_|refine vB fun b hb=>?_|refine vC (fun hl=>?_) fun i kv vv hi=>?_|refine vE ?_|refine vG ?_|refine vH ?_|((first|refine vD ?_ ?_|refine vF ?_ ?_|refine vI ?_ ?_)<;>intro hc<;>try simp only [vL] at hc)|refine vJ fun hg=>?_|refine vK fun hg=>?_|refine vT ?_|refine vN ‹_› ?_|(refine vQ ?_ fun x hx=>?_;·first|omega|(simp only [vM] at *;omega))|((first|refine vO ?_ ?_|refine vR ?_ ‹_› ?_|refine vS ?_ fun x hx=>?_|refine vP ?_ ?_);·first|omega|(simp only [vM] at *;omega))|refine vW ⟨by omega,by omega⟩ ?_|(refine vU ?_ ?_;·kernel_rfl)|refine vX ?_|refine vY ?_|refine vZ ?_|refine yD cd ⟨⟨rfl,rfl⟩,⟨rfl,rfl⟩,rfl⟩ rfl ?_|refine za.mk _ ‹_› ?_|refine vP (show (_:BitVec 64)≠_ by decide) ?_));all_goals try conv=>whnf
      ·refine ⟨(k+1,decide (z7 (ts.getD k []) tj≠0)),[(0,0)],[],?_,?_,by (refine ⟨rfl,rfl,rfl,?_,?_⟩;repeat' first|exact trivial|exact rfl|exact ⟨_,rfl⟩|exact .inl rfl|exact .inr (.inl ⟨rfl,rfl⟩)|exact .inr (.inr ⟨rfl,rfl⟩)|refine And.intro ?_ ?_|refine ⟨_,rfl,?_⟩|decide|exact of_decide_eq_true rfl)⟩
       ·exact ⟨by omega,hnx _ (by rw [decide_eq_true_eq,hne];exact ⟨fun h=>⟨‹f=true›,h⟩,fun h=>h.2⟩)⟩
       ·(first|omega|(simp only [vM] at *;omega))
      ·refine ⟨(k+1,false),[(0,0)],[],?_,?_,by (refine ⟨rfl,rfl,rfl,?_,?_⟩;repeat' first|exact trivial|exact rfl|exact ⟨_,rfl⟩|exact .inl rfl|exact .inr (.inl ⟨rfl,rfl⟩)|exact .inr (.inr ⟨rfl,rfl⟩)|refine And.intro ?_ ?_|refine ⟨_,rfl,?_⟩|decide|exact of_decide_eq_true rfl)⟩
       ·exact ⟨by omega,hnx _ (by have h2:=‹f=false›;rw [h2];simp)⟩
       ·(first|omega|(simp only [vM] at *;omega))
      all_goals (exfalso;omega)
     ·(repeat' ((conv=>whnf);first|refine vA ?_|refine vB fun b hb=>?_|refine vC (fun hl=>?_) fun i kv vv hi=>?_|refine vE ?_|refine vG ?_|refine vH ?_|((first|refine vD ?_ ?_|refine vF ?_ ?_|refine vI ?_ ?_)<;>intro hc<;>try simp only [vL] at hc)|refine vJ fun hg=>?_|refine vK fun hg=>?_|refine vT ?_|refine vN ‹_› ?_|(refine vQ ?_ fun x hx=>?_;·first|omega|(simp only [vM] at *;omega))|((first|refine vO ?_ ?_|refine vR ?_ ‹_› ?_|refine vS ?_ fun x hx=>?_|refine vP ?_ ?_);·first|omega|(simp only [vM] at *;omega))|refine vW ⟨by omega,by omega⟩ ?_|(refine vU ?_ ?_;·kernel_rfl)|refine vX ?_|refine vY ?_|refine vZ ?_|refine za.mk _ ‹_› ?_|refine vP (show (_:BitVec 64)≠_ by decide) ?_));all_goals try conv=>whnf
      iterate 2 (exfalso;omega)
      ·refine ⟨(j+1,n+1),[(0,0)],[],?_,?_,by (refine ⟨rfl,rfl,rfl,?_,?_⟩;repeat' first|exact trivial|exact rfl|exact ⟨_,rfl⟩|exact .inl rfl|exact .inr (.inl ⟨rfl,rfl⟩)|exact .inr (.inr ⟨rfl,rfl⟩)|refine And.intro ?_ ?_|refine ⟨_,rfl,?_⟩|decide|exact of_decide_eq_true rfl)⟩
       ·refine ⟨by omega,?_⟩
        rw [hsucc,if_pos ⟨by omega,hfB.2 fun k' hk'=>(hf.1 ‹f=true›) k' (by omega)⟩,← hn]
       ·(first|omega|(simp only [vM] at *;omega))
      ·refine ⟨(j+1,n),[(0,0)],[],?_,?_,by (refine ⟨rfl,rfl,rfl,?_,?_⟩;repeat' first|exact trivial|exact rfl|exact ⟨_,rfl⟩|exact .inl rfl|exact .inr (.inl ⟨rfl,rfl⟩)|exact .inr (.inr ⟨rfl,rfl⟩)|refine And.intro ?_ ?_|refine ⟨_,rfl,?_⟩|decide|exact of_decide_eq_true rfl)⟩
       ·refine ⟨by omega,?_⟩
        rw [hsucc,if_neg (fun h=>by
         have h2:=hf.2 fun k' hk'=>(hfB.1 h.2) k' (by omega)
         rw [‹f=false›] at h2;cases h2),← hn];rfl
       ·(first|omega|(simp only [vM] at *;omega))
    ·exfalso;omega
   ·(repeat' ((conv=>whnf);first|refine vA ?_|refine vB fun b hb=>?_|refine vC (fun hl=>?_) fun i kv vv hi=>?_|refine vE ?_|refine vG ?_|refine vH ?_|((first|refine vD ?_ ?_|refine vF ?_ ?_|refine vI ?_ ?_)<;>intro hc<;>try simp only [vL] at hc)|refine vJ fun hg=>?_|refine vK fun hg=>?_|refine vT ?_|refine vN ‹_› ?_|(refine vQ ?_ fun x hx=>?_;·first|omega|(simp only [vM] at *;omega))|((first|refine vO ?_ ?_|refine vR ?_ ‹_› ?_|refine vS ?_ fun x hx=>?_|refine vP ?_ ?_);·first|omega|(simp only [vM] at *;omega))|refine vW ⟨by omega,by omega⟩ ?_|(refine vU ?_ ?_;·kernel_rfl)|refine vX ?_|refine vY ?_|refine vZ ?_|refine za.mk _ ‹_› ?_|refine vP (show (_:BitVec 64)≠_ by decide) ?_));all_goals try conv=>whnf
    ·exfalso;omega
    ·have e0:j=ts.length:=by omega
     rw [e0,zvF] at hn
     have hlt:=zgt htm
     refine ⟨(i+1,max most ((n:Int)+1),_),[(0,2)],[],?_,?_,by (refine ⟨rfl,rfl,rfl,?_,?_⟩;repeat' first|exact trivial|exact rfl|exact ⟨_,rfl⟩|exact .inl rfl|exact .inr (.inl ⟨rfl,rfl⟩)|exact .inr (.inr ⟨rfl,rfl⟩)|refine And.intro ?_ ?_|refine ⟨_,rfl,?_⟩|decide|exact of_decide_eq_true rfl)⟩
     ·refine ⟨by omega,?_,⟨by omega,by omega⟩,fun s hs=>?_⟩
      ·rw [List.take_add_one,hti,hz,hn];simp
      ·rw [List.take_add_one,hti] at hs
       rcases List.mem_append.1 hs with hs|hs
       ·have:=hM s hs;omega
       ·simp only [Option.toList_some,List.mem_singleton] at hs;subst hs;omega
     ·(first|omega|(simp only [vM] at *;omega))
  ·exfalso;omega
 ·(repeat' ((conv=>whnf);first|refine vA ?_|refine vB fun b hb=>?_|refine vC (fun hl=>?_) fun i kv vv hi=>?_|refine vE ?_|refine vG ?_|refine vH ?_|((first|refine vD ?_ ?_|refine vF ?_ ?_|refine vI ?_ ?_)<;>intro hc<;>try simp only [vL] at hc)|refine vJ fun hg=>?_|refine vK fun hg=>?_|refine vT ?_|refine vN ‹_› ?_|(refine vQ ?_ fun x hx=>?_;·first|omega|(simp only [vM] at *;omega))|((first|refine vO ?_ ?_|refine vR ?_ ‹_› ?_|refine vS ?_ fun x hx=>?_|refine vP ?_ ?_);·first|omega|(simp only [vM] at *;omega))|refine vW ⟨by omega,by omega⟩ ?_|(refine vU ?_ ?_;·kernel_rfl)|refine vX ?_|refine vY ?_|refine vZ ?_|refine za.mk _ ‹_› ?_|refine vP (show (_:BitVec 64)≠_ by decide) ?_));all_goals try conv=>whnf
  ·exfalso;omega
  ·obtain ⟨t,ht,ht2⟩:=zwx h0
   rw [List.take_of_length_le (by omega)] at hM hz
   have:=hM t ht
   have e0:most=(cnN ts:Int):=by omega
   refine congrArg some (show D.tup [.arr 1 zs,.int .i64 most]=_ from ?_)
   rw [hz,e0]
   simp [Function.comp_def]
end Go.Ab
namespace Go.Ab
open Go Go.Proofs
set_option maxRecDepth 10000
set_option maxHeartbeats 4000000
variable {T:Nat→Obj→Prop}
def shF (o:List Int) (i j:Nat):Int:=if j≤i then (o++[0]).getD j 0 else o.getD (j - 1) 0
theorem ztw {o:List Int} : (List.range (o.length+1)).map (fun j=>D.int .i64 (shF o o.length j))=(o.map (D.int .i64))++[D.int .i64 0]:=by
 refine zdW (d := .nil) (by simp) fun j hj=>?_
 simp only [List.length_map,List.length_range] at hj
 rw [show ((List.range (o.length+1)).map fun j=>D.int .i64 (shF o o.length j)).getD j .nil=D.int .i64 (shF o o.length j) by simp [List.getD,hj]]
 unfold shF
 rw [if_pos (by omega)]
 rw [show (o.map (D.int .i64))++[D.int .i64 0]=(o++[0]).map (D.int .i64) by simp,List.getD,List.getD,List.getElem?_map,List.getElem?_eq_getElem (show j < (o++[0]).length by simp;omega)];rfl
theorem zvO {o:List Int} {x:Int} {a:Nat} (ha:a=atI o x):(List.range (o.length+1)).map (fun j=>D.int .i64 (if j=a then x else shF o a j))=(ziB o x).map (D.int .i64):=by
 subst ha
 have hle:=zsB o x
 unfold ziB
 refine zdW (d := .nil) (by simp;omega) fun j hj=>?_
 simp only [List.length_map,List.length_range] at hj
 rw [show ((List.range (o.length+1)).map fun j=>D.int .i64 (if j=atI o x then x else shF o (atI o x) j)).getD j .nil=D.int .i64 (if j=atI o x then x else shF o (atI o x) j) by simp [List.getD,hj]]
 rw [List.getD,List.getElem?_map]
 have key:(o.take (atI o x)++x::o.drop (atI o x))[j]? = some (if j=atI o x then x else shF o (atI o x) j):=by
  have htl:(o.take (atI o x)).length=atI o x:=by simp;omega
  by_cases h1:j < atI o x
  ·rw [List.getElem?_append_left (by omega),List.getElem?_take,if_pos h1,if_neg (by omega),shF,if_pos (by omega),List.getD,List.getElem?_append_left (by omega),List.getElem?_eq_getElem (by omega)];rfl
  ·rw [List.getElem?_append_right (by omega),htl]
   by_cases h2:j=atI o x
   ·subst h2;rw [Nat.sub_self,if_pos rfl];rfl
   ·rw [show j - atI o x=(j - 1 - atI o x)+1 by omega,List.getElem?_cons_succ,List.getElem?_drop,show atI o x+(j - 1 - atI o x)=j - 1 by omega,if_neg h2,shF,if_neg (by omega),List.getD,List.getElem?_eq_getElem (by omega)];rfl
 rw [key];rfl
theorem zqa (once:Bool) (l:List Int):(zeD once l).length≤l.length:=by
 unfold zeD
 split
 ·unfold zdJ
  rw [(za2 _).length_eq]
  exact zaL (zba l) fun x hx=>zV.1 hx
 ·rw [(za2 _).length_eq];exact Nat.le_refl _
theorem zsZ (l:List Int) (hl:l.length≤1000) (once:Bool):Fn Tryz.prog T zeb [.d (dI l),.d (.bool once)] [] (.d (dI (zeD once l))) []:=by
 refine zg zw zhO (by show 2≤70;decide) ?_
 (repeat' ((conv=>whnf);first|refine vA ?_|refine vB fun b hb=>?_|refine vC (fun hl=>?_) fun i kv vv hi=>?_|refine vE ?_|refine vG ?_|refine vH ?_|((first|refine vD ?_ ?_|refine vF ?_ ?_|refine vI ?_ ?_)<;>intro hc<;>try simp only [vL] at hc)|refine vJ fun hg=>?_|refine vK fun hg=>?_|refine vT ?_|refine vN ‹_› ?_|(refine vQ ?_ fun x hx=>?_;·first|omega|(simp only [vM] at *;omega))|((first|refine vO ?_ ?_|refine vR ?_ ‹_› ?_|refine vS ?_ fun x hx=>?_|refine vP ?_ ?_);·first|omega|(simp only [vM] at *;omega))|refine vW ⟨by omega,by omega⟩ ?_|(refine vU ?_ ?_;·kernel_rfl)|refine vX ?_|refine vY ?_|refine vZ ?_|refine za.mk _ ‹_› ?_|refine vP (show (_:BitVec 64)≠_ by decide) ?_));all_goals try conv=>whnf
 refine zj (fun ((k,zs):Nat×List D)=>[(1,.d (.bool (once))),(5,.own 0),(10,.d (dI l)),(11,.d (.int .i64 ((l.map (D.int .i64)).length:Int))),(12,.d (.int .i64 ((k:Int))))]) (fun ((k,zs):Nat×List D)=>[(0,some (.row 1 zs))]) 1 (fun ((k,zs):Nat×List D)=>k≤l.length∧zs=(zeD once (l.take k)).map (D.int .i64)) (fun ((k,zs):Nat×List D)=>l.length - k) ((0,[])) []   [0] (⟨by omega,by
  have h:zeD once []=[]:=List.eq_nil_of_length_eq_zero (Nat.le_zero.1 (zqa once []))
  simp [h]⟩) (by (refine ⟨rfl,rfl,rfl,?_,?_⟩;repeat' first|exact trivial|exact rfl|exact ⟨_,rfl⟩|exact .inl rfl|exact .inr (.inl ⟨rfl,rfl⟩)|exact .inr (.inr ⟨rfl,rfl⟩)|refine And.intro ?_ ?_|refine ⟨_,rfl,?_⟩|decide|exact of_decide_eq_true rfl)) ?_
 rintro ⟨k,zs⟩ ⟨hk,hz⟩
 have hol:=zqa once (l.take k)
 have hsn:=fun x (hx:l[k]? = some x)=>ztT once (l.take k) x
 generalize hO:zeD once (l.take k)=o at hz hol hsn
 subst hz
 have hol':o.length≤1000:=by rw [List.length_take] at hol;omega
 by_cases hkl:k < l.length
 ·obtain ⟨z,hz⟩ : ∃ z,l[k]? = some z:=⟨_,List.getElem?_eq_getElem hkl⟩
  have hnx:zeD once (l.take (k+1))=ziC once o z:=by rw [List.take_add_one,hz];exact hsn z hz
  (repeat' ((conv=>whnf);first|refine vA ?_|refine vB fun b hb=>?_|refine vC (fun hl=>?_) fun i kv vv hi=>?_|refine vE ?_|refine vG ?_|refine vH ?_|((first|refine vD ?_ ?_|refine vF ?_ ?_|refine vI ?_ ?_)<;>intro hc<;>try simp only [vL] at hc)|refine vJ fun hg=>?_|refine vK fun hg=>?_|refine vT ?_|refine vN ‹_› ?_|(refine vQ ?_ fun x hx=>?_;·first|omega|(simp only [vM] at *;omega))|((first|refine vO ?_ ?_|refine vR ?_ ‹_› ?_|refine vS ?_ fun x hx=>?_|refine vP ?_ ?_);·first|omega|(simp only [vM] at *;omega))|refine vW ⟨by omega,by omega⟩ ?_|(refine vU ?_ ?_;·kernel_rfl)|refine vX ?_|refine vY ?_|refine vZ ?_|refine za.mk _ ‹_› ?_|refine vP (show (_:BitVec 64)≠_ by decide) ?_));all_goals try conv=>whnf
  ·refine zj (fun (a:Nat)=>[(1,.d (.bool (once))),(5,.own 0),(7,.d (.int .i64 (z))),(8,.d (.int .i64 ((a:Int)))),(10,.d (dI l)),(11,.d (.int .i64 ((l.map (D.int .i64)).length:Int))),(12,.d (.int .i64 ((k:Int))))]) (fun (a:Nat)=>[(0,some (.row 1 (o.map (D.int .i64))))]) 1 (fun (a:Nat)=>a≤o.length ∧ ∀ (j:Nat) y,j < a→o[j]? = some y→y < z) (fun (a:Nat)=>o.length - a) (0) [(0,0)] [] (⟨by omega,fun j y hj=>by omega⟩) (by (refine ⟨rfl,rfl,rfl,?_,?_⟩;repeat' first|exact trivial|exact rfl|exact ⟨_,rfl⟩|exact .inl rfl|exact .inr (.inl ⟨rfl,rfl⟩)|exact .inr (.inr ⟨rfl,rfl⟩)|refine And.intro ?_ ?_|refine ⟨_,rfl,?_⟩|decide|exact of_decide_eq_true rfl)) ?_
   rintro a ⟨ha,hA⟩
   (repeat' ((conv=>whnf);first|refine vA ?_|refine vB fun b hb=>?_|refine vC (fun hl=>?_) fun i kv vv hi=>?_|refine vE ?_|refine vG ?_|refine vH ?_|((first|refine vD ?_ ?_|refine vF ?_ ?_|refine vI ?_ ?_)<;>intro hc<;>try simp only [vL] at hc)|refine vJ fun hg=>?_|refine vK fun hg=>?_|refine vT ?_|refine vN ‹_› ?_|(refine vQ ?_ fun x hx=>?_;·first|omega|(simp only [vM] at *;omega))|((first|refine vO ?_ ?_|refine vR ?_ ‹_› ?_|refine vS ?_ fun x hx=>?_|refine vP ?_ ?_);·first|omega|(simp only [vM] at *;omega))|refine vW ⟨by omega,by omega⟩ ?_|(refine vU ?_ ?_;·kernel_rfl)|refine vX ?_|refine vY ?_|refine vZ ?_|refine za.mk _ ‹_› ?_|refine vP (show (_:BitVec 64)≠_ by decide) ?_));all_goals try conv=>whnf
   ·exact ⟨a+1,[(0,0)],[],⟨by omega,fun j y hj hy=>by
     by_cases e:j=a
     ·subst e;rw [show o[j]? = some _ from hx] at hy;cases hy;assumption
     ·exact hA j y (by omega) hy⟩,by (first|omega|(simp only [vM] at *;omega)),by (refine ⟨rfl,rfl,rfl,?_,?_⟩;repeat' first|exact trivial|exact rfl|exact ⟨_,rfl⟩|exact .inl rfl|exact .inr (.inl ⟨rfl,rfl⟩)|exact .inr (.inr ⟨rfl,rfl⟩)|refine And.intro ?_ ?_|refine ⟨_,rfl,?_⟩|decide|exact of_decide_eq_true rfl)⟩
   ·have ho:o[a]? = some _:=hx
    have he:x=z:=‹x=z›
    have ea:atI o z=a:=zsA ha hA (fun y hy=>by rw [ho] at hy;cases hy;omega)
    refine ⟨(k+1,_),[(0,0)],[],?_,?_,by (refine ⟨rfl,rfl,rfl,?_,?_⟩;repeat' first|exact trivial|exact rfl|exact ⟨_,rfl⟩|exact .inl rfl|exact .inr (.inl ⟨rfl,rfl⟩)|exact .inr (.inr ⟨rfl,rfl⟩)|refine And.intro ?_ ?_|refine ⟨_,rfl,?_⟩|decide|exact of_decide_eq_true rfl)⟩
    ·refine ⟨by omega,?_⟩
     rw [hnx,ziC,if_pos ⟨‹once=true›,by rw [ea,ho,he]⟩]
    ·(first|omega|(simp only [vM] at *;omega))
   all_goals try (exfalso;omega)
   all_goals
    have ea:atI o z=a:=zsA ha hA (fun y hy=>by
     first
     | (have:=(List.getElem?_eq_some_iff.1 hy).1;exfalso;omega)
     | (have hq:o[a]? = some _:=hx;rw [hq] at hy;cases hy;omega))
    have eins:ziC once o z=ziB o z:=by
     rw [ziC,if_neg]
     rintro ⟨h1,h2⟩
     rw [ea] at h2
     first
     | (have:=(List.getElem?_eq_some_iff.1 h2).1;omega)
     | (have h3:=‹once=false›;rw [h3] at h1;cases h1)
     | (have hq:o[a]? = some _:=hx;rw [hq] at h2;cases h2;exact ‹¬_=(_:Int)› rfl)
    refine zj (fun ((i,ys):Int×List D)=>[(1,.d (.bool (once))),(5,.own 0),(7,.d (.int .i64 (z))),(8,.d (.int .i64 ((a:Int)))),(9,.d (.int .i64 (i))),(10,.d (dI l)),(11,.d (.int .i64 ((l.map (D.int .i64)).length:Int))),(12,.d (.int .i64 ((k:Int))))]) (fun ((i,ys):Int×List D)=>[(0,some (.row 1 ys))]) 1 (fun ((i,ys):Int×List D) => ∃ j:Nat,i=j∧a≤j∧j≤o.length∧ys=(List.range (o.length+1)).map fun u=>D.int .i64 (shF o j u)) (fun ((i,ys):Int×List D)=>(i - a).toNat) (((((o.map (D.int .i64)++(List.replicate 1 (D.int .i64 0)).set 0 (D.int .i64 0)).length:Nat):Int) - 1,o.map (D.int .i64)++(List.replicate 1 (D.int .i64 0)).set 0 (D.int .i64 0))) [(0,2)] [] (⟨o.length,by simp,ha,Nat.le_refl _,ztw.symm⟩) (by (refine ⟨rfl,rfl,rfl,?_,?_⟩;repeat' first|exact trivial|exact rfl|exact ⟨_,rfl⟩|exact .inl rfl|exact .inr (.inl ⟨rfl,rfl⟩)|exact .inr (.inr ⟨rfl,rfl⟩)|refine And.intro ?_ ?_|refine ⟨_,rfl,?_⟩|decide|exact of_decide_eq_true rfl)) ?_
    rintro ⟨_,_⟩ ⟨j,rfl,haj,hjo,rfl⟩
    by_cases hja:a < j
    ·have er:(List.range (o.length+1))[((j:Int) - 1).toNat]? = some (j - 1):=by rw [show ((j:Int) - 1).toNat=j - 1 by omega];exact List.getElem?_range (by omega)
     (repeat' ((conv=>whnf);first|refine vA ?_|refine vB fun b hb=>?_|refine vC (fun hl=>?_) fun i kv vv hi=>?_|refine vE ?_|refine vG ?_|refine vH ?_|((first|refine vD ?_ ?_|refine vF ?_ ?_|refine vI ?_ ?_)<;>intro hc<;>try simp only [vL] at hc)|refine vJ fun hg=>?_|refine vK fun hg=>?_|refine vT ?_|refine vN ‹_› ?_|(refine vQ ?_ fun x hx=>?_;·first|omega|(simp only [vM] at *;omega))|((first|refine vO ?_ ?_|refine vR ?_ ‹_› ?_|refine vS ?_ fun x hx=>?_|refine vP ?_ ?_);·first|omega|(simp only [vM] at *;omega))|refine vW ⟨by omega,by omega⟩ ?_|(refine vU ?_ ?_;·kernel_rfl)|refine vX ?_|refine vY ?_|refine vZ ?_|refine za.mk _ ‹_› ?_|refine vP (show (_:BitVec 64)≠_ by decide) ?_));all_goals try conv=>whnf
     ·refine ⟨(_,_),[(0,0)],[],?_,?_,by (refine ⟨rfl,rfl,rfl,?_,?_⟩;repeat' first|exact trivial|exact rfl|exact ⟨_,rfl⟩|exact .inl rfl|exact .inr (.inl ⟨rfl,rfl⟩)|exact .inr (.inr ⟨rfl,rfl⟩)|refine And.intro ?_ ?_|refine ⟨_,rfl,?_⟩|decide|exact of_decide_eq_true rfl)⟩
      ·refine ⟨j - 1,by omega,by omega,by omega,(zdm _).trans (zS fun u hu=>?_)⟩
       show (if u=j then D.int .i64 (shF o j (j - 1)) else D.int .i64 (shF o j u))=D.int .i64 (shF o (j - 1) u)
       by_cases e:u=j
       ·subst e
        rw [if_pos rfl,shF,if_pos (by omega),shF,if_neg (by omega),List.getD,List.getElem?_append_left (by omega)];rfl
       ·rw [if_neg e]
        by_cases e2:u < j
        ·rw [shF,if_pos (by omega),shF,if_pos (by omega)]
        ·rw [shF,if_neg (by omega),shF,if_neg (by omega)]
      ·(first|omega|(simp only [vM] at *;omega))
     ·exfalso;omega
    ·have e0:j=a:=by omega
     subst e0
     (repeat' ((conv=>whnf);first|refine vA ?_|refine vB fun b hb=>?_|refine vC (fun hl=>?_) fun i kv vv hi=>?_|refine vE ?_|refine vG ?_|refine vH ?_|((first|refine vD ?_ ?_|refine vF ?_ ?_|refine vI ?_ ?_)<;>intro hc<;>try simp only [vL] at hc)|refine vJ fun hg=>?_|refine vK fun hg=>?_|refine vT ?_|refine vN ‹_› ?_|(refine vQ ?_ fun x hx=>?_;·first|omega|(simp only [vM] at *;omega))|((first|refine vO ?_ ?_|refine vR ?_ ‹_› ?_|refine vS ?_ fun x hx=>?_|refine vP ?_ ?_);·first|omega|(simp only [vM] at *;omega))|refine vW ⟨by omega,by omega⟩ ?_|(refine vU ?_ ?_;·kernel_rfl)|refine vX ?_|refine vY ?_|refine vZ ?_|refine za.mk _ ‹_› ?_|refine vP (show (_:BitVec 64)≠_ by decide) ?_));all_goals try conv=>whnf
     ·exfalso;omega
     ·refine ⟨(k+1,_),[(0,0)],[],?_,?_,by (refine ⟨rfl,rfl,rfl,?_,?_⟩;repeat' first|exact trivial|exact rfl|exact ⟨_,rfl⟩|exact .inl rfl|exact .inr (.inl ⟨rfl,rfl⟩)|exact .inr (.inr ⟨rfl,rfl⟩)|refine And.intro ?_ ?_|refine ⟨_,rfl,?_⟩|decide|exact of_decide_eq_true rfl)⟩
      ·refine ⟨by omega,(zdm _).trans ?_⟩
       rw [hnx,eins,← zvO ea.symm]
       refine zS fun u hu=>?_
       show (if u=j then _ else _)=_
       by_cases e:u=j
       ·rw [if_pos e,if_pos e]
       ·rw [if_neg e,if_neg e]
      ·(first|omega|(simp only [vM] at *;omega))
  ·exfalso;omega
 ·(repeat' ((conv=>whnf);first|refine vA ?_|refine vB fun b hb=>?_|refine vC (fun hl=>?_) fun i kv vv hi=>?_|refine vE ?_|refine vG ?_|refine vH ?_|((first|refine vD ?_ ?_|refine vF ?_ ?_|refine vI ?_ ?_)<;>intro hc<;>try simp only [vL] at hc)|refine vJ fun hg=>?_|refine vK fun hg=>?_|refine vT ?_|refine vN ‹_› ?_|(refine vQ ?_ fun x hx=>?_;·first|omega|(simp only [vM] at *;omega))|((first|refine vO ?_ ?_|refine vR ?_ ‹_› ?_|refine vS ?_ fun x hx=>?_|refine vP ?_ ?_);·first|omega|(simp only [vM] at *;omega))|refine vW ⟨by omega,by omega⟩ ?_|(refine vU ?_ ?_;·kernel_rfl)|refine vX ?_|refine vY ?_|refine vZ ?_|refine za.mk _ ‹_› ?_|refine vP (show (_:BitVec 64)≠_ by decide) ?_));all_goals try conv=>whnf
  ·exfalso;omega
  ·rw [List.take_of_length_le (by omega)] at hO
   rw [hO];rfl
end Go.Ab
namespace Go.Ab
open Go Go.Proofs
set_option maxRecDepth 10000
set_option maxHeartbeats 4000000
variable {T:Nat→Obj→Prop}
abbrev zhi (n:Nat) (q:Nat→Nat) (s:BitVec 64):List Int:=zby n (fun _ v=>s.getLsbD v) q 0
theorem zv2 {n:Nat} {r:Nat→Nat→Bool} {q:Nat→Nat} {w:Nat} : (zby n r q w).length≤n:=by
 unfold zby
 rw [List.length_map]
 have:=List.length_filter_le (fun v=>r w v) (List.range n)
 rwa [List.length_range] at this
theorem zp5 {n:Nat} {q:Nat→Nat} {s:BitVec 64} : (zhi n q s).length≤n:=zv2
theorem zn8 {k:Nat} {q:Nat→Nat} {s:BitVec 64} : zhi (k+1) q s=zhi k q s++if s.getLsbD k=true then [(q k:Int)] else []:=by
 unfold zhi zby
 rw [List.range_succ,List.filter_append,List.map_append,List.filter_cons,List.filter_nil]
 split<;>rfl
theorem zq8 (q:Nat→Nat) {n:Nat} (hn:n≤64) (s:BitVec 64) (once:Bool):Fn Tryz.prog T zeK [.d (dI (ptL n q)),.d (.u64 s),.d (.bool once)] [] (.d (dI (zeD once (zhi n q s)))) []:=by
 have hln:(ptL n q).length=n:=zbJ
 have cS:=zsZ (T:=T) (zhi n q s) (by have:=zp5 (n:=n) (q:=q) (s:=s);omega) once
 refine zg zw zjk (by show 3≤28;decide) ?_
 (repeat' ((conv=>whnf);first|refine vA ?_|refine vB fun b hb=>?_|refine vC (fun hl=>?_) fun i kv vv hi=>?_|refine vE ?_|refine vG ?_|refine vH ?_|((first|refine vD ?_ ?_|refine vF ?_ ?_|refine vI ?_ ?_)<;>intro hc<;>try simp only [vL] at hc)|refine vJ fun hg=>?_|refine vK fun hg=>?_|refine vT ?_|refine vN ‹_› ?_|(refine vQ ?_ fun x hx=>?_;·first|omega|(simp only [vM] at *;omega))|((first|refine vO ?_ ?_|refine vR ?_ ‹_› ?_|refine vS ?_ fun x hx=>?_|refine vP ?_ ?_);·first|omega|(simp only [vM] at *;omega))|refine vW ⟨by omega,by omega⟩ ?_|(refine vU ?_ ?_;·kernel_rfl)|refine vX ?_|refine vY ?_|refine vZ ?_|refine za.mk _ ‹_› ?_|refine vP (show (_:BitVec 64)≠_ by decide) ?_));all_goals try conv=>whnf
 refine zj (fun ((k,zs):Nat×List D)=>[(0,.d (dI (ptL n q))),(1,.d (.u64 (s))),(2,.d (.bool (once))),(7,.own 0),(10,.d (.int .i64 (((ptL n q).map (D.int .i64)).length:Int))),(11,.d (.int .i64 ((k:Int))))]) (fun ((k,zs):Nat×List D)=>[(0,some (.row 1 zs))]) 1 (fun ((k,zs):Nat×List D)=>k≤n∧zs=(zhi k q s).map (D.int .i64)) (fun ((k,zs):Nat×List D)=>n - k) ((0,[])) []   [0] (⟨by omega,rfl⟩) (by (refine ⟨rfl,rfl,rfl,?_,?_⟩;repeat' first|exact trivial|exact rfl|exact ⟨_,rfl⟩|exact .inl rfl|exact .inr (.inl ⟨rfl,rfl⟩)|exact .inr (.inr ⟨rfl,rfl⟩)|refine And.intro ?_ ?_|refine ⟨_,rfl,?_⟩|decide|exact of_decide_eq_true rfl)) ?_
 rintro ⟨k,zs⟩ ⟨hk,hz⟩
 have hzl:zs.length≤64:=by
  rw [hz,List.length_map]
  have:=zp5 (n:=k) (q:=q) (s:=s)
  omega
 by_cases hkl:k < n
 ·have e1:=zaw (q:=q) hkl
  (repeat' ((conv=>whnf);first|refine vA ?_|refine vB fun b hb=>?_|refine vC (fun hl=>?_) fun i kv vv hi=>?_|refine vE ?_|refine vG ?_|refine vH ?_|((first|refine vD ?_ ?_|refine vF ?_ ?_|refine vI ?_ ?_)<;>intro hc<;>try simp only [vL] at hc)|refine vJ fun hg=>?_|refine vK fun hg=>?_|refine vT ?_|refine vN ‹_› ?_|(refine vQ ?_ fun x hx=>?_;·first|omega|(simp only [vM] at *;omega))|((first|refine vO ?_ ?_|refine vR ?_ ‹_› ?_|refine vS ?_ fun x hx=>?_|refine vP ?_ ?_);·first|omega|(simp only [vM] at *;omega))|refine vW ⟨by omega,by omega⟩ ?_|(refine vU ?_ ?_;·kernel_rfl)|refine vX ?_|refine vY ?_|refine vZ ?_|refine yD (zhC s k) ⟨⟨rfl,rfl⟩,⟨rfl,rfl⟩,rfl⟩ rfl ?_|refine za.mk _ ‹_› ?_|refine vP (show (_:BitVec 64)≠_ by decide) ?_));all_goals try conv=>whnf
  ·refine ⟨(k+1,_),[(0,0)],[],?_,?_,by (refine ⟨rfl,rfl,rfl,?_,?_⟩;repeat' first|exact trivial|exact rfl|exact ⟨_,rfl⟩|exact .inl rfl|exact .inr (.inl ⟨rfl,rfl⟩)|exact .inr (.inr ⟨rfl,rfl⟩)|refine And.intro ?_ ?_|refine ⟨_,rfl,?_⟩|decide|exact of_decide_eq_true rfl)⟩
   ·exact ⟨by omega,by rw [zn8,zoQ ‹_›,hz];simp⟩
   ·(first|omega|(simp only [vM] at *;omega))
  ·refine ⟨(k+1,_),[(0,2)],[],?_,?_,by (refine ⟨rfl,rfl,rfl,?_,?_⟩;repeat' first|exact trivial|exact rfl|exact ⟨_,rfl⟩|exact .inl rfl|exact .inr (.inl ⟨rfl,rfl⟩)|exact .inr (.inr ⟨rfl,rfl⟩)|refine And.intro ?_ ?_|refine ⟨_,rfl,?_⟩|decide|exact of_decide_eq_true rfl)⟩
   ·exact ⟨by omega,by rw [zn8,zoR ‹_›,hz];simp⟩
   ·(first|omega|(simp only [vM] at *;omega))
  ·exfalso;omega
 ·have e0:k=n:=by omega
  subst e0
  subst hz
  (repeat' ((conv=>whnf);first|refine vA ?_|refine vB fun b hb=>?_|refine vC (fun hl=>?_) fun i kv vv hi=>?_|refine vE ?_|refine vG ?_|refine vH ?_|((first|refine vD ?_ ?_|refine vF ?_ ?_|refine vI ?_ ?_)<;>intro hc<;>try simp only [vL] at hc)|refine vJ fun hg=>?_|refine vK fun hg=>?_|refine vT ?_|refine vN ‹_› ?_|(refine vQ ?_ fun x hx=>?_;·first|omega|(simp only [vM] at *;omega))|((first|refine vO ?_ ?_|refine vR ?_ ‹_› ?_|refine vS ?_ fun x hx=>?_|refine vP ?_ ?_);·first|omega|(simp only [vM] at *;omega))|refine vW ⟨by omega,by omega⟩ ?_|(refine vU ?_ ?_;·kernel_rfl)|refine vX ?_|refine vY ?_|refine vZ ?_|refine yN cS ⟨⟨rfl,rfl⟩,⟨rfl,rfl⟩,rfl⟩ ?_|refine za.mk _ ‹_› ?_|refine vP (show (_:BitVec 64)≠_ by decide) ?_));all_goals try conv=>whnf
  ·exfalso;omega
  ·rfl
theorem zmU (v:Nat):(1#64 <<< v) * 2#64=1#64 <<< (v+1):=by
 rw [BitVec.shiftLeft_add,show (2#64:BitVec 64)=BitVec.twoPow 64 1 by decide,BitVec.mul_twoPow_eq_shiftLeft]
theorem zsM {n:Nat} (first:Nat→Tup):cnN ((List.range n).map first)=dcN n fun w=>rkN ((List.range n).map first) (first w):=by
 have:=zca (n:=n) (next:=fun _=>first) (fun _=>0)
 unfold zam rfT zcm rfT at this
 exact this.symm
theorem ziy {n:Nat} (t:Nat→Tup) (h1:1≤n) (h64:n≤64) (hs : ∀ v w,v < n→w < n→(t v).length=(t w).length) :
  Fn Tryz.prog T zcv [.d (dTs ((List.range n).map t))] [] (.d (.tup [dI (ptL n fun w=>rkN ((List.range n).map t) (t w)),.int .i64 (cnN ((List.range n).map t):Int)])) []:=by
 have h:=zsY (T:=T) ((List.range n).map t) (fun h=>by have:=congrArg List.length h;simp at this;omega) (by simpa using h64) (fun x hx y hy=>by
  obtain ⟨w,hw,rfl⟩:=List.mem_map.1 hx
  obtain ⟨v,hv,rfl⟩:=List.mem_map.1 hy
  exact hs w v (List.mem_range.1 hw) (List.mem_range.1 hv))
 rw [show dN (((List.range n).map t).map (rkN ((List.range n).map t)))=dI (ptL n fun w=>rkN ((List.range n).map t) (t w)) by rw [← zpT]] at h
 exact h
end Go.Ab
