/- A part of the proofs of this seat: functions and their contracts. -/
import Derived.Test.YtjpgnjhdeikncaaGreatDoorMD
set_option linter.unusedVariables false
set_option linter.unusedSimpArgs false
set_option linter.unusedSectionVars false
namespace Go.Ab
open Go Go.Proofs
set_option maxRecDepth 10000
set_option maxHeartbeats 4000000
variable {T:Nat→Obj→Prop}
theorem znZ (x y:Tup) (h:Sml x):Fn Tryz.prog T zbQ [.d (dII x),.d (dII y)] [] (.d (.bool (decide (x=y)))) []:=by
 have cA:=zfZ (T:=T) x y h
 refine zp zF ziT (by show 2≤9;decide) ?_
 (repeat' ((conv=>whnf);first|refine vA ?_|refine vB fun b hb=>?_|refine vC (fun hl=>?_) fun i kv vv hi=>?_|refine vE ?_|refine vG ?_|refine vH ?_|((first|refine vD ?_ ?_|refine vF ?_ ?_|refine vI ?_ ?_)<;>intro hc<;>try simp only [vL] at hc)|refine vJ fun hg=>?_|refine vK fun hg=>?_|refine vT ?_|refine vN ‹_› ?_|(refine vQ ?_ fun x hx=>?_;·first|omega|(simp only [vM] at *;omega))|((first|refine vO ?_ ?_|refine vR ?_ ‹_› ?_|refine vS ?_ fun x hx=>?_|refine vP ?_ ?_);·first|omega|(simp only [vM] at *;omega))|refine vW ⟨by omega,by omega⟩ ?_|(refine vU ?_ ?_;·kernel_rfl)|refine vX ?_|refine vY ?_|refine vZ ?_|refine yD cA ⟨⟨rfl,rfl⟩,⟨rfl,rfl⟩,rfl⟩ rfl ?_|refine za.mk _ ‹_› ?_|refine vP (show (_:BitVec 64)≠_ by decide) ?_));all_goals try conv=>whnf
 rw [Bool.eq_iff_iff,decide_eq_true_eq,decide_eq_true_eq];exact z1.zero
abbrev fEq:D := .fn zbQ []
theorem zoZ (d:Array Tup) (hm : ∀ x∈d.toList,Sml x) (hs:d.size≤1000) (hd:Steps d):Fn Tryz.prog T zt [.own 0,.d fEq] [zeD d] (.own 1) [none,some (zeD d)]:=by
 have hln:d.toList.length=d.size:=Array.length_toList
 refine z7 zF z2 (by show 2≤66;decide) _ (fun e env mem n h=>h) ?_
 (repeat' ((conv=>whnf);first|refine vA ?_|refine vB fun b hb=>?_|refine vC (fun hl=>?_) fun i kv vv hi=>?_|refine vE ?_|refine vG ?_|refine vH ?_|((first|refine vD ?_ ?_|refine vF ?_ ?_|refine vI ?_ ?_)<;>intro hc<;>try simp only [vL] at hc)|refine vJ fun hg=>?_|refine vK fun hg=>?_|refine vT ?_|refine vN ‹_› ?_|(refine vQ ?_ fun x hx=>?_;·first|omega|(simp only [vM] at *;omega))|((first|refine vO ?_ ?_|refine vR ?_ ‹_› ?_|refine vS ?_ fun x hx=>?_|refine vP ?_ ?_);·first|omega|(simp only [vM] at *;omega))|refine vW ⟨by omega,by omega⟩ ?_|(refine vU ?_ ?_;·kernel_rfl)|refine vX ?_|refine vY ?_|refine vZ ?_|refine za.mk _ ‹_› ?_|refine vP (show (_:BitVec 64)≠_ by decide) ?_));all_goals try conv=>whnf
 ·refine ⟨trivial,_,[(1,0)],[],rfl,.inl (by (repeat' first|exact trivial|exact rfl|exact ⟨_,rfl⟩|exact .inl rfl|exact .inr (.inl ⟨rfl,rfl⟩)|exact .inr (.inr ⟨rfl,rfl⟩)|refine And.intro ?_ ?_|refine ⟨_,rfl,?_⟩|decide|exact of_decide_eq_true rfl)),⟨by rfl,by rfl,by rfl,trivial,by (repeat' first|exact trivial|exact rfl|exact ⟨_,rfl⟩|exact .inl rfl|exact .inr (.inl ⟨rfl,rfl⟩)|exact .inr (.inr ⟨rfl,rfl⟩)|refine And.intro ?_ ?_|refine ⟨_,rfl,?_⟩|decide|exact of_decide_eq_true rfl)⟩,by (repeat' first|exact trivial|exact rfl|exact ⟨_,rfl⟩|exact .inl rfl|exact .inr (.inl ⟨rfl,rfl⟩)|exact .inr (.inr ⟨rfl,rfl⟩)|refine And.intro ?_ ?_|refine ⟨_,rfl,?_⟩|decide|exact of_decide_eq_true rfl)⟩
 refine zq (fun (i:Int)=>[(0,.own 0),(1,.d fEq),(5,.d (.int .i64 (i))),(zc,.own 0)]) (fun (i:Int)=>[(0,some (zeD d))]) 1 (fun (i:Int) => ∃ k:Nat,i=k∧0 < k∧k≤d.size) (fun (i:Int)=>(d.size - i).toNat) (1) [(0,0)] [] (⟨1,rfl,by omega,by omega⟩) (by (refine ⟨rfl,rfl,rfl,?_,?_⟩;repeat' first|exact trivial|exact rfl|exact ⟨_,rfl⟩|exact .inl rfl|exact .inr (.inl ⟨rfl,rfl⟩)|exact .inr (.inr ⟨rfl,rfl⟩)|refine And.intro ?_ ?_|refine ⟨_,rfl,?_⟩|decide|exact of_decide_eq_true rfl)) ?_
 rintro _ ⟨k,rfl,hk0,hk1⟩
 by_cases hkl:k < d.size
 ·have hx1:d.toList[k]? = some d[k]! := zaS hkl
  have hx2:d.toList[((k:Int) - 1).toNat]? = some d[k - 1]! := by rw [show ((k:Int) - 1).toNat=k - 1 by omega];exact zaS (by omega)
  have cA:=znZ (T:=T) d[k]! d[k - 1]! (hm _ (List.mem_of_getElem? hx1))
  (repeat' ((conv=>whnf);first|refine vA ?_|refine vB fun b hb=>?_|refine vC (fun hl=>?_) fun i kv vv hi=>?_|refine vE ?_|refine vG ?_|refine vH ?_|((first|refine vD ?_ ?_|refine vF ?_ ?_|refine vI ?_ ?_)<;>intro hc<;>try simp only [vL] at hc)|refine vJ fun hg=>?_|refine vK fun hg=>?_|refine vT ?_|refine vN ‹_› ?_|(refine vQ ?_ fun x hx=>?_;·first|omega|(simp only [vM] at *;omega))|((first|refine vO ?_ ?_|refine vR ?_ ‹_› ?_|refine vS ?_ fun x hx=>?_|refine vP ?_ ?_);·first|omega|(simp only [vM] at *;omega))|refine vW ⟨by omega,by omega⟩ ?_|(refine vU ?_ ?_;·kernel_rfl)|refine vX ?_|refine vY ?_|refine vZ ?_|refine yD cA ⟨⟨rfl,rfl⟩,⟨rfl,rfl⟩,rfl⟩ rfl ?_|refine za.mk _ ‹_› ?_|refine vP (show (_:BitVec 64)≠_ by decide) ?_));all_goals try conv=>whnf
  ·exact absurd ‹d[k]! = d[k - 1]!› (hd k hk0 hkl)
  ·refine ⟨_,[(0,0)],[],?_,?_,by (refine ⟨rfl,rfl,rfl,?_,?_⟩;repeat' first|exact trivial|exact rfl|exact ⟨_,rfl⟩|exact .inl rfl|exact .inr (.inl ⟨rfl,rfl⟩)|exact .inr (.inr ⟨rfl,rfl⟩)|refine And.intro ?_ ?_|refine ⟨_,rfl,?_⟩|decide|exact of_decide_eq_true rfl)⟩
   ·exact ⟨k+1,by omega,by omega,by omega⟩
   ·(first|omega|(simp only [vM] at *;omega))
  ·exfalso;omega
 ·(repeat' ((conv=>whnf);first|refine vA ?_|refine vB fun b hb=>?_|refine vC (fun hl=>?_) fun i kv vv hi=>?_|refine vE ?_|refine vG ?_|refine vH ?_|((first|refine vD ?_ ?_|refine vF ?_ ?_|refine vI ?_ ?_)<;>intro hc<;>try simp only [vL] at hc)|refine vJ fun hg=>?_|refine vK fun hg=>?_|refine vT ?_|refine vN ‹_› ?_|(refine vQ ?_ fun x hx=>?_;·first|omega|(simp only [vM] at *;omega))|((first|refine vO ?_ ?_|refine vR ?_ ‹_› ?_|refine vS ?_ fun x hx=>?_|refine vP ?_ ?_);·first|omega|(simp only [vM] at *;omega))|refine vW ⟨by omega,by omega⟩ ?_|(refine vU ?_ ?_;·kernel_rfl)|refine vX ?_|refine vY ?_|refine vZ ?_|refine za.mk _ ‹_› ?_|refine vP (show (_:BitVec 64)≠_ by decide) ?_));all_goals try conv=>whnf
  ·exfalso;omega
  ·refine ⟨trivial,_,[(1,0)],[],rfl,.inl (by (repeat' first|exact trivial|exact rfl|exact ⟨_,rfl⟩|exact .inl rfl|exact .inr (.inl ⟨rfl,rfl⟩)|exact .inr (.inr ⟨rfl,rfl⟩)|refine And.intro ?_ ?_|refine ⟨_,rfl,?_⟩|decide|exact of_decide_eq_true rfl)),⟨by rfl,by rfl,by rfl,trivial,by (repeat' first|exact trivial|exact rfl|exact ⟨_,rfl⟩|exact .inl rfl|exact .inr (.inl ⟨rfl,rfl⟩)|exact .inr (.inr ⟨rfl,rfl⟩)|refine And.intro ?_ ?_|refine ⟨_,rfl,?_⟩|decide|exact of_decide_eq_true rfl)⟩,by (repeat' first|exact trivial|exact rfl|exact ⟨_,rfl⟩|exact .inl rfl|exact .inr (.inl ⟨rfl,rfl⟩)|exact .inr (.inr ⟨rfl,rfl⟩)|refine And.intro ?_ ?_|refine ⟨_,rfl,?_⟩|decide|exact of_decide_eq_true rfl)⟩
theorem znU (d:Array Tup) (hm : ∀ x∈d.toList,Sml x) (hs:d.size≤1000) (hd : ¬Steps d):Fn Tryz.prog T zt [.own 0,.d fEq] [zeD d] (.own 1) [none,some (.row 1 ((ddA d d.size).map dII))]:=by
 generalize hR:(ddA d d.size).map dII=R
 have hln:d.toList.length=d.size:=Array.length_toList
 refine z7 zF z2 (by show 2≤66;decide) _ (fun e env mem n h=>h) ?_
 (repeat' ((conv=>whnf);first|refine vA ?_|refine vB fun b hb=>?_|refine vC (fun hl=>?_) fun i kv vv hi=>?_|refine vE ?_|refine vG ?_|refine vH ?_|((first|refine vD ?_ ?_|refine vF ?_ ?_|refine vI ?_ ?_)<;>intro hc<;>try simp only [vL] at hc)|refine vJ fun hg=>?_|refine vK fun hg=>?_|refine vT ?_|refine vN ‹_› ?_|(refine vQ ?_ fun x hx=>?_;·first|omega|(simp only [vM] at *;omega))|((first|refine vO ?_ ?_|refine vR ?_ ‹_› ?_|refine vS ?_ fun x hx=>?_|refine vP ?_ ?_);·first|omega|(simp only [vM] at *;omega))|refine vW ⟨by omega,by omega⟩ ?_|(refine vU ?_ ?_;·kernel_rfl)|refine vX ?_|refine vY ?_|refine vZ ?_|refine za.mk _ ‹_› ?_|refine vP (show (_:BitVec 64)≠_ by decide) ?_));all_goals try conv=>whnf
 ·exact absurd (fun j hj0 hj1=>by omega) hd
 refine zq (fun (i:Int)=>[(0,.own 0),(1,.d fEq),(5,.d (.int .i64 (i))),(zc,.own 0)]) (fun (i:Int)=>[(0,some (zeD d))]) 1 (fun (i:Int) => ∃ k:Nat,i=k∧0 < k∧k≤d.size ∧ ∀ j,0 < j→j < k→d[j]! ≠ d[j - 1]!) (fun (i:Int)=>(d.size - i).toNat) (1) [(0,0)] [] (⟨1,rfl,by omega,by omega,fun j _ _=>by omega⟩) (by (refine ⟨rfl,rfl,rfl,?_,?_⟩;repeat' first|exact trivial|exact rfl|exact ⟨_,rfl⟩|exact .inl rfl|exact .inr (.inl ⟨rfl,rfl⟩)|exact .inr (.inr ⟨rfl,rfl⟩)|refine And.intro ?_ ?_|refine ⟨_,rfl,?_⟩|decide|exact of_decide_eq_true rfl)) ?_
 rintro _ ⟨k,rfl,hk0,hk1,hk⟩
 by_cases hkl:k < d.size
 ·have hx1:d.toList[k]? = some d[k]! := zaS hkl
  have hx2:d.toList[((k:Int) - 1).toNat]? = some d[k - 1]! := by rw [show ((k:Int) - 1).toNat=k - 1 by omega];exact zaS (by omega)
  have cA:=znZ (T:=T) d[k]! d[k - 1]! (hm _ (List.mem_of_getElem? hx1))
  (repeat' ((conv=>whnf);first|refine vA ?_|refine vB fun b hb=>?_|refine vC (fun hl=>?_) fun i kv vv hi=>?_|refine vE ?_|refine vG ?_|refine vH ?_|((first|refine vD ?_ ?_|refine vF ?_ ?_|refine vI ?_ ?_)<;>intro hc<;>try simp only [vL] at hc)|refine vJ fun hg=>?_|refine vK fun hg=>?_|refine vT ?_|refine vN ‹_› ?_|(refine vQ ?_ fun x hx=>?_;·first|omega|(simp only [vM] at *;omega))|((first|refine vO ?_ ?_|refine vR ?_ ‹_› ?_|refine vS ?_ fun x hx=>?_|refine vP ?_ ?_);·first|omega|(simp only [vM] at *;omega))|refine vW ⟨by omega,by omega⟩ ?_|(refine vU ?_ ?_;·kernel_rfl)|refine vX ?_|refine vY ?_|refine vZ ?_|refine yD cA ⟨⟨rfl,rfl⟩,⟨rfl,rfl⟩,rfl⟩ rfl ?_|refine za.mk _ ‹_› ?_|refine vP (show (_:BitVec 64)≠_ by decide) ?_));all_goals try conv=>whnf
  ·have hkk:d[k]! = d[k - 1]! := ‹_›
   refine zq (fun ((w,q,xs):Int×Int×List D)=>[(0,.own 0),(1,.d fEq),(5,.d (.int .i64 (w))),(6,.view 0 k ((d.toList.map dII).length - k)),(7,.d (.int .i64 (q))),(zc,.own 0)]) (fun ((w,q,xs):Int×Int×List D)=>[(0,some (.row 1 xs))]) 1 (fun ((w,q,xs):Int×Int×List D) => ∃ (a b:Nat) (e:Array Tup),w=a∧q=b∧xs=e.toList.map dII∧0 < b∧k+b≤d.size∧a < k+b∧e.size=d.size∧e.toList.take a=ddA d (k+b) ∧ ∀ j,k+b - 1≤j→j < d.size→e[j]! = d[j]!) (fun ((w,q,xs):Int×Int×List D)=>(d.size - k - q).toNat) (((k:Int),(1:Int),d.toList.map dII)) [(0,0)] [] (⟨k,1,d,rfl,rfl,rfl,by omega,by omega,by omega,rfl,znD hk0 hkl hk hkk,fun _ _ _=>rfl⟩) (by (refine ⟨rfl,rfl,rfl,?_,?_⟩;repeat' first|exact trivial|exact rfl|exact ⟨_,rfl⟩|exact .inl rfl|exact .inr (.inl ⟨rfl,rfl⟩)|exact .inr (.inr ⟨rfl,rfl⟩)|refine And.intro ?_ ?_|refine ⟨_,rfl,?_⟩|decide|exact of_decide_eq_true rfl)) ?_
   rintro ⟨_,_,_⟩ ⟨a,b,e,rfl,rfl,rfl,hb0,hb1,hab,he,ha,hj⟩
   have hle:e.toList.length=e.size:=Array.length_toList
   by_cases hbl:k+b < d.size
   ·have hy1:e.toList[k+((b:Nat):Int).toNat]? = some e[k+b]! := by rw [Int.toNat_natCast];exact zaS (by omega)
    have hy2:e.toList[k+(((b:Nat):Int) - 1).toNat]? = some e[k+b - 1]! := by rw [show k+(((b:Nat):Int) - 1).toNat=k+b - 1 by omega];exact zaS (by omega)
    have e1:=hj (k+b) (by omega) (by omega)
    have e2:=hj (k+b - 1) (by omega) (by omega)
    have cC:=znZ (T:=T) e[k+b]! e[k+b - 1]! (by rw [e1];exact hm _ (List.mem_of_getElem? (zaS hbl)))
    (repeat' ((conv=>whnf);first|refine vA ?_|refine vB fun b hb=>?_|refine vC (fun hl=>?_) fun i kv vv hi=>?_|refine vE ?_|refine vG ?_|refine vH ?_|((first|refine vD ?_ ?_|refine vF ?_ ?_|refine vI ?_ ?_)<;>intro hc<;>try simp only [vL] at hc)|refine vJ fun hg=>?_|refine vK fun hg=>?_|refine vT ?_|refine vN ‹_› ?_|(refine vQ ?_ fun x hx=>?_;·first|omega|(simp only [vM] at *;omega))|((first|refine vO ?_ ?_|refine vR ?_ ‹_› ?_|refine vS ?_ fun x hx=>?_|refine vP ?_ ?_);·first|omega|(simp only [vM] at *;omega))|refine vW ⟨by omega,by omega⟩ ?_|(refine vU ?_ ?_;·kernel_rfl)|refine vX ?_|refine vY ?_|refine vZ ?_|refine yD cC ⟨⟨rfl,rfl⟩,⟨rfl,rfl⟩,rfl⟩ rfl ?_|refine za.mk _ ‹_› ?_|refine vP (show (_:BitVec 64)≠_ by decide) ?_));all_goals try conv=>whnf
    ·refine ⟨(_,_,_),[(0,0)],[],?_,?_,by (refine ⟨rfl,rfl,rfl,?_,?_⟩;repeat' first|exact trivial|exact rfl|exact ⟨_,rfl⟩|exact .inl rfl|exact .inr (.inl ⟨rfl,rfl⟩)|exact .inr (.inr ⟨rfl,rfl⟩)|refine And.intro ?_ ?_|refine ⟨_,rfl,?_⟩|decide|exact of_decide_eq_true rfl)⟩
     ·exact ⟨a,b+1,e,rfl,by omega,rfl,by omega,by omega,by omega,he,
       by rw [ha,← Nat.add_assoc,zpB (by omega) (by rw [← e1,← e2];assumption)],
       fun j h0 h1=>hj j (by omega) h1⟩
     ·(first|omega|(simp only [vM] at *;omega))
    ·refine ⟨(_,_,_),[(0,0)],[],?_,?_,by (refine ⟨rfl,rfl,rfl,?_,?_⟩;repeat' first|exact trivial|exact rfl|exact ⟨_,rfl⟩|exact .inl rfl|exact .inr (.inl ⟨rfl,rfl⟩)|exact .inr (.inr ⟨rfl,rfl⟩)|refine And.intro ?_ ?_|refine ⟨_,rfl,?_⟩|decide|exact of_decide_eq_true rfl)⟩
     ·exact ⟨a+1,b+1,e.setIfInBounds a e[k+b]!,by omega,by omega,by simp [List.map_set],by omega,by omega,by omega,by simp [he],
       by rw [zoH (by omega),ha,← Nat.add_assoc,zrb (by rw [← e1,← e2];assumption),e1],
       fun j h0 h1=>by rw [zpU (by omega)];exact hj j (by omega) h1⟩
     ·(first|omega|(simp only [vM] at *;omega))
    ·exfalso;omega
   ·(repeat' ((conv=>whnf);first|refine vA ?_|refine vB fun b hb=>?_|refine vC (fun hl=>?_) fun i kv vv hi=>?_|refine vE ?_|refine vG ?_|refine vH ?_|((first|refine vD ?_ ?_|refine vF ?_ ?_|refine vI ?_ ?_)<;>intro hc<;>try simp only [vL] at hc)|refine vJ fun hg=>?_|refine vK fun hg=>?_|refine vT ?_|refine vN ‹_› ?_|(refine vQ ?_ fun x hx=>?_;·first|omega|(simp only [vM] at *;omega))|((first|refine vO ?_ ?_|refine vR ?_ ‹_› ?_|refine vS ?_ fun x hx=>?_|refine vP ?_ ?_);·first|omega|(simp only [vM] at *;omega))|refine vW ⟨by omega,by omega⟩ ?_|(refine vU ?_ ?_;·kernel_rfl)|refine vX ?_|refine vY ?_|refine vZ ?_|refine za.mk _ ‹_› ?_|refine vP (show (_:BitVec 64)≠_ by decide) ?_));all_goals try conv=>whnf
    ·exfalso;omega
    ·have hE:=zpy (enc:=dII) (e:=e) (z:=D.arr 1 []) (a:=a) (n:=(e.toList.map dII).length - a) (by omega)
     rw [ha,show k+b=d.size by omega,hR] at hE
     subst hE
     refine zkL.mk (by simp only [List.length_append,List.length_take,List.length_replicate,List.length_drop,List.length_map,hle];omega) ?_
     (repeat' ((conv=>whnf);first|refine vA ?_|refine vB fun b hb=>?_|refine vC (fun hl=>?_) fun i kv vv hi=>?_|refine vE ?_|refine vG ?_|refine vH ?_|((first|refine vD ?_ ?_|refine vF ?_ ?_|refine vI ?_ ?_)<;>intro hc<;>try simp only [vL] at hc)|refine vJ fun hg=>?_|refine vK fun hg=>?_|refine vT ?_|refine vN ‹_› ?_|(refine vQ ?_ fun x hx=>?_;·first|omega|(simp only [vM] at *;omega))|((first|refine vO ?_ ?_|refine vR ?_ ‹_› ?_|refine vS ?_ fun x hx=>?_|refine vP ?_ ?_);·first|omega|(simp only [vM] at *;omega))|refine vW ⟨by omega,by omega⟩ ?_|(refine vU ?_ ?_;·kernel_rfl)|refine vX ?_|refine vY ?_|refine vZ ?_|refine za.mk _ ‹_› ?_|refine vP (show (_:BitVec 64)≠_ by decide) ?_));all_goals try conv=>whnf
     refine ⟨trivial,_,[(1,1)],[],rfl,.inl (by (repeat' first|exact trivial|exact rfl|exact ⟨_,rfl⟩|exact .inl rfl|exact .inr (.inl ⟨rfl,rfl⟩)|exact .inr (.inr ⟨rfl,rfl⟩)|refine And.intro ?_ ?_|refine ⟨_,rfl,?_⟩|decide|exact of_decide_eq_true rfl)),⟨by rfl,by rfl,by rfl,trivial,by (repeat' first|exact trivial|exact rfl|exact ⟨_,rfl⟩|exact .inl rfl|exact .inr (.inl ⟨rfl,rfl⟩)|exact .inr (.inr ⟨rfl,rfl⟩)|refine And.intro ?_ ?_|refine ⟨_,rfl,?_⟩|decide|exact of_decide_eq_true rfl)⟩,by (repeat' first|exact trivial|exact rfl|exact ⟨_,rfl⟩|exact .inl rfl|exact .inr (.inl ⟨rfl,rfl⟩)|exact .inr (.inr ⟨rfl,rfl⟩)|refine And.intro ?_ ?_|refine ⟨_,rfl,?_⟩|decide|exact of_decide_eq_true rfl)⟩
  ·refine ⟨_,[(0,0)],[],?_,?_,by (refine ⟨rfl,rfl,rfl,?_,?_⟩;repeat' first|exact trivial|exact rfl|exact ⟨_,rfl⟩|exact .inl rfl|exact .inr (.inl ⟨rfl,rfl⟩)|exact .inr (.inr ⟨rfl,rfl⟩)|refine And.intro ?_ ?_|refine ⟨_,rfl,?_⟩|decide|exact of_decide_eq_true rfl)⟩
   ·exact ⟨k+1,by omega,by omega,by omega,fun j h0 h1=>by
     by_cases hjk:j=k
     ·subst hjk;assumption
     ·exact hk j h0 (by omega)⟩
   ·(first|omega|(simp only [vM] at *;omega))
  ·exfalso;omega
 ·(repeat' ((conv=>whnf);first|refine vA ?_|refine vB fun b hb=>?_|refine vC (fun hl=>?_) fun i kv vv hi=>?_|refine vE ?_|refine vG ?_|refine vH ?_|((first|refine vD ?_ ?_|refine vF ?_ ?_|refine vI ?_ ?_)<;>intro hc<;>try simp only [vL] at hc)|refine vJ fun hg=>?_|refine vK fun hg=>?_|refine vT ?_|refine vN ‹_› ?_|(refine vQ ?_ fun x hx=>?_;·first|omega|(simp only [vM] at *;omega))|((first|refine vO ?_ ?_|refine vR ?_ ‹_› ?_|refine vS ?_ fun x hx=>?_|refine vP ?_ ?_);·first|omega|(simp only [vM] at *;omega))|refine vW ⟨by omega,by omega⟩ ?_|(refine vU ?_ ?_;·kernel_rfl)|refine vX ?_|refine vY ?_|refine vZ ?_|refine za.mk _ ‹_› ?_|refine vP (show (_:BitVec 64)≠_ by decide) ?_));all_goals try conv=>whnf
  ·exfalso;omega
  ·exact absurd (fun j h0 h1=>hk j h0 (by omega)) hd
theorem zsG (d:Array Tup) (hm : ∀ x∈d.toList,Sml x) (hs:d.size≤1000):Fn Tryz.prog T zt [.own 0,.d fEq] [zeD d] (.own 1) [none,some (.row 1 ((ddA d d.size).map dII))]:=by
 by_cases hd:Steps d
 ·have:=zoZ (T:=T) d hm hs hd
  rw [zjp (Nat.le_refl _) hd,List.take_of_length_le (by rw [Array.length_toList];exact Nat.le_refl _)]
  exact this
 ·exact znU d hm hs hd
theorem zrg (ts:List Tup) (h:ts≠[]) (hl:ts.length≤1000):Fn Tryz.prog T zS [.d (.arr 1 (ts.map dII))] [] (.own 0) [some (.row 1 (ts.map dII))]:=by
 refine z7 zF zbI (by show 1≤8;decide) _ (fun e env mem n h=>h) ?_
 (repeat' ((conv=>whnf);first|refine vA ?_|refine vB fun b hb=>?_|refine vC (fun hl=>?_) fun i kv vv hi=>?_|refine vE ?_|refine vG ?_|refine vH ?_|((first|refine vD ?_ ?_|refine vF ?_ ?_|refine vI ?_ ?_)<;>intro hc<;>try simp only [vL] at hc)|refine vJ fun hg=>?_|refine vK fun hg=>?_|refine vT ?_|refine vN ‹_› ?_|(refine vQ ?_ fun x hx=>?_;·first|omega|(simp only [vM] at *;omega))|((first|refine vO ?_ ?_|refine vR ?_ ‹_› ?_|refine vS ?_ fun x hx=>?_|refine vP ?_ ?_);·first|omega|(simp only [vM] at *;omega))|refine vW ⟨by omega,by omega⟩ ?_|(refine vU ?_ ?_;·kernel_rfl)|refine vX ?_|refine vY ?_|refine vZ ?_|refine za.mk _ ‹_› ?_|refine vP (show (_:BitVec 64)≠_ by decide) ?_));all_goals try conv=>whnf
 ·refine ⟨trivial,_,[(0,1)],[],rfl,.inl (by (repeat' first|exact trivial|exact rfl|exact ⟨_,rfl⟩|exact .inl rfl|exact .inr (.inl ⟨rfl,rfl⟩)|exact .inr (.inr ⟨rfl,rfl⟩)|refine And.intro ?_ ?_|refine ⟨_,rfl,?_⟩|decide|exact of_decide_eq_true rfl)),⟨by rfl,by rfl,by rfl,trivial,by (repeat' first|exact trivial|exact rfl|exact ⟨_,rfl⟩|exact .inl rfl|exact .inr (.inl ⟨rfl,rfl⟩)|exact .inr (.inr ⟨rfl,rfl⟩)|refine And.intro ?_ ?_|refine ⟨_,rfl,?_⟩|decide|exact of_decide_eq_true rfl)⟩,by (repeat' first|exact trivial|exact rfl|exact ⟨_,rfl⟩|exact .inl rfl|exact .inr (.inl ⟨rfl,rfl⟩)|exact .inr (.inr ⟨rfl,rfl⟩)|refine And.intro ?_ ?_|refine ⟨_,rfl,?_⟩|decide|exact of_decide_eq_true rfl)⟩
 ·exact absurd (List.map_eq_nil_iff.1 (hb (by simpa using hc))) h
theorem zuG (S:List Tup) (ts:List Tup) (hS:zbK ts S) (hl:S.length≤1000) (hm : ∀ x∈S,Sml x) (t:Tup) :
  ∃ b:Bool,Fn Tryz.prog T zL [.d (.arr 1 (S.map dII)),.d (dII t),.d (.fn zG [])] [] (.d (.tup [.int .i64 (rkN ts t:Int),.bool b])) []:=by
 have key : ∀ i:Nat,i≤S.length→(∀ (k:Nat) x,k < i→S[k]? = some x→zax x t < 0)→(∀ (k:Nat) x,i≤k→S[k]? = some x → ¬zax x t < 0)→i=rkN ts t:=fun i h1 h2 h3=>hS.rk h1 h2 h3
 refine ⟨decide (rkN ts t < S.length∧zax (S.getD (rkN ts t) []) t=0),?_⟩
 refine zp zF zaj (by show 3≤49;decide) ?_
 (repeat' ((conv=>whnf);first|refine vA ?_|refine vB fun b hb=>?_|refine vC (fun hl=>?_) fun i kv vv hi=>?_|refine vE ?_|refine vG ?_|refine vH ?_|((first|refine vD ?_ ?_|refine vF ?_ ?_|refine vI ?_ ?_)<;>intro hc<;>try simp only [vL] at hc)|refine vJ fun hg=>?_|refine vK fun hg=>?_|refine vT ?_|refine vN ‹_› ?_|(refine vQ ?_ fun x hx=>?_;·first|omega|(simp only [vM] at *;omega))|((first|refine vO ?_ ?_|refine vR ?_ ‹_› ?_|refine vS ?_ fun x hx=>?_|refine vP ?_ ?_);·first|omega|(simp only [vM] at *;omega))|refine vW ⟨by omega,by omega⟩ ?_|(refine vU ?_ ?_;·kernel_rfl)|refine vX ?_|refine vY ?_|refine vZ ?_|refine za.mk _ ‹_› ?_|refine vP (show (_:BitVec 64)≠_ by decide) ?_));all_goals try conv=>whnf
 refine za6 (fun ((i,j):Nat×Nat)=>[(0,.d (.arr 1 (S.map dII))),(1,.d (dII t)),(2,.d (.fn zG [])),(8,.d (.int .i64 ((S.map dII).length:Int))),(9,.d (.int .i64 ((i:Int)))),(10,.d (.int .i64 ((j:Int))))]) (fun ((i,j):Nat×Nat)=>i≤j∧j≤S.length∧(∀ (k:Nat) x,k < i→S[k]? = some x→zax x t < 0)∧(∀ (k:Nat) x,j≤k→S[k]? = some x → ¬zax x t < 0)) (fun ((i,j):Nat×Nat)=>j - i) ((0,(S.map dII).length)) (⟨by omega,by simp,fun k x hk=>by omega,fun k x hk hx=>by have:=(List.getElem?_eq_some_iff.1 hx).1;simp at hk;omega⟩) (by (repeat' first|exact trivial|exact rfl|exact ⟨_,rfl⟩|exact .inl rfl|exact .inr (.inl ⟨rfl,rfl⟩)|exact .inr (.inr ⟨rfl,rfl⟩)|refine And.intro ?_ ?_|refine ⟨_,rfl,?_⟩|decide|exact of_decide_eq_true rfl)) ?_
 rintro ⟨i,j⟩ ⟨hij,hj,h1,h2⟩
 by_cases hlt:i < j
 ·have hh:(i+j) / 2 < S.length:=by omega
  have e2:(BitVec.ofInt 64 ((i:Int)+(j:Int)) >>> BitVec.toNat (1:BitVec 64)).toNat=(i+j) / 2:=by
   rw [BitVec.toNat_ushiftRight,show BitVec.toNat (1:BitVec 64)=1 from rfl,show ((i:Int)+(j:Int))=((i+j:Nat):Int) by omega,zrA (by omega),Nat.shiftRight_eq_div_pow,Nat.pow_one]
  have hx:S[(BitVec.ofInt 64 ((i:Int)+(j:Int)) >>> BitVec.toNat (1:BitVec 64)).toNat]? = some (S.getD ((i+j) / 2) []):=by rw [e2];exact zdm hh
  have hx':=zdm (d:=[]) hh
  have cA:=zfZ (T:=T) (S.getD ((i+j) / 2) []) t (hm _ (List.mem_of_getElem? hx))
  (repeat' ((conv=>whnf);first|refine vA ?_|refine vB fun b hb=>?_|refine vC (fun hl=>?_) fun i kv vv hi=>?_|refine vE ?_|refine vG ?_|refine vH ?_|((first|refine vD ?_ ?_|refine vF ?_ ?_|refine vI ?_ ?_)<;>intro hc<;>try simp only [vL] at hc)|refine vJ fun hg=>?_|refine vK fun hg=>?_|refine vT ?_|refine vN ‹_› ?_|(refine vQ ?_ fun x hx=>?_;·first|omega|(simp only [vM] at *;omega))|((first|refine vO ?_ ?_|refine vR ?_ ‹_› ?_|refine vS ?_ fun x hx=>?_|refine vP ?_ ?_);·first|omega|(simp only [vM] at *;omega))|refine vW ⟨by omega,by omega⟩ ?_|(refine vU ?_ ?_;·kernel_rfl)|refine vX ?_|refine vY ?_|refine vZ ?_|refine yD cA ⟨⟨rfl,rfl⟩,⟨rfl,rfl⟩,rfl⟩ rfl ?_|refine za.mk _ ‹_› ?_|refine vP (show (_:BitVec 64)≠_ by decide) ?_));all_goals try conv=>whnf
  ·refine ⟨((BitVec.ofInt 64 ((i:Int)+(j:Int)) >>> BitVec.toNat (1:BitVec 64)).toNat+1,j),[],[],?_,?_,by (refine ⟨rfl,rfl,rfl,?_,?_⟩;repeat' first|exact trivial|exact rfl|exact ⟨_,rfl⟩|exact .inl rfl|exact .inr (.inl ⟨rfl,rfl⟩)|exact .inr (.inr ⟨rfl,rfl⟩)|refine And.intro ?_ ?_|refine ⟨_,rfl,?_⟩|decide|exact of_decide_eq_true rfl)⟩
   ·rw [e2]
    refine ⟨by omega,hj,fun k x hk hxk=>?_,h2⟩
    by_cases e:k=(i+j) / 2
    ·subst e;rw [hx'] at hxk;cases hxk;assumption
    ·by_cases e':k < (i+j) / 2
     ·exact hS.lt_of hx' hxk (by omega) ‹_›
     ·exfalso;omega
   ·(first|omega|(simp only [vM] at *;omega))
  ·refine ⟨(i,(BitVec.ofInt 64 ((i:Int)+(j:Int)) >>> BitVec.toNat (1:BitVec 64)).toNat),[],[],?_,?_,by (refine ⟨rfl,rfl,rfl,?_,?_⟩;repeat' first|exact trivial|exact rfl|exact ⟨_,rfl⟩|exact .inl rfl|exact .inr (.inl ⟨rfl,rfl⟩)|exact .inr (.inr ⟨rfl,rfl⟩)|refine And.intro ?_ ?_|refine ⟨_,rfl,?_⟩|decide|exact of_decide_eq_true rfl)⟩
   ·rw [e2]
    refine ⟨by omega,by omega,h1,fun k x hk hxk hlk=>?_⟩
    have:=hS.lt_of hxk hx' hk hlk
    omega
   ·(first|omega|(simp only [vM] at *;omega))
  iterate 2 (exfalso;omega)
 ·have e0:j=i:=by omega
  subst e0
  have ek:=key j hj h1 h2
  by_cases hjl:j < S.length
  ·have hx:=zdm (d:=[]) hjl
   have cA:=zfZ (T:=T) (S.getD j []) t (hm _ (List.mem_of_getElem? hx))
   (repeat' ((conv=>whnf);first|refine vA ?_|refine vB fun b hb=>?_|refine vC (fun hl=>?_) fun i kv vv hi=>?_|refine vE ?_|refine vG ?_|refine vH ?_|((first|refine vD ?_ ?_|refine vF ?_ ?_|refine vI ?_ ?_)<;>intro hc<;>try simp only [vL] at hc)|refine vJ fun hg=>?_|refine vK fun hg=>?_|refine vT ?_|refine vN ‹_› ?_|(refine vQ ?_ fun x hx=>?_;·first|omega|(simp only [vM] at *;omega))|((first|refine vO ?_ ?_|refine vR ?_ ‹_› ?_|refine vS ?_ fun x hx=>?_|refine vP ?_ ?_);·first|omega|(simp only [vM] at *;omega))|refine vW ⟨by omega,by omega⟩ ?_|(refine vU ?_ ?_;·kernel_rfl)|refine vX ?_|refine vY ?_|refine vZ ?_|refine yD cA ⟨⟨rfl,rfl⟩,⟨rfl,rfl⟩,rfl⟩ rfl ?_|refine za.mk _ ‹_› ?_|refine vP (show (_:BitVec 64)≠_ by decide) ?_));all_goals try conv=>whnf
   ·exfalso;omega
   ·show some (D.tup [.int .i64 (j:Int),.bool (decide (zax (S.getD j []) t=0))])=_
    rw [← ek];simp [hjl]
   ·exfalso;omega
  ·(repeat' ((conv=>whnf);first|refine vA ?_|refine vB fun b hb=>?_|refine vC (fun hl=>?_) fun i kv vv hi=>?_|refine vE ?_|refine vG ?_|refine vH ?_|((first|refine vD ?_ ?_|refine vF ?_ ?_|refine vI ?_ ?_)<;>intro hc<;>try simp only [vL] at hc)|refine vJ fun hg=>?_|refine vK fun hg=>?_|refine vT ?_|refine vN ‹_› ?_|(refine vQ ?_ fun x hx=>?_;·first|omega|(simp only [vM] at *;omega))|((first|refine vO ?_ ?_|refine vR ?_ ‹_› ?_|refine vS ?_ fun x hx=>?_|refine vP ?_ ?_);·first|omega|(simp only [vM] at *;omega))|refine vW ⟨by omega,by omega⟩ ?_|(refine vU ?_ ?_;·kernel_rfl)|refine vX ?_|refine vY ?_|refine vZ ?_|refine za.mk _ ‹_› ?_|refine vP (show (_:BitVec 64)≠_ by decide) ?_));all_goals try conv=>whnf
   iterate 2 (exfalso;omega)
   show some (D.tup [.int .i64 (j:Int),.bool false])=_
   rw [← ek];simp [hjl]
theorem zri (ts:List Tup) (h0:ts≠[]) (h12:ts.length≤12) (hm : ∀ x∈ts,Sml x):Fn Tryz.prog T zdU [.d (.arr 1 (ts.map dII))] [] (.d (.tup [dN (ts.map (rkN ts)),.int .i64 (cnN ts:Int)])) []:=by
 have c1:=zrg (T:=T) ts h0 (by omega)
 have c2:=znX (T:=T) ts.toArray hm (by simpa using h12)
 have hS:=zqR (ts:=ts) rfl
 have hp:=zmR ts.toArray
 have hms : ∀ x∈(Sort.sort ltT ts.toArray).toList,Sml x:=fun x hx=>hm x (hp.mem_iff.1 hx)
 have hsz:(Sort.sort ltT ts.toArray).size=ts.length:=by have:=hp.length_eq;simpa using this
 generalize Sort.sort ltT ts.toArray=A at c2 hS hp hms hsz
 have hmd : ∀ x∈ddA A A.size,Sml x:=fun x hx=>hm x ((hS.mem x).1 hx)
 have hcn:=hS.cnt
 have hle:=hS.le
 have cb:=fun t=>zuG (T:=T) (ddA A A.size) ts hS (by omega) hmd t
 have c3:=zsG (T:=T) A hms (by omega)
 generalize ddA A A.size=S at hS hmd hcn hle cb c3
 refine zp zF zkp (by show 1≤37;decide) ?_
 (repeat' ((conv=>whnf);first|refine vA ?_|refine vB fun b hb=>?_|refine vC (fun hl=>?_) fun i kv vv hi=>?_|refine vE ?_|refine vG ?_|refine vH ?_|((first|refine vD ?_ ?_|refine vF ?_ ?_|refine vI ?_ ?_)<;>intro hc<;>try simp only [vL] at hc)|refine vJ fun hg=>?_|refine vK fun hg=>?_|refine vT ?_|refine vN ‹_› ?_|(refine vQ ?_ fun x hx=>?_;·first|omega|(simp only [vM] at *;omega))|((first|refine vO ?_ ?_|refine vR ?_ ‹_› ?_|refine vS ?_ fun x hx=>?_|refine vP ?_ ?_);·first|omega|(simp only [vM] at *;omega))|refine vW ⟨by omega,by omega⟩ ?_|(refine vU ?_ ?_;·kernel_rfl)|refine vX ?_|refine vY ?_|refine vZ ?_|refine za.mk _ ‹_› ?_|refine vP (show (_:BitVec 64)≠_ by decide) ?_));all_goals try conv=>whnf
 refine zah.res (c1) (by (repeat refine ⟨⟨rfl,rfl⟩,?_⟩);rfl) ?_
 (repeat' ((conv=>whnf);first|refine vA ?_|refine vB fun b hb=>?_|refine vC (fun hl=>?_) fun i kv vv hi=>?_|refine vE ?_|refine vG ?_|refine vH ?_|((first|refine vD ?_ ?_|refine vF ?_ ?_|refine vI ?_ ?_)<;>intro hc<;>try simp only [vL] at hc)|refine vJ fun hg=>?_|refine vK fun hg=>?_|refine vT ?_|refine vN ‹_› ?_|(refine vQ ?_ fun x hx=>?_;·first|omega|(simp only [vM] at *;omega))|((first|refine vO ?_ ?_|refine vR ?_ ‹_› ?_|refine vS ?_ fun x hx=>?_|refine vP ?_ ?_);·first|omega|(simp only [vM] at *;omega))|refine vW ⟨by omega,by omega⟩ ?_|(refine vU ?_ ?_;·kernel_rfl)|refine vX ?_|refine vY ?_|refine vZ ?_|refine za.mk _ ‹_› ?_|refine vP (show (_:BitVec 64)≠_ by decide) ?_));all_goals try conv=>whnf
 refine zah.objs [0] (c2) (by (repeat' first|exact trivial|exact rfl|exact ⟨_,rfl⟩|exact .inl rfl|exact .inr (.inl ⟨rfl,rfl⟩)|exact .inr (.inr ⟨rfl,rfl⟩)|refine And.intro ?_ ?_|refine ⟨_,rfl,?_⟩|decide|exact of_decide_eq_true rfl)) (by (repeat' first|exact trivial|exact rfl|exact ⟨_,rfl⟩|exact .inl rfl|exact .inr (.inl ⟨rfl,rfl⟩)|exact .inr (.inr ⟨rfl,rfl⟩)|refine And.intro ?_ ?_|refine ⟨_,rfl,?_⟩|decide|exact of_decide_eq_true rfl)) (by rfl) (by rfl) (by simp) ?_
 (repeat' ((conv=>whnf);first|refine vA ?_|refine vB fun b hb=>?_|refine vC (fun hl=>?_) fun i kv vv hi=>?_|refine vE ?_|refine vG ?_|refine vH ?_|((first|refine vD ?_ ?_|refine vF ?_ ?_|refine vI ?_ ?_)<;>intro hc<;>try simp only [vL] at hc)|refine vJ fun hg=>?_|refine vK fun hg=>?_|refine vT ?_|refine vN ‹_› ?_|(refine vQ ?_ fun x hx=>?_;·first|omega|(simp only [vM] at *;omega))|((first|refine vO ?_ ?_|refine vR ?_ ‹_› ?_|refine vS ?_ fun x hx=>?_|refine vP ?_ ?_);·first|omega|(simp only [vM] at *;omega))|refine vW ⟨by omega,by omega⟩ ?_|(refine vU ?_ ?_;·kernel_rfl)|refine vX ?_|refine vY ?_|refine vZ ?_|refine za.mk _ ‹_› ?_|refine vP (show (_:BitVec 64)≠_ by decide) ?_));all_goals try conv=>whnf
 refine zah.objs [0] (c3) (by (repeat' first|exact trivial|exact rfl|exact ⟨_,rfl⟩|exact .inl rfl|exact .inr (.inl ⟨rfl,rfl⟩)|exact .inr (.inr ⟨rfl,rfl⟩)|refine And.intro ?_ ?_|refine ⟨_,rfl,?_⟩|decide|exact of_decide_eq_true rfl)) (by (repeat' first|exact trivial|exact rfl|exact ⟨_,rfl⟩|exact .inl rfl|exact .inr (.inl ⟨rfl,rfl⟩)|exact .inr (.inr ⟨rfl,rfl⟩)|refine And.intro ?_ ?_|refine ⟨_,rfl,?_⟩|decide|exact of_decide_eq_true rfl)) (by rfl) (by rfl) (by simp) ?_
 (repeat' ((conv=>whnf);first|refine vA ?_|refine vB fun b hb=>?_|refine vC (fun hl=>?_) fun i kv vv hi=>?_|refine vE ?_|refine vG ?_|refine vH ?_|((first|refine vD ?_ ?_|refine vF ?_ ?_|refine vI ?_ ?_)<;>intro hc<;>try simp only [vL] at hc)|refine vJ fun hg=>?_|refine vK fun hg=>?_|refine vT ?_|refine vN ‹_› ?_|(refine vQ ?_ fun x hx=>?_;·first|omega|(simp only [vM] at *;omega))|((first|refine vO ?_ ?_|refine vR ?_ ‹_› ?_|refine vS ?_ fun x hx=>?_|refine vP ?_ ?_);·first|omega|(simp only [vM] at *;omega))|refine vW ⟨by omega,by omega⟩ ?_|(refine vU ?_ ?_;·kernel_rfl)|refine vX ?_|refine vY ?_|refine vZ ?_|refine za.mk _ ‹_› ?_|refine vP (show (_:BitVec 64)≠_ by decide) ?_));all_goals try conv=>whnf
 refine zq (fun ((k,zs):Nat×List D)=>[(4,.own 0),(5,.own 1),(17,.d (.arr 1 (ts.map dII))),(18,.d (.int .i64 ((ts.map dII).length:Int))),(19,.d (.int .i64 ((k:Int))))]) (fun ((k,zs):Nat×List D)=>[(0,some (.row 1 (S.map dII))),(1,some (.row 1 zs))]) 2 (fun ((k,zs):Nat×List D)=>k≤ts.length∧zs=(List.range ts.length).map fun i=>D.int .i64 (if i < k then (rkN ts (ts.getD i []):Int) else 0)) (fun ((k,zs):Nat×List D)=>ts.length - k) ((0,List.replicate (((ts.map dII).length:Int)).toNat (D.int .i64 0))) [(0,1),(1,2)] [] (⟨by omega,by simp only [Nat.not_lt_zero,if_false];rw [List.length_map,Int.toNat_natCast];exact zaP _ _⟩) (by (refine ⟨rfl,rfl,rfl,?_,?_⟩;repeat' first|exact trivial|exact rfl|exact ⟨_,rfl⟩|exact .inl rfl|exact .inr (.inl ⟨rfl,rfl⟩)|exact .inr (.inr ⟨rfl,rfl⟩)|refine And.intro ?_ ?_|refine ⟨_,rfl,?_⟩|decide|exact of_decide_eq_true rfl)) ?_
 rintro ⟨k,zs⟩ ⟨hk,hz⟩
 have hzl:zs.length=ts.length:=by rw [hz];simp
 by_cases hkl:k < ts.length
 ·have hx:=zdm (d:=[]) hkl
  obtain ⟨b,cbk⟩:=cb (ts.getD k [])
  (repeat' ((conv=>whnf);first|refine vA ?_|refine vB fun b hb=>?_|refine vC (fun hl=>?_) fun i kv vv hi=>?_|refine vE ?_|refine vG ?_|refine vH ?_|((first|refine vD ?_ ?_|refine vF ?_ ?_|refine vI ?_ ?_)<;>intro hc<;>try simp only [vL] at hc)|refine vJ fun hg=>?_|refine vK fun hg=>?_|refine vT ?_|refine vN ‹_› ?_|(refine vQ ?_ fun x hx=>?_;·first|omega|(simp only [vM] at *;omega))|((first|refine vO ?_ ?_|refine vR ?_ ‹_› ?_|refine vS ?_ fun x hx=>?_|refine vP ?_ ?_);·first|omega|(simp only [vM] at *;omega))|refine vW ⟨by omega,by omega⟩ ?_|(refine vU ?_ ?_;·kernel_rfl)|refine vX ?_|refine vY ?_|refine vZ ?_|refine yD cbk (by (repeat refine ⟨⟨rfl,rfl⟩,?_⟩);rfl) rfl ?_|refine yN cbk (by (repeat refine ⟨⟨rfl,rfl⟩,?_⟩);rfl) ?_|refine za.mk _ ‹_› ?_|refine vP (show (_:BitVec 64)≠_ by decide) ?_));all_goals try conv=>whnf
  ·refine ⟨(k+1,_),[(0,0),(1,1)],[],?_,?_,by (refine ⟨rfl,rfl,rfl,?_,?_⟩;repeat' first|exact trivial|exact rfl|exact ⟨_,rfl⟩|exact .inl rfl|exact .inr (.inl ⟨rfl,rfl⟩)|exact .inr (.inr ⟨rfl,rfl⟩)|refine And.intro ?_ ?_|refine ⟨_,rfl,?_⟩|decide|exact of_decide_eq_true rfl)⟩
   ·refine ⟨by omega,?_⟩
    rw [hz]
    refine (zd3 _).trans (zQ fun u hu=>?_)
    show (if u=k then _ else _)=_
    by_cases e:u=k
    ·subst e;rw [if_pos rfl,if_pos (by omega)]
    ·rw [if_neg e]
     by_cases e2:u < k
     ·rw [if_pos e2,if_pos (by omega)]
     ·rw [if_neg e2,if_neg (by omega)]
   ·(first|omega|(simp only [vM] at *;omega))
  ·exfalso;omega
 ·(repeat' ((conv=>whnf);first|refine vA ?_|refine vB fun b hb=>?_|refine vC (fun hl=>?_) fun i kv vv hi=>?_|refine vE ?_|refine vG ?_|refine vH ?_|((first|refine vD ?_ ?_|refine vF ?_ ?_|refine vI ?_ ?_)<;>intro hc<;>try simp only [vL] at hc)|refine vJ fun hg=>?_|refine vK fun hg=>?_|refine vT ?_|refine vN ‹_› ?_|(refine vQ ?_ fun x hx=>?_;·first|omega|(simp only [vM] at *;omega))|((first|refine vO ?_ ?_|refine vR ?_ ‹_› ?_|refine vS ?_ fun x hx=>?_|refine vP ?_ ?_);·first|omega|(simp only [vM] at *;omega))|refine vW ⟨by omega,by omega⟩ ?_|(refine vU ?_ ?_;·kernel_rfl)|refine vX ?_|refine vY ?_|refine vZ ?_|refine za.mk _ ‹_› ?_|refine vP (show (_:BitVec 64)≠_ by decide) ?_));all_goals try conv=>whnf
  ·exfalso;omega
  ·have e0:k=ts.length:=by omega
   subst e0
   have hzz:zs=(ts.map (rkN ts)).map fun (x:Nat)=>D.int .i64 (x:Int):=by
    rw [hz]
    refine zia (d := .nil) (by simp) fun i hi=>?_
    rw [List.length_map,List.length_range] at hi
    simp [List.getD,hi]
   refine congrArg some (show D.tup [.arr 1 zs,.int .i64 ((S.map dII).length:Int)]=_ from ?_)
   rw [hzz,List.length_map,hcn]
   simp [Function.comp_def]
end Go.Ab
namespace Go.Ab
open Go Go.Proofs
set_option maxRecDepth 10000
set_option maxHeartbeats 4000000
variable {T:Nat→Obj→Prop}
def ltI (x y:Int):Bool:=decide (x < y)
abbrev zbA (d:Array (Int)):Ob := .row 1 (d.toList.map (D.int .i64))
theorem zo0 (x y:Int):Fn Tryz.prog T zgp [.d (.int .i64 x),.d (.int .i64 y)] [] (.d (.bool (ltI x y))) []:=by
 have hn : ∀ z:Int,Fn Tryz.prog T zdT [.d (.int .i64 z)] [] (.d (.bool false)) []:=fun z=>by
  refine zp zF zf1 (by show 1≤6;decide) ?_
  (repeat' ((conv=>whnf);first|refine vA ?_|refine vB fun b hb=>?_|refine vC (fun hl=>?_) fun i kv vv hi=>?_|refine vE ?_|refine vG ?_|refine vH ?_|((first|refine vD ?_ ?_|refine vF ?_ ?_|refine vI ?_ ?_)<;>intro hc<;>try simp only [vL] at hc)|refine vJ fun hg=>?_|refine vK fun hg=>?_|refine vT ?_|refine vN ‹_› ?_|(refine vQ ?_ fun x hx=>?_;·first|omega|(simp only [vM] at *;omega))|((first|refine vO ?_ ?_|refine vR ?_ ‹_› ?_|refine vS ?_ fun x hx=>?_|refine vP ?_ ?_);·first|omega|(simp only [vM] at *;omega))|refine vW ⟨by omega,by omega⟩ ?_|(refine vU ?_ ?_;·kernel_rfl)|refine vX ?_|refine vY ?_|refine vZ ?_|refine za.mk _ ‹_› ?_|refine vP (show (_:BitVec 64)≠_ by decide) ?_));all_goals try conv=>whnf
  simp
 refine zp zF zlk (by show 2≤17;decide) ?_
 (repeat' ((conv=>whnf);first|refine vA ?_|refine vB fun b hb=>?_|refine vC (fun hl=>?_) fun i kv vv hi=>?_|refine vE ?_|refine vG ?_|refine vH ?_|((first|refine vD ?_ ?_|refine vF ?_ ?_|refine vI ?_ ?_)<;>intro hc<;>try simp only [vL] at hc)|refine vJ fun hg=>?_|refine vK fun hg=>?_|refine vT ?_|refine vN ‹_› ?_|(refine vQ ?_ fun x hx=>?_;·first|omega|(simp only [vM] at *;omega))|((first|refine vO ?_ ?_|refine vR ?_ ‹_› ?_|refine vS ?_ fun x hx=>?_|refine vP ?_ ?_);·first|omega|(simp only [vM] at *;omega))|refine vW ⟨by omega,by omega⟩ ?_|(refine vU ?_ ?_;·kernel_rfl)|refine vX ?_|refine vY ?_|refine vZ ?_|refine yD (hn _) (by (repeat refine ⟨⟨rfl,rfl⟩,?_⟩);rfl) rfl ?_|refine yN (hn _) (by (repeat refine ⟨⟨rfl,rfl⟩,?_⟩);rfl) ?_|refine za.mk _ ‹_› ?_|refine vP (show (_:BitVec 64)≠_ by decide) ?_));all_goals try conv=>whnf
 rfl
theorem zqo (d:Array (Int)) (a b:Nat) (hb:b≤d.size) (hs:d.size≤1073741824) (ha:a≤b) :
  Fn Tryz.prog T zap [.own 0,.d (.int .i64 (a:Int)),.d (.int .i64 (b:Int))] [zbA d] (.tup []) [some (zbA (Sort.insertionSort ltI d a b))]:=by
 refine z7 zF zdF (by show 3≤49;decide) _ (fun e env mem n h=>h) ?_
 (repeat' ((conv=>whnf);first|refine vA ?_|refine vB fun b hb=>?_|refine vC (fun hl=>?_) fun i kv vv hi=>?_|refine vE ?_|refine vG ?_|refine vH ?_|((first|refine vD ?_ ?_|refine vF ?_ ?_|refine vI ?_ ?_)<;>intro hc<;>try simp only [vL] at hc)|refine vJ fun hg=>?_|refine vK fun hg=>?_|refine vT ?_|refine vN ‹_› ?_|(refine vQ ?_ fun x hx=>?_;·first|omega|(simp only [vM] at *;omega))|((first|refine vO ?_ ?_|refine vR ?_ ‹_› ?_|refine vS ?_ fun x hx=>?_|refine vP ?_ ?_);·first|omega|(simp only [vM] at *;omega))|refine vW ⟨by omega,by omega⟩ ?_|(refine vU ?_ ?_;·kernel_rfl)|refine vX ?_|refine vY ?_|refine vZ ?_|refine za.mk _ ‹_› ?_|refine vP (show (_:BitVec 64)≠_ by decide) ?_));all_goals try conv=>whnf
 refine zq (fun ((ii,xs):Int×List D)=>[(0,.own 0),(1,.d (.int .i64 ((a:Int)))),(2,.d (.int .i64 ((b:Int)))),(6,.d (.int .i64 (ii))),(zc,.own 0)]) (fun ((ii,xs):Int×List D)=>[(0,some (.row 1 xs))]) 1 (fun ((ii,xs):Int×List D) => ∃ (i:Nat) (e:Array (Int)),ii=i∧xs=e.toList.map (D.int .i64)∧a < i∧i≤b+1∧e.size=d.size∧Sort.insOuter ltI a b i e=Sort.insertionSort ltI d a b) (fun ((ii,xs):Int×List D)=>(b - ii).toNat) (((a:Int)+1,d.toList.map (D.int .i64))) [(0,0)] [] (⟨a+1,d,by omega,rfl,by omega,by omega,rfl,rfl⟩) (by (refine ⟨rfl,rfl,rfl,?_,?_⟩;repeat' first|exact trivial|exact rfl|exact ⟨_,rfl⟩|exact .inl rfl|exact .inr (.inl ⟨rfl,rfl⟩)|exact .inr (.inr ⟨rfl,rfl⟩)|refine And.intro ?_ ?_|refine ⟨_,rfl,?_⟩|decide|exact of_decide_eq_true rfl)) ?_
 rintro ⟨_,_⟩ ⟨i,e,rfl,rfl,hi,hi2,he,hI⟩
 (repeat' ((conv=>whnf);first|refine vA ?_|refine vB fun b hb=>?_|refine vC (fun hl=>?_) fun i kv vv hi=>?_|refine vE ?_|refine vG ?_|refine vH ?_|((first|refine vD ?_ ?_|refine vF ?_ ?_|refine vI ?_ ?_)<;>intro hc<;>try simp only [vL] at hc)|refine vJ fun hg=>?_|refine vK fun hg=>?_|refine vT ?_|refine vN ‹_› ?_|(refine vQ ?_ fun x hx=>?_;·first|omega|(simp only [vM] at *;omega))|((first|refine vO ?_ ?_|refine vR ?_ ‹_› ?_|refine vS ?_ fun x hx=>?_|refine vP ?_ ?_);·first|omega|(simp only [vM] at *;omega))|refine vW ⟨by omega,by omega⟩ ?_|(refine vU ?_ ?_;·kernel_rfl)|refine vX ?_|refine vY ?_|refine vZ ?_|refine za.mk _ ‹_› ?_|refine vP (show (_:BitVec 64)≠_ by decide) ?_));all_goals try conv=>whnf
 ·refine zq (fun ((jj,xs):Int×List D)=>[(0,.own 0),(1,.d (.int .i64 ((a:Int)))),(2,.d (.int .i64 ((b:Int)))),(6,.d (.int .i64 ((i:Int)))),(7,.d (.int .i64 (jj))),(zc,.own 0)]) (fun ((jj,xs):Int×List D)=>[(0,some (.row 1 xs))]) 1 (fun ((jj,xs):Int×List D) => ∃ (j:Nat) (g:Array (Int)),jj=j∧xs=g.toList.map (D.int .i64)∧j≤i∧g.size=d.size∧Sort.insInner ltI a j g=Sort.insInner ltI a i e) (fun ((jj,xs):Int×List D)=>jj.toNat) (((i:Int),e.toList.map (D.int .i64))) [(0,0)] [] (⟨i,e,rfl,rfl,by omega,he,rfl⟩) (by (refine ⟨rfl,rfl,rfl,?_,?_⟩;repeat' first|exact trivial|exact rfl|exact ⟨_,rfl⟩|exact .inl rfl|exact .inr (.inl ⟨rfl,rfl⟩)|exact .inr (.inr ⟨rfl,rfl⟩)|refine And.intro ?_ ?_|refine ⟨_,rfl,?_⟩|decide|exact of_decide_eq_true rfl)) ?_
  rintro ⟨_,_⟩ ⟨j,g,rfl,rfl,hj,hg,hJ⟩
  have hgl:g.toList.length=d.size:=by rw [Array.length_toList];exact hg
  have stop : ¬(a < j∧ltI g[j]! g[j - 1]! = true)→Sort.insOuter ltI a b (i+1) g=Sort.insertionSort ltI d a b:=fun h=>by
   rw [← hI,Sort.insOuter.eq_def ltI a b i,if_pos (by omega),← hJ,zfd h]
  (repeat' ((conv=>whnf);first|refine vA ?_|refine vB fun b hb=>?_|refine vC (fun hl=>?_) fun i kv vv hi=>?_|refine vE ?_|refine vG ?_|refine vH ?_|((first|refine vD ?_ ?_|refine vF ?_ ?_|refine vI ?_ ?_)<;>intro hc<;>try simp only [vL] at hc)|refine vJ fun hg=>?_|refine vK fun hg=>?_|refine vT ?_|refine vN ‹_› ?_|(refine vQ ?_ fun x hx=>?_;·first|omega|(simp only [vM] at *;omega))|((first|refine vO ?_ ?_|refine vR ?_ ‹_› ?_|refine vS ?_ fun x hx=>?_|refine vP ?_ ?_);·first|omega|(simp only [vM] at *;omega))|refine vW ⟨by omega,by omega⟩ ?_|(refine vU ?_ ?_;·kernel_rfl)|refine vX ?_|refine vY ?_|refine vZ ?_|refine yD (zo0 _ _) ⟨⟨rfl,rfl⟩,⟨rfl,rfl⟩,rfl⟩ rfl ?_|refine za.mk _ ‹_› ?_|refine vP (show (_:BitVec 64)≠_ by decide) ?_));all_goals try conv=>whnf
  ·have e1:((j:Int) - 1).toNat=j - 1:=by omega
   have hx1:g.toList[j]? = some _:=‹g.toList[(j:Int).toNat]? = some _›
   have hx2:g.toList[j - 1]? = some x:=by rw [← e1];exact hx
   refine ⟨(_,_),[(0,0)],[],?_,?_,by (refine ⟨rfl,rfl,rfl,?_,?_⟩;repeat' first|exact trivial|exact rfl|exact ⟨_,rfl⟩|exact .inl rfl|exact .inr (.inl ⟨rfl,rfl⟩)|exact .inr (.inr ⟨rfl,rfl⟩)|refine And.intro ?_ ?_|refine ⟨_,rfl,?_⟩|decide|exact of_decide_eq_true rfl)⟩
   ·refine ⟨j - 1,Sort.swp g j (j - 1),by omega,?_,by omega,by rw [zkF,hg],?_⟩
    ·rw [e1];exact zl9 hx1 hx2
    ·exact (zfc (d:=g) (j:=j) (by omega) (by rw [(zaD hx1).1,(zaD hx2).1];exact decide_eq_true hc)).symm.trans hJ
   ·(first|omega|(simp only [vM] at *;omega))
  ·have e1:((j:Int) - 1).toNat=j - 1:=by omega
   have hx1:g.toList[j]? = some _:=‹g.toList[(j:Int).toNat]? = some _›
   have hx2:g.toList[j - 1]? = some x:=by rw [← e1];exact hx
   refine ⟨(_,_),[(0,0)],[],?_,?_,by (refine ⟨rfl,rfl,rfl,?_,?_⟩;repeat' first|exact trivial|exact rfl|exact ⟨_,rfl⟩|exact .inl rfl|exact .inr (.inl ⟨rfl,rfl⟩)|exact .inr (.inr ⟨rfl,rfl⟩)|refine And.intro ?_ ?_|refine ⟨_,rfl,?_⟩|decide|exact of_decide_eq_true rfl)⟩
   ·exact ⟨i+1,g,by omega,rfl,by omega,by omega,hg,stop fun h=>by
     rw [(zaD hx1).1,(zaD hx2).1] at h
     have:=of_decide_eq_true h.2;omega⟩
   ·(first|omega|(simp only [vM] at *;omega))
  ·refine ⟨(_,_),[(0,0)],[],?_,?_,by (refine ⟨rfl,rfl,rfl,?_,?_⟩;repeat' first|exact trivial|exact rfl|exact ⟨_,rfl⟩|exact .inl rfl|exact .inr (.inl ⟨rfl,rfl⟩)|exact .inr (.inr ⟨rfl,rfl⟩)|refine And.intro ?_ ?_|refine ⟨_,rfl,?_⟩|decide|exact of_decide_eq_true rfl)⟩
   ·exact ⟨i+1,g,by omega,rfl,by omega,by omega,hg,stop fun h=>by omega⟩
   ·(first|omega|(simp only [vM] at *;omega))
 ·have e0:Sort.insertionSort ltI d a b=e:=by
   rw [← hI,Sort.insOuter,if_neg (by omega)]
  rw [e0]
  refine ⟨trivial,_,[(0,0)],[],rfl,.inl (by (repeat' first|exact trivial|exact rfl|exact ⟨_,rfl⟩|exact .inl rfl|exact .inr (.inl ⟨rfl,rfl⟩)|exact .inr (.inr ⟨rfl,rfl⟩)|refine And.intro ?_ ?_|refine ⟨_,rfl,?_⟩|decide|exact of_decide_eq_true rfl)),⟨by rfl,by rfl,by rfl,trivial,by (repeat' first|exact trivial|exact rfl|exact ⟨_,rfl⟩|exact .inl rfl|exact .inr (.inl ⟨rfl,rfl⟩)|exact .inr (.inr ⟨rfl,rfl⟩)|refine And.intro ?_ ?_|refine ⟨_,rfl,?_⟩|decide|exact of_decide_eq_true rfl)⟩,by (repeat' first|exact trivial|exact rfl|exact ⟨_,rfl⟩|exact .inl rfl|exact .inr (.inl ⟨rfl,rfl⟩)|exact .inr (.inr ⟨rfl,rfl⟩)|refine And.intro ?_ ?_|refine ⟨_,rfl,?_⟩|decide|exact of_decide_eq_true rfl)⟩
theorem zo3 (d:Array Int) {a b:Nat} {ai bi:Int} (ea:ai=a) (eb:bi=b) (hb:b≤d.size) (hs:d.size≤1073741824) (ha:a≤b) :
  Fn Tryz.prog T zap [.own 0,.d (.int .i64 ai),.d (.int .i64 bi)] [zbA d] (.tup []) [some (zbA (Sort.insertionSort ltI d a b))]:=by
 subst ea;subst eb;exact zqo d a b hb hs ha
theorem zqr (d:Array Int) {b l:Nat} {bi li:Int} (eb:bi=b) (el:li=l) (h12:b≤12) (hb:b≤d.size) (hs:d.size≤536870912) :
  Fn Tryz.prog T zcm [.own 0,.d (.int .i64 0),.d (.int .i64 bi),.d (.int .i64 li)] [zbA d] (.tup []) [some (zbA (Sort.pdq ltI d 0 b l true true))]:=by
 subst eb;subst el
 have hR:Sort.pdq ltI d 0 b l true true=Sort.insertionSort ltI d 0 b:=by rw [Sort.pdq,if_pos (by omega)]
 rw [hR]
 refine z7 zF zez (by show 4≤134;decide) _ (fun e env mem n h=>h) ?_
 (repeat' ((conv=>whnf);first|refine vA ?_|refine vB fun b hb=>?_|refine vC (fun hl=>?_) fun i kv vv hi=>?_|refine vE ?_|refine vG ?_|refine vH ?_|((first|refine vD ?_ ?_|refine vF ?_ ?_|refine vI ?_ ?_)<;>intro hc<;>try simp only [vL] at hc)|refine vJ fun hg=>?_|refine vK fun hg=>?_|refine vT ?_|refine vN ‹_› ?_|(refine vQ ?_ fun x hx=>?_;·first|omega|(simp only [vM] at *;omega))|((first|refine vO ?_ ?_|refine vR ?_ ‹_› ?_|refine vS ?_ fun x hx=>?_|refine vP ?_ ?_);·first|omega|(simp only [vM] at *;omega))|refine vW ⟨by omega,by omega⟩ ?_|(refine vU ?_ ?_;·kernel_rfl)|refine vX ?_|refine vY ?_|refine vZ ?_|refine za.mk _ ‹_› ?_|refine vP (show (_:BitVec 64)≠_ by decide) ?_));all_goals try conv=>whnf
 refine zq (fun (u:Unit)=>[(0,.own 0),(1,.d (.int .i64 (0))),(2,.d (.int .i64 ((b:Int)))),(3,.d (.int .i64 ((l:Int)))),(8,.d (.bool (true))),(9,.d (.bool (true))),(zc,.own 0)]) (fun (u:Unit)=>[(0,some (zbA d))]) 1 (fun (u:Unit)=>True) (fun (u:Unit)=>0) (()) [(0,0)] [] (trivial) (by (refine ⟨rfl,rfl,rfl,?_,?_⟩;repeat' first|exact trivial|exact rfl|exact ⟨_,rfl⟩|exact .inl rfl|exact .inr (.inl ⟨rfl,rfl⟩)|exact .inr (.inr ⟨rfl,rfl⟩)|refine And.intro ?_ ?_|refine ⟨_,rfl,?_⟩|decide|exact of_decide_eq_true rfl)) ?_
 rintro u -
 (repeat' ((conv=>whnf);first|refine zfN.but 35 rfl ?_|refine vB fun b hb=>?_|refine vC (fun hl=>?_) fun i kv vv hi=>?_|refine vE ?_|refine vG ?_|refine vH ?_|((first|refine vD ?_ ?_|refine vF ?_ ?_|refine vI ?_ ?_)<;>intro hc<;>try simp only [vL] at hc)|refine vJ fun hg=>?_|refine vK fun hg=>?_|refine vT ?_|refine vN ‹_› ?_|(refine vQ ?_ fun x hx=>?_;·first|omega|(simp only [vM] at *;omega))|((first|refine vO ?_ ?_|refine vR ?_ ‹_› ?_|refine vS ?_ fun x hx=>?_|refine vP ?_ ?_);·first|omega|(simp only [vM] at *;omega))|refine vW ⟨by omega,by omega⟩ ?_|(refine vU ?_ ?_;·kernel_rfl)|refine vX ?_|refine vY ?_|refine vZ ?_|refine za.mk _ ‹_› ?_|refine vP (show (_:BitVec 64)≠_ by decide) ?_));all_goals try conv=>whnf
 ·refine zah.objs [0] (zo3 d (a:=0) (b:=b) rfl rfl (by omega) (by omega) (by omega)) (by (repeat' first|exact trivial|exact rfl|exact ⟨_,rfl⟩|exact .inl rfl|exact .inr (.inl ⟨rfl,rfl⟩)|exact .inr (.inr ⟨rfl,rfl⟩)|refine And.intro ?_ ?_|refine ⟨_,rfl,?_⟩|decide|exact of_decide_eq_true rfl)) (by (repeat' first|exact trivial|exact rfl|exact ⟨_,rfl⟩|exact .inl rfl|exact .inr (.inl ⟨rfl,rfl⟩)|exact .inr (.inr ⟨rfl,rfl⟩)|refine And.intro ?_ ?_|refine ⟨_,rfl,?_⟩|decide|exact of_decide_eq_true rfl)) (by rfl) (by rfl) (by simp) ?_
  (repeat' ((conv=>whnf);first|refine vA ?_|refine vB fun b hb=>?_|refine vC (fun hl=>?_) fun i kv vv hi=>?_|refine vE ?_|refine vG ?_|refine vH ?_|((first|refine vD ?_ ?_|refine vF ?_ ?_|refine vI ?_ ?_)<;>intro hc<;>try simp only [vL] at hc)|refine vJ fun hg=>?_|refine vK fun hg=>?_|refine vT ?_|refine vN ‹_› ?_|(refine vQ ?_ fun x hx=>?_;·first|omega|(simp only [vM] at *;omega))|((first|refine vO ?_ ?_|refine vR ?_ ‹_› ?_|refine vS ?_ fun x hx=>?_|refine vP ?_ ?_);·first|omega|(simp only [vM] at *;omega))|refine vW ⟨by omega,by omega⟩ ?_|(refine vU ?_ ?_;·kernel_rfl)|refine vX ?_|refine vY ?_|refine vZ ?_|refine za.mk _ ‹_› ?_|refine vP (show (_:BitVec 64)≠_ by decide) ?_));all_goals try conv=>whnf
  refine ⟨trivial,_,[(0,0)],[],rfl,.inl (by (repeat' first|exact trivial|exact rfl|exact ⟨_,rfl⟩|exact .inl rfl|exact .inr (.inl ⟨rfl,rfl⟩)|exact .inr (.inr ⟨rfl,rfl⟩)|refine And.intro ?_ ?_|refine ⟨_,rfl,?_⟩|decide|exact of_decide_eq_true rfl)),⟨by rfl,by rfl,by rfl,trivial,by (repeat' first|exact trivial|exact rfl|exact ⟨_,rfl⟩|exact .inl rfl|exact .inr (.inl ⟨rfl,rfl⟩)|exact .inr (.inr ⟨rfl,rfl⟩)|refine And.intro ?_ ?_|refine ⟨_,rfl,?_⟩|decide|exact of_decide_eq_true rfl)⟩,by (repeat' first|exact trivial|exact rfl|exact ⟨_,rfl⟩|exact .inl rfl|exact .inr (.inl ⟨rfl,rfl⟩)|exact .inr (.inr ⟨rfl,rfl⟩)|refine And.intro ?_ ?_|refine ⟨_,rfl,?_⟩|decide|exact of_decide_eq_true rfl)⟩
 all_goals (exfalso;omega)
set_option maxHeartbeats 1000000 in
theorem zo1 (d:Array Int) (hs:d.size≤12):Fn Tryz.prog T zdv [.own 0] [zbA d] (.tup []) [some (zbA (Sort.sort ltI d))]:=by
 have hn:((BitVec.ofInt 64 (d.size:Int)).toNat)=d.size:=by simp;omega
 refine z7 zF zgk (by show 1≤11;decide) _ (fun e env mem n h=>h) ?_
 (repeat' ((conv=>whnf);first|refine vA ?_|refine vB fun b hb=>?_|refine vC (fun hl=>?_) fun i kv vv hi=>?_|refine vE ?_|refine vG ?_|refine vH ?_|((first|refine vD ?_ ?_|refine vF ?_ ?_|refine vI ?_ ?_)<;>intro hc<;>try simp only [vL] at hc)|refine vJ fun hg=>?_|refine vK fun hg=>?_|refine vT ?_|refine vN ‹_› ?_|(refine vQ ?_ fun x hx=>?_;·first|omega|(simp only [vM] at *;omega))|((first|refine vO ?_ ?_|refine vR ?_ ‹_› ?_|refine vS ?_ fun x hx=>?_|refine vP ?_ ?_);·first|omega|(simp only [vM] at *;omega))|refine vW ⟨by omega,by omega⟩ ?_|(refine vU ?_ ?_;·kernel_rfl)|refine vX ?_|refine vY ?_|refine vZ ?_|refine yD (znW _) ⟨⟨rfl,rfl⟩,rfl⟩ rfl ?_|refine za.mk _ ‹_› ?_|refine vP (show (_:BitVec 64)≠_ by decide) ?_));all_goals try conv=>whnf
 refine zah.objs [0] (zqr d (b:=d.size) (l:=Sort.bitsLen d.size) (bi:=((d.toList.map (D.int .i64)).length:Int)) (li:=((Sort.bitsLen (BitVec.ofInt 64 ((d.toList.map (D.int .i64)).length:Int)).toNat:Nat):Int)) (by simp) (by rw [List.length_map,Array.length_toList,hn]) hs (Nat.le_refl _) (by omega)) (by (repeat' first|exact trivial|exact rfl|exact ⟨_,rfl⟩|exact .inl rfl|exact .inr (.inl ⟨rfl,rfl⟩)|exact .inr (.inr ⟨rfl,rfl⟩)|refine And.intro ?_ ?_|refine ⟨_,rfl,?_⟩|decide|exact of_decide_eq_true rfl)) (by (repeat' first|exact trivial|exact rfl|exact ⟨_,rfl⟩|exact .inl rfl|exact .inr (.inl ⟨rfl,rfl⟩)|exact .inr (.inr ⟨rfl,rfl⟩)|refine And.intro ?_ ?_|refine ⟨_,rfl,?_⟩|decide|exact of_decide_eq_true rfl)) (by rfl) (by rfl) (by simp) ?_
 (repeat' ((conv=>whnf);first|refine vA ?_|refine vB fun b hb=>?_|refine vC (fun hl=>?_) fun i kv vv hi=>?_|refine vE ?_|refine vG ?_|refine vH ?_|((first|refine vD ?_ ?_|refine vF ?_ ?_|refine vI ?_ ?_)<;>intro hc<;>try simp only [vL] at hc)|refine vJ fun hg=>?_|refine vK fun hg=>?_|refine vT ?_|refine vN ‹_› ?_|(refine vQ ?_ fun x hx=>?_;·first|omega|(simp only [vM] at *;omega))|((first|refine vO ?_ ?_|refine vR ?_ ‹_› ?_|refine vS ?_ fun x hx=>?_|refine vP ?_ ?_);·first|omega|(simp only [vM] at *;omega))|refine vW ⟨by omega,by omega⟩ ?_|(refine vU ?_ ?_;·kernel_rfl)|refine vX ?_|refine vY ?_|refine vZ ?_|refine za.mk _ ‹_› ?_|refine vP (show (_:BitVec 64)≠_ by decide) ?_));all_goals try conv=>whnf
 refine ⟨trivial,_,[(0,0)],[],rfl,.inl (by (repeat' first|exact trivial|exact rfl|exact ⟨_,rfl⟩|exact .inl rfl|exact .inr (.inl ⟨rfl,rfl⟩)|exact .inr (.inr ⟨rfl,rfl⟩)|refine And.intro ?_ ?_|refine ⟨_,rfl,?_⟩|decide|exact of_decide_eq_true rfl)),⟨by rfl,by rfl,by rfl,trivial,by (repeat' first|exact trivial|exact rfl|exact ⟨_,rfl⟩|exact .inl rfl|exact .inr (.inl ⟨rfl,rfl⟩)|exact .inr (.inr ⟨rfl,rfl⟩)|refine And.intro ?_ ?_|refine ⟨_,rfl,?_⟩|decide|exact of_decide_eq_true rfl)⟩,by (repeat' first|exact trivial|exact rfl|exact ⟨_,rfl⟩|exact .inl rfl|exact .inr (.inl ⟨rfl,rfl⟩)|exact .inr (.inr ⟨rfl,rfl⟩)|refine And.intro ?_ ?_|refine ⟨_,rfl,?_⟩|decide|exact of_decide_eq_true rfl)⟩
set_option maxHeartbeats 1000000 in
theorem ziI (d:Array Int) (hs:d.size≤536870912) (hd : ¬Steps d):Fn Tryz.prog T zaz [.own 0] [zbA d] (.own 1) [none,some (.row 1 ((ddA d d.size).map (D.int .i64)))]:=by
 generalize hR:(ddA d d.size).map (D.int .i64)=R
 have hln:d.toList.length=d.size:=Array.length_toList
 refine z7 zF zcN (by show 1≤61;decide) _ (fun e env mem n h=>h) ?_
 (repeat' ((conv=>whnf);first|refine vA ?_|refine vB fun b hb=>?_|refine vC (fun hl=>?_) fun i kv vv hi=>?_|refine vE ?_|refine vG ?_|refine vH ?_|((first|refine vD ?_ ?_|refine vF ?_ ?_|refine vI ?_ ?_)<;>intro hc<;>try simp only [vL] at hc)|refine vJ fun hg=>?_|refine vK fun hg=>?_|refine vT ?_|refine vN ‹_› ?_|(refine vQ ?_ fun x hx=>?_;·first|omega|(simp only [vM] at *;omega))|((first|refine vO ?_ ?_|refine vR ?_ ‹_› ?_|refine vS ?_ fun x hx=>?_|refine vP ?_ ?_);·first|omega|(simp only [vM] at *;omega))|refine vW ⟨by omega,by omega⟩ ?_|(refine vU ?_ ?_;·kernel_rfl)|refine vX ?_|refine vY ?_|refine vZ ?_|refine za.mk _ ‹_› ?_|refine vP (show (_:BitVec 64)≠_ by decide) ?_));all_goals try conv=>whnf
 ·exact absurd (fun j hj0 hj1=>by omega) hd
 refine zq (fun (i:Int)=>[(0,.own 0),(3,.d (.int .i64 (i))),(zc,.own 0)]) (fun (i:Int)=>[(0,some (zbA d))]) 1 (fun (i:Int) => ∃ k:Nat,i=k∧0 < k∧k≤d.size ∧ ∀ j,0 < j→j < k→d[j]! ≠ d[j - 1]!) (fun (i:Int)=>(d.size - i).toNat) (1) [(0,0)] [] (⟨1,rfl,by omega,by omega,fun j _ _=>by omega⟩) (by (refine ⟨rfl,rfl,rfl,?_,?_⟩;repeat' first|exact trivial|exact rfl|exact ⟨_,rfl⟩|exact .inl rfl|exact .inr (.inl ⟨rfl,rfl⟩)|exact .inr (.inr ⟨rfl,rfl⟩)|refine And.intro ?_ ?_|refine ⟨_,rfl,?_⟩|decide|exact of_decide_eq_true rfl)) ?_
 rintro _ ⟨k,rfl,hk0,hk1,hk⟩
 (repeat' ((conv=>whnf);first|refine vA ?_|refine vB fun b hb=>?_|refine vC (fun hl=>?_) fun i kv vv hi=>?_|refine vE ?_|refine vG ?_|refine vH ?_|((first|refine vD ?_ ?_|refine vF ?_ ?_|refine vI ?_ ?_)<;>intro hc<;>try simp only [vL] at hc)|refine vJ fun hg=>?_|refine vK fun hg=>?_|refine vT ?_|refine vN ‹_› ?_|(refine vQ ?_ fun x hx=>?_;·first|omega|(simp only [vM] at *;omega))|((first|refine vO ?_ ?_|refine vR ?_ ‹_› ?_|refine vS ?_ fun x hx=>?_|refine vP ?_ ?_);·first|omega|(simp only [vM] at *;omega))|refine vW ⟨by omega,by omega⟩ ?_|(refine vU ?_ ?_;·kernel_rfl)|refine vX ?_|refine vY ?_|refine vZ ?_|refine za.mk _ ‹_› ?_|refine vP (show (_:BitVec 64)≠_ by decide) ?_));all_goals try conv=>whnf
 ·have g1:=zaD (zeU k ‹d.toList[(k:Int).toNat]? = some _› rfl)
  have g2:=zaD (zeU (k - 1) ‹d.toList[((k:Int) - 1).toNat]? = some _› (by omega))
  have hkk:d[k]! = d[k - 1]! := g1.1.trans (‹_=_›.trans g2.1.symm)
  refine zq (fun ((w,q,xs):Int×Int×List D)=>[(0,.own 0),(3,.d (.int .i64 (w))),(4,.view 0 k ((d.toList.map (D.int .i64)).length - k)),(5,.d (.int .i64 (q))),(zc,.own 0)]) (fun ((w,q,xs):Int×Int×List D)=>[(0,some (.row 1 xs))]) 1 (fun ((w,q,xs):Int×Int×List D) => ∃ (a b:Nat) (e:Array Int),w=a∧q=b∧xs=e.toList.map (D.int .i64)∧0 < b∧k+b≤d.size∧a < k+b∧e.size=d.size∧e.toList.take a=ddA d (k+b) ∧ ∀ j,k+b - 1≤j→j < d.size→e[j]! = d[j]!) (fun ((w,q,xs):Int×Int×List D)=>(d.size - k - q).toNat) (((k:Int),(1:Int),d.toList.map (D.int .i64))) [(0,0)] [] (⟨k,1,d,rfl,rfl,rfl,by omega,by omega,by omega,rfl,znD hk0 g1.2 hk hkk,fun _ _ _=>rfl⟩) (by (refine ⟨rfl,rfl,rfl,?_,?_⟩;repeat' first|exact trivial|exact rfl|exact ⟨_,rfl⟩|exact .inl rfl|exact .inr (.inl ⟨rfl,rfl⟩)|exact .inr (.inr ⟨rfl,rfl⟩)|refine And.intro ?_ ?_|refine ⟨_,rfl,?_⟩|decide|exact of_decide_eq_true rfl)) ?_
  rintro ⟨_,_,_⟩ ⟨a,b,e,rfl,rfl,rfl,hb0,hb1,hab,he,ha,hj⟩
  have hle:e.toList.length=e.size:=Array.length_toList
  (repeat' ((conv=>whnf);first|refine vA ?_|refine vB fun b hb=>?_|refine vC (fun hl=>?_) fun i kv vv hi=>?_|refine vE ?_|refine vG ?_|refine vH ?_|((first|refine vD ?_ ?_|refine vF ?_ ?_|refine vI ?_ ?_)<;>intro hc<;>try simp only [vL] at hc)|refine vJ fun hg=>?_|refine vK fun hg=>?_|refine vT ?_|refine vN ‹_› ?_|(refine vQ ?_ fun x hx=>?_;·first|omega|(simp only [vM] at *;omega))|((first|refine vO ?_ ?_|refine vR ?_ ‹_› ?_|refine vS ?_ fun x hx=>?_|refine vP ?_ ?_);·first|omega|(simp only [vM] at *;omega))|refine vW ⟨by omega,by omega⟩ ?_|(refine vU ?_ ?_;·kernel_rfl)|refine vX ?_|refine vY ?_|refine vZ ?_|refine za.mk _ ‹_› ?_|refine vP (show (_:BitVec 64)≠_ by decide) ?_));all_goals try conv=>whnf
  ·have h1:=zaD ‹e.toList[k+((b:Nat):Int).toNat]? = some _›
   have h2:=zaD (zeU (i:=((k+b - 1:Nat):Int)) (k+b - 1) (by rw [← ‹e.toList[k+(((b:Nat):Int) - 1).toNat]? = some _›];congr 1;omega) rfl)
   simp only [Int.toNat_natCast] at h1
   have e1:=hj (k+b) (by omega) (by omega)
   have e2:=hj (k+b - 1) (by omega) (by omega)
   refine ⟨(_,_,_),[(0,0)],[],?_,?_,by (refine ⟨rfl,rfl,rfl,?_,?_⟩;repeat' first|exact trivial|exact rfl|exact ⟨_,rfl⟩|exact .inl rfl|exact .inr (.inl ⟨rfl,rfl⟩)|exact .inr (.inr ⟨rfl,rfl⟩)|refine And.intro ?_ ?_|refine ⟨_,rfl,?_⟩|decide|exact of_decide_eq_true rfl)⟩
   ·exact ⟨a+1,b+1,e.setIfInBounds a e[k+b]!,by omega,by omega,by rw [h1.1];simp [List.map_set],by omega,by omega,by omega,by simp [he],
     by rw [zoH (by omega),ha,← Nat.add_assoc,zrb (by rw [← e1,← e2,h1.1,h2.1];assumption),e1],
     fun j h0 h1=>by rw [zpU (by omega)];exact hj j (by omega) h1⟩
   ·(first|omega|(simp only [vM] at *;omega))
  ·have h1:=zaD ‹e.toList[k+((b:Nat):Int).toNat]? = some _›
   have h2:=zaD (zeU (i:=((k+b - 1:Nat):Int)) (k+b - 1) (by rw [← ‹e.toList[k+(((b:Nat):Int) - 1).toNat]? = some _›];congr 1;omega) rfl)
   simp only [Int.toNat_natCast] at h1
   have e1:=hj (k+b) (by omega) (by omega)
   have e2:=hj (k+b - 1) (by omega) (by omega)
   refine ⟨(_,_,_),[(0,0)],[],?_,?_,by (refine ⟨rfl,rfl,rfl,?_,?_⟩;repeat' first|exact trivial|exact rfl|exact ⟨_,rfl⟩|exact .inl rfl|exact .inr (.inl ⟨rfl,rfl⟩)|exact .inr (.inr ⟨rfl,rfl⟩)|refine And.intro ?_ ?_|refine ⟨_,rfl,?_⟩|decide|exact of_decide_eq_true rfl)⟩
   ·exact ⟨a,b+1,e,rfl,by omega,rfl,by omega,by omega,by omega,he,
     by rw [ha,← Nat.add_assoc,zpB (by omega) (by rw [← e1,← e2,h1.1,h2.1];assumption)],
     fun j h0 h1=>hj j (by omega) h1⟩
   ·(first|omega|(simp only [vM] at *;omega))
  ·have hE:=zpy (enc:=(D.int .i64)) (e:=e) (z:=(D.int .i64 0)) (a:=a) (n:=(e.toList.map (D.int .i64)).length - a) (by omega)
   rw [ha,show k+b=d.size by omega,hR] at hE
   subst hE
   refine zkL.mk (by simp only [List.length_append,List.length_take,List.length_replicate,List.length_drop,List.length_map,hle];omega) ?_
   (repeat' ((conv=>whnf);first|refine vA ?_|refine vB fun b hb=>?_|refine vC (fun hl=>?_) fun i kv vv hi=>?_|refine vE ?_|refine vG ?_|refine vH ?_|((first|refine vD ?_ ?_|refine vF ?_ ?_|refine vI ?_ ?_)<;>intro hc<;>try simp only [vL] at hc)|refine vJ fun hg=>?_|refine vK fun hg=>?_|refine vT ?_|refine vN ‹_› ?_|(refine vQ ?_ fun x hx=>?_;·first|omega|(simp only [vM] at *;omega))|((first|refine vO ?_ ?_|refine vR ?_ ‹_› ?_|refine vS ?_ fun x hx=>?_|refine vP ?_ ?_);·first|omega|(simp only [vM] at *;omega))|refine vW ⟨by omega,by omega⟩ ?_|(refine vU ?_ ?_;·kernel_rfl)|refine vX ?_|refine vY ?_|refine vZ ?_|refine za.mk _ ‹_› ?_|refine vP (show (_:BitVec 64)≠_ by decide) ?_));all_goals try conv=>whnf
   refine ⟨trivial,_,[(1,1)],[],rfl,.inl (by (repeat' first|exact trivial|exact rfl|exact ⟨_,rfl⟩|exact .inl rfl|exact .inr (.inl ⟨rfl,rfl⟩)|exact .inr (.inr ⟨rfl,rfl⟩)|refine And.intro ?_ ?_|refine ⟨_,rfl,?_⟩|decide|exact of_decide_eq_true rfl)),⟨by rfl,by rfl,by rfl,trivial,by (repeat' first|exact trivial|exact rfl|exact ⟨_,rfl⟩|exact .inl rfl|exact .inr (.inl ⟨rfl,rfl⟩)|exact .inr (.inr ⟨rfl,rfl⟩)|refine And.intro ?_ ?_|refine ⟨_,rfl,?_⟩|decide|exact of_decide_eq_true rfl)⟩,by (repeat' first|exact trivial|exact rfl|exact ⟨_,rfl⟩|exact .inl rfl|exact .inr (.inl ⟨rfl,rfl⟩)|exact .inr (.inr ⟨rfl,rfl⟩)|refine And.intro ?_ ?_|refine ⟨_,rfl,?_⟩|decide|exact of_decide_eq_true rfl)⟩
 ·refine ⟨_,[(0,0)],[],?_,?_,by (refine ⟨rfl,rfl,rfl,?_,?_⟩;repeat' first|exact trivial|exact rfl|exact ⟨_,rfl⟩|exact .inl rfl|exact .inr (.inl ⟨rfl,rfl⟩)|exact .inr (.inr ⟨rfl,rfl⟩)|refine And.intro ?_ ?_|refine ⟨_,rfl,?_⟩|decide|exact of_decide_eq_true rfl)⟩
  ·exact ⟨k+1,by omega,by omega,by omega,fun j h0 h1=>by
    by_cases hjk:j=k
    ·subst hjk
     have g1:=zaD (zeU j ‹d.toList[(j:Int).toNat]? = some _› rfl)
     have g2:=zaD (zeU (j - 1) ‹d.toList[((j:Int) - 1).toNat]? = some _› (by omega))
     rw [g1.1,g2.1];assumption
    ·exact hk j h0 (by omega)⟩
  ·(first|omega|(simp only [vM] at *;omega))
 ·exact absurd (fun j h0 h1=>hk j h0 (by omega)) hd
end Go.Ab
namespace Go.Ab
open Go Go.Proofs
set_option maxRecDepth 10000
set_option maxHeartbeats 4000000
variable {T:Nat→Obj→Prop}
theorem zvq:Sort.SWO ltI:=⟨fun x=>by simp [ltI],fun x y z h1 h2=>by simp [ltI] at *;omega,fun x y z h1 h2=>by simp [ltI] at *;omega⟩
theorem zqQ (l:List Int):(Sort.sort ltI l.toArray).toList=zbn l:=by
 obtain ⟨⟨h1,-,h2⟩,h3⟩:=Sort.sort_sorts ltI zvq l.toArray
 have e1:(Sort.sort ltI l.toArray).extract 0 l.toArray.size=Sort.sort ltI l.toArray:=by rw [← h1];simp
 have e2:l.toArray.extract 0 l.toArray.size=l.toArray:=by simp
 rw [e1,e2] at h2
 refine zuU ?_ h2
 rw [List.pairwise_iff_getElem]
 intro i j hi hj hij
 rw [Array.length_toList] at hi hj
 have:=h3 i j (Nat.zero_le _) hij (by rw [← h1];exact hj)
 have a1:=(zaD (List.getElem?_eq_getElem (l:=(Sort.sort ltI l.toArray).toList) (by rw [Array.length_toList];exact hi))).1
 have a2:=(zaD (List.getElem?_eq_getElem (l:=(Sort.sort ltI l.toArray).toList) (by rw [Array.length_toList];exact hj))).1
 rw [a1,a2] at this
 have:=of_decide_eq_false this
 omega
theorem zsF (d:Array Int) (hs:d.size≤1000):Fn Tryz.prog T zaz [.own 0] [zbA d] (.own 1) [none,some (.row 1 ((ddA d d.size).map (D.int .i64)))]:=by
 by_cases hd:Steps d
 ·have hln:d.toList.length=d.size:=Array.length_toList
  have e0:ddA d d.size=d.toList:=by rw [zjp (Nat.le_refl _) hd,List.take_of_length_le (by omega)]
  rw [e0]
  refine z7 zF zcN (by show 1≤61;decide) _ (fun e env mem n h=>h) ?_
  (repeat' ((conv=>whnf);first|refine vA ?_|refine vB fun b hb=>?_|refine vC (fun hl=>?_) fun i kv vv hi=>?_|refine vE ?_|refine vG ?_|refine vH ?_|((first|refine vD ?_ ?_|refine vF ?_ ?_|refine vI ?_ ?_)<;>intro hc<;>try simp only [vL] at hc)|refine vJ fun hg=>?_|refine vK fun hg=>?_|refine vT ?_|refine vN ‹_› ?_|(refine vQ ?_ fun x hx=>?_;·first|omega|(simp only [vM] at *;omega))|((first|refine vO ?_ ?_|refine vR ?_ ‹_› ?_|refine vS ?_ fun x hx=>?_|refine vP ?_ ?_);·first|omega|(simp only [vM] at *;omega))|refine vW ⟨by omega,by omega⟩ ?_|(refine vU ?_ ?_;·kernel_rfl)|refine vX ?_|refine vY ?_|refine vZ ?_|refine za.mk _ ‹_› ?_|refine vP (show (_:BitVec 64)≠_ by decide) ?_));all_goals try conv=>whnf
  ·refine ⟨trivial,_,[(1,0)],[],rfl,.inl (by (repeat' first|exact trivial|exact rfl|exact ⟨_,rfl⟩|exact .inl rfl|exact .inr (.inl ⟨rfl,rfl⟩)|exact .inr (.inr ⟨rfl,rfl⟩)|refine And.intro ?_ ?_|refine ⟨_,rfl,?_⟩|decide|exact of_decide_eq_true rfl)),⟨by rfl,by rfl,by rfl,trivial,by (repeat' first|exact trivial|exact rfl|exact ⟨_,rfl⟩|exact .inl rfl|exact .inr (.inl ⟨rfl,rfl⟩)|exact .inr (.inr ⟨rfl,rfl⟩)|refine And.intro ?_ ?_|refine ⟨_,rfl,?_⟩|decide|exact of_decide_eq_true rfl)⟩,by (repeat' first|exact trivial|exact rfl|exact ⟨_,rfl⟩|exact .inl rfl|exact .inr (.inl ⟨rfl,rfl⟩)|exact .inr (.inr ⟨rfl,rfl⟩)|refine And.intro ?_ ?_|refine ⟨_,rfl,?_⟩|decide|exact of_decide_eq_true rfl)⟩
  refine zq (fun (i:Int)=>[(0,.own 0),(3,.d (.int .i64 (i))),(zc,.own 0)]) (fun (i:Int)=>[(0,some (zbA d))]) 1 (fun (i:Int) => ∃ k:Nat,i=k∧0 < k∧k≤d.size) (fun (i:Int)=>(d.size - i).toNat) (1) [(0,0)] [] (⟨1,rfl,by omega,by omega⟩) (by (refine ⟨rfl,rfl,rfl,?_,?_⟩;repeat' first|exact trivial|exact rfl|exact ⟨_,rfl⟩|exact .inl rfl|exact .inr (.inl ⟨rfl,rfl⟩)|exact .inr (.inr ⟨rfl,rfl⟩)|refine And.intro ?_ ?_|refine ⟨_,rfl,?_⟩|decide|exact of_decide_eq_true rfl)) ?_
  rintro _ ⟨k,rfl,hk0,hk1⟩
  (repeat' ((conv=>whnf);first|refine vA ?_|refine vB fun b hb=>?_|refine vC (fun hl=>?_) fun i kv vv hi=>?_|refine vE ?_|refine vG ?_|refine vH ?_|((first|refine vD ?_ ?_|refine vF ?_ ?_|refine vI ?_ ?_)<;>intro hc<;>try simp only [vL] at hc)|refine vJ fun hg=>?_|refine vK fun hg=>?_|refine vT ?_|refine vN ‹_› ?_|(refine vQ ?_ fun x hx=>?_;·first|omega|(simp only [vM] at *;omega))|((first|refine vO ?_ ?_|refine vR ?_ ‹_› ?_|refine vS ?_ fun x hx=>?_|refine vP ?_ ?_);·first|omega|(simp only [vM] at *;omega))|refine vW ⟨by omega,by omega⟩ ?_|(refine vU ?_ ?_;·kernel_rfl)|refine vX ?_|refine vY ?_|refine vZ ?_|refine za.mk _ ‹_› ?_|refine vP (show (_:BitVec 64)≠_ by decide) ?_));all_goals try conv=>whnf
  ·have g1:=zaD (zeU k ‹d.toList[(k:Int).toNat]? = some _› rfl)
   have g2:=zaD (zeU (k - 1) ‹d.toList[((k:Int) - 1).toNat]? = some _› (by omega))
   exact absurd (g1.1.trans (‹_=_›.trans g2.1.symm)) (hd k hk0 g1.2)
  ·refine ⟨_,[(0,0)],[],?_,?_,by (refine ⟨rfl,rfl,rfl,?_,?_⟩;repeat' first|exact trivial|exact rfl|exact ⟨_,rfl⟩|exact .inl rfl|exact .inr (.inl ⟨rfl,rfl⟩)|exact .inr (.inr ⟨rfl,rfl⟩)|refine And.intro ?_ ?_|refine ⟨_,rfl,?_⟩|decide|exact of_decide_eq_true rfl)⟩
   ·exact ⟨k+1,by omega,by omega,by omega⟩
   ·(first|omega|(simp only [vM] at *;omega))
  ·refine ⟨trivial,_,[(1,0)],[],rfl,.inl (by (repeat' first|exact trivial|exact rfl|exact ⟨_,rfl⟩|exact .inl rfl|exact .inr (.inl ⟨rfl,rfl⟩)|exact .inr (.inr ⟨rfl,rfl⟩)|refine And.intro ?_ ?_|refine ⟨_,rfl,?_⟩|decide|exact of_decide_eq_true rfl)),⟨by rfl,by rfl,by rfl,trivial,by (repeat' first|exact trivial|exact rfl|exact ⟨_,rfl⟩|exact .inl rfl|exact .inr (.inl ⟨rfl,rfl⟩)|exact .inr (.inr ⟨rfl,rfl⟩)|refine And.intro ?_ ?_|refine ⟨_,rfl,?_⟩|decide|exact of_decide_eq_true rfl)⟩,by (repeat' first|exact trivial|exact rfl|exact ⟨_,rfl⟩|exact .inl rfl|exact .inr (.inl ⟨rfl,rfl⟩)|exact .inr (.inr ⟨rfl,rfl⟩)|refine And.intro ?_ ?_|refine ⟨_,rfl,?_⟩|decide|exact of_decide_eq_true rfl)⟩
 ·exact ziI d (by omega) hd
theorem zuF (l:List Int):ddA (zbn l).toArray (zbn l).toArray.size=zeE l:=by
 have hs:=zen l
 have hg : ∀ i,i < (zbn l).length→(zbn l)[i]? = some (zbn l).toArray[i]! := fun i hi=>by
  have:=zaS (d:=(zbn l).toArray) (i:=i) (by simpa using hi)
  simpa using this
 have hsz:(zbn l).toArray.size=(zbn l).length:=by simp
 have h1:(ddA (zbn l).toArray (zbn l).toArray.size).Pairwise fun x y=>ltI x y=true:=zhK (lt:=ltI) (fun i j hij hj=>by
   rw [hsz] at hj
   have a1:=hg i (by omega);have a2:=hg j hj
   obtain ⟨p1,q1⟩:=List.getElem?_eq_some_iff.1 a1
   obtain ⟨p2,q2⟩:=List.getElem?_eq_some_iff.1 a2
   have:=List.pairwise_iff_getElem.1 hs i j p1 p2 hij
   rw [q1,q2] at this
   unfold ltI
   rw [decide_eq_false_iff_not];omega) (fun x y h1 h2=>by simp [ltI] at h1 h2;omega) (Nat.le_refl _)
 have h1':(ddA (zbn l).toArray (zbn l).toArray.size).Pairwise (· < ·):=h1.imp fun h=>by simpa [ltI] using h
 have h2:(zeE l).Nodup:=(zcG _).nodup_iff.2 (zcn l)
 refine zdQ (h1'.imp fun h=>Int.le_of_lt h) (zen _) (zfz (h1'.imp fun h e=>by subst e;omega) h2 fun x=>?_)
 rw [zdZ,zkt]
 rw [← (zcG l).mem_iff]
 constructor
 ·rintro ⟨i,hi,rfl⟩;rw [hsz] at hi;exact List.mem_of_getElem? (hg i hi)
 ·intro hx
  obtain ⟨i,hi⟩:=List.getElem?_of_mem hx
  have hl:=(List.getElem?_eq_some_iff.1 hi).1
  refine ⟨i,by rw [hsz];exact hl,?_⟩
  have:=hg i hl;rw [hi] at this;exact (Option.some.inj this).symm
theorem zo2 (hT:ze9 T) (s:BitVec 64):Fn Tryz.prog T zeZ [.d (.u64 s)] [] (.d (dN (zE s))) []:=by
 refine zp zF ziR (by show 1≤16;decide) ?_
 (repeat' ((conv=>whnf);first|refine vA ?_|refine vB fun b hb=>?_|refine vC (fun hl=>?_) fun i kv vv hi=>?_|refine vE ?_|refine vG ?_|refine vH ?_|((first|refine vD ?_ ?_|refine vF ?_ ?_|refine vI ?_ ?_)<;>intro hc<;>try simp only [vL] at hc)|refine vJ fun hg=>?_|refine vK fun hg=>?_|refine vT ?_|refine vN ‹_› ?_|(refine vQ ?_ fun x hx=>?_;·first|omega|(simp only [vM] at *;omega))|((first|refine vO ?_ ?_|refine vR ?_ ‹_› ?_|refine vS ?_ fun x hx=>?_|refine vP ?_ ?_);·first|omega|(simp only [vM] at *;omega))|refine vW ⟨by omega,by omega⟩ ?_|(refine vU ?_ ?_;·kernel_rfl)|refine vX ?_|refine vY ?_|refine vZ ?_|refine za.mk _ ‹_› ?_|refine vP (show (_:BitVec 64)≠_ by decide) ?_));all_goals try conv=>whnf
 refine zq (fun ((r,zs):BitVec 64×List D)=>[(0,.d (.u64 (r))),(3,.own 0)]) (fun ((r,zs):BitVec 64×List D)=>[(0,some (.row 1 zs))]) 1 (fun ((r,zs):BitVec 64×List D) => ∃ l:List Nat,zs=l.map (fun (x:Nat)=>D.int .i64 (x:Int))∧zE s=l++zE r) (fun ((r,zs):BitVec 64×List D)=>(zE r).length) ((s,[])) []   [0] (⟨[],rfl,rfl⟩) (by (refine ⟨rfl,rfl,rfl,?_,?_⟩;repeat' first|exact trivial|exact rfl|exact ⟨_,rfl⟩|exact .inl rfl|exact .inr (.inl ⟨rfl,rfl⟩)|exact .inr (.inr ⟨rfl,rfl⟩)|refine And.intro ?_ ?_|refine ⟨_,rfl,?_⟩|decide|exact of_decide_eq_true rfl)) ?_
 rintro ⟨r,zs⟩ ⟨l,rfl,hI⟩
 by_cases hr:r=0#64
 ·subst hr
  (repeat' ((conv=>whnf);first|refine vA ?_|refine vB fun b hb=>?_|refine vC (fun hl=>?_) fun i kv vv hi=>?_|refine vE ?_|refine vG ?_|refine vH ?_|((first|refine vD ?_ ?_|refine vF ?_ ?_|refine vI ?_ ?_)<;>intro hc<;>try simp only [vL] at hc)|refine vJ fun hg=>?_|refine vK fun hg=>?_|refine vT ?_|refine vN ‹_› ?_|(refine vQ ?_ fun x hx=>?_;·first|omega|(simp only [vM] at *;omega))|((first|refine vO ?_ ?_|refine vR ?_ ‹_› ?_|refine vS ?_ fun x hx=>?_|refine vP ?_ ?_);·first|omega|(simp only [vM] at *;omega))|refine vW ⟨by omega,by omega⟩ ?_|(refine vU ?_ ?_;·kernel_rfl)|refine vX ?_|refine vY ?_|refine vZ ?_|refine za.mk _ ‹_› ?_|refine vP (show (_:BitVec 64)≠_ by decide) ?_));all_goals try conv=>whnf
  rw [hI,zgC,List.append_nil]
  show some (D.arr 1 _)=some (D.arr 1 _)
  rw [List.map_map];rfl
 ·have hb:=zjN r hr
  have hl:=congrArg List.length hI
  have hlen:=zhF s
  rw [List.length_append] at hl
  (repeat' ((conv=>whnf);first|refine vA ?_|refine vB fun b hb=>?_|refine vC (fun hl=>?_) fun i kv vv hi=>?_|refine vE ?_|refine vG ?_|refine vH ?_|((first|refine vD ?_ ?_|refine vF ?_ ?_|refine vI ?_ ?_)<;>intro hc<;>try simp only [vL] at hc)|refine vJ fun hg=>?_|refine vK fun hg=>?_|refine vT ?_|refine vN ‹_› ?_|(refine vQ ?_ fun x hx=>?_;·first|omega|(simp only [vM] at *;omega))|((first|refine vO ?_ ?_|refine vR ?_ ‹_› ?_|refine vS ?_ fun x hx=>?_|refine vP ?_ ?_);·first|omega|(simp only [vM] at *;omega))|refine vW ⟨by omega,by omega⟩ ?_|(refine vU ?_ ?_;·kernel_rfl)|refine vX ?_|refine vY ?_|refine vZ ?_|refine yD (hT r) (by (repeat refine ⟨⟨rfl,rfl⟩,?_⟩);rfl) rfl ?_|refine yN (hT r) (by (repeat refine ⟨⟨rfl,rfl⟩,?_⟩);rfl) ?_|refine za.mk _ ‹_› ?_|refine vP (show (_:BitVec 64)≠_ by decide) ?_));all_goals try conv=>whnf
  ·refine ⟨(r&&&(r - 1#64),_),[(0,2)],[],?_,?_,by (refine ⟨rfl,rfl,rfl,?_,?_⟩;repeat' first|exact trivial|exact rfl|exact ⟨_,rfl⟩|exact .inl rfl|exact .inr (.inl ⟨rfl,rfl⟩)|exact .inr (.inr ⟨rfl,rfl⟩)|refine And.intro ?_ ?_|refine ⟨_,rfl,?_⟩|decide|exact of_decide_eq_true rfl)⟩
   ·exact ⟨l++[Lib.ctz 64 r.toNat],by simp,by rw [hI,hb];simp⟩
   ·show (zE (r&&&(r - 1#64))).length < (zE r).length
    rw [hb];simp
  ·exact absurd ‹r=0› hr
def zb0 (q:Nat→Nat) (s:BitVec 64):List Int:=(zE s).map fun v=>(q v:Int)
theorem zpr {n:Nat} {s:BitVec 64} (hs : ∀ v,s.getLsbD v=true→v < n):(zE s).length≤n:=zpx hs
theorem zrj (hT:ze9 T) (q:Nat→Nat) {n:Nat} (hn:n≤12) {s:BitVec 64} (hs : ∀ v,s.getLsbD v=true→v < n) :
  Fn Tryz.prog T zdC [.d (dI (ptL n q)),.d (.u64 s)] [] (.own 0) [some (.row 1 ((zbn (zb0 q s)).map (D.int .i64)))]:=by
 have hbl:=zpr hs
 have hvl:(zb0 q s).length=(zE s).length:=by simp [zb0]
 have c1:=zo1 (T:=T) (zb0 q s).toArray (by simp [hvl];omega)
 rw [show zbA (Sort.sort ltI (zb0 q s).toArray) = .row 1 ((zbn (zb0 q s)).map (D.int .i64)) by rw [zbA,zqQ]] at c1
 have hln:(ptL n q).length=n:=zho
 refine z7 zF zjI (by show 2≤26;decide) _ (fun e env mem n h=>h) ?_
 (repeat' ((conv=>whnf);first|refine vA ?_|refine vB fun b hb=>?_|refine vC (fun hl=>?_) fun i kv vv hi=>?_|refine vE ?_|refine vG ?_|refine vH ?_|((first|refine vD ?_ ?_|refine vF ?_ ?_|refine vI ?_ ?_)<;>intro hc<;>try simp only [vL] at hc)|refine vJ fun hg=>?_|refine vK fun hg=>?_|refine vT ?_|refine vN ‹_› ?_|(refine vQ ?_ fun x hx=>?_;·first|omega|(simp only [vM] at *;omega))|((first|refine vO ?_ ?_|refine vR ?_ ‹_› ?_|refine vS ?_ fun x hx=>?_|refine vP ?_ ?_);·first|omega|(simp only [vM] at *;omega))|refine vW ⟨by omega,by omega⟩ ?_|(refine vU ?_ ?_;·kernel_rfl)|refine vX ?_|refine vY ?_|refine vZ ?_|refine yN (zo2 hT s) ⟨⟨rfl,rfl⟩,rfl⟩ ?_|refine za.mk _ ‹_› ?_|refine vP (show (_:BitVec 64)≠_ by decide) ?_));all_goals try conv=>whnf
 refine zq (fun ((k,zs):Nat×List D)=>[(0,.d (dI (ptL n q))),(5,.own 0),(9,.d (dN (zE s))),(10,.d (.int .i64 ((zkr (zE s):Int)))),(11,.d (.int .i64 ((k:Int))))]) (fun ((k,zs):Nat×List D)=>[(0,some (.row 1 zs))]) 1 (fun ((k,zs):Nat×List D)=>k≤(zE s).length∧zs=((zb0 q s).take k).map (D.int .i64)) (fun ((k,zs):Nat×List D)=>(zE s).length - k) ((0,[])) []   [0] (⟨by omega,by simp⟩) (by (refine ⟨rfl,rfl,rfl,?_,?_⟩;repeat' first|exact trivial|exact rfl|exact ⟨_,rfl⟩|exact .inl rfl|exact .inr (.inl ⟨rfl,rfl⟩)|exact .inr (.inr ⟨rfl,rfl⟩)|refine And.intro ?_ ?_|refine ⟨_,rfl,?_⟩|decide|exact of_decide_eq_true rfl)) ?_
 rintro ⟨k,zs⟩ ⟨hk,hz⟩
 have hzl:zs.length≤12:=by rw [hz];simp;omega
 have hlD:=zpH (zE s)
 by_cases hkl:k < (zE s).length
 ·have e1:=zjy hkl
  have hw:=hs _ (zfy.1 (zaB hkl))
  have e2:=zlv (q:=q) hw
  (repeat' ((conv=>whnf);first|refine vA ?_|refine vB fun b hb=>?_|refine vC (fun hl=>?_) fun i kv vv hi=>?_|refine vE ?_|refine vG ?_|refine vH ?_|((first|refine vD ?_ ?_|refine vF ?_ ?_|refine vI ?_ ?_)<;>intro hc<;>try simp only [vL] at hc)|refine vJ fun hg=>?_|refine vK fun hg=>?_|refine vT ?_|refine vN ‹_› ?_|(refine vQ ?_ fun x hx=>?_;·first|omega|(simp only [vM] at *;omega))|((first|refine vO ?_ ?_|refine vR ?_ ‹_› ?_|refine vS ?_ fun x hx=>?_|refine vP ?_ ?_);·first|omega|(simp only [vM] at *;omega))|refine vW ⟨by omega,by omega⟩ ?_|(refine vU ?_ ?_;·kernel_rfl)|refine vX ?_|refine vY ?_|refine vZ ?_|refine za.mk _ ‹_› ?_|refine vP (show (_:BitVec 64)≠_ by decide) ?_));all_goals try conv=>whnf
  ·refine ⟨(k+1,_),[(0,2)],[],?_,?_,by (refine ⟨rfl,rfl,rfl,?_,?_⟩;repeat' first|exact trivial|exact rfl|exact ⟨_,rfl⟩|exact .inl rfl|exact .inr (.inl ⟨rfl,rfl⟩)|exact .inr (.inr ⟨rfl,rfl⟩)|refine And.intro ?_ ?_|refine ⟨_,rfl,?_⟩|decide|exact of_decide_eq_true rfl)⟩
   ·refine ⟨by omega,?_⟩
    have e3:(zb0 q s)[k]? = some ((q ((zE s).getD k 0):Nat):Int):=by
     rw [zb0,List.getElem?_map,zdm (d:=0) hkl];rfl
    rw [List.take_add_one,e3,hz];simp
   ·(first|omega|(simp only [vM] at *;omega))
  ·exfalso;omega
 ·(repeat' ((conv=>whnf);first|refine vA ?_|refine vB fun b hb=>?_|refine vC (fun hl=>?_) fun i kv vv hi=>?_|refine vE ?_|refine vG ?_|refine vH ?_|((first|refine vD ?_ ?_|refine vF ?_ ?_|refine vI ?_ ?_)<;>intro hc<;>try simp only [vL] at hc)|refine vJ fun hg=>?_|refine vK fun hg=>?_|refine vT ?_|refine vN ‹_› ?_|(refine vQ ?_ fun x hx=>?_;·first|omega|(simp only [vM] at *;omega))|((first|refine vO ?_ ?_|refine vR ?_ ‹_› ?_|refine vS ?_ fun x hx=>?_|refine vP ?_ ?_);·first|omega|(simp only [vM] at *;omega))|refine vW ⟨by omega,by omega⟩ ?_|(refine vU ?_ ?_;·kernel_rfl)|refine vX ?_|refine vY ?_|refine vZ ?_|refine za.mk _ ‹_› ?_|refine vP (show (_:BitVec 64)≠_ by decide) ?_));all_goals try conv=>whnf
  ·exfalso;omega
  ·have e0:zs=(zb0 q s).map (D.int .i64):=by rw [hz,List.take_of_length_le (by omega)]
   clear hz
   subst e0
   refine zah.objs [0] (c1) (by (repeat' first|exact trivial|exact rfl|exact ⟨_,rfl⟩|exact .inl rfl|exact .inr (.inl ⟨rfl,rfl⟩)|exact .inr (.inr ⟨rfl,rfl⟩)|refine And.intro ?_ ?_|refine ⟨_,rfl,?_⟩|decide|exact of_decide_eq_true rfl)) (by (repeat' first|exact trivial|exact rfl|exact ⟨_,rfl⟩|exact .inl rfl|exact .inr (.inl ⟨rfl,rfl⟩)|exact .inr (.inr ⟨rfl,rfl⟩)|refine And.intro ?_ ?_|refine ⟨_,rfl,?_⟩|decide|exact of_decide_eq_true rfl)) (by rfl) (by rfl) (by simp) ?_
   (repeat' ((conv=>whnf);first|refine vA ?_|refine vB fun b hb=>?_|refine vC (fun hl=>?_) fun i kv vv hi=>?_|refine vE ?_|refine vG ?_|refine vH ?_|((first|refine vD ?_ ?_|refine vF ?_ ?_|refine vI ?_ ?_)<;>intro hc<;>try simp only [vL] at hc)|refine vJ fun hg=>?_|refine vK fun hg=>?_|refine vT ?_|refine vN ‹_› ?_|(refine vQ ?_ fun x hx=>?_;·first|omega|(simp only [vM] at *;omega))|((first|refine vO ?_ ?_|refine vR ?_ ‹_› ?_|refine vS ?_ fun x hx=>?_|refine vP ?_ ?_);·first|omega|(simp only [vM] at *;omega))|refine vW ⟨by omega,by omega⟩ ?_|(refine vU ?_ ?_;·kernel_rfl)|refine vX ?_|refine vY ?_|refine vZ ?_|refine za.mk _ ‹_› ?_|refine vP (show (_:BitVec 64)≠_ by decide) ?_));all_goals try conv=>whnf
   refine ⟨trivial,_,[(0,0)],[],rfl,.inl (by (repeat' first|exact trivial|exact rfl|exact ⟨_,rfl⟩|exact .inl rfl|exact .inr (.inl ⟨rfl,rfl⟩)|exact .inr (.inr ⟨rfl,rfl⟩)|refine And.intro ?_ ?_|refine ⟨_,rfl,?_⟩|decide|exact of_decide_eq_true rfl)),⟨by rfl,by rfl,by rfl,trivial,by (repeat' first|exact trivial|exact rfl|exact ⟨_,rfl⟩|exact .inl rfl|exact .inr (.inl ⟨rfl,rfl⟩)|exact .inr (.inr ⟨rfl,rfl⟩)|refine And.intro ?_ ?_|refine ⟨_,rfl,?_⟩|decide|exact of_decide_eq_true rfl)⟩,by (repeat' first|exact trivial|exact rfl|exact ⟨_,rfl⟩|exact .inl rfl|exact .inr (.inl ⟨rfl,rfl⟩)|exact .inr (.inr ⟨rfl,rfl⟩)|refine And.intro ?_ ?_|refine ⟨_,rfl,?_⟩|decide|exact of_decide_eq_true rfl)⟩
theorem zth {n:Nat} {q:Nat→Nat} {s:BitVec 64} (hn:n≤64) (hs : ∀ v,s.getLsbD v=true→v < n) {r:Nat→Nat→Bool} {w:Nat} (hr : ∀ v,v < n→r w v=s.getLsbD v):zcp n r q w=zb0 q s:=by
 unfold zcp zb0 zE
 rw [zeg (n:=n) hs 64 hn]
 congr 1
 exact List.filter_congr fun v hv=>hr v (List.mem_range.1 hv)
end Go.Ab
namespace Go.Ab
open Go Go.Proofs
set_option maxRecDepth 10000
set_option maxHeartbeats 4000000
variable {T:Nat→Obj→Prop}
abbrev dTs (l:List Tup):D := .arr 1 (l.map dII)
theorem zs9 {n:Nat} (t:Nat→Tup):(((List.range n).map t).map (rkN ((List.range n).map t))).map (fun (x:Nat)=>(x:Int))=ptL n fun w=>rkN ((List.range n).map t) (t w):=by
 unfold ptL;simp [Function.comp_def]
theorem zmt {n:Nat} (t:Nat→Tup) (h1:1≤n) (h12:n≤12) (hs : ∀ w,w < n→Sml (t w)) :
  Fn Tryz.prog T zdU [.d (dTs ((List.range n).map t))] [] (.d (.tup [dI (ptL n fun w=>rkN ((List.range n).map t) (t w)),.int .i64 (cnN ((List.range n).map t):Int)])) []:=by
 have h:=zri (T:=T) ((List.range n).map t) (fun h=>by have:=congrArg List.length h;simp at this;omega) (by simpa using h12) (fun x hx=>by
  obtain ⟨w,hw,rfl⟩:=List.mem_map.1 hx
  exact hs w (List.mem_range.1 hw))
 rw [show dN (((List.range n).map t).map (rkN ((List.range n).map t)))=dI (ptL n fun w=>rkN ((List.range n).map t) (t w)) by rw [← zs9]] at h
 exact h
theorem zqs {n:Nat} (h1:1≤n) (h12:n≤12) (g:Nat) (y:D) (next:(Nat→Nat)→Nat→Tup) (first:Nat→Tup) (hF : ∀ q v w,v < n→w < n→next q v=next q w→q v=q w)
  (hs : ∀ q w,w < n→Sml (next q w)) (hf : ∀ w,w < n→Sml (first w)) (hx : ∀ (q:Nat→Nat) (w:Nat),w < n→Fn Tryz.prog T g [.d (dI (ptL n q)),.d (.int .i64 (w:Int)),.d y] [] (.d (dII (next q w))) []) :
  Fn Tryz.prog T zfm [.d (dTs ((List.range n).map first)),.d (.fn g [y])] []
   (.d (.tup [dI (ptL n (za2 n next (n+1) (fun w=>rkN ((List.range n).map first) (first w)) (cnN ((List.range n).map first))).1),.int .i64 ((za2 n next (n+1) (fun w=>rkN ((List.range n).map first) (first w)) (cnN ((List.range n).map first))).2:Int)])) []:=by
 have c1:=zmt (T:=T) first h1 h12 hf
 have c2:=fun q=>zmt (T:=T) (next q) h1 h12 (hs q)
 generalize hq0:(fun w=>rkN ((List.range n).map first) (first w))=q0 at c1
 have hd0:cnN ((List.range n).map first)=dcN n q0:=by
  have:=zdi (n:=n) (next:=fun _=>first) (fun _=>0)
  unfold za8 rfT zdg rfT at this
  rw [hq0] at this
  exact this.symm
 rw [hd0] at c1 ⊢
 generalize hR:za2 n next (n+1) q0 (dcN n q0)=R
 refine zp zF zjH (by show 2≤45;decide) ?_
 (repeat' ((conv=>whnf);first|refine vA ?_|refine vB fun b hb=>?_|refine vC (fun hl=>?_) fun i kv vv hi=>?_|refine vE ?_|refine vG ?_|refine vH ?_|((first|refine vD ?_ ?_|refine vF ?_ ?_|refine vI ?_ ?_)<;>intro hc<;>try simp only [vL] at hc)|refine vJ fun hg=>?_|refine vK fun hg=>?_|refine vT ?_|refine vN ‹_› ?_|(refine vQ ?_ fun x hx=>?_;·first|omega|(simp only [vM] at *;omega))|((first|refine vO ?_ ?_|refine vR ?_ ‹_› ?_|refine vS ?_ fun x hx=>?_|refine vP ?_ ?_);·first|omega|(simp only [vM] at *;omega))|refine vW ⟨by omega,by omega⟩ ?_|(refine vU ?_ ?_;·kernel_rfl)|refine vX ?_|refine vY ?_|refine vZ ?_|refine yN c1 ⟨⟨rfl,rfl⟩,rfl⟩ ?_|refine za.mk _ ‹_› ?_|refine vP (show (_:BitVec 64)≠_ by decide) ?_));all_goals try conv=>whnf
 refine za6 (fun ((q,c):(Nat→Nat)×Nat)=>[(1,.d (.fn g [y])),(6,.d (dI (ptL n q))),(7,.d (.int .i64 ((c:Int))))]) (fun ((q,c):(Nat→Nat)×Nat)=>c=dcN n q∧za2 n next (n+1) q (dcN n q)=R) (fun ((q,c):(Nat→Nat)×Nat)=>n+1 - c) ((q0,dcN n q0)) (⟨rfl,hR⟩) (by (repeat' first|exact trivial|exact rfl|exact ⟨_,rfl⟩|exact .inl rfl|exact .inr (.inl ⟨rfl,rfl⟩)|exact .inr (.inr ⟨rfl,rfl⟩)|refine And.intro ?_ ?_|refine ⟨_,rfl,?_⟩|decide|exact of_decide_eq_true rfl)) ?_
 rintro ⟨q,c⟩ ⟨hc0,hI⟩
 have hln:(ptL n q).length=n:=zho
 (repeat' ((conv=>whnf);first|refine vA ?_|refine vB fun b hb=>?_|refine vC (fun hl=>?_) fun i kv vv hi=>?_|refine vE ?_|refine vG ?_|refine vH ?_|((first|refine vD ?_ ?_|refine vF ?_ ?_|refine vI ?_ ?_)<;>intro hc<;>try simp only [vL] at hc)|refine vJ fun hg=>?_|refine vK fun hg=>?_|refine vT ?_|refine vN ‹_› ?_|(refine vQ ?_ fun x hx=>?_;·first|omega|(simp only [vM] at *;omega))|((first|refine vO ?_ ?_|refine vR ?_ ‹_› ?_|refine vS ?_ fun x hx=>?_|refine vP ?_ ?_);·first|omega|(simp only [vM] at *;omega))|refine vW ⟨by omega,by omega⟩ ?_|(refine vU ?_ ?_;·kernel_rfl)|refine vX ?_|refine vY ?_|refine vZ ?_|refine za.mk _ ‹_› ?_|refine vP (show (_:BitVec 64)≠_ by decide) ?_));all_goals try conv=>whnf
 ·refine zq (fun ((k,zs):Nat×List D)=>[(1,.d (.fn g [y])),(6,.d (dI (ptL n q))),(7,.d (.int .i64 ((c:Int)))),(8,.own 0),(21,.d (.int .i64 (((List.replicate ((((ptL n q).map (D.int .i64)).length:Int)).toNat (D.arr 1 []))).length:Int))),(22,.d (.int .i64 ((k:Int))))]) (fun ((k,zs):Nat×List D)=>[(0,some (.row 1 zs))]) 1 (fun ((k,zs):Nat×List D)=>k≤n∧zs=(List.range n).map fun w=>if w < k then dII (next q w) else D.arr 1 []) (fun ((k,zs):Nat×List D)=>n - k) ((0,List.replicate ((((ptL n q).map (D.int .i64)).length:Int)).toNat (D.arr 1 []))) [(0,0)] [] (⟨by omega,by simp only [Nat.not_lt_zero,if_false];rw [List.length_map,hln,Int.toNat_natCast];exact zaP _ _⟩) (by (refine ⟨rfl,rfl,rfl,?_,?_⟩;repeat' first|exact trivial|exact rfl|exact ⟨_,rfl⟩|exact .inl rfl|exact .inr (.inl ⟨rfl,rfl⟩)|exact .inr (.inr ⟨rfl,rfl⟩)|refine And.intro ?_ ?_|refine ⟨_,rfl,?_⟩|decide|exact of_decide_eq_true rfl)) ?_
  rintro ⟨k,zs⟩ ⟨hk,hz⟩
  by_cases hkl:k < n
  ·subst hz
   have er:(List.range n)[k]? = some k:=List.getElem?_range hkl
   (repeat' ((conv=>whnf);first|refine vA ?_|refine vB fun b hb=>?_|refine vC (fun hl=>?_) fun i kv vv hi=>?_|refine vE ?_|refine vG ?_|refine vH ?_|((first|refine vD ?_ ?_|refine vF ?_ ?_|refine vI ?_ ?_)<;>intro hc<;>try simp only [vL] at hc)|refine vJ fun hg=>?_|refine vK fun hg=>?_|refine vT ?_|refine vN ‹_› ?_|(refine vQ ?_ fun x hx=>?_;·first|omega|(simp only [vM] at *;omega))|((first|refine vO ?_ ?_|refine vR ?_ ‹_› ?_|refine vS ?_ fun x hx=>?_|refine vP ?_ ?_);·first|omega|(simp only [vM] at *;omega))|refine vW ⟨by omega,by omega⟩ ?_|(refine vU ?_ ?_;·kernel_rfl)|refine vX ?_|refine vY ?_|refine vZ ?_|refine za.mk _ ‹_› ?_|refine vP (show (_:BitVec 64)≠_ by decide) ?_));all_goals try conv=>whnf
   ·refine zah.dataN (hx q k hkl) (by (repeat refine ⟨⟨rfl,rfl⟩,?_⟩);rfl) ?_
    (repeat' ((conv=>whnf);first|refine vA ?_|refine vB fun b hb=>?_|refine vC (fun hl=>?_) fun i kv vv hi=>?_|refine vE ?_|refine vG ?_|refine vH ?_|((first|refine vD ?_ ?_|refine vF ?_ ?_|refine vI ?_ ?_)<;>intro hc<;>try simp only [vL] at hc)|refine vJ fun hg=>?_|refine vK fun hg=>?_|refine vT ?_|refine vN ‹_› ?_|(refine vQ ?_ fun x hx=>?_;·first|omega|(simp only [vM] at *;omega))|((first|refine vO ?_ ?_|refine vR ?_ ‹_› ?_|refine vS ?_ fun x hx=>?_|refine vP ?_ ?_);·first|omega|(simp only [vM] at *;omega))|refine vW ⟨by omega,by omega⟩ ?_|(refine vU ?_ ?_;·kernel_rfl)|refine vX ?_|refine vY ?_|refine vZ ?_|refine za.mk _ ‹_› ?_|refine vP (show (_:BitVec 64)≠_ by decide) ?_));all_goals try conv=>whnf
    refine ⟨(k+1,_),[(0,0)],[],?_,?_,by (refine ⟨rfl,rfl,rfl,?_,?_⟩;repeat' first|exact trivial|exact rfl|exact ⟨_,rfl⟩|exact .inl rfl|exact .inr (.inl ⟨rfl,rfl⟩)|exact .inr (.inr ⟨rfl,rfl⟩)|refine And.intro ?_ ?_|refine ⟨_,rfl,?_⟩|decide|exact of_decide_eq_true rfl)⟩
    ·refine ⟨by omega,(zd3 _).trans (zQ fun u hu=>?_)⟩
     show (if u=k then _ else _)=_
     by_cases e:u=k
     ·subst e;rw [if_pos rfl,if_pos (by omega)]
     ·rw [if_neg e]
      by_cases e2:u < k
      ·rw [if_pos e2,if_pos (by omega)]
      ·rw [if_neg e2,if_neg (by omega)]
    ·(first|omega|(simp only [vM] at *;omega))
   ·exfalso
    simp only [vM] at *;omega
  ·have hzz:zs=((List.range n).map (next q)).map dII:=by
    rw [hz,List.map_map];exact zQ fun u hu=>by rw [if_pos (by omega)];rfl
   clear hz
   subst hzz
   have c3:=c2 q
   (repeat' ((conv=>whnf);first|refine vA ?_|refine vB fun b hb=>?_|refine vC (fun hl=>?_) fun i kv vv hi=>?_|refine vE ?_|refine vG ?_|refine vH ?_|((first|refine vD ?_ ?_|refine vF ?_ ?_|refine vI ?_ ?_)<;>intro hc<;>try simp only [vL] at hc)|refine vJ fun hg=>?_|refine vK fun hg=>?_|refine vT ?_|refine vN ‹_› ?_|(refine vQ ?_ fun x hx=>?_;·first|omega|(simp only [vM] at *;omega))|((first|refine vO ?_ ?_|refine vR ?_ ‹_› ?_|refine vS ?_ fun x hx=>?_|refine vP ?_ ?_);·first|omega|(simp only [vM] at *;omega))|refine vW ⟨by omega,by omega⟩ ?_|(refine vU ?_ ?_;·kernel_rfl)|refine vX ?_|refine vY ?_|refine vZ ?_|refine yD c3 (by (repeat refine ⟨⟨rfl,rfl⟩,?_⟩);rfl) rfl ?_|refine yN c3 (by (repeat refine ⟨⟨rfl,rfl⟩,?_⟩);rfl) ?_|refine za.mk _ ‹_› ?_|refine vP (show (_:BitVec 64)≠_ by decide) ?_));all_goals try conv=>whnf
   ·exfalso;simp only [vM] at *;omega
   ·have e1:za8 n next q=dcN n q:=by have h:(cnN ((List.range n).map (next q)):Int)=(c:Int):=‹_›;unfold za8 rfT;omega
    rw [za2,if_pos e1] at hI
    rw [← hI,hc0];rfl
   ·have e1:za8 n next q≠dcN n q:=fun e=>by
     have h : ¬(cnN ((List.range n).map (next q)):Int)=(c:Int):=‹_›
     unfold za8 rfT at e;omega
    have e2:=znB hF q
    have e3:=zdi (n:=n) (next:=next) q
    have e4:=zra (n:=n) (next:=next) q
    refine ⟨(zdg n next q,za8 n next q),[],[],?_,?_,by (refine ⟨rfl,rfl,rfl,?_,?_⟩;repeat' first|exact trivial|exact rfl|exact ⟨_,rfl⟩|exact .inl rfl|exact .inr (.inl ⟨rfl,rfl⟩)|exact .inr (.inr ⟨rfl,rfl⟩)|refine And.intro ?_ ?_|refine ⟨_,rfl,?_⟩|decide|exact of_decide_eq_true rfl)⟩
    ·refine ⟨e3.symm,?_⟩
     rw [za2,if_neg e1,← e3] at hI
     rw [← hI]
     exact zpT hF _ _ _ (by omega) (by omega)
    ·show n+1 - za8 n next q < n+1 - c
     omega
end Go.Ab
namespace Go.Ab
open Go Go.Proofs
set_option maxRecDepth 10000
set_option maxHeartbeats 4000000
variable {T:Nat→Obj→Prop}
theorem ztk {n:Nat} (h12:n≤12) {R:zM} (hR:R.length≤8) (q:Nat→Nat) (w:Nat):Sml (zgz n R q w)∧Sml (zV n R q w):=by
 have hsee : ∀ r:Nat→Nat→Bool,(zcp n r q w).length≤12:=fun r=>by
  unfold zcp
  rw [List.length_map]
  have:=List.length_filter_le (fun v=>r w v) (List.range n)
  rw [List.length_range] at this;omega
 refine ⟨⟨by simp [zgz];omega,fun x hx=>?_⟩,⟨by simp [zV];omega,fun x hx=>?_⟩⟩
 ·rcases List.mem_cons.1 hx with rfl|hx
  ·simp
  ·obtain ⟨r,-,rfl⟩:=List.mem_map.1 hx
   have:=hsee r
   rw [(zcG _).length_eq];omega
 ·rcases List.mem_cons.1 hx with rfl|hx
  ·simp
  ·obtain ⟨r,-,rfl⟩:=List.mem_map.1 hx
   have:=hsee r
   have h2:=zby (zcn (zcp n r q w)) (l':=zcp n r q w) fun y hy=>z6.1 hy
   unfold zeE
   rw [(zcG _).length_eq];omega
theorem zov {m:KM} (hk0:zj m=0) {r:List (BitVec 64)} (hr:r∈m.rel) (w:Nat) : ∀ v,(r.getD w 0#64).getLsbD v=true→v < m.W.toNat:=fun v hv=>(ztI hk0 hr (v:=w) (u:=v) hv).2
theorem zqq (hT:ze9 T) {m:KM} (hk0:zj m=0) (h12:m.W≤12) (q:Nat→Nat) (w:Nat) (hw:w < m.W.toNat) :
  Fn Tryz.prog T zbE [.d (dI (ptL m.W.toNat q)),.d (.int .i64 (w:Int)),.d (bKM m)] [] (.d (dII (zV m.W.toNat (zw m) q w))) []:=by
 have hg0:=zB hk0
 have n4:=hg0.n4
 have e0:=zlv (q:=q) hw
 refine zp zF zif (by show 3≤34;decide) ?_
 (repeat' ((conv=>whnf);first|refine vA ?_|refine vB fun b hb=>?_|refine vC (fun hl=>?_) fun i kv vv hi=>?_|refine vE ?_|refine vG ?_|refine vH ?_|((first|refine vD ?_ ?_|refine vF ?_ ?_|refine vI ?_ ?_)<;>intro hc<;>try simp only [vL] at hc)|refine vJ fun hg=>?_|refine vK fun hg=>?_|refine vT ?_|refine vN ‹_› ?_|(refine vQ ?_ fun x hx=>?_;·first|omega|(simp only [vM] at *;omega))|((first|refine vO ?_ ?_|refine vR ?_ ‹_› ?_|refine vS ?_ fun x hx=>?_|refine vP ?_ ?_);·first|omega|(simp only [vM] at *;omega))|refine vW ⟨by omega,by omega⟩ ?_|(refine vU ?_ ?_;·kernel_rfl)|refine vX ?_|refine vY ?_|refine vZ ?_|refine za.mk _ ‹_› ?_|refine vP (show (_:BitVec 64)≠_ by decide) ?_));all_goals try conv=>whnf
 refine zq (fun ((k,zs):Nat×List D)=>[(0,.d (dI (ptL m.W.toNat q))),(1,.d (.int .i64 ((w:Int)))),(6,.own 0),(16,.d (dUU m.rel)),(17,.d (.int .i64 ((m.rel.map dU).length:Int))),(18,.d (.int .i64 ((k:Int))))]) (fun ((k,zs):Nat×List D)=>[(0,some (.row 1 zs))]) 1 (fun ((k,zs):Nat×List D)=>k≤m.rel.length∧zs=dI [(q w:Int)]::(m.rel.take k).map fun r=>dI (zeE (zb0 q (r.getD w 0#64)))) (fun ((k,zs):Nat×List D)=>m.rel.length - k) ((0,[dI [(q w:Int)]])) [(0,1)] [] (⟨by omega,by simp⟩) (by (refine ⟨rfl,rfl,rfl,?_,?_⟩;repeat' first|exact trivial|exact rfl|exact ⟨_,rfl⟩|exact .inl rfl|exact .inr (.inl ⟨rfl,rfl⟩)|exact .inr (.inr ⟨rfl,rfl⟩)|refine And.intro ?_ ?_|refine ⟨_,rfl,?_⟩|decide|exact of_decide_eq_true rfl)) ?_
 rintro ⟨k,zs⟩ ⟨hk,hz⟩
 have hzl:zs.length≤5:=by rw [hz];simp;omega
 by_cases hkl:k < m.rel.length
 ·obtain ⟨r,hr⟩ : ∃ r,m.rel[k]? = some r:=⟨_,List.getElem?_eq_getElem hkl⟩
  have hrm:=List.mem_of_getElem? hr
  have hrl:=hg0.len r hrm
  have hx:=zdm (l:=r) (d:=0#64) (show w < r.length by omega)
  have hvl:=zpr (zov hk0 hrm w)
  have c2:=zsF (T:=T) (zbn (zb0 q (r.getD w 0#64))).toArray (by rw [List.size_toArray,(zcG _).length_eq,zb0,List.length_map];omega)
  rw [zuF] at c2
  (repeat' ((conv=>whnf);first|refine vA ?_|refine vB fun b hb=>?_|refine vC (fun hl=>?_) fun i kv vv hi=>?_|refine vE ?_|refine vG ?_|refine vH ?_|((first|refine vD ?_ ?_|refine vF ?_ ?_|refine vI ?_ ?_)<;>intro hc<;>try simp only [vL] at hc)|refine vJ fun hg=>?_|refine vK fun hg=>?_|refine vT ?_|refine vN ‹_› ?_|(refine vQ ?_ fun x hx=>?_;·first|omega|(simp only [vM] at *;omega))|((first|refine vO ?_ ?_|refine vR ?_ ‹_› ?_|refine vS ?_ fun x hx=>?_|refine vP ?_ ?_);·first|omega|(simp only [vM] at *;omega))|refine vW ⟨by omega,by omega⟩ ?_|(refine vU ?_ ?_;·kernel_rfl)|refine vX ?_|refine vY ?_|refine vZ ?_|refine za.mk _ ‹_› ?_|refine vP (show (_:BitVec 64)≠_ by decide) ?_));all_goals try conv=>whnf
  ·refine zah.res (zrj hT q (n:=m.W.toNat) (by omega) (zov hk0 hrm w)) (by (repeat refine ⟨⟨rfl,rfl⟩,?_⟩);rfl) ?_
   (repeat' ((conv=>whnf);first|refine vA ?_|refine vB fun b hb=>?_|refine vC (fun hl=>?_) fun i kv vv hi=>?_|refine vE ?_|refine vG ?_|refine vH ?_|((first|refine vD ?_ ?_|refine vF ?_ ?_|refine vI ?_ ?_)<;>intro hc<;>try simp only [vL] at hc)|refine vJ fun hg=>?_|refine vK fun hg=>?_|refine vT ?_|refine vN ‹_› ?_|(refine vQ ?_ fun x hx=>?_;·first|omega|(simp only [vM] at *;omega))|((first|refine vO ?_ ?_|refine vR ?_ ‹_› ?_|refine vS ?_ fun x hx=>?_|refine vP ?_ ?_);·first|omega|(simp only [vM] at *;omega))|refine vW ⟨by omega,by omega⟩ ?_|(refine vU ?_ ?_;·kernel_rfl)|refine vX ?_|refine vY ?_|refine vZ ?_|refine za.mk _ ‹_› ?_|refine vP (show (_:BitVec 64)≠_ by decide) ?_));all_goals try conv=>whnf
   refine zah.objs [1] (c2) (by (repeat' first|exact trivial|exact rfl|exact ⟨_,rfl⟩|exact .inl rfl|exact .inr (.inl ⟨rfl,rfl⟩)|exact .inr (.inr ⟨rfl,rfl⟩)|refine And.intro ?_ ?_|refine ⟨_,rfl,?_⟩|decide|exact of_decide_eq_true rfl)) (by (repeat' first|exact trivial|exact rfl|exact ⟨_,rfl⟩|exact .inl rfl|exact .inr (.inl ⟨rfl,rfl⟩)|exact .inr (.inr ⟨rfl,rfl⟩)|refine And.intro ?_ ?_|refine ⟨_,rfl,?_⟩|decide|exact of_decide_eq_true rfl)) (by rfl) (by rfl) (by simp) ?_
   (repeat' ((conv=>whnf);first|refine vA ?_|refine vB fun b hb=>?_|refine vC (fun hl=>?_) fun i kv vv hi=>?_|refine vE ?_|refine vG ?_|refine vH ?_|((first|refine vD ?_ ?_|refine vF ?_ ?_|refine vI ?_ ?_)<;>intro hc<;>try simp only [vL] at hc)|refine vJ fun hg=>?_|refine vK fun hg=>?_|refine vT ?_|refine vN ‹_› ?_|(refine vQ ?_ fun x hx=>?_;·first|omega|(simp only [vM] at *;omega))|((first|refine vO ?_ ?_|refine vR ?_ ‹_› ?_|refine vS ?_ fun x hx=>?_|refine vP ?_ ?_);·first|omega|(simp only [vM] at *;omega))|refine vW ⟨by omega,by omega⟩ ?_|(refine vU ?_ ?_;·kernel_rfl)|refine vX ?_|refine vY ?_|refine vZ ?_|refine za.mk _ ‹_› ?_|refine vP (show (_:BitVec 64)≠_ by decide) ?_));all_goals try conv=>whnf
   refine ⟨(k+1,_),[(0,4)],[],?_,?_,by (refine ⟨rfl,rfl,rfl,?_,?_⟩;repeat' first|exact trivial|exact rfl|exact ⟨_,rfl⟩|exact .inl rfl|exact .inr (.inl ⟨rfl,rfl⟩)|exact .inr (.inr ⟨rfl,rfl⟩)|refine And.intro ?_ ?_|refine ⟨_,rfl,?_⟩|decide|exact of_decide_eq_true rfl)⟩
   ·refine ⟨by omega,?_⟩
    rw [List.take_add_one,hr,hz];simp
   ·(first|omega|(simp only [vM] at *;omega))
  ·exfalso;omega
 ·have hzz:zs=dI [(q w:Int)]::m.rel.map fun r=>dI (zeE (zb0 q (r.getD w 0#64))):=by rw [hz,List.take_of_length_le (by omega)]
  clear hz
  (repeat' ((conv=>whnf);first|refine vA ?_|refine vB fun b hb=>?_|refine vC (fun hl=>?_) fun i kv vv hi=>?_|refine vE ?_|refine vG ?_|refine vH ?_|((first|refine vD ?_ ?_|refine vF ?_ ?_|refine vI ?_ ?_)<;>intro hc<;>try simp only [vL] at hc)|refine vJ fun hg=>?_|refine vK fun hg=>?_|refine vT ?_|refine vN ‹_› ?_|(refine vQ ?_ fun x hx=>?_;·first|omega|(simp only [vM] at *;omega))|((first|refine vO ?_ ?_|refine vR ?_ ‹_› ?_|refine vS ?_ fun x hx=>?_|refine vP ?_ ?_);·first|omega|(simp only [vM] at *;omega))|refine vW ⟨by omega,by omega⟩ ?_|(refine vU ?_ ?_;·kernel_rfl)|refine vX ?_|refine vY ?_|refine vZ ?_|refine za.mk _ ‹_› ?_|refine vP (show (_:BitVec 64)≠_ by decide) ?_));all_goals try conv=>whnf
  ·exfalso;omega
  ·refine congrArg some (show D.arr 1 zs=dII (zV m.W.toNat (zw m) q w) from ?_)
   rw [hzz]
   unfold zV zw
   have a1 : ∀ r∈m.rel,zcp m.W.toNat (fun v w=>rb r v w) q w=zb0 q (r.getD w 0#64):=fun r hr=>zth (by omega) (zov hk0 hr w) fun v _=>rfl
   simp only [List.map_map,List.map_cons]
   refine congrArg (fun l=>D.arr 1 (dI [(q w:Int)]::l)) ?_
   rw [List.map_map]
   exact List.map_congr_left fun r hr=>by show dI _=dI (zeE (zcp _ (fun v w=>rb r v w) q w));rw [a1 r hr]
theorem zms (hT:ze9 T) {m:KM} (hk0:zj m=0) (h12:m.W≤12) (root:Int) :
  Fn Tryz.prog T zfl [.d (dKM m),.d (.int .i64 root)] [] (.d (.tup [dI (ptL m.W.toNat (zde m root).1),.int .i64 ((zde m root).2:Int)])) []:=by
 have hg0:=zB hk0
 have w1:=hg0.w1
 have n4:=hg0.n4
 have cr:=zqs (T:=T) (n:=m.W.toNat) (by omega) (by omega) zbE (bKM m) (zV m.W.toNat (zw m)) (mkT m root) (fun q v w hv hw h=>zhU q v w hv hw h) (fun q w hw=>(ztk (by omega) (by simp [zw];omega) q w).2) (fun w hw=>⟨by simp [mkT],fun r hr=>by unfold mkT at hr;simp at hr;rcases hr with rfl|rfl<;>simp⟩) (fun q w hw=>zqq hT hk0 h12 q w hw)
 refine zp zF zjG (by show 2≤33;decide) ?_
 (repeat' ((conv=>whnf);first|refine vA ?_|refine vB fun b hb=>?_|refine vC (fun hl=>?_) fun i kv vv hi=>?_|refine vE ?_|refine vG ?_|refine vH ?_|((first|refine vD ?_ ?_|refine vF ?_ ?_|refine vI ?_ ?_)<;>intro hc<;>try simp only [vL] at hc)|refine vJ fun hg=>?_|refine vK fun hg=>?_|refine vT ?_|refine vN ‹_› ?_|(refine vQ ?_ fun x hx=>?_;·first|omega|(simp only [vM] at *;omega))|((first|refine vO ?_ ?_|refine vR ?_ ‹_› ?_|refine vS ?_ fun x hx=>?_|refine vP ?_ ?_);·first|omega|(simp only [vM] at *;omega))|refine vW ⟨by omega,by omega⟩ ?_|(refine vU ?_ ?_;·kernel_rfl)|refine vX ?_|refine vY ?_|refine vZ ?_|refine za.mk _ ‹_› ?_|refine vP (show (_:BitVec 64)≠_ by decide) ?_));all_goals try conv=>whnf
 refine zq (fun ((k,zs):Nat×List D)=>[(1,.d (.int .i64 (root))),(2,.ptr 0 0),(6,.own 1),(10,.d (.int .i64 (m.W))),(11,.d (.int .i64 ((k:Int))))]) (fun ((k,zs):Nat×List D)=>[(0,some (zcd m)),(1,some (.row 1 zs))]) 2 (fun ((k,zs):Nat×List D)=>k≤m.W.toNat∧zs=((List.range k).map (mkT m root)).map dII) (fun ((k,zs):Nat×List D)=>m.W.toNat - k) ((0,[])) [(0,0)]   [1] (⟨by omega,rfl⟩) (by (refine ⟨rfl,rfl,rfl,?_,?_⟩;repeat' first|exact trivial|exact rfl|exact ⟨_,rfl⟩|exact .inl rfl|exact .inr (.inl ⟨rfl,rfl⟩)|exact .inr (.inr ⟨rfl,rfl⟩)|refine And.intro ?_ ?_|refine ⟨_,rfl,?_⟩|decide|exact of_decide_eq_true rfl)) ?_
 rintro ⟨k,zs⟩ ⟨hk,hz⟩
 have hzl:zs.length≤12:=by rw [hz];simp;omega
 by_cases hkl:k < m.W.toNat
 ·have cf:=zmr (T:=T) m (k:Int)
  rw [zt1 hk0 hkl] at cf
  (repeat' ((conv=>whnf);first|refine vA ?_|refine vB fun b hb=>?_|refine vC (fun hl=>?_) fun i kv vv hi=>?_|refine vE ?_|refine vG ?_|refine vH ?_|((first|refine vD ?_ ?_|refine vF ?_ ?_|refine vI ?_ ?_)<;>intro hc<;>try simp only [vL] at hc)|refine vJ fun hg=>?_|refine vK fun hg=>?_|refine vT ?_|refine vN ‹_› ?_|(refine vQ ?_ fun x hx=>?_;·first|omega|(simp only [vM] at *;omega))|((first|refine vO ?_ ?_|refine vR ?_ ‹_› ?_|refine vS ?_ fun x hx=>?_|refine vP ?_ ?_);·first|omega|(simp only [vM] at *;omega))|refine vW ⟨by omega,by omega⟩ ?_|(refine vU ?_ ?_;·kernel_rfl)|refine vX ?_|refine vY ?_|refine vZ ?_|refine yD cf ⟨⟨rfl,rfl⟩,⟨rfl,rfl⟩,rfl⟩ rfl ?_|refine za.mk _ ‹_› ?_|refine vP (show (_:BitVec 64)≠_ by decide) ?_));all_goals try conv=>whnf
  ·refine ⟨(k+1,_),[(0,0),(1,6)],[],?_,?_,by (refine ⟨rfl,rfl,rfl,?_,?_⟩;repeat' first|exact trivial|exact rfl|exact ⟨_,rfl⟩|exact .inl rfl|exact .inr (.inl ⟨rfl,rfl⟩)|exact .inr (.inr ⟨rfl,rfl⟩)|refine And.intro ?_ ?_|refine ⟨_,rfl,?_⟩|decide|exact of_decide_eq_true rfl)⟩
   ·refine ⟨by omega,?_⟩
    rw [hz,List.range_succ,List.map_append,List.map_append]
    refine congrArg _ ?_
    show [D.arr 1 [D.arr 1 [D.int .i64 0],D.arr 1 [D.int .i64 (zay m k)]]]=[dII (mkT m root k)]
    unfold mkT;rw [if_pos ‹_›];rfl
   ·(first|omega|(simp only [vM] at *;omega))
  ·refine ⟨(k+1,_),[(0,0),(1,6)],[],?_,?_,by (refine ⟨rfl,rfl,rfl,?_,?_⟩;repeat' first|exact trivial|exact rfl|exact ⟨_,rfl⟩|exact .inl rfl|exact .inr (.inl ⟨rfl,rfl⟩)|exact .inr (.inr ⟨rfl,rfl⟩)|refine And.intro ?_ ?_|refine ⟨_,rfl,?_⟩|decide|exact of_decide_eq_true rfl)⟩
   ·refine ⟨by omega,?_⟩
    rw [hz,List.range_succ,List.map_append,List.map_append]
    refine congrArg _ ?_
    show [D.arr 1 [D.arr 1 [D.int .i64 1],D.arr 1 [D.int .i64 (zay m k)]]]=[dII (mkT m root k)]
    unfold mkT;rw [if_neg ‹_›];rfl
   ·(first|omega|(simp only [vM] at *;omega))
  ·exfalso;omega
 ·have hzz:zs=((List.range m.W.toNat).map (mkT m root)).map dII:=by rw [hz,show k=m.W.toNat by omega]
  clear hz
  subst hzz
  (repeat' ((conv=>whnf);first|refine vA ?_|refine vB fun b hb=>?_|refine vC (fun hl=>?_) fun i kv vv hi=>?_|refine vE ?_|refine vG ?_|refine vH ?_|((first|refine vD ?_ ?_|refine vF ?_ ?_|refine vI ?_ ?_)<;>intro hc<;>try simp only [vL] at hc)|refine vJ fun hg=>?_|refine vK fun hg=>?_|refine vT ?_|refine vN ‹_› ?_|(refine vQ ?_ fun x hx=>?_;·first|omega|(simp only [vM] at *;omega))|((first|refine vO ?_ ?_|refine vR ?_ ‹_› ?_|refine vS ?_ fun x hx=>?_|refine vP ?_ ?_);·first|omega|(simp only [vM] at *;omega))|refine vW ⟨by omega,by omega⟩ ?_|(refine vU ?_ ?_;·kernel_rfl)|refine vX ?_|refine vY ?_|refine vZ ?_|refine yN cr ⟨⟨rfl,rfl⟩,⟨rfl,rfl⟩,rfl⟩ ?_|refine za.mk _ ‹_› ?_|refine vP (show (_:BitVec 64)≠_ by decide) ?_));all_goals try conv=>whnf
  iterate 2 (exfalso;omega)
  rfl
end Go.Ab
namespace Go.Ab
open Go Go.Proofs
set_option maxRecDepth 10000
set_option maxHeartbeats 4000000
variable {T:Nat→Obj→Prop}
theorem zrf {l:List Nat} {w:Nat} (h:w∈l):zeh (fun y=>(w:Int)==y) (l.map fun (x:Nat)=>(x:Int))=(l.idxOf w:Int):=by
 have h1:=zn4 h
 refine zgs (x:=(w:Int)) (by rw [zjy h1.1,h1.2]) (by simp) fun i y hi hy=>?_
 rw [List.getElem?_map,Option.map_eq_some_iff] at hy
 obtain ⟨x,hx,rfl⟩:=hy
 have hne:x≠w:=fun e=>by
  subst e
  have h2:=List.idxOf_lt_length_of_mem h
  obtain ⟨p1,q1⟩:=List.getElem?_eq_some_iff.1 hx
  have : ∀ (l:List Nat) (i:Nat) (hi:i < l.length),l.idxOf l[i]≤i:=fun l=>by
   induction l with
   | nil=>intro i hi;simp at hi
   | cons a l ih =>
    intro i hi
    cases i with
    | zero=>simp
    | succ i =>
     rw [List.getElem_cons_succ,List.idxOf_cons]
     cases hb:a==l[i]'(by simpa using hi) with
     | true=>simp
     | false=>have:=ih i (by simpa using hi);simp;exact this
  have:=this l i p1
  rw [q1] at this;omega
 simp;omega
theorem zuH (hT:ze9 T) (m:KM) (h12:zj m=0→m.W≤12) (w:Int):Fn Tryz.prog T zed [.d (dKM m),.d (.int .i64 w)] [] (.d (.tup [dKM (zdS m w).1,dI (zdS m w).2.1,.int .i64 (zdS m w).2.2])) []:=by
 have cc:=zda (T:=T) m
 by_cases hk0:zj m=0
 ·have h12:=h12 hk0
  have hg0:=zB hk0
  have w1:=hg0.w1
  rw [hk0] at cc
  by_cases hw:w < 0∨m.W≤w
  ·refine zp zF zcA (by show 2≤95;decide) ?_
   (repeat' ((conv=>whnf);first|refine vA ?_|refine vB fun b hb=>?_|refine vC (fun hl=>?_) fun i kv vv hi=>?_|refine vE ?_|refine vG ?_|refine vH ?_|((first|refine vD ?_ ?_|refine vF ?_ ?_|refine vI ?_ ?_)<;>intro hc<;>try simp only [vL] at hc)|refine vJ fun hg=>?_|refine vK fun hg=>?_|refine vT ?_|refine vN ‹_› ?_|(refine vQ ?_ fun x hx=>?_;·first|omega|(simp only [vM] at *;omega))|((first|refine vO ?_ ?_|refine vR ?_ ‹_› ?_|refine vS ?_ fun x hx=>?_|refine vP ?_ ?_);·first|omega|(simp only [vM] at *;omega))|refine vW ⟨by omega,by omega⟩ ?_|(refine vU ?_ ?_;·kernel_rfl)|refine vX ?_|refine vY ?_|refine vZ ?_|refine yD cc ⟨⟨rfl,rfl⟩,rfl⟩ rfl ?_|refine za.mk _ ‹_› ?_|refine vP (show (_:BitVec 64)≠_ by decide) ?_));all_goals try conv=>whnf
   iterate 2 (rw [zdS,if_neg (by omega),if_pos hw];rfl)
   exfalso;omega
  ·obtain ⟨w,rfl⟩ : ∃ v:Nat,w=(v:Int):=⟨w.toNat,by omega⟩
   have hwl:w < m.W.toNat:=by omega
   have hbit : ∀ v,(1#64 <<< w).getLsbD v=true→v < m.W.toNat:=fun v hv=>by have:=(zl2 (by omega)).1 hv;omega
   have hl:=zsK hk0 hwl
   have hroot:=zew (R:=zw m) hwl
   have hlen:=zg4 (n:=m.W.toNat) (R:=zw m) (w:=w)
   have hlt : ∀ x∈zY m.W.toNat (zw m) w,x < m.W.toNat:=fun x hx=>(zau.1 hx).lt
   have hnd:=zbT m.W.toNat (zw m) w
   have hcan:zdS m (w:Int)=if zel (zx m (zY m.W.toNat (zw m) w))=false then (ze6,[],16) else (zx m (za5 m w),(za5 m w).map fun (x:Nat)=>(x:Int),0):=by
    rw [zdS,if_neg (by omega),if_neg hw,Int.toNat_natCast]
   have hcc:=zsx hk0 hwl
   have cg:=zmZ hT hk0 hbit
   have cr:=zn0 hT hk0 (s:=zgD m (1#64 <<< w)) (fun e=>by
    rw [e,zgC] at hl;rw [← hl] at hroot;cases hroot) (fun v hv=>((zg3 hk0).1 hv).lt)
   rw [hl] at cr
   generalize zgD m (1#64 <<< w)=gs at cg cr
   clear hl
   generalize hL:zY m.W.toNat (zw m) w=l at hroot hlen hlt hnd hcan hcc cr
   have hll:1≤l.length:=List.length_pos_of_mem hroot
   have hp0:=zuB hk0 hll (by omega)
   have hpW:(zx m l).W.toNat=l.length:=Int.toNat_natCast _
   have hpI:(zx m l).W=(l.length:Int):=rfl
   have c1:=zms hT hp0 (by rw [hpI];omega) (-1)
   have ci:=znV (T:=T) (l.map fun (x:Nat)=>(x:Int)) (w:Int)
   rw [zrf hroot] at ci
   have c2:=zms hT hp0 (by rw [hpI];omega) (l.idxOf w:Int)
   have hn:=zuL (p:=zx m l) (-1)
   rw [hpW] at c1 c2 hn
   refine zp zF zcA (by show 2≤95;decide) ?_
   cases hmin:zel (zx m l) with
   | false =>
    have hne:(zde (zx m l) (-1)).2≠l.length:=fun e=>by
     unfold zel at hmin;rw [hpW,e] at hmin;simp at hmin
    rw [hcan,hmin,if_pos rfl]
    (repeat' ((conv=>whnf);first|refine vA ?_|refine vB fun b hb=>?_|refine vC (fun hl=>?_) fun i kv vv hi=>?_|refine vE ?_|refine vG ?_|refine vH ?_|((first|refine vD ?_ ?_|refine vF ?_ ?_|refine vI ?_ ?_)<;>intro hc<;>try simp only [vL] at hc)|refine vJ fun hg=>?_|refine vK fun hg=>?_|refine vT ?_|refine vN ‹_› ?_|(refine vQ ?_ fun x hx=>?_;·first|omega|(simp only [vM] at *;omega))|((first|refine vO ?_ ?_|refine vR ?_ ‹_› ?_|refine vS ?_ fun x hx=>?_|refine vP ?_ ?_);·first|omega|(simp only [vM] at *;omega))|refine vW ⟨by omega,by omega⟩ ?_|(refine vU ?_ ?_;·kernel_rfl)|refine vX ?_|refine vY ?_|refine vZ ?_|refine yD cc ⟨⟨rfl,rfl⟩,rfl⟩ rfl ?_|refine yN cg ⟨⟨rfl,rfl⟩,⟨rfl,rfl⟩,rfl⟩ ?_|refine yN cr ⟨⟨rfl,rfl⟩,⟨rfl,rfl⟩,rfl⟩ ?_|refine yN c1 ⟨⟨rfl,rfl⟩,⟨rfl,rfl⟩,rfl⟩ ?_|refine za.mk _ ‹_› ?_|refine vP (show (_:BitVec 64)≠_ by decide) ?_));all_goals try conv=>whnf
    ·exfalso;omega
    ·rfl
    ·have h : ¬((zde (zx m l) (-1)).2:Int) < (l.length:Int):=by rw [← hpI];omega
     exfalso;omega
   | true =>
    have he:(zde (zx m l) (-1)).2=l.length:=by
     unfold zel at hmin;rw [hpW] at hmin;exact of_decide_eq_true hmin
    rw [hcan,hmin,if_neg (by decide)]
    obtain ⟨hq,ha,hw2⟩:=hcc hmin
    have c3:=zqp (T:=T) (zx m l) (ptL l.length (zde (zx m l) (l.idxOf w:Int)).1)
    rw [zgK,if_neg (by omega),if_pos (by rw [hpW];exact zhn hq),hpW,ha] at c3
    generalize (zde (zx m l) (l.idxOf w:Int)).1=q at c2 c3 hq hw2
    have hln:(ptL l.length q).length=l.length:=zho
    (repeat' ((conv=>whnf);first|refine vA ?_|refine vB fun b hb=>?_|refine vC (fun hl=>?_) fun i kv vv hi=>?_|refine vE ?_|refine vG ?_|refine vH ?_|((first|refine vD ?_ ?_|refine vF ?_ ?_|refine vI ?_ ?_)<;>intro hc<;>try simp only [vL] at hc)|refine vJ fun hg=>?_|refine vK fun hg=>?_|refine vT ?_|refine vN ‹_› ?_|(refine vQ ?_ fun x hx=>?_;·first|omega|(simp only [vM] at *;omega))|((first|refine vO ?_ ?_|refine vR ?_ ‹_› ?_|refine vS ?_ fun x hx=>?_|refine vP ?_ ?_);·first|omega|(simp only [vM] at *;omega))|refine vW ⟨by omega,by omega⟩ ?_|(refine vU ?_ ?_;·kernel_rfl)|refine vX ?_|refine vY ?_|refine vZ ?_|refine yD cc ⟨⟨rfl,rfl⟩,rfl⟩ rfl ?_|refine yN cg ⟨⟨rfl,rfl⟩,⟨rfl,rfl⟩,rfl⟩ ?_|refine yN cr ⟨⟨rfl,rfl⟩,⟨rfl,rfl⟩,rfl⟩ ?_|refine yN c1 ⟨⟨rfl,rfl⟩,⟨rfl,rfl⟩,rfl⟩ ?_|refine yD ci ⟨⟨rfl,rfl⟩,⟨rfl,rfl⟩,rfl⟩ rfl ?_|refine yN c2 ⟨⟨rfl,rfl⟩,⟨rfl,rfl⟩,rfl⟩ ?_|refine yN c3 ⟨⟨rfl,rfl⟩,⟨rfl,rfl⟩,rfl⟩ ?_|refine za.mk _ ‹_› ?_|refine vP (show (_:BitVec 64)≠_ by decide) ?_));all_goals try conv=>whnf
    ·exfalso;omega
    ·exfalso;rw [hpI] at *;omega
    refine zq (fun ((k,zs):Nat×List D)=>[(4,.ptr 0 0),(11,.d (dN l)),(17,.ptr 1 0),(19,.own 2),(78,.d (dI (ptL l.length q))),(79,.d (.int .i64 (((ptL l.length q).map (D.int .i64)).length:Int))),(80,.d (.int .i64 ((k:Int))))]) (fun ((k,zs):Nat×List D)=>[(0,some (.box [.d (.int .i64 0),.nils 1,.nils 1])),(1,some (zcd (zx m (za5 m w)))),(2,some (.row 1 zs))]) 3 (fun ((k,zs):Nat×List D)=>k≤l.length∧zs=(List.range l.length).map fun i=>D.int .i64 (if zbd l.length q i < k then (l.getD (zbd l.length q i) 0:Int) else 0)) (fun ((k,zs):Nat×List D)=>l.length - k) ((0,List.replicate ((((ptL l.length q).map (D.int .i64)).length:Int)).toNat (D.int .i64 0))) [(0,1),(1,3),(2,4)] [] (⟨by omega,by simp only [Nat.not_lt_zero,if_false];rw [List.length_map,zho,Int.toNat_natCast];exact zaP _ _⟩) (by (refine ⟨rfl,rfl,rfl,?_,?_⟩;repeat' first|exact trivial|exact rfl|exact ⟨_,rfl⟩|exact .inl rfl|exact .inr (.inl ⟨rfl,rfl⟩)|exact .inr (.inr ⟨rfl,rfl⟩)|refine And.intro ?_ ?_|refine ⟨_,rfl,?_⟩|decide|exact of_decide_eq_true rfl)) ?_
    rintro ⟨k,zs⟩ ⟨hk,hz⟩
    subst hz
    by_cases hkl:k < l.length
    ·have e1:=zlv (q:=q) hkl
     have e2:=zjy hkl
     have er:(List.range l.length)[q k]? = some (q k):=List.getElem?_range (hq.lt k hkl)
     have hqk:=hq.lt k hkl
     (repeat' ((conv=>whnf);first|refine vA ?_|refine vB fun b hb=>?_|refine vC (fun hl=>?_) fun i kv vv hi=>?_|refine vE ?_|refine vG ?_|refine vH ?_|((first|refine vD ?_ ?_|refine vF ?_ ?_|refine vI ?_ ?_)<;>intro hc<;>try simp only [vL] at hc)|refine vJ fun hg=>?_|refine vK fun hg=>?_|refine vT ?_|refine vN ‹_› ?_|(refine vQ ?_ fun x hx=>?_;·first|omega|(simp only [vM] at *;omega))|((first|refine vO ?_ ?_|refine vR ?_ ‹_› ?_|refine vS ?_ fun x hx=>?_|refine vP ?_ ?_);·first|omega|(simp only [vM] at *;omega))|refine vW ⟨by omega,by omega⟩ ?_|(refine vU ?_ ?_;·kernel_rfl)|refine vX ?_|refine vY ?_|refine vZ ?_|refine za.mk _ ‹_› ?_|refine vP (show (_:BitVec 64)≠_ by decide) ?_));all_goals try conv=>whnf
     ·refine ⟨(k+1,_),[(0,0),(1,1),(2,2)],[],?_,?_,by (refine ⟨rfl,rfl,rfl,?_,?_⟩;repeat' first|exact trivial|exact rfl|exact ⟨_,rfl⟩|exact .inl rfl|exact .inr (.inl ⟨rfl,rfl⟩)|exact .inr (.inr ⟨rfl,rfl⟩)|refine And.intro ?_ ?_|refine ⟨_,rfl,?_⟩|decide|exact of_decide_eq_true rfl)⟩
      ·refine ⟨by omega,(zd3 _).trans (zQ fun u hu=>?_)⟩
       show (if u=q k then _ else _)=_
       by_cases e:u=q k
       ·subst e
        rw [if_pos rfl,zdO hq hkl,if_pos (by omega)]
       ·rw [if_neg e]
        have hne:zbd l.length q u≠k:=fun e'=>e (by rw [← e'];exact (zce hq hu).2.symm)
        by_cases e2:zbd l.length q u < k
        ·rw [if_pos e2,if_pos (by omega)]
        ·rw [if_neg e2,if_neg (by omega)]
      ·(first|omega|(simp only [vM] at *;omega))
     all_goals (exfalso;omega)
    ·(repeat' ((conv=>whnf);first|refine vA ?_|refine vB fun b hb=>?_|refine vC (fun hl=>?_) fun i kv vv hi=>?_|refine vE ?_|refine vG ?_|refine vH ?_|((first|refine vD ?_ ?_|refine vF ?_ ?_|refine vI ?_ ?_)<;>intro hc<;>try simp only [vL] at hc)|refine vJ fun hg=>?_|refine vK fun hg=>?_|refine vT ?_|refine vN ‹_› ?_|(refine vQ ?_ fun x hx=>?_;·first|omega|(simp only [vM] at *;omega))|((first|refine vO ?_ ?_|refine vR ?_ ‹_› ?_|refine vS ?_ fun x hx=>?_|refine vP ?_ ?_);·first|omega|(simp only [vM] at *;omega))|refine vW ⟨by omega,by omega⟩ ?_|(refine vU ?_ ?_;·kernel_rfl)|refine vX ?_|refine vY ?_|refine vZ ?_|refine za.mk _ ‹_› ?_|refine vP (show (_:BitVec 64)≠_ by decide) ?_));all_goals try conv=>whnf
     all_goals try (exfalso;omega)
     have e0:k=l.length:=by omega
     refine congrArg (fun x=>some (D.tup [dKM (zx m (za5 m w)),D.arr 1 x,D.int .i64 0])) ?_
     rw [hw2,List.map_map,List.map_map]
     exact zQ fun u hu=>by rw [if_pos (by rw [e0];exact (zce hq hu).1)];rfl
 ·refine zp zF zcA (by show 2≤95;decide) ?_
  (repeat' ((conv=>whnf);first|refine vA ?_|refine vB fun b hb=>?_|refine vC (fun hl=>?_) fun i kv vv hi=>?_|refine vE ?_|refine vG ?_|refine vH ?_|((first|refine vD ?_ ?_|refine vF ?_ ?_|refine vI ?_ ?_)<;>intro hc<;>try simp only [vL] at hc)|refine vJ fun hg=>?_|refine vK fun hg=>?_|refine vT ?_|refine vN ‹_› ?_|(refine vQ ?_ fun x hx=>?_;·first|omega|(simp only [vM] at *;omega))|((first|refine vO ?_ ?_|refine vR ?_ ‹_› ?_|refine vS ?_ fun x hx=>?_|refine vP ?_ ?_);·first|omega|(simp only [vM] at *;omega))|refine vW ⟨by omega,by omega⟩ ?_|(refine vU ?_ ?_;·kernel_rfl)|refine vX ?_|refine vY ?_|refine vZ ?_|refine yD cc ⟨⟨rfl,rfl⟩,rfl⟩ rfl ?_|refine za.mk _ ‹_› ?_|refine vP (show (_:BitVec 64)≠_ by decide) ?_));all_goals try conv=>whnf
  ·rw [zdS,if_pos hk0];rfl
  all_goals exact absurd ‹zj m=0› hk0
end Go.Ab
namespace Go.Ab
open Go Go.Proofs
set_option maxRecDepth 10000
set_option maxHeartbeats 4000000
variable {T:Nat→Obj→Prop}
theorem zvt {x y:BitVec 64} {u w:Nat} : x >>> u&&&1#64=y >>> w&&&1#64↔x.getLsbD u=y.getLsbD w:=by
 cases hx:x.getLsbD u<;>cases hy:y.getLsbD w
 ·rw [(zdR _ _).2 hx,(zdR _ _).2 hy];simp
 ·rw [(zdR _ _).2 hx,(zcj _ _).2 hy];decide
 ·rw [(zcj _ _).2 hx,(zdR _ _).2 hy];decide
 ·rw [(zcj _ _).2 hx,(zcj _ _).2 hy];simp
structure zkN (to:List Int) (n k:Nat) (s:BitVec 64):Prop where
 le:k≤to.length
 rng : ∀ x∈to.take k,0≤x∧x < n
 nd:(to.take k).Nodup
 bit : ∀ x:Nat,x < 64→(s.getLsbD x=true↔(x:Int)∈to.take k)
theorem zkN.next {to:List Int} {n k:Nat} (h64:n≤64) {s:BitVec 64} (h:zkN to n k s) {x:Nat} (hx:to[k]? = some (x:Int)) (hx1:x < n) (hx2:s.getLsbD x=false):zkN to n (k+1) (s|||1#64 <<< x):=by
 have hkl:=(List.getElem?_eq_some_iff.1 hx).1
 have hn:(x:Int) ∉ to.take k:=fun hm=>by rw [(h.bit x (by omega)).2 hm] at hx2;cases hx2
 have ht:to.take (k+1)=to.take k++[(x:Int)]:=by rw [List.take_add_one,hx];rfl
 refine ⟨by omega,fun y hy=>?_,?_,fun y hy=>?_⟩
 ·rw [ht] at hy
  rcases List.mem_append.1 hy with hy|hy
  ·exact h.rng y hy
  ·simp only [List.mem_singleton] at hy;omega
 ·rw [ht]
  refine List.nodup_append.2 ⟨h.nd,by simp,fun a ha b hb e=>?_⟩
  simp only [List.mem_singleton] at hb
  subst hb;subst e;exact hn ha
 ·rw [ht,zls (by omega),h.bit y hy,List.mem_append,List.mem_singleton]
  exact ⟨fun h=>h.elim .inl fun e => .inr (by omega),fun h=>h.elim .inl fun e => .inr (by omega)⟩
theorem zkN.bad {to:List Int} {n k:Nat} {s:BitVec 64} (h:zkN to n k s) (h64:n≤64) {x:Int} (hx:to[k]? = some x) (hb:x < 0∨(n:Int)≤x∨s.getLsbD x.toNat=true):zbw to n=false:=by
 rw [← Bool.not_eq_true]
 intro hp
 obtain ⟨h1,h2,h3⟩:=zcB.1 hp
 have hr:=h2 x (List.mem_of_getElem? hx)
 rcases hb with hb|hb|hb
 ·omega
 ·omega
 ·have hm:=(h.bit x.toNat (by omega)).1 hb
  rw [show ((x.toNat:Nat):Int)=x by omega] at hm
  obtain ⟨j,hj⟩:=List.getElem?_of_mem hm
  rw [List.getElem?_take] at hj
  split at hj
  ·rename_i hlt
   obtain ⟨a,a'⟩:=List.getElem?_eq_some_iff.1 hj
   obtain ⟨c,c'⟩:=List.getElem?_eq_some_iff.1 hx
   have:=(List.getElem_inj h3).1 (a'.trans c'.symm)
   omega
  ·cases hj
end Go.Ab
namespace Go.Ab
open Go Go.Proofs
set_option maxRecDepth 10000
set_option maxHeartbeats 4000000
variable {T:Nat→Obj→Prop}
theorem zah.objsZ {P:Program} {M:Nat→Option Ob} {n f:Nat} {vs lvs:List V} {obs:List Ob} {lv:V} {obs':List (Option Ob)} {K:V→Upd→Nat→Prop} (js fz:List Nat) (hf:Fn P T f lvs obs lv obs') (ha:VPasses M js fz 20 lvs vs)
  (ho:zan M js fz obs js) (hnd:nodup js=true) (hdj:zcS fz js=true) (hsj:zcU js (zz M vs)=true) (hsf:zcU fz (zz M vs)=true) (hle:js.length≤obs'.length)
  (hK:K (zgL js n 20 lv) (zeK js fz n obs' false) (obs'.length - js.length)):zah (zct P T) M n f vs K :=
 ⟨⟨_,_,_,⟨js,fz,false,lvs,obs,lv,obs',hf,ha,ho,hnd,hdj,hsj,hsf,hle,nofun,rfl,rfl,rfl⟩,hK⟩⟩
def zti (x:List Nat):BitVec 64:=zcE (fun i=>decide (i∈x)) 64
theorem zvo {x:List Nat} {i:Nat} (hi:i < 64):(zti x).getLsbD i=decide (i∈x):=by
 rw [zti,zjb];simp [hi]
end Go.Ab
namespace Go.Ab
open Go Go.Proofs
set_option maxRecDepth 10000
set_option maxHeartbeats 4000000
variable {T:Nat→Obj→Prop}
theorem zvp:zti []=0#64:=by decide
end Go.Ab
namespace Go.Ab
open Go Go.Proofs
set_option maxRecDepth 10000
set_option maxHeartbeats 4000000
def zjt:List D→Option (List Int)
 | []=>some []
 | .int .i64 n::r=>match zjt r with
  | some l=>some (n::l)
  | none=>none
 | _=>none
theorem zn6 : ∀ {ds:List D} {l:List Int},zjt ds=some l→ds=l.map (D.int .i64)
 | [],l,h=>by cases h;rfl
 | .int .i64 n::r,l,h=>by
  unfold zjt at h
  split at h
  ·rename_i l' h';cases h;rw [zn6 h'];rfl
  ·cases h
def zgc:List D→Option (List (BitVec 64))
 | []=>some []
 | .u64 n::r=>match zgc r with
  | some l=>some (n::l)
  | none=>none
 | _=>none
theorem zjh : ∀ {ds:List D} {l:List (BitVec 64)},zgc ds=some l→ds=l.map D.u64
 | [],l,h=>by cases h;rfl
 | .u64 n::r,l,h=>by
  unfold zgc at h
  split at h
  ·rename_i l' h';cases h;rw [zjh h'];rfl
  ·cases h
def zhc:List D→Option (List (List Int))
 | []=>some []
 | .arr 1 x::r=>match zjt x with
  | some a=>match zhc r with
   | some l=>some (a::l)
   | none=>none
  | none=>none
 | _=>none
theorem ziW : ∀ {ds:List D} {l:List (List Int)},zhc ds=some l→ds=l.map dI
 | [],l,h=>by cases h;rfl
 | .arr 1 x::r,l,h=>by
  replace h:(match zjt x with
   | some a=>match zhc r with
    | some l=>some (a::l)
    | none=>none
   | none=>none)=some l:=h
  cases h1:zjt x with
  | none=>rw [h1] at h;cases h
  | some a =>
   cases h2:zhc r with
   | none=>rw [h1,h2] at h;cases h
   | some l'=>rw [h1,h2] at h;cases h;rw [ziW h2,zn6 h1];rfl
def zly:List D→Option (List (List (BitVec 64)))
 | []=>some []
 | .arr 1 x::r=>match zgc x with
  | some a=>match zly r with
   | some l=>some (a::l)
   | none=>none
  | none=>none
 | _=>none
theorem zow : ∀ {ds:List D} {l:List (List (BitVec 64))},zly ds=some l→ds=l.map dU
 | [],l,h=>by cases h;rfl
 | .arr 1 x::r,l,h=>by
  replace h:(match zgc x with
   | some a=>match zly r with
    | some l=>some (a::l)
    | none=>none
   | none=>none)=some l:=h
  cases h1:zgc x with
  | none=>rw [h1] at h;cases h
  | some a =>
   cases h2:zly r with
   | none=>rw [h1,h2] at h;cases h
   | some l'=>rw [h1,h2] at h;cases h;rw [zow h2,zjh h1];rfl
def zqA:D→Option KM
 | .agg [.int .i64 W,.arr 1 v,.arr 1 r]=>match zgc v,zly r with
  | some v,some r=>some ⟨W,v,r⟩
  | _,_=>none
 | _=>none
theorem zpK {d:D} {m:KM} (h:zqA d=some m):d=dKM m:=by
 unfold zqA at h
 split at h
 ·split at h
  ·rename_i h1 h2;cases h;rw [zjh h1,zow h2]
  ·cases h
 ·cases h
def zqN (t:Tup):Bool:=Nat.ble t.length 1000&&t.all fun r=>Nat.ble r.length 1000
theorem zul {t:Tup} (h:zqN t=true):Sml t:=by
 unfold zqN at h
 rw [Bool.and_eq_true,Nat.ble_eq] at h
 exact ⟨h.1,fun r hr=>by have:=List.all_eq_true.1 h.2 r hr;rwa [Nat.ble_eq] at this⟩
def zn9:Fs:=fun f vs obs =>
 cond (Nat.beq f zG) (match vs,obs with
  | [.d (.arr 1 a),.d (.arr 1 b)],[]=>match zhc a,zhc b with
   | some a,some b=>cond (zqN a) (some (.d (.int .i64 (zax a b)),[])) none
   | _,_=>none
  | _,_=>none)
 (cond (Nat.beq f zar) (match vs,obs with
  | [.d (.u64 w)],[]=>some (.d (.int .i64 (Lib.ctz 64 w.toNat)),[])
  | _,_=>none)
 (cond (Nat.beq f zcW) (match vs,obs with
  | [.d (.u64 w)],[]=>some (.d (.int .i64 (Sort.bitsLen w.toNat:Int)),[])
  | _,_=>none)
 (cond (Nat.beq f zdM) (match vs,obs with
  | [.d d],[]=>match zqA d with
   | some m=>some (.d (.int .i64 (zj m)),[])
   | none=>none
  | _,_=>none)
 (cond (Nat.beq f zdN) (match vs,obs with
  | [.d d,.d (.int .i64 w)],[]=>match zqA d with
   | some m=>some (.d (.int .i64 (ziD m w)),[])
   | none=>none
  | _,_=>none) none))))
def zvn (f:Nat):Bool:=Nat.beq f zS||(Nat.beq f zt||(Nat.beq f zdC||(Nat.beq f zaz||Nat.beq f zfY)))
noncomputable def zuE:Cfg:=⟨zm Tryz.prog,zn9,fun _ _ _=>none,zvn,fun f=>Nat.beq f zcy,150⟩
variable {T:Nat→Obj→Prop}
theorem zrr (hT:ze9 T):zp3 Tryz.prog T zn9:=by
 intro f vs obs v obs' h
 unfold zn9 at h
 cases h1:Nat.beq f zG with
 | true =>
  rw [h1,cond_true] at h
  rw [Nat.eq_of_beq_eq_true h1]
  split at h
  ·split at h
   ·rename_i a b ha hb
    rw [ziW ha,ziW hb]
    cases hc:zqN a with
    | true=>rw [hc] at h;cases h;exact zfZ _ _ (zul hc)
    | false=>rw [hc] at h;cases h
   ·cases h
  ·cases h
 | false =>
  rw [h1,cond_false] at h
  cases h2:Nat.beq f zar with
  | true =>
   rw [h2,cond_true] at h
   rw [Nat.eq_of_beq_eq_true h2]
   split at h
   ·cases h;exact hT _
   ·cases h
  | false =>
   rw [h2,cond_false] at h
   cases h3:Nat.beq f zcW with
   | true =>
    rw [h3,cond_true] at h
    rw [Nat.eq_of_beq_eq_true h3]
    split at h
    ·cases h;exact znW _
    ·cases h
   | false =>
    rw [h3,cond_false] at h
    cases h4:Nat.beq f zdM with
    | true =>
     rw [h4,cond_true] at h
     rw [Nat.eq_of_beq_eq_true h4]
     split at h
     ·split at h
      ·rename_i hm;cases h;rw [zpK hm];exact zda _
      ·cases h
     ·cases h
    | false =>
     rw [h4,cond_false] at h
     cases h5:Nat.beq f zdN with
     | true =>
      rw [h5,cond_true] at h
      rw [Nat.eq_of_beq_eq_true h5]
      split at h
      ·split at h
       ·rename_i hm;cases h;rw [zpK hm];exact zmr _ _
       ·cases h
      ·cases h
     | false=>rw [h5] at h;cases h
theorem ztV (hT:ze9 T):zp2 Tryz.prog T zuE:=⟨fun f c h=>h,zrr hT,fun g vs obs xs h=>by cases h⟩
end Go.Ab
namespace Go.Ab
open Go Go.Proofs
set_option maxRecDepth 10000
set_option maxHeartbeats 4000000
variable {T:Nat→Obj→Prop}
def zf4 (l:List Int) (x:Int):Int:=if x < l.length then l.getD x.toNat 0 else 0
def zlQ (l:List Int) (x y:Int):Int:=if zf4 l x≠zf4 l y then if zf4 l x < zf4 l y then -1 else 1 else 0
def ltK (l:List Int) (x y:Int):Bool:=decide (zlQ l x y < 0)
abbrev zkd (l:List Int):D := .fn zaH [.box [.fn zaa [.box [dI l]]]]
theorem zpC (l:List Int) (x:Int) (h0:0≤x):Fn Tryz.prog T zaa [.d (.int .i64 x),.d (.box [dI l])] [] (.d (.int .i64 (zf4 l x))) []:=by
 refine zp zF zfw (by show 2≤12;decide) ?_
 by_cases hxl:x < l.length
 ·have e1:=zdm (l:=l) (d:=0) (show x.toNat < l.length by omega)
  (repeat' ((conv=>whnf);first|refine vA ?_|refine vB fun b hb=>?_|refine vC (fun hl=>?_) fun i kv vv hi=>?_|refine vE ?_|refine vG ?_|refine vH ?_|((first|refine vD ?_ ?_|refine vF ?_ ?_|refine vI ?_ ?_)<;>intro hc<;>try simp only [vL] at hc)|refine vJ fun hg=>?_|refine vK fun hg=>?_|refine vT ?_|refine vN ‹_› ?_|(refine vQ ?_ fun x hx=>?_;·first|omega|(simp only [vM] at *;omega))|((first|refine vO ?_ ?_|refine vR ?_ ‹_› ?_|refine vS ?_ fun x hx=>?_|refine vP ?_ ?_);·first|omega|(simp only [vM] at *;omega))|refine vW ⟨by omega,by omega⟩ ?_|(refine vU ?_ ?_;·kernel_rfl)|refine vX ?_|refine vY ?_|refine vZ ?_|refine za.mk _ ‹_› ?_|refine vP (show (_:BitVec 64)≠_ by decide) ?_));all_goals try conv=>whnf
  ·rw [zf4,if_pos hxl]
  all_goals (exfalso;omega)
 ·(repeat' ((conv=>whnf);first|refine vA ?_|refine vB fun b hb=>?_|refine vC (fun hl=>?_) fun i kv vv hi=>?_|refine vE ?_|refine vG ?_|refine vH ?_|((first|refine vD ?_ ?_|refine vF ?_ ?_|refine vI ?_ ?_)<;>intro hc<;>try simp only [vL] at hc)|refine vJ fun hg=>?_|refine vK fun hg=>?_|refine vT ?_|refine vN ‹_› ?_|(refine vQ ?_ fun x hx=>?_;·first|omega|(simp only [vM] at *;omega))|((first|refine vO ?_ ?_|refine vR ?_ ‹_› ?_|refine vS ?_ fun x hx=>?_|refine vP ?_ ?_);·first|omega|(simp only [vM] at *;omega))|refine vW ⟨by omega,by omega⟩ ?_|(refine vU ?_ ?_;·kernel_rfl)|refine vX ?_|refine vY ?_|refine vZ ?_|refine za.mk _ ‹_› ?_|refine vP (show (_:BitVec 64)≠_ by decide) ?_));all_goals try conv=>whnf
  all_goals first|(exfalso;omega)|rw [zf4,if_neg hxl]
theorem zt3 (l:List Int) (x y:Int) (h0:0≤x) (h1:0≤y):Fn Tryz.prog T zaH [.d (.int .i64 x),.d (.int .i64 y),.d (.box [.fn zaa [.box [dI l]]])] [] (.d (.int .i64 (zlQ l x y))) []:=by
 have cx:=zpC (T:=T) l x h0
 have cy:=zpC (T:=T) l y h1
 refine zp zF zfx (by show 3≤20;decide) ?_
 (repeat' ((conv=>whnf);first|refine vA ?_|refine vB fun b hb=>?_|refine vC (fun hl=>?_) fun i kv vv hi=>?_|refine vE ?_|refine vG ?_|refine vH ?_|((first|refine vD ?_ ?_|refine vF ?_ ?_|refine vI ?_ ?_)<;>intro hc<;>try simp only [vL] at hc)|refine vJ fun hg=>?_|refine vK fun hg=>?_|refine vT ?_|refine vN ‹_› ?_|(refine vQ ?_ fun x hx=>?_;·first|omega|(simp only [vM] at *;omega))|((first|refine vO ?_ ?_|refine vR ?_ ‹_› ?_|refine vS ?_ fun x hx=>?_|refine vP ?_ ?_);·first|omega|(simp only [vM] at *;omega))|refine vW ⟨by omega,by omega⟩ ?_|(refine vU ?_ ?_;·kernel_rfl)|refine vX ?_|refine vY ?_|refine vZ ?_|refine yD cx ⟨⟨rfl,rfl⟩,⟨rfl,rfl⟩,rfl⟩ rfl ?_|refine yD cy ⟨⟨rfl,rfl⟩,⟨rfl,rfl⟩,rfl⟩ rfl ?_|refine za.mk _ ‹_› ?_|refine vP (show (_:BitVec 64)≠_ by decide) ?_));all_goals try conv=>whnf
 ·rw [zlQ,if_pos ‹_›,if_pos ‹_›]
 ·rw [zlQ,if_pos ‹_›,if_neg (by omega)]
 ·rw [zlQ,if_neg (by omega)]
abbrev zgO (d:Array Int):Ob := .row 1 (d.toList.map (D.int .i64))
theorem zt5 (l:List Int) (d:Array Int) (b:Nat) (hd : ∀ x∈d.toList,0≤x) (hb:b≤d.size) (hs:d.size≤1000) :
  Fn Tryz.prog T zbk [.own 0,.d (.int .i64 0),.d (.int .i64 (b:Int)),.d (zkd l)] [zgO d] (.tup []) [some (zgO (Sort.insertionSort (ltK l) d 0 b))]:=by
 refine z7 zF zdE (by show 4≤53;decide) _ (fun e env mem n h=>h) ?_
 (repeat' ((conv=>whnf);first|refine vA ?_|refine vB fun b hb=>?_|refine vC (fun hl=>?_) fun i kv vv hi=>?_|refine vE ?_|refine vG ?_|refine vH ?_|((first|refine vD ?_ ?_|refine vF ?_ ?_|refine vI ?_ ?_)<;>intro hc<;>try simp only [vL] at hc)|refine vJ fun hg=>?_|refine vK fun hg=>?_|refine vT ?_|refine vN ‹_› ?_|(refine vQ ?_ fun x hx=>?_;·first|omega|(simp only [vM] at *;omega))|((first|refine vO ?_ ?_|refine vR ?_ ‹_› ?_|refine vS ?_ fun x hx=>?_|refine vP ?_ ?_);·first|omega|(simp only [vM] at *;omega))|refine vW ⟨by omega,by omega⟩ ?_|(refine vU ?_ ?_;·kernel_rfl)|refine vX ?_|refine vY ?_|refine vZ ?_|refine za.mk _ ‹_› ?_|refine vP (show (_:BitVec 64)≠_ by decide) ?_));all_goals try conv=>whnf
 refine zq (fun ((ii,xs):Int×List D)=>[(0,.own 0),(1,.d (.int .i64 (0))),(2,.d (.int .i64 ((b:Int)))),(3,.d (zkd l)),(8,.d (.int .i64 (ii))),(zc,.own 0)]) (fun ((ii,xs):Int×List D)=>[(0,some (.row 1 xs))]) 1 (fun ((ii,xs):Int×List D) => ∃ (i:Nat) (e:Array Int),ii=i∧xs=e.toList.map (D.int .i64)∧0 < i∧i≤b+1∧e.size=d.size∧(∀ x∈e.toList,0≤x)∧Sort.insOuter (ltK l) 0 b i e=Sort.insertionSort (ltK l) d 0 b) (fun ((ii,xs):Int×List D)=>(b - ii).toNat) (((0:Int)+1,d.toList.map (D.int .i64))) [(0,0)] [] (⟨1,d,by omega,rfl,by omega,by omega,rfl,hd,rfl⟩) (by (refine ⟨rfl,rfl,rfl,?_,?_⟩;repeat' first|exact trivial|exact rfl|exact ⟨_,rfl⟩|exact .inl rfl|exact .inr (.inl ⟨rfl,rfl⟩)|exact .inr (.inr ⟨rfl,rfl⟩)|refine And.intro ?_ ?_|refine ⟨_,rfl,?_⟩|decide|exact of_decide_eq_true rfl)) ?_
 rintro ⟨_,_⟩ ⟨i,e,rfl,rfl,hi,hi2,he,hsm,hI⟩
 (repeat' ((conv=>whnf);first|refine vA ?_|refine vB fun b hb=>?_|refine vC (fun hl=>?_) fun i kv vv hi=>?_|refine vE ?_|refine vG ?_|refine vH ?_|((first|refine vD ?_ ?_|refine vF ?_ ?_|refine vI ?_ ?_)<;>intro hc<;>try simp only [vL] at hc)|refine vJ fun hg=>?_|refine vK fun hg=>?_|refine vT ?_|refine vN ‹_› ?_|(refine vQ ?_ fun x hx=>?_;·first|omega|(simp only [vM] at *;omega))|((first|refine vO ?_ ?_|refine vR ?_ ‹_› ?_|refine vS ?_ fun x hx=>?_|refine vP ?_ ?_);·first|omega|(simp only [vM] at *;omega))|refine vW ⟨by omega,by omega⟩ ?_|(refine vU ?_ ?_;·kernel_rfl)|refine vX ?_|refine vY ?_|refine vZ ?_|refine za.mk _ ‹_› ?_|refine vP (show (_:BitVec 64)≠_ by decide) ?_));all_goals try conv=>whnf
 ·refine zq (fun ((jj,xs):Int×List D)=>[(0,.own 0),(1,.d (.int .i64 (0))),(2,.d (.int .i64 ((b:Int)))),(3,.d (zkd l)),(8,.d (.int .i64 ((i:Int)))),(9,.d (.int .i64 (jj))),(zc,.own 0)]) (fun ((jj,xs):Int×List D)=>[(0,some (.row 1 xs))]) 1 (fun ((jj,xs):Int×List D) => ∃ (j:Nat) (g:Array Int),jj=j∧xs=g.toList.map (D.int .i64)∧j≤i∧g.size=d.size∧(∀ x∈g.toList,0≤x)∧Sort.insInner (ltK l) 0 j g=Sort.insInner (ltK l) 0 i e) (fun ((jj,xs):Int×List D)=>jj.toNat) (((i:Int),e.toList.map (D.int .i64))) [(0,0)] [] (⟨i,e,rfl,rfl,by omega,he,hsm,rfl⟩) (by (refine ⟨rfl,rfl,rfl,?_,?_⟩;repeat' first|exact trivial|exact rfl|exact ⟨_,rfl⟩|exact .inl rfl|exact .inr (.inl ⟨rfl,rfl⟩)|exact .inr (.inr ⟨rfl,rfl⟩)|refine And.intro ?_ ?_|refine ⟨_,rfl,?_⟩|decide|exact of_decide_eq_true rfl)) ?_
  rintro ⟨_,_⟩ ⟨j,g,rfl,rfl,hj,hg,hgm,hJ⟩
  have hgl:g.toList.length=d.size:=by rw [Array.length_toList];exact hg
  have stop : ¬(0 < j∧ltK l g[j]! g[j - 1]! = true)→Sort.insOuter (ltK l) 0 b (i+1) g=Sort.insertionSort (ltK l) d 0 b:=fun h=>by
   rw [← hI,Sort.insOuter.eq_def (ltK l) 0 b i,if_pos (by omega),← hJ,zfd h]
  by_cases hj0:0 < j
  ·have hx1:g.toList[j]? = some g[j]! := zaS (by omega)
   have hx2:g.toList[((j:Int) - 1).toNat]? = some g[j - 1]! := by rw [show ((j:Int) - 1).toNat=j - 1 by omega];exact zaS (by omega)
   have co:=zt3 (T:=T) l g[j]! g[j - 1]! (hgm _ (List.mem_of_getElem? hx1)) (hgm _ (List.mem_of_getElem? hx2))
   (repeat' ((conv=>whnf);first|refine vA ?_|refine vB fun b hb=>?_|refine vC (fun hl=>?_) fun i kv vv hi=>?_|refine vE ?_|refine vG ?_|refine vH ?_|((first|refine vD ?_ ?_|refine vF ?_ ?_|refine vI ?_ ?_)<;>intro hc<;>try simp only [vL] at hc)|refine vJ fun hg=>?_|refine vK fun hg=>?_|refine vT ?_|refine vN ‹_› ?_|(refine vQ ?_ fun x hx=>?_;·first|omega|(simp only [vM] at *;omega))|((first|refine vO ?_ ?_|refine vR ?_ ‹_› ?_|refine vS ?_ fun x hx=>?_|refine vP ?_ ?_);·first|omega|(simp only [vM] at *;omega))|refine vW ⟨by omega,by omega⟩ ?_|(refine vU ?_ ?_;·kernel_rfl)|refine vX ?_|refine vY ?_|refine vZ ?_|refine yD co ⟨⟨rfl,rfl⟩,⟨rfl,rfl⟩,⟨rfl,rfl⟩,rfl⟩ rfl ?_|refine za.mk _ ‹_› ?_|refine vP (show (_:BitVec 64)≠_ by decide) ?_));all_goals try conv=>whnf
   ·refine ⟨(_,_),[(0,0)],[],?_,?_,by (refine ⟨rfl,rfl,rfl,?_,?_⟩;repeat' first|exact trivial|exact rfl|exact ⟨_,rfl⟩|exact .inl rfl|exact .inr (.inl ⟨rfl,rfl⟩)|exact .inr (.inr ⟨rfl,rfl⟩)|refine And.intro ?_ ?_|refine ⟨_,rfl,?_⟩|decide|exact of_decide_eq_true rfl)⟩
    ·refine ⟨j - 1,Sort.swp g j (j - 1),by omega,?_,by omega,by rw [zkF,hg],fun x hx=>hgm x (zp1 (by omega) (by omega) hx),?_⟩
     ·rw [show ((j:Int) - 1).toNat=j - 1 by omega] at hx2 ⊢
      exact zl9 hx1 hx2
     ·exact (zfc (d:=g) (j:=j) (by omega) (decide_eq_true ‹_›)).symm.trans hJ
    ·(first|omega|(simp only [vM] at *;omega))
   ·refine ⟨(_,_),[(0,0)],[],?_,?_,by (refine ⟨rfl,rfl,rfl,?_,?_⟩;repeat' first|exact trivial|exact rfl|exact ⟨_,rfl⟩|exact .inl rfl|exact .inr (.inl ⟨rfl,rfl⟩)|exact .inr (.inr ⟨rfl,rfl⟩)|refine And.intro ?_ ?_|refine ⟨_,rfl,?_⟩|decide|exact of_decide_eq_true rfl)⟩
    ·exact ⟨i+1,g,by omega,rfl,by omega,by omega,hg,hgm,stop fun h=>by
      have:=of_decide_eq_true h.2;omega⟩
    ·(first|omega|(simp only [vM] at *;omega))
   ·exfalso;omega
  ·(repeat' ((conv=>whnf);first|refine vA ?_|refine vB fun b hb=>?_|refine vC (fun hl=>?_) fun i kv vv hi=>?_|refine vE ?_|refine vG ?_|refine vH ?_|((first|refine vD ?_ ?_|refine vF ?_ ?_|refine vI ?_ ?_)<;>intro hc<;>try simp only [vL] at hc)|refine vJ fun hg=>?_|refine vK fun hg=>?_|refine vT ?_|refine vN ‹_› ?_|(refine vQ ?_ fun x hx=>?_;·first|omega|(simp only [vM] at *;omega))|((first|refine vO ?_ ?_|refine vR ?_ ‹_› ?_|refine vS ?_ fun x hx=>?_|refine vP ?_ ?_);·first|omega|(simp only [vM] at *;omega))|refine vW ⟨by omega,by omega⟩ ?_|(refine vU ?_ ?_;·kernel_rfl)|refine vX ?_|refine vY ?_|refine vZ ?_|refine za.mk _ ‹_› ?_|refine vP (show (_:BitVec 64)≠_ by decide) ?_));all_goals try conv=>whnf
   ·exfalso;omega
   ·refine ⟨(_,_),[(0,0)],[],?_,?_,by (refine ⟨rfl,rfl,rfl,?_,?_⟩;repeat' first|exact trivial|exact rfl|exact ⟨_,rfl⟩|exact .inl rfl|exact .inr (.inl ⟨rfl,rfl⟩)|exact .inr (.inr ⟨rfl,rfl⟩)|refine And.intro ?_ ?_|refine ⟨_,rfl,?_⟩|decide|exact of_decide_eq_true rfl)⟩
    ·exact ⟨i+1,g,by omega,rfl,by omega,by omega,hg,hgm,stop fun h=>by omega⟩
    ·(first|omega|(simp only [vM] at *;omega))
 ·have e0:Sort.insertionSort (ltK l) d 0 b=e:=by
   rw [← hI,Sort.insOuter,if_neg (by omega)]
  rw [e0]
  refine ⟨trivial,_,[(0,0)],[],rfl,.inl (by (repeat' first|exact trivial|exact rfl|exact ⟨_,rfl⟩|exact .inl rfl|exact .inr (.inl ⟨rfl,rfl⟩)|exact .inr (.inr ⟨rfl,rfl⟩)|refine And.intro ?_ ?_|refine ⟨_,rfl,?_⟩|decide|exact of_decide_eq_true rfl)),⟨by rfl,by rfl,by rfl,trivial,by (repeat' first|exact trivial|exact rfl|exact ⟨_,rfl⟩|exact .inl rfl|exact .inr (.inl ⟨rfl,rfl⟩)|exact .inr (.inr ⟨rfl,rfl⟩)|refine And.intro ?_ ?_|refine ⟨_,rfl,?_⟩|decide|exact of_decide_eq_true rfl)⟩,by (repeat' first|exact trivial|exact rfl|exact ⟨_,rfl⟩|exact .inl rfl|exact .inr (.inl ⟨rfl,rfl⟩)|exact .inr (.inr ⟨rfl,rfl⟩)|refine And.intro ?_ ?_|refine ⟨_,rfl,?_⟩|decide|exact of_decide_eq_true rfl)⟩
theorem zqt (l:List Int) (d:Array Int) (hd : ∀ x∈d.toList,0≤x) (hs:d.size≤19) :
  Fn Tryz.prog T zbp [.own 0,.d (zkd l)] [zgO d] (.tup []) [some (zgO (Sort.insertionSort (ltK l) d 0 d.size))]:=by
 have cs:Fn Tryz.prog T zcr [.own 0,.d (.int .i64 (d.size:Int)),.d (zkd l)] [zgO d] (.tup []) [some (zgO (Sort.insertionSort (ltK l) d 0 d.size))]:=by
  refine z7 zF ze2 (by show 3≤63;decide) _ (fun e env mem n h=>h) ?_
  (repeat' ((conv=>whnf);first|refine vA ?_|refine vB fun b hb=>?_|refine vC (fun hl=>?_) fun i kv vv hi=>?_|refine vE ?_|refine vG ?_|refine vH ?_|((first|refine vD ?_ ?_|refine vF ?_ ?_|refine vI ?_ ?_)<;>intro hc<;>try simp only [vL] at hc)|refine vJ fun hg=>?_|refine vK fun hg=>?_|refine vT ?_|refine vN ‹_› ?_|(refine vQ ?_ fun x hx=>?_;·first|omega|(simp only [vM] at *;omega))|((first|refine vO ?_ ?_|refine vR ?_ ‹_› ?_|refine vS ?_ fun x hx=>?_|refine vP ?_ ?_);·first|omega|(simp only [vM] at *;omega))|refine vW ⟨by omega,by omega⟩ ?_|(refine vU ?_ ?_;·kernel_rfl)|refine vX ?_|refine vY ?_|refine vZ ?_|refine za.mk _ ‹_› ?_|refine vP (show (_:BitVec 64)≠_ by decide) ?_));all_goals try conv=>whnf
  refine zq (fun (u:Unit)=>[(0,.own 0),(1,.d (.int .i64 ((d.size:Int)))),(2,.d (zkd l)),(6,.d (.int .i64 (20))),(7,.d (.int .i64 (0))),(8,.d (.int .i64 (20))),(zc,.own 0)]) (fun (u:Unit)=>[(0,some (zgO d))]) 1 (fun (u:Unit)=>True) (fun (u:Unit)=>0) (()) [(0,0)] [] (trivial) (by (refine ⟨rfl,rfl,rfl,?_,?_⟩;repeat' first|exact trivial|exact rfl|exact ⟨_,rfl⟩|exact .inl rfl|exact .inr (.inl ⟨rfl,rfl⟩)|exact .inr (.inr ⟨rfl,rfl⟩)|refine And.intro ?_ ?_|refine ⟨_,rfl,?_⟩|decide|exact of_decide_eq_true rfl)) ?_
  rintro u -
  (repeat' ((conv=>whnf);first|refine vA ?_|refine vB fun b hb=>?_|refine vC (fun hl=>?_) fun i kv vv hi=>?_|refine vE ?_|refine vG ?_|refine vH ?_|((first|refine vD ?_ ?_|refine vF ?_ ?_|refine vI ?_ ?_)<;>intro hc<;>try simp only [vL] at hc)|refine vJ fun hg=>?_|refine vK fun hg=>?_|refine vT ?_|refine vN ‹_› ?_|(refine vQ ?_ fun x hx=>?_;·first|omega|(simp only [vM] at *;omega))|((first|refine vO ?_ ?_|refine vR ?_ ‹_› ?_|refine vS ?_ fun x hx=>?_|refine vP ?_ ?_);·first|omega|(simp only [vM] at *;omega))|refine vW ⟨by omega,by omega⟩ ?_|(refine vU ?_ ?_;·kernel_rfl)|refine vX ?_|refine vY ?_|refine vZ ?_|refine za.mk _ ‹_› ?_|refine vP (show (_:BitVec 64)≠_ by decide) ?_));all_goals try conv=>whnf
  ·exfalso;omega
  refine zah.objs [0] (zt5 l d d.size hd (Nat.le_refl _) (by omega)) (by (repeat' first|exact trivial|exact rfl|exact ⟨_,rfl⟩|exact .inl rfl|exact .inr (.inl ⟨rfl,rfl⟩)|exact .inr (.inr ⟨rfl,rfl⟩)|refine And.intro ?_ ?_|refine ⟨_,rfl,?_⟩|decide|exact of_decide_eq_true rfl)) (by (repeat' first|exact trivial|exact rfl|exact ⟨_,rfl⟩|exact .inl rfl|exact .inr (.inl ⟨rfl,rfl⟩)|exact .inr (.inr ⟨rfl,rfl⟩)|refine And.intro ?_ ?_|refine ⟨_,rfl,?_⟩|decide|exact of_decide_eq_true rfl)) (by rfl) (by rfl) (by simp) ?_
  (repeat' ((conv=>whnf);first|refine vA ?_|refine vB fun b hb=>?_|refine vC (fun hl=>?_) fun i kv vv hi=>?_|refine vE ?_|refine vG ?_|refine vH ?_|((first|refine vD ?_ ?_|refine vF ?_ ?_|refine vI ?_ ?_)<;>intro hc<;>try simp only [vL] at hc)|refine vJ fun hg=>?_|refine vK fun hg=>?_|refine vT ?_|refine vN ‹_› ?_|(refine vQ ?_ fun x hx=>?_;·first|omega|(simp only [vM] at *;omega))|((first|refine vO ?_ ?_|refine vR ?_ ‹_› ?_|refine vS ?_ fun x hx=>?_|refine vP ?_ ?_);·first|omega|(simp only [vM] at *;omega))|refine vW ⟨by omega,by omega⟩ ?_|(refine vU ?_ ?_;·kernel_rfl)|refine vX ?_|refine vY ?_|refine vZ ?_|refine za.mk _ ‹_› ?_|refine vP (show (_:BitVec 64)≠_ by decide) ?_));all_goals try conv=>whnf
  refine zq (fun (u:Unit)=>[(0,.own 0),(1,.d (.int .i64 ((d.size:Int)))),(2,.d (zkd l)),(6,.d (.int .i64 (20))),(zc,.own 0)]) (fun (u:Unit)=>[(0,some (zgO (Sort.insertionSort (ltK l) d 0 d.size)))]) 1 (fun (u:Unit)=>True) (fun (u:Unit)=>0) (()) [(0,0)] [] (trivial) (by (refine ⟨rfl,rfl,rfl,?_,?_⟩;repeat' first|exact trivial|exact rfl|exact ⟨_,rfl⟩|exact .inl rfl|exact .inr (.inl ⟨rfl,rfl⟩)|exact .inr (.inr ⟨rfl,rfl⟩)|refine And.intro ?_ ?_|refine ⟨_,rfl,?_⟩|decide|exact of_decide_eq_true rfl)) ?_
  rintro u -
  (repeat' ((conv=>whnf);first|refine vA ?_|refine vB fun b hb=>?_|refine vC (fun hl=>?_) fun i kv vv hi=>?_|refine vE ?_|refine vG ?_|refine vH ?_|((first|refine vD ?_ ?_|refine vF ?_ ?_|refine vI ?_ ?_)<;>intro hc<;>try simp only [vL] at hc)|refine vJ fun hg=>?_|refine vK fun hg=>?_|refine vT ?_|refine vN ‹_› ?_|(refine vQ ?_ fun x hx=>?_;·first|omega|(simp only [vM] at *;omega))|((first|refine vO ?_ ?_|refine vR ?_ ‹_› ?_|refine vS ?_ fun x hx=>?_|refine vP ?_ ?_);·first|omega|(simp only [vM] at *;omega))|refine vW ⟨by omega,by omega⟩ ?_|(refine vU ?_ ?_;·kernel_rfl)|refine vX ?_|refine vY ?_|refine vZ ?_|refine za.mk _ ‹_› ?_|refine vP (show (_:BitVec 64)≠_ by decide) ?_));all_goals try conv=>whnf
  ·exfalso;omega
  refine ⟨trivial,_,[(0,0)],[],rfl,.inl (by (repeat' first|exact trivial|exact rfl|exact ⟨_,rfl⟩|exact .inl rfl|exact .inr (.inl ⟨rfl,rfl⟩)|exact .inr (.inr ⟨rfl,rfl⟩)|refine And.intro ?_ ?_|refine ⟨_,rfl,?_⟩|decide|exact of_decide_eq_true rfl)),⟨by rfl,by rfl,by rfl,trivial,by (repeat' first|exact trivial|exact rfl|exact ⟨_,rfl⟩|exact .inl rfl|exact .inr (.inl ⟨rfl,rfl⟩)|exact .inr (.inr ⟨rfl,rfl⟩)|refine And.intro ?_ ?_|refine ⟨_,rfl,?_⟩|decide|exact of_decide_eq_true rfl)⟩,by (repeat' first|exact trivial|exact rfl|exact ⟨_,rfl⟩|exact .inl rfl|exact .inr (.inl ⟨rfl,rfl⟩)|exact .inr (.inr ⟨rfl,rfl⟩)|refine And.intro ?_ ?_|refine ⟨_,rfl,?_⟩|decide|exact of_decide_eq_true rfl)⟩
 refine z7 zF zdJ (by show 2≤9;decide) _ (fun e env mem n h=>h) ?_
 rw [show ((d.size:Nat):Int)=(((d.toList.map (D.int .i64)).length:Nat):Int) by simp] at cs
 (repeat' ((conv=>whnf);first|refine vA ?_|refine vB fun b hb=>?_|refine vC (fun hl=>?_) fun i kv vv hi=>?_|refine vE ?_|refine vG ?_|refine vH ?_|((first|refine vD ?_ ?_|refine vF ?_ ?_|refine vI ?_ ?_)<;>intro hc<;>try simp only [vL] at hc)|refine vJ fun hg=>?_|refine vK fun hg=>?_|refine vT ?_|refine vN ‹_› ?_|(refine vQ ?_ fun x hx=>?_;·first|omega|(simp only [vM] at *;omega))|((first|refine vO ?_ ?_|refine vR ?_ ‹_› ?_|refine vS ?_ fun x hx=>?_|refine vP ?_ ?_);·first|omega|(simp only [vM] at *;omega))|refine vW ⟨by omega,by omega⟩ ?_|(refine vU ?_ ?_;·kernel_rfl)|refine vX ?_|refine vY ?_|refine vZ ?_|refine za.mk _ ‹_› ?_|refine vP (show (_:BitVec 64)≠_ by decide) ?_));all_goals try conv=>whnf
 refine zah.objs [0] (cs) (by (repeat' first|exact trivial|exact rfl|exact ⟨_,rfl⟩|exact .inl rfl|exact .inr (.inl ⟨rfl,rfl⟩)|exact .inr (.inr ⟨rfl,rfl⟩)|refine And.intro ?_ ?_|refine ⟨_,rfl,?_⟩|decide|exact of_decide_eq_true rfl)) (by (repeat' first|exact trivial|exact rfl|exact ⟨_,rfl⟩|exact .inl rfl|exact .inr (.inl ⟨rfl,rfl⟩)|exact .inr (.inr ⟨rfl,rfl⟩)|refine And.intro ?_ ?_|refine ⟨_,rfl,?_⟩|decide|exact of_decide_eq_true rfl)) (by rfl) (by rfl) (by simp) ?_
 (repeat' ((conv=>whnf);first|refine vA ?_|refine vB fun b hb=>?_|refine vC (fun hl=>?_) fun i kv vv hi=>?_|refine vE ?_|refine vG ?_|refine vH ?_|((first|refine vD ?_ ?_|refine vF ?_ ?_|refine vI ?_ ?_)<;>intro hc<;>try simp only [vL] at hc)|refine vJ fun hg=>?_|refine vK fun hg=>?_|refine vT ?_|refine vN ‹_› ?_|(refine vQ ?_ fun x hx=>?_;·first|omega|(simp only [vM] at *;omega))|((first|refine vO ?_ ?_|refine vR ?_ ‹_› ?_|refine vS ?_ fun x hx=>?_|refine vP ?_ ?_);·first|omega|(simp only [vM] at *;omega))|refine vW ⟨by omega,by omega⟩ ?_|(refine vU ?_ ?_;·kernel_rfl)|refine vX ?_|refine vY ?_|refine vZ ?_|refine za.mk _ ‹_› ?_|refine vP (show (_:BitVec 64)≠_ by decide) ?_));all_goals try conv=>whnf
 refine ⟨trivial,_,[(0,0)],[],rfl,.inl (by (repeat' first|exact trivial|exact rfl|exact ⟨_,rfl⟩|exact .inl rfl|exact .inr (.inl ⟨rfl,rfl⟩)|exact .inr (.inr ⟨rfl,rfl⟩)|refine And.intro ?_ ?_|refine ⟨_,rfl,?_⟩|decide|exact of_decide_eq_true rfl)),⟨by rfl,by rfl,by rfl,trivial,by (repeat' first|exact trivial|exact rfl|exact ⟨_,rfl⟩|exact .inl rfl|exact .inr (.inl ⟨rfl,rfl⟩)|exact .inr (.inr ⟨rfl,rfl⟩)|refine And.intro ?_ ?_|refine ⟨_,rfl,?_⟩|decide|exact of_decide_eq_true rfl)⟩,by (repeat' first|exact trivial|exact rfl|exact ⟨_,rfl⟩|exact .inl rfl|exact .inr (.inl ⟨rfl,rfl⟩)|exact .inr (.inr ⟨rfl,rfl⟩)|refine And.intro ?_ ?_|refine ⟨_,rfl,?_⟩|decide|exact of_decide_eq_true rfl)⟩
end Go.Ab
namespace Go.Ab
open Go Go.Proofs
set_option maxRecDepth 10000
set_option maxHeartbeats 4000000
variable {T:Nat→Obj→Prop}
theorem zhe {l:List Int} {x y:Int} : ltK l x y=true↔zf4 l x < zf4 l y:=by
 unfold ltK zlQ
 rw [decide_eq_true_eq]
 split<;>(try split)<;>omega
theorem zvr (l:List Int):Sort.SWO (ltK l):=by
 refine ⟨fun x=>?_,fun x y z h1 h2=>?_,fun x y z h1 h2=>?_⟩
 ·rw [Bool.eq_false_iff];intro h;rw [zhe] at h;omega
 ·rw [zhe] at h1 h2 ⊢;omega
 ·rw [Bool.eq_false_iff] at h1 h2 ⊢
  intro h
  rw [zhe] at h
  by_cases k:zf4 l x < zf4 l y
  ·exact h1 (zhe.2 k)
  ·exact h2 (zhe.2 (by omega))
abbrev zgN (n:Nat):Array Int:=((List.range n).map fun (i:Nat)=>(i:Int)).toArray
def zfi (l:List Int) (n:Nat):Array Int:=Sort.insertionSort (ltK l) (zgN n) 0 n
theorem zkw (l:List Int) (n:Nat):(zfi l n).toList.Perm ((List.range n).map fun (i:Nat)=>(i:Int)):=by
 have hs:(zgN n).size=n:=by simp [zgN]
 obtain ⟨⟨h1,-,h2⟩,-⟩:=Sort.insertionSort_holds (lt:=ltK l) (zvr l) (zgN n) 0 n (Nat.zero_le _) (by omega)
 have e : ∀ X:Array Int,X.size=n→(X.extract 0 n).toList=X.toList:=fun X hX=>by subst hX;simp
 rw [e _ (h1.trans hs),e _ hs] at h2
 exact h2
def zgI (l:List Int) (n:Nat) (i:Nat):Nat:=(at0 (zfi l n).toList i).toNat
theorem zl3 (l:List Int) (n:Nat):(zfi l n).toList.length=n:=by rw [(zkw l n).length_eq];simp
theorem zpN {l:List Int} {n:Nat} {x:Int} (h:x∈(zfi l n).toList) : ∃ i:Nat,i < n∧x=(i:Int):=by
 rw [(zkw l n).mem_iff,List.mem_map] at h
 obtain ⟨i,hi,rfl⟩:=h
 exact ⟨i,List.mem_range.1 hi,rfl⟩
theorem zlt {l:List Int} {n i:Nat} (hi:i < n):(zfi l n).toList[i]? = some ((zgI l n i:Nat):Int):=by
 have hl:=zl3 l n
 have e:=List.getElem?_eq_getElem (l:=(zfi l n).toList) (i:=i) (by omega)
 obtain ⟨j,-,hj⟩:=zpN (List.mem_of_getElem? e)
 have h0:at0 (zfi l n).toList i=(zfi l n).toList[i]'(by omega):=znt e
 rw [e];unfold zgI;rw [h0,hj];rfl
theorem zpO (l:List Int) (n:Nat):Ren n (zgI l n):=by
 have hl:=zl3 l n
 have hnd:(zfi l n).toList.Nodup:=(zkw l n).nodup_iff.2 (by
  rw [List.Nodup,List.pairwise_map]
  exact List.Pairwise.imp (fun h e=>h (by omega)) List.nodup_range)
 refine ⟨fun i hi=>?_,fun i j hi hj e=>?_⟩
 ·obtain ⟨k,hk,e⟩:=zpN (List.mem_of_getElem? (zlt (l:=l) hi))
  omega
 ·have h1:=zlt (l:=l) hi
  have h2:=zlt (l:=l) hj
  rw [e] at h1
  exact (List.getElem?_inj (by omega) hnd).1 (h1.trans h2.symm)
noncomputable def toQ (l:List Int) (n:Nat):Nat→Nat:=zbd n (zgI l n)
theorem zma (l:List Int) (n:Nat):Ren n (toQ l n):=(zpO l n).inv
end Go.Ab
namespace Go.Ab
open Go Go.Proofs
set_option maxRecDepth 10000
set_option maxHeartbeats 4000000
variable {T:Nat→Obj→Prop}
theorem zo4 {m:KM} (hk0:zj m=0) {to:List Int} (hp:zbw to m.W.toNat=true):Fn Tryz.prog T zev [.d (dKM m),.own 0] [.row 1 (to.map (D.int .i64))] (.d (dKI (zgK m to))) [some (.row 1 (to.map (D.int .i64)))]:=by
 have cc:=zda (T:=T) m
 have hg0:=zB hk0
 have w1:=hg0.w1
 have w2:=hg0.w2
 have hlp:=(zcB.1 hp).1
 have h64:to.length≤64:=by omega
 have hW:m.W.toNat=to.length:=by omega
 rw [hk0] at cc
 refine z7 zF zg8 (by show 2≤61;decide) _ (fun e env mem n h=>h) ?_
 (repeat' ((conv=>whnf);first|refine vA ?_|refine vB fun b hb=>?_|refine vC (fun hl=>?_) fun i kv vv hi=>?_|refine vE ?_|refine vG ?_|refine vH ?_|((first|refine vD ?_ ?_|refine vF ?_ ?_|refine vI ?_ ?_)<;>intro hc<;>try simp only [vL] at hc)|refine vJ fun hg=>?_|refine vK fun hg=>?_|refine vT ?_|refine vN ‹_› ?_|(refine vQ ?_ fun x hx=>?_;·first|omega|(simp only [vM] at *;omega))|((first|refine vO ?_ ?_|refine vR ?_ ‹_› ?_|refine vS ?_ fun x hx=>?_|refine vP ?_ ?_);·first|omega|(simp only [vM] at *;omega))|refine vW ⟨by omega,by omega⟩ ?_|(refine vU ?_ ?_;·kernel_rfl)|refine vX ?_|refine vY ?_|refine vZ ?_|refine yD cc ⟨⟨rfl,rfl⟩,rfl⟩ rfl ?_|refine za.mk _ ‹_› ?_|refine vP (show (_:BitVec 64)≠_ by decide) ?_));all_goals try conv=>whnf
 ·exfalso;omega
 refine zq (fun ((k,s,zs):Nat×BitVec 64×List D)=>[(1,.own 0),(2,.ptr 1 0),(4,.ptr 2 0),(7,.own 3),(8,.d (.u64 (s))),(26,.own 0),(27,.d (.int .i64 ((to.map (D.int .i64)).length:Int))),(28,.d (.int .i64 ((k:Int)))),(zc,.own 0)]) (fun ((k,s,zs):Nat×BitVec 64×List D)=>[(0,some (.row 1 (to.map (D.int .i64)))),(1,some (zcd m)),(2,some (.box [.d (.int .i64 0),.nils 1,.nils 1])),(3,some (.row 1 zs))]) 4 (fun ((k,s,zs):Nat×BitVec 64×List D)=>zhA to k s zs) (fun ((k,s,zs):Nat×BitVec 64×List D)=>to.length - k) ((0,0#64,List.replicate (((to.map (D.int .i64)).length:Int)).toNat (D.int .i64 0))) [(0,0),(1,1),(2,2),(3,3)] [] (⟨by simp,by simp,by simp,by simp,by rw [List.length_map,Int.toNat_natCast,zaP];simp⟩) (by (refine ⟨rfl,rfl,rfl,?_,?_⟩;repeat' first|exact trivial|exact rfl|exact ⟨_,rfl⟩|exact .inl rfl|exact .inr (.inl ⟨rfl,rfl⟩)|exact .inr (.inr ⟨rfl,rfl⟩)|refine And.intro ?_ ?_|refine ⟨_,rfl,?_⟩|decide|exact of_decide_eq_true rfl)) ?_
 rintro ⟨k,s,zs⟩ hI
 have hle:=hI.le
 have hzl:zs.length=to.length:=by rw [hI.row];simp
 by_cases hkl:k < to.length
 ·obtain ⟨x,hx⟩ : ∃ x,to[k]? = some x:=⟨_,List.getElem?_eq_getElem hkl⟩
  have hno : ¬(x < 0∨(to.length:Int)≤x∨s.getLsbD x.toNat=true):=fun h=>by
   have:=hI.bad h64 hx h
   rw [hW,this] at hp;cases hp
  (repeat' ((conv=>whnf);first|refine vA ?_|refine vB fun b hb=>?_|refine vC (fun hl=>?_) fun i kv vv hi=>?_|refine vE ?_|refine vG ?_|refine vH ?_|((first|refine vD ?_ ?_|refine vF ?_ ?_|refine vI ?_ ?_)<;>intro hc<;>try simp only [vL] at hc)|refine vJ fun hg=>?_|refine vK fun hg=>?_|refine vT ?_|refine vN ‹_› ?_|(refine vQ ?_ fun x hx=>?_;·first|omega|(simp only [vM] at *;omega))|((first|refine vO ?_ ?_|refine vR ?_ ‹_› ?_|refine vS ?_ fun x hx=>?_|refine vP ?_ ?_);·first|omega|(simp only [vM] at *;omega))|refine vW ⟨by omega,by omega⟩ ?_|(refine vU ?_ ?_;·kernel_rfl)|refine vX ?_|refine vY ?_|refine vZ ?_|refine za.mk _ ‹_› ?_|refine vP (show (_:BitVec 64)≠_ by decide) ?_));all_goals try conv=>whnf
  ·exact absurd (.inl ‹_›) hno
  ·exact absurd (.inr (.inl ‹_›)) hno
  ·exact absurd (.inr (.inr ((zcj _ _).1 ‹_›))) hno
  ·obtain ⟨y,rfl⟩ : ∃ y:Nat,x=(y:Int):=⟨x.toNat,by omega⟩
   refine ⟨(k+1,_,_),[(0,0),(1,1),(2,2),(3,3)],[],?_,?_,by (refine ⟨rfl,rfl,rfl,?_,?_⟩;repeat' first|exact trivial|exact rfl|exact ⟨_,rfl⟩|exact .inl rfl|exact .inr (.inl ⟨rfl,rfl⟩)|exact .inr (.inr ⟨rfl,rfl⟩)|refine And.intro ?_ ?_|refine ⟨_,rfl,?_⟩|decide|exact of_decide_eq_true rfl)⟩
   ·exact hI.next h64 hkl hx (by omega) (by rw [← Bool.not_eq_true];exact fun h=>absurd ((zcj _ _).2 h) ‹¬_=(1:BitVec 64)›)
   ·(first|omega|(simp only [vM] at *;omega))
  ·omega
 ·have e0:k=to.length:=by omega
  subst e0
  obtain ⟨d1,d2⟩:=hI.done
  have ca:=zeQ (T:=T) hk0 (l:=zaL to to.length) (by rw [zdo];omega) (fun w hw=>by
   obtain ⟨i,hi,rfl⟩:=zeB hw
   rw [zdo] at hi
   have:=zn7 d1 hi;omega)
  have hz:zs=((zaL to to.length).map fun (x:Nat)=>(x:Int)).map (D.int .i64):=by rw [d2,List.map_map];rfl
  clear d2 hI
  subst hz
  rw [zgK,if_neg (by omega),if_pos hp,hW]
  (repeat' ((conv=>whnf);first|refine vA ?_|refine vB fun b hb=>?_|refine vC (fun hl=>?_) fun i kv vv hi=>?_|refine vE ?_|refine vG ?_|refine vH ?_|((first|refine vD ?_ ?_|refine vF ?_ ?_|refine vI ?_ ?_)<;>intro hc<;>try simp only [vL] at hc)|refine vJ fun hg=>?_|refine vK fun hg=>?_|refine vT ?_|refine vN ‹_› ?_|(refine vQ ?_ fun x hx=>?_;·first|omega|(simp only [vM] at *;omega))|((first|refine vO ?_ ?_|refine vR ?_ ‹_› ?_|refine vS ?_ fun x hx=>?_|refine vP ?_ ?_);·first|omega|(simp only [vM] at *;omega))|refine vW ⟨by omega,by omega⟩ ?_|(refine vU ?_ ?_;·kernel_rfl)|refine vX ?_|refine vY ?_|refine vZ ?_|refine yN ca ⟨⟨rfl,rfl⟩,⟨rfl,rfl⟩,rfl⟩ ?_|refine za.mk _ ‹_› ?_|refine vP (show (_:BitVec 64)≠_ by decide) ?_));all_goals try conv=>whnf
  all_goals try (exfalso;omega)
  refine ⟨trivial,_,[(0,0)],[],rfl,.inr (.inl ⟨_,rfl,rfl,by rfl⟩),⟨by rfl,by rfl,by rfl,trivial,by (repeat' first|exact trivial|exact rfl|exact ⟨_,rfl⟩|exact .inl rfl|exact .inr (.inl ⟨rfl,rfl⟩)|exact .inr (.inr ⟨rfl,rfl⟩)|refine And.intro ?_ ?_|refine ⟨_,rfl,?_⟩|decide|exact of_decide_eq_true rfl)⟩,by (repeat' first|exact trivial|exact rfl|exact ⟨_,rfl⟩|exact .inl rfl|exact .inr (.inl ⟨rfl,rfl⟩)|exact .inr (.inr ⟨rfl,rfl⟩)|refine And.intro ?_ ?_|refine ⟨_,rfl,?_⟩|decide|exact of_decide_eq_true rfl)⟩
end Go.Ab
namespace Go.Ab
open Go Go.Proofs
set_option maxRecDepth 10000
set_option maxHeartbeats 4000000
variable {T:Nat→Obj→Prop}
noncomputable def zfj (m:KM) (l:List Int):KM:=zx m (zaL (ptL m.W.toNat (toQ l m.W.toNat)) m.W.toNat)
theorem zrF {m:KM} (hk0:zj m=0) {l:List Int} : (zfj m l).W=m.W:=by
 have w1:=(zB hk0).w1
 show ((zaL _ _).length:Int)=m.W
 rw [zdo];omega
set_option maxHeartbeats 8000000 in
theorem zuY {m:KM} (hk0:zj m=0) (h19:m.W≤19) (l:List Int):Fn Tryz.prog T zdw [.d (dKM m),.d (dI l)] [] (.d (.tup [dKM (zfj m l),dI (ptL m.W.toNat (toQ l m.W.toNat)),.bool true])) []:=by
 have hg0:=zB hk0
 have w1:=hg0.w1
 have hsz:(zgN m.W.toNat).size=m.W.toNat:=by simp [zgN]
 have cs:=zqt (T:=T) l (zgN m.W.toNat) (fun x hx=>by
  simp [zgN] at hx;obtain ⟨i,-,rfl⟩:=hx;omega) (by omega)
 rw [hsz] at cs
 have hq:=zpO l m.W.toNat
 have hol:=zl3 l m.W.toNat
 have c3:=zo4 (T:=T) hk0 (zhn (zma l m.W.toNat))
 rw [zgK,if_neg (by omega),if_pos (zhn (zma l m.W.toNat))] at c3
 rw [show zgO (zgN m.W.toNat) = .row 1 (((List.range m.W.toNat).map fun (i:Nat)=>(i:Int)).map (D.int .i64)) from rfl,show Sort.insertionSort (ltK l) (zgN m.W.toNat) 0 m.W.toNat=zfi l m.W.toNat from rfl] at cs
 refine zp zF zgl (by show 2≤64;decide) ?_
 (repeat' ((conv=>whnf);first|refine vA ?_|refine vB fun b hb=>?_|refine vC (fun hl=>?_) fun i kv vv hi=>?_|refine vE ?_|refine vG ?_|refine vH ?_|((first|refine vD ?_ ?_|refine vF ?_ ?_|refine vI ?_ ?_)<;>intro hc<;>try simp only [vL] at hc)|refine vJ fun hg=>?_|refine vK fun hg=>?_|refine vT ?_|refine vN ‹_› ?_|(refine vQ ?_ fun x hx=>?_;·first|omega|(simp only [vM] at *;omega))|((first|refine vO ?_ ?_|refine vR ?_ ‹_› ?_|refine vS ?_ fun x hx=>?_|refine vP ?_ ?_);·first|omega|(simp only [vM] at *;omega))|refine vW ⟨by omega,by omega⟩ ?_|(refine vU ?_ ?_;·kernel_rfl)|refine vX ?_|refine vY ?_|refine vZ ?_|refine za.mk _ ‹_› ?_|refine vP (show (_:BitVec 64)≠_ by decide) ?_));all_goals try conv=>whnf
 refine zq (fun ((k,zs):Nat×List D)=>[(2,.ptr 0 0),(3,.ptr 1 0),(4,.ptr 2 0),(7,.own 3),(19,.d (.int .i64 (((List.replicate m.W.toNat (D.int .i64 0)).length:Int)))),(20,.d (.int .i64 ((k:Int))))]) (fun ((k,zs):Nat×List D)=>[(0,some (zcd m)),(1,some (.box [.d (dI l)])),(2,some (.box [.d (.int .i64 0),.nils 1,.nils 1])),(3,some (.row 1 zs))]) 4 (fun ((k,zs):Nat×List D)=>k≤m.W.toNat∧zs=(List.range m.W.toNat).map fun i=>D.int .i64 (if i < k then (i:Int) else 0)) (fun ((k,zs):Nat×List D)=>m.W.toNat - k) ((0,List.replicate m.W.toNat (D.int .i64 0))) [(0,0),(1,1),(2,2),(3,3)] [] (⟨by omega,by simp only [Nat.not_lt_zero,if_false];exact zaP _ _⟩) (by (refine ⟨rfl,rfl,rfl,?_,?_⟩;repeat' first|exact trivial|exact rfl|exact ⟨_,rfl⟩|exact .inl rfl|exact .inr (.inl ⟨rfl,rfl⟩)|exact .inr (.inr ⟨rfl,rfl⟩)|refine And.intro ?_ ?_|refine ⟨_,rfl,?_⟩|decide|exact of_decide_eq_true rfl)) ?_
 rintro ⟨k,zs⟩ ⟨hk,hz⟩
 subst hz
 by_cases hkl:k < m.W.toNat
 ·have er:(List.range m.W.toNat)[k]? = some k:=List.getElem?_range hkl
  (repeat' ((conv=>whnf);first|refine vA ?_|refine vB fun b hb=>?_|refine vC (fun hl=>?_) fun i kv vv hi=>?_|refine vE ?_|refine vG ?_|refine vH ?_|((first|refine vD ?_ ?_|refine vF ?_ ?_|refine vI ?_ ?_)<;>intro hc<;>try simp only [vL] at hc)|refine vJ fun hg=>?_|refine vK fun hg=>?_|refine vT ?_|refine vN ‹_› ?_|(refine vQ ?_ fun x hx=>?_;·first|omega|(simp only [vM] at *;omega))|((first|refine vO ?_ ?_|refine vR ?_ ‹_› ?_|refine vS ?_ fun x hx=>?_|refine vP ?_ ?_);·first|omega|(simp only [vM] at *;omega))|refine vW ⟨by omega,by omega⟩ ?_|(refine vU ?_ ?_;·kernel_rfl)|refine vX ?_|refine vY ?_|refine vZ ?_|refine za.mk _ ‹_› ?_|refine vP (show (_:BitVec 64)≠_ by decide) ?_));all_goals try conv=>whnf
  ·refine ⟨(k+1,_),[(0,0),(1,1),(2,2),(3,3)],[],?_,?_,by (refine ⟨rfl,rfl,rfl,?_,?_⟩;repeat' first|exact trivial|exact rfl|exact ⟨_,rfl⟩|exact .inl rfl|exact .inr (.inl ⟨rfl,rfl⟩)|exact .inr (.inr ⟨rfl,rfl⟩)|refine And.intro ?_ ?_|refine ⟨_,rfl,?_⟩|decide|exact of_decide_eq_true rfl)⟩
   ·refine ⟨by omega,(zd3 _).trans (zQ fun u hu=>?_)⟩
    show (if u=k then _ else _)=_
    by_cases e:u=k
    ·subst e;rw [if_pos rfl,if_pos (by omega)]
    ·rw [if_neg e]
     by_cases e2:u < k
     ·rw [if_pos e2,if_pos (by omega)]
     ·rw [if_neg e2,if_neg (by omega)]
   ·(first|omega|(simp only [vM] at *;omega))
  all_goals (exfalso;omega)
 ·have hzz:((List.range m.W.toNat).map fun i=>D.int .i64 (if i < k then (i:Int) else 0))=((List.range m.W.toNat).map fun (i:Nat)=>(i:Int)).map (D.int .i64):=by
   rw [List.map_map];exact zQ fun u hu=>by rw [if_pos (by omega)];rfl
  rw [hzz]
  (repeat' ((conv=>whnf);first|refine vA ?_|refine vB fun b hb=>?_|refine vC (fun hl=>?_) fun i kv vv hi=>?_|refine vE ?_|refine vG ?_|refine vH ?_|((first|refine vD ?_ ?_|refine vF ?_ ?_|refine vI ?_ ?_)<;>intro hc<;>try simp only [vL] at hc)|refine vJ fun hg=>?_|refine vK fun hg=>?_|refine vT ?_|refine vN ‹_› ?_|(refine vQ ?_ fun x hx=>?_;·first|omega|(simp only [vM] at *;omega))|((first|refine vO ?_ ?_|refine vR ?_ ‹_› ?_|refine vS ?_ fun x hx=>?_|refine vP ?_ ?_);·first|omega|(simp only [vM] at *;omega))|refine vW ⟨by omega,by omega⟩ ?_|(refine vU ?_ ?_;·kernel_rfl)|refine vX ?_|refine vY ?_|refine vZ ?_|refine za.mk _ ‹_› ?_|refine vP (show (_:BitVec 64)≠_ by decide) ?_));all_goals try conv=>whnf
  ·exfalso;omega
  refine zah.objsZ [3] [4,1] cs (by (repeat' first|exact trivial|exact rfl|exact ⟨_,rfl⟩|exact .inl rfl|exact .inr (.inl ⟨rfl,rfl⟩)|exact .inr (.inr ⟨rfl,rfl⟩)|refine And.intro ?_ ?_|refine ⟨_,rfl,?_⟩|decide|exact of_decide_eq_true rfl)) (by (repeat' first|exact trivial|exact rfl|exact ⟨_,rfl⟩|exact .inl rfl|exact .inr (.inl ⟨rfl,rfl⟩)|exact .inr (.inr ⟨rfl,rfl⟩)|refine And.intro ?_ ?_|refine ⟨_,rfl,?_⟩|decide|exact of_decide_eq_true rfl)) (by rfl) (by rfl) (by kernel_rfl) (by kernel_rfl) (by simp) ?_
  (repeat' ((conv=>whnf);first|refine vA ?_|refine vB fun b hb=>?_|refine vC (fun hl=>?_) fun i kv vv hi=>?_|refine vE ?_|refine vG ?_|refine vH ?_|((first|refine vD ?_ ?_|refine vF ?_ ?_|refine vI ?_ ?_)<;>intro hc<;>try simp only [vL] at hc)|refine vJ fun hg=>?_|refine vK fun hg=>?_|refine vT ?_|refine vN ‹_› ?_|(refine vQ ?_ fun x hx=>?_;·first|omega|(simp only [vM] at *;omega))|((first|refine vO ?_ ?_|refine vR ?_ ‹_› ?_|refine vS ?_ fun x hx=>?_|refine vP ?_ ?_);·first|omega|(simp only [vM] at *;omega))|refine vW ⟨by omega,by omega⟩ ?_|(refine vU ?_ ?_;·kernel_rfl)|refine vX ?_|refine vY ?_|refine vZ ?_|refine za.mk _ ‹_› ?_|refine vP (show (_:BitVec 64)≠_ by decide) ?_));all_goals try conv=>whnf
  refine zq (fun ((k,zs):Nat×List D)=>[(2,.ptr 0 0),(4,.ptr 1 0),(10,.own 2),(35,.own 3),(36,.d (.int .i64 (((zfi l m.W.toNat).toList.map (D.int .i64)).length:Int))),(37,.d (.int .i64 ((k:Int))))]) (fun ((k,zs):Nat×List D)=>[(0,some (zcd m)),(1,some (.box [.d (.int .i64 0),.nils 1,.nils 1])),(2,some (.row 1 zs)),(3,some (zgO (zfi l m.W.toNat)))]) 4 (fun ((k,zs):Nat×List D)=>k≤m.W.toNat∧zs=(List.range m.W.toNat).map fun i=>D.int .i64 (if toQ l m.W.toNat i < k then (toQ l m.W.toNat i:Int) else 0)) (fun ((k,zs):Nat×List D)=>m.W.toNat - k) ((0,List.replicate m.W.toNat (D.int .i64 0))) [(0,0),(1,2),(2,5),(3,3)] [] (⟨by omega,by simp only [Nat.not_lt_zero,if_false];exact zaP _ _⟩) (by (refine ⟨rfl,rfl,rfl,?_,?_⟩;repeat' first|exact trivial|exact rfl|exact ⟨_,rfl⟩|exact .inl rfl|exact .inr (.inl ⟨rfl,rfl⟩)|exact .inr (.inr ⟨rfl,rfl⟩)|refine And.intro ?_ ?_|refine ⟨_,rfl,?_⟩|decide|exact of_decide_eq_true rfl)) ?_
  clear hzz hkl hk
  rintro ⟨k,zs⟩ ⟨hk,hz⟩
  subst hz
  by_cases hkl:k < m.W.toNat
  ·have e1:=zlt (l:=l) hkl
   have hqk:=hq.lt k hkl
   have er:(List.range m.W.toNat)[zgI l m.W.toNat k]? = some (zgI l m.W.toNat k):=List.getElem?_range hqk
   (repeat' ((conv=>whnf);first|refine vA ?_|refine vB fun b hb=>?_|refine vC (fun hl=>?_) fun i kv vv hi=>?_|refine vE ?_|refine vG ?_|refine vH ?_|((first|refine vD ?_ ?_|refine vF ?_ ?_|refine vI ?_ ?_)<;>intro hc<;>try simp only [vL] at hc)|refine vJ fun hg=>?_|refine vK fun hg=>?_|refine vT ?_|refine vN ‹_› ?_|(refine vQ ?_ fun x hx=>?_;·first|omega|(simp only [vM] at *;omega))|((first|refine vO ?_ ?_|refine vR ?_ ‹_› ?_|refine vS ?_ fun x hx=>?_|refine vP ?_ ?_);·first|omega|(simp only [vM] at *;omega))|refine vW ⟨by omega,by omega⟩ ?_|(refine vU ?_ ?_;·kernel_rfl)|refine vX ?_|refine vY ?_|refine vZ ?_|refine za.mk _ ‹_› ?_|refine vP (show (_:BitVec 64)≠_ by decide) ?_));all_goals try conv=>whnf
   ·refine ⟨(k+1,_),[(0,0),(1,1),(2,2),(3,3)],[],?_,?_,by (refine ⟨rfl,rfl,rfl,?_,?_⟩;repeat' first|exact trivial|exact rfl|exact ⟨_,rfl⟩|exact .inl rfl|exact .inr (.inl ⟨rfl,rfl⟩)|exact .inr (.inr ⟨rfl,rfl⟩)|refine And.intro ?_ ?_|refine ⟨_,rfl,?_⟩|decide|exact of_decide_eq_true rfl)⟩
    ·refine ⟨by omega,(zd3 _).trans (zQ fun u hu=>?_)⟩
     show (if u=zgI l m.W.toNat k then _ else _)=_
     unfold toQ
     by_cases e:u=zgI l m.W.toNat k
     ·subst e
      rw [if_pos rfl,zdO hq hkl,if_pos (by omega)]
     ·rw [if_neg e]
      have hne:zbd m.W.toNat (zgI l m.W.toNat) u≠k:=fun e'=>e (by rw [← e'];exact (zce hq hu).2.symm)
      by_cases e2:zbd m.W.toNat (zgI l m.W.toNat) u < k
      ·rw [if_pos e2,if_pos (by omega)]
      ·rw [if_neg e2,if_neg (by omega)]
    ·(first|omega|(simp only [vM] at *;omega))
   all_goals (exfalso;omega)
  ·have hzz:((List.range m.W.toNat).map fun i=>D.int .i64 (if toQ l m.W.toNat i < k then (toQ l m.W.toNat i:Int) else 0))=(ptL m.W.toNat (toQ l m.W.toNat)).map (D.int .i64):=by
    unfold ptL
    rw [List.map_map];exact zQ fun u hu=>by rw [if_pos (by have:=(zma l m.W.toNat).lt u hu;omega)];rfl
   rw [hzz]
   (repeat' ((conv=>whnf);first|refine vA ?_|refine vB fun b hb=>?_|refine vC (fun hl=>?_) fun i kv vv hi=>?_|refine vE ?_|refine vG ?_|refine vH ?_|((first|refine vD ?_ ?_|refine vF ?_ ?_|refine vI ?_ ?_)<;>intro hc<;>try simp only [vL] at hc)|refine vJ fun hg=>?_|refine vK fun hg=>?_|refine vT ?_|refine vN ‹_› ?_|(refine vQ ?_ fun x hx=>?_;·first|omega|(simp only [vM] at *;omega))|((first|refine vO ?_ ?_|refine vR ?_ ‹_› ?_|refine vS ?_ fun x hx=>?_|refine vP ?_ ?_);·first|omega|(simp only [vM] at *;omega))|refine vW ⟨by omega,by omega⟩ ?_|(refine vU ?_ ?_;·kernel_rfl)|refine vX ?_|refine vY ?_|refine vZ ?_|refine za.mk _ ‹_› ?_|refine vP (show (_:BitVec 64)≠_ by decide) ?_));all_goals try conv=>whnf
   ·exfalso;omega
   refine zah.objs [2] c3 (by (repeat' first|exact trivial|exact rfl|exact ⟨_,rfl⟩|exact .inl rfl|exact .inr (.inl ⟨rfl,rfl⟩)|exact .inr (.inr ⟨rfl,rfl⟩)|refine And.intro ?_ ?_|refine ⟨_,rfl,?_⟩|decide|exact of_decide_eq_true rfl)) (by (repeat' first|exact trivial|exact rfl|exact ⟨_,rfl⟩|exact .inl rfl|exact .inr (.inl ⟨rfl,rfl⟩)|exact .inr (.inr ⟨rfl,rfl⟩)|refine And.intro ?_ ?_|refine ⟨_,rfl,?_⟩|decide|exact of_decide_eq_true rfl)) (by rfl) (by kernel_rfl) (by simp) ?_
   (repeat' ((conv=>whnf);first|refine vA ?_|refine vB fun b hb=>?_|refine vC (fun hl=>?_) fun i kv vv hi=>?_|refine vE ?_|refine vG ?_|refine vH ?_|((first|refine vD ?_ ?_|refine vF ?_ ?_|refine vI ?_ ?_)<;>intro hc<;>try simp only [vL] at hc)|refine vJ fun hg=>?_|refine vK fun hg=>?_|refine vT ?_|refine vN ‹_› ?_|(refine vQ ?_ fun x hx=>?_;·first|omega|(simp only [vM] at *;omega))|((first|refine vO ?_ ?_|refine vR ?_ ‹_› ?_|refine vS ?_ fun x hx=>?_|refine vP ?_ ?_);·first|omega|(simp only [vM] at *;omega))|refine vW ⟨by omega,by omega⟩ ?_|(refine vU ?_ ?_;·kernel_rfl)|refine vX ?_|refine vY ?_|refine vZ ?_|refine za.mk _ ‹_› ?_|refine vP (show (_:BitVec 64)≠_ by decide) ?_));all_goals try conv=>whnf
   exact congrArg (fun b=>some (D.tup [dKM (zfj m l),dI (ptL m.W.toNat (toQ l m.W.toNat)),D.bool b])) (decide_eq_true (zrF (l:=l) hk0))
end Go.Ab
namespace Go.Ab
open Go Go.Proofs
set_option maxRecDepth 10000
set_option maxHeartbeats 4000000
variable {T:Nat→Obj→Prop}
theorem zmB {m:KM} {l:List Nat} (h2:l.length≤64):(zde (zx m l) (-1)).2=(zb9 l.length (zbl l (zw m)) (fun i=>[[1],[zdq l (zay m) i]])).2:=by
 have hid:Ren l.length fun w=>w:=⟨fun _ h=>h,fun _ _ _ _ h=>h⟩
 have:=zhq hid (zns h2 (m:=m)) (first:=fun i=>[[1],[zdq l (zay m) i]]) (first':=mkT (zx m l) (-1)) fun i hi=>by
  unfold mkT
  rw [if_neg (by omega),zlM h2 hi]
 unfold zde
 rw [show (zx m l).W.toNat=l.length from Int.toNat_natCast _]
 exact this.2.2.2
theorem zmi {m:KM} (hk0:zj m=0) {w:Nat} (hw:w < m.W.toNat) (hmin:zel (zx m (zY m.W.toNat (zw m) w))=true):Ren (zY m.W.toNat (zw m) w).length (zaW (zY m.W.toNat (zw m) w) (zw m) (zay m) w).1:=by
 have w2:=(zB hk0).w2
 have hl:(zY m.W.toNat (zw m) w).length≤64:=by have:=zg4 (n:=m.W.toNat) (R:=zw m) (w:=w);omega
 have hp:=zol (m:=m) (zbT m.W.toNat (zw m) w) hl (zew hw)
 have hq:=zpJ hmin ((zY m.W.toNat (zw m) w).idxOf w:Int)
 rw [show (zx m (zY m.W.toNat (zw m) w)).W.toNat=(zY m.W.toNat (zw m) w).length from Int.toNat_natCast _] at hq
 exact ⟨fun i hi=>(hp.1 i hi)▸hq.lt i hi,fun i j hi hj e=>hq.inj i j hi hj (((hp.1 i hi).trans e).trans (hp.1 j hj).symm)⟩
theorem zsT {m r:KM} (hw2:m.W≤64) {f:Nat→Nat} (hi:ze7 m.W.toNat (zay m) (zay r) (zw m) (zw r) f) {w:Nat} (hw:w < m.W.toNat) :
  zel (zx r (zY m.W.toNat (zw r) (f w)))=zel (zx m (zY m.W.toNat (zw m) w)):=by
 have hl:=zg4 (n:=m.W.toNat) (R:=zw m) (w:=w)
 have hm:=zpE hi hw
 have hfa : ∀ x,x∈zY m.W.toNat (zw m) w→zay r (f x)=zay m x:=fun x hx=>hi.fac x (zau.1 hx).lt
 have hR : ∀ (i:Nat) (s s':Nat→Nat→Bool),(zw m)[i]? = some s→(zw r)[i]? = some s' → ∀ x y,x∈zY m.W.toNat (zw m) w→y∈zY m.W.toNat (zw m) w→s' (f x) (f y)=s x y :=
  fun i s s' h1 h2 x y hx hy=>hi.rel.rel i s s' h1 h2 x y (zau.1 hx).lt (zau.1 hy).lt
 obtain ⟨hlen,g,h1,h2,-,-⟩:=zl0 (fa:=zay m) (fb:=zay r) (R:=zw m) (R2:=zw r) (root:=w) (root2:=f w) (zbT _ _ _) (zbT _ _ _) hm (fun x y hx hy e=>hi.ren.inj x y (zau.1 hx).lt (zau.1 hy).lt e) hfa hi.rel.len hR (zew hw) rfl
 generalize zY m.W.toNat (zw m) w=l at hl hfa hR hlen h1 h2
 generalize zY m.W.toNat (zw r) (f w)=l2 at hlen h2
 have hRR:ze8 l.length g (zbl l (zw m)) (zbl l2 (zw r)):=by
  refine ⟨by simp [zbl,hi.rel.len],fun i s s' e1 e2 v u hv hu=>?_⟩
  unfold zbl at e1 e2
  rw [List.getElem?_map,Option.map_eq_some_iff] at e1 e2
  obtain ⟨t,ht,rfl⟩:=e1
  obtain ⟨t',ht',rfl⟩:=e2
  show t' (l2.getD (g v) 0) (l2.getD (g u) 0)=_
  rw [h2 v hv,h2 u hu]
  exact hR i t t' ht ht' _ _ (zaB hv) (zaB hu)
 have:=zhq h1 hRR (first:=fun i=>[[1],[zdq l (zay m) i]]) (first':=fun i=>[[1],[zdq l2 (zay r) i]]) fun i hi'=>by
  unfold zdq
  rw [h2 i hi',hfa _ (zaB hi')]
 unfold zel
 rw [zmB (by omega),zmB (by omega),show (zx r l2).W.toNat=l2.length from Int.toNat_natCast _,show (zx m l).W.toNat=l.length from Int.toNat_natCast _,hlen,this.2.2.2]
theorem zpt {m:KM} (hk0:zj m=0) {w:Nat} (hw:w < m.W.toNat):zdS m (w:Int)=if zel (zx m (zY m.W.toNat (zw m) w))=false then (ze6,[],16) else (zx m (za5 m w),(za5 m w).map fun (x:Nat)=>(x:Int),0):=by
 rw [zdS,if_neg (by omega),if_neg (by omega),Int.toNat_natCast]
theorem zsO {n:Nat} {f:Nat→Nat} (hf:Ren n f) {c:List Nat} (hc : ∀ x∈c,x < n):(c.map f).map (fun i=>(zaL (ptL n f) n).getD i 0)=c:=by
 rw [List.map_map]
 refine (List.map_congr_left fun x hx=>?_).trans (List.map_id c)
 show (zaL (ptL n f) n).getD (f x) 0=x
 rw [zro hf (hf.lt x (hc x hx)),zdO hf (hc x hx)]
section
variable {m:KM} (hk0:zj m=0) (l:List Int) {w:Nat} (hw:w < m.W.toNat)
include hk0 hw
theorem ztS (hmin:zel (zx m (zY m.W.toNat (zw m) w))=true) : ∀ x∈za5 m w,x < m.W.toNat:=fun x hx=>by
 obtain ⟨-,-,h3,-⟩:=zq6 (zbT _ _ _) (zew hw) (zmi hk0 hw hmin)
 exact (zau.1 ((h3 x).1 hx)).lt
theorem zvi (hi:ze7 m.W.toNat (zay m) (zay (zfj m l)) (zw m) (zw (zfj m l)) (toQ l m.W.toNat)) (hr0:zj (zfj m l)=0) :
  (zdS (zfj m l) (toQ l m.W.toNat w:Nat)).1=(zdS m (w:Int)).1∧(zdS (zfj m l) (toQ l m.W.toNat w:Nat)).2.2=(zdS m (w:Int)).2.2∧(zdS (zfj m l) (toQ l m.W.toNat w:Nat)).2.1.length=(zdS m (w:Int)).2.1.length:=by
 have hg0:=zB hk0
 have w1:=hg0.w1;have w2:=hg0.w2
 have hrW:=zrF hk0 (l:=l)
 have hfw:=hi.ren.lt w hw
 have hB:=zsT w2 hi hw
 rw [zpt hk0 hw,zpt hr0 (w:=toQ l m.W.toNat w) (by rw [hrW];exact hfw),hrW,hB]
 cases hmin:zel (zx m (zY m.W.toNat (zw m) w)) with
 | false=>rw [if_pos rfl,if_pos rfl];exact ⟨rfl,rfl,rfl⟩
 | true =>
  rw [if_neg (by decide),if_neg (by decide)]
  have hcan:za5 (zfj m l) (toQ l m.W.toNat w)=(za5 m w).map (toQ l m.W.toNat):=by
   unfold za5
   rw [hrW]
   exact ztT hi hw (zmi hk0 hw hmin)
  have hlt:=ztS hk0 hw hmin
  have hcl:(za5 m w).length≤m.W.toNat:=by
   have h1:(za5 m w).length=(zY m.W.toNat (zw m) w).length:=by unfold za5 zak;simp
   rw [h1];exact zg4
  refine ⟨?_,rfl,by rw [hcan];simp⟩
  show zx (zfj m l) (za5 (zfj m l) (toQ l m.W.toNat w))=zx m (za5 m w)
  rw [hcan]
  show zx (zx m (zaL (ptL m.W.toNat (toQ l m.W.toNat)) m.W.toNat)) _=_
  rw [zpn (by rw [zdo];omega) (by rw [List.length_map];omega) (fun x hx=>by
   rw [zdo]
   obtain ⟨y,hy,rfl⟩:=List.mem_map.1 hx
   exact hi.ren.lt y (hlt y hy)),zsO hi.ren hlt]
end
end Go.Ab
