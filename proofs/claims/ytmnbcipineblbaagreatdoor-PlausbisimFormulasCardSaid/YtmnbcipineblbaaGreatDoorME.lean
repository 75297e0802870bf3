/- A part of the proofs of this seat: functions and their contracts. -/
import Derived.Test.YtmnbcipineblbaaGreatDoorMD
import Derived.WalkKit
import Derived.Maps.OwnRows
import Derived.Maps.RangeRun
import Derived.Sort.LotD4
import Derived.Shelf.Sort.Plain
import Derived.Sort.OwnSortedInts
import Derived.Sort.AssemblyPlain
import Derived.Deep.RegionLaw
import Derived.Deep.AppendLies
import Derived.Deep.DrawnRows
set_option linter.unusedVariables false
set_option linter.unusedSimpArgs false
set_option linter.unusedSectionVars false
namespace Go.Ab
open Go Go.Proofs Go.MapKept
abbrev GI := List (Int × List Int)
theorem zu2 : ∀ (l : List MapEntry) (ks : List Int) (i : Nat) (c : Int), ks.length = l.length → (∀ j, j < ks.length → (l.getD j default).key = .int .i64 (ks.getD j 0)) →
    (c ∉ ks ∧ Instr.findNow (.int .i64) (.int .i64 c) l i = some none) ∨ ∃ j, j < ks.length ∧ ks.getD j 0 = c ∧ Instr.findNow (.int .i64) (.int .i64 c) l i = some (some (i + j, (l.getD j default).val))
  | [], [], i, c, _, _ => .inl ⟨by simp, rfl⟩
  | [], _ :: _, _, _, h, _ => by simp at h
  | _ :: _, [], _, _, h, _ => by simp at h
  | e :: l, k :: ks, i, c, h, hk => by
    have h0 : e.key = .int .i64 k := by simpa using hk 0 (by simp)
    have hs : Instr.sameNow (.int .i64) (.int .i64 c) e.key = some (decide (c = k)) := by rw [h0]; simp [Instr.sameNow, zjI]
    by_cases hc : c = k
    · refine .inr ⟨0, by simp, by simp [hc], ?_⟩
      subst hc
      simp [Instr.findNow, hs]
    · rcases zu2 l ks (i + 1) c (by simpa using h) (fun j hj => by simpa using hk (j + 1) (by simpa using hj)) with ⟨h1, h2⟩ | ⟨j, h1, h2, h3⟩
      · exact .inl ⟨by simp [hc, h1], by simp [Instr.findNow, hs, hc, h2]⟩
      · exact .inr ⟨j + 1, by simpa using h1, by simpa using h2, by simp [Instr.findNow, hs, hc, h3]; omega⟩
theorem ztB {w : World} {m : Nat} {es : Array MapEntry} {clock : Nat} (hm : w.heap[m]? = some (.map es clock)) {c : Int} {v : Value} {r : Option (Nat × Value)} (hf : Instr.findNow (.int .i64) (.int .i64 c) es.toList 0 = some r)
    (hr : ∀ j u, r = some (j, u) → j < es.size ∧ (es.getD j default).key = .int .i64 c) :
    (Instr.mapUpdate 90 (.map (some m)) (.int .i64 c) v).run Tryz.prog w = .ok () { w with heap := w.heap.setIfInBounds m (match r with
      | none => .map (es.push { key := .int .i64 c, val := v, born := clock }) (clock + 1)
      | some p => .map (es.modify p.1 fun e => { e with key := .int .i64 c, val := v }) clock) } := by
  have hik : IsKey (.int .i64) (.int .i64 c) := rfl
  have hck := fun b => run_checkKey (w := w) Tryz.underlying3 hik b 9999
  have hfk := run_findKey (w := w) Tryz.underlying3 hf
  cases r with
  | none =>
    have hset := run_setObj_map (P := Tryz.prog) (.map (es.push { key := .int .i64 c, val := v, born := clock }) (clock + 1)) hm
    simp [Instr.mapUpdate, run_underlying Tryz.underlying90, zbX hm, hck, hfk, hset]
  | some p =>
    obtain ⟨j, u⟩ := p
    obtain ⟨hj, hkj⟩ := hr j u rfl
    have hold : ((es[j]?).map (·.key)).getD (.int .i64 c) = .int .i64 c := by
      rw [← hkj]; simp [Array.getD_eq_getD_getElem?, hj]
    have hset := run_setObj_map (P := Tryz.prog) (.map (es.modify j fun e => { e with key := .int .i64 c, val := v }) clock) hm
    simp [Instr.mapUpdate, run_underlying Tryz.underlying90, zbX hm, hck, hfk, hold, Instr.keyThatStays, zpa hik, hset]
structure Grp (O : World → Value → Nat → List Int → Prop) (w : World) (m : Nat) (gs : GI) (es : Array MapEntry) (clock : Nat) (blk : Nat → Nat) : Prop where
  heap : w.heap[m]? = some (.map es clock)
  st : zfR es clock
  size : es.size = gs.length
  key : ∀ i, i < gs.length → (es.getD i default).key = .int .i64 (gs.getD i default).1
  val : ∀ i, i < gs.length → O w (es.getD i default).val (blk i) (gs.getD i default).2
  apart : ∀ i j, i < gs.length → j < gs.length → blk i = blk j → i = j
section
variable {O : World → Value → Nat → List Int → Prop} {w : World} {m : Nat} {gs : GI} {es : Array MapEntry} {clock : Nat} {blk : Nat → Nat}
theorem Grp.find (h : Grp O w m gs es clock blk) (c : Int) : (c ∉ gs.map Prod.fst ∧ Instr.findNow (.int .i64) (.int .i64 c) es.toList 0 = some none) ∨
    ∃ j, j < gs.length ∧ (gs.getD j default).1 = c ∧ Instr.findNow (.int .i64) (.int .i64 c) es.toList 0 = some (some (j, (es.getD j default).val)) := by
  have hg : ∀ j, j < gs.length → (gs.map Prod.fst).getD j 0 = (gs.getD j default).1 := fun j hj => by simp [List.getD, hj]
  rcases zu2 es.toList (gs.map Prod.fst) 0 c (by simp [h.size]) (fun j hj => by
    rw [List.length_map] at hj
    rw [zcf, h.key j hj, hg j hj]) with h1 | ⟨j, h1, h2, h3⟩
  · exact .inl h1
  · rw [List.length_map] at h1
    rw [hg j h1] at h2
    refine .inr ⟨j, h1, h2, ?_⟩
    rw [h3, Nat.zero_add, zcf]
theorem zl2 {P : Program} {w : World} {t kt e : TypeId} {d : TypeDesc} {kv : Value} (ht : P.underlying t = some (.map kt e)) (hkd : P.underlying kt = some d) (hik : IsKey d kv) {zv : Value} (hz : ∀ w, (zeroValue e).run P w = .ok zv w)
    {ok : Bool} {m : Nat} {ents : Array MapEntry} {clock : Nat} (hm : w.heap[m]? = some (.map ents clock)) {r : Option (Nat × Value)} (hf : Instr.findNow d kv ents.toList 0 = some r) :
    (Instr.lookup t (.map (some m)) kv ok).run P w = .ok (if ok then .tuple #[zeE r zv, .bool r.isSome] else zeE r zv) w := by
  have hfk := run_findKey (w := w) hkd hf
  have hck : ∀ b, (Instr.checkKey b 10000 kt kv).run P w = .ok () w := fun b => run_checkKey hkd hik b 9999
  cases r with
  | none => simp [Instr.lookup, run_underlying ht, zbX hm, hck, hfk, hz, zeE]
  | some p => obtain ⟨i, v⟩ := p; simp [Instr.lookup, run_underlying ht, zbX hm, hck, hfk, zeE]
theorem zx1 {w : World} {m : Nat} {es : Array MapEntry} {clock : Nat} (h : w.heap[m]? = some (.map es clock)) {c : Int} (hf : Instr.findNow (.int .i64) (.int .i64 c) es.toList 0 = some none) : (Instr.lookup 90 (.map (some m)) (.int .i64 c) false).run Tryz.prog w = .ok (.slice none 0 0) w := by
  have hz : ∀ w, (zeroValue 28).run Tryz.prog w = .ok (.slice none 0 0) w := fun w => by kernel_rfl
  simpa [zeE] using zl2 (ok := false) Tryz.underlying90 Tryz.underlying3 (show IsKey (.int .i64) (.int .i64 c) from rfl) hz h hf
theorem zx2 {w : World} {m : Nat} {es : Array MapEntry} {clock : Nat} (h : w.heap[m]? = some (.map es clock)) {c : Int} {j : Nat} {v : Value} (hf : Instr.findNow (.int .i64) (.int .i64 c) es.toList 0 = some (some (j, v))) : (Instr.lookup 90 (.map (some m)) (.int .i64 c) false).run Tryz.prog w = .ok v w := by
  have hz : ∀ w, (zeroValue 28).run Tryz.prog w = .ok (.slice none 0 0) w := fun w => by kernel_rfl
  simpa [zeE] using zl2 (ok := false) Tryz.underlying90 Tryz.underlying3 (show IsKey (.int .i64) (.int .i64 c) from rfl) hz h hf
theorem zvk {i j : Nat} {x : Int × List Int} (hi : i < gs.length) : (gs.set i x).getD j default = if j = i then x else gs.getD j default := by
  by_cases h : j = i
  · subst h; simp [List.getD, hi]
  · rw [if_neg h]; simp [List.getD, Ne.symm h]
theorem zvj {j : Nat} {x : Int × List Int} (hj : j < gs.length + 1) : (gs ++ [x]).getD j default = if j = gs.length then x else gs.getD j default := by
  by_cases h : j = gs.length
  · subst h; simp [List.getD]
  · rw [if_neg h]; simp [List.getD, List.getElem?_append_left (show j < gs.length by omega)]
theorem Grp.set {w1 : World} (h : Grp O w m gs es clock blk) {c : Int} {i : Nat} {u v : Value} {g : Nat} {zs : List Int} (hi : i < gs.length) (hc : (gs.getD i default).1 = c)
    (hf : Instr.findNow (.int .i64) (.int .i64 c) es.toList 0 = some (some (i, u))) (hm : w1.heap[m]? = some (.map es clock))
    (hv : ∀ o, O { w1 with heap := w1.heap.setIfInBounds m o } v g zs)
    (ho : ∀ o j, j < gs.length → j ≠ i → O { w1 with heap := w1.heap.setIfInBounds m o } (es.getD j default).val (blk j) (gs.getD j default).2) (hg : ∀ j, j < gs.length → j ≠ i → blk j ≠ g) :
    ∃ es', (Instr.mapUpdate 90 (.map (some m)) (.int .i64 c) v).run Tryz.prog w1 = .ok () { w1 with heap := w1.heap.setIfInBounds m (.map es' clock) } ∧
      Grp O { w1 with heap := w1.heap.setIfInBounds m (.map es' clock) } m (gs.set i (c, zs)) es' clock (fun j => if j = i then g else blk j) ∧ ∀ j, j < gs.length → (es'.getD j default).born = (es.getD j default).born := by
  have hj : i < es.size := by rw [h.size]; exact hi
  have hmod : ∀ j, (es.modify i fun e => { e with key := .int .i64 c, val := v }).getD j default = if j = i then { key := .int .i64 c, val := v, born := (es.getD i default).born } else es.getD j default := fun j => zp9 hj
  refine ⟨es.modify i fun e => { e with key := .int .i64 c, val := v }, ztB hm hf (fun j u' e => ?_), ⟨?_, ?_, ?_, fun j hj' => ?_, fun j hj' => ?_, fun j k hj' hk' e => ?_⟩, fun j hj' => ?_⟩
  · cases e; exact ⟨hj, by rw [h.key i hi, hc]⟩
  · simp [zj hm]
  · refine ⟨fun p q hp hq he => ?_, fun p hp => ?_⟩
    · simp only [Array.size_modify] at hp hq
      rw [hmod, hmod] at he
      refine h.st.inj p q hp hq ?_
      split at he <;> split at he <;> simp_all
    · simp only [Array.size_modify] at hp
      rw [hmod p]
      by_cases e : p = i
      · rw [if_pos e]; exact h.st.lt i hj
      · rw [if_neg e]; exact h.st.lt p hp
  · simp [h.size]
  · rw [List.length_set] at hj'
    rw [hmod, zvk hi]
    split
    · rfl
    · exact h.key j hj'
  · rw [List.length_set] at hj'
    rw [hmod, zvk hi]
    split
    · exact hv _
    · exact ho _ j hj' ‹_›
  · rw [List.length_set] at hj' hk'
    by_cases e1 : j = i <;> by_cases e2 : k = i
    · omega
    · rw [if_pos e1, if_neg e2] at e; exact absurd e.symm (hg k hk' e2)
    · rw [if_neg e1, if_pos e2] at e; exact absurd e (hg j hj' e1)
    · rw [if_neg e1, if_neg e2] at e; exact h.apart j k hj' hk' e
  · rw [hmod j]
    by_cases e : j = i
    · rw [if_pos e, e]
    · rw [if_neg e]
theorem Grp.add {w1 : World} (h : Grp O w m gs es clock blk) {c : Int} {v : Value} {g : Nat} {zs : List Int}
    (hf : Instr.findNow (.int .i64) (.int .i64 c) es.toList 0 = some none) (hm : w1.heap[m]? = some (.map es clock))
    (hv : ∀ o, O { w1 with heap := w1.heap.setIfInBounds m o } v g zs)
    (ho : ∀ o j, j < gs.length → O { w1 with heap := w1.heap.setIfInBounds m o } (es.getD j default).val (blk j) (gs.getD j default).2) (hg : ∀ j, j < gs.length → blk j ≠ g) :
    ∃ es', (Instr.mapUpdate 90 (.map (some m)) (.int .i64 c) v).run Tryz.prog w1 = .ok () { w1 with heap := w1.heap.setIfInBounds m (.map es' (clock + 1)) } ∧
      Grp O { w1 with heap := w1.heap.setIfInBounds m (.map es' (clock + 1)) } m (gs ++ [(c, zs)]) es' (clock + 1) (fun j => if j = gs.length then g else blk j) := by
  have hget : ∀ j, (es.push { key := .int .i64 c, val := v, born := clock }).getD j default = if j = gs.length then { key := .int .i64 c, val := v, born := clock } else es.getD j default := by
    intro j
    rw [← h.size]
    simp only [Array.getD_eq_getD_getElem?, Array.getElem?_push]
    split <;> rfl
  refine ⟨es.push { key := .int .i64 c, val := v, born := clock }, ztB hm hf (fun j u' e => by cases e), ⟨?_, zqh h.st _ _, ?_, fun j hj' => ?_, fun j hj' => ?_, fun j k hj' hk' e => ?_⟩⟩
  · simp [zj hm]
  · simp [h.size]
  · simp only [List.length_append, List.length_cons, List.length_nil] at hj'
    rw [hget, zvj hj']
    split
    · rfl
    · exact h.key j (by omega)
  · simp only [List.length_append, List.length_cons, List.length_nil] at hj'
    rw [hget, zvj hj']
    split
    · exact hv _
    · exact ho _ j (by omega)
  · simp only [List.length_append, List.length_cons, List.length_nil] at hj' hk'
    by_cases e1 : j = gs.length <;> by_cases e2 : k = gs.length
    · omega
    · rw [if_pos e1, if_neg e2] at e; exact absurd e.symm (hg k (by omega))
    · rw [if_neg e1, if_pos e2] at e; exact absurd e (hg j (by omega))
    · rw [if_neg e1, if_neg e2] at e; exact h.apart j k (by omega) (by omega) e
end
end Go.Ab
namespace Go.Ab
open Go Go.Proofs
set_option maxRecDepth 10000
set_option maxHeartbeats 4000000
variable {T:Nat→Obj→Prop}
abbrev zo7 (d:Array (Int)):Ob := .row 1 (d.toList.map (D.int .i64))
end Go.Ab
namespace Go.Ab
open Go Go.Proofs
set_option maxRecDepth 10000
set_option maxHeartbeats 4000000
variable {T:Nat→Obj→Prop}
set_option maxHeartbeats 1000000 in
theorem zpG (d:Array Int) (hs:d.size≤536870912) (hd:Steps d):Fn Tryz.prog T zbx [.own 0] [zo7 d] (.own 0) [some (zo7 d)]:=by
 have hln:d.toList.length=d.size:=Array.length_toList
 refine zT zp zeG (by show 1≤61;decide) _ (fun e env mem n h=>h) ?_
 (repeat' ((conv=>whnf);first|refine vA ?_|(refine vF ?_ ?_<;>intro hc<;>try simp only [vL] at hc)|refine vJ fun hg=>?_));all_goals try conv=>whnf
 ·refine ⟨trivial,_,[(0,0)],[],rfl,.inl (by (repeat' exact rfl)),⟨by rfl,by rfl,by rfl,trivial,by (repeat' first|exact trivial|exact rfl|refine And.intro ?_ ?_|refine ⟨_,rfl,?_⟩|exact of_decide_eq_true rfl)⟩,by (repeat' first|exact trivial|exact rfl|refine And.intro ?_ ?_)⟩
 refine zt (fun (i:Int)=>[(0,.own 0),(3,.d (.int .i64 (i))),(zg,.own 0)]) (fun (i:Int)=>[(0,some (zo7 d))]) 1 (fun (i:Int) => ∃ k:Nat,i=k∧0 < k∧k≤d.size) (fun (i:Int)=>(d.size - i).toNat) (1) [(0,0)] [] (⟨1,rfl,by omega,by omega⟩) (by (refine ⟨rfl,rfl,rfl,?_,?_⟩;repeat' first|exact trivial|exact rfl|refine And.intro ?_ ?_|refine ⟨_,rfl,?_⟩|decide)) ?_
 rintro _ ⟨k,rfl,hk0,hk1⟩
 (repeat' ((conv=>whnf);first|refine vA ?_|(refine vF ?_ ?_<;>intro hc<;>try simp only [vL] at hc)|refine vJ fun hg=>?_|(refine vQ ?_ fun x hx=>?_;·omega)|((first|refine vO ?_ ?_|refine vP ?_ ?_);·first|omega|(simp only [vM] at *;omega))|(refine vU ?_ ?_;·kernel_rfl)|fail));all_goals try conv=>whnf
 ·have g1:=zfS (ziE k ‹d.toList[(k:Int).toNat]? = some _› rfl)
  have g2:=zfS (ziE (k - 1) ‹d.toList[((k:Int) - 1).toNat]? = some _› (by omega))
  exact absurd (g1.1.trans (‹_=_›.trans g2.1.symm)) (hd k hk0 g1.2)
 ·refine ⟨_,[(0,0)],[],?_,?_,by (refine ⟨rfl,rfl,rfl,?_,?_⟩;repeat' first|exact trivial|exact rfl|refine And.intro ?_ ?_|refine ⟨_,rfl,?_⟩|decide)⟩
  ·exact ⟨k+1,by omega,by omega,by omega⟩
  ·(omega)
 ·refine ⟨trivial,_,[(0,0)],[],rfl,.inl (by (repeat' exact rfl)),⟨by rfl,by rfl,by rfl,trivial,by (repeat' first|exact trivial|exact rfl|refine And.intro ?_ ?_|refine ⟨_,rfl,?_⟩|exact of_decide_eq_true rfl)⟩,by (repeat' first|exact trivial|exact rfl|refine And.intro ?_ ?_)⟩
set_option maxHeartbeats 1000000 in
theorem zom (d:Array Int) (hs:d.size≤536870912) (hd : ¬Steps d):Fn Tryz.prog T zbx [.own 0] [zo7 d] (.own 1) [none,some (.row 1 ((ddA d d.size).map (D.int .i64)))]:=by
 generalize hR:(ddA d d.size).map (D.int .i64)=R
 have hln:d.toList.length=d.size:=Array.length_toList
 refine zT zp zeG (by show 1≤61;decide) _ (fun e env mem n h=>h) ?_
 (repeat' ((conv=>whnf);first|refine vA ?_|(refine vF ?_ ?_<;>intro hc<;>try simp only [vL] at hc)|refine vJ fun hg=>?_));all_goals try conv=>whnf
 ·exact absurd (fun j hj0 hj1=>by omega) hd
 refine zt (fun (i:Int)=>[(0,.own 0),(3,.d (.int .i64 (i))),(zg,.own 0)]) (fun (i:Int)=>[(0,some (zo7 d))]) 1 (fun (i:Int) => ∃ k:Nat,i=k∧0 < k∧k≤d.size ∧ ∀ j,0 < j→j < k→d[j]! ≠ d[j - 1]!) (fun (i:Int)=>(d.size - i).toNat) (1) [(0,0)] [] (⟨1,rfl,by omega,by omega,fun j _ _=>by omega⟩) (by (refine ⟨rfl,rfl,rfl,?_,?_⟩;repeat' first|exact trivial|exact rfl|refine And.intro ?_ ?_|refine ⟨_,rfl,?_⟩|decide)) ?_
 rintro _ ⟨k,rfl,hk0,hk1,hk⟩
 (repeat' ((conv=>whnf);first|refine vA ?_|(refine vF ?_ ?_<;>intro hc<;>try simp only [vL] at hc)|refine vJ fun hg=>?_|(refine vQ ?_ fun x hx=>?_;·omega)|((first|refine vO ?_ ?_|refine vP ?_ ?_);·first|omega|(simp only [vM] at *;omega))|(refine vU ?_ ?_;·kernel_rfl)|fail));all_goals try conv=>whnf
 ·have g1:=zfS (ziE k ‹d.toList[(k:Int).toNat]? = some _› rfl)
  have g2:=zfS (ziE (k - 1) ‹d.toList[((k:Int) - 1).toNat]? = some _› (by omega))
  have hkk:d[k]! = d[k - 1]! := g1.1.trans (‹_=_›.trans g2.1.symm)
  refine zt (fun ((w,q,xs):Int×Int×List D)=>[(0,.own 0),(3,.d (.int .i64 (w))),(4,.view 0 k ((d.toList.map (D.int .i64)).length - k)),(5,.d (.int .i64 (q))),(zg,.own 0)]) (fun ((w,q,xs):Int×Int×List D)=>[(0,some (.row 1 xs))]) 1 (fun ((w,q,xs):Int×Int×List D) => ∃ (a b:Nat) (e:Array Int),w=a∧q=b∧xs=e.toList.map (D.int .i64)∧0 < b∧k+b≤d.size∧a < k+b∧e.size=d.size∧e.toList.take a=ddA d (k+b) ∧ ∀ j,k+b - 1≤j→j < d.size→e[j]! = d[j]!) (fun ((w,q,xs):Int×Int×List D)=>(d.size - k - q).toNat) (((k:Int),(1:Int),d.toList.map (D.int .i64))) [(0,0)] [] (⟨k,1,d,rfl,rfl,rfl,by omega,by omega,by omega,rfl,zAE hk0 g1.2 hk hkk,fun _ _ _=>rfl⟩) (by (refine ⟨rfl,rfl,rfl,?_,?_⟩;repeat' first|exact trivial|exact rfl|refine And.intro ?_ ?_|refine ⟨_,rfl,?_⟩|decide)) ?_
  rintro ⟨_,_,_⟩ ⟨a,b,e,rfl,rfl,rfl,hb0,hb1,hab,he,ha,hj⟩
  have hle:e.toList.length=e.size:=Array.length_toList
  (repeat' ((conv=>whnf);first|refine vA ?_|((first|refine vD ?_ ?_|refine vF ?_ ?_)<;>intro hc<;>try simp only [vL] at hc)|refine vN ‹_› ?_|(refine vQ ?_ fun x hx=>?_;·omega)|((first|refine vO ?_ ?_|refine vP ?_ ?_);·first|omega|(simp only [vM] at *;omega))|(refine vU ?_ ?_;·kernel_rfl)|fail));all_goals try conv=>whnf
  ·have h1:=zfS ‹e.toList[k+((b:Nat):Int).toNat]? = some _›
   have h2:=zfS (ziE (i:=((k+b - 1:Nat):Int)) (k+b - 1) (by rw [← ‹e.toList[k+(((b:Nat):Int) - 1).toNat]? = some _›];congr 1;omega) rfl)
   simp only [Int.toNat_natCast] at h1
   have e1:=hj (k+b) (by omega) (by omega)
   have e2:=hj (k+b - 1) (by omega) (by omega)
   refine ⟨(_,_,_),[(0,0)],[],?_,?_,by (refine ⟨rfl,rfl,rfl,?_,?_⟩;repeat' first|exact trivial|exact rfl|refine And.intro ?_ ?_|refine ⟨_,rfl,?_⟩|decide)⟩
   ·exact ⟨a+1,b+1,e.setIfInBounds a e[k+b]!,by omega,by omega,by rw [h1.1];simp [List.map_set],by omega,by omega,by omega,by simp [he],
     by rw [zBA (by omega),ha,← Nat.add_assoc,zDm (by rw [← e1,← e2,h1.1,h2.1];assumption),e1],
     fun j h0 h1=>by rw [zCW (by omega)];exact hj j (by omega) h1⟩
   ·((simp only [vM] at *;omega))
  ·have h1:=zfS ‹e.toList[k+((b:Nat):Int).toNat]? = some _›
   have h2:=zfS (ziE (i:=((k+b - 1:Nat):Int)) (k+b - 1) (by rw [← ‹e.toList[k+(((b:Nat):Int) - 1).toNat]? = some _›];congr 1;omega) rfl)
   simp only [Int.toNat_natCast] at h1
   have e1:=hj (k+b) (by omega) (by omega)
   have e2:=hj (k+b - 1) (by omega) (by omega)
   refine ⟨(_,_,_),[(0,0)],[],?_,?_,by (refine ⟨rfl,rfl,rfl,?_,?_⟩;repeat' first|exact trivial|exact rfl|refine And.intro ?_ ?_|refine ⟨_,rfl,?_⟩|decide)⟩
   ·exact ⟨a,b+1,e,rfl,by omega,rfl,by omega,by omega,by omega,he,
     by rw [ha,← Nat.add_assoc,zCk (by omega) (by rw [← e1,← e2,h1.1,h2.1];assumption)],
     fun j h0 h1=>hj j (by omega) h1⟩
   ·((simp only [vM] at *;omega))
  ·have hE:=zCi (enc:=(D.int .i64)) (e:=e) (z:=(D.int .i64) 0) (a:=a) (n:=(e.toList.map (D.int .i64)).length - a) (by omega)
   rw [ha,show k+b=d.size by omega,hR] at hE
   subst hE
   refine zua.mk (by simp only [List.length_append,List.length_take,List.length_replicate,List.length_drop,List.length_map,hle];omega) ?_
   (repeat' ((conv=>whnf);fail));all_goals try conv=>whnf
   refine ⟨trivial,_,[(1,1)],[],rfl,.inl (by (repeat' exact rfl)),⟨by rfl,by rfl,by rfl,trivial,by (repeat' first|exact trivial|exact rfl|refine And.intro ?_ ?_|refine ⟨_,rfl,?_⟩|exact of_decide_eq_true rfl)⟩,by (repeat' first|exact trivial|refine And.intro ?_ ?_)⟩
 ·refine ⟨_,[(0,0)],[],?_,?_,by (refine ⟨rfl,rfl,rfl,?_,?_⟩;repeat' first|exact trivial|exact rfl|refine And.intro ?_ ?_|refine ⟨_,rfl,?_⟩|decide)⟩
  ·exact ⟨k+1,by omega,by omega,by omega,fun j h0 h1=>by
    by_cases hjk:j=k
    ·subst hjk
     have g1:=zfS (ziE j ‹d.toList[(j:Int).toNat]? = some _› rfl)
     have g2:=zfS (ziE (j - 1) ‹d.toList[((j:Int) - 1).toNat]? = some _› (by omega))
     rw [g1.1,g2.1];assumption
    ·exact hk j h0 (by omega)⟩
  ·(omega)
 ·exact absurd (fun j h0 h1=>hk j h0 (by omega)) hd
end Go.Ab
namespace Go.Ab
open Go Go.Proofs Go.MapKept
variable {T : Nat → Obj → Prop}
def O2 (base : Nat) (w : World) (v : Value) (g : Nat) (zs : List Int) : Prop := ∃ cap c e, v = .slice (some ⟨g, 0, none⟩) zs.length cap ∧ base ≤ g ∧ w.heap[g]? = some (.cells c e (0, 0)) ∧ zs.length ≤ cap ∧ cap ≤ c.size ∧ zs.length ≤ 536870912 ∧
  ∀ j, j < zs.length → c.getD j undef = .int .i64 (zs.getD j 0)
def zba (zs : List Int) : Ob := .row 1 (zs.map (D.int .i64))
theorem O2.kept {base : Nat} {w w' : World} {v : Value} {g : Nat} {zs : List Int} (h : O2 base w v g zs) (hg : w'.heap[g]? = w.heap[g]?) : O2 base w' v g zs := by
  obtain ⟨cap, c, e, h1, h2, h3, h4⟩ := h
  exact ⟨cap, c, e, h1, h2, hg.trans h3, h4⟩
def zuf (T : Nat → Obj → Prop) (w : World) (g : Nat) : zA where
  w0 := w
  O := fun b => b < w.heap.size ∧ b ≠ g
  R := fun b => b = g
  nt := 0
  pin := fun b o => T b o ∧ w.heap[b]? = some o ∧ b ≠ g
  pinO := fun b o h => ⟨zj h.2.1, h.2.2⟩
  ghost := fun _ => undef
  small := Nat.zero_le _
  dfr := []
  inv := fun _ _ _ _ => True
  stab := fun _ _ _ _ _ _ _ _ _ _ _ _ => trivial
  mono := fun _ _ _ _ _ _ _ => trivial
theorem zEo {base : Nat} {w : World} {v : Value} {g : Nat} {zs : List Int} (h : O2 base w v g zs) :
    Sim (zuf T w g) (fun _ => .undef) (zz [some (zba zs)]) (fun i => 1 ≤ i) (fun _ => some g) ⟨#[], []⟩ w ∧
    VSim (fun _ => some g) (zz [some (zba zs)]) (fun i => 1 ≤ i) ((zuf T w g).X (fun _ => some g) (zz [some (zba zs)])) w (.own 0) v := by
  obtain ⟨cap, c, e, rfl, h2, h3, h4, h5, h6, h7⟩ := h
  have hm : ∀ i, zz [some (zba zs)] i = if i = 0 then some (zba zs) else none := fun i => by
    match i with
    | 0 => rfl
    | i + 1 => rfl
  have e0 : ∀ i, zz [some (zba zs)] i ≠ none → i = 0 := fun i hi => by
    rw [hm] at hi
    by_cases h : i = 0
    · exact h
    · rw [if_neg h] at hi; exact absurd rfl hi
  refine ⟨⟨fun t => .undef _, fun id ob hid => ?_, fun i j b hi hj _ _ => by rw [e0 i hi, e0 j hj], fun id b hi hb => ?_, fun id hid => by rw [hm, if_neg (by omega)], ⟨rfl, rfl, rfl, Nat.le_refl _, fun _ _ _ => rfl, fun b c e h => ⟨c, h, rfl⟩⟩, ⟨rfl, rfl⟩, fun b hb => hb.1, fun b o h => h.2.1, fun _ _ _ => trivial⟩, ?_⟩
  · rw [hm] at hid
    by_cases h : id = 0
    · rw [if_pos h] at hid
      cases hid
      refine .row 1 (zs.map (D.int .i64)) g c e rfl h3 (by rw [List.length_map]; omega) (by rw [List.length_map]; omega) (fun x hx => ?_) (fun i j hi hj => ?_)
      · obtain ⟨y, -, rfl⟩ := List.mem_map.1 hx
        rfl
      · rw [List.length_map] at hi
        have : j = 0 := by omega
        subst this
        rw [Nat.mul_one, Nat.add_zero, h7 i hi]
        rw [show (zs.map (D.int .i64)).getD i .nil = .int .i64 (zs.getD i 0) by simp [List.getD, hi]]
        exact .int .i64 _ (by simp)
    · rw [if_neg h] at hid; cases hid
  · cases hb
    exact ⟨fun h => h.2 rfl, .inl rfl⟩
  · have := VSim.own (σ := fun _ => some g) (M := zz [some (zba zs)]) (F := fun i => 1 ≤ i) (X := (zuf T w g).X (fun _ => some g) (zz [some (zba zs)])) (w := w) 0 1 (zs.map (D.int .i64)) g cap c e rfl rfl h3 (by rw [List.length_map]; omega) (by omega)
    rwa [List.length_map] at this
theorem zxZ {w w' : World} {g : Nat} (h : zxk (fun b => b = g) w w') : w.grownBy w' (some g) :=
  ⟨h.os, h.tape, h.output, h.size, fun b hb hne => h.block b hb (fun e => hne (by rw [e]))⟩
theorem zsE {σ : Nat → Option Nat} {M : Nat → Option Ob} {F X : Nat → Prop} {w : World} {id : Nat} {ys : List Int} {v : Value} (hV : VSim σ M F X w (.own id) v) (hO : zbN σ M F X w id (zba ys)) (hm : M id = some (zba ys)) (hl : ys.length ≤ 536870912) (h0 : ys ≠ []) :
    ∃ g, σ id = some g ∧ O2 0 w v g ys := by
  have hlen : (ys.map (D.int .i64)).length = ys.length := List.length_map _
  unfold zba at hm hO
  have pos : 0 < ys.length := List.length_pos_iff.2 h0
  cases hV with
  | ownDead _ ad l c h1 => rw [hm] at h1; cases h1
  | ownNil _ s h1 => rw [hm] at h1; simp at h1; exact absurd h1.2 h0
  | own _ s xs b cap c e h1 h2 h3 h4 h5 =>
    rw [hm] at h1
    simp only [Option.some.injEq, Ob.row.injEq] at h1
    obtain ⟨rfl, rfl⟩ := h1
    refine ⟨b, h2, cap, c, e, by rw [hlen], Nat.zero_le _, h3, by omega, by omega, hl, fun j hj => ?_⟩
    generalize hxs : ys.map (D.int .i64) = xs at hO hlen
    cases hO with
    | nilrow s h => rw [List.length_nil] at hlen; omega
    | row s xs' b' c' e' g1 g2 g3 g4 g5 g6 =>
      rw [h2] at g1; cases g1
      rw [h3] at g2; cases g2
      have := g6 j 0 (by omega) (by omega)
      rw [Nat.mul_one, Nat.add_zero, ← hxs, show (ys.map (D.int .i64)).getD j .nil = .int .i64 (ys.getD j 0) by simp [List.getD, hj]] at this
      generalize c.getD j undef = z at this ⊢
      cases this; rfl
theorem zuD {f : Nat} {zs ys : List Int} {id : Nat} {obs' : List (Option Ob)} (hf : Fn Tryz.prog T f [.own 0] [zba zs] (.own id) obs') (hid : zz obs' id = some (zba ys)) (hl : ys.length ≤ 536870912) (h0 : ys ≠ [])
    {base : Nat} {w : World} {v : Value} {g : Nat} (h : O2 base w v g zs) (hT : ∀ b o, T b o → w.heap[b]? = some o ∧ b ≠ g) (hb : base ≤ w.heap.size) :
    Calls Tryz.prog f #[v] w fun e w' => ∃ v' g', e = .returned v' ∧ O2 base w' v' g' ys ∧ (g' = g ∨ w.heap.size ≤ g') ∧ w.grownBy w' (some g) := by
  obtain ⟨hS, hV⟩ := zEo (T := T) h
  have hbg : base ≤ g := by obtain ⟨_, _, _, _, h2, _⟩ := h; exact h2
  intro cs
  obtain ⟨v', w', σ', ⟨fr, hc, hfn, hlk⟩, hS', hV', -⟩ := hf.2 (zuf T w g) (fun _ => some g) ⟨#[], []⟩ w #[v] (fun b o ht => ⟨ht, hT b o ht⟩) (fun _ _ _ _ => trivial) hS rfl (fun i hi => by
    match i, hi with
    | 0, _ => exact hV) cs
  obtain ⟨g', hg', cap, c, e, q1, -, q2⟩ := zsE hV' (hS'.mem id _ hid) hid hl h0
  have hmine := (hS'.mine id g' (by rw [hid]; simp) hg').2
  refine ⟨.returned v', w', fr, ⟨v', g', rfl, ⟨cap, c, e, q1, ?_, q2⟩, hmine, zxZ hS'.kept⟩, hc, hfn, hlk⟩
  rcases hmine with rfl | h
  · exact hbg
  · exact Nat.le_trans hb h
end Go.Ab
namespace Go.Ab
open Go Go.Proofs Go.MapKept
def inC (rank cell : List Int) (k : Nat) (c : Int) : List Int := ((List.range k).filter fun w => at0 cell w == c).map (at0 rank)
def zZ (cell rank : List Int) (k : Nat) : GI := (zJ (cell.take k)).map fun c => (c, inC rank cell k c)
theorem zmF {cell rank : List Int} {k : Nat} {c : Int} : inC rank cell (k + 1) c = inC rank cell k c ++ (if at0 cell k = c then [at0 rank k] else []) := by
  unfold inC
  rw [List.range_succ, List.filter_append, List.map_append]
  congr 1
  by_cases h : at0 cell k = c
  · simp [h]
  · simp [h]
theorem zwZ {cell rank : List Int} {k : Nat} {c : Int} : (inC rank cell k c).length ≤ k := by
  unfold inC
  rw [List.length_map]
  have := List.length_filter_le (fun w => at0 cell w == c) (List.range k)
  rwa [List.length_range] at this
theorem zp7 {l : List Int} {c : Int} : zJ (l ++ [c]) = if c ∈ zJ l then zJ l else zJ l ++ [c] := by
  simp only [zJ, List.foldl_append, List.foldl_cons, List.foldl_nil]
  by_cases h : c ∈ List.foldl (fun l c => if c ∈ l then l else l ++ [c]) [] l
  · exact (if_pos h).trans (if_pos h).symm
  · exact (if_neg h).trans (if_neg h).symm
theorem zrN : ∀ {l acc : List Int}, acc.Nodup → (l.foldl (fun l c => if c ∈ l then l else l ++ [c]) acc).Nodup
  | [], acc, h => h
  | x :: l, acc, h => by
    rw [List.foldl_cons]
    refine zrN ?_
    split
    · exact h
    · rename_i hx
      exact List.nodup_append.2 ⟨h, by simp, fun a ha b hb => by simp at hb; subst hb; intro e; subst e; exact hx ha⟩
theorem zoU {l : List Int} : (zJ l).Nodup := zrN List.nodup_nil
theorem zv0 {cell : List Int} {k : Nat} (h : k < cell.length) : cell.take (k + 1) = cell.take k ++ [at0 cell k] := by
  rw [List.take_add_one, zlp h]; rfl
theorem zta {cell rank : List Int} {k : Nat} : (zZ cell rank k).map Prod.fst = zJ (cell.take k) := by
  rw [zZ, List.map_map]
  exact (List.map_congr_left fun _ _ => rfl).trans (List.map_id _)
theorem zDF {cell rank : List Int} {k : Nat} (hk : k < cell.length) (h : at0 cell k ∉ (zZ cell rank k).map Prod.fst) : zZ cell rank (k + 1) = zZ cell rank k ++ [(at0 cell k, [at0 rank k])] := by
  rw [zta] at h
  have h0 : inC rank cell k (at0 cell k) = [] := by
    rw [inC, List.map_eq_nil_iff, List.filter_eq_nil_iff]
    intro w hw he
    rw [List.mem_range] at hw
    refine h (znd.2 ?_)
    rw [← (show at0 cell w = at0 cell k by simpa using he)]
    exact List.mem_of_getElem? (i := w) (by rw [List.getElem?_take, if_pos hw, zlp (by omega)])
  rw [zZ, zv0 hk, zp7, if_neg h, List.map_append]
  congr 1
  · refine List.map_congr_left fun c hc => ?_
    rw [zmF, if_neg (fun e => h (by rw [e]; exact hc)), List.append_nil]
  · simp [zmF, h0]
theorem zDG {cell rank : List Int} {k i : Nat} (hk : k < cell.length) (hi : i < (zZ cell rank k).length) (hc : ((zZ cell rank k).getD i default).1 = at0 cell k) :
    zZ cell rank (k + 1) = (zZ cell rank k).set i (at0 cell k, ((zZ cell rank k).getD i default).2 ++ [at0 rank k]) := by
  have hl : i < (zJ (cell.take k)).length := by simpa [zZ] using hi
  have hg : ∀ j (hj : j < (zJ (cell.take k)).length), (zZ cell rank k)[j]'(by simpa [zZ] using hj) = ((zJ (cell.take k))[j], inC rank cell k (zJ (cell.take k))[j]) := fun j hj => by simp [zZ]
  have hci : (zJ (cell.take k))[i] = at0 cell k := by
    rw [← hc]; simp [List.getD, hi, hg i hl]
  have hm : at0 cell k ∈ zJ (cell.take k) := by rw [← hci]; exact List.getElem_mem _
  have hn : zZ cell rank (k + 1) = (zJ (cell.take k)).map fun c => (c, inC rank cell (k + 1) c) := by rw [zZ, zv0 hk, zp7, if_pos hm]
  rw [hn]
  refine List.ext_getElem (by simp [zZ]) fun j h1 h2 => ?_
  have hj : j < (zJ (cell.take k)).length := by simpa using h1
  rw [List.getElem_map, List.getElem_set]
  by_cases e : i = j
  · subst e
    rw [if_pos rfl, hci, zmF, if_pos rfl]
    simp [List.getD, hi, hg i hl, hci]
  · rw [if_neg e, hg j hj, zmF, if_neg, List.append_nil]
    intro h
    exact e ((List.getElem_inj zoU).1 (hci.trans h))
def O1 (base : Nat) (w : World) (v : Value) (g : Nat) (zs : List Int) : Prop := w.ownsRow base 3 1 v zs.length (zs.map (Value.int .i64)) ∧ v.ownBlock = some g
theorem O1.kept {base : Nat} {w w' : World} {v : Value} {g : Nat} {zs : List Int} {row : Option Nat} (h : O1 base w v g zs) (hg : w.grownBy w' row) (hne : some g ≠ row) : O1 base w' v g zs := ⟨h.1.kept hg (.inr (by rw [h.2]; exact hne)), h.2⟩
theorem O1.lt {base : Nat} {w : World} {v : Value} {g : Nat} {zs : List Int} (h : O1 base w v g zs) : base ≤ g ∧ g < w.heap.size := h.1.lt g h.2
theorem O1.O2 {base : Nat} {w : World} {v : Value} {g : Nat} {zs : List Int} (h : O1 base w v g zs) (hl : zs.length ≤ 536870912) : O2 base w v g zs := by
  obtain ⟨⟨h1, h2⟩, h3⟩ := h
  rcases h2 with ⟨rfl, h2⟩ | ⟨g', cap, cur, rfl, h4, h5, h6, h7, h8, h9⟩
  · cases h3
  · cases h3
    refine ⟨cap, cur, 3, rfl, h4, h5, h6, by omega, hl, fun j hj => ?_⟩
    have : (cur.toList.take (zs.length * 1))[j]? = some (Value.int .i64 (zs.getD j 0)) := by rw [h9]; simp [hj, List.getD]
    rw [List.getElem?_take, if_pos (by omega)] at this
    rw [Array.getD_eq_getD_getElem?, ← Array.getElem?_toList, this]; rfl
theorem zgp (w : World) (m : Nat) (o : Obj) : w.grownBy { w with heap := w.heap.setIfInBounds m o } (some m) :=
  ⟨rfl, rfl, rfl, by simp, fun k _ hk => by simp [Array.getElem?_setIfInBounds_ne (fun e : m = k => hk (by rw [e]))]⟩
section
variable {w : World} {base m : Nat} {gs : GI} {es : Array MapEntry} {clock : Nat} {blk : Nat → Nat}
theorem Grp.look1 (h : Grp (O1 base) w m gs es clock blk) (hmb : m < base) (c : Int) : ∃ v zs, ∃ tgt : List Int → GI, (v.ownBlock ≠ some m) ∧ (∀ w', w'.heap[m]? = w.heap[m]? → (Instr.lookup 90 (.map (some m)) (.int .i64 c) false).run Tryz.prog w' = .ok v w') ∧ w.ownsRow base 3 1 v zs.length (zs.map (Value.int .i64)) ∧
    ((∃ i, i < gs.length ∧ (gs.getD i default).1 = c ∧ zs = (gs.getD i default).2 ∧ tgt = fun ys => gs.set i (c, ys)) ∨ (c ∉ gs.map Prod.fst ∧ zs = [] ∧ tgt = fun ys => gs ++ [(c, ys)])) ∧
    ∀ w1 v' x, w.grownBy w1 v.ownBlock → w1.ownsRow base 3 1 v' (zs.length + 1) (zs.map (Value.int .i64) ++ [.int .i64 x]) → (v'.ownBlock = v.ownBlock ∨ v'.ownBlock = some w.heap.size ∨ ∃ g, v'.ownBlock = some g ∧ w.heap.size ≤ g) →
      ∃ w2 es' clock' blk', (Instr.mapUpdate 90 (.map (some m)) (.int .i64 c) v').run Tryz.prog w1 = .ok () w2 ∧ Grp (O1 base) w2 m (tgt (zs ++ [x])) es' clock' blk' ∧ w1.grownBy w2 (some m) := by
  have hmw : m < w.heap.size := zj h.heap
  have nn : ∀ {w1 : World} {v' : Value} {zs : List Int} {x : Int}, w1.ownsRow base 3 1 v' (zs.length + 1) (zs.map (Value.int .i64) ++ [.int .i64 x]) → ∃ g, O1 base w1 v' g (zs ++ [x]) := by
    intro w1 v' zs x ho
    have ho' : w1.ownsRow base 3 1 v' (zs ++ [x]).length ((zs ++ [x]).map (Value.int .i64)) := by simpa using ho
    rcases ho.2 with ⟨_, h0⟩ | ⟨g, cap, cur, rfl, _⟩
    · omega
    · exact ⟨g, ho', rfl⟩
  rcases h.find c with ⟨hn, hf⟩ | ⟨i, hi, hc, hf⟩
  · refine ⟨_, [], _, by simp [Value.ownBlock], fun w' hw' => zx1 (hw'.trans h.heap) hf, World.ownsRow_nil _ _ _ _, .inr ⟨hn, rfl, rfl⟩, fun w1 v' x hg ho hl => ?_⟩
    obtain ⟨g, hv⟩ := nn ho
    have hgw : w.heap.size ≤ g := by
      rcases hl with h1 | h1 | ⟨g', h1, h2⟩
      · rw [hv.2] at h1; cases h1
      · rw [hv.2] at h1; cases h1; exact Nat.le_refl _
      · rw [hv.2] at h1; cases h1; exact h2
    have hm1 : w1.heap[m]? = some (.map es clock) := (hg.block m hmw (by simp [Value.ownBlock])).trans h.heap
    obtain ⟨es', h1, h2⟩ := h.add (w1 := w1) (c := c) (v := v') (g := g) (zs := [] ++ [x]) hf hm1
      (fun o => hv.kept (zgp w1 m o) (by simp; have := hv.lt; omega))
      (fun o j hj => ((h.val j hj).kept hg (by simp [Value.ownBlock])).kept (zgp w1 m o) (by have := (h.val j hj).lt; simp; omega))
      (fun j hj => by have := (h.val j hj).lt; omega)
    exact ⟨_, es', _, _, h1, h2, zgp _ _ _⟩
  · have hvi := h.val i hi
    refine ⟨_, (gs.getD i default).2, _, by rw [hvi.2]; have := hvi.lt; simp; omega, fun w' hw' => zx2 (hw'.trans h.heap) hf, hvi.1, .inl ⟨i, hi, hc, rfl, rfl⟩, fun w1 v' x hg ho hl => ?_⟩
    rw [hvi.2] at hg hl
    obtain ⟨g, hv⟩ := nn ho
    have hgw : g = blk i ∨ w.heap.size ≤ g := by
      rcases hl with h1 | h1 | ⟨g', h1, h2⟩
      · rw [hv.2] at h1; cases h1; exact .inl rfl
      · rw [hv.2] at h1; cases h1; exact .inr (Nat.le_refl _)
      · rw [hv.2] at h1; cases h1; exact .inr h2
    have hmi : m ≠ blk i := by have := hvi.lt; omega
    have hm1 : w1.heap[m]? = some (.map es clock) := (hg.block m hmw (by simpa using hmi)).trans h.heap
    have hne : ∀ j, j < gs.length → j ≠ i → blk j ≠ blk i := fun j hj hji e => hji (h.apart j i hj hi e)
    obtain ⟨es', h1, h2, -⟩ := h.set (w1 := w1) (c := c) (u := (es.getD i default).val) (v := v') (g := g) (zs := (gs.getD i default).2 ++ [x]) hi hc hf hm1
      (fun o => hv.kept (zgp w1 m o) (by simp; have := hv.lt; omega))
      (fun o j hj hji => ((h.val j hj).kept hg (by simpa using hne j hj hji)).kept (zgp w1 m o) (by have := (h.val j hj).lt; simp; omega))
      (fun j hj hji => by
        have := (h.val j hj).lt
        rcases hgw with rfl | h3
        · exact hne j hj hji
        · omega)
    exact ⟨_, es', _, _, h1, h2, zgp _ _ _⟩
end
end Go.Ab
namespace Go.Proofs
def Tryz.lays189_ren : Go.Shelf.Ren := ⟨fun | 189 => 110 | 125 => 124 | 257 => 143 | 128 => 158 | 129 => 159 | 294 => 166 | 295 => 167 | 296 => 168 | 297 => 169 | 298 => 170 | 299 => 171 | 216 => 172 | 300 => 173 | 301 => 174 | 328 => 192 | 329 => 179 | 330 => 180 | 331 => 193 | 332 => 194 | 215 => 195 | 343 => 201 | n => n, fun | 28 => 28 | 3 => 3 | 46 => 101 | 0 => 0 | 51 => 158 | 53 => 44 | 4 => 4 | 183 => 151 | 182 => 150 | 131 => 122 | 5 => 5 | 9 => 9 | 218 => 172 | 222 => 176 | 228 => 188 | 229 => 37 | n => n, fun | n => n⟩
theorem Tryz.lays189 : Go.Proofs.Lays.n189 Tryz.prog Tryz.lays189_ren := {
  mixed := by kernel_rfl
  f125 := Tryz.func124.trans (congrArg some (by kernel_rfl))
  f128 := Tryz.func158.trans (congrArg some (by kernel_rfl))
  f129 := Tryz.func159.trans (congrArg some (by kernel_rfl))
  f189 := Tryz.func110.trans (congrArg some (by kernel_rfl))
  f215 := Tryz.func195.trans (congrArg some (by kernel_rfl))
  f216 := Tryz.func172.trans (congrArg some (by kernel_rfl))
  f257 := Tryz.func143.trans (congrArg some (by kernel_rfl))
  f294 := Tryz.func166.trans (congrArg some (by kernel_rfl))
  f295 := Tryz.func167.trans (congrArg some (by kernel_rfl))
  f296 := Tryz.func168.trans (congrArg some (by kernel_rfl))
  f297 := Tryz.func169.trans (congrArg some (by kernel_rfl))
  f298 := Tryz.func170.trans (congrArg some (by kernel_rfl))
  f299 := Tryz.func171.trans (congrArg some (by kernel_rfl))
  f300 := Tryz.func173.trans (congrArg some (by kernel_rfl))
  f301 := Tryz.func174.trans (congrArg some (by kernel_rfl))
  f328 := Tryz.func192.trans (congrArg some (by kernel_rfl))
  f329 := Tryz.func179.trans (congrArg some (by kernel_rfl))
  f330 := Tryz.func180.trans (congrArg some (by kernel_rfl))
  f331 := Tryz.func193.trans (congrArg some (by kernel_rfl))
  f332 := Tryz.func194.trans (congrArg some (by kernel_rfl))
  f343 := Tryz.func201.trans (congrArg some (by kernel_rfl))
  t0 := Tryz.underlying0
  a0 := Tryz.isAgg0
  z0 := Tryz.sizeOf0
  v0 := Tryz.zeroValue0
  t3 := Tryz.underlying3
  a3 := Tryz.isAgg3
  z3 := Tryz.sizeOf3
  v3 := Tryz.zeroValue3
  t4 := Tryz.underlying4
  a4 := Tryz.isAgg4
  z4 := Tryz.sizeOf4
  v4 := Tryz.zeroValue4
  t5 := Tryz.underlying5
  a5 := Tryz.isAgg5
  z5 := Tryz.sizeOf5
  v5 := Tryz.zeroValue5
  t9 := Tryz.underlying9
  a9 := Tryz.isAgg9
  z9 := Tryz.sizeOf9
  v9 := Tryz.zeroValue9
  t28 := Tryz.underlying28
  a28 := Tryz.isAgg28
  z28 := Tryz.sizeOf28
  v28 := Tryz.zeroValue28
  t46 := Tryz.underlying101
  a46 := Tryz.isAgg101
  z46 := Tryz.sizeOf101
  v46 := Tryz.zeroValue101
  t51 := Tryz.underlying158
  a51 := Tryz.isAgg158
  z51 := Tryz.sizeOf158
  v51 := Tryz.zeroValue158
  t53 := Tryz.underlying44
  a53 := Tryz.isAgg44
  z53 := Tryz.sizeOf44
  v53 := Tryz.zeroValue44
  t131 := Tryz.underlying122
  a131 := Tryz.isAgg122
  z131 := Tryz.sizeOf122
  v131 := Tryz.zeroValue122
  t182 := Tryz.underlying150
  a182 := Tryz.isAgg150
  z182 := Tryz.sizeOf150
  v182 := Tryz.zeroValue150
  t183 := Tryz.underlying151
  a183 := Tryz.isAgg151
  z183 := Tryz.sizeOf151
  v183 := Tryz.zeroValue151
  t218 := Tryz.underlying172
  a218 := Tryz.isAgg172
  z218 := Tryz.sizeOf172
  v218 := Tryz.zeroValue172
  t222 := Tryz.underlying176
  a222 := Tryz.isAgg176
  z222 := Tryz.sizeOf176
  v222 := Tryz.zeroValue176
  t228 := Tryz.underlying188
  a228 := Tryz.isAgg188
  z228 := Tryz.sizeOf188
  v228 := Tryz.zeroValue188
  t229 := Tryz.underlying37
  a229 := Tryz.isAgg37
  z229 := Tryz.sizeOf37
  v229 := Tryz.zeroValue37 }
end Go.Proofs
namespace Go.Ab
open Go Go.Proofs Go.MapKept
open Go.ChangeMaps (setBlock)
variable {T : Nat → Obj → Prop}
def zgd (zs : List Int) : List Int := ddA (Sort.sort Sort.ltInt zs.toArray) (Sort.sort Sort.ltInt zs.toArray).size
theorem zxG {d : Array Int} : ∀ {n : Nat}, 0 < n → ddA d n ≠ []
  | 1, _ => by simp [ddA]
  | n + 2, _ => by
    rw [ddA]
    split
    · exact zxG (Nat.succ_pos n)
    · simp
theorem zuK {α : Type} [Inhabited α] [DecidableEq α] {d : Array α} : ∀ {n : Nat}, (ddA d n).length ≤ n
  | 0 => Nat.le_refl 0
  | n + 1 => by
    have := zuK (d := d) (n := n)
    rw [ddA]
    split
    · omega
    · simp; omega
theorem ztL (d : Array Int) : (Sort.sort Sort.ltInt d).size = d.size := zBk Sort.swo_ltInt d.size d 0 d.size _ true true (by omega) (Nat.zero_le _) (Nat.le_refl _)
theorem zuC {d : Array Int} (hl : d.size ≤ 536870912) (h0 : 0 < d.size) {base : Nat} {w : World} {v : Value} {g : Nat} (h : O2 base w v g d.toList) (hT : ∀ b o, T b o → w.heap[b]? = some o ∧ b ≠ g) (hb : base ≤ w.heap.size) :
    Calls Tryz.prog 111 #[v] w fun e w' => ∃ v' g', e = .returned v' ∧ O2 base w' v' g' (ddA d d.size) ∧ (g' = g ∨ w.heap.size ≤ g') ∧ w.grownBy w' (some g) := by
  by_cases hs : Steps d
  · have hd : ddA d d.size = d.toList := by
      rw [zse (Nat.le_refl _) (fun j h1 h2 => hs j h1 h2), List.take_of_length_le (by simp)]
    exact zuD (T := T) (f := 111) (id := 0) (zpG d hl hs) (by rw [hd]; rfl) (Nat.le_trans zuK hl) (zxG h0) h hT hb
  · exact zuD (T := T) (f := 111) (id := 1) (zom d hl hs) rfl (Nat.le_trans zuK hl) (zxG h0) h hT hb
theorem zxz {zs : List Int} (hl : zs.length ≤ 536870912) (h0 : zs ≠ []) {base : Nat} {w : World} {v : Value} {g : Nat} (h : O2 base w v g zs) (hT : ∀ b o, T b o → w.heap[b]? = some o ∧ b ≠ g) :
    Calls Tryz.prog 110 #[v] w fun e w' => e = .returned (.tuple #[]) ∧ O2 base w' v g (Sort.sort Sort.ltInt zs.toArray).toList ∧ w.grownBy w' (some g) := by
  have hz : (Sort.sort Sort.ltInt zs.toArray).toList.length = zs.length := by rw [Array.length_toList, ztL]; simp
  obtain ⟨cap, c, e, rfl, h2, h3, h4, h5, h6, h7⟩ := h
  have hH := holds_of_blockI (ss := zs) h3 (by
    refine List.ext_getElem (by simp; omega) fun i h1 h8 => ?_
    have h8 : i < zs.length := by simpa using h8
    have := h7 i h8
    simp [List.getD, h8, show i < c.size by omega] at this
    simp [this])
  refine (Any.slices_Sort_int Tryz.lays189 g 0 cap zs w hH (zj h3) (by omega)).mono fun x w' => ?_
  rintro ⟨rfl, n, os, rfl⟩
  have hq : (zs.mergeSort fun x y => decide (x ≤ y)) = (Sort.sort Sort.ltInt zs.toArray).toList := (Go.Sort.sortInt zs).symm
  rw [hq]
  generalize (Sort.sort Sort.ltInt zs.toArray).toList = ys at hz
  refine ⟨rfl, ⟨cap, _, e, by rw [hz], h2, heap_sortedI _ h3, by omega, by simp [Sort.putCells]; omega, by omega, fun j hj => ?_⟩, grownBy_sortedI _⟩
  have ht := take_putCellsI c ys (by omega)
  have := congrArg (fun l : List Value => l.getD j undef) ht
  simp [List.getD, List.getElem?_take, hj] at this
  simpa [List.getD, hj] using this
def gAt (gs : GI) (born : Nat → Nat) (seen : Array Nat) : GI := (List.range gs.length).map fun j => ((gs.getD j default).1, if seen.contains (born j) then zgd (gs.getD j default).2 else (gs.getD j default).2)
def zko (n : Nat) (born : Nat → Nat) (seen : Array Nat) : Nat := ((List.range n).filter fun j => !seen.contains (born j)).length
structure Mid (w : World) (m base r clock : Nat) (gs : GI) (born : Nat → Nat) (seen : Array Nat) (wr : World) : Prop where
  ex : ∃ es blk, Grp (O2 base) wr m (gAt gs born seen) es clock blk ∧ (∀ j, j < gs.length → (es.getD j default).born = born j) ∧ ∀ j, j < gs.length → blk j ≠ r ∧ blk j < wr.heap.size
  iter : wr.heap[r]? = some (.mapIter (some m) clock seen clock)
  grown : w.grownBy wr none
  mr : m < base ∧ base ≤ r ∧ w.heap.size ≤ m
theorem zfv {gs : GI} {born : Nat → Nat} {seen : Array Nat} : (gAt gs born seen).length = gs.length := by simp [gAt]
theorem zwW {gs : GI} {born : Nat → Nat} {seen : Array Nat} {j : Nat} (hj : j < gs.length) : (gAt gs born seen).getD j default = ((gs.getD j default).1, if seen.contains (born j) then zgd (gs.getD j default).2 else (gs.getD j default).2) := by
  simp [gAt, List.getD, hj]
theorem zAU {gs : GI} {born : Nat → Nat} {seen : Array Nat} {i : Nat} (hi : i < gs.length) (hb : ∀ j, j < gs.length → born j = born i → j = i) :
    gAt gs born (seen.push (born i)) = (gAt gs born seen).set i ((gs.getD i default).1, zgd (gs.getD i default).2) := by
  refine List.ext_getElem (by simp [gAt]) fun j h1 h2 => ?_
  have hj : j < gs.length := by simpa [gAt] using h1
  rw [List.getElem_set]
  simp only [gAt, List.getElem_map, List.getElem_range, Array.contains_push]
  by_cases e : i = j
  · subst e; simp
  · rw [if_neg e]
    have : (born j == born i) = false := by simpa using fun h => e (hb j hj h).symm
    simp [this]
theorem zwE {n : Nat} {born : Nat → Nat} {seen : Array Nat} {i : Nat} (hi : i < n) (hs : seen.contains (born i) = false) : zko n born (seen.push (born i)) < zko n born seen := by
  unfold zko
  have hsub : ((List.range n).filter fun j => !(seen.push (born i)).contains (born j)) = ((List.range n).filter fun j => !seen.contains (born j)).filter fun j => !(born j == born i) := by
    rw [List.filter_filter]
    refine List.filter_congr fun j _ => ?_
    rw [Array.contains_push]
    cases seen.contains (born j) <;> cases (born j == born i) <;> rfl
  rw [hsub]
  refine Nat.lt_of_le_of_ne (List.length_filter_le _ _) fun h => ?_
  have := (List.filter_eq_self.1 (List.length_filter_eq_length_iff.1 h |> fun hh => List.filter_eq_self.2 hh)) i (List.mem_filter.2 ⟨List.mem_range.2 hi, by simpa using hs⟩)
  simp at this
end Go.Ab
namespace Go.Ab
open Go Go.Proofs Go.MapKept
open Go.ChangeMaps (setBlock)
variable {T : Nat → Obj → Prop}
theorem Mid.round {w wr : World} {m base r clock : Nat} {gs : GI} {born : Nat → Nat} {seen : Array Nat} (h : Mid w m base r clock gs born seen wr) (ty : TypeId) (hT : ∀ b o, T b o → w.heap[b]? = some o)
    (hk : ∀ i j, i < gs.length → j < gs.length → (gs.getD i default).1 = (gs.getD j default).1 → i = j) (hz : ∀ j, j < gs.length → (gs.getD j default).2 ≠ [] ∧ (gs.getD j default).2.length ≤ 536870912) :
    ((Instr.next (.pointer (some ⟨r, 0, none⟩)) false ty).run Tryz.prog wr = .ok (.tuple #[.bool false]) wr ∧ ∀ j, j < gs.length → seen.contains (born j) = true) ∨
    ∃ (c : Int) (v : Value) (wn : World), (Instr.next (.pointer (some ⟨r, 0, none⟩)) false ty).run Tryz.prog wr = .ok (.tuple #[.bool true, .int .i64 c, v]) wn ∧ (Instr.entry (.pointer (some ⟨r, 0, none⟩))).run Tryz.prog wn = .ok (.tuple #[.int .i64 c, v]) wn ∧
      Calls Tryz.prog 110 #[v] wn fun e w' => e = .returned (.tuple #[]) ∧ Calls Tryz.prog 111 #[v] w' fun e w'' => ∃ v', e = .returned v' ∧ ∃ wz seen', (Instr.mapUpdate 90 (.map (some m)) (.int .i64 c) v').run Tryz.prog w'' = .ok () wz ∧
        Mid w m base r clock gs born seen' wz ∧ zko gs.length born seen' < zko gs.length born seen := by
  obtain ⟨es, blk, hG, hborn, hblk⟩ := h.ex
  obtain ⟨hmb, hbr, hwm⟩ := h.mr
  have hsz : es.size = gs.length := hG.size.trans zfv
  have idx : ∀ x ∈ es.toList, ∃ j, j < gs.length ∧ es.getD j default = x := fun x hx => by
    obtain ⟨j, hj, rfl⟩ := List.getElem_of_mem hx
    rw [Array.length_toList] at hj
    exact ⟨j, by omega, by simp [Array.getD_eq_getD_getElem?, hj]⟩
  have hold : ∀ x ∈ es.toList, x.born < clock := fun x hx => by
    obtain ⟨j, hj, rfl⟩ := idx x hx
    exact hG.st.lt j (by omega)
  have hbi : ∀ i j, i < gs.length → j < gs.length → born i = born j → i = j := fun i j hi hj e => hG.st.inj i j (by omega) (by omega) (by rw [hborn i hi, hborn j hj, e])
  rcases run_next_at (P := Tryz.prog) wr ty r m clock clock seen es clock h.iter hG.heap hold (Nat.le_refl _) with ⟨h0, hrun⟩ | ⟨e, he, w1, hw1, hrun⟩
  · refine .inl ⟨hrun, fun j hj => ?_⟩
    by_cases hc : seen.contains (born j) = true
    · exact hc
    · have hm : es.getD j default ∈ (leftOf es seen) := by
        unfold leftOf
        refine Array.mem_filter.2 ⟨?_, ?_⟩
        · rw [show es.getD j default = es[j]'(by omega) by simp [Array.getD_eq_getD_getElem?, show j < es.size by omega]]
          exact Array.getElem_mem _
        · rw [hborn j hj]; simpa using hc
      have : leftOf es seen = #[] := Array.eq_empty_of_size_eq_zero h0
      rw [this] at hm
      simp at hm
  · right
    have he' : e ∈ es ∧ seen.contains e.born = false := by
      have : e ∈ leftOf es seen := by simpa using he
      unfold leftOf at this
      obtain ⟨h1, h2⟩ := Array.mem_filter.1 this
      exact ⟨h1, by simpa using h2⟩
    obtain ⟨j, hj, rfl⟩ := idx e (by simpa using he'.1)
    have hs := he'.2
    rw [hborn j hj] at hs hrun
    have hjl : j < (gAt gs born seen).length := by rw [zfv]; exact hj
    have hkey := hG.key j hjl
    have hval := hG.val j hjl
    have hgj := zwW (born := born) (seen := seen) hj
    rw [hs] at hgj
    simp only [Bool.false_eq_true, if_false] at hgj
    rw [hgj] at hkey hval
    simp only at hkey hval
    rw [hkey] at hrun
    have hw1h : w1.heap = wr.heap ∧ w1.os = wr.os ∧ w1.tape = wr.tape ∧ w1.output = wr.output := by rcases hw1 with rfl | rfl <;> exact ⟨rfl, rfl, rfl, rfl⟩
    have hrlt : r < wr.heap.size := zj h.iter
    generalize hwn : setBlock w1 r (.mapIter (some m) clock (seen.push (born j)) clock) = wn at hrun
    have nr : wn.heap[r]? = some (.mapIter (some m) clock (seen.push (born j)) clock) := by rw [← hwn]; simp [setBlock, hw1h.1, hrlt]
    have no : ∀ b, b ≠ r → wn.heap[b]? = wr.heap[b]? := fun b hb => by rw [← hwn]; simp [setBlock, hw1h.1, Array.getElem?_setIfInBounds_ne (Ne.symm hb)]
    have ns : wn.heap.size = wr.heap.size := by rw [← hwn]; simp [setBlock, hw1h.1]
    have nx : wn.os = wr.os ∧ wn.tape = wr.tape ∧ wn.output = wr.output := by rw [← hwn]; exact hw1h.2
    clear hwn
    obtain ⟨hbj1, hbj2⟩ := hblk j hj
    have hbase : ∀ i, i < gs.length → base ≤ blk i := fun i hi => by
      obtain ⟨_, _, _, _, h2, _⟩ := hG.val i (by rw [zfv]; exact hi); exact h2
    have hgn : w.grownBy wn none := ⟨nx.1.trans h.grown.os, nx.2.1.trans h.grown.tape, nx.2.2.trans h.grown.output, by rw [ns]; exact h.grown.size, fun b hb _ => (no b (by omega)).trans (h.grown.block b hb (by simp))⟩
    have hTn : ∀ (x : World), wn.grownBy x (some (blk j)) → ∀ b o, T b o → x.heap[b]? = some o ∧ b ≠ blk j := fun x hx b o ht => by
      have h1 := hT b o ht
      have h2 := zj h1
      have h3 := hbase j hj
      exact ⟨(hx.block b (Nat.lt_of_lt_of_le h2 hgn.size) (by simp; omega)).trans ((hgn.block b h2 (by simp)).trans h1), by omega⟩
    have hself : wn.grownBy wn (some (blk j)) := ⟨rfl, rfl, rfl, Nat.le_refl _, fun _ _ _ => rfl⟩
    refine ⟨(gs.getD j default).1, (es.getD j default).val, wn, hrun, ?_, ?_⟩
    · have := run_entry_at (P := Tryz.prog) wn r m clock seen es clock (es.getD j default) (by rw [hborn j hj]; exact nr) ((no m (by omega)).trans hG.heap) (by simpa using he'.1) (by
        refine List.pairwise_iff_getElem.2 fun p q hp hq hpq e => ?_
        simp only [List.length_map, Array.length_toList] at hp hq
        have := hG.st.inj p q hp hq (by simpa [Array.getD_eq_getD_getElem?, hp, hq] using e)
        omega)
      rw [hkey] at this
      exact this
    · refine (zxz (T := T) (hz j hj).2 (hz j hj).1 (hval.kept (no _ hbj1)) (hTn wn hself)).mono ?_
      rintro e1 w' ⟨rfl, hO1, hg1⟩
      refine ⟨rfl, ?_⟩
      have hds : (Sort.sort Sort.ltInt (gs.getD j default).2.toArray).size = (gs.getD j default).2.length := by rw [ztL]; simp
      refine (zuC (T := T) (d := Sort.sort Sort.ltInt (gs.getD j default).2.toArray) (by rw [hds]; exact (hz j hj).2) (by rw [hds]; exact List.length_pos_iff.2 (hz j hj).1) hO1 (hTn w' hg1) (by have := hbase j hj; have := hg1.size; omega)).mono ?_
      rintro e2 w'' ⟨v', g', rfl, hO2, hg', hg2⟩
      refine ⟨v', rfl, ?_⟩
      have hg12 : wn.grownBy w'' (some (blk j)) := ⟨hg2.os.trans hg1.os, hg2.tape.trans hg1.tape, hg2.output.trans hg1.output, Nat.le_trans hg1.size hg2.size, fun b hb hne => (hg2.block b (Nat.lt_of_lt_of_le hb hg1.size) hne).trans (hg1.block b hb hne)⟩
      have hmj : m ≠ blk j := by have := hbase j hj; omega
      have hm2 : w''.heap[m]? = some (.map es clock) := (hg12.block m (by rw [ns]; omega) (by simpa using hmj)).trans ((no m (by omega)).trans hG.heap)
      have hg'b : base ≤ g' := by obtain ⟨_, _, _, _, h2, _⟩ := hO2; exact h2
      have hg'l : g' < w''.heap.size := by obtain ⟨_, _, _, _, _, h3, _⟩ := hO2; exact zj h3
      have hg'r : g' ≠ r := by
        rcases hg' with rfl | h3
        · exact hbj1
        · have := hg1.size; omega
      have hf : Instr.findNow (.int .i64) (.int .i64 (gs.getD j default).1) es.toList 0 = some (some (j, (es.getD j default).val)) := by
        rcases hG.find (gs.getD j default).1 with ⟨hn, -⟩ | ⟨i, hi, hi2, hf⟩
        · refine absurd ?_ hn
          refine List.mem_map.2 ⟨(gAt gs born seen).getD j default, ?_, by rw [hgj]⟩
          simp [List.getD, hjl]
        · rw [zfv] at hi
          rw [zwW hi] at hi2
          have := hk i j hi hj hi2
          subst this
          exact hf
      obtain ⟨es', hup, hG', hbn⟩ := hG.set (w1 := w'') (c := (gs.getD j default).1) (i := j) (u := (es.getD j default).val) (v := v') (g := g') (zs := zgd (gs.getD j default).2) hjl (by rw [hgj]) hf hm2
        (fun o => hO2.kept (by simp [Array.getElem?_setIfInBounds_ne (show m ≠ g' by omega)]))
        (fun o i hi hij => (hG.val i hi).kept (by
          rw [zfv] at hi
          have h1 := hbase i hi
          have h2 : blk i ≠ blk j := fun e => hij (hG.apart i j (by rw [zfv]; exact hi) hjl e)
          obtain ⟨h3, h4⟩ := hblk i hi
          show (w''.heap.setIfInBounds m o)[blk i]? = _
          rw [Array.getElem?_setIfInBounds_ne (show m ≠ blk i by omega), hg12.block (blk i) (by rw [ns]; exact h4) (by simpa using h2), no _ h3]))
        (fun i hi hij => by
          rw [zfv] at hi
          have h2 : blk i ≠ blk j := fun e => hij (hG.apart i j (by rw [zfv]; exact hi) hjl e)
          have h4 := (hblk i hi).2
          rcases hg' with rfl | h3
          · exact h2
          · have := hg1.size; omega)
      refine ⟨_, seen.push (born j), hup, ⟨⟨es', fun i => if i = j then g' else blk i, ?_, fun i hi => (hbn i (by rw [zfv]; exact hi)).trans (hborn i hi), fun i hi => ?_⟩, ?_, ?_, hmb, hbr, hwm⟩, zwE hj hs⟩
      · rw [zAU hj (fun i hi e => hbi i j hi hj e)]
        exact hG'
      · show (if i = j then g' else blk i) ≠ r ∧ (if i = j then g' else blk i) < _
        by_cases e : i = j
        · rw [if_pos e]; exact ⟨hg'r, by simpa using hg'l⟩
        · rw [if_neg e]
          refine ⟨(hblk i hi).1, ?_⟩
          have := (hblk i hi).2; have := hg12.size; simp; omega
      · show (w''.heap.setIfInBounds m _)[r]? = _
        rw [Array.getElem?_setIfInBounds_ne (show m ≠ r by omega), hg12.block r (by rw [ns]; exact hrlt) (by simpa using Ne.symm hbj1), nr]
      · refine ⟨hg12.os.trans hgn.os, hg12.tape.trans hgn.tape, hg12.output.trans hgn.output, by simp; exact Nat.le_trans hgn.size hg12.size, fun b hb _ => ?_⟩
        show (w''.heap.setIfInBounds m _)[b]? = _
        have := hbase j hj
        rw [Array.getElem?_setIfInBounds_ne (show m ≠ b by omega), hg12.block b (Nat.lt_of_lt_of_le hb hgn.size) (by simp; omega), hgn.block b hb (by simp)]
def zA5 (r n : Nat) (born : Nat → Nat) (w : World) : Nat := match w.heap[r]? with
  | some (.mapIter _ _ seen _) => zko n born seen
  | _ => 0
theorem Mid.mu {w wr : World} {m base r clock n : Nat} {gs : GI} {born : Nat → Nat} {seen : Array Nat} (h : Mid w m base r clock gs born seen wr) : zA5 r n born wr = zko n born seen := by
  rw [zA5, h.iter]
theorem zCy {gs : GI} {born : Nat → Nat} : gAt gs born #[] = gs := by
  refine List.ext_getElem (by simp [gAt]) fun j h1 h2 => ?_
  simp [gAt, List.getD, h2]
theorem zCx {gs : GI} {born : Nat → Nat} {seen : Array Nat} (h : ∀ j, j < gs.length → seen.contains (born j) = true) : gAt gs born seen = gs.map fun p => (p.1, zgd p.2) := by
  refine List.ext_getElem (by simp [gAt]) fun j h1 h2 => ?_
  have hj : j < gs.length := by simpa using h2
  have := h j hj
  simp only [gAt, List.getElem_map, List.getElem_range, this, if_true]
  simp [List.getD, hj]
theorem Mid.start {w wr : World} {m base clock : Nat} {gs : GI} {es : Array MapEntry} {blk : Nat → Nat} (hG : Grp (O1 base) wr m gs es clock blk) (hz : ∀ j, j < gs.length → (gs.getD j default).2.length ≤ 536870912)
    (hgr : w.grownBy wr none) (hmb : m < base) (hb : base ≤ wr.heap.size) (hwm : w.heap.size ≤ m) :
    Mid w m base wr.heap.size clock gs (fun j => (es.getD j default).born) #[] (wr.alloc (.mapIter (some m) clock #[] clock)) := by
  refine ⟨⟨es, blk, ?_, fun j hj => rfl, fun j hj => ?_⟩, heap_alloc_new _ _, hgr.trans (World.grownBy_alloc _ _ _), hmb, hb, hwm⟩
  · rw [zCy]
    exact ⟨(heap_alloc_old _ _ (zj hG.heap)).trans hG.heap, hG.st, hG.size, hG.key, fun i hi => ((hG.val i hi).O2 (hz i hi)).kept (heap_alloc_old _ _ (hG.val i hi).lt.2), hG.apart⟩
  · have := (hG.val j hj).lt
    exact ⟨by omega, by simp; omega⟩
end Go.Ab
namespace Go.Ab
open Go Go.Proofs Go.MapKept Go.RowKit Go.WideMaps Go.Maps
theorem zBs : (Tryz.prog.info? 3).map (fun i => (i.zero, i.size, i.bytes)) = some (some (.int .i64 0), 1, 8) := by kernel_rfl
variable {T : Nat → Obj → Prop}
theorem zEf {cell rank : List Int} (hl : cell.length ≤ 536870912) : ∀ j, j < (zZ cell rank cell.length).length → ((zZ cell rank cell.length).getD j default).2 ≠ [] ∧ ((zZ cell rank cell.length).getD j default).2.length ≤ 536870912 := by
  intro j hj
  have hm : (zZ cell rank cell.length).getD j default ∈ zZ cell rank cell.length := by simp [List.getD, hj]
  obtain ⟨c, hc, e⟩ := List.mem_map.1 hm
  rw [← e]
  refine ⟨fun h => ?_, Nat.le_trans zwZ hl⟩
  rw [List.take_length] at hc
  obtain ⟨i, hi, h2⟩ := zia.1 (znd.1 hc)
  have : at0 rank i ∈ inC rank cell cell.length c := List.mem_map.2 ⟨i, List.mem_filter.2 ⟨List.mem_range.2 hi, by simpa using h2⟩, rfl⟩
  rw [show inC rank cell cell.length c = [] from h] at this
  cases this
theorem zCz {cell rank : List Int} : ∀ i j, i < (zZ cell rank cell.length).length → j < (zZ cell rank cell.length).length → ((zZ cell rank cell.length).getD i default).1 = ((zZ cell rank cell.length).getD j default).1 → i = j := by
  intro i j hi hj e
  have hn : ((zZ cell rank cell.length).map Prod.fst).Nodup := by rw [zta]; exact zoU
  have hi' : i < ((zZ cell rank cell.length).map Prod.fst).length := by simpa using hi
  have hj' : j < ((zZ cell rank cell.length).map Prod.fst).length := by simpa using hj
  refine (List.getElem_inj (h₀ := hi') (h₁ := hj') hn).1 ?_
  simpa [List.getD, hi, hj] using e
set_option maxHeartbeats 4000000 in
set_option maxRecDepth 100000 in
theorem zrU (b1 o1 cap1 b2 o2 cap2 n2 : Nat) (cell rank : List Int) (w : World) (hn : 0 < cell.length) (hn2 : cell.length ≤ n2) (hl : cell.length ≤ 536870912)
    (hT : ∀ b o, T b o → w.heap[b]? = some o) (hb1 : b1 < w.heap.size) (hb2 : b2 < w.heap.size)
    (hc1 : ∀ j, j < cell.length → w.cell? ⟨b1, o1 + j, none⟩ = some (.int .i64 (at0 cell j))) (hc2 : ∀ j, j < cell.length → w.cell? ⟨b2, o2 + j, none⟩ = some (.int .i64 (at0 rank j))) :
    Calls Tryz.prog 70 #[.slice (some ⟨b1, o1, none⟩) cell.length cap1, .slice (some ⟨b2, o2, none⟩) n2 cap2] w fun e w' => e = .returned (.map (some w.heap.size)) ∧ w.grownBy w' none ∧ ∃ es clock blk, Grp (O2 (w.heap.size + 1)) w' w.heap.size ((zZ cell rank cell.length).map fun p => (p.1, zgd p.2)) es clock blk := by
  have hmm := @run_makeMap Tryz.prog
  obtain ⟨i0, hi, hz0, hz1, hz2⟩ := info_parts zBs
  go_enter Tryz.func70, Tryz.ntmps70
  go_wp2
  go_loopw [13] (fun i wr => ∃ k : Nat, k ≤ cell.length ∧ i = .int .i64 k ∧ ∃ es clock blk, Grp (O1 (w.heap.size + 1)) wr w.heap.size (zZ cell rank k) es clock blk ∧ w.grownBy wr none ∧ w.heap.size + 1 ≤ wr.heap.size)
    (fun i _ => cell.length - (RowKit.intOf i).toNat)
  case atStart =>
    refine ⟨0, Nat.zero_le _, rfl, #[], 0, fun _ => 0, ?_, World.grownBy_alloc _ _ _, by simp⟩
    exact ⟨heap_alloc_new _ _, ⟨fun i j hi => by simp at hi, fun i hi => by simp at hi⟩, rfl, fun i hi => by simp [zZ, zJ] at hi, fun i hi => by simp [zZ, zJ] at hi, fun i j hi => by simp [zZ, zJ] at hi⟩
  case round =>
    obtain ⟨k, hk, rfl, es, clock, blk, hG, hgr, hsz⟩ := hrel
    have hcx1 : k < cell.length → wr.cell? ⟨b1, o1 + k, none⟩ = some (.int .i64 (at0 cell k)) := fun hlt => (ze0 (hgr.block b1 hb1 (by simp))).trans (hc1 k hlt)
    have hcx2 : k < cell.length → wr.cell? ⟨b2, o2 + k, none⟩ = some (.int .i64 (at0 rank k)) := fun hlt => (ze0 (hgr.block b2 hb2 (by simp))).trans (hc2 k hlt)
    obtain ⟨v, zs, tgt, hvm, hlook, hown, hcase, hback⟩ := hG.look1 (Nat.lt_succ_self _) (at0 cell k)
    have hmw : w.heap.size < wr.heap.size := by omega
    have hzl : zs.length ≤ k := by
      rcases hcase with ⟨i, hi1, -, rfl, -⟩ | ⟨-, rfl, -⟩
      · have : (zZ cell rank k).getD i default ∈ zZ cell rank k := by simp [List.getD, hi1]
        obtain ⟨c, -, hc⟩ := List.mem_map.1 this
        rw [← hc]; exact zwZ
      · simp
    have hvb : ∀ b, b < w.heap.size → some b ≠ v.ownBlock := fun b hb e => by have := (hown.lt b e.symm).1; omega
    have hik0 : (0 : Int) ≤ (k : Int) := Int.natCast_nonneg _
    have hik1 : k < cell.length → (k : Int) < (n2 : Int) := fun h => by omega
    have hbk : k < cell.length → ∀ w1 gg cap o, (wr.drew.alloc o).grownBy w1 v.ownBlock → w1.ownsRow (w.heap.size + 1) 3 1 (.slice (some ⟨gg, 0, none⟩) (zs.length + 1) cap) (zs.length + 1) (zs.map (Value.int .i64) ++ [.int .i64 (at0 rank k)]) → (v.ownBlock = some gg ∨ gg = wr.heap.size + 1) →
        ∃ w2 es' clock' blk', (Instr.mapUpdate 90 (.map (some w.heap.size)) (.int .i64 (at0 cell k)) (.slice (some ⟨gg, 0, none⟩) (zs.length + 1) cap)).run Tryz.prog w1 = .ok () w2 ∧ Grp (O1 (w.heap.size + 1)) w2 w.heap.size (zZ cell rank (k + 1)) es' clock' blk' ∧ w.grownBy w2 none ∧ w.heap.size + 1 ≤ w2.heap.size := by
      intro hlt w1 gg cap o hgrow hown1 hat
      have h1 : wr.drew.grownBy w1 v.ownBlock := (World.grownBy_alloc wr.drew _ _).trans hgrow
      obtain ⟨w2, es', clock', blk', q1, q2, q3⟩ := hback w1 _ _ ⟨h1.os, h1.tape, h1.output, h1.size, h1.block⟩ hown1 (hat.elim (fun h => .inl h.symm) (fun h => .inr (.inr ⟨gg, rfl, by omega⟩)))
      have hs1 : wr.heap.size ≤ w1.heap.size := h1.size
      have hs2 := q3.size
      refine ⟨w2, es', clock', blk', q1, ?_, ⟨q3.os.trans (h1.os.trans hgr.os), q3.tape.trans (h1.tape.trans hgr.tape), q3.output.trans (h1.output.trans hgr.output), by omega, fun b hb _ => ?_⟩, by omega⟩
      · rcases hcase with ⟨i, hi1, hi2, rfl, rfl⟩ | ⟨hn1, rfl, rfl⟩
        · rw [zDG hlt hi1 hi2]; exact q2
        · rw [zDF hlt hn1]; exact q2
      · exact (q3.block b (by omega) (by simp; omega)).trans ((h1.block b (show b < wr.heap.size by omega) (hvb b hb)).trans (hgr.block b hb (by simp)))
    have hrange := run_range_map (P := Tryz.prog) wr 90 3 28 w.heap.size es clock Tryz.underlying90 hG.heap
    go_wp2_with fail
    · clear hrange
      have hlt : k < cell.length := by assumption
      have hik1 := hik1 hlt
      have hl0 : (Instr.lookup 90 (.map (some w.heap.size)) (.int .i64 (at0 cell k)) false).run Tryz.prog wr.drew = .ok v wr.drew := hlook _ rfl
      have hl1 : ∀ o, (Instr.lookup 90 (.map (some w.heap.size)) (.int .i64 (at0 cell k)) false).run Tryz.prog (wr.drew.alloc o) = .ok v (wr.drew.alloc o) := fun o => hlook _ (heap_alloc_old _ _ hmw)
      have hb2r : b2 < wr.heap.size := by omega
      have hl2 : ∀ o, (Instr.lookup 90 (.map (some w.heap.size)) (.int .i64 (at0 cell k)) false).run Tryz.prog (wr.alloc o).drew = .ok v (wr.alloc o).drew := fun o => hlook _ (heap_alloc_old _ _ hmw)
      have hc2k := hcx2 hlt
      go_region_law
        ((refine step_append_lies _ (by rfl) _ _ _ (by rfl) (w.heap.size + 1) 3 i0 _ 1 8 Tryz.underlying28 hi hz0 hz1 hz2 rfl (by omega) v zs.length (zs.map (Value.int .i64)) (by rfl) (hown.drew.alloc _)
            ⟨wr.heap.size, 0, none⟩ 1 1 [.int .i64 (at0 rank k)] (by rfl) (by rfl) (World.news_of_block (cs := #[.int .i64 (at0 rank k)]) (t := 3) (fr := (0, 0)) (heap_alloc_new _ _)) (by simp [Value.oneCell'])
            (by omega) (by unfold maxLen; omega) (by omega) (by simp; omega) (wr.heap.size + 1) (by simp) ?_; intro gg cap w1 hown1 hgrow hat hlt1; obtain ⟨w2, es', clock', blk', hup, hG2, hgr2, hsz2⟩ := hbk hlt w1 gg cap _ hgrow hown1 hat))
      all_goals
        clear hup hl0 hl1 hl2
        go_wp2
        go_roundw
        case rel =>
          exact ⟨k + 1, by omega, by go_num, es', clock', blk', hG2, hgr2, hsz2⟩
        case measure => simp [RowKit.intOf]; omega
    · have hke : k = cell.length := by omega
      subst hke
      have hz : ∀ j, j < (zZ cell rank cell.length).length → ((zZ cell rank cell.length).getD j default).2 ≠ [] ∧ ((zZ cell rank cell.length).getD j default).2.length ≤ 536870912 := zEf hl
      have hk : ∀ i j, i < (zZ cell rank cell.length).length → j < (zZ cell rank cell.length).length → ((zZ cell rank cell.length).getD i default).1 = ((zZ cell rank cell.length).getD j default).1 → i = j := zCz
      have hM := Mid.start hG (fun j hj => (hz j hj).2) hgr (Nat.lt_succ_self _) hsz (Nat.le_refl _)
      generalize hborn : (fun j => (es.getD j default).born) = born at hM
      generalize hrr : wr.heap.size = r at hM
      clear hback hbk hlook hcase hrange hG
      rw [show decide (cell.length < cell.length) = false by simp]
      go_loopw [8] (fun _ wr2 => ∃ seen, Mid w w.heap.size (w.heap.size + 1) r clock (zZ cell rank cell.length) born seen wr2) (fun _ wr2 => zA5 r (zZ cell rank cell.length).length born wr2)
      case atStart => exact ⟨#[], hM⟩
      case round =>
        obtain ⟨seen, hM2⟩ := hrel
        rcases hM2.round (T := T) 0 hT hk hz with ⟨hnext, hall⟩ | ⟨c, v, wn, hnext, hentry, hcalls⟩
        · go_wp2
          go_ret
          refine ⟨rfl, hM2.grown, ?_⟩
          obtain ⟨es2, blk2, h1, -⟩ := hM2.ex
          rw [zCx hall] at h1
          exact ⟨es2, _, blk2, h1⟩
        · go_wp2_with (first
            | (go_at_call 110; refine hcalls.mono ?_; rintro e w' ⟨rfl, hcomp⟩)
            | (go_at_call 111; refine hcomp.mono ?_; rintro e w'' ⟨v', rfl, wz, seen', hup, hMz, hlt⟩))
          go_roundw
          case rel => exact ⟨seen', hMz⟩
          case measure => rw [hMz.mu, hM2.mu]; exact hlt
end Go.Ab
namespace Go.Ab
open Go Go.Proofs Go.MapKept
section
variable {α : Type} [Inhabited α] [DecidableEq α]
theorem zj6 {d : Array α} {x : α} : ∀ {n : Nat}, x ∈ ddA d n ↔ ∃ i, i < n ∧ d[i]! = x
  | 0 => by simp [ddA]
  | n + 1 => by
    rw [ddA]
    constructor
    · intro h
      split at h
      · obtain ⟨i, h1, h2⟩ := zj6.1 h
        exact ⟨i, by omega, h2⟩
      · rcases List.mem_append.1 h with h | h
        · obtain ⟨i, h1, h2⟩ := zj6.1 h
          exact ⟨i, by omega, h2⟩
        · exact ⟨n, by omega, by simp at h; exact h.symm⟩
    · rintro ⟨i, h1, h2⟩
      split
      · rename_i hc
        by_cases e : i = n
        · subst e
          exact zj6.2 ⟨i - 1, by omega, by rw [← hc.2]; exact h2⟩
        · exact zj6.2 ⟨i, by omega, h2⟩
      · by_cases e : i = n
        · subst e; exact List.mem_append.2 (.inr (by simp [h2]))
        · exact List.mem_append.2 (.inl (zj6.2 ⟨i, by omega, h2⟩))
theorem zsd {lt : α → α → Bool} {d : Array α} (hs : ∀ i j, i < j → j < d.size → lt d[j]! d[i]! = false) (tri : ∀ x y, lt x y = false → lt y x = false → x = y) : ∀ {n : Nat}, n ≤ d.size → (ddA d n).Pairwise fun x y => lt x y = true
  | 0, _ => List.Pairwise.nil
  | n + 1, h => by
    rw [ddA]
    split
    · exact zsd hs tri (by omega)
    · rename_i hc
      refine List.pairwise_append.2 ⟨zsd hs tri (by omega), List.pairwise_singleton _ _, fun x hx y hy => ?_⟩
      obtain ⟨i, hi, rfl⟩ := zj6.1 hx
      have hy : y = d[n]! := by simpa using hy
      subst hy
      cases hb : lt d[i]! d[n]! with
      | true => rfl
      | false =>
        have e1 := tri _ _ hb (hs i n hi (by omega))
        refine absurd ⟨by omega, ?_⟩ hc
        by_cases e : i = n - 1
        · rw [← e]; exact e1.symm
        · refine (tri _ _ ?_ ?_)
          · exact hs (n - 1) n (by omega) (by omega)
          · rw [← e1]; exact hs i (n - 1) (by omega) (by omega)
theorem zvJ {R : α → α → Prop} (irr : ∀ x, ¬R x x) (tr : ∀ x y z, R x y → R y z → R x z) : ∀ {l l' : List α}, l.Pairwise R → l'.Pairwise R → (∀ x, x ∈ l ↔ x ∈ l') → l = l'
  | [], [], _, _, _ => rfl
  | [], y :: l', _, _, h => by have := (h y).2 (by simp); cases this
  | x :: l, [], _, _, h => by have := (h x).1 (by simp); cases this
  | x :: l, y :: l', h1, h2, h => by
    obtain ⟨a1, a2⟩ := List.pairwise_cons.1 h1
    obtain ⟨b1, b2⟩ := List.pairwise_cons.1 h2
    have hxy : x = y := by
      rcases List.mem_cons.1 ((h x).1 (by simp)) with e | hx
      · exact e
      · rcases List.mem_cons.1 ((h y).2 (by simp)) with e | hy
        · exact e.symm
        · exact absurd (tr _ _ _ (a1 y hy) (b1 x hx)) (irr x)
    subst hxy
    rw [zvJ irr tr a2 b2 fun z => ?_]
    constructor
    · intro hz
      rcases List.mem_cons.1 ((h z).1 (List.mem_cons_of_mem _ hz)) with rfl | h3
      · exact absurd (a1 z hz) (irr z)
      · exact h3
    · intro hz
      rcases List.mem_cons.1 ((h z).2 (List.mem_cons_of_mem _ hz)) with rfl | h3
      · exact absurd (b1 z hz) (irr z)
      · exact h3
end
theorem zBM {α : Type} [Inhabited α] {lt : α → α → Bool} (hS : Sort.SWO lt) (d : Array α) : (Sort.sort lt d).toList.Perm d.toList := by
  obtain ⟨⟨h1, -, h2⟩, -⟩ := Sort.sort_sorts lt hS d
  have e1 : (Sort.sort lt d).extract 0 d.size = Sort.sort lt d := by rw [← h1]; simp
  have e2 : d.extract 0 d.size = d := by simp
  rwa [e1, e2] at h2
theorem zCH {α : Type} [Inhabited α] {d : Array α} {x : α} : x ∈ d.toList ↔ ∃ i, i < d.size ∧ d[i]! = x := by
  constructor
  · intro h
    obtain ⟨i, hi, rfl⟩ := List.getElem_of_mem h
    rw [Array.length_toList] at hi
    exact ⟨i, hi, by simp [hi]⟩
  · rintro ⟨i, hi, rfl⟩
    rw [show d[i]! = d.toList[i]'(by simpa using hi) by simp [hi]]
    exact List.getElem_mem _
theorem zwT (zs : List Int) : zgd zs = znu zs := by
  have hS := Sort.swo_ltInt
  obtain ⟨⟨h1, -, -⟩, h3⟩ := Sort.sort_sorts Sort.ltInt hS zs.toArray
  refine zvJ (R := (· < ·)) (fun x => Int.lt_irrefl x) (fun x y z => Int.lt_trans) ?_ zhq fun x => ?_
  · have := zsd (lt := Sort.ltInt) (d := Sort.sort Sort.ltInt zs.toArray) (fun i j hij hj => h3 i j (Nat.zero_le _) hij (by rw [← h1]; exact hj)) (fun x y a b => by simp only [Sort.ltInt, decide_eq_false_iff_not] at a b; omega) (Nat.le_refl _)
    exact this.imp fun h => by simpa [Sort.ltInt] using h
  · rw [zoR, zgd, zj6, ← zCH, (zBM hS zs.toArray).mem_iff]
end Go.Ab
namespace Go.Ab
open Go Go.Proofs Go.MapKept Go.RowKit Go.WideMaps Go.Maps
variable {T : Nat → Obj → Prop}
set_option maxRecDepth 100000 in
theorem zrT (a : Option Addr) (cap : Nat) (vb : Value) (w : World) :
    Calls Tryz.prog 70 #[.slice a 0 cap, vb] w fun e w' => e = .returned (.map (some w.heap.size)) ∧ w.grownBy w' none ∧ w'.heap[w.heap.size]? = some (.map #[] 0) := by
  have hmm := @run_makeMap Tryz.prog
  have hrange := run_range_map (P := Tryz.prog) (w.alloc (.map #[] 0)) 90 3 28 w.heap.size #[] 0 Tryz.underlying90 (heap_alloc_new _ _)
  have hnext : (Instr.next (.pointer (some ⟨w.heap.size + 1, 0, none⟩)) false 0).run Tryz.prog ((w.alloc (.map #[] 0)).alloc (.mapIter (some w.heap.size) 0 #[] 0)) = .ok (.tuple #[.bool false]) ((w.alloc (.map #[] 0)).alloc (.mapIter (some w.heap.size) 0 #[] 0)) := by
    rcases run_next_at (P := Tryz.prog) ((w.alloc (.map #[] 0)).alloc (.mapIter (some w.heap.size) 0 #[] 0)) 0 (w.heap.size + 1) w.heap.size 0 0 #[] #[] 0 (by have := heap_alloc_new (w.alloc (.map #[] 0)) (.mapIter (some w.heap.size) 0 #[] 0); simpa using this)
      ((heap_alloc_old _ _ (by simp)).trans (heap_alloc_new _ _)) (by simp) (Nat.le_refl _) with ⟨-, h⟩ | ⟨e, he, -⟩
    · exact h
    · simp [leftOf] at he
  simp only [show (w.alloc (.map #[] 0)).heap.size = w.heap.size + 1 by simp] at hrange
  go_enter Tryz.func70, Tryz.ntmps70
  go_wp2
  refine wp_loop_rounds 1 ?_
  rw [rounds_succ]
  go_wp2
  refine wp_loop_rounds 1 ?_
  rw [rounds_succ]
  go_wp2
  go_ret
  exact ⟨rfl, (World.grownBy_alloc _ _ _).trans (World.grownBy_alloc _ _ _), (heap_alloc_old _ _ (by simp)).trans (heap_alloc_new _ _)⟩
theorem zqS : zcp T := by
  intro cell rank hle h64
  refine zkR ⟨_, Tryz.func70, by decide, rfl⟩ fun B σ a w args hT hS hsz hargs => ?_
  have ha : args = #[args.getD 0 undef, args.getD 1 undef] := by
    apply Array.ext
    · simpa using hsz
    · intro i h1 h2
      match i, h2 with
      | 0, _ => simp [Array.getD, show 0 < args.size by omega]
      | 1, _ => simp [Array.getD, show 1 < args.size by omega]
  have h0 := hargs 0 (by simp)
  have h1 := hargs 1 (by simp)
  have fin : ∀ (e : Ending) (w' : World) (es : Array MapEntry) (clock : Nat) (blk : Nat → Nat), e = .returned (.map (some w.heap.size)) → w.grownBy w' none → Grp (O2 (w.heap.size + 1)) w' w.heap.size ((zZ cell rank cell.length).map fun p => (p.1, zgd p.2)) es clock blk →
      ∃ v' σ', e = .returned v' ∧ Sim B (fun _ => .undef) (zz []) (fun i => ([] : List (Option Ob)).length ≤ i) σ' a w' ∧ VSim σ' (zz []) (fun i => ([] : List (Option Ob)).length ≤ i) (B.X σ' (zz [])) w' (.d (.map (zi5 cell rank))) v' ∧
        ∀ i ob, ([] : List Ob)[i]? = some ob → zz [] i = none ∨ (σ' i = σ i ∧ ∃ ob', zz [] i = some ob' ∧ zcd ob ob') := by
    intro e w' es clock blk he hg hG
    have hX : ∀ b, w.heap.size ≤ b → ¬B.X σ (zz []) b := by
      rintro b hb (h | ⟨id, h, -⟩)
      · have := hS.olt b h; omega
      · exact h (by simp [zz])
    have hgl : ((zZ cell rank cell.length).map fun p => (p.1, zgd p.2)).length = (zJ cell).length := by simp [zZ]
    have hgd : ∀ i, i < (zJ cell).length → ((zZ cell rank cell.length).map fun p => (p.1, zgd p.2)).getD i default = ((zJ cell).getD i 0, zaB cell rank ((zJ cell).getD i 0)) := by
      intro i hi
      simp only [zZ, List.take_length, List.map_map, List.getD, List.getElem?_map, List.getElem?_eq_getElem hi, Option.map_some, Option.getD_some, Function.comp, zwT]
      rfl
    refine ⟨_, σ, he, ⟨fun t => .undef _, fun id ob h => by simp [zz] at h, fun i j b h => absurd (by simp [zz]) h, fun id b h => absurd (by simp [zz]) h, fun _ _ => by simp [zz], ?_, hS.nt, fun b hb => Nat.lt_of_lt_of_le (hS.olt b hb) hg.size, fun b o hp => (hg.block b (zj (hS.pins b o hp)) (by simp)).trans (hS.pins b o hp), fun id l h => by simp [zz] at h⟩, .d _ _ ?_, fun i ob h => by simp at h⟩
    · refine ⟨hg.os.trans hS.kept.os, hg.tape.trans hS.kept.tape, hg.output.trans hS.kept.output, Nat.le_trans hS.kept.size hg.size, fun b hb hR => (hg.block b (Nat.lt_of_lt_of_le hb hS.kept.size) (by simp)).trans (hS.kept.block b hb hR), fun b c e h => ?_⟩
      obtain ⟨c', h1, h2⟩ := hS.kept.cells b c e h
      exact ⟨c', (hg.block b (zj h1) (by simp)).trans h1, h2⟩
    · refine .map _ _ es clock (hX _ (Nat.le_refl _)) (zj hG.heap) hG.heap (by rw [hG.size, hgl]; simp) hG.st (fun i hi => ?_) (fun i hi => ?_)
      · rw [List.length_map] at hi
        rw [hG.key i (by rw [hgl]; exact hi), hgd i hi, show ((zJ cell).map fun c => (D.int .i64 c, dI (zaB cell rank c))).getD i (.nil, .nil) = (D.int .i64 ((zJ cell).getD i 0), dI (zaB cell rank ((zJ cell).getD i 0))) by simp [List.getD, hi]]
        exact .int .i64 _ (by simp)
      · rw [List.length_map] at hi
        have hv := hG.val i (by rw [hgl]; exact hi)
        rw [hgd i hi] at hv
        rw [show ((zJ cell).map fun c => (D.int .i64 c, dI (zaB cell rank c))).getD i (.nil, .nil) = (D.int .i64 ((zJ cell).getD i 0), dI (zaB cell rank ((zJ cell).getD i 0))) by simp [List.getD, hi]]
        simp only
        generalize zaB cell rank ((zJ cell).getD i 0) = zs at hv
        replace hv : O2 (w.heap.size + 1) w' (es.getD i default).val (blk i) zs := hv
        obtain ⟨cap, c, e, q1, q2, q3, q4, q5, q6, q7⟩ := hv
        rw [q1]
        have hl : (zs.map (D.int .i64)).length = zs.length := List.length_map _
        rw [← hl]
        refine .arr 1 (zs.map (D.int .i64)) (blk i) 0 cap (fun j => c.getD j undef) (hX _ (by omega)) (zj q3) (fun x hx => ?_) (by omega) (by omega) (fun j hj => ?_) (fun j k hj hk => ?_)
        · obtain ⟨y, -, rfl⟩ := List.mem_map.1 hx; rfl
        · have hjc : j < c.size := by omega
          simp [World.cell?, q3, Array.getD_eq_getD_getElem?, hjc]
        · have : k = 0 := by omega
          subst this
          rw [hl] at hj
          rw [Nat.mul_one, Nat.add_zero]
          rw [q7 j hj, show (zs.map (D.int .i64)).getD j .nil = .int .i64 (zs.getD j 0) by simp [List.getD, hj]]
          exact .int .i64 _ (by simp)
  have read : ∀ (xs : List Int) (v : Value), xs ≠ [] → zk (B.X σ (zz [])) w (dI xs) v → ∃ b off cap, v = .slice (some ⟨b, off, none⟩) xs.length cap ∧ b < w.heap.size ∧ ∀ j, j < xs.length → w.cell? ⟨b, off + j, none⟩ = some (.int .i64 (at0 xs j)) := by
    intro xs v hne hd
    unfold dI at hd
    have hl : (xs.map (D.int .i64)).length = xs.length := List.length_map _
    generalize hys : xs.map (D.int .i64) = ys at hd hl
    cases hd with
    | arr0 s a cap => exact absurd (List.eq_nil_of_length_eq_zero (by simpa using hl.symm)) hne
    | arr s _ b off cap cv g1 g2 g3 g4 g5 g6 g7 =>
      refine ⟨b, off, cap, by rw [hl], g2, fun j hj => ?_⟩
      have h6 := g6 j (by omega)
      have h7 := g7 j 0 (by omega) (by omega)
      rw [Nat.mul_one, Nat.add_zero, ← hys, show (xs.map (D.int .i64)).getD j .nil = .int .i64 (at0 xs j) by simp [List.getD, at0, hj]] at h7
      rw [h6]
      generalize cv j = z at h7
      cases h7; rfl
  rw [ha]
  have e0 : ([V.d (dI cell), V.d (dI rank)].getD 0 .undef) = .d (dI cell) := rfl
  have e1 : ([V.d (dI cell), V.d (dI rank)].getD 1 .undef) = .d (dI rank) := rfl
  rw [e0] at h0
  rw [e1] at h1
  generalize args.getD 0 undef = va at h0
  generalize args.getD 1 undef = vb at h1
  cases h0 with
  | d _ _ hd0 =>
  cases h1 with
  | d _ _ hd1 =>
  by_cases hc : cell = []
  · subst hc
    have hv : ∃ a' cap, va = .slice a' 0 cap := by
      unfold dI at hd0
      cases hd0 with
      | arr0 s a' cap => exact ⟨a', cap, rfl⟩
      | arr s _ b off cap cv => exact ⟨_, cap, rfl⟩
    obtain ⟨a', cap, rfl⟩ := hv
    refine (zrT a' cap vb w).mono ?_
    rintro e w' ⟨he, hg, hh⟩
    exact fin e w' #[] 0 (fun _ => 0) he hg ⟨hh, ⟨fun i j hi => by simp at hi, fun i hi => by simp at hi⟩, rfl, fun i hi => by simp [zZ, zJ] at hi, fun i hi => by simp [zZ, zJ] at hi, fun i j hi => by simp [zZ, zJ] at hi⟩
  · have hpos : 0 < cell.length := List.length_pos_iff.2 hc
    obtain ⟨b1, o1, cap1, rfl, l1, c1⟩ := read cell va hc hd0
    obtain ⟨b2, o2, cap2, rfl, l2, c2⟩ := read rank vb (fun e => by rw [e] at hle; simp at hle; exact hc (List.eq_nil_of_length_eq_zero (by simp [hle]))) hd1
    refine (zrU (T := T) b1 o1 cap1 b2 o2 cap2 rank.length cell rank w hpos hle (by omega) (fun b o ht => hS.pins b o (hT b o ht)) l1 l2 c1 (fun j hj => c2 j (by omega))).mono ?_
    rintro e w' ⟨he, hg, es, clock, blk, hG⟩
    exact fin e w' es clock blk he hg hG
end Go.Ab
namespace Go.Ab
open Go Go.Proofs
theorem zBP {p:PM} {a:Nat} : (za8 p a).length=p.W.toNat:=by simp [za8]
theorem zCS {p:PM} {a:Nat} (hW:p.W≤64) {w v:Nat} : rb (za8 p a) w v=(decide (w < p.W.toNat)&&decide (v < p.W.toNat)&&(at0 (zb p.cell a) v==at0 (zb p.cell a) w)&&decide (at0 (zb p.rank a) v≤at0 (zb p.rank a) w)):=by
 by_cases hw:w < p.W.toNat
 ·have:(za8 p a)[w]? = some (zaV (zb p.cell a) (zb p.rank a) w p.W.toNat):=by simp [za8,hw]
  rw [zEk this,zaV,zi6]
  by_cases hv:v < p.W.toNat
  ·simp [hw,hv,show v < 64 by omega]
  ·simp [hv]
 ·rw [zDQ (by rw [zBP];omega)];simp [hw]
theorem zwz {p:PM} {a:Nat} (hW:p.W≤64) {w v:Nat} : rb (za8 p a) w v=true↔w < p.W.toNat∧v < p.W.toNat∧at0 (zb p.cell a) v=at0 (zb p.cell a) w∧at0 (zb p.rank a) v≤at0 (zb p.rank a) w:=by
 rw [zCS hW]
 simp only [Bool.and_eq_true,decide_eq_true_eq,beq_iff_eq,and_assoc]
end Go.Ab
namespace Go.Ab
open Go
theorem zya {x:BitVec 64} {k i:Nat} (hk:k < 64):(x|||1#64 <<< k).getLsbD i=true↔x.getLsbD i=true∨i=k:=by
 rw [BitVec.getLsbD_or,Bool.or_eq_true,zwO]
 constructor
 ·rintro (h|h)
  ·exact .inl h
  ·simp at h;exact .inr h.2
 ·rintro (h|rfl)
  ·exact .inl h
  ·exact .inr (by simp [hk])
theorem zb7 {q:Nat→Nat} {s:BitVec 64} {b:Nat} : ∀ k,(∀ w,w < k→q w < 64)→((zar q s k).getLsbD b=true ↔ ∃ w,w < k∧s.getLsbD w=true∧q w=b)
 | 0,_=>by simp [zar]
 | k+1,h=>by
  have ih:=zb7 (q:=q) (s:=s) (b:=b) k fun w hw=>h w (by omega)
  rw [zeZ]
  split
  ·rename_i hs
   rw [zya (h k (by omega)),ih]
   constructor
   ·rintro (⟨w,h1,h2⟩|rfl)
    ·exact ⟨w,by omega,h2⟩
    ·exact ⟨k,by omega,hs,rfl⟩
   ·rintro ⟨w,h1,h2,h3⟩
    by_cases e:w=k
    ·subst e;exact .inr h3.symm
    ·exact .inl ⟨w,by omega,h2,h3⟩
  ·rename_i hs
   rw [ih]
   constructor
   ·rintro ⟨w,h1,h2⟩;exact ⟨w,by omega,h2⟩
   ·rintro ⟨w,h1,h2,h3⟩
    by_cases e:w=k
    ·subst e;exact absurd h2 hs
    ·exact ⟨w,by omega,h2,h3⟩
def zbo (l:List (BitVec 64)) (w:Nat):Nat→Nat
 | 0=>0
 | k+1=>zbo l w k+if (l.getD k 0#64).getLsbD w=true then 2 ^ k else 0
theorem zmu (l:List (BitVec 64)) (w:Nat) : ∀ k,zbo l w k < 2 ^ k
 | 0=>by simp [zbo]
 | k+1=>by
  have:=zmu l w k
  have h2:=Nat.two_pow_pos k
  rw [zbo,Nat.pow_succ]
  split<;>omega
theorem ziK (l:List (BitVec 64)) (w:Nat) {i:Nat} : ∀ k,(zbo l w k).testBit i=true↔i < k∧(l.getD i 0#64).getLsbD w=true
 | 0=>by simp [zbo]
 | k+1=>by
  have hlt:=zmu l w k
  have ih:=ziK l w (i:=i) k
  have e:zbo l w (k+1)=2 ^ k * (if (l.getD k 0#64).getLsbD w=true then 1 else 0)+zbo l w k:=by
   rw [zbo];split<;>omega
  rw [e,Nat.testBit_two_pow_mul_add _ hlt]
  by_cases h:i < k
  ·rw [if_pos h,ih]
   exact ⟨fun ⟨a,b⟩=>⟨by omega,b⟩,fun ⟨a,b⟩=>⟨h,b⟩⟩
  ·rw [if_neg h]
   by_cases h2:i=k
   ·subst h2
    rw [Nat.sub_self]
    split
    ·rename_i hb;exact ⟨fun _=>⟨by omega,hb⟩,fun _=>by decide⟩
    ·rename_i hb;exact ⟨fun h=>by simp at h,fun h=>absurd h.2 hb⟩
   ·constructor
    ·intro h3
     exfalso
     obtain ⟨m,hm⟩ : ∃ m,i - k=m+1:=⟨i - k - 1,by omega⟩
     rw [hm,Nat.testBit_succ] at h3
     split at h3<;>simp at h3
    ·rintro ⟨a,-⟩;omega
def zey (p:PM) (w:Nat):Nat:=zbo p.val w p.val.length
theorem zu0 {p:PM} {v w:Nat} : zey p v=zey p w ↔ ∀ i,(p.val.getD i 0#64).getLsbD v=true↔(p.val.getD i 0#64).getLsbD w=true:=by
 constructor
 ·intro h i
  by_cases hi:i < p.val.length
  ·have a:=ziK p.val v (i:=i) p.val.length
   have b:=ziK p.val w (i:=i) p.val.length
   rw [show zbo p.val v p.val.length=zbo p.val w p.val.length from h] at a
   exact ⟨fun hv=>(b.1 (a.2 ⟨hi,hv⟩)).2,fun hw=>(a.1 (b.2 ⟨hi,hw⟩)).2⟩
  ·have:p.val.getD i 0#64=0#64:=by rw [List.getD,List.getElem?_eq_none (by omega)];rfl
   rw [this];simp
 ·intro h
  refine Nat.eq_of_testBit_eq fun i=>?_
  rw [Bool.eq_iff_iff]
  unfold zey
  rw [ziK,ziK,h i]
def zmv (p:PM):Nat→Nat:=z8 (zfh (zey p))
def wkB (p:PM) (a w:Nat):BitVec 64:=uAt (za8 p a) w
def zb2 (p:PM):List (Nat→BitVec 64):=(List.range p.cell.length).flatMap fun (a:Nat)=>[fun (w:Nat)=>zav p (a:Int) (w:Int),fun w=>wkB p a w]
def zu (p:PM) (k:Nat):Nat→Nat:=zbT p.W.toNat (zb2 p) (zmv p) k
theorem zdu (p:PM) (n:Nat):zdE n (zmv p):=zqG (zna _) n
theorem zpi {p:PM} (hc0:zm p=0) {a w i:Nat} (hw:w < p.W.toNat):(wkB p a w).getLsbD i=true↔InC p a w i∧rkA p a i≤rkA p a w:=by
 have h2:=(zM hc0).w2
 show rb (za8 p a) w i=true↔_
 rw [zwz h2]
 exact ⟨fun ⟨_,a,b,c⟩=>⟨⟨a,b⟩,c⟩,fun ⟨⟨a,b⟩,c⟩=>⟨hw,a,b,c⟩⟩
theorem zki {p:PM} {r:Nat→BitVec 64} : r∈zb2 p ↔ ∃ a:Nat,a < p.cell.length∧(r=(fun (w:Nat)=>zav p (a:Int) (w:Int))∨r=fun w=>wkB p a w):=by
 unfold zb2
 rw [List.mem_flatMap]
 constructor
 ·rintro ⟨a,ha,h⟩
  simp only [List.mem_cons,List.not_mem_nil,or_false] at h
  exact ⟨a,List.mem_range.1 ha,h⟩
 ·rintro ⟨a,ha,h⟩
  exact ⟨a,List.mem_range.2 ha,by simpa using h⟩
structure zxn (p:PM) (q:Nat→Nat):Prop where
 canon:zdE p.W.toNat q
 fact : ∀ {v w},v < p.W.toNat→w < p.W.toNat→q v=q w→zey p v=zey p w
 rel : ∀ {v w},v < p.W.toNat→w < p.W.toNat→q v=q w → ∀ r∈zb2 p,zar q (r v) p.W.toNat=zar q (r w) p.W.toNat
theorem zr1 (p:PM) : ∀ (k:Nat) {v w:Nat},v < p.W.toNat→w < p.W.toNat→zu p k v=zu p k w→zey p v=zey p w
 | 0,v,w,hv,hw,h=>by
  have:=(zlF (zna (zey p))).1 h
  simpa [zfh] using this
 | k+1,v,w,hv,hw,h=>by
  have h1:=zjQ (rels:=zb2 p) (ziy (rels:=zb2 p) (zdu p p.W.toNat) k) hv
  have h2:=zjQ (rels:=zb2 p) (ziy (rels:=zb2 p) (zdu p p.W.toNat) k) hw
  refine zr1 p k hv hw ?_
  show zbT _ _ _ k v=zbT _ _ _ k w
  rw [← h1,← h2]
  exact congrArg _ h
theorem znp (p:PM) (k:Nat):zdE p.W.toNat (zu p k):=ziy (zdu p _) k
theorem zvQ {p:PM} (hc0:zm p=0) {j:Nat} (hj:p.W.toNat≤j) {w:Nat} (hw:w < p.W.toNat):zu p j w=zu p p.W.toNat w :=
 zte (zdu p _) (by omega) hj hw
section
variable {p:PM} (hc0:zm p=0) {q:Nat→Nat} (S:zxn p q)
include hc0 S
theorem zxn.q64 {w:Nat} (hw:w < p.W.toNat):q w < 64:=by
 have:=S.canon.le w hw
 have:=W64 hc0
 omega
theorem zxn.cell {a v w u:Nat} (ha:a < p.cell.length) (hv:v < p.W.toNat) (hw:w < p.W.toNat) (h:q v=q w) (hu:InC p a v u) : ∃ u',InC p a w u'∧q u'=q u:=by
 have hr:=S.rel hv hw h _ (zki.2 ⟨a,ha,.inl rfl⟩)
 have h1:=(zb7 (s:=zav p (a:Int) (v:Int)) (b:=q u) p.W.toNat fun w hw=>S.q64 hc0 hw).2 ⟨u,hu.1,(zdp hc0 ha hv).2 hu,rfl⟩
 rw [hr] at h1
 obtain ⟨u',h2,h3,h4⟩:=(zb7 p.W.toNat fun w hw=>S.q64 hc0 hw).1 h1
 exact ⟨u',(zdp hc0 ha hw).1 h3,h4⟩
theorem zxn.weak {a v w u:Nat} (ha:a < p.cell.length) (hv:v < p.W.toNat) (hw:w < p.W.toNat) (h:q v=q w) (hu:InC p a v u) (hr':rkA p a u≤rkA p a v) : ∃ u',InC p a w u'∧rkA p a u'≤rkA p a w∧q u'=q u:=by
 have hr:=S.rel hv hw h _ (zki.2 ⟨a,ha,.inr rfl⟩)
 have h1:=(zb7 (s:=wkB p a v) (b:=q u) p.W.toNat fun w hw=>S.q64 hc0 hw).2 ⟨u,hu.1,(zpi hc0 hv).2 ⟨hu,hr'⟩,rfl⟩
 rw [hr] at h1
 obtain ⟨u',h2,h3,h4⟩:=(zb7 p.W.toNat fun w hw=>S.q64 hc0 hw).1 h1
 obtain ⟨h5,h6⟩:=(zpi hc0 hw).1 h3
 exact ⟨u',h5,h6,h4⟩
end
end Go.Ab
namespace Go.Ab
open Go Go.Proofs
set_option maxRecDepth 10000
set_option maxHeartbeats 4000000
variable {T:Nat→Obj→Prop}
def zgS (p:PM):List Int:=ptL p.W.toNat (zey p)
theorem zCO {x k:Nat} (h:x < 2 ^ k):x|||2 ^ k=x+2 ^ k:=by
 have:=Nat.two_pow_add_eq_or_of_lt (i:=k) h 1
 rw [Nat.or_comm,show 2 ^ k=2 ^ k * 1 by omega,← this];omega
theorem zAG {l:List (BitVec 64)} {w k:Nat} {s:BitVec 64} (hs:l[k]? = some s) (hk:k < 8) :
  zbI .i64 (fun p q=>p|||q) (zbo l w k:Int) ((((s >>> w&&&1#64).toNat:Int)) * 2 ^ (min k IntKind.i64.bits))=(zbo l w (k+1):Int):=by
 have h1:=zmu l w k
 have hp:2 ^ k≤2 ^ 7:=Nat.pow_le_pow_right (by decide) (by omega)
 have hb:min k IntKind.i64.bits=k:=by show min k 64=k;omega
 rw [hb,zbo,show l.getD k 0#64=s by rw [List.getD,hs];rfl]
 by_cases h:s.getLsbD w=true
 ·have e:s >>> w&&&1#64=1#64:=(zk8 s w).2 h
  rw [e,if_pos h]
  have:=zhN (a:=zbo l w k) (b:=2 ^ k) (by omega) (by omega)
  rw [show ((1#64).toNat:Int) * 2 ^ k=((2 ^ k:Nat):Int) by simp,this,zCO h1]
 ·have e:s >>> w&&&1#64=0#64:=(zee s w).2 (by simpa using h)
  rw [e,if_neg h]
  have:=zhN (a:=zbo l w k) (b:=0) (by omega) (by omega)
  rw [show ((0#64).toNat:Int) * 2 ^ k=((0:Nat):Int) by simp,this];simp
theorem zyD (s:BitVec 64) (w:Nat):(s >>> w&&&1#64).toNat≤1:=by
 cases h:s.getLsbD w with
 | true=>rw [(zk8 s w).2 h];decide
 | false=>rw [(zee s w).2 h];decide
theorem zzO {x k:Nat} (hx:x≤1) (hk:k < 8):0≤(x:Int) * 2 ^ (min (k:Int).toNat IntKind.i64.bits)∧(x:Int) * 2 ^ (min (k:Int).toNat IntKind.i64.bits)≤9223372036854775807:=by
 have hp:2 ^ k≤2 ^ 7:=Nat.pow_le_pow_right (by decide) (by omega)
 have hb:min (k:Int).toNat IntKind.i64.bits=k:=by show min k 64=k;omega
 rw [hb]
 match x,hx with
 | 0,_=>simp
 | 1,_ =>
  rw [show ((1:Nat):Int) * 2 ^ k=((2 ^ k:Nat):Int) by simp]
  have h7:(2:Nat) ^ 7=128:=rfl
  exact ⟨Int.natCast_nonneg _,Int.ofNat_le.2 (show 2 ^ k≤9223372036854775807 by omega)⟩
theorem zyY (p:PM) (hc0:zm p=0):Fn Tryz.prog T ziJ [.d (dPM p)] [] (.d (dI (zgS p))) []:=by
 have hg:=zM hc0
 have w1:=hg.w1
 have w2:=hg.w2
 have v8:=hg.v8
 refine zd zp zoC (by show 1≤39;decide) ?_
 (repeat' ((conv=>whnf);first|refine vA ?_|refine vJ fun hg=>?_|refine vT ?_|(refine vP ?_ ?_;·omega)|fail));all_goals try conv=>whnf
 refine zt (fun ((i,zs):Nat×List D)=>[(3,.own 0),(11,.d (dU p.val)),(12,.d (.int .i64 ((p.val.map D.u64).length:Int))),(13,.d (.int .i64 ((i:Int))))]) (fun ((i,zs):Nat×List D)=>[(0,some (.row 1 zs))]) 1 (fun ((i,zs):Nat×List D)=>i≤p.val.length∧zs=(List.range p.W.toNat).map fun w=>D.int .i64 (zbo p.val w i:Int)) (fun ((i,zs):Nat×List D)=>p.val.length - i) ((0,List.replicate p.W.toNat (D.int .i64 0))) [(0,1)] [] (⟨by simp,by simp only [zbo];exact zbW _ _⟩) (by (refine ⟨rfl,rfl,rfl,?_,?_⟩;repeat' first|exact trivial|exact rfl|refine And.intro ?_ ?_|refine ⟨_,rfl,?_⟩|decide)) ?_
 rintro ⟨i,zs⟩ ⟨hi,rfl⟩
 by_cases hil:i < p.val.length
 ·obtain ⟨s,hs⟩ : ∃ s,p.val[i]? = some s:=⟨_,List.getElem?_eq_getElem hil⟩
  (repeat' ((conv=>whnf);first|refine vA ?_|(refine vF ?_ ?_<;>intro hc<;>try simp only [vL] at hc)|refine vJ fun hg=>?_|refine vT ?_|refine vN ‹_› ?_));all_goals try conv=>whnf
  ·refine zt (fun ((w,zs):Nat×List D)=>[(3,.own 0),(4,.d (.int .i64 ((i:Int)))),(5,.d (.u64 (s))),(11,.d (dU p.val)),(12,.d (.int .i64 ((p.val.map D.u64).length:Int))),(13,.d (.int .i64 ((i:Int)))),(19,.d (.int .i64 (((List.range p.W.toNat).map fun w=>D.int .i64 (zbo p.val w i:Int)).length:Int))),(20,.d (.int .i64 ((w:Int))))]) (fun ((w,zs):Nat×List D)=>[(0,some (.row 1 zs))]) 1 (fun ((w,zs):Nat×List D)=>w≤p.W.toNat∧zs=(List.range p.W.toNat).map fun u=>D.int .i64 (if u < w then (zbo p.val u (i+1):Int) else (zbo p.val u i:Int))) (fun ((w,zs):Nat×List D)=>p.W.toNat - w) ((0,_)) [(0,0)] [] (⟨by simp,by simp only [Nat.not_lt_zero,if_false]⟩) (by (refine ⟨rfl,rfl,rfl,?_,?_⟩;repeat' first|exact trivial|exact rfl|refine And.intro ?_ ?_|refine ⟨_,rfl,?_⟩|decide)) ?_
   rintro ⟨w,zs⟩ ⟨hw,rfl⟩
   by_cases hwl:w < p.W.toNat
   ·have er:(List.range p.W.toNat)[w]? = some w:=List.getElem?_range hwl
    have bs:(s >>> (w:Int).toNat&&&(1:BitVec 64)).toNat≤1:=zyD s _
    have hor:=zAG (w:=w) hs (by omega)
    have hsh:0≤(((s >>> (w:Int).toNat&&&(1:BitVec 64)).toNat:Int)) * 2 ^ (min (i:Int).toNat IntKind.i64.bits)∧(((s >>> (w:Int).toNat&&&(1:BitVec 64)).toNat:Int)) * 2 ^ (min (i:Int).toNat IntKind.i64.bits)≤9223372036854775807:=zzO bs (by omega)
    have e1 : ¬ w < w:=by omega
    (repeat' ((conv=>whnf);first|refine vA ?_|(refine vF ?_ ?_<;>intro hc<;>try simp only [vL] at hc)|refine vT ?_|refine vN ‹_› ?_|((first|refine vO ?_ ?_|refine vP ?_ ?_);·first|omega|(simp only [vM] at *;omega))|(refine vU ?_ ?_;·kernel_rfl)|fail));all_goals try conv=>whnf
    ·refine ⟨(w+1,_),[(0,0)],[],?_,?_,by (refine ⟨rfl,rfl,rfl,?_,?_⟩;repeat' first|exact trivial|exact rfl|refine And.intro ?_ ?_|refine ⟨_,rfl,?_⟩|decide)⟩
     ·refine ⟨by (omega),(zi7 _).trans (zad fun u hu=>?_)⟩
      show (if u=w then _ else _)=_
      by_cases e:u=w
      ·subst e
       rw [if_pos rfl,if_pos (show u < u+1 by omega),if_neg e1]
       exact congrArg (D.int .i64) hor
      ·rw [if_neg e]
       by_cases e2:u < w
       ·rw [if_pos e2,if_pos (show u < w+1 by omega)]
       ·rw [if_neg e2,if_neg (show ¬ u < w+1 by omega)]
     ·((simp only [vM] at *;omega))
    ·omega
   ·(repeat' ((conv=>whnf);first|refine vA ?_|(refine vF ?_ ?_<;>intro hc<;>try simp only [vL] at hc)|refine vT ?_|(refine vQ ?_ fun x hx=>?_;·omega)|((first|refine vO ?_ ?_|refine vP ?_ ?_);·omega)|(refine vU ?_ ?_;·kernel_rfl)|fail));all_goals try conv=>whnf
    ·omega
    ·have e0:w=p.W.toNat:=by omega
     subst e0
     refine ⟨(i+1,_),[(0,0)],[],?_,?_,by (refine ⟨rfl,rfl,rfl,?_,?_⟩;repeat' first|exact trivial|exact rfl|refine And.intro ?_ ?_|refine ⟨_,rfl,?_⟩|decide)⟩
     ·exact ⟨by (omega),zad fun u hu=>by rw [if_pos hu]⟩
     ·((simp only [vM] at *;omega))
  all_goals omega
 ·(repeat' ((conv=>whnf);first|refine vA ?_|(refine vF ?_ ?_<;>intro hc<;>try simp only [vL] at hc)|refine vJ fun hg=>?_|refine vT ?_|(refine vQ ?_ fun x hx=>?_;·omega)|fail));all_goals try conv=>whnf
  ·omega
  ·have e0:i=p.val.length:=by omega
   subst e0
   refine congrArg (fun l=>some (D.arr 1 l)) ?_
   unfold zgS ptL
   rw [List.map_map];rfl
end Go.Ab
namespace Go.Ab
open Go Go.Proofs
set_option maxRecDepth 10000
set_option maxHeartbeats 4000000
variable {T:Nat→Obj→Prop}
def zga (a:Nat) (b:Bool) (rows:List (BitVec 64)):List D:=[.agg [.int .i64 (a:Int),.bool b,dU rows]]
def zbQ (p:PM) (a:Nat):List (BitVec 64):=(List.range p.W.toNat).map fun (w:Nat)=>zav p (a:Int) (w:Int)
def zbd (p:PM) (a:Nat):List (List D):=((List.range p.cell.length).drop a).flatMap fun a=>[zga a false (zbQ p a),zga a true (za8 p a)]
theorem zp8 {p:PM} {a:Nat} (ha:a < p.cell.length):zbd p a=zga a false (zbQ p a)::zga a true (za8 p a)::zbd p (a+1):=by
 unfold zbd
 rw [List.drop_eq_getElem_cons (by simpa using ha),List.flatMap_cons]
 simp
theorem zrK {p:PM} {a:Nat} (ha:p.cell.length≤a):zbd p a=[]:=by
 unfold zbd
 rw [List.drop_eq_nil_of_le (by simpa using ha)];rfl
theorem zqD (hR:zcp T) (p:PM) (hp:zat p.rank) (hc0:zm p=0):It Tryz.prog T zbg [.ptr 0 0] [zaC p] (zbd p 0):=by
 have hg:=zM hc0
 have w1:=hg.w1
 have w2:=hg.w2
 have n4:=hg.n4
 refine ztd zp zmM rfl (by show 2≤51;decide) fun l=>?_
 (repeat' ((conv=>whnf);first|refine vJ fun hg=>?_|refine vT ?_));all_goals try conv=>whnf
 refine zt (fun (a:Nat)=>[(0,.yld l),(1,.ptr 0 0),(10,.d (.int .i64 ((p.cell.map dI).length:Int))),(11,.d (.int .i64 ((a:Int))))]) (fun (a:Nat)=>[(0,some (zaC p)),(1,some (.todo (some (zbd p a))))]) 2 (fun (a:Nat)=>a≤p.cell.length) (fun (a:Nat)=>p.cell.length - a) (0) [(0,0),(1,1)] [] (by simp) (by (refine ⟨rfl,rfl,rfl,?_,?_⟩;repeat' first|exact trivial|exact rfl|refine And.intro ?_ ?_|refine ⟨_,rfl,?_⟩|decide)) ?_
 rintro a ha
 by_cases hal:a < p.cell.length
 ·have hd:=zp8 hal
  have cw:=zyQ (T:=T) hR p hp (a:Int)
  rw [show zbF p (a:Int)=(za8 p a,0) by rw [zbF,if_neg (not_not_intro hc0),if_neg (by omega)];rfl] at cw
  (repeat' ((conv=>whnf);first|refine vA ?_|(refine vF ?_ ?_<;>intro hc<;>try simp only [vL] at hc)|refine vK fun hg=>?_|refine vT ?_|(refine vP ?_ ?_;·omega)|fail));all_goals try conv=>whnf
  ·refine zt (fun ((w,zs):Nat×List D)=>[(0,.yld l),(1,.ptr 0 0),(3,.d (.int .i64 ((a:Int)))),(4,.own 2),(10,.d (.int .i64 ((p.cell.map dI).length:Int))),(11,.d (.int .i64 ((a:Int)))),(18,.d (.int .i64 ((List.replicate p.W.toNat (D.u64 (0:BitVec 64))).length:Int))),(19,.d (.int .i64 ((w:Int))))]) (fun ((w,zs):Nat×List D)=>[(0,some (zaC p)),(1,some (.todo (some (zbd p a)))),(2,some (.row 1 zs))]) 3 (fun ((w,zs):Nat×List D)=>w≤p.W.toNat∧zs=(List.range p.W.toNat).map fun (u:Nat)=>D.u64 (if u < w then zav p (a:Int) (u:Int) else 0)) (fun ((w,zs):Nat×List D)=>p.W.toNat - w) ((0,List.replicate p.W.toNat (D.u64 0))) [(0,0),(1,1),(2,2)] [] (⟨by simp,by simp only [Nat.not_lt_zero,if_false];exact zbW _ _⟩) (by (refine ⟨rfl,rfl,rfl,?_,?_⟩;repeat' first|exact trivial|exact rfl|refine And.intro ?_ ?_|refine ⟨_,rfl,?_⟩|decide)) ?_
   rintro ⟨w,zs⟩ ⟨hw,hz⟩
   have hzl:zs.length=p.W.toNat:=by rw [hz];simp
   by_cases hwl:w < p.W.toNat
   ·(repeat' ((conv=>whnf);first|refine vA ?_|(refine vF ?_ ?_<;>intro hc<;>try simp only [vL] at hc)|refine vT ?_|((first|refine vO ?_ ?_|refine vP ?_ ?_);·omega)|refine yD (zCn hR p hp (a:Int) (w:Int)) ⟨⟨rfl,rfl⟩,⟨rfl,rfl⟩,⟨rfl,rfl⟩,rfl⟩ rfl ?_));all_goals try conv=>whnf
    ·refine ⟨(w+1,_),[(0,0),(1,1),(2,2)],[],?_,?_,by (refine ⟨rfl,rfl,rfl,?_,?_⟩;repeat' first|exact trivial|exact rfl|refine And.intro ?_ ?_|refine ⟨_,rfl,?_⟩|decide)⟩
     ·refine ⟨by (omega),?_⟩
      rw [hz]
      refine (zi7 _).trans (zad fun u hu=>?_)
      show (if u=w then _ else _)=_
      by_cases e:u=w
      ·subst e
       rw [if_pos rfl,if_pos (show u < u+1 by omega)]
      ·rw [if_neg e]
       by_cases e2:u < w
       ·rw [if_pos e2,if_pos (show u < w+1 by omega)]
       ·rw [if_neg e2,if_neg (show ¬ u < w+1 by omega)]
     ·((simp only [vM] at *;omega))
    all_goals omega
   ·have e0:w=p.W.toNat:=by omega
    obtain rfl:zs=(zbQ p a).map D.u64:=by
     rw [hz];unfold zbQ;rw [List.map_map]
     exact zad fun u hu=>by rw [if_pos (by omega)];rfl
    (repeat' ((conv=>whnf);first|refine vA ?_|(refine vF ?_ ?_<;>intro hc<;>try simp only [vL] at hc)|refine vT ?_|refine yN cw ⟨⟨rfl,rfl⟩,⟨rfl,rfl⟩,rfl⟩ ?_));all_goals try conv=>whnf
    ·omega
    ·refine ⟨rfl,zga a false (zbQ p a),zga a true (za8 p a)::zbd p (a+1),congrArg (fun l=>some (Ob.todo (some l))) hd,rfl,rfl,rfl,?_,?_⟩
     ·(repeat' ((conv=>whnf);first|refine vE ?_|refine vG ?_|refine vT ?_));all_goals try conv=>whnf
      refine ⟨rfl,zga a true (za8 p a),zbd p (a+1),rfl,rfl,rfl,rfl,?_,?_⟩
      ·(repeat' ((conv=>whnf);first|refine vE ?_|refine vG ?_|refine vT ?_|(refine vO ?_ ?_;·omega)|fail));all_goals try conv=>whnf
       exact ⟨a+1,[(0,0),(1,1)],[],by (omega),by (omega),by (refine ⟨rfl,rfl,rfl,?_,?_⟩;repeat' first|exact trivial|exact rfl|refine And.intro ?_ ?_|refine ⟨_,rfl,?_⟩|decide)⟩
      ·(repeat' ((conv=>whnf);first|refine vE ?_|refine vH ?_|refine vT ?_));all_goals try conv=>whnf
       right;rfl
     ·(repeat' ((conv=>whnf);first|refine vE ?_|refine vH ?_|refine vT ?_));all_goals try conv=>whnf
      right;rfl
  ·omega
 ·(repeat' ((conv=>whnf);first|refine vA ?_|(refine vF ?_ ?_<;>intro hc<;>try simp only [vL] at hc)|refine vK fun hg=>?_|refine vT ?_|(refine vP ?_ ?_;·omega)|fail));all_goals try conv=>whnf
  ·omega
  ·left;exact congrArg (fun l=>some (Ob.todo (some l))) (zrK (by omega))
theorem zs3 (p:PM):Fn Tryz.prog T zdb [.d (dPM p)] [] (.fn zbg [.ptr 0 0]) [some (zaC p)]:=by
 refine zT zp zoE (by show 1≤4;decide) _ (fun e env mem n h=>h) ?_
 (repeat' ((conv=>whnf);refine vT ?_));all_goals try conv=>whnf
 exact ⟨trivial,_,[(0,0)],[],rfl,.inl (by (repeat' first|exact rfl|refine And.intro ?_ ?_|refine ⟨_,rfl,?_⟩)),⟨rfl,rfl,rfl,trivial,by (repeat' first|exact trivial|exact rfl|refine And.intro ?_ ?_|refine ⟨_,rfl,?_⟩|exact of_decide_eq_true rfl)⟩,trivial⟩
def zcB:Nat→List (BitVec 64)→List (D×D)
 | _,[]=>[]
 | i,x::r=>(.u64 x,.int .i64 (i:Int))::zcB (i+1) r
def zjZ (dl:List (BitVec 64)) (x:BitVec 64):List (BitVec 64):=if x∈dl then dl else dl++[x]
theorem zqK : ∀ (dl:List (BitVec 64)) (i:Nat),(zcB i dl).length=dl.length
 | [],_=>rfl
 | x::r,i=>by simp [zcB,zqK r (i+1)]
theorem zqa (x:BitVec 64) : ∀ (dl:List (BitVec 64)) (i:Nat),zcB i (dl++[x])=zcB i dl++[(.u64 x,.int .i64 ((i+dl.length:Nat):Int))]
 | [],i=>by simp [zcB]
 | y::r,i=>by
  rw [List.cons_append,zcB,zcB,zqa x r (i+1),List.cons_append,List.length_cons,show i+1+r.length=i+(r.length+1) by omega]
theorem ztr (x:BitVec 64) : ∀ (dl:List (BitVec 64)) (i:Nat),zy (zcB i dl) (.u64 x)=some (if x∈dl then some (.int .i64 ((i+dl.idxOf x:Nat):Int)) else none)
 | [],i=>by simp [zcB,zy]
 | y::r,i=>by
  have ih:=ztr x r (i+1)
  show (match D.eqk (.u64 x) (.u64 y) with
   | some true=>some (some (D.int .i64 (i:Int)))
   | some false=>zy (zcB (i+1) r) (.u64 x)
   | none=>none)=_
  show (match some (decide (x=y)) with
   | some true=>some (some (D.int .i64 (i:Int)))
   | some false=>zy (zcB (i+1) r) (.u64 x)
   | none=>none)=_
  by_cases e:x=y
  ·subst e;simp
  ·rw [decide_eq_false e]
   show zy (zcB (i+1) r) (.u64 x)=_
   rw [ih,List.idxOf_cons]
   have:(y==x)=false:=by simp [Ne.symm e]
   rw [this]
   by_cases hm:x∈r
   ·rw [if_pos hm,if_pos (List.mem_cons_of_mem _ hm)]
    show some (some (D.int .i64 _))=some (some (D.int .i64 _))
    congr 4
    simp only [cond_false]
    omega
   ·rw [if_neg hm,if_neg (by simp [e,hm])]
theorem zCf (s:BitVec 64) (k m:Nat):(s >>> k&&&(1:BitVec 64)) <<< m=if s.getLsbD k=true then 1#64 <<< m else 0#64:=by
 by_cases h:s.getLsbD k=true
 ·rw [if_pos h,show s >>> k&&&(1:BitVec 64)=1#64 from (zk8 s k).2 h]
 ·rw [if_neg h,show s >>> k&&&(1:BitVec 64)=0#64 from (zee s k).2 (by simpa using h)];simp
theorem zAy {q:Nat→Nat} {s:BitVec 64} {k:Nat} : zar q s k|||(s >>> k&&&(1:BitVec 64)) <<< q k=zar q s (k+1):=by
 rw [zCf,zeZ]
 split<;>simp
theorem zDD {n:Nat} {q:Nat→Nat} (hq:zdE n q) (hn:n≤64) (s:BitVec 64) (dl:List (BitVec 64)) (hdl:dl.length≤64):Fn Tryz.prog T zcx [.d (.u64 s),.ptr 0 0,.ptr 1 0] [.box [.d (dI (ptL n q))],.box [.map 2],.map (zcB 0 dl)]
  (.d (.int .i64 (((zjZ dl (zar q s n)).idxOf (zar q s n):Nat):Int))) [some (.box [.d (dI (ptL n q))]),some (.box [.map 2]),some (.map (zcB 0 (zjZ dl (zar q s n))))]:=by
 refine zT zp zmL (by show 3≤41;decide) _ (fun e env mem n h=>h) ?_
 (repeat' ((conv=>whnf);first|refine vA ?_|refine vJ fun hg=>?_|refine vT ?_));all_goals try conv=>whnf
 refine zt (fun ((k,o):Nat×BitVec 64)=>[(0,.d (.u64 (s))),(1,.ptr 0 0),(2,.ptr 1 0),(5,.d (.u64 (o))),(10,.d (dI (ptL n q))),(11,.d (.int .i64 (((ptL n q).map (D.int .i64)).length:Int))),(12,.d (.int .i64 ((k:Int)))),(1000000,.ptr 0 0),(1000001,.ptr 1 0),(1000002,.map 2)]) (fun ((k,o):Nat×BitVec 64)=>[(0,some (.box [.d (dI (ptL n q))])),(1,some (.box [.map 2])),(2,some (.map (zcB 0 dl)))]) 3 (fun ((k,o):Nat×BitVec 64)=>k≤n∧o=zar q s k) (fun ((k,o):Nat×BitVec 64)=>n - k) ((0,0#64)) [(0,0),(1,1),(2,2)] [] (⟨by simp,rfl⟩) (by (refine ⟨rfl,rfl,rfl,?_,?_⟩;repeat' first|exact trivial|exact rfl|refine And.intro ?_ ?_|refine ⟨_,rfl,?_⟩|decide)) ?_
 rintro ⟨k,o⟩ ⟨hk,hI⟩
 have hpl:=zcc (n:=n) (q:=q)
 by_cases hkl:k < n
 ·have e1:(ptL n q)[k]? = some ((q k:Nat):Int):=zau hkl
  have b1:=hq.le k hkl
  (repeat' ((conv=>whnf);first|refine vA ?_|(refine vF ?_ ?_<;>intro hc<;>try simp only [vL] at hc)|refine vT ?_|refine vN ‹_› ?_|((first|refine vO ?_ ?_|refine vP ?_ ?_);·omega)|fail));all_goals try conv=>whnf
  ·refine ⟨(k+1,_),[(0,0),(1,1),(2,2)],[],?_,?_,by (refine ⟨rfl,rfl,rfl,?_,?_⟩;repeat' first|exact trivial|exact rfl|refine And.intro ?_ ?_|refine ⟨_,rfl,?_⟩|decide)⟩
   ·refine ⟨by (omega),?_⟩
    rw [hI];exact zAy
   ·((simp only [vM] at *;omega))
  ·omega
 ·have e0:k=n:=by omega
  subst e0
  subst hI
  have hfd:=ztr (zar q s k) dl 0
  by_cases hm:zar q s k∈dl
  ·rw [if_pos hm,Nat.zero_add] at hfd
   have ea:zjZ dl (zar q s k)=dl:=if_pos hm
   rw [ea]
   (repeat' ((conv=>whnf);first|refine vA ?_|refine vE ?_|refine vG ?_|(refine vF ?_ ?_<;>intro hc<;>try simp only [vL] at hc)|refine vT ?_|(refine vQ ?_ fun x hx=>?_;·omega)|((first|refine vO ?_ ?_|refine vP ?_ ?_);·omega)|refine zaj.mk _ ‹_› ?_));all_goals try conv=>whnf
   ·omega
   ·refine ⟨trivial,_,[(0,0),(1,1),(2,2)],[],rfl,.inl (by (repeat' exact rfl)),⟨by rfl,by rfl,by rfl,trivial,by (repeat' first|exact trivial|exact rfl|refine And.intro ?_ ?_|refine ⟨_,rfl,?_⟩|exact of_decide_eq_true rfl)⟩,by (repeat' first|exact trivial|exact rfl|refine And.intro ?_ ?_|refine ⟨_,rfl,?_⟩)⟩
  ·rw [if_neg hm] at hfd
   have ea:zjZ dl (zar q s k)=dl++[zar q s k]:=if_neg hm
   have eb:zcB 0 (dl++[zar q s k])=zcB 0 dl++[(.u64 (zar q s k),.int .i64 ((zcB 0 dl).length:Int))]:=by rw [zqa,zqK,Nat.zero_add]
   have ec:(dl++[zar q s k]).idxOf (zar q s k)=(zcB 0 dl).length:=by rw [zqK,List.idxOf_append,if_neg hm];simp
   have hfn:zy (zcB 0 dl++[(.u64 (zar q s k),.int .i64 ((zcB 0 dl).length:Int))]) (.u64 (zar q s k))=some (some (.int .i64 ((zcB 0 dl).length:Int))):=by rw [zgT _ _ _ hfd];simp [zy,D.eqk,D.same]
   rw [ea,eb,ec]
   (repeat' ((conv=>whnf);first|refine vA ?_|(refine vF ?_ ?_<;>intro hc<;>try simp only [vL] at hc)|refine vT ?_|(refine vQ ?_ fun x hx=>?_;·omega)|((first|refine vO ?_ ?_|refine vP ?_ ?_);·omega)|refine zaj.mk _ ‹_› ?_));all_goals try conv=>whnf
   ·omega
   ·refine ⟨trivial,_,[(0,0),(1,1),(2,2)],[],rfl,.inl (by (repeat' exact rfl)),⟨by rfl,by rfl,by rfl,trivial,by (repeat' first|exact trivial|exact rfl|refine And.intro ?_ ?_|refine ⟨_,rfl,?_⟩|exact of_decide_eq_true rfl)⟩,by (repeat' first|exact trivial|exact rfl|refine And.intro ?_ ?_|refine ⟨_,rfl,?_⟩)⟩
end Go.Ab
namespace Go.Ab
open Go Go.Proofs
set_option maxRecDepth 10000
set_option maxHeartbeats 4000000
variable {T:Nat→Obj→Prop}
def zgY (bl:Nat→BitVec 64) (k:Nat):List (BitVec 64):=(List.range k).foldl (fun l w=>zjZ l (bl w)) []
theorem ziR (bl:Nat→BitVec 64) (k:Nat):zgY bl (k+1)=zjZ (zgY bl k) (bl k):=by
 unfold zgY;rw [List.range_succ,List.foldl_append];rfl
theorem zqo (l:List (BitVec 64)) (x:BitVec 64):(∃ t,zjZ l x=l++t)∧x∈zjZ l x∧(zjZ l x).length≤l.length+1:=by
 unfold zjZ
 split
 ·rename_i h;exact ⟨⟨[],by simp⟩,h,by omega⟩
 ·exact ⟨⟨[x],rfl⟩,by simp,by simp⟩
theorem zvE (bl:Nat→BitVec 64) : ∀ k,(zgY bl k).length≤k
 | 0=>by simp [zgY]
 | k+1=>by
  rw [ziR]
  have:=(zqo (zgY bl k) (bl k)).2.2
  have:=zvE bl k
  omega
theorem zvF (bl:Nat→BitVec 64) {k:Nat} : ∀ m,k≤m → ∃ t,zgY bl m=zgY bl k++t
 | 0,h=>⟨[],by have:k=0:=Nat.le_zero.1 h;subst this;simp⟩
 | m+1,h=>by
  by_cases e:k=m+1
  ·exact ⟨[],by rw [e];simp⟩
  ·obtain ⟨t,ht⟩:=zvF bl (k:=k) m (by omega)
   obtain ⟨⟨t',ht'⟩,-⟩:=zqo (zgY bl m) (bl m)
   exact ⟨t++t',by rw [ziR,ht',ht];simp⟩
def zgf (bl:Nat→BitVec 64) (w:Nat):Nat:=(zgY bl (w+1)).idxOf (bl w)
theorem zw1 (bl:Nat→BitVec 64) {w m:Nat} (h:w < m):zgf bl w=(zgY bl m).idxOf (bl w)∧bl w∈zgY bl m:=by
 obtain ⟨t,ht⟩:=zvF bl (k:=w+1) m (by omega)
 have hm:bl w∈zgY bl (w+1):=by rw [ziR];exact (zqo _ _).2.1
 rw [ht]
 exact ⟨by rw [List.idxOf_append,if_pos hm];rfl,List.mem_append_left _ hm⟩
theorem zAZ (bl:Nat→BitVec 64) {v w n:Nat} (hv:v < n) (hw:w < n):zgf bl v=zgf bl w↔bl v=bl w:=by
 obtain ⟨h1,m1⟩:=zw1 bl hv
 obtain ⟨h2,m2⟩:=zw1 bl hw
 rw [h1,h2]
 constructor
 ·intro h
  have g1:=List.getElem_idxOf (List.idxOf_lt_length_of_mem m1)
  have g2:=List.getElem_idxOf (List.idxOf_lt_length_of_mem m2)
  rw [← g1,← g2]
  congr 1
 ·intro h;rw [h]
theorem zzK (n:Nat) (q:Nat→Nat):zaT n [] q=zfh q:=by
 funext v w;simp [zaT,zfh]
theorem zzM {n i:Nat} {rels:List (Nat→BitVec 64)} {q:Nat→Nat} {r:Nat→BitVec 64} (hr:rels[i]? = some r) {w:Nat} (hw:w < n) :
  z8 (zch (ptL n (z8 (zaT n (rels.take i) q))) (ptL n (zgf fun w=>zar q (r w) n))) w=z8 (zaT n (rels.take (i+1)) q) w:=by
 refine zkg fun v hv=>?_
 have h1:at0 (ptL n (z8 (zaT n (rels.take i) q))) v=((z8 (zaT n (rels.take i) q) v:Nat):Int):=zq (zau (by omega))
 have h2:at0 (ptL n (z8 (zaT n (rels.take i) q))) w=((z8 (zaT n (rels.take i) q) w:Nat):Int):=zq (zau hw)
 have h3:at0 (ptL n (zgf fun w=>zar q (r w) n)) v=((zgf (fun w=>zar q (r w) n) v:Nat):Int):=zq (zau (by omega))
 have h4:at0 (ptL n (zgf fun w=>zar q (r w) n)) w=((zgf (fun w=>zar q (r w) n) w:Nat):Int):=zq (zau hw)
 unfold zch
 rw [h1,h2,h3,h4]
 have e1:=zlF (zgC n (rels.take i) q) (v:=v) (w:=w)
 have e2:=zAZ (fun w=>zar q (r w) n) (v:=v) (w:=w) (n:=n) (by omega) hw
 rw [Bool.eq_iff_iff,decide_eq_true_eq]
 rw [show (((z8 (zaT n (rels.take i) q) v:Nat):Int)=((z8 (zaT n (rels.take i) q) w:Nat):Int))↔zaT n (rels.take i) q v w=true from by rw [← e1];omega]
 rw [show (((zgf (fun w=>zar q (r w) n) v:Nat):Int)=((zgf (fun w=>zar q (r w) n) w:Nat):Int))↔zar q (r v) n=zar q (r w) n from by rw [← e2];omega]
 unfold zaT
 rw [List.take_add_one,hr]
 simp [and_assoc]
theorem znw (p:PM) (a:Nat):za8 p a=(List.range p.W.toNat).map (wkB p a):=by
 have e : ∀ w,w < p.W.toNat→wkB p a w=zaV (zb p.cell a) (zb p.rank a) w p.W.toNat:=fun w hw=>by
  unfold wkB uAt za8
  rw [List.getD,List.getElem?_map,List.getElem?_range hw];rfl
 exact (zad e).symm
def znj (p:PM) (a:Nat):List (Nat→BitVec 64):=((List.range p.cell.length).drop a).flatMap fun (a:Nat)=>[fun (w:Nat)=>zav p (a:Int) (w:Int),fun w=>wkB p a w]
theorem zyg {p:PM} {a:Nat} (ha:a < p.cell.length):znj p a=(fun (w:Nat)=>zav p (a:Int) (w:Int))::(fun w=>wkB p a w)::znj p (a+1):=by
 unfold znj
 rw [List.drop_eq_getElem_cons (by simpa using ha),List.flatMap_cons]
 simp
theorem zzD {p:PM} {a:Nat} (ha:p.cell.length≤a):znj p a=[]:=by
 unfold znj
 rw [List.drop_eq_nil_of_le (by simpa using ha)];rfl
theorem zqF {p:PM} : ∀ (k a:Nat),p.cell.length - a=k→(zbd p a).length=(znj p a).length ∧ ∀ {i:Nat} {x:List D},(zbd p a)[i]? = some x → ∃ (ag:Nat) (b:Bool) (r:Nat→BitVec 64),x=zga ag b ((List.range p.W.toNat).map r)∧(znj p a)[i]? = some r
 | 0,a,h=>by
  rw [zrK (p:=p) (a:=a) (by omega),zzD (p:=p) (a:=a) (by omega)]
  exact ⟨rfl,fun {i x} h=>by simp at h⟩
 | k+1,a,h=>by
  obtain ⟨h1,h2⟩:=zqF (p:=p) k (a+1) (by omega)
  rw [zp8 (p:=p) (a:=a) (by omega),zyg (p:=p) (a:=a) (by omega)]
  refine ⟨by simp [h1],fun {i x} hx=>?_⟩
  match i,hx with
  | 0,hx=>exact ⟨a,false,_,(Option.some.inj hx).symm,rfl⟩
  | 1,hx=>exact ⟨a,true,_,by rw [← znw];exact (Option.some.inj hx).symm,rfl⟩
  | i+2,hx=>exact h2 hx
theorem zCC {p:PM} {i:Nat} {x:List D} (h:(zbd p 0)[i]? = some x) : ∃ (a:Nat) (b:Bool) (r:Nat→BitVec 64),x=zga a b ((List.range p.W.toNat).map r)∧(zb2 p)[i]? = some r:=(zqF (p:=p) p.cell.length 0 (by omega)).2 h
theorem zzj (p:PM):(zbd p 0).length=(zb2 p).length:=(zqF (p:=p) p.cell.length 0 (by omega)).1
theorem zAL (hR:zcp T) (p:PM) (hp:zat p.rank) (hc0:zm p=0) {q:Nat→Nat} (hq:zdE p.W.toNat q):Fn Tryz.prog T zda [.d (dPM p),.d (dI (ptL p.W.toNat q))] [] (.d (dI (ptL p.W.toNat (zaL p.W.toNat (zb2 p) q)))) []:=by
 have hg:=zM hc0
 have w1:=hg.w1
 have w2:=hg.w2
 have h64:=W64 hc0
 have hpl:=zcc (n:=p.W.toNat) (q:=q)
 refine zd zp zoD (by show 2≤43;decide) ?_
 (repeat' ((conv=>whnf);first|refine vA ?_|refine vT ?_));all_goals try conv=>whnf
 refine zL.res (zs3 p) (by (repeat refine ⟨⟨rfl,rfl⟩,?_⟩);rfl) ?_
 (repeat' ((conv=>whnf);refine vT ?_));all_goals try conv=>whnf
 refine ztA (zqD hR p hp hc0) [3] [] (by first|((repeat refine ⟨⟨rfl,rfl⟩,?_⟩);rfl)|(repeat' first|exact rfl|refine And.intro ?_ ?_|refine ⟨_,rfl,?_⟩)) (by (repeat' first|exact rfl|refine And.intro ?_ ?_|refine ⟨_,rfl,?_⟩)) (by rfl) (by rfl) [(3,.ptr 0 0),(5,.ptr 1 0)] (fun (a:List Int)=>[(0,some (.box [.d (dI (ptL p.W.toNat q))])),(1,some (.box [.d (dI a)]))]) 2 (fun i (a:List Int)=>a=ptL p.W.toNat (z8 (zaT p.W.toNat ((zb2 p).take i) q))) (ptL p.W.toNat q) [(0,1),(1,2)] [] (zd9 fun w hw=>by rw [List.take_zero,zzK];exact (zuE hq hw).symm) (by (refine ⟨rfl,rfl,rfl,?_,?_⟩;repeat' first|exact trivial|exact rfl|refine And.intro ?_ ?_|refine ⟨_,rfl,?_⟩|decide)) ?_ ?_
 ·intro i x a hx ha
  obtain ⟨ag,bo,r,rfl,hr⟩:=zCC hx
  subst ha
  refine ⟨rfl,?_⟩
  obtain ⟨bl,hbl⟩ : ∃ bl:Nat→BitVec 64,bl=fun w=>zar q (r w) p.W.toNat:=⟨_,rfl⟩
  (repeat' ((conv=>whnf);first|refine vA ?_|refine vJ fun hg=>?_|refine vK fun hg=>?_|refine vT ?_|(refine vP ?_ ?_;·(simp only [vM] at *;omega))|fail));all_goals try conv=>whnf
  refine zt (fun ((w,dl,zs):Nat×List (BitVec 64)×List D)=>[(3,.ptr 0 0),(5,.ptr 1 0),(6,.ptr 2 0),(8,.fn zcx [.ptr 0 0,.ptr 4 0]),(9,.own 5),(21,.d (.int .i64 ((List.replicate (((ptL p.W.toNat q).map (D.int .i64)).length:Int).toNat (D.int .i64 0)).length:Int))),(22,.d (.int .i64 ((w:Int)))),(1000003,.ptr 0 0),(1000005,.ptr 1 0)]) (fun ((w,dl,zs):Nat×List (BitVec 64)×List D)=>[(0,some (.box [.d (dI (ptL p.W.toNat q))])),(1,some (.box [.d (dI (ptL p.W.toNat (z8 (zaT p.W.toNat ((zb2 p).take i) q))))])),(2,some (.box [.d (.int .i64 (ag:Int)),.d (.bool bo),.d (dU ((List.range p.W.toNat).map r))])),(3,some (.map (zcB 0 dl))),(4,some (.box [.map 3])),(5,some (.row 1 zs))]) 6 (fun ((w,dl,zs):Nat×List (BitVec 64)×List D)=>w≤p.W.toNat∧dl=zgY bl w∧zs=(List.range p.W.toNat).map fun u=>D.int .i64 (if u < w then (zgf bl u:Int) else 0)) (fun ((w,dl,zs):Nat×List (BitVec 64)×List D)=>p.W.toNat - w) ((0,[],_)) [(0,0),(1,1),(2,2),(3,3),(4,4),(5,5)] [] (⟨by simp,rfl,by simp only [Nat.not_lt_zero,if_false];rw [List.length_map,Int.toNat_natCast,zcc];exact zbW _ _⟩) (by (refine ⟨rfl,rfl,rfl,?_,?_⟩;repeat' first|exact trivial|exact rfl|exact .inl rfl|refine And.intro ?_ ?_|refine ⟨_,rfl,?_⟩|decide)) ?_
  rintro ⟨w,dl,zs⟩ ⟨hw,hdl,hz⟩
  have hzl:zs.length=p.W.toNat:=by rw [hz];simp
  by_cases hwl:w < p.W.toNat
  ·have er:((List.range p.W.toNat).map r)[w]? = some (r w):=by rw [List.getElem?_map,List.getElem?_range hwl];rfl
   have hdl64:dl.length≤64:=by rw [hdl];have:=zvE bl w;omega
   (repeat' ((conv=>whnf);first|refine vA ?_|(refine vF ?_ ?_<;>intro hc<;>try simp only [vL] at hc)|refine vT ?_|refine vN ‹_› ?_));all_goals try conv=>whnf
   ·refine zL.objs [0,4,3] (zDD hq h64 (r w) dl hdl64) (by (repeat' first|exact rfl|refine And.intro ?_ ?_|refine ⟨_,rfl,?_⟩)) (by (repeat' first|exact rfl|refine And.intro ?_ ?_|refine ⟨_,rfl,?_⟩)) (by rfl) (by rfl) (by simp) ?_
    (repeat' ((conv=>whnf);first|refine vT ?_|((first|refine vO ?_ ?_|refine vP ?_ ?_);·omega)|fail));all_goals try conv=>whnf
    ·refine ⟨(w+1,zjZ dl (zar q (r w) p.W.toNat),_),[(0,0),(1,1),(2,2),(3,3),(4,4),(5,5)],[],?_,?_,by (refine ⟨rfl,rfl,rfl,?_,?_⟩;repeat' first|exact trivial|exact rfl|exact .inl rfl|refine And.intro ?_ ?_|refine ⟨_,rfl,?_⟩|decide)⟩
     ·refine ⟨by (omega),by rw [ziR,hdl,hbl],?_⟩
      rw [hz]
      refine (zi7 _).trans (zad fun u hu=>?_)
      show (if u=w then _ else _)=_
      by_cases e:u=w
      ·subst e
       rw [if_pos rfl,if_pos (show u < u+1 by omega),zgf,ziR,hdl,hbl]
      ·rw [if_neg e]
       by_cases e2:u < w
       ·rw [if_pos e2,if_pos (show u < w+1 by omega)]
       ·rw [if_neg e2,if_neg (show ¬ u < w+1 by omega)]
     ·((simp only [vM] at *;omega))
    all_goals omega
   ·omega
  ·have e0:w=p.W.toNat:=by omega
   obtain rfl:zs=(ptL p.W.toNat (zgf bl)).map (D.int .i64):=by
    rw [hz];unfold ptL;rw [List.map_map]
    exact zad fun u hu=>by rw [if_pos (by omega)];rfl
   have cs:=zvb (T:=T) (zqG (zgC p.W.toNat ((zb2 p).take i) q) p.W.toNat) h64 (ptL p.W.toNat (zgf bl)) zcc
   (repeat' ((conv=>whnf);first|refine vA ?_|(refine vF ?_ ?_<;>intro hc<;>try simp only [vL] at hc)|refine vT ?_|(refine vQ ?_ fun x hx=>?_;·omega)|refine yN cs ⟨⟨rfl,rfl⟩,⟨rfl,rfl⟩,rfl⟩ ?_));all_goals try conv=>whnf
   ·omega
   ·exact ⟨ptL p.W.toNat (z8 (zch (ptL p.W.toNat (z8 (zaT p.W.toNat ((zb2 p).take i) q))) (ptL p.W.toNat (zgf bl)))),[(0,0),(1,1)],[],zd9 fun u hu=>by rw [hbl];exact zzM hr hu,by (refine ⟨rfl,rfl,rfl,?_,?_⟩;repeat' first|exact trivial|exact rfl|refine And.intro ?_ ?_|refine ⟨_,rfl,?_⟩|decide)⟩
 ·intro a ha
  (repeat' ((conv=>whnf);refine vT ?_));all_goals try conv=>whnf
  rw [zzj,List.take_length] at ha
  subst ha;rfl
end Go.Ab
namespace Go.Ab
open Go Go.Proofs
set_option maxRecDepth 10000
set_option maxHeartbeats 4000000
variable {T:Nat→Obj→Prop}
theorem ztU (n:Nat):zdE n (fun _=>0):=⟨fun w _=>Nat.zero_le w,fun w _=>rfl⟩
theorem zrq (p:PM) {w:Nat} (hw:w < p.W.toNat):z8 (zch (ptL p.W.toNat fun _=>0) (zgS p)) w=zmv p w:=by
 refine zkg fun v hv=>?_
 have h1:at0 (ptL p.W.toNat fun _=>0) v=0:=zq (zau (q:=fun _=>0) (by omega))
 have h2:at0 (ptL p.W.toNat fun _=>0) w=0:=zq (zau (q:=fun _=>0) hw)
 have h3:at0 (zgS p) v=((zey p v:Nat):Int):=zq (zau (by omega))
 have h4:at0 (zgS p) w=((zey p w:Nat):Int):=zq (zau hw)
 unfold zch zfh
 rw [h1,h2,h3,h4]
 rw [Bool.eq_iff_iff,decide_eq_true_eq,decide_eq_true_eq]
 omega
def zf6 (p:PM) (j:Nat):Prop:=ptL p.W.toNat (zu p (j+1))=ptL p.W.toNat (zu p j)
instance (p:PM) (j:Nat):Decidable (zf6 p j):=inferInstanceAs (Decidable (_=_))
def zaS (p:PM):Nat:=z8 (fun v _=>decide (zf6 p v)) 65
theorem zBN {p:PM} {j:Nat} (hj:j < 65) (h:zf6 p j) (hn : ∀ i,i < j → ¬zf6 p i):zaS p=j:=by
 have h1:=zjJ (fun v _=>decide (zf6 p v)) 65
 rcases Nat.lt_trichotomy (zaS p) j with hl|hl|hl
 ·exfalso
  rcases h1.1 with ⟨h2,h3⟩|h2
  ·exact hn _ hl (of_decide_eq_true h3)
  ·unfold zaS at hl;omega
 ·exact hl
 ·have:=h1.2 j hl
  simp [h] at this
theorem zxg {p:PM} (hc0:zm p=0) {j:Nat} (hn : ∀ i,i < j → ¬zf6 p i):j≤64:=by
 have h64:=W64 hc0
 have h1:=zmH (rels:=zb2 p) (zdu p p.W.toNat) (k:=j) (fun i hi=>by
  refine Classical.byContradiction fun hne=>hn i hi (zd9 fun w hw=>?_)
  exact Classical.byContradiction fun hw'=>hne ⟨w,hw,hw'⟩) j (Nat.le_refl _)
 have h2:=zwS p.W.toNat (zbT p.W.toNat (zb2 p) (zmv p) j)
 omega
def zcH (p:PM):List (List Int):=(List.range (zaS p+1)).map fun i=>ptL p.W.toNat (zu p i)
theorem zrx (hR:zcp T) (p:PM) (hp:zat p.rank) (hc0:zm p=0):Fn Tryz.prog T zeO [.d (dPM p)] [] (.d (dII (zcH p))) []:=by
 have hg:=zM hc0
 have w1:=hg.w1
 have w2:=hg.w2
 have h64:=W64 hc0
 have cs:=zvb (T:=T) (ztU p.W.toNat) h64 (zgS p) zcc
 rw [show dI (ptL p.W.toNat fun _=>0)=D.arr 1 (List.replicate p.W.toNat (D.int .i64 0)) by show D.arr 1 ((ptL p.W.toNat fun _=>0).map (D.int .i64))=_;unfold ptL;rw [List.map_map];exact congrArg _ (zbW _ _).symm,zd9 fun w hw=>zrq p hw] at cs
 refine zd zp znO (by show 1≤30;decide) ?_
 (repeat' ((conv=>whnf);first|refine vA ?_|refine vT ?_|(refine vP ?_ ?_;·omega)|(refine vU ?_ ?_;·kernel_rfl)|refine yN (zyY p hc0) ⟨⟨rfl,rfl⟩,rfl⟩ ?_|refine yN cs ⟨⟨rfl,rfl⟩,⟨rfl,rfl⟩,rfl⟩ ?_));all_goals try conv=>whnf
 refine zt (fun ((j,zs):Nat×List D)=>[(1,.ptr 0 0),(3,.d (dI (ptL p.W.toNat (zu p j)))),(5,.own 1)]) (fun ((j,zs):Nat×List D)=>[(0,some (zaC p)),(1,some (.row 1 zs))]) 2 (fun ((j,zs):Nat×List D)=>(∀ i,i < j → ¬zf6 p i)∧zs=(List.range (j+1)).map fun i=>dI (ptL p.W.toNat (zu p i))) (fun ((j,zs):Nat×List D)=>65 - j) ((0,[dI (ptL p.W.toNat (zu p 0))])) [(0,0),(1,2)] [] (⟨fun i hi=>by omega,rfl⟩) (by (refine ⟨rfl,rfl,rfl,?_,?_⟩;repeat' first|exact trivial|exact rfl|refine And.intro ?_ ?_|refine ⟨_,rfl,?_⟩|decide)) ?_
 rintro ⟨j,zs⟩ ⟨hn,hz⟩
 have hj:=zxg hc0 hn
 have hzl:zs.length=j+1:=by rw [hz];simp
 have cf:Fn Tryz.prog T zda [.d (dPM p),.d (dI (ptL p.W.toNat (zu p j)))] [] (.d (dI (ptL p.W.toNat (zu p (j+1))))) []:=zAL hR p hp hc0 (znp p j)
 (repeat' ((conv=>whnf);refine vT ?_));all_goals try conv=>whnf
 refine zL.dataN (cf) (by (repeat refine ⟨⟨rfl,rfl⟩,?_⟩);rfl) ?_
 (repeat' ((conv=>whnf);first|refine vA ?_|(refine vI ?_ ?_<;>intro hc)|refine vT ?_|(refine vP ?_ ?_;·(simp only [vM] at *;omega))|refine yD (zu7 _ _) ⟨⟨rfl,rfl⟩,⟨rfl,rfl⟩,rfl⟩ rfl ?_));all_goals try conv=>whnf
 ·have hs:=zBN (p:=p) (by omega) (by simpa [zf6] using hc) hn
  refine congrArg (fun l=>some (D.arr 1 l)) ?_
  rw [hz,zcH,hs,List.map_map];rfl
 ·refine ⟨(j+1,_),[(0,0),(1,3)],[],?_,?_,by (refine ⟨rfl,rfl,rfl,?_,?_⟩;repeat' first|exact trivial|exact rfl|refine And.intro ?_ ?_|refine ⟨_,rfl,?_⟩|decide)⟩
  ·refine ⟨fun i hi=>?_,by rw [hz,List.range_succ (n:=j+1),List.map_append];rfl⟩
   by_cases e:i=j
   ·subst e;simpa [zf6] using hc
   ·exact hn i (by omega)
  ·((simp only [vM] at *;omega))
def zhM (p:PM) (n:Int):List Int×Int:=if zm p≠0 then ([],zm p) else if n < 0 then ([],2) else (ptL p.W.toNat (zu p n.toNat),0)
abbrev dLI (x:List Int×Int):D := .tup [dI x.1,.int .i64 x.2]
theorem zxf {p:PM} (hc0:zm p=0):zaS p≤64∧zf6 p (zaS p):=by
 have h1:=zjJ (fun v _=>decide (zf6 p v)) 65
 have h2 : ∀ i,i < zaS p → ¬zf6 p i:=fun i hi=>by have:=h1.2 i hi;simpa using this
 have h3:=zxg hc0 h2
 refine ⟨h3,?_⟩
 rcases h1.1 with ⟨h4,h5⟩|h4
 ·exact of_decide_eq_true h5
 ·unfold zaS at h3;omega
end Go.Ab
namespace Go.Ab
open Go Go.Proofs
set_option maxRecDepth 10000
set_option maxHeartbeats 4000000
variable {T:Nat→Obj→Prop}
abbrev cNd (x:Nd):List V:=[.d (.int .i64 x.op),.d (.int .i64 x.i),.d (.int .i64 x.e),.d (.int .i64 x.g),.d (.int .i64 x.x),.d (.int .i64 x.y)]
theorem zys {α:Type} {l:List α} {j:Nat} {n:α} (h:l[j]? = some n):l.take (j+1)=l.take j++[n]:=by rw [List.take_add_one,h];rfl
theorem zCY {f c:List Nd} {j:Nat} {n:Nd} (h:c[j]? = some n):(f++(c.take (j+1)).map (zaO f.length)).map dNd=(f++(c.take j).map (zaO f.length)).map dNd++[dNd (zaO f.length n)]:=by
 rw [zys h];simp
set_option maxHeartbeats 40000000 in
theorem zh3 (x0:Nd) (os:List (List Nd)) (hos:os.length≤2):Fn Tryz.prog T zgP [.d (dNd x0),.d (.arr 1 (os.map dF))] [] (.d (dF (zF x0 os))) []:=by
 refine zd zp zrH (by show 2≤85;decide) ?_
 (repeat' ((conv=>whnf);first|refine vA ?_|refine vJ fun hg=>?_|refine vT ?_));all_goals try conv=>whnf
 refine zt (fun ((k,x',f):Nat×Nd×List Nd)=>[(2,.ptr 0 0),(5,.own 1),(14,.d (.arr 1 (os.map dF))),(15,.d (.int .i64 ((os.map dF).length:Int))),(16,.d (.int .i64 ((k:Int))))]) (fun ((k,x',f):Nat×Nd×List Nd)=>[(0,some (.box (cNd x'))),(1,some (.row 6 (f.map dNd)))]) 2 (fun ((k,x',f):Nat×Nd×List Nd)=>k≤os.length∧zb8 k f x' (os.drop k)=zb8 0 [] x0 os∧zao f∧f.length≤200 * k) (fun ((k,x',f):Nat×Nd×List Nd)=>os.length - k) ((0,x0,[])) [(0,0)]   [1] (⟨by simp,rfl,zaZ,by simp⟩) (by (refine ⟨rfl,rfl,rfl,?_,?_⟩;repeat' first|exact trivial|exact rfl|exact ⟨_,rfl⟩|refine And.intro ?_ ?_|refine ⟨_,rfl,?_⟩|decide)) ?_
 rintro ⟨k,x',f⟩ ⟨hk,hI,hf,hfl⟩
 (repeat' ((conv=>whnf);first|refine vA ?_|((first|refine vD ?_ ?_|refine vF ?_ ?_)<;>intro hc<;>try simp only [vL] at hc)|refine vJ fun hg=>?_|refine vT ?_|(refine vQ ?_ fun x hx=>?_;·omega)|refine yD (zs2 _) ⟨⟨rfl,rfl⟩,rfl⟩ rfl ?_|refine yN (zpX _) ⟨⟨rfl,rfl⟩,rfl⟩ ?_));all_goals try conv=>whnf
 ·have hne:=‹zaX _≠0›
  rw [zap hx,zb8,if_pos hne] at hI
  have e:zF x0 os=[]:=by rw [zF,← hI]
  rw [e];rfl
 ·have h0:=‹zaX _=0›
  revert hx h0
  generalize x=o
  intro hx h0
  have hkl:k < os.length:=(List.getElem?_eq_some_iff.1 hx).1
  rw [zap hx,zb8,if_neg (not_not_intro h0)] at hI
  have hco:=zpp o
  have hcl:=zj2 o
  have hfn:f.length≤200:=by omega
  refine zt (fun ((j,ys):Nat×List D)=>[(2,.ptr 0 0),(5,.own 1),(6,.d (.int .i64 ((k:Int)))),(8,.d (.int .i64 ((((f.map dNd).length:Nat):Int)))),(14,.d (.arr 1 (os.map dF))),(15,.d (.int .i64 ((os.map dF).length:Int))),(16,.d (.int .i64 ((k:Int)))),(27,.d (dF (cL o))),(28,.d (.int .i64 (((cL o).map dNd).length:Int))),(29,.d (.int .i64 ((j:Int))))]) (fun ((j,ys):Nat×List D)=>[(0,some (.box (cNd x'))),(1,some (.row 6 ys))]) 2 (fun ((j,ys):Nat×List D)=>j≤(cL o).length∧ys=(f++((cL o).take j).map (zaO f.length)).map dNd) (fun ((j,ys):Nat×List D)=>(cL o).length - j) ((0,f.map dNd)) [(0,0),(1,1)] [] (⟨by simp,by simp⟩) (by (refine ⟨rfl,rfl,rfl,?_,?_⟩;repeat' first|exact trivial|exact rfl|refine And.intro ?_ ?_|refine ⟨_,rfl,?_⟩|decide)) ?_
  rintro ⟨j,_⟩ ⟨hj,rfl⟩
  by_cases hjl:j < (cL o).length
  ·obtain ⟨n,hn⟩ : ∃ n,(cL o)[j]? = some n:=⟨(cL o)[j],by simp [hjl]⟩
   have hst:=zCY (f:=f) hn
   have hl:(f++((cL o).take j).map (zaO f.length)).length=f.length+j:=by simp;omega
   obtain ⟨-,nx,-,ny,-⟩:=zaF.1 (hco j n hn)
   cases hux:zK n.op with
   | false =>
    have huy:zB n.op=false:=by
     cases hy:zB n.op with
     | true=>rw [zX hy] at hux;cases hux
     | false=>rfl
    have hu:=zfD (T:=T) hux huy
    have es:zaO f.length n=n:=by simp [zaO,hux,huy]
    rw [es] at hst
    (repeat' ((conv=>whnf);first|refine vA ?_|refine vH ?_|(refine vF ?_ ?_<;>intro hc<;>try simp only [vL] at hc)|refine vJ fun hg=>?_|refine vT ?_|refine vN ‹_› ?_|((first|refine vO ?_ ?_|refine vP ?_ ?_);·first|omega|(simp only [vM] at *;omega))|refine yD hu (by (repeat refine ⟨⟨rfl,rfl⟩,?_⟩);rfl) rfl ?_));all_goals try conv=>whnf
    ·refine ⟨(j+1,_),[(0,0),(1,5)],[],?_,?_,by (refine ⟨rfl,rfl,rfl,?_,?_⟩;repeat' first|exact trivial|exact rfl|refine And.intro ?_ ?_|refine ⟨_,rfl,?_⟩|decide)⟩
     ·exact ⟨hjl,hst.symm⟩
     ·((simp only [vM] at *;omega))
    all_goals omega
   | true =>
    have nx:=nx hux
    cases huy:zB n.op with
    | false =>
     have hu:=zfD (T:=T) hux huy
     have es:zaO f.length n=⟨n.op,n.i,n.e,n.g,n.x+(((f.map dNd).length:Nat):Int),n.y⟩:=by simp [zaO,hux,huy]
     rw [es] at hst
     (repeat' ((conv=>whnf);first|refine vA ?_|refine vG ?_|refine vH ?_|(refine vF ?_ ?_<;>intro hc<;>try simp only [vL] at hc)|refine vJ fun hg=>?_|refine vT ?_|refine vN ‹_› ?_|((first|refine vO ?_ ?_|refine vP ?_ ?_);·first|omega|(simp only [vM] at *;omega))|refine yD hu (by (repeat refine ⟨⟨rfl,rfl⟩,?_⟩);rfl) rfl ?_));all_goals try conv=>whnf
     ·refine ⟨(j+1,_),[(0,0),(1,5)],[],?_,?_,by (refine ⟨rfl,rfl,rfl,?_,?_⟩;repeat' first|exact trivial|exact rfl|refine And.intro ?_ ?_|refine ⟨_,rfl,?_⟩|decide)⟩
      ·exact ⟨hjl,hst.symm⟩
      ·((simp only [vM] at *;omega))
     all_goals omega
    | true =>
     have ny:=ny huy
     have hu:=zfD (T:=T) hux huy
     have es:zaO f.length n=⟨n.op,n.i,n.e,n.g,n.x+(((f.map dNd).length:Nat):Int),n.y+(((f.map dNd).length:Nat):Int)⟩:=by simp [zaO,hux,huy]
     rw [es] at hst
     (repeat' ((conv=>whnf);first|refine vA ?_|refine vG ?_|(refine vF ?_ ?_<;>intro hc<;>try simp only [vL] at hc)|refine vJ fun hg=>?_|refine vT ?_|refine vN ‹_› ?_|((first|refine vO ?_ ?_|refine vP ?_ ?_);·first|omega|(simp only [vM] at *;omega))|refine yD hu (by (repeat refine ⟨⟨rfl,rfl⟩,?_⟩);rfl) rfl ?_));all_goals try conv=>whnf
     ·refine ⟨(j+1,_),[(0,0),(1,5)],[],?_,?_,by (refine ⟨rfl,rfl,rfl,?_,?_⟩;repeat' first|exact trivial|exact rfl|refine And.intro ?_ ?_|refine ⟨_,rfl,?_⟩|decide)⟩
      ·exact ⟨hjl,hst.symm⟩
      ·((simp only [vM] at *;omega))
     all_goals omega
  ·have ej:j=(cL o).length:=by omega
   subst ej
   rw [List.take_length]
   have hl2:(zG f (cL o)).length=f.length+(cL o).length:=by simp [zG]
   have hok2:=zc7 hf hco
   have elen:((((zG f (cL o)).map dNd).length:Nat):Int) - 1=((zG f (cL o)).length:Int) - 1:=by rw [List.length_map]
   rw [← elen] at hI
   (repeat' ((conv=>whnf);first|refine vA ?_|(refine vF ?_ ?_<;>intro hc<;>try simp only [vL] at hc)|refine vJ fun hg=>?_|refine vT ?_|(refine vQ ?_ fun x hx=>?_;·omega)|(refine vO ?_ ?_;·first|omega|(simp only [vM] at *;omega))|fail));all_goals try conv=>whnf
   ·omega
   ·have e0:k=0:=by omega
    rw [if_pos e0] at hI
    exact ⟨(k+1,{ x' with x:=(((zG f (cL o)).map dNd).length:Int) - 1 },zG f (cL o)),[(0,0),(1,1)],[],⟨hkl,hI,hok2,by omega⟩,by ((simp only [vM] at *;omega)),by (refine ⟨rfl,rfl,rfl,?_,?_⟩;repeat' first|exact trivial|exact rfl|refine And.intro ?_ ?_|refine ⟨_,rfl,?_⟩|decide)⟩
   ·have e0 : ¬k=0:=by omega
    rw [if_neg e0] at hI
    exact ⟨(k+1,{ x' with y:=(((zG f (cL o)).map dNd).length:Int) - 1 },zG f (cL o)),[(0,0),(1,1)],[],⟨hkl,hI,hok2,by omega⟩,by ((simp only [vM] at *;omega)),by (refine ⟨rfl,rfl,rfl,?_,?_⟩;repeat' first|exact trivial|exact rfl|refine And.intro ?_ ?_|refine ⟨_,rfl,?_⟩|decide)⟩
 ·have ek:k=os.length:=by omega
  subst ek
  rw [List.drop_eq_nil_of_le (Nat.le_refl _),zb8] at hI
  have eB:zF x0 os=zaP x' f:=by rw [zF,← hI]
  rw [eB]
  have hE:=zop (T:=T) x' ((((f.map dNd).length:Nat):Int))
  (repeat' ((conv=>whnf);first|(refine vD ?_ ?_<;>intro hc<;>try simp only [vL] at hc)|refine vT ?_|(refine vP ?_ ?_;·(simp only [vM] at *;omega))|refine yD hE ⟨⟨rfl,rfl⟩,⟨rfl,rfl⟩,rfl⟩ rfl ?_));all_goals try conv=>whnf
  ·have e2:zaP x' f=[]:=if_pos ‹_›
   rw [e2];rfl
  ·have hn:=‹zbe x' _=0›
   have hok:zao (f++[x']):=by
    intro k n hk
    rw [List.getElem?_append] at hk
    split at hk
    ·exact hf k n hk
    ·rename_i h1
     have:k=f.length:=by have:=(List.getElem?_eq_some_iff.1 hk).1;simp at this;omega
     subst this
     simp at hk;subst hk;exact hn
   have cB:=zrw (T:=T) hok (by simp;omega) (k:=f.length) (i:=(((f.map dNd).length:Nat):Int)) (by rw [List.length_map]) (by simp)
   rw [show dF (f++[x']) = .arr 6 (f.map dNd++[dNd x']) by simp] at cB
   refine zL.dataN (cB) (by (repeat refine ⟨⟨rfl,rfl⟩,?_⟩);rfl) ?_
   (repeat' ((conv=>whnf);first|refine vA ?_|(refine vF ?_ ?_<;>intro hc<;>try simp only [vL] at hc)|refine vJ fun hg=>?_|refine vT ?_));all_goals try conv=>whnf
   ·have e2:zaP x' f=[]:=by rw [zaP,if_neg (by omega),if_pos (by omega)]
    rw [e2];rfl
   ·have e2:zaP x' f=zbl (f++[x']) f.length:=by rw [zaP,if_neg (by omega),if_neg (by omega)]
    rw [e2];rfl
end Go.Ab
namespace Go.Ab
open Go Go.Proofs
set_option maxRecDepth 10000
set_option maxHeartbeats 4000000
variable {T:Nat→Obj→Prop}
theorem zAH (a:Int) (f:List Nd):Fn Tryz.prog T zhU [.d (.int .i64 a),.d (dF f)] [] (.d (dF (zF ⟨10,a,0,0,0,0⟩ [f]))) []:=by
 refine zd zp zsr (by show 2≤10;decide) ?_
 (repeat' ((conv=>whnf);first|refine vA ?_|refine vB fun b hb=>?_|refine vC (fun hl=>?_) fun i kv vv hi=>?_|refine vE ?_|refine vG ?_|refine vH ?_|((first|refine vD ?_ ?_|refine vF ?_ ?_|refine vI ?_ ?_)<;>intro hc<;>try simp only [vL] at hc)|refine vJ fun hg=>?_|refine vK fun hg=>?_|refine vT ?_|refine vN ‹_› ?_|(refine vQ ?_ fun x hx=>?_;·first|omega|(simp only [vM] at *;omega))|((first|refine vO ?_ ?_|refine vR ?_ ‹_› ?_|refine vS ?_ fun x hx=>?_|refine vP ?_ ?_);·first|omega|(simp only [vM] at *;omega))|refine vW ⟨by omega,by omega⟩ ?_|(refine vU ?_ ?_;·kernel_rfl)|refine vX ?_|refine vY ?_|refine vZ ?_|refine zaj.mk _ ‹_› ?_|refine vP (show (_:BitVec 64)≠_ by decide) ?_));all_goals try conv=>whnf
 refine zL.dataN (zh3 ⟨10,a,0,0,0,0⟩ [f] (by simp)) (by (repeat refine ⟨⟨rfl,rfl⟩,?_⟩);rfl) ?_
 (repeat' ((conv=>whnf);first|refine vA ?_|refine vB fun b hb=>?_|refine vC (fun hl=>?_) fun i kv vv hi=>?_|refine vE ?_|refine vG ?_|refine vH ?_|((first|refine vD ?_ ?_|refine vF ?_ ?_|refine vI ?_ ?_)<;>intro hc<;>try simp only [vL] at hc)|refine vJ fun hg=>?_|refine vK fun hg=>?_|refine vT ?_|refine vN ‹_› ?_|(refine vQ ?_ fun x hx=>?_;·first|omega|(simp only [vM] at *;omega))|((first|refine vO ?_ ?_|refine vR ?_ ‹_› ?_|refine vS ?_ fun x hx=>?_|refine vP ?_ ?_);·first|omega|(simp only [vM] at *;omega))|refine vW ⟨by omega,by omega⟩ ?_|(refine vU ?_ ?_;·kernel_rfl)|refine vX ?_|refine vY ?_|refine vZ ?_|refine zaj.mk _ ‹_› ?_|refine vP (show (_:BitVec 64)≠_ by decide) ?_));all_goals try conv=>whnf
 rfl
theorem zu8 (a:Int) (f:List Nd):Fn Tryz.prog T zhV [.d (.int .i64 a),.d (dF f)] [] (.d (dF (zF ⟨15,a,0,0,0,0⟩ [f]))) []:=by
 refine zd zp zss (by show 2≤10;decide) ?_
 (repeat' ((conv=>whnf);first|refine vA ?_|refine vB fun b hb=>?_|refine vC (fun hl=>?_) fun i kv vv hi=>?_|refine vE ?_|refine vG ?_|refine vH ?_|((first|refine vD ?_ ?_|refine vF ?_ ?_|refine vI ?_ ?_)<;>intro hc<;>try simp only [vL] at hc)|refine vJ fun hg=>?_|refine vK fun hg=>?_|refine vT ?_|refine vN ‹_› ?_|(refine vQ ?_ fun x hx=>?_;·first|omega|(simp only [vM] at *;omega))|((first|refine vO ?_ ?_|refine vR ?_ ‹_› ?_|refine vS ?_ fun x hx=>?_|refine vP ?_ ?_);·first|omega|(simp only [vM] at *;omega))|refine vW ⟨by omega,by omega⟩ ?_|(refine vU ?_ ?_;·kernel_rfl)|refine vX ?_|refine vY ?_|refine vZ ?_|refine zaj.mk _ ‹_› ?_|refine vP (show (_:BitVec 64)≠_ by decide) ?_));all_goals try conv=>whnf
 refine zL.dataN (zh3 ⟨15,a,0,0,0,0⟩ [f] (by simp)) (by (repeat refine ⟨⟨rfl,rfl⟩,?_⟩);rfl) ?_
 (repeat' ((conv=>whnf);first|refine vA ?_|refine vB fun b hb=>?_|refine vC (fun hl=>?_) fun i kv vv hi=>?_|refine vE ?_|refine vG ?_|refine vH ?_|((first|refine vD ?_ ?_|refine vF ?_ ?_|refine vI ?_ ?_)<;>intro hc<;>try simp only [vL] at hc)|refine vJ fun hg=>?_|refine vK fun hg=>?_|refine vT ?_|refine vN ‹_› ?_|(refine vQ ?_ fun x hx=>?_;·first|omega|(simp only [vM] at *;omega))|((first|refine vO ?_ ?_|refine vR ?_ ‹_› ?_|refine vS ?_ fun x hx=>?_|refine vP ?_ ?_);·first|omega|(simp only [vM] at *;omega))|refine vW ⟨by omega,by omega⟩ ?_|(refine vU ?_ ?_;·kernel_rfl)|refine vX ?_|refine vY ?_|refine vZ ?_|refine zaj.mk _ ‹_› ?_|refine vP (show (_:BitVec 64)≠_ by decide) ?_));all_goals try conv=>whnf
 rfl
theorem zh2 (f:List Nd):Fn Tryz.prog T zjc [.d (dF f)] [] (.d (dF (zF ⟨4,0,0,0,0,0⟩ [f]))) []:=by
 refine zd zp zt0 (by show 1≤7;decide) ?_
 (repeat' ((conv=>whnf);first|refine vA ?_|refine vB fun b hb=>?_|refine vC (fun hl=>?_) fun i kv vv hi=>?_|refine vE ?_|refine vG ?_|refine vH ?_|((first|refine vD ?_ ?_|refine vF ?_ ?_|refine vI ?_ ?_)<;>intro hc<;>try simp only [vL] at hc)|refine vJ fun hg=>?_|refine vK fun hg=>?_|refine vT ?_|refine vN ‹_› ?_|(refine vQ ?_ fun x hx=>?_;·first|omega|(simp only [vM] at *;omega))|((first|refine vO ?_ ?_|refine vR ?_ ‹_› ?_|refine vS ?_ fun x hx=>?_|refine vP ?_ ?_);·first|omega|(simp only [vM] at *;omega))|refine vW ⟨by omega,by omega⟩ ?_|(refine vU ?_ ?_;·kernel_rfl)|refine vX ?_|refine vY ?_|refine vZ ?_|refine zaj.mk _ ‹_› ?_|refine vP (show (_:BitVec 64)≠_ by decide) ?_));all_goals try conv=>whnf
 refine zL.dataN (zh3 ⟨4,0,0,0,0,0⟩ [f] (by simp)) (by (repeat refine ⟨⟨rfl,rfl⟩,?_⟩);rfl) ?_
 (repeat' ((conv=>whnf);first|refine vA ?_|refine vB fun b hb=>?_|refine vC (fun hl=>?_) fun i kv vv hi=>?_|refine vE ?_|refine vG ?_|refine vH ?_|((first|refine vD ?_ ?_|refine vF ?_ ?_|refine vI ?_ ?_)<;>intro hc<;>try simp only [vL] at hc)|refine vJ fun hg=>?_|refine vK fun hg=>?_|refine vT ?_|refine vN ‹_› ?_|(refine vQ ?_ fun x hx=>?_;·first|omega|(simp only [vM] at *;omega))|((first|refine vO ?_ ?_|refine vR ?_ ‹_› ?_|refine vS ?_ fun x hx=>?_|refine vP ?_ ?_);·first|omega|(simp only [vM] at *;omega))|refine vW ⟨by omega,by omega⟩ ?_|(refine vU ?_ ?_;·kernel_rfl)|refine vX ?_|refine vY ?_|refine vZ ?_|refine zaj.mk _ ‹_› ?_|refine vP (show (_:BitVec 64)≠_ by decide) ?_));all_goals try conv=>whnf
 rfl
theorem zCp (f:List Nd) (g:List Nd):Fn Tryz.prog T zeC [.d (dF f),.d (dF g)] [] (.d (dF (zF ⟨5,0,0,0,0,0⟩ [f,g]))) []:=by
 refine zd zp ztZ (by show 2≤10;decide) ?_
 (repeat' ((conv=>whnf);first|refine vA ?_|refine vB fun b hb=>?_|refine vC (fun hl=>?_) fun i kv vv hi=>?_|refine vE ?_|refine vG ?_|refine vH ?_|((first|refine vD ?_ ?_|refine vF ?_ ?_|refine vI ?_ ?_)<;>intro hc<;>try simp only [vL] at hc)|refine vJ fun hg=>?_|refine vK fun hg=>?_|refine vT ?_|refine vN ‹_› ?_|(refine vQ ?_ fun x hx=>?_;·first|omega|(simp only [vM] at *;omega))|((first|refine vO ?_ ?_|refine vR ?_ ‹_› ?_|refine vS ?_ fun x hx=>?_|refine vP ?_ ?_);·first|omega|(simp only [vM] at *;omega))|refine vW ⟨by omega,by omega⟩ ?_|(refine vU ?_ ?_;·kernel_rfl)|refine vX ?_|refine vY ?_|refine vZ ?_|refine zaj.mk _ ‹_› ?_|refine vP (show (_:BitVec 64)≠_ by decide) ?_));all_goals try conv=>whnf
 refine zL.dataN (zh3 ⟨5,0,0,0,0,0⟩ [f,g] (by simp)) (by (repeat refine ⟨⟨rfl,rfl⟩,?_⟩);rfl) ?_
 (repeat' ((conv=>whnf);first|refine vA ?_|refine vB fun b hb=>?_|refine vC (fun hl=>?_) fun i kv vv hi=>?_|refine vE ?_|refine vG ?_|refine vH ?_|((first|refine vD ?_ ?_|refine vF ?_ ?_|refine vI ?_ ?_)<;>intro hc<;>try simp only [vL] at hc)|refine vJ fun hg=>?_|refine vK fun hg=>?_|refine vT ?_|refine vN ‹_› ?_|(refine vQ ?_ fun x hx=>?_;·first|omega|(simp only [vM] at *;omega))|((first|refine vO ?_ ?_|refine vR ?_ ‹_› ?_|refine vS ?_ fun x hx=>?_|refine vP ?_ ?_);·first|omega|(simp only [vM] at *;omega))|refine vW ⟨by omega,by omega⟩ ?_|(refine vU ?_ ?_;·kernel_rfl)|refine vX ?_|refine vY ?_|refine vZ ?_|refine zaj.mk _ ‹_› ?_|refine vP (show (_:BitVec 64)≠_ by decide) ?_));all_goals try conv=>whnf
 rfl
theorem zAI  : Fn Tryz.prog T zhW [] [] (.d (dF (zF ⟨1,0,0,0,0,0⟩ []))) []:=by
 refine zd zp zst (by show 0≤3;decide) ?_
 (repeat' ((conv=>whnf);first|refine vA ?_|refine vB fun b hb=>?_|refine vC (fun hl=>?_) fun i kv vv hi=>?_|refine vE ?_|refine vG ?_|refine vH ?_|((first|refine vD ?_ ?_|refine vF ?_ ?_|refine vI ?_ ?_)<;>intro hc<;>try simp only [vL] at hc)|refine vJ fun hg=>?_|refine vK fun hg=>?_|refine vT ?_|refine vN ‹_› ?_|(refine vQ ?_ fun x hx=>?_;·first|omega|(simp only [vM] at *;omega))|((first|refine vO ?_ ?_|refine vR ?_ ‹_› ?_|refine vS ?_ fun x hx=>?_|refine vP ?_ ?_);·first|omega|(simp only [vM] at *;omega))|refine vW ⟨by omega,by omega⟩ ?_|(refine vU ?_ ?_;·kernel_rfl)|refine vX ?_|refine vY ?_|refine vZ ?_|refine zaj.mk _ ‹_› ?_|refine vP (show (_:BitVec 64)≠_ by decide) ?_));all_goals try conv=>whnf
 refine zL.dataN (zh3 ⟨1,0,0,0,0,0⟩ [] (by simp)) (by (repeat refine ⟨⟨rfl,rfl⟩,?_⟩);rfl) ?_
 (repeat' ((conv=>whnf);first|refine vA ?_|refine vB fun b hb=>?_|refine vC (fun hl=>?_) fun i kv vv hi=>?_|refine vE ?_|refine vG ?_|refine vH ?_|((first|refine vD ?_ ?_|refine vF ?_ ?_|refine vI ?_ ?_)<;>intro hc<;>try simp only [vL] at hc)|refine vJ fun hg=>?_|refine vK fun hg=>?_|refine vT ?_|refine vN ‹_› ?_|(refine vQ ?_ fun x hx=>?_;·first|omega|(simp only [vM] at *;omega))|((first|refine vO ?_ ?_|refine vR ?_ ‹_› ?_|refine vS ?_ fun x hx=>?_|refine vP ?_ ?_);·first|omega|(simp only [vM] at *;omega))|refine vW ⟨by omega,by omega⟩ ?_|(refine vU ?_ ?_;·kernel_rfl)|refine vX ?_|refine vY ?_|refine vZ ?_|refine zaj.mk _ ‹_› ?_|refine vP (show (_:BitVec 64)≠_ by decide) ?_));all_goals try conv=>whnf
 rfl
theorem zmz (a:Int):Fn Tryz.prog T zhT [.d (.int .i64 a)] [] (.d (dF (zF ⟨3,a,0,0,0,0⟩ []))) []:=by
 refine zd zp zsq (by show 1≤6;decide) ?_
 (repeat' ((conv=>whnf);first|refine vA ?_|refine vB fun b hb=>?_|refine vC (fun hl=>?_) fun i kv vv hi=>?_|refine vE ?_|refine vG ?_|refine vH ?_|((first|refine vD ?_ ?_|refine vF ?_ ?_|refine vI ?_ ?_)<;>intro hc<;>try simp only [vL] at hc)|refine vJ fun hg=>?_|refine vK fun hg=>?_|refine vT ?_|refine vN ‹_› ?_|(refine vQ ?_ fun x hx=>?_;·first|omega|(simp only [vM] at *;omega))|((first|refine vO ?_ ?_|refine vR ?_ ‹_› ?_|refine vS ?_ fun x hx=>?_|refine vP ?_ ?_);·first|omega|(simp only [vM] at *;omega))|refine vW ⟨by omega,by omega⟩ ?_|(refine vU ?_ ?_;·kernel_rfl)|refine vX ?_|refine vY ?_|refine vZ ?_|refine zaj.mk _ ‹_› ?_|refine vP (show (_:BitVec 64)≠_ by decide) ?_));all_goals try conv=>whnf
 refine zL.dataN (zh3 ⟨3,a,0,0,0,0⟩ [] (by simp)) (by (repeat refine ⟨⟨rfl,rfl⟩,?_⟩);rfl) ?_
 (repeat' ((conv=>whnf);first|refine vA ?_|refine vB fun b hb=>?_|refine vC (fun hl=>?_) fun i kv vv hi=>?_|refine vE ?_|refine vG ?_|refine vH ?_|((first|refine vD ?_ ?_|refine vF ?_ ?_|refine vI ?_ ?_)<;>intro hc<;>try simp only [vL] at hc)|refine vJ fun hg=>?_|refine vK fun hg=>?_|refine vT ?_|refine vN ‹_› ?_|(refine vQ ?_ fun x hx=>?_;·first|omega|(simp only [vM] at *;omega))|((first|refine vO ?_ ?_|refine vR ?_ ‹_› ?_|refine vS ?_ fun x hx=>?_|refine vP ?_ ?_);·first|omega|(simp only [vM] at *;omega))|refine vW ⟨by omega,by omega⟩ ?_|(refine vU ?_ ?_;·kernel_rfl)|refine vX ?_|refine vY ?_|refine vZ ?_|refine zaj.mk _ ‹_› ?_|refine vP (show (_:BitVec 64)≠_ by decide) ?_));all_goals try conv=>whnf
 rfl
end Go.Ab
namespace Go.Ab
open Go Go.Proofs
set_option maxRecDepth 10000
set_option maxHeartbeats 4000000
variable {T:Nat→Obj→Prop}
def zb1 (p:PM) (v w:Nat):Int:=zju (fun q:List Int=>decide (at0 q v≠at0 q w)) (zcH p)
def mkD (p:PM):List D:=[.int .i64 p.W,dU p.val,dII p.cell,dII p.rank,dII (zcH p)]
def mkB (p:PM) (x:V):Ob := .box ((mkD p).map V.d++[x])
def mkF (p:PM) (es:List (D×D)):D := .box (mkD p++[.map es])
theorem znq {p:PM} {i:Nat} {q:List Int} (h:(zcH p)[i]? = some q):i≤zaS p∧q=ptL p.W.toNat (zu p i):=by
 unfold zcH at h
 rw [List.getElem?_map,Option.map_eq_some_iff] at h
 obtain ⟨j,hj,rfl⟩:=h
 obtain ⟨hj1,hj2⟩:=List.getElem?_eq_some_iff.1 hj
 rw [List.length_range] at hj1
 rw [List.getElem_range] at hj2
 subst hj2
 exact ⟨by omega,rfl⟩
theorem zyT (q:List Int) (v w:Nat) (hv:v < q.length) (hw:w < q.length):Fn Tryz.prog T zaG [.d (dI q),.d (.box [.int .i64 v]),.d (.box [.int .i64 w])] [] (.d (.bool (decide (at0 q v≠at0 q w)))) []:=by
 have e1:q[v]? = some (at0 q v):=by rw [List.getElem?_eq_getElem hv];exact congrArg some (zq (List.getElem?_eq_getElem hv)).symm
 have e2:q[w]? = some (at0 q w):=by rw [List.getElem?_eq_getElem hw];exact congrArg some (zq (List.getElem?_eq_getElem hw)).symm
 refine zd zp zhw (by show 3≤14;decide) ?_
 (repeat' ((conv=>whnf);first|refine vA ?_|refine vT ?_|refine vN ‹_› ?_|(refine vU ?_ ?_;·kernel_rfl)|refine vZ ?_));all_goals try conv=>whnf
theorem zu9 (l:List (List Int)) (v w:Nat) (hl : ∀ q∈l,v < q.length∧w < q.length):Fn Tryz.prog T zbS [.d (dII l),.d (.fn zaG [.box [.int .i64 v],.box [.int .i64 w]])] []
  (.d (.int .i64 (zju (fun q:List Int=>decide (at0 q v≠at0 q w)) l))) []:=by
 refine zd zp zgW (by show 2≤19;decide) ?_
 (repeat' ((conv=>whnf);first|refine vA ?_|refine vJ fun hg=>?_|refine vT ?_));all_goals try conv=>whnf
 refine z1 (fun (k:Nat)=>[(0,.d (dII l)),(1,.d (.fn zaG [.box [.int .i64 v],.box [.int .i64 w]])),(7,.d (.int .i64 ((l.map dI).length:Int))),(8,.d (.int .i64 ((k:Int))))]) (fun (k:Nat)=>k≤l.length ∧ ∀ i y,i < k→l[i]? = some y→decide (at0 y v≠at0 y w)=false) (fun (k:Nat)=>l.length - k) (0) (⟨by simp,by simp⟩) (by (repeat' first|exact trivial|exact rfl|refine And.intro ?_ ?_)) ?_
 rintro k ⟨hk,hI⟩
 (repeat' ((conv=>whnf);first|refine vA ?_|(refine vF ?_ ?_<;>intro hc<;>try simp only [vL] at hc)|refine vT ?_|(refine vQ ?_ fun x hx=>?_;·omega)|refine vX ?_));all_goals try conv=>whnf
 ·obtain ⟨h1,h2⟩:=hl x (List.mem_of_getElem? hx)
  (repeat' ((conv=>whnf);first|(refine vD ?_ ?_<;>intro hc)|refine vT ?_|(refine vO ?_ ?_;·omega)|refine vX ?_|refine yD (zyT x v w h1 h2) ⟨⟨rfl,rfl⟩,⟨rfl,rfl⟩,⟨rfl,rfl⟩,rfl⟩ rfl ?_));all_goals try conv=>whnf
  ·exact (zkz hx (decide_eq_true ‹_›) hI).symm
  ·have hne:decide (at0 x v≠at0 x w)=false:=by simpa using hc
   exact ⟨k+1,[],[],⟨by (omega),fun i y hi hy=>by
    by_cases e:i=k
    ·subst e;rw [show l[i]? = some x from hx] at hy;cases hy;exact hne
    ·exact hI i y (by omega) hy⟩,by (omega),by (refine ⟨rfl,rfl,rfl,?_,?_⟩;repeat' first|exact trivial|exact rfl|refine And.intro ?_ ?_)⟩
 ·exact (zjv fun i y hi hy=>hI i y (by omega) hy).symm
theorem ziL (p:PM) (es:List (D×D)) (v w:Nat) (hv:v < p.W.toNat) (hw:w < p.W.toNat):Fn Tryz.prog T zcm [.d (mkF p es),.d (.int .i64 v),.d (.int .i64 w)] [] (.d (.int .i64 (zb1 p v w))) []:=by
 refine zd zp ziO (by show 3≤13;decide) ?_
 have c:=zu9 (T:=T) (zcH p) v w fun q hq=>by
  obtain ⟨i,hi⟩:=List.mem_iff_getElem?.1 hq
  rw [(znq hi).2,zcc];exact ⟨hv,hw⟩
 (repeat' ((conv=>whnf);first|refine vT ?_|refine vX ?_|refine yD c ⟨⟨rfl,rfl⟩,⟨rfl,rfl⟩,rfl⟩ rfl ?_));all_goals try conv=>whnf
 rfl
def zdH (q:Nat→Nat) (y:BitVec 64) (u n:Nat):Bool:=(List.range n).all fun v => !y.getLsbD v||decide (q u≠q v)
def zbU (q:Nat→Nat) (n:Nat) (x y:BitVec 64):Int:=zju (fun u=>x.getLsbD u&&zdH q y u n) (List.range n)
theorem zmd {q:Nat→Nat} {y:BitVec 64} {u k:Nat} : zdH q y u (k+1)=(zdH q y u k&&(!y.getLsbD k||decide (q u≠q k))):=by
 unfold zdH;rw [List.range_succ,List.all_append];simp
theorem zCs (p:PM) (hW:p.W≤64) (es:List (D×D)) (x y:BitVec 64) (j:Nat) (hj:j≤zaS p) {ji:Int} (ej:ji=j):Fn Tryz.prog T zct [.d (mkF p es),.d (.u64 x),.d (.u64 y),.d (.int .i64 ji)] [] (.d (.int .i64 (zbU (zu p j) p.W.toNat x y))) []:=by
 subst ej
 have hr:(zcH p)[(j:Int).toNat]? = some (ptL p.W.toNat (zu p j)):=by unfold zcH;rw [Int.toNat_natCast,List.getElem?_map,List.getElem?_range (by omega)];rfl
 have hrl:(zcH p).length=zaS p+1:=by simp [zcH]
 refine zd zp zjg (by show 4≤58;decide) ?_
 have w64:p.W.toNat≤64:=by omega
 have hq:=zcc (n:=p.W.toNat) (q:=zu p j)
 generalize zu p j=q at *
 generalize p.W.toNat=n at *
 (repeat' ((conv=>whnf);first|refine vA ?_|refine vJ fun hg=>?_|refine vT ?_|refine vN ‹_› ?_));all_goals try conv=>whnf
 refine z1 (fun (k:Nat)=>[(1,.d (.u64 (x))),(2,.d (.u64 (y))),(9,.d (dI (ptL n q))),(21,.d (.int .i64 (((ptL n q).map (D.int .i64)).length:Int))),(22,.d (.int .i64 ((k:Int))))]) (fun (k:Nat)=>k≤n ∧ ∀ i u,i < k→(List.range n)[i]? = some u→(x.getLsbD u&&zdH q y u n)=false) (fun (k:Nat)=>n - k) (0) (⟨by simp,by simp⟩) (by (repeat' first|exact trivial|exact rfl|refine And.intro ?_ ?_)) ?_
 rintro k ⟨hk,hI⟩
 by_cases hkn:k < n
 ·have hrk:(List.range n)[k]? = some k:=List.getElem?_range hkn
  have next:(x.getLsbD k&&zdH q y k n)=false → ∀ i u,i < k+1→(List.range n)[i]? = some u→(x.getLsbD u&&zdH q y u n)=false:=fun h i u hi hu=>by
   by_cases e:i=k
   ·subst e;rw [hrk] at hu;cases hu;exact h
   ·exact hI i u (by omega) hu
  have e1:(ptL n q)[k]? = some ((q k:Nat):Int):=zau hkn
  (repeat' ((conv=>whnf);first|refine vA ?_|(refine vF ?_ ?_<;>intro hc<;>try simp only [vL] at hc)|refine vJ fun hg=>?_|refine vT ?_|((first|refine vO ?_ ?_|refine vP ?_ ?_);·omega)|refine vX ?_));all_goals try conv=>whnf
  ·have hb:x.getLsbD k=false:=(zee x k).1 ‹_›
   exact ⟨k+1,[],[],⟨by (omega),next (by rw [hb];rfl)⟩,by (omega),by (refine ⟨rfl,rfl,rfl,?_,?_⟩;repeat' first|exact trivial|exact rfl|refine And.intro ?_ ?_)⟩
  ·have hb:x.getLsbD k=true:=zqr ‹_›
   refine z1 (fun ((m,b):Nat×Bool)=>[(1,.d (.u64 (x))),(2,.d (.u64 (y))),(9,.d (dI (ptL n q))),(10,.d (.int .i64 ((k:Int)))),(11,.d (.bool (b))),(21,.d (.int .i64 (((ptL n q).map (D.int .i64)).length:Int))),(22,.d (.int .i64 ((k:Int)))),(31,.d (.int .i64 (((ptL n q).map (D.int .i64)).length:Int))),(32,.d (.int .i64 ((m:Int))))]) (fun ((m,b):Nat×Bool)=>m≤n∧b=zdH q y k m) (fun ((m,b):Nat×Bool)=>n - m) ((0,true)) (⟨by simp,rfl⟩) (by (repeat' first|exact trivial|exact rfl|exact .inr (.inl ⟨rfl,rfl⟩)|refine And.intro ?_ ?_)) ?_
   rintro ⟨m,b⟩ ⟨hm,rfl⟩
   by_cases hmn:m < n
   ·have e2:(ptL n q)[m]? = some ((q m:Nat):Int):=zau hmn
    cases hab:zdH q y k m with
    | false =>
     (repeat' ((conv=>whnf);first|refine vA ?_|refine vH ?_|(refine vF ?_ ?_<;>intro hc<;>try simp only [vL] at hc)|refine vT ?_|(refine vO ?_ ?_;·omega)|(refine vU ?_ ?_;·kernel_rfl)|fail));all_goals try conv=>whnf
     ·exact ⟨(m+1,false),[],[],⟨by (omega),by rw [zmd,hab];rfl⟩,by ((simp only [vM] at *;omega)),by (refine ⟨rfl,rfl,rfl,?_,?_⟩;repeat' first|exact trivial|exact rfl|exact .inr (.inr ⟨rfl,rfl⟩)|refine And.intro ?_ ?_)⟩
     all_goals omega
    | true =>
     (repeat' ((conv=>whnf);first|refine vA ?_|refine vG ?_|(refine vF ?_ ?_<;>intro hc<;>try simp only [vL] at hc)|refine vT ?_|refine vN ‹_› ?_|((first|refine vO ?_ ?_|refine vP ?_ ?_);·omega)|(refine vU ?_ ?_;·kernel_rfl)|refine vX ?_));all_goals try conv=>whnf
     all_goals try omega
     ·have hb2:y.getLsbD m=false:=(zee y m).1 ‹_›
      exact ⟨(m+1,true),[],[],⟨by (omega),by rw [zmd,hab,hb2];rfl⟩,by ((simp only [vM] at *;omega)),by (refine ⟨rfl,rfl,rfl,?_,?_⟩;repeat' first|exact trivial|exact rfl|exact .inr (.inl ⟨rfl,rfl⟩)|refine And.intro ?_ ?_)⟩
     ·have hb2:y.getLsbD m=true:=zqr ‹_›
      refine ⟨(m+1,_),[],[],?_,?_,by (refine ⟨rfl,rfl,rfl,?_,?_⟩;repeat' first|exact trivial|exact rfl|exact .inl rfl|refine And.intro ?_ ?_)⟩
      ·refine ⟨by (omega),?_⟩
       rw [zmd,hab,hb2,Bool.eq_iff_iff];simp;omega
      ·((simp only [vM] at *;omega))
   ·obtain rfl:m=n:=by omega
    cases hab:zdH q y k m with
    | false =>
     (repeat' ((conv=>whnf);first|refine vA ?_|refine vH ?_|(refine vF ?_ ?_<;>intro hc<;>try simp only [vL] at hc)|refine vT ?_|(refine vO ?_ ?_;·omega)|(refine vU ?_ ?_;·kernel_rfl)|fail));all_goals try conv=>whnf
     all_goals try omega
     exact ⟨k+1,[],[],⟨by (omega),next (by rw [hab];simp)⟩,by (omega),by (refine ⟨rfl,rfl,rfl,?_,?_⟩;repeat' first|exact trivial|exact rfl|refine And.intro ?_ ?_)⟩
    | true =>
     (repeat' ((conv=>whnf);first|refine vA ?_|refine vG ?_|(refine vF ?_ ?_<;>intro hc<;>try simp only [vL] at hc)|refine vT ?_|refine vN ‹_› ?_|(refine vQ ?_ fun x hx=>?_;·omega)|((first|refine vO ?_ ?_|refine vP ?_ ?_);·omega)|(refine vU ?_ ?_;·kernel_rfl)|refine vX ?_));all_goals try conv=>whnf
     all_goals try omega
     exact (zkz (p:=fun u=>x.getLsbD u&&zdH q y u m) hrk (by show (x.getLsbD k&&zdH q y k m)=true;rw [hb,hab];rfl) hI).symm
  ·omega
 ·(repeat' ((conv=>whnf);first|refine vA ?_|(refine vF ?_ ?_<;>intro hc<;>try simp only [vL] at hc)|refine vJ fun hg=>?_|refine vT ?_|((first|refine vO ?_ ?_|refine vP ?_ ?_);·omega)|refine vX ?_));all_goals try conv=>whnf
  all_goals try omega
  exact (zjv fun i u hi hu=>hI i u (by simp at hi;omega) hu).symm
def zxp (l:List (List Nd)):List Nd:=match l with
 | []=>zF ⟨1,0,0,0,0,0⟩ []
 | f::r=>r.foldl (fun o g=>zF ⟨5,0,0,0,0,0⟩ [o,g]) (cL f)
theorem zCo (l:List (List Nd)):Fn Tryz.prog T zjb [.d (.arr 1 (l.map dF))] [] (.d (dF (zxp l))) []:=by
 have cj:Fn Tryz.prog T zhX [.d (.arr 1 (l.map dF)),.d (dF (zF ⟨1,0,0,0,0,0⟩ [])),.d (.fn zeC [])] [] (.d (dF (zxp l))) []:=by
  refine zd zp zsu (by show 3≤31;decide) ?_
  match l with
  | [] =>
   (repeat' ((conv=>whnf);first|refine vA ?_|refine vG ?_|refine vJ fun hg=>?_|refine vT ?_));all_goals try conv=>whnf
   rfl
  | f::r =>
   (repeat' ((conv=>whnf);first|refine vA ?_|refine vH ?_|refine vJ fun hg=>?_|refine vK fun hg=>?_|refine vT ?_|(refine vQ ?_ fun x hx=>?_;·(simp only [vM] at *;omega))|(refine vP ?_ ?_;·first|omega|(simp only [vM] at *;omega))|refine yN (zpX _) ⟨⟨rfl,rfl⟩,rfl⟩ ?_));all_goals try conv=>whnf
   obtain rfl:f=x:=Option.some.inj ‹(f::r)[0]? = some _›
   refine z1 (fun ((k,zs,o):Nat×List D×List Nd)=>[(2,.d (.fn zeC [])),(7,.d (dF o)),(19,.d (.arr 1 zs)),(20,.d (.int .i64 ((zs.length:Int)))),(21,.d (.int .i64 ((k:Int))))]) (fun ((k,zs,o):Nat×List D×List Nd)=>k≤r.length∧zs=r.map dF∧o=(r.take k).foldl (fun o g=>zF ⟨5,0,0,0,0,0⟩ [o,g]) (cL f)) (fun ((k,zs,o):Nat×List D×List Nd)=>r.length - k) ((0,List.drop (Int.toNat 1) (List.take (List.map dF (f::r)).length (List.map dF (f::r))),cL f)) (⟨by simp,by rw [List.take_length];rfl,by simp⟩) (by (repeat' first|exact trivial|exact rfl|refine And.intro ?_ ?_)) ?_
   rintro ⟨k,zs,o⟩ ⟨hk,rfl,rfl⟩
   (repeat' ((conv=>whnf);first|refine vA ?_|(refine vF ?_ ?_<;>intro hc<;>try simp only [vL] at hc)|refine vT ?_|(refine vQ ?_ fun x hx=>?_;·omega)|fail));all_goals try conv=>whnf
   ·(repeat' ((conv=>whnf);first|refine vT ?_|(refine vO ?_ ?_;·(simp only [vM] at *;omega))|refine yN (zCp _ _) ⟨⟨rfl,rfl⟩,⟨rfl,rfl⟩,rfl⟩ ?_));all_goals try conv=>whnf
    refine ⟨(k+1,_,_),[],[],?_,?_,by (refine ⟨rfl,rfl,rfl,?_,?_⟩;repeat' first|exact trivial|exact rfl|refine And.intro ?_ ?_)⟩
    ·exact ⟨by (omega),rfl,by rw [List.take_add_one,‹r[k]? = some _›,List.foldl_append];rfl⟩
    ·((simp only [vM] at *;omega))
   ·rw [List.take_of_length_le (by simp at *;omega)]
    rfl
 refine zd zp ztY (by show 1≤6;decide) ?_
 (repeat' ((conv=>whnf);first|refine vT ?_|refine yN zAI rfl ?_|refine yN cj (by (repeat refine ⟨⟨rfl,rfl⟩,?_⟩);rfl) ?_));all_goals try conv=>whnf
 rfl
def zuk (a:Nat) (s:Bool) (f:List Nd):List Nd:=if s=true then zF ⟨4,0,0,0,0,0⟩ [zF ⟨15,a,0,0,0,0⟩ [zF ⟨4,0,0,0,0,0⟩ [f]]] else zF ⟨10,a,0,0,0,0⟩ [f]
def zzu (a:Nat) (s:Bool) (f:List Nd):List Nd:=if s=true then zF ⟨15,a,0,0,0,0⟩ [zF ⟨4,0,0,0,0,0⟩ [f]] else zF ⟨4,0,0,0,0,0⟩ [zuk a s f]
theorem zpY (a:Nat) (s:Bool) (rows:List (BitVec 64)) (f:List Nd):Fn Tryz.prog T zb9 [.d (.agg [.int .i64 a,.bool s,dU rows]),.d (dF f)] [] (.d (dF (zuk a s f))) []:=by
 refine zd zp zh8 (by show 2≤17;decide) ?_
 cases s with
 | true =>
  (repeat' ((conv=>whnf);first|refine vA ?_|refine vG ?_|refine vT ?_|(refine vU ?_ ?_;·kernel_rfl)|refine yN (zh2 _) ⟨⟨rfl,rfl⟩,rfl⟩ ?_|refine yN (zu8 _ _) ⟨⟨rfl,rfl⟩,⟨rfl,rfl⟩,rfl⟩ ?_));all_goals try conv=>whnf
  rfl
 | false =>
  (repeat' ((conv=>whnf);first|refine vA ?_|refine vH ?_|refine vT ?_|refine yN (zAH _ _) ⟨⟨rfl,rfl⟩,⟨rfl,rfl⟩,rfl⟩ ?_));all_goals try conv=>whnf
  rfl
abbrev Kn:=List ((Nat×Nat)×List Nd)
def zdX (a:Nat×Nat):D := .agg [.int .i64 a.1,.int .i64 a.2]
def knD (kn:Kn):List (D×D):=kn.map fun e=>(zdX e.1,dF e.2)
def zd3:Kn→Nat×Nat→List Nd→Kn
 | [],k,f=>[(k,f)]
 | e::r,k,f=>if k=e.1 then (k,f)::r else e::zd3 r k f
theorem zpu (k:Nat×Nat) : ∀ kn:Kn,zy (knD kn) (zdX k)=some ((kn.lookup k).map dF)
 | []=>rfl
 | e::r=>by
  have ih:=zpu k r
  have e1:zy (knD (e::r)) (zdX k)=match D.eqk (zdX k) (zdX e.1) with
   | some true=>some (some (dF e.2))
   | some false=>zy (knD r) (zdX k)
   | none=>none:=rfl
  have e2:D.eqk (zdX k) (zdX e.1)=some (decide (k=e.1)):=by
   obtain ⟨a,b⟩:=k
   obtain ⟨⟨c,d⟩,f⟩:=e
   simp [D.eqk,zdX,zci,D.same,Prod.ext_iff]
   rw [Bool.eq_iff_iff];simp;omega
  rw [e1,e2]
  by_cases h:k=e.1
  ·rw [decide_eq_true h];simp [List.lookup,h]
  ·rw [decide_eq_false h];simp only [List.lookup]
   have:(k==e.1)=false:=by simpa using h
   rw [this];exact ih
theorem zpC {k:Nat×Nat} {f:List Nd} : ∀ {kn:Kn},kn.lookup k=none→zd3 kn k f=kn++[(k,f)]
 | [],_=>rfl
 | e::r,h=>by
  by_cases hk:k=e.1
  ·simp [List.lookup,hk] at h
  ·have hb:(k==e.1)=false:=by simpa using hk
   rw [List.lookup,hb] at h
   rw [zd3,if_neg hk,zpC h];rfl
theorem zxa {k:Nat×Nat} {f:List Nd} : ∀ {kn:Kn} {g:List Nd},kn.lookup k=some g→knD (zd3 kn k f)=zif (knD kn) (zdX k) (dF f)
 | [],_,h=>by cases h
 | e::r,g,h=>by
  have e2:D.eqk (zdX k) (zdX e.1)=some (decide (k=e.1)):=by
   obtain ⟨a,b⟩:=k
   obtain ⟨⟨c,d⟩,f⟩:=e
   simp [D.eqk,zdX,zci,D.same,Prod.ext_iff]
   rw [Bool.eq_iff_iff];simp;omega
  have e1:zif (knD (e::r)) (zdX k) (dF f)=match D.eqk (zdX k) (zdX e.1) with
   | some true=>(zdX k,dF f)::knD r
   | _=>(zdX e.1,dF e.2)::zif (knD r) (zdX k) (dF f):=rfl
  rw [e1,e2]
  by_cases hk:k=e.1
  ·rw [zd3,if_pos hk,decide_eq_true hk];rfl
  ·have hb:(k==e.1)=false:=by simpa using hk
   rw [List.lookup,hb] at h
   rw [zd3,if_neg hk,decide_eq_false hk]
   show (zdX e.1,dF e.2)::knD (zd3 r k f)=_
   rw [zxa h]
theorem zvu {k:Nat×Nat} {f:List Nd} : ∀ kn:Kn,(zd3 kn k f).lookup k=some f
 | []=>by simp [zd3,List.lookup]
 | e::r=>by
  by_cases hk:k=e.1
  ·rw [zd3,if_pos hk];simp [List.lookup]
  ·have hb:(k==e.1)=false:=by simpa using hk
   rw [zd3,if_neg hk,List.lookup,hb];exact zvu r
def zcS (y:BitVec 64) (n k:Nat):List Nat:=((List.range n).drop k).filter fun w=>y.getLsbD w
theorem zBz {y:BitVec 64} {n k:Nat} (h:k < n):zcS y n k=if y.getLsbD k=true then k::zcS y n (k+1) else zcS y n (k+1):=by
 unfold zcS
 rw [List.drop_eq_getElem_cons (by simpa using h),List.filter_cons,List.getElem_range]
theorem zCU {y:BitVec 64} {n:Nat} : zcS y n n=[]:=by unfold zcS;rw [List.drop_eq_nil_of_le (by simp)];rfl
def zeM (ap:Kn→Nat→Nat→Kn×List Nd) (u:Nat):List Nat→Kn→List (List Nd)→Kn×List Nd
 | [],kn,acc=>(kn,zxp acc)
 | x::r,kn,acc=>if (ap kn u x).2.length=0 then ((ap kn u x).1,[]) else zeM ap u r (ap kn u x).1 (acc++[(ap kn u x).2])
abbrev ApF (T:Nat→Obj→Prop) (p:PM) (ap:Kn→Nat→Nat→Kn×List Nd) (u w:Nat):Prop := ∀ kn,Fn Tryz.prog T zcl [.ptr 0 0,.d (.int .i64 u),.d (.int .i64 w)] [mkB p (.map 1),.map (knD kn)]
 (.d (dF (ap kn u w).2)) [some (mkB p (.map 1)),some (.map (knD (ap kn u w).1))]
theorem zCt (p:PM) (hW:1≤p.W∧p.W≤64) (ap:Kn→Nat→Nat→Kn×List Nd) (u:Nat) (y:BitVec 64) (hap : ∀ w,w < p.W.toNat→y.getLsbD w=true→ApF T p ap u w) (kn0:Kn) :
  Fn Tryz.prog T zcw [.ptr 0 0,.d (.int .i64 u),.d (.u64 y)] [mkB p (.map 1),.map (knD kn0)] (.d (dF (zeM ap u (zcS y p.W.toNat 0) kn0 []).2)) [some (mkB p (.map 1)),some (.map (knD (zeM ap u (zcS y p.W.toNat 0) kn0 []).1))]:=by
 generalize hR:zeM ap u (zcS y p.W.toNat 0) kn0 []=R
 refine zT zp zjy (by show 3≤37;decide) _ (fun e env mem n h=>h) ?_
 (repeat' ((conv=>whnf);first|refine vA ?_|refine vT ?_));all_goals try conv=>whnf
 refine zt (fun ((k,kn,acc,zs):Nat×Kn×List (List Nd)×List D)=>[(0,.ptr 0 0),(1,.d (.int .i64 ((u:Int)))),(2,.d (.u64 (y))),(7,.own 2),(14,.d (.int .i64 (p.W))),(15,.d (.int .i64 ((k:Int)))),(zg,.ptr 0 0),(zg+1,.map 1)]) (fun ((k,kn,acc,zs):Nat×Kn×List (List Nd)×List D)=>[(0,some (mkB p (.map 1))),(1,some (.map (knD kn))),(2,some (.row 1 zs))]) 3 (fun ((k,kn,acc,zs):Nat×Kn×List (List Nd)×List D)=>k≤p.W.toNat∧acc.length≤k∧zs=acc.map dF∧zeM ap u (zcS y p.W.toNat k) kn acc=R) (fun ((k,kn,acc,zs):Nat×Kn×List (List Nd)×List D)=>p.W.toNat - k) ((0,kn0,[],[])) [(0,0),(1,1)]   [2] (⟨by simp,by simp,rfl,hR⟩) (by (refine ⟨rfl,rfl,rfl,?_,?_⟩;repeat' first|exact trivial|exact rfl|exact ⟨_,rfl⟩|refine And.intro ?_ ?_|refine ⟨_,rfl,?_⟩|decide)) ?_
 rintro ⟨k,kn,acc,zs⟩ ⟨hk,hac,rfl,hI⟩
 by_cases hkl:k < p.W.toNat
 ·rw [zBz hkl] at hI
  (repeat' ((conv=>whnf);first|refine vA ?_|(refine vF ?_ ?_<;>intro hc<;>try simp only [vL] at hc)|refine vT ?_|((first|refine vO ?_ ?_|refine vP ?_ ?_);·omega)|fail));all_goals try conv=>whnf
  ·have hb:y.getLsbD k=false:=(zee y k).1 ‹_›
   rw [hb,if_neg (by decide)] at hI
   exact ⟨(k+1,kn,acc,acc.map dF),[(0,0),(1,1),(2,2)],[],⟨by (omega),by (omega),rfl,hI⟩,by ((simp only [vM] at *;omega)),by (refine ⟨rfl,rfl,rfl,?_,?_⟩;repeat' first|exact trivial|exact rfl|refine And.intro ?_ ?_|refine ⟨_,rfl,?_⟩|decide)⟩
  ·have hb:y.getLsbD k=true:=zqr ‹_›
   rw [hb,if_pos rfl,zeM] at hI
   refine zL.objs [0,1] (hap k hkl hb kn) (by (repeat' first|exact rfl|refine And.intro ?_ ?_|refine ⟨_,rfl,?_⟩)) (by (repeat' first|exact rfl|refine And.intro ?_ ?_|refine ⟨_,rfl,?_⟩)) (by rfl) (by rfl) (by simp) ?_
   (repeat' ((conv=>whnf);first|refine vA ?_|(refine vF ?_ ?_<;>intro hc<;>try simp only [vL] at hc)|refine vJ fun hg=>?_|refine vT ?_|((first|refine vO ?_ ?_|refine vP ?_ ?_);·first|omega|(simp only [vM] at *;omega))|fail));all_goals try conv=>whnf
   ·rw [if_pos (by omega)] at hI
    subst hI
    refine ⟨trivial,_,[(0,0),(1,1)],[],rfl,.inr (.inl ?_),⟨by rfl,by rfl,by rfl,trivial,by (repeat' first|exact trivial|exact rfl|refine And.intro ?_ ?_|refine ⟨_,rfl,?_⟩|exact of_decide_eq_true rfl)⟩,by (repeat' first|exact trivial|exact rfl|refine And.intro ?_ ?_|refine ⟨_,rfl,?_⟩)⟩
    exact ⟨_,rfl,rfl,rfl⟩
   ·rw [if_neg (by omega)] at hI
    refine ⟨(k+1,_,acc++[(ap kn u k).2],_),[(0,0),(1,1),(2,4)],[],?_,?_,by (refine ⟨rfl,rfl,rfl,?_,?_⟩;repeat' first|exact trivial|exact rfl|refine And.intro ?_ ?_|refine ⟨_,rfl,?_⟩|decide)⟩
    ·exact ⟨by (omega),by simp;omega,by rw [List.map_append];rfl,hI⟩
    ·((simp only [vM] at *;omega))
  ·omega
 ·obtain rfl:k=p.W.toNat:=by omega
  rw [zCU] at hI
  (repeat' ((conv=>whnf);first|refine vA ?_|(refine vF ?_ ?_<;>intro hc<;>try simp only [vL] at hc)|refine vT ?_|((first|refine vO ?_ ?_|refine vP ?_ ?_);·omega)|refine yN (zCo _) ⟨⟨rfl,rfl⟩,rfl⟩ ?_));all_goals try conv=>whnf
  all_goals try omega
  subst hI
  refine ⟨trivial,_,[(0,0),(1,1)],[],rfl,.inl (by (repeat' exact rfl)),⟨by rfl,by rfl,by rfl,trivial,by (repeat' first|exact trivial|exact rfl|refine And.intro ?_ ?_|refine ⟨_,rfl,?_⟩|exact of_decide_eq_true rfl)⟩,by (repeat' first|exact trivial|exact rfl|refine And.intro ?_ ?_|refine ⟨_,rfl,?_⟩)⟩
end Go.Ab
namespace Go.Ab
open Go Go.Proofs
set_option maxRecDepth 10000
set_option maxHeartbeats 4000000
variable {T:Nat→Obj→Prop}
theorem zi4 {α:Type} (f g:Nat→α) : ∀ n:Nat,((List.range n).flatMap fun a=>[f a,g a]).length=2 * n
 | 0=>rfl
 | n+1=>by rw [List.range_succ,List.flatMap_append,List.length_append,zi4 f g n];simp;omega
theorem zqM {α:Type} (f g:Nat→α) : ∀ (n i:Nat),i < 2 * n→((List.range n).flatMap fun a=>[f a,g a])[i]? = some (if i % 2=0 then f (i / 2) else g (i / 2))
 | 0,i,h=>by omega
 | n+1,i,h=>by
  have hl:=zi4 f g n
  rw [List.range_succ,List.flatMap_append]
  by_cases hi:i < 2 * n
  ·rw [List.getElem?_append_left (by omega)];exact zqM f g n i hi
  ·rw [List.getElem?_append_right (by omega),hl]
   have:i=2 * n∨i=2 * n+1:=by omega
   rcases this with rfl|rfl
   ·rw [if_pos (by omega),show 2 * n / 2=n by omega];simp
   ·rw [if_neg (by omega),show (2 * n+1) / 2=n by omega,show 2 * n+1 - 2 * n=1 by omega];simp
theorem zzi {p:PM} {i:Nat} {x:List D} (h:(zbd p 0)[i]? = some x):i < 2 * p.cell.length∧x=if i % 2=0 then zga (i / 2) false (zbQ p (i / 2)) else zga (i / 2) true (za8 p (i / 2)):=by
 have hl:(zbd p 0).length=2 * p.cell.length:=by unfold zbd;rw [List.drop_zero];exact zi4 _ _ _
 have hi:i < (zbd p 0).length:=(List.getElem?_eq_some_iff.1 h).1
 refine ⟨by omega,?_⟩
 unfold zbd at h
 rw [List.drop_zero,zqM _ _ _ _ (by omega)] at h
 exact (Option.some.inj h).symm
end Go.Ab
namespace Go.Ab
open Go Go.Proofs
set_option maxRecDepth 10000
set_option maxHeartbeats 4000000
variable {T:Nat→Obj→Prop}
def zft (v w:Nat):List (BitVec 64)→Nat→Option (Nat×Bool)
 | [],_=>none
 | s::r,i=>if s.getLsbD v=s.getLsbD w then zft v w r (i+1) else some (i,s.getLsbD v)
abbrev zyP (i:Nat):List Nd:=zF ⟨3,i,0,0,0,0⟩ []
def za9 (p:PM) (a:Nat) (s:Bool) (v:Nat):BitVec 64:=if s=true then wkB p a v else zav p (a:Int) (v:Int)
def zkX (p:PM):List (Nat×Bool):=(List.range p.cell.length).flatMap fun a=>[(a,false),(a,true)]
def znc (p:PM) (ap:Kn→Nat→Nat→Kn×List Nd) (q:Nat→Nat) (v w:Nat) (kn:Kn):List (Nat×Bool)→Kn×List Nd
 | []=>(kn,[])
 | (a,s)::r =>
  if 0≤zbU q p.W.toNat (za9 p a s v) (za9 p a s w) then
   ((zeM ap (zbU q p.W.toNat (za9 p a s v) (za9 p a s w)).toNat (zcS (za9 p a s w) p.W.toNat 0) kn []).1,zuk a s (zeM ap (zbU q p.W.toNat (za9 p a s v) (za9 p a s w)).toNat (zcS (za9 p a s w) p.W.toNat 0) kn []).2)
  else if 0≤zbU q p.W.toNat (za9 p a s w) (za9 p a s v) then
   ((zeM ap (zbU q p.W.toNat (za9 p a s w) (za9 p a s v)).toNat (zcS (za9 p a s v) p.W.toNat 0) kn []).1,zzu a s (zeM ap (zbU q p.W.toNat (za9 p a s w) (za9 p a s v)).toNat (zcS (za9 p a s v) p.W.toNat 0) kn []).2)
  else znc p ap q v w kn r
def zbV (p:PM) (ap:Kn→Nat→Nat→Kn×List Nd) (kn:Kn) (v w:Nat):Kn×List Nd :=
 if zb1 p v w=0 then (kn,match zft v w p.val 0 with
  | some (i,true)=>zyP i
  | some (i,false)=>zF ⟨4,0,0,0,0,0⟩ [zyP i]
  | none=>[])
 else znc p ap (zu p (zb1 p v w - 1).toNat) v w kn (zkX p)
theorem zAF {v w:Nat} {l:List (BitVec 64)} {i:Nat} {s:BitVec 64} (h:l[i]? = some s):zft v w (l.drop i) i=if s.getLsbD v=s.getLsbD w then zft v w (l.drop (i+1)) (i+1) else some (i,s.getLsbD v):=by rw [zap h];rfl
theorem zwP (s:BitVec 64) (w:Nat):(s >>> ((w:Nat):Int).toNat&&&1).toNat=if s.getLsbD w=true then 1 else 0:=by
 rw [Int.toNat_natCast]
 by_cases h:s.getLsbD w=true
 ·rw [if_pos h,show s >>> w&&&1=1#64 from (zk8 s w).2 h];rfl
 ·rw [if_neg h,show s >>> w&&&1=0#64 from (zee s w).2 (by simpa using h)];rfl
theorem zAN (p:PM) (ap:Kn→Nat→Nat→Kn×List Nd) (v w:Nat) (hv:v < p.W.toNat) (hw:w < p.W.toNat) (h0:zb1 p v w=0) (hf:zft v w p.val 0≠none) (kn:Kn) :
  Fn Tryz.prog T zbw [.ptr 0 0,.d (.int .i64 v),.d (.int .i64 w)] [mkB p (.map 1),.map (knD kn)] (.d (dF (zbV p ap kn v w).2)) [some (mkB p (.map 1)),some (.map (knD (zbV p ap kn v w).1))]:=by
 generalize hR:zbV p ap kn v w=R
 rw [zbV,if_pos h0] at hR
 have cd:=ziL (T:=T) p (knD kn) v w hv hw
 rw [h0] at cd
 refine zT zp zeF (by show 3≤112;decide) _ (fun e env mem n h=>h) ?_
 (repeat' ((conv=>whnf);first|refine vA ?_|refine vG ?_|refine vJ fun hg=>?_|refine vT ?_|refine yD cd ⟨⟨rfl,rfl⟩,⟨rfl,rfl⟩,⟨rfl,rfl⟩,rfl⟩ rfl ?_));all_goals try conv=>whnf
 refine zt (fun (i:Nat)=>[(3,.ptr 2 0),(4,.ptr 3 0),(5,.ptr 4 0),(6,.ptr 5 0),(7,.ptr 6 0),(26,.d (dU p.val)),(27,.d (.int .i64 ((p.val.map D.u64).length:Int))),(28,.d (.int .i64 ((i:Int)))),(zg,.ptr 0 0),(zg+1,.map 1)]) (fun (i:Nat)=>[(0,some (mkB p (.map 1))),(1,some (.map (knD kn))),(2,some (.box [.ptr 0 0])),(3,some (.box [.d (.int .i64 v)])),(4,some (.box [.d (.int .i64 w)])),(5,some (.box [.nils 6])),(6,some (.box [.d (.int .i64 0)]))]) 7 (fun (i:Nat)=>i≤p.val.length∧zft v w (p.val.drop i) i=zft v w p.val 0) (fun (i:Nat)=>p.val.length - i) (0) [(0,0),(1,1),(2,2),(3,3),(4,4),(5,5),(6,6)] [] (⟨by simp,by simp⟩) (by (refine ⟨rfl,rfl,rfl,?_,?_⟩;repeat' first|exact trivial|exact rfl|refine And.intro ?_ ?_|refine ⟨_,rfl,?_⟩|decide)) ?_
 rintro i ⟨hi,hI⟩
 by_cases hil:i < p.val.length
 ·obtain ⟨s,hs⟩ : ∃ s,p.val[i]? = some s:=⟨_,List.getElem?_eq_getElem hil⟩
  rw [zAF hs] at hI
  have b1:=zwP s v
  have b2:=zwP s w
  cases hbv:s.getLsbD v with
  | true =>
   rw [hbv,if_pos rfl] at b1
   cases hbw:s.getLsbD w with
   | true =>
    rw [hbw,if_pos rfl] at b2
    rw [hbv,hbw,if_pos rfl] at hI
    (repeat' ((conv=>whnf);first|refine vA ?_|(refine vF ?_ ?_<;>intro hc<;>try simp only [vL] at hc)|refine vT ?_|refine vN ‹_› ?_|((first|refine vO ?_ ?_|refine vP ?_ ?_);·omega)|(refine vU ?_ ?_;·kernel_rfl)|refine yN (zmz _) ⟨⟨rfl,rfl⟩,rfl⟩ ?_|refine yN (zh2 _) ⟨⟨rfl,rfl⟩,rfl⟩ ?_));all_goals try conv=>whnf
    all_goals try omega
    exact ⟨i+1,[(0,0),(1,1),(2,2),(3,3),(4,4),(5,5),(6,6)],[],⟨by (omega),hI⟩,by (omega),by (refine ⟨rfl,rfl,rfl,?_,?_⟩;repeat' first|exact trivial|exact rfl|refine And.intro ?_ ?_|refine ⟨_,rfl,?_⟩|decide)⟩
   | false =>
    rw [hbw,if_neg (by decide)] at b2
    rw [hbv,hbw,if_neg (by decide)] at hI
    rw [← hI] at hR
    subst hR
    (repeat' ((conv=>whnf);first|refine vA ?_|(refine vF ?_ ?_<;>intro hc<;>try simp only [vL] at hc)|refine vT ?_|refine vN ‹_› ?_|((first|refine vO ?_ ?_|refine vP ?_ ?_);·omega)|(refine vU ?_ ?_;·kernel_rfl)|refine yN (zmz _) ⟨⟨rfl,rfl⟩,rfl⟩ ?_|refine yN (zh2 _) ⟨⟨rfl,rfl⟩,rfl⟩ ?_));all_goals try conv=>whnf
    all_goals try omega
    refine ⟨trivial,_,[(0,0),(1,1)],[],rfl,.inl (by (repeat' exact rfl)),⟨by rfl,by rfl,by rfl,trivial,by (repeat' first|exact trivial|exact rfl|refine And.intro ?_ ?_|refine ⟨_,rfl,?_⟩|exact of_decide_eq_true rfl)⟩,by (repeat' first|exact trivial|exact rfl|refine And.intro ?_ ?_|refine ⟨_,rfl,?_⟩)⟩
  | false =>
   rw [hbv,if_neg (by decide)] at b1
   cases hbw:s.getLsbD w with
   | true =>
    rw [hbw,if_pos rfl] at b2
    rw [hbv,hbw,if_neg (by decide)] at hI
    rw [← hI] at hR
    subst hR
    (repeat' ((conv=>whnf);first|refine vA ?_|(refine vF ?_ ?_<;>intro hc<;>try simp only [vL] at hc)|refine vT ?_|refine vN ‹_› ?_|((first|refine vO ?_ ?_|refine vP ?_ ?_);·omega)|(refine vU ?_ ?_;·kernel_rfl)|refine yN (zmz _) ⟨⟨rfl,rfl⟩,rfl⟩ ?_|refine yN (zh2 _) ⟨⟨rfl,rfl⟩,rfl⟩ ?_));all_goals try conv=>whnf
    all_goals try omega
    refine ⟨trivial,_,[(0,0),(1,1)],[],rfl,.inl (by (repeat' exact rfl)),⟨by rfl,by rfl,by rfl,trivial,by (repeat' first|exact trivial|exact rfl|refine And.intro ?_ ?_|refine ⟨_,rfl,?_⟩|exact of_decide_eq_true rfl)⟩,by (repeat' first|exact trivial|exact rfl|refine And.intro ?_ ?_|refine ⟨_,rfl,?_⟩)⟩
   | false =>
    rw [hbw,if_neg (by decide)] at b2
    rw [hbv,hbw,if_pos rfl] at hI
    (repeat' ((conv=>whnf);first|refine vA ?_|(refine vF ?_ ?_<;>intro hc<;>try simp only [vL] at hc)|refine vT ?_|refine vN ‹_› ?_|((first|refine vO ?_ ?_|refine vP ?_ ?_);·omega)|(refine vU ?_ ?_;·kernel_rfl)|refine yN (zmz _) ⟨⟨rfl,rfl⟩,rfl⟩ ?_|refine yN (zh2 _) ⟨⟨rfl,rfl⟩,rfl⟩ ?_));all_goals try conv=>whnf
    all_goals try omega
    exact ⟨i+1,[(0,0),(1,1),(2,2),(3,3),(4,4),(5,5),(6,6)],[],⟨by (omega),hI⟩,by (omega),by (refine ⟨rfl,rfl,rfl,?_,?_⟩;repeat' first|exact trivial|exact rfl|refine And.intro ?_ ?_|refine ⟨_,rfl,?_⟩|decide)⟩
 ·exfalso
  rw [List.drop_eq_nil_of_le (by omega)] at hI
  exact hf hI.symm
theorem zoP {q:Nat→Nat} {n:Nat} {x y:BitVec 64} (h:0≤zbU q n x y) : ∃ u:Nat,zbU q n x y=u∧u < n∧x.getLsbD u=true ∧ ∀ w,w < n→y.getLsbD w=true→q u≠q w:=by
 unfold zbU zju at h ⊢
 split at h
 ·rename_i hl
  rw [if_pos hl]
  have h1:=List.findIdx_getElem (w:=hl)
  rw [List.getElem_range,Bool.and_eq_true] at h1
  rw [List.length_range] at hl
  refine ⟨_,rfl,hl,h1.1,fun w hw hy=>?_⟩
  have:=List.all_eq_true.1 h1.2 w (List.mem_range.2 hw)
  simpa [hy] using this
 ·omega
theorem zA1 {p:PM} {i v w:Nat} {x:List D} (h:(zbd p 0)[i]? = some x) (hv:v < p.W.toNat) (hw:w < p.W.toNat) : ∃ a s rows,x=zga a s rows∧rows[v]? = some (za9 p a s v)∧rows[w]? = some (za9 p a s w)∧(zkX p)[i]? = some (a,s)∧a < p.cell.length:=by
 obtain ⟨h1,h2⟩:=zzi h
 have h3:(zkX p)[i]? = some (if i % 2=0 then (i / 2,false) else (i / 2,true)):=zqM _ _ _ _ h1
 by_cases hi:i % 2=0
 ·rw [if_pos hi] at h2 h3
  exact ⟨i / 2,false,zbQ p (i / 2),h2,by simp [zbQ,za9,hv],by simp [zbQ,za9,hw],h3,by omega⟩
 ·rw [if_neg hi] at h2 h3
  exact ⟨i / 2,true,za8 p (i / 2),h2,by rw [znw,List.getElem?_map,List.getElem?_range hv];rfl,by rw [znw,List.getElem?_map,List.getElem?_range hw];rfl,h3,by omega⟩
theorem zCD (p:PM):(zkX p).length=2 * p.cell.length:=zi4 _ _ _
theorem zAO (hR':zcp T) (p:PM) (hp:zat p.rank) (hc0:zm p=0) (ap:Kn→Nat→Nat→Kn×List Nd) (v w d:Nat) (hv:v < p.W.toNat) (hw:w < p.W.toNat) (hd:zb1 p v w=(d:Int)+1) (hds:d≤zaS p)
  (hap : ∀ u u',u < p.W.toNat→u' < p.W.toNat→zu p d u≠zu p d u'→ApF T p ap u u') (kn:Kn) :
  Fn Tryz.prog T zbw [.ptr 0 0,.d (.int .i64 v),.d (.int .i64 w)] [mkB p (.map 1),.map (knD kn)] (.d (dF (zbV p ap kn v w).2)) [some (mkB p (.map 1)),some (.map (knD (zbV p ap kn v w).1))]:=by
 have hg:=zM hc0
 have hW:1≤p.W∧p.W≤64:=⟨hg.w1,hg.w2⟩
 have hs64:=(zxf hc0).1
 generalize hR:zbV p ap kn v w=R
 rw [zbV,if_neg (by omega),hd,show ((d:Int)+1 - 1).toNat=d by omega] at hR
 have cd:=ziL (T:=T) p (knD kn) v w hv hw
 rw [hd] at cd
 have cl:=fun x y=>zCs (T:=T) p hW.2 (knD kn) x y d hds (ji:=(d:Int)+1 - 1) (by omega)
 have ca : ∀ (u:Nat) (y:BitVec 64),u < p.W.toNat→(∀ w,w < p.W.toNat→y.getLsbD w=true→zu p d u≠zu p d w)→_:=fun u y hu h=>zCt (T:=T) p hW ap u y (fun w hw hy=>hap u w hu hw (h w hw hy)) kn
 generalize zu p d=q at *
 refine zT zp zeF (by show 3≤112;decide) _ (fun e env mem n h=>h) ?_
 (repeat' ((conv=>whnf);first|refine vA ?_|refine vH ?_|refine vT ?_|refine yD cd ⟨⟨rfl,rfl⟩,⟨rfl,rfl⟩,⟨rfl,rfl⟩,rfl⟩ rfl ?_));all_goals try conv=>whnf
 all_goals try omega
 refine zL.res (zs3 p) (by (repeat refine ⟨⟨rfl,rfl⟩,?_⟩);rfl) ?_
 (repeat' ((conv=>whnf);refine vT ?_));all_goals try conv=>whnf
 refine ztA (zqD hR' p hp hc0) [7] [] (by first|((repeat refine ⟨⟨rfl,rfl⟩,?_⟩);rfl)|(repeat' first|exact rfl|refine And.intro ?_ ?_|refine ⟨_,rfl,?_⟩)) (by (repeat' first|exact rfl|refine And.intro ?_ ?_|refine ⟨_,rfl,?_⟩)) (by rfl) (by rfl) [(3,.ptr 2 0),(4,.ptr 3 0),(5,.ptr 4 0),(6,.ptr 5 0),(7,.ptr 6 0),(zg,.ptr 0 0),(zg+1,.map 1)] (fun (u:Unit)=>[(0,some (mkB p (.map 1))),(1,some (.map (knD kn))),(2,some (.box [.ptr 0 0])),(3,some (.box [.d (.int .i64 v)])),(4,some (.box [.d (.int .i64 w)])),(5,some (.box [.nils 6])),(6,some (.box [.d (.int .i64 ((d:Int)+1))]))]) 7 (fun i (u:Unit)=>znc p ap q v w kn ((zkX p).drop i)=R) (()) [(0,0),(1,1),(2,2),(3,3),(4,4),(5,5),(6,6)] [] (hR) (by (refine ⟨rfl,rfl,rfl,?_,?_⟩;repeat' first|exact trivial|exact rfl|refine And.intro ?_ ?_|refine ⟨_,rfl,?_⟩|decide)) ?_ ?_
 ·intro i x u hx hI
  obtain ⟨a,s,rows,rfl,hrx,hry,hlk,ha⟩:=zA1 hx hv hw
  rw [zap hlk,znc] at hI
  refine ⟨rfl,?_⟩
  generalize za9 p a s v=X at *
  generalize za9 p a s w=Y at *
  have c1:=cl X Y
  have c2:=cl Y X
  by_cases h1:0≤zbU q p.W.toNat X Y
  ·obtain ⟨u,hu,hu1,-,hu2⟩:=zoP h1
   rw [if_pos h1,hu,Int.toNat_natCast] at hI
   rw [hu] at c1
   (repeat' ((conv=>whnf);first|refine vA ?_|refine vG ?_|refine vT ?_|refine vN ‹_› ?_|(refine vO ?_ ?_;·omega)|(refine vU ?_ ?_;·kernel_rfl)|refine yD c1 (by (repeat refine ⟨⟨rfl,rfl⟩,?_⟩);rfl) rfl ?_));all_goals try conv=>whnf
   all_goals try omega
   refine zL.objs [0,1] (ca u Y hu1 hu2) (by (repeat' first|exact rfl|refine And.intro ?_ ?_|refine ⟨_,rfl,?_⟩)) (by (repeat' first|exact rfl|refine And.intro ?_ ?_|refine ⟨_,rfl,?_⟩)) (by rfl) (by rfl) (by simp) ?_
   (repeat' ((conv=>whnf);first|refine vT ?_|(refine vU ?_ ?_;·kernel_rfl)|refine yN (zpY a s rows _) ⟨⟨rfl,rfl⟩,⟨rfl,rfl⟩,rfl⟩ ?_));all_goals try conv=>whnf
   subst hI
   refine ⟨trivial,_,[(0,0),(1,1)],[],rfl,.inl (by (repeat' exact rfl)),⟨by rfl,by rfl,by rfl,trivial,by (repeat' first|exact trivial|exact rfl|refine And.intro ?_ ?_|refine ⟨_,rfl,?_⟩|exact of_decide_eq_true rfl)⟩,by (repeat' first|exact trivial|exact rfl|refine And.intro ?_ ?_|refine ⟨_,rfl,?_⟩)⟩
  ·rw [if_neg h1] at hI
   by_cases h2:0≤zbU q p.W.toNat Y X
   ·obtain ⟨u,hu,hu1,-,hu2⟩:=zoP h2
    rw [if_pos h2,hu,Int.toNat_natCast] at hI
    rw [hu] at c2
    (repeat' ((conv=>whnf);first|refine vA ?_|refine vG ?_|(refine vF ?_ ?_<;>intro hc<;>try simp only [vL] at hc)|refine vT ?_|refine vN ‹_› ?_|(refine vO ?_ ?_;·omega)|(refine vU ?_ ?_;·kernel_rfl)|refine yD c1 (by (repeat refine ⟨⟨rfl,rfl⟩,?_⟩);rfl) rfl ?_|refine yD c2 (by (repeat refine ⟨⟨rfl,rfl⟩,?_⟩);rfl) rfl ?_));all_goals try conv=>whnf
    all_goals try omega
    refine zL.objs [0,1] (ca u X hu1 hu2) (by (repeat' first|exact rfl|refine And.intro ?_ ?_|refine ⟨_,rfl,?_⟩)) (by (repeat' first|exact rfl|refine And.intro ?_ ?_|refine ⟨_,rfl,?_⟩)) (by rfl) (by rfl) (by simp) ?_
    cases s with
    | true =>
     (repeat' ((conv=>whnf);first|refine vA ?_|refine vG ?_|refine vT ?_|(refine vU ?_ ?_;·kernel_rfl)|refine yN (zh2 _) ⟨⟨rfl,rfl⟩,rfl⟩ ?_|refine yN (zu8 _ _) ⟨⟨rfl,rfl⟩,⟨rfl,rfl⟩,rfl⟩ ?_));all_goals try conv=>whnf
     subst hI
     refine ⟨trivial,_,[(0,0),(1,1)],[],rfl,.inl (by (repeat' exact rfl)),⟨by rfl,by rfl,by rfl,trivial,by (repeat' first|exact trivial|exact rfl|refine And.intro ?_ ?_|refine ⟨_,rfl,?_⟩|exact of_decide_eq_true rfl)⟩,by (repeat' first|exact trivial|exact rfl|refine And.intro ?_ ?_|refine ⟨_,rfl,?_⟩)⟩
    | false =>
     (repeat' ((conv=>whnf);first|refine vA ?_|refine vH ?_|refine vT ?_|refine yN (zpY a false rows _) ⟨⟨rfl,rfl⟩,⟨rfl,rfl⟩,rfl⟩ ?_|refine yN (zh2 _) ⟨⟨rfl,rfl⟩,rfl⟩ ?_));all_goals try conv=>whnf
     subst hI
     refine ⟨trivial,_,[(0,0),(1,1)],[],rfl,.inl (by (repeat' exact rfl)),⟨by rfl,by rfl,by rfl,trivial,by (repeat' first|exact trivial|exact rfl|refine And.intro ?_ ?_|refine ⟨_,rfl,?_⟩|exact of_decide_eq_true rfl)⟩,by (repeat' first|exact trivial|exact rfl|refine And.intro ?_ ?_|refine ⟨_,rfl,?_⟩)⟩
   ·rw [if_neg h2] at hI
    (repeat' ((conv=>whnf);first|refine vA ?_|(refine vF ?_ ?_<;>intro hc<;>try simp only [vL] at hc)|refine vT ?_|refine vN ‹_› ?_|(refine vO ?_ ?_;·omega)|(refine vU ?_ ?_;·kernel_rfl)|refine yD c1 (by (repeat refine ⟨⟨rfl,rfl⟩,?_⟩);rfl) rfl ?_|refine yD c2 (by (repeat refine ⟨⟨rfl,rfl⟩,?_⟩);rfl) rfl ?_));all_goals try conv=>whnf
    all_goals try omega
    refine ⟨(),[(0,0),(1,1),(2,2),(3,3),(4,4),(5,5),(6,6)],[],?_,by (refine ⟨rfl,rfl,rfl,?_,?_⟩;repeat' first|exact trivial|exact rfl|refine And.intro ?_ ?_|refine ⟨_,rfl,?_⟩|decide)⟩
    exact hI
 ·intro u hI
  rw [show (zbd p 0).length=(zkX p).length by rw [zCD];unfold zbd;rw [List.drop_zero];exact zi4 _ _ _,List.drop_length,znc] at hI
  subst hI
  (repeat' ((conv=>whnf);refine vT ?_));all_goals try conv=>whnf
  exact ⟨trivial,_,[(0,0),(1,1)],[],rfl,.inr (.inl ⟨_,rfl,rfl,rfl⟩),⟨by rfl,by rfl,by rfl,trivial,by (repeat' first|exact trivial|exact rfl|refine And.intro ?_ ?_|refine ⟨_,rfl,?_⟩|exact of_decide_eq_true rfl)⟩,by (repeat' first|exact trivial|exact rfl|refine And.intro ?_ ?_|refine ⟨_,rfl,?_⟩)⟩
end Go.Ab
namespace Go.Ab
open Go
inductive Rc (S:Nat→Prop) (R:Nat→Nat→Prop):Nat→Prop where
 | base {v:Nat} : S v→Rc S R v
 | step {v u:Nat} : Rc S R v→R v u→Rc S R u
def cnt (s:BitVec 64):Nat→Nat
 | 0=>0
 | k+1=>cnt s k+(if s.getLsbD k=true then 1 else 0)
theorem zyK (s:BitVec 64) : ∀ n,cnt s n≤n
 | 0=>Nat.le_refl _
 | k+1=>by
  have:=zyK s k
  unfold cnt;split<;>omega
theorem zuI {s s':BitVec 64} (h : ∀ i,s.getLsbD i=true→s'.getLsbD i=true) : ∀ n,cnt s n≤cnt s' n
 | 0=>Nat.le_refl _
 | k+1=>by
  have h1:=zuI h k
  unfold cnt
  by_cases e:s.getLsbD k=true
  ·rw [if_pos e,if_pos (h k e)];omega
  ·rw [if_neg e];split<;>omega
theorem zyL {s s':BitVec 64} (h : ∀ i,s.getLsbD i=true→s'.getLsbD i=true) {u:Nat} (hu:s'.getLsbD u=true) (hn : ¬s.getLsbD u=true) : ∀ n,u < n→cnt s n < cnt s' n
 | 0,h0=>by omega
 | k+1,h0=>by
  unfold cnt
  by_cases e:u=k
  ·subst e
   have:=zuI h u
   rw [if_neg hn,if_pos hu];omega
  ·have h1:=zyL h hu hn k (by omega)
   by_cases e:s.getLsbD k=true
   ·rw [if_pos e,if_pos (h k e)];omega
   ·rw [if_neg e];split<;>omega
theorem zuH {s:BitVec 64} : ∀ n,n≤cnt s n → ∀ i,i < n→s.getLsbD i=true
 | 0,_,i,h=>by omega
 | k+1,h,i,hi=>by
  have h1:=zyK s k
  unfold cnt at h
  by_cases e:s.getLsbD k=true
  ·rw [if_pos e] at h
   by_cases ei:i=k
   ·subst ei;exact e
   ·exact zuH k (by omega) i (by omega)
  ·rw [if_neg e] at h;omega
def zsa (R:Nat→Nat→Prop) (s:BitVec 64):Prop := ∀ v u,s.getLsbD v=true→R v u→s.getLsbD u=true
structure zqk (S:Nat→Prop) (R:Nat→Nat→Prop) (n:Nat) (s:BitVec 64) (i:Nat):Prop where
 sound : ∀ v,s.getLsbD v=true→Rc S R v
 base : ∀ v,S v→s.getLsbD v=true
 prog:zsa R s∨i≤cnt s n
structure zxm (S:Nat→Prop) (R:Nat→Nat→Prop) (s0 s:BitVec 64) (v:Nat):Prop where
 sound : ∀ v,s.getLsbD v=true→Rc S R v
 old : ∀ i,s0.getLsbD i=true→s.getLsbD i=true
 done : ∀ w,w < v→s0.getLsbD w=true → ∀ u,R w u→s.getLsbD u=true
theorem zqk.mid {S:Nat→Prop} {R:Nat→Nat→Prop} {n:Nat} {s:BitVec 64} {i:Nat} (h:zqk S R n s i):zxm S R s s 0 :=
 ⟨h.sound,fun _ h=>h,fun w hw=>by omega⟩
theorem zxm.next {S:Nat→Prop} {R:Nat→Nat→Prop} {n:Nat} {s0 s:BitVec 64} {i:Nat} (hR : ∀ v u,R v u→v < n∧u < n) (h0:zqk S R n s0 i) (h:zxm S R s0 s n):zqk S R n s (i+1):=by
 refine ⟨h.sound,fun v hv=>h.old v (h0.base v hv),?_⟩
 by_cases hc:zsa R s0
 ·left
  have hall : ∀ v,Rc S R v→s0.getLsbD v=true:=fun v hv=>by
   induction hv with
   | base hb=>exact h0.base _ hb
   | step _ hr ih=>exact hc _ _ ih hr
  exact fun v u hv hr=>h.old u (hall u (.step (h.sound v hv) hr))
 ·right
  have : ∃ v u,s0.getLsbD v=true∧R v u ∧ ¬s0.getLsbD u=true:=Classical.byContradiction fun hn=>hc fun v u hv hr=>Classical.byContradiction fun hu=>hn ⟨v,u,hv,hr,hu⟩
  obtain ⟨v,u,hv,hr,hu⟩:=this
  have hlt:=hR v u hr
  have h1:=zyL h.old (h.done v hlt.1 hv u hr) hu n hlt.2
  rcases h0.prog with h2|h2
  ·exact absurd h2 hc
  ·omega
theorem zqk.all {S:Nat→Prop} {R:Nat→Nat→Prop} {n:Nat} {s:BitVec 64} (hR : ∀ v u,R v u→v < n∧u < n) (h:zqk S R n s n) (v:Nat):s.getLsbD v=true↔Rc S R v:=by
 refine ⟨h.sound v,fun hv=>?_⟩
 have hc:zsa R s:=h.prog.elim id fun hp v u _ hr=>zuH n hp u (hR v u hr).2
 induction hv with
 | base hb=>exact h.base _ hb
 | step _ hr ih=>exact hc _ _ ih hr
end Go.Ab
namespace Go.Ab
open Go Go.Proofs
set_option maxRecDepth 10000
set_option maxHeartbeats 4000000
variable {T:Nat→Obj→Prop}
theorem zCd (s:BitVec 64) (n:Nat):(s >>> n) % 2#64=1#64↔s.getLsbD n=true:=by
 rw [← BitVec.toNat_inj,BitVec.toNat_umod,BitVec.toNat_ushiftRight,← BitVec.testBit_toNat,Nat.shiftRight_eq_div_pow,Nat.testBit_eq_decide_div_mod_eq,decide_eq_true_eq]
 rfl
theorem zon (s:BitVec 64) (k:Nat):Fn Tryz.prog T zfb [.d (.u64 s),.d (.int .i64 (k:Int))] [] (.d (.bool (s.getLsbD k))) []:=by
 refine zd zp zoJ (by show 2≤18;decide) ?_
 (repeat' ((conv=>whnf);first|refine vA ?_|refine vG ?_|(refine vF ?_ ?_<;>intro hc<;>try simp only [vL] at hc)|refine vT ?_|(refine vP ?_ ?_;·omega)|refine vZ ?_|refine vP (show (_:BitVec 64)≠_ by decide) ?_));all_goals try conv=>whnf
 ·show decide (s >>> k % 2#64=1#64)=_
  rw [Bool.eq_iff_iff,decide_eq_true_eq];exact zCd s k
 ·rw [BitVec.getLsbD_of_ge _ _ (by omega)]
theorem zsc {x:BitVec 64} {k:Nat} (h:1&&&x.toNat >>> k=0):x.getLsbD k=false:=by
 show (1&&&x.toNat >>> k != 0)=false
 simp [h]
theorem zn3 {x:BitVec 64} {k:Nat} (h : ¬1&&&x.toNat >>> k=0):x.getLsbD k=true:=by
 show (1&&&x.toNat >>> k != 0)=true
 rw [bne_iff_ne];exact h
theorem zkb (n:Int) (h:0≤n):Fn Tryz.prog T zfa [.d (.int .i64 n)] [] (.d (.u64 (zaQ n))) []:=by
 refine zd zp zoI (by show 1≤8;decide) ?_
 (repeat' ((conv=>whnf);first|refine vA ?_|(refine vF ?_ ?_<;>intro hc<;>try simp only [vL] at hc)|refine vT ?_|(refine vP ?_ ?_;·omega)|refine vY ?_));all_goals try conv=>whnf
 ·rw [zaQ,if_pos (by omega)];rfl
 ·rw [zaQ,if_neg (by omega)];rfl
def zgJ (rel:List (BitVec 64)) (n:Nat) (s:BitVec 64):BitVec 64:=zQ (fun w=>decide (rel.getD w 0#64 &&& ~~~s=0#64)) n
theorem zaU {α:Type} {l:List α} {i:Nat} {x d:α} (h:l[i]? = some x):l.getD i d=x:=by simp [List.getD,h]
theorem zsm (rel:List (BitVec 64)) (n:Int) (s:BitVec 64) (h0:n≤rel.length) (h64:n≤64):Fn Tryz.prog T zfc [.d (dU rel),.d (.int .i64 n),.d (.u64 s)] [] (.d (.u64 (zgJ rel n.toNat s))) []:=by
 refine zd zp zoK (by show 3≤26;decide) ?_
 (repeat' ((conv=>whnf);first|refine vA ?_|refine vT ?_));all_goals try conv=>whnf
 refine z1 (fun ((k,o):Nat×BitVec 64)=>[(0,.d (dU rel)),(1,.d (.int .i64 (n))),(2,.d (.u64 (s))),(7,.d (.u64 (o))),(8,.d (.int .i64 ((k:Int))))]) (fun ((k,o):Nat×BitVec 64)=>k≤n.toNat∧o=zgJ rel k s) (fun ((k,o):Nat×BitVec 64)=>n.toNat - k) ((0,0#64)) (⟨by simp,rfl⟩) (by (repeat' first|exact trivial|exact rfl|refine And.intro ?_ ?_)) ?_
 rintro ⟨k,o⟩ ⟨hk,hI⟩
 (repeat' ((conv=>whnf);first|refine vA ?_|(refine vF ?_ ?_<;>intro hc<;>try simp only [vL] at hc)|refine vT ?_|(refine vQ ?_ fun x hx=>?_;·omega)|((first|refine vO ?_ ?_|refine vP ?_ ?_);·omega)|refine vY ?_));all_goals try conv=>whnf
 ·have h1:=zaU (d:=0#64) hx
  refine ⟨(k+1,_),[],[],?_,?_,by (refine ⟨rfl,rfl,rfl,?_,?_⟩;repeat' first|exact trivial|exact rfl|refine And.intro ?_ ?_)⟩
  ·exact ⟨by (omega),by rw [zgJ,zQ,if_pos (by rw [show rel.getD k 0#64=x from h1];simp_all),hI];rfl⟩
  ·((simp only [vM] at *;omega))
 ·have h1:=zaU (d:=0#64) hx
  exact ⟨(k+1,o),[],[],⟨by (omega),by rw [zgJ,zQ,if_neg (by rw [show rel.getD k 0#64=x from h1];simp_all),hI];rfl⟩,by ((simp only [vM] at *;omega)),by (refine ⟨rfl,rfl,rfl,?_,?_⟩;repeat' first|exact trivial|exact rfl|refine And.intro ?_ ?_)⟩
 ·rw [hI,show k=n.toNat by omega]
def zud (op:Int) (x y all:BitVec 64):BitVec 64:=if op=1 then all else if op=4 then all &&& ~~~x else if op=5 then x&&&y else if op=6 then x|||y else if op=7 then all &&& ~~~x|||y else if op=8 then all &&& ~~~(x ^^^ y) else 0#64
theorem zwk (op:Int) (x y all:BitVec 64):Fn Tryz.prog T zds [.d (.int .i64 op),.d (.u64 x),.d (.u64 y),.d (.u64 all)] [] (.d (.u64 (zud op x y all))) []:=by
 refine zd zp zkV (by show 4≤41;decide) ?_
 (repeat' ((conv=>whnf);first|refine vA ?_|(refine vF ?_ ?_<;>intro hc)|refine vT ?_|refine vY ?_));all_goals try conv=>whnf
 all_goals simp only [zud, *,if_true,if_false]
 all_goals first|rfl|skip
def zfr (rel:List (BitVec 64)) (n:Nat) (c:BitVec 64) (v u:Nat):Prop:=v < n∧(rel.getD v 0#64&&&c).getLsbD u=true
noncomputable def zo1 (rel:List (BitVec 64)) (n w:Nat) (c:BitVec 64):BitVec 64:=zQ (fun v => @decide (Rc (zfr rel n c w) (zfr rel n c) v) (Classical.propDecidable _)) n
abbrev zjC (rel:List (BitVec 64)) (n:Nat):Prop := ∀ v u,v < n→(rel.getD v 0#64).getLsbD u=true→u < n
theorem zfr.lt {rel:List (BitVec 64)} {n:Nat} {c:BitVec 64} {v u:Nat} (hB:zjC rel n) (h:zfr rel n c v u):v < n∧u < n:=⟨h.1,hB v u h.1 (by have:=h.2;rw [BitVec.getLsbD_and,Bool.and_eq_true] at this;exact this.1)⟩
theorem ztx {rel:List (BitVec 64)} {n w:Nat} {c:BitVec 64} (h64:n≤64) (hB:zjC rel n) {v:Nat} : (zo1 rel n w c).getLsbD v=true↔Rc (zfr rel n c w) (zfr rel n c) v:=by
 unfold zo1
 rw [zig h64,@decide_eq_true_eq _ (Classical.propDecidable _)]
 refine ⟨fun h=>h.2,fun h=>⟨?_,h⟩⟩
 cases h with
 | base h=>exact (h.lt hB).2
 | step _ h=>exact (h.lt hB).2
theorem zy4 (rel:List (BitVec 64)) (n:Int) (w:Nat) (c:BitVec 64) (h0:n≤rel.length) (h64:n≤64) (hw:(w:Int) < n) (hB:zjC rel n.toNat) :
  Fn Tryz.prog T zer [.d (dU rel),.d (.int .i64 n),.d (.int .i64 (w:Int)),.d (.u64 c)] [] (.d (.u64 (zo1 rel n.toNat w c))) []:=by
 have hR : ∀ v u,zfr rel n.toNat c v u→v < n.toNat∧u < n.toNat:=fun v u h=>h.lt hB
 refine zd zp zm1 (by show 4≤40;decide) ?_
 (repeat' ((conv=>whnf);first|refine vA ?_|refine vT ?_|(refine vQ ?_ fun x hx=>?_;·omega)|fail));all_goals try conv=>whnf
 revert x;intro r0 hr0
 have hw0:rel.getD w 0#64=r0:=zaU hr0
 refine z1 (fun ((i,s):Nat×BitVec 64)=>[(0,.d (dU rel)),(1,.d (.int .i64 (n))),(3,.d (.u64 (c))),(9,.d (.u64 (s))),(10,.d (.int .i64 ((i:Int))))]) (fun ((i,s):Nat×BitVec 64)=>i≤n.toNat∧zqk (zfr rel n.toNat c w) (zfr rel n.toNat c) n.toNat s i) (fun ((i,s):Nat×BitVec 64)=>n.toNat - i) ((0,r0&&&c)) (⟨by simp,fun v hv => .base ⟨by omega,by rw [hw0];exact hv⟩,fun v hv=>by have:=hv.2;rwa [hw0] at this,.inr (Nat.zero_le _)⟩) (by (repeat' first|exact trivial|exact rfl|refine And.intro ?_ ?_)) ?_
 rintro ⟨i,s⟩ ⟨hi,hI⟩
 (repeat' ((conv=>whnf);first|refine vA ?_|(refine vF ?_ ?_<;>intro hc<;>try simp only [vL] at hc)|refine vT ?_|refine vY ?_));all_goals try conv=>whnf
 ·refine z1 (fun ((v,q):Nat×BitVec 64)=>[(0,.d (dU rel)),(1,.d (.int .i64 (n))),(3,.d (.u64 (c))),(9,.d (.u64 (q))),(10,.d (.int .i64 ((i:Int)))),(11,.d (.int .i64 ((v:Int))))]) (fun ((v,q):Nat×BitVec 64)=>v≤n.toNat∧zxm (zfr rel n.toNat c w) (zfr rel n.toNat c) s q v) (fun ((v,q):Nat×BitVec 64)=>n.toNat - v) ((0,s)) (⟨by simp,hI.mid⟩) (by (repeat' first|exact trivial|exact rfl|refine And.intro ?_ ?_)) ?_
  rintro ⟨v,q⟩ ⟨hv,hM⟩
  (repeat' ((conv=>whnf);first|refine vA ?_|refine vE ?_|(refine vF ?_ ?_<;>intro hc<;>try simp only [vL] at hc)|refine vT ?_|(refine vQ ?_ fun x hx=>?_;·omega)|(refine vO ?_ ?_;·omega)|refine yD (zon _ _) ⟨⟨rfl,rfl⟩,⟨rfl,rfl⟩,rfl⟩ rfl ?_));all_goals try conv=>whnf
  ·have hb:=zsc ‹_›
   exact ⟨(v+1,q),[],[],⟨by (omega),hM.sound,hM.old,fun w' hw' hs u hu=>by
    by_cases e:w'=v
    ·subst e;rw [hM.old _ hs] at hb;cases hb
    ·exact hM.done w' (by omega) hs u hu⟩,by ((simp only [vM] at *;omega)),by (refine ⟨rfl,rfl,rfl,?_,?_⟩;repeat' first|exact trivial|exact rfl|refine And.intro ?_ ?_)⟩
  ·have hb:=zn3 ‹_›
   have h1:=zaU (d:=0#64) hx
   refine ⟨(v+1,_),[],[],?_,?_,by (refine ⟨rfl,rfl,rfl,?_,?_⟩;repeat' first|exact trivial|exact rfl|refine And.intro ?_ ?_)⟩
   ·refine ⟨by (omega),fun u hu=>?_,fun u hu=>?_,fun w' hw' hs u hu=>?_⟩
    ·rw [BitVec.getLsbD_or,Bool.or_eq_true] at hu
     rcases hu with hu|hu
     ·exact hM.sound u hu
     ·exact .step (hM.sound v hb) ⟨by omega,by rw [h1];exact hu⟩
    ·rw [BitVec.getLsbD_or,hM.old u hu];rfl
    ·rw [BitVec.getLsbD_or,Bool.or_eq_true]
     by_cases e:w'=v
     ·subst e;have:=hu.2;rw [h1] at this;exact .inr this
     ·exact .inl (hM.done w' (by omega) hs u hu)
   ·((simp only [vM] at *;omega))
  ·have hv':v=n.toNat:=by omega
   subst hv'
   exact ⟨(i+1,q),[],[],⟨by (omega),hM.next hR hI⟩,by ((simp only [vM] at *;omega)),by (refine ⟨rfl,rfl,rfl,?_,?_⟩;repeat' first|exact trivial|exact rfl|refine And.intro ?_ ?_)⟩
 ·have hi':i=n.toNat:=by omega
  subst hi'
  refine ziB fun v=>?_
  rw [hI.all hR,ztx (by omega) hB]
noncomputable def zxA (rel:List (BitVec 64)) (n:Nat) (c s:BitVec 64):BitVec 64:=zQ (fun w=>decide (zo1 rel n w c &&& ~~~s=0#64)) n
theorem zxU (rel:List (BitVec 64)) (n:Int) (c s:BitVec 64) (h0:n≤rel.length) (h64:n≤64) (hB:zjC rel n.toNat) :
  Fn Tryz.prog T zdR [.d (dU rel),.d (.int .i64 n),.d (.u64 c),.d (.u64 s)] [] (.d (.u64 (zxA rel n.toNat c s))) []:=by
 refine zd zp zlv (by show 4≤29;decide) ?_
 (repeat' ((conv=>whnf);first|refine vA ?_|refine vT ?_));all_goals try conv=>whnf
 refine z1 (fun ((k,o):Nat×BitVec 64)=>[(0,.d (dU rel)),(1,.d (.int .i64 (n))),(2,.d (.u64 (c))),(3,.d (.u64 (s))),(9,.d (.u64 (o))),(10,.d (.int .i64 ((k:Int))))]) (fun ((k,o):Nat×BitVec 64)=>k≤n.toNat∧o=zQ (fun w=>decide (zo1 rel n.toNat w c &&& ~~~s=0#64)) k) (fun ((k,o):Nat×BitVec 64)=>n.toNat - k) ((0,0#64)) (⟨by simp,rfl⟩) (by (repeat' first|exact trivial|exact rfl|refine And.intro ?_ ?_)) ?_
 rintro ⟨k,o⟩ ⟨hk,hI⟩
 by_cases hkn:(k:Int) < n
 ·(repeat' ((conv=>whnf);first|refine vA ?_|(refine vF ?_ ?_<;>intro hc<;>try simp only [vL] at hc)|refine vT ?_|((first|refine vO ?_ ?_|refine vP ?_ ?_);·omega)|refine vY ?_|refine yD (zy4 rel n k c h0 h64 hkn hB) (by (repeat refine ⟨⟨rfl,rfl⟩,?_⟩);rfl) rfl ?_));all_goals try conv=>whnf
  ·refine ⟨(k+1,_),[],[],?_,?_,by (refine ⟨rfl,rfl,rfl,?_,?_⟩;repeat' first|exact trivial|exact rfl|refine And.intro ?_ ?_)⟩
   ·exact ⟨by (omega),by rw [zQ,if_pos (decide_eq_true ‹_›),hI];rfl⟩
   ·((simp only [vM] at *;omega))
  ·exact ⟨(k+1,o),[],[],⟨by (omega),by rw [zQ,if_neg (by simpa using ‹¬_›),hI]⟩,by ((simp only [vM] at *;omega)),by (refine ⟨rfl,rfl,rfl,?_,?_⟩;repeat' first|exact trivial|exact rfl|refine And.intro ?_ ?_)⟩
  all_goals omega
 ·(repeat' ((conv=>whnf);first|refine vA ?_|(refine vF ?_ ?_<;>intro hc<;>try simp only [vL] at hc)|refine vT ?_|refine vY ?_));all_goals try conv=>whnf
  ·omega
  ·rw [hI,show k=n.toNat by omega];rfl
end Go.Ab
namespace Go.Ab
open Go Go.Proofs
set_option maxRecDepth 10000
set_option maxHeartbeats 4000000
variable {T:Nat→Obj→Prop}
theorem zd5 (op:Int):Fn Tryz.prog T zak [.d (.int .i64 op)] [] (.d (.bool (zK op))) []:=by
 refine zd zp zmT (by show 1≤9;decide) ?_
 (repeat' ((conv=>whnf);first|refine vA ?_|(refine vF ?_ ?_<;>intro hc<;>try simp only [vL] at hc)|refine vT ?_|refine vZ ?_));all_goals try conv=>whnf
 all_goals first|rfl|(simp_all [zK]<;>omega)|skip
theorem zcn (op:Int):Fn Tryz.prog T zal [.d (.int .i64 op)] [] (.d (.bool (zB op))) []:=by
 refine zd zp zmU (by show 1≤29;decide) ?_
 (repeat' ((conv=>whnf);first|refine vA ?_|(refine vF ?_ ?_<;>intro hc<;>try simp only [vL] at hc)|refine vT ?_|refine vZ ?_));all_goals try conv=>whnf
 all_goals first|rfl|(simp_all [zB]<;>omega)|skip
theorem zoq (op:Int):Fn Tryz.prog T zcy [.d (.int .i64 op)] [] (.d (.bool (zH op))) []:=by
 refine zd zp zmV (by show 1≤17;decide) ?_
 (repeat' ((conv=>whnf);first|refine vA ?_|(refine vF ?_ ?_<;>intro hc)|refine vT ?_|refine vZ ?_));all_goals try conv=>whnf
 all_goals first|rfl|(simp_all [zH]<;>omega)|skip
theorem zy2 (op:Int):Fn Tryz.prog T zcz [.d (.int .i64 op)] [] (.d (.bool (zO op))) []:=by
 refine zd zp zmW (by show 1≤9;decide) ?_
 (repeat' ((conv=>whnf);first|refine vA ?_|(refine vF ?_ ?_<;>intro hc<;>try simp only [vL] at hc)|refine vT ?_|refine vZ ?_));all_goals try conv=>whnf
 all_goals first|rfl|(simp_all [zO]<;>omega)|skip
end Go.Ab
namespace Go.Ab
open Go Go.Proofs
set_option maxRecDepth 10000
set_option maxHeartbeats 4000000
variable {T:Nat→Obj→Prop}
abbrev zkx (n:Nd):Ob := .box [.d (.int .i64 n.op),.d (.int .i64 n.i),.d (.int .i64 n.e),.d (.int .i64 n.g),.d (.int .i64 n.x),.d (.int .i64 n.y)]
def zfz (ok fa ev ux uy ag gr:Bool) (n:Nd) (at_:Int):Int :=
 if ok=false then 10 else
 if zbL ux n.x at_=false∨zbL uy n.y at_=false then 3 else
 if (!(fa||ag||ev)&&decide (n.i≠0)||(!ev&&decide (n.e≠0))||(!gr&&decide (n.g≠0)))=true then 3 else
 if (zE fa n.i 0 7||zE ag n.i 0 3||zE ev n.i 0 7||zE ev n.e 0 7||zE gr n.g 1 15)=true then 2 else 0
theorem zie {ok fa ev ux uy ag gr:Bool} {n:Nd} {a:Int} (h0:ok=true) (h1:zbL ux n.x a=true) (h2:zbL uy n.y a=true) (h3:(!(fa||ag||ev)&&decide (n.i≠0)||(!ev&&decide (n.e≠0))||(!gr&&decide (n.g≠0)))=false) :
  zfz ok fa ev ux uy ag gr n a=if (zE fa n.i 0 7||zE ag n.i 0 3||zE ev n.i 0 7||zE ev n.e 0 7||zE gr n.g 1 15)=true then 2 else 0:=by
 rw [zfz,if_neg (by rw [h0];simp),if_neg (by rw [h1,h2];simp),if_neg (by rw [h3];simp)]
set_option maxHeartbeats 40000000 in
theorem zy3 (ux uy ag gr:Bool) (n:Nd) (a:Int) (hux:Fn Tryz.prog T zak [.d (.int .i64 n.op)] [] (.d (.bool ux)) []) (huy:Fn Tryz.prog T zal [.d (.int .i64 n.op)] [] (.d (.bool uy)) []) (hag:Fn Tryz.prog T zcy [.d (.int .i64 n.op)] [] (.d (.bool ag)) []) (hgr:Fn Tryz.prog T zcz [.d (.int .i64 n.op)] [] (.d (.bool gr)) []) :
  Fn Tryz.prog T zcW [.d (dNd n),.d (.int .i64 a)] [] (.d (.int .i64 (zfz (zaY n.op) (decide (n.op=3)) (decide (n.op=17)) ux uy ag gr n a))) []:=by
 refine zd zp znR (by show 2≤169;decide) ?_
 (repeat' ((conv=>whnf);first|refine zfH.but 38 rfl ?_|(refine vF ?_ ?_<;>intro hc<;>try simp only [vL] at hc)|refine vT ?_|refine vX ?_));all_goals try conv=>whnf
 ·(clear hux huy hag hgr;first|(simp_all [zbL,zE,zfz,zaY];done)|(simp_all [zbL,zE,zfz,zaY]<;>omega)|skip)
 ·(clear hux huy hag hgr;first|(simp_all [zbL,zE,zfz,zaY];done)|(simp_all [zbL,zE,zfz,zaY]<;>omega)|skip)
 refine zfH.cut (fun (u:Unit)=>[(1,.d (.int .i64 (a))),(2,.ptr 0 0)]) (fun (u:Unit)=>[(0,some (zkx n))]) 1 (fun (u:Unit)=>zbL ux n.x a=true) ?_ ?_
 ·(repeat' ((conv=>whnf);first|refine vA ?_|refine vE ?_|((first|refine vD ?_ ?_|refine vF ?_ ?_|refine vI ?_ ?_)<;>intro hc<;>try simp only [vL] at hc)|refine vT ?_|refine vX ?_|refine yD hux (by (repeat refine ⟨⟨rfl,rfl⟩,?_⟩);rfl) rfl ?_));all_goals try conv=>whnf
  all_goals try (refine ⟨(),[(0,0)],[],?_,by (refine ⟨rfl,rfl,rfl,?_,?_⟩;repeat' first|exact trivial|exact rfl|refine And.intro ?_ ?_|refine ⟨_,rfl,?_⟩|decide)⟩)
  all_goals (clear hux huy hag hgr;first|(simp_all [zbL,zE,zfz,zaY];done)|(simp_all [zbL,zE,zfz,zaY]<;>omega)|skip)
 ·intro u0 hu0
  (repeat' ((conv=>whnf);refine vT ?_));all_goals try conv=>whnf
  refine zfH.cut (fun (u:Unit)=>[(1,.d (.int .i64 (a))),(2,.ptr 0 0)]) (fun (u:Unit)=>[(0,some (zkx n))]) 1 (fun (u:Unit)=>zbL uy n.y a=true) ?_ ?_
  ·(repeat' ((conv=>whnf);first|refine vA ?_|refine vE ?_|((first|refine vD ?_ ?_|refine vF ?_ ?_|refine vI ?_ ?_)<;>intro hc<;>try simp only [vL] at hc)|refine vT ?_|refine vX ?_|refine yD huy (by (repeat refine ⟨⟨rfl,rfl⟩,?_⟩);rfl) rfl ?_));all_goals try conv=>whnf
   all_goals try (refine ⟨(),[(0,0)],[],?_,by (refine ⟨rfl,rfl,rfl,?_,?_⟩;repeat' first|exact trivial|exact rfl|refine And.intro ?_ ?_|refine ⟨_,rfl,?_⟩|decide)⟩)
   all_goals (clear hux huy hag hgr;first|(simp_all [zbL,zE,zfz,zaY];done)|(simp_all [zbL,zE,zfz,zaY]<;>omega)|skip)
  ·intro u1 hu1
   (repeat' ((conv=>whnf);refine vT ?_));all_goals try conv=>whnf
   refine zfH.cut (fun (u:Bool)=>[(1,.d (.int .i64 (a))),(2,.ptr 0 0),(5,.d (.bool (u)))]) (fun (u:Bool)=>[(0,some (zkx n))]) 1 (fun (u:Bool)=>u=(decide (n.op=3)||ag||decide (n.op=17))) ?_ ?_
   ·(repeat' ((conv=>whnf);first|((first|refine vF ?_ ?_|refine vI ?_ ?_)<;>intro hc)|refine vT ?_|refine yD hag (by (repeat refine ⟨⟨rfl,rfl⟩,?_⟩);rfl) rfl ?_));all_goals try conv=>whnf
    all_goals (refine ⟨_,[(0,0)],[],?_,by (refine ⟨rfl,rfl,rfl,?_,?_⟩;repeat' first|exact trivial|exact rfl|exact .inl rfl|exact .inr (.inl ⟨rfl,rfl⟩)|refine And.intro ?_ ?_|refine ⟨_,rfl,?_⟩|decide)⟩)
    all_goals (clear hux huy hag hgr;first|(simp_all;done)|(simp_all<;>omega)|skip)
   ·intro ub hub
    (repeat' ((conv=>whnf);refine vT ?_));all_goals try conv=>whnf
    refine zfH.cut (fun (u:Unit)=>[(1,.d (.int .i64 (a))),(2,.ptr 0 0)]) (fun (u:Unit)=>[(0,some (zkx n))]) 1 (fun (u:Unit)=>(!(decide (n.op=3)||ag||decide (n.op=17))&&decide (n.i≠0)||(!decide (n.op=17)&&decide (n.e≠0))||(!gr&&decide (n.g≠0)))=false) ?_ ?_
    ·(repeat' ((conv=>whnf);first|refine vA ?_|refine vE ?_|((first|refine vD ?_ ?_|refine vI ?_ ?_)<;>intro hc)|refine vT ?_|refine vX ?_|refine yD hgr (by (repeat refine ⟨⟨rfl,rfl⟩,?_⟩);rfl) rfl ?_));all_goals try conv=>whnf
     all_goals try (refine ⟨(),[(0,0)],[],?_,by (refine ⟨rfl,rfl,rfl,?_,?_⟩;repeat' first|exact trivial|exact rfl|refine And.intro ?_ ?_|refine ⟨_,rfl,?_⟩|decide)⟩)
     all_goals (clear hux huy hag hgr;first|(rw [← hub];clear hub;simp_all;done)|(simp_all [zbL,zE,zfz,zaY];done)|(simp_all [zbL,zE,zfz,zaY]<;>omega)|skip)
    ·intro u2 hu2
     (repeat' ((conv=>whnf);refine vT ?_));all_goals try conv=>whnf
     refine zfH.cut (fun (u:Unit)=>[(1,.d (.int .i64 (a))),(2,.ptr 0 0)]) (fun (u:Unit)=>[(0,some (zkx n))]) 1 (fun (u:Unit)=>(zE (decide (n.op=3)) n.i 0 7||zE ag n.i 0 3)=false) ?_ ?_
     ·(repeat' ((conv=>whnf);first|refine vA ?_|((first|refine vF ?_ ?_|refine vI ?_ ?_)<;>intro hc<;>try simp only [vL] at hc)|refine vT ?_|refine vX ?_|refine yD hag (by (repeat refine ⟨⟨rfl,rfl⟩,?_⟩);rfl) rfl ?_));all_goals try conv=>whnf
      all_goals try (refine ⟨(),[(0,0)],[],?_,by (refine ⟨rfl,rfl,rfl,?_,?_⟩;repeat' first|exact trivial|exact rfl|refine And.intro ?_ ?_|refine ⟨_,rfl,?_⟩|decide)⟩)
      all_goals (clear hux huy hag hgr;first|exact trivial|(rw [zie (by simp [zaY];omega) hu0 hu1 hu2];clear hu0 hu1 hu2;simp_all [zE];done)|(rw [zie (by simp [zaY];omega) hu0 hu1 hu2];clear hu0 hu1 hu2;simp_all [zE]<;>omega)|(clear hu0 hu1 hu2;simp_all [zE];done)|(clear hu0 hu1 hu2;simp_all [zE]<;>omega)|skip)
     ·intro u3 hu3
      (repeat' ((conv=>whnf);refine vT ?_));all_goals try conv=>whnf
      refine zfH.cut (fun (u:Unit)=>[(1,.d (.int .i64 (a))),(2,.ptr 0 0)]) (fun (u:Unit)=>[(0,some (zkx n))]) 1 (fun (u:Unit)=>(zE (decide (n.op=17)) n.i 0 7||zE (decide (n.op=17)) n.e 0 7)=false) ?_ ?_
      ·(repeat' ((conv=>whnf);first|refine vA ?_|(refine vF ?_ ?_<;>intro hc<;>try simp only [vL] at hc)|refine vT ?_|refine vX ?_));all_goals try conv=>whnf
       all_goals try (refine ⟨(),[(0,0)],[],?_,by (refine ⟨rfl,rfl,rfl,?_,?_⟩;repeat' first|exact trivial|exact rfl|refine And.intro ?_ ?_|refine ⟨_,rfl,?_⟩|decide)⟩)
       all_goals (clear hux huy hag hgr;first|exact trivial|(rw [zie (by simp [zaY];omega) hu0 hu1 hu2];clear hu0 hu1 hu2;simp_all [zE];done)|(rw [zie (by simp [zaY];omega) hu0 hu1 hu2];clear hu0 hu1 hu2;simp_all [zE]<;>omega)|(clear hu0 hu1 hu2;simp_all [zE];done)|(clear hu0 hu1 hu2;simp_all [zE]<;>omega)|skip)
      ·intro u4 hu4
       (repeat' ((conv=>whnf);first|refine vA ?_|((first|refine vF ?_ ?_|refine vI ?_ ?_)<;>intro hc<;>try simp only [vL] at hc)|refine vT ?_|refine vX ?_|refine yD hgr (by (repeat refine ⟨⟨rfl,rfl⟩,?_⟩);rfl) rfl ?_));all_goals try conv=>whnf
       all_goals (clear hux huy hag hgr;first|exact trivial|(rw [zie (by simp [zaY];omega) hu0 hu1 hu2];clear hu0 hu1 hu2;simp_all [zE];done)|(rw [zie (by simp [zaY];omega) hu0 hu1 hu2];clear hu0 hu1 hu2;simp_all [zE]<;>omega)|(clear hu0 hu1 hu2;simp_all [zE];done)|(clear hu0 hu1 hu2;simp_all [zE]<;>omega)|skip)
end Go.Ab
namespace Go.Ab
open Go Go.Proofs
set_option maxRecDepth 10000
set_option maxHeartbeats 4000000
variable {T:Nat→Obj→Prop}
theorem zAR (n:Nd) (a:Int):Fn Tryz.prog T zcW [.d (dNd n),.d (.int .i64 a)] [] (.d (.int .i64 (zbe n a))) []:=by
 exact zy3 _ _ _ _ n a (zd5 n.op) (zcn n.op) (zoq n.op) (zy2 n.op)
theorem ziw (f:List Nd):Fn Tryz.prog T zej [.d (dF f)] [] (.d (.int .i64 (zaX f))) []:=by
 refine zd zp zmP (by show 1≤26;decide) ?_
 (repeat' ((conv=>whnf);first|refine vA ?_|(refine vF ?_ ?_<;>intro hc<;>try simp only [vL] at hc)|refine vJ fun hg=>?_|refine vT ?_|refine vX ?_));all_goals try conv=>whnf
 ·simp_all [zaX]
 ·rw [zaX,if_neg (by omega),if_pos (by omega)]
 ·have h0 : ¬f.length=0:=by omega
  refine z1 (fun (k:Nat)=>[(0,.d (dF f)),(3,.d (.int .i64 ((k:Int))))]) (fun (k:Nat)=>k≤f.length∧zaX f=ze4 (f.drop k) k) (fun (k:Nat)=>f.length - k) (0) (⟨by simp,by rw [zaX,if_neg (by omega),if_neg (by omega)];rfl⟩) (by (repeat' first|exact trivial|exact rfl|refine And.intro ?_ ?_)) ?_
  rintro k ⟨hk,hI⟩
  (repeat' ((conv=>whnf);first|refine vA ?_|((first|refine vD ?_ ?_|refine vF ?_ ?_)<;>intro hc<;>try simp only [vL] at hc)|refine vJ fun hg=>?_|refine vT ?_|(refine vQ ?_ fun x hx=>?_;·omega)|(refine vO ?_ ?_;·omega)|refine vX ?_|refine yD (zAR x (k:Int)) ⟨⟨rfl,rfl⟩,⟨rfl,rfl⟩,rfl⟩ rfl ?_));all_goals try conv=>whnf
  ·rw [hI,zap hx,ze4,if_pos hc]
  ·exact ⟨k+1,[],[],⟨by (omega),by rw [hI,zap hx,ze4,if_neg (by simpa using hc)]⟩,by (omega),by (refine ⟨rfl,rfl,rfl,?_,?_⟩;repeat' first|exact trivial|exact rfl|refine And.intro ?_ ?_)⟩
  ·rw [hI,List.drop_eq_nil_of_le (by omega)];rfl
end Go.Ab
namespace Go.Ab
open Go Go.Proofs
set_option maxRecDepth 10000
set_option maxHeartbeats 4000000
variable {T:Nat→Obj→Prop}
theorem zDN {l:List Nd} {x:Nd} {k:Nat} (h : ∀ j,j < k→l[j]? ≠ some x) (hk:l[k]? = some x):put l x=(k,l):=by
 refine zan ?_
 obtain ⟨h1,h2⟩:=List.getElem?_eq_some_iff.1 hk
 simp only [List.idxOf?]
 rw [List.findIdx?_eq_some_iff_getElem]
 refine ⟨h1,by simp [h2],fun j hj=>?_⟩
 have:=h j hj
 rw [List.getElem?_eq_getElem (by omega)] at this
 simpa using fun e=>this (by rw [e])
theorem zDO {l:List Nd} {x:Nd} (h : ∀ j,j < l.length→l[j]? ≠ some x):put l x=(l.length,l++[x]):=by
 refine zbt ?_
 simp only [List.idxOf?,List.findIdx?_eq_none_iff]
 intro y hy
 obtain ⟨j,hj,rfl⟩:=List.getElem_of_mem hy
 have:=h j hj
 rw [List.getElem?_eq_getElem hj] at this
 simpa using fun e=>this (by rw [e])
theorem zzt (a b:Nd):(decide (a.op=b.op)&&(decide (a.i=b.i)&&(decide (a.e=b.e)&&(decide (a.g=b.g)&&(decide (a.x=b.x)&&(decide (a.y=b.y)&&true))))))=decide (a=b):=Option.some.inj (zw8 a b)
theorem zll (ds:List D) (l:List Nd) (x:Nd) (hL:l.length≤1000) (r:Int) (hr:r=((put l x).1:Int)) (l':List D) (hl':l'=(put l x).2.map dNd) :
  Fn Tryz.prog T zdc [.ptr 0 0,.d (dNd x)] [.box [.own 2,.own 1],.row 1 ds,.row 6 (l.map dNd)] (.d (.int .i64 r)) [some (.box [.own 3,.own 1]),some (.row 1 ds),none,some (.row 6 l')]:=by
 refine zT zp ziP (by show 2≤41;decide) _ (fun e env mem n h=>h) ?_
 (repeat' ((conv=>whnf);first|refine vA ?_|refine vT ?_));all_goals try conv=>whnf
 refine zt (fun (k:Nat)=>[(0,.ptr 0 0),(3,.ptr 3 0),(5,.d (.int .i64 ((k:Int)))),(zg,.ptr 0 0),(zg+1,.own 1),(zg+2,.own 2)]) (fun (k:Nat)=>[(0,some (.box [.own 2,.own 1])),(1,some (.row 1 ds)),(2,some (.row 6 (l.map dNd))),(3,some (zkx x))]) 4 (fun (k:Nat)=>k≤l.length ∧ ∀ j,j < k→l[j]? ≠ some x) (fun (k:Nat)=>l.length - k) (0) [(0,0),(1,1),(2,2),(3,3)] [] (⟨by simp,by omega⟩) (by (refine ⟨rfl,rfl,rfl,?_,?_⟩;repeat' first|exact trivial|exact rfl|refine And.intro ?_ ?_|refine ⟨_,rfl,?_⟩|decide)) ?_
 rintro k ⟨hk,hI⟩
 (repeat' ((conv=>whnf);first|refine vA ?_|((first|refine vF ?_ ?_|refine vI ?_ ?_)<;>intro hc<;>try simp only [vL] at hc)|refine vJ fun hg=>?_|refine vK fun hg=>?_|refine vT ?_|(refine vQ ?_ fun x hx=>?_;·omega)|((first|refine vO ?_ ?_|refine vP ?_ ?_);·first|omega|(simp only [vM] at *;omega))|(refine vU ?_ ?_;·kernel_rfl)|fail));all_goals try conv=>whnf
 ·have he:=(zzt _ _).symm.trans hc
  rw [decide_eq_true_eq] at he
  subst he
  rw [zDN hI hx] at hr hl'
  subst hr;subst hl'
  refine ⟨trivial,_,[(0,0),(1,1),(3,2)],[],rfl,.inl (by (repeat' exact rfl)),⟨by rfl,by rfl,by rfl,trivial,by (repeat' first|exact trivial|exact rfl|refine And.intro ?_ ?_|refine ⟨_,rfl,?_⟩|exact of_decide_eq_true rfl)⟩,by (repeat' first|exact trivial|exact rfl|refine And.intro ?_ ?_|refine ⟨_,rfl,?_⟩)⟩
 ·have he:=(zzt _ _).symm.trans hc
  rw [decide_eq_false_iff_not] at he
  exact ⟨k+1,[(0,0),(1,1),(2,2),(3,3)],[],⟨by (omega),fun j hj e=>by
   by_cases h:j=k
   ·subst h;rw [show (j:Int).toNat=j from rfl] at hx;rw [hx] at e;exact he (Option.some.inj e)
   ·exact hI j (by omega) e⟩,by (omega),by (refine ⟨rfl,rfl,rfl,?_,?_⟩;repeat' first|exact trivial|exact rfl|refine And.intro ?_ ?_|refine ⟨_,rfl,?_⟩|decide)⟩
 ·have hp:=zDO fun j hj=>hI j (by omega)
  rw [hp] at hr hl'
  have e1:l'=l.map dNd++[dNd x]:=by rw [hl'];simp
  have e2:r=(((l.map dNd++[dNd x]).length:Nat):Int) - 1:=by rw [hr];simp
  subst e1;subst e2
  refine ⟨trivial,_,[(0,0),(1,1),(3,5)],[],rfl,.inl (by (repeat' exact rfl)),⟨by rfl,by rfl,by rfl,trivial,by (repeat' first|exact trivial|exact rfl|refine And.intro ?_ ?_|refine ⟨_,rfl,?_⟩|exact of_decide_eq_true rfl)⟩,by (repeat' first|exact trivial|exact rfl|refine And.intro ?_ ?_|refine ⟨_,rfl,?_⟩)⟩
theorem zAS (ds:List D) (x:Nd):Fn Tryz.prog T zdc [.ptr 0 0,.d (dNd x)] [.box [.nils 6,.own 1],.row 1 ds] (.d (.int .i64 0)) [some (.box [.own 2,.own 1]),some (.row 1 ds),some (.row 6 [dNd x])]:=by
 refine zT zp ziP (by show 2≤41;decide) _ (fun e env mem n h=>h) ?_
 (repeat' ((conv=>whnf);first|refine vA ?_|refine vT ?_));all_goals try conv=>whnf
 refine zt (fun (u:Unit)=>[(0,.ptr 0 0),(3,.ptr 2 0),(5,.d (.int .i64 (0))),(zg,.ptr 0 0),(zg+1,.own 1)]) (fun (u:Unit)=>[(0,some (.box [.nils 6,.own 1])),(1,some (.row 1 ds)),(2,some (zkx x))]) 3 (fun (u:Unit)=>True) (fun (u:Unit)=>0) (()) [(0,0),(1,1),(2,2)] [] (trivial) (by (refine ⟨rfl,rfl,rfl,?_,?_⟩;repeat' first|exact trivial|exact rfl|refine And.intro ?_ ?_|refine ⟨_,rfl,?_⟩|decide)) ?_
 rintro u -
 (repeat' ((conv=>whnf);first|refine vA ?_|refine vH ?_|refine vK fun hg=>?_|refine vT ?_|((first|refine vO ?_ ?_|refine vP ?_ ?_);·first|omega|(simp only [vM] at *;omega))|(refine vU ?_ ?_;·kernel_rfl)|fail));all_goals try conv=>whnf
 all_goals skip
 refine ⟨trivial,_,[(0,0),(1,1),(2,4)],[],rfl,.inl (by (repeat' exact rfl)),⟨by rfl,by rfl,by rfl,trivial,by (repeat' first|exact trivial|exact rfl|refine And.intro ?_ ?_|refine ⟨_,rfl,?_⟩|exact of_decide_eq_true rfl)⟩,by (repeat' first|exact trivial|exact rfl|refine And.intro ?_ ?_|refine ⟨_,rfl,?_⟩)⟩
end Go.Ab
namespace Go.Ab
open Go Go.Proofs
set_option maxRecDepth 10000
set_option maxHeartbeats 4000000
set_option maxHeartbeats 40000000
variable {T:Nat→Obj→Prop}
def dA (f:List Nd) (s:FSt):List Int:=(List.range f.length).map fun i=>match s.done.lookup i with
 | some r=>(r:Int)
 | none => -1
abbrev zN (f:List Nd) (s:FSt):List D:=(dA f s).map (D.int .i64)
theorem zDT {f:List Nd} (hL:f.length≤1000) {k:Nat} {n:Nd} (hn:f[k]? = some n) {s:FSt} (hl:s.out.length≤1000) (hd:(dA f s)[k]? = some (-1)) (hux:Fn Tryz.prog T zak [.d (.int .i64 n.op)] [] (.d (.bool false)) []) (huy:Fn Tryz.prog T zal [.d (.int .i64 n.op)] [] (.d (.bool false)) []) {p:Int} (hp:p=((put (s).out n).1:Int)) :
  Fn Tryz.prog T zD [.d (dF f),.d (.int .i64 (k:Int)),.ptr 0 0] [.box [.own 2,.own 1],.row 1 (zN f s),.row 6 ((s).out.map dNd)] (.d (.int .i64 p)) [some (.box [.own 3,.own 1]),some (.row 1 ((zN f s).set k (.int .i64 p))),none,some (.row 6 ((put (s).out n).2.map dNd))]:=by
 have hkl:k < ((zN f s)).length:=by rw [zN,List.length_map];exact (List.getElem?_eq_some_iff.1 hd).1
 have hk0:k < ((zN f s)).length:=by rw [zN,List.length_map];exact (List.getElem?_eq_some_iff.1 hd).1
 refine zT zp zaJ (by show 3≤67;decide) _ (fun e env mem n h=>h) ?_
 (repeat' ((conv=>whnf);first|refine vA ?_|refine vH ?_|refine vT ?_|refine vN ‹_› ?_|(refine vP ?_ ?_;·omega)|refine yD hux (by (repeat refine ⟨⟨rfl,rfl⟩,?_⟩);rfl) rfl ?_|refine yD huy (by (repeat refine ⟨⟨rfl,rfl⟩,?_⟩);rfl) rfl ?_));all_goals try conv=>whnf
 refine zL.objsE [0,1,2] (zll (zN f s) (s).out n hl p hp _ rfl) (by (repeat' first|exact rfl|refine And.intro ?_ ?_|refine ⟨_,rfl,?_⟩)) (by (repeat' first|exact rfl|refine And.intro ?_ ?_|refine ⟨_,rfl,?_⟩)) (by rfl) (by kernel_rfl) (by simp) [(0,some (.box [.own 4,.own 1])),(1,some (.row 1 (zN f s))),(2,none),(4,some (.row 6 ((put (s).out n).2.map dNd)))] rfl ?_
 (repeat' ((conv=>whnf);first|refine vT ?_|(refine vP ?_ ?_;·first|omega|(simp only [vM] at *;omega))|(refine vU ?_ ?_;·kernel_rfl)|fail));all_goals try conv=>whnf
 refine ⟨.int .i64 p,⟨by omega,List.getElem?_set_self hkl⟩,?_⟩
 (repeat' ((conv=>whnf);refine vT ?_));all_goals try conv=>whnf
 refine ⟨trivial,_,[(0,0),(1,1),(3,4)],[],rfl,.inl (by (repeat' exact rfl)),⟨by rfl,by rfl,by rfl,trivial,by (repeat' first|exact trivial|exact rfl|refine And.intro ?_ ?_|refine ⟨_,rfl,?_⟩|exact of_decide_eq_true rfl)⟩,by (repeat' first|exact trivial|exact rfl|refine And.intro ?_ ?_|refine ⟨_,rfl,?_⟩)⟩
theorem zDU {f:List Nd} (hL:f.length≤1000) {k:Nat} {n:Nd} (hn:f[k]? = some n) {s:FSt} (hl:s.out.length≤1000) (hd:(dA f s)[k]? = some (-1)) (hux:Fn Tryz.prog T zak [.d (.int .i64 n.op)] [] (.d (.bool true)) []) (huy:Fn Tryz.prog T zal [.d (.int .i64 n.op)] [] (.d (.bool false)) []) {r1:Nat} {s1:FSt} (hl1:s1.out.length≤1000) (c1:Fn Tryz.prog T zD [.d (dF f),.d (.int .i64 n.x),.ptr 0 0] [.box [.own 2,.own 1],.row 1 (zN f s),.row 6 ((s).out.map dNd)] (.d (.int .i64 (r1:Int))) [some (.box [.own 3,.own 1]),some (.row 1 (zN f s1)),none,some (.row 6 (s1.out.map dNd))]) (hd1:(dA f s1)[k]? = some (-1)) {p:Int} (hp:p=((put (s1).out ⟨n.op,n.i,n.e,n.g,(r1:Int),n.y⟩).1:Int)) :
  Fn Tryz.prog T zD [.d (dF f),.d (.int .i64 (k:Int)),.ptr 0 0] [.box [.own 2,.own 1],.row 1 (zN f s),.row 6 ((s).out.map dNd)] (.d (.int .i64 p)) [some (.box [.own 3,.own 1]),some (.row 1 ((zN f s1).set k (.int .i64 p))),none,some (.row 6 ((put (s1).out ⟨n.op,n.i,n.e,n.g,(r1:Int),n.y⟩).2.map dNd))]:=by
 have hkl:k < ((zN f s1)).length:=by rw [zN,List.length_map];exact (List.getElem?_eq_some_iff.1 hd1).1
 have hk0:k < ((zN f s)).length:=by rw [zN,List.length_map];exact (List.getElem?_eq_some_iff.1 hd).1
 refine zT zp zaJ (by show 3≤67;decide) _ (fun e env mem n h=>h) ?_
 (repeat' ((conv=>whnf);first|refine vA ?_|refine vG ?_|refine vH ?_|refine vT ?_|refine vN ‹_› ?_|(refine vP ?_ ?_;·omega)|refine yD hux (by (repeat refine ⟨⟨rfl,rfl⟩,?_⟩);rfl) rfl ?_));all_goals try conv=>whnf
 refine zL.objsE [0,1,2] (c1) (by (repeat' first|exact rfl|refine And.intro ?_ ?_|refine ⟨_,rfl,?_⟩)) (by (repeat' first|exact rfl|refine And.intro ?_ ?_|refine ⟨_,rfl,?_⟩)) (by rfl) (by kernel_rfl) (by simp) [(0,some (.box [.own 4,.own 1])),(1,some (.row 1 (zN f s1))),(2,none),(4,some (.row 6 (s1.out.map dNd)))] rfl ?_
 (repeat' ((conv=>whnf);first|refine vA ?_|refine vH ?_|refine vT ?_|refine yD huy (by (repeat refine ⟨⟨rfl,rfl⟩,?_⟩);rfl) rfl ?_));all_goals try conv=>whnf
 refine zL.objsE [0,1,4] (zll (zN f s1) (s1).out ⟨n.op,n.i,n.e,n.g,(r1:Int),n.y⟩ hl1 p hp _ rfl) (by (repeat' first|exact rfl|refine And.intro ?_ ?_|refine ⟨_,rfl,?_⟩)) (by (repeat' first|exact rfl|refine And.intro ?_ ?_|refine ⟨_,rfl,?_⟩)) (by rfl) (by kernel_rfl) (by simp) [(0,some (.box [.own 5,.own 1])),(1,some (.row 1 (zN f s1))),(4,none),(5,some (.row 6 ((put (s1).out ⟨n.op,n.i,n.e,n.g,(r1:Int),n.y⟩).2.map dNd)))] rfl ?_
 (repeat' ((conv=>whnf);first|refine vT ?_|(refine vP ?_ ?_;·first|omega|(simp only [vM] at *;omega))|(refine vU ?_ ?_;·kernel_rfl)|fail));all_goals try conv=>whnf
 refine ⟨.int .i64 p,⟨by omega,List.getElem?_set_self hkl⟩,?_⟩
 (repeat' ((conv=>whnf);refine vT ?_));all_goals try conv=>whnf
 refine ⟨trivial,_,[(0,0),(1,1),(3,5)],[],rfl,.inl (by (repeat' exact rfl)),⟨by rfl,by rfl,by rfl,trivial,by (repeat' first|exact trivial|exact rfl|refine And.intro ?_ ?_|refine ⟨_,rfl,?_⟩|exact of_decide_eq_true rfl)⟩,by (repeat' first|exact trivial|exact rfl|refine And.intro ?_ ?_|refine ⟨_,rfl,?_⟩)⟩
theorem zDV {f:List Nd} (hL:f.length≤1000) {k:Nat} {n:Nd} (hn:f[k]? = some n) {s:FSt} (hl:s.out.length≤1000) (hd:(dA f s)[k]? = some (-1)) (hux:Fn Tryz.prog T zak [.d (.int .i64 n.op)] [] (.d (.bool true)) []) (huy:Fn Tryz.prog T zal [.d (.int .i64 n.op)] [] (.d (.bool true)) []) {r1:Nat} {s1:FSt} (hl1:s1.out.length≤1000) (c1:Fn Tryz.prog T zD [.d (dF f),.d (.int .i64 n.x),.ptr 0 0] [.box [.own 2,.own 1],.row 1 (zN f s),.row 6 ((s).out.map dNd)] (.d (.int .i64 (r1:Int))) [some (.box [.own 3,.own 1]),some (.row 1 (zN f s1)),none,some (.row 6 (s1.out.map dNd))]) (hd1:(dA f s1)[k]? = some (-1)) {r2:Nat} {s2:FSt} (hl2:s2.out.length≤1000) (c2:Fn Tryz.prog T zD [.d (dF f),.d (.int .i64 n.y),.ptr 0 0] [.box [.own 2,.own 1],.row 1 (zN f s1),.row 6 ((s1).out.map dNd)] (.d (.int .i64 (r2:Int))) [some (.box [.own 3,.own 1]),some (.row 1 (zN f s2)),none,some (.row 6 (s2.out.map dNd))]) (hd2:(dA f s2)[k]? = some (-1)) {p:Int} (hp:p=((put (s2).out ⟨n.op,n.i,n.e,n.g,(r1:Int),(r2:Int)⟩).1:Int)) :
  Fn Tryz.prog T zD [.d (dF f),.d (.int .i64 (k:Int)),.ptr 0 0] [.box [.own 2,.own 1],.row 1 (zN f s),.row 6 ((s).out.map dNd)] (.d (.int .i64 p)) [some (.box [.own 3,.own 1]),some (.row 1 ((zN f s2).set k (.int .i64 p))),none,some (.row 6 ((put (s2).out ⟨n.op,n.i,n.e,n.g,(r1:Int),(r2:Int)⟩).2.map dNd))]:=by
 have hkl:k < ((zN f s2)).length:=by rw [zN,List.length_map];exact (List.getElem?_eq_some_iff.1 hd2).1
 have hk0:k < ((zN f s)).length:=by rw [zN,List.length_map];exact (List.getElem?_eq_some_iff.1 hd).1
 refine zT zp zaJ (by show 3≤67;decide) _ (fun e env mem n h=>h) ?_
 (repeat' ((conv=>whnf);first|refine vA ?_|refine vG ?_|refine vH ?_|refine vT ?_|refine vN ‹_› ?_|(refine vP ?_ ?_;·omega)|refine yD hux (by (repeat refine ⟨⟨rfl,rfl⟩,?_⟩);rfl) rfl ?_));all_goals try conv=>whnf
 refine zL.objsE [0,1,2] (c1) (by (repeat' first|exact rfl|refine And.intro ?_ ?_|refine ⟨_,rfl,?_⟩)) (by (repeat' first|exact rfl|refine And.intro ?_ ?_|refine ⟨_,rfl,?_⟩)) (by rfl) (by kernel_rfl) (by simp) [(0,some (.box [.own 4,.own 1])),(1,some (.row 1 (zN f s1))),(2,none),(4,some (.row 6 (s1.out.map dNd)))] rfl ?_
 (repeat' ((conv=>whnf);first|refine vA ?_|refine vG ?_|refine vT ?_|refine vN ‹_› ?_|refine yD huy (by (repeat refine ⟨⟨rfl,rfl⟩,?_⟩);rfl) rfl ?_));all_goals try conv=>whnf
 refine zL.objsE [0,1,4] (c2) (by (repeat' first|exact rfl|refine And.intro ?_ ?_|refine ⟨_,rfl,?_⟩)) (by (repeat' first|exact rfl|refine And.intro ?_ ?_|refine ⟨_,rfl,?_⟩)) (by rfl) (by kernel_rfl) (by simp) [(0,some (.box [.own 5,.own 1])),(1,some (.row 1 (zN f s2))),(4,none),(5,some (.row 6 (s2.out.map dNd)))] rfl ?_
 (repeat' ((conv=>whnf);first|refine vA ?_|refine vT ?_));all_goals try conv=>whnf
 refine zL.objsE [0,1,5] (zll (zN f s2) (s2).out ⟨n.op,n.i,n.e,n.g,(r1:Int),(r2:Int)⟩ hl2 p hp _ rfl) (by (repeat' first|exact rfl|refine And.intro ?_ ?_|refine ⟨_,rfl,?_⟩)) (by (repeat' first|exact rfl|refine And.intro ?_ ?_|refine ⟨_,rfl,?_⟩)) (by rfl) (by kernel_rfl) (by simp) [(0,some (.box [.own 6,.own 1])),(1,some (.row 1 (zN f s2))),(5,none),(6,some (.row 6 ((put (s2).out ⟨n.op,n.i,n.e,n.g,(r1:Int),(r2:Int)⟩).2.map dNd)))] rfl ?_
 (repeat' ((conv=>whnf);first|refine vT ?_|(refine vP ?_ ?_;·first|omega|(simp only [vM] at *;omega))|(refine vU ?_ ?_;·kernel_rfl)|fail));all_goals try conv=>whnf
 refine ⟨.int .i64 p,⟨by omega,List.getElem?_set_self hkl⟩,?_⟩
 (repeat' ((conv=>whnf);refine vT ?_));all_goals try conv=>whnf
 refine ⟨trivial,_,[(0,0),(1,1),(3,6)],[],rfl,.inl (by (repeat' exact rfl)),⟨by rfl,by rfl,by rfl,trivial,by (repeat' first|exact trivial|exact rfl|refine And.intro ?_ ?_|refine ⟨_,rfl,?_⟩|exact of_decide_eq_true rfl)⟩,by (repeat' first|exact trivial|exact rfl|refine And.intro ?_ ?_|refine ⟨_,rfl,?_⟩)⟩
theorem zDW {f:List Nd} (hL:f.length≤1000) {k:Nat} {n:Nd} (hn:f[k]? = some n) (hd:(dA f ⟨[],[]⟩)[k]? = some (-1)) (hux:Fn Tryz.prog T zak [.d (.int .i64 n.op)] [] (.d (.bool false)) []) (huy:Fn Tryz.prog T zal [.d (.int .i64 n.op)] [] (.d (.bool false)) []) :
  Fn Tryz.prog T zD [.d (dF f),.d (.int .i64 (k:Int)),.ptr 0 0] [.box [.nils 6,.own 1],.row 1 (zN f ⟨[],[]⟩)] (.d (.int .i64 (0:Int))) [some (.box [.own 2,.own 1]),some (.row 1 ((zN f ⟨[],[]⟩).set k (.int .i64 (0:Int)))),some (.row 6 [dNd n])]:=by
 have hkl:k < ((zN f ⟨[],[]⟩)).length:=by rw [zN,List.length_map];exact (List.getElem?_eq_some_iff.1 hd).1
 have hk0:k < ((zN f ⟨[],[]⟩)).length:=by rw [zN,List.length_map];exact (List.getElem?_eq_some_iff.1 hd).1
 refine zT zp zaJ (by show 3≤67;decide) _ (fun e env mem n h=>h) ?_
 (repeat' ((conv=>whnf);first|refine vA ?_|refine vH ?_|refine vT ?_|refine vN ‹_› ?_|(refine vP ?_ ?_;·omega)|refine yD hux (by (repeat refine ⟨⟨rfl,rfl⟩,?_⟩);rfl) rfl ?_|refine yD huy (by (repeat refine ⟨⟨rfl,rfl⟩,?_⟩);rfl) rfl ?_));all_goals try conv=>whnf
 refine zL.objsE [0,1] (zAS (zN f ⟨[],[]⟩) n) (by (repeat' first|exact rfl|refine And.intro ?_ ?_|refine ⟨_,rfl,?_⟩)) (by (repeat' first|exact rfl|refine And.intro ?_ ?_|refine ⟨_,rfl,?_⟩)) (by rfl) (by kernel_rfl) (by simp) [(0,some (.box [.own 3,.own 1])),(1,some (.row 1 (zN f ⟨[],[]⟩))),(3,some (.row 6 [dNd n]))] rfl ?_
 (repeat' ((conv=>whnf);first|refine vT ?_|(refine vP ?_ ?_;·first|omega|(simp only [vM] at *;omega))|(refine vU ?_ ?_;·kernel_rfl)|fail));all_goals try conv=>whnf
 refine ⟨.int .i64 (0:Int),⟨by omega,List.getElem?_set_self hkl⟩,?_⟩
 (repeat' ((conv=>whnf);refine vT ?_));all_goals try conv=>whnf
 refine ⟨trivial,_,[(0,0),(1,1),(2,3)],[],rfl,.inl (by (repeat' exact rfl)),⟨by rfl,by rfl,by rfl,trivial,by (repeat' first|exact trivial|exact rfl|refine And.intro ?_ ?_|refine ⟨_,rfl,?_⟩|exact of_decide_eq_true rfl)⟩,by (repeat' first|exact trivial|exact rfl|refine And.intro ?_ ?_|refine ⟨_,rfl,?_⟩)⟩
theorem zDX {f:List Nd} (hL:f.length≤1000) {k:Nat} {n:Nd} (hn:f[k]? = some n) (hd:(dA f ⟨[],[]⟩)[k]? = some (-1)) (hux:Fn Tryz.prog T zak [.d (.int .i64 n.op)] [] (.d (.bool true)) []) (huy:Fn Tryz.prog T zal [.d (.int .i64 n.op)] [] (.d (.bool false)) []) {r1:Nat} {s1:FSt} (hl1:s1.out.length≤1000) (c1:Fn Tryz.prog T zD [.d (dF f),.d (.int .i64 n.x),.ptr 0 0] [.box [.nils 6,.own 1],.row 1 (zN f ⟨[],[]⟩)] (.d (.int .i64 (r1:Int))) [some (.box [.own 2,.own 1]),some (.row 1 (zN f s1)),some (.row 6 (s1.out.map dNd))]) (hd1:(dA f s1)[k]? = some (-1)) {p:Int} (hp:p=((put (s1).out ⟨n.op,n.i,n.e,n.g,(r1:Int),n.y⟩).1:Int)) :
  Fn Tryz.prog T zD [.d (dF f),.d (.int .i64 (k:Int)),.ptr 0 0] [.box [.nils 6,.own 1],.row 1 (zN f ⟨[],[]⟩)] (.d (.int .i64 p)) [some (.box [.own 2,.own 1]),some (.row 1 ((zN f s1).set k (.int .i64 p))),some (.row 6 ((put (s1).out ⟨n.op,n.i,n.e,n.g,(r1:Int),n.y⟩).2.map dNd))]:=by
 have hkl:k < ((zN f s1)).length:=by rw [zN,List.length_map];exact (List.getElem?_eq_some_iff.1 hd1).1
 have hk0:k < ((zN f ⟨[],[]⟩)).length:=by rw [zN,List.length_map];exact (List.getElem?_eq_some_iff.1 hd).1
 refine zT zp zaJ (by show 3≤67;decide) _ (fun e env mem n h=>h) ?_
 (repeat' ((conv=>whnf);first|refine vA ?_|refine vG ?_|refine vH ?_|refine vT ?_|refine vN ‹_› ?_|(refine vP ?_ ?_;·omega)|refine yD hux (by (repeat refine ⟨⟨rfl,rfl⟩,?_⟩);rfl) rfl ?_));all_goals try conv=>whnf
 refine zL.objsE [0,1] (c1) (by (repeat' first|exact rfl|refine And.intro ?_ ?_|refine ⟨_,rfl,?_⟩)) (by (repeat' first|exact rfl|refine And.intro ?_ ?_|refine ⟨_,rfl,?_⟩)) (by rfl) (by kernel_rfl) (by simp) [(0,some (.box [.own 3,.own 1])),(1,some (.row 1 (zN f s1))),(3,some (.row 6 (s1.out.map dNd)))] rfl ?_
 (repeat' ((conv=>whnf);first|refine vA ?_|refine vH ?_|refine vT ?_|refine yD huy (by (repeat refine ⟨⟨rfl,rfl⟩,?_⟩);rfl) rfl ?_));all_goals try conv=>whnf
 refine zL.objsE [0,1,3] (zll (zN f s1) (s1).out ⟨n.op,n.i,n.e,n.g,(r1:Int),n.y⟩ hl1 p hp _ rfl) (by (repeat' first|exact rfl|refine And.intro ?_ ?_|refine ⟨_,rfl,?_⟩)) (by (repeat' first|exact rfl|refine And.intro ?_ ?_|refine ⟨_,rfl,?_⟩)) (by rfl) (by kernel_rfl) (by simp) [(0,some (.box [.own 4,.own 1])),(1,some (.row 1 (zN f s1))),(3,none),(4,some (.row 6 ((put (s1).out ⟨n.op,n.i,n.e,n.g,(r1:Int),n.y⟩).2.map dNd)))] rfl ?_
 (repeat' ((conv=>whnf);first|refine vT ?_|(refine vP ?_ ?_;·first|omega|(simp only [vM] at *;omega))|(refine vU ?_ ?_;·kernel_rfl)|fail));all_goals try conv=>whnf
 refine ⟨.int .i64 p,⟨by omega,List.getElem?_set_self hkl⟩,?_⟩
 (repeat' ((conv=>whnf);refine vT ?_));all_goals try conv=>whnf
 refine ⟨trivial,_,[(0,0),(1,1),(2,4)],[],rfl,.inl (by (repeat' exact rfl)),⟨by rfl,by rfl,by rfl,trivial,by (repeat' first|exact trivial|exact rfl|refine And.intro ?_ ?_|refine ⟨_,rfl,?_⟩|exact of_decide_eq_true rfl)⟩,by (repeat' first|exact trivial|exact rfl|refine And.intro ?_ ?_|refine ⟨_,rfl,?_⟩)⟩
theorem zDY {f:List Nd} (hL:f.length≤1000) {k:Nat} {n:Nd} (hn:f[k]? = some n) (hd:(dA f ⟨[],[]⟩)[k]? = some (-1)) (hux:Fn Tryz.prog T zak [.d (.int .i64 n.op)] [] (.d (.bool true)) []) (huy:Fn Tryz.prog T zal [.d (.int .i64 n.op)] [] (.d (.bool true)) []) {r1:Nat} {s1:FSt} (hl1:s1.out.length≤1000) (c1:Fn Tryz.prog T zD [.d (dF f),.d (.int .i64 n.x),.ptr 0 0] [.box [.nils 6,.own 1],.row 1 (zN f ⟨[],[]⟩)] (.d (.int .i64 (r1:Int))) [some (.box [.own 2,.own 1]),some (.row 1 (zN f s1)),some (.row 6 (s1.out.map dNd))]) (hd1:(dA f s1)[k]? = some (-1)) {r2:Nat} {s2:FSt} (hl2:s2.out.length≤1000) (c2:Fn Tryz.prog T zD [.d (dF f),.d (.int .i64 n.y),.ptr 0 0] [.box [.own 2,.own 1],.row 1 (zN f s1),.row 6 ((s1).out.map dNd)] (.d (.int .i64 (r2:Int))) [some (.box [.own 3,.own 1]),some (.row 1 (zN f s2)),none,some (.row 6 (s2.out.map dNd))]) (hd2:(dA f s2)[k]? = some (-1)) {p:Int} (hp:p=((put (s2).out ⟨n.op,n.i,n.e,n.g,(r1:Int),(r2:Int)⟩).1:Int)) :
  Fn Tryz.prog T zD [.d (dF f),.d (.int .i64 (k:Int)),.ptr 0 0] [.box [.nils 6,.own 1],.row 1 (zN f ⟨[],[]⟩)] (.d (.int .i64 p)) [some (.box [.own 2,.own 1]),some (.row 1 ((zN f s2).set k (.int .i64 p))),some (.row 6 ((put (s2).out ⟨n.op,n.i,n.e,n.g,(r1:Int),(r2:Int)⟩).2.map dNd))]:=by
 have hkl:k < ((zN f s2)).length:=by rw [zN,List.length_map];exact (List.getElem?_eq_some_iff.1 hd2).1
 have hk0:k < ((zN f ⟨[],[]⟩)).length:=by rw [zN,List.length_map];exact (List.getElem?_eq_some_iff.1 hd).1
 refine zT zp zaJ (by show 3≤67;decide) _ (fun e env mem n h=>h) ?_
 (repeat' ((conv=>whnf);first|refine vA ?_|refine vG ?_|refine vH ?_|refine vT ?_|refine vN ‹_› ?_|(refine vP ?_ ?_;·omega)|refine yD hux (by (repeat refine ⟨⟨rfl,rfl⟩,?_⟩);rfl) rfl ?_));all_goals try conv=>whnf
 refine zL.objsE [0,1] (c1) (by (repeat' first|exact rfl|refine And.intro ?_ ?_|refine ⟨_,rfl,?_⟩)) (by (repeat' first|exact rfl|refine And.intro ?_ ?_|refine ⟨_,rfl,?_⟩)) (by rfl) (by kernel_rfl) (by simp) [(0,some (.box [.own 3,.own 1])),(1,some (.row 1 (zN f s1))),(3,some (.row 6 (s1.out.map dNd)))] rfl ?_
 (repeat' ((conv=>whnf);first|refine vA ?_|refine vG ?_|refine vT ?_|refine vN ‹_› ?_|refine yD huy (by (repeat refine ⟨⟨rfl,rfl⟩,?_⟩);rfl) rfl ?_));all_goals try conv=>whnf
 refine zL.objsE [0,1,3] (c2) (by (repeat' first|exact rfl|refine And.intro ?_ ?_|refine ⟨_,rfl,?_⟩)) (by (repeat' first|exact rfl|refine And.intro ?_ ?_|refine ⟨_,rfl,?_⟩)) (by rfl) (by kernel_rfl) (by simp) [(0,some (.box [.own 4,.own 1])),(1,some (.row 1 (zN f s2))),(3,none),(4,some (.row 6 (s2.out.map dNd)))] rfl ?_
 (repeat' ((conv=>whnf);first|refine vA ?_|refine vT ?_));all_goals try conv=>whnf
 refine zL.objsE [0,1,4] (zll (zN f s2) (s2).out ⟨n.op,n.i,n.e,n.g,(r1:Int),(r2:Int)⟩ hl2 p hp _ rfl) (by (repeat' first|exact rfl|refine And.intro ?_ ?_|refine ⟨_,rfl,?_⟩)) (by (repeat' first|exact rfl|refine And.intro ?_ ?_|refine ⟨_,rfl,?_⟩)) (by rfl) (by kernel_rfl) (by simp) [(0,some (.box [.own 5,.own 1])),(1,some (.row 1 (zN f s2))),(4,none),(5,some (.row 6 ((put (s2).out ⟨n.op,n.i,n.e,n.g,(r1:Int),(r2:Int)⟩).2.map dNd)))] rfl ?_
 (repeat' ((conv=>whnf);first|refine vT ?_|(refine vP ?_ ?_;·first|omega|(simp only [vM] at *;omega))|(refine vU ?_ ?_;·kernel_rfl)|fail));all_goals try conv=>whnf
 refine ⟨.int .i64 p,⟨by omega,List.getElem?_set_self hkl⟩,?_⟩
 (repeat' ((conv=>whnf);refine vT ?_));all_goals try conv=>whnf
 refine ⟨trivial,_,[(0,0),(1,1),(2,5)],[],rfl,.inl (by (repeat' exact rfl)),⟨by rfl,by rfl,by rfl,trivial,by (repeat' first|exact trivial|exact rfl|refine And.intro ?_ ?_|refine ⟨_,rfl,?_⟩|exact of_decide_eq_true rfl)⟩,by (repeat' first|exact trivial|exact rfl|refine And.intro ?_ ?_|refine ⟨_,rfl,?_⟩)⟩
end Go.Ab
namespace Go.Ab
open Go Go.Proofs
set_option maxRecDepth 10000
set_option maxHeartbeats 4000000
set_option maxHeartbeats 40000000
variable {T:Nat→Obj→Prop}
abbrev rUp (f:List Nd) (s:FSt):List (Option Ob):=[some (.box [.own 3,.own 1]),some (.row 1 (zN f s)),none,some (.row 6 (s.out.map dNd))]
abbrev zye (f:List Nd) (s:FSt):List (Option Ob):=[some (.box [.own 2,.own 1]),some (.row 1 (zN f s)),some (.row 6 (s.out.map dNd))]
theorem zc2 {f:List Nd} {s:FSt} {k:Nat} (hk:k < f.length) (h:s.done.lookup k=none):(dA f s)[k]? = some (-1):=by
 simp [dA,hk,h]
theorem zCj {f:List Nd} {s:FSt} {k r:Nat} (hk:k < f.length) (h:s.done.lookup k=some r):(dA f s)[k]? = some (r:Int):=by
 simp [dA,hk,h]
theorem zhR {f:List Nd} {d:List (Nat×Nat)} {o o':List Nd} {k p:Nat} (hd:d.lookup k=none):zN f ⟨o',d++[(k,p)]⟩=(zN f ⟨o,d⟩).set k (.int .i64 (p:Int)):=by
 show (dA f _).map _=((dA f _).map _).set _ _
 rw [← List.map_set]
 congr 1
 refine List.ext_getElem? fun i=>?_
 rw [List.getElem?_set]
 simp only [dA,List.getElem?_map,List.length_map,List.length_range,List.lookup_append]
 by_cases hi:i < f.length
 ·rw [List.getElem?_range hi]
  by_cases hik:k=i
  ·subst hik
   simp [hd,hi,List.lookup]
  ·simp only [if_neg hik,Option.map_some]
   have:([(k,p)]:List (Nat×Nat)).lookup i=none:=by
    have:(i==k)=false:=by simpa using fun e:i=k=>hik e.symm
    simp [List.lookup,this]
   rw [this,Option.or_none]
 ·rw [show (List.range f.length)[i]? = none by simp;omega]
  split
  ·rw [if_neg (by omega)];rfl
  ·rfl
theorem zCu {f:List Nd} (hf:zao f) (hL:f.length≤1000) : ∀ (m k:Nat) (i:Int) (s:FSt),k < m→i=k→k < f.length→zkO f s →
  Fn Tryz.prog T zD [.d (dF f),.d (.int .i64 i),.ptr 0 0] [.box [.own 2,.own 1],.row 1 (zN f s),.row 6 (s.out.map dNd)] (.d (.int .i64 ((fin f (k+1) k s).1:Int))) (rUp f (fin f (k+1) k s).2):=by
 intro m
 induction m with
 | zero=>intro k i s h;omega
 | succ m ih =>
  intro k i s hk hi hkf hs
  subst hi
  have hl:s.out.length≤1000:=Nat.le_trans (zeJ hs) hL
  cases hd:s.done.lookup k with
  | some r =>
   have e:fin f (k+1) k s=(r,s):=by rw [fin,hd]
   have hfd:=zCj hkf hd
   have hk0:k < (zN f s).length:=by rw [zN,List.length_map];exact (List.getElem?_eq_some_iff.1 hfd).1
   rw [e]
   refine zT zp zaJ (by show 3≤67;decide) _ (fun e env mem n h=>h) ?_
   (repeat' ((conv=>whnf);first|refine vA ?_|refine vG ?_|refine vT ?_|refine vN ‹_› ?_|(refine vP ?_ ?_;·omega)|fail));all_goals try conv=>whnf
   refine ⟨trivial,_,[(0,0),(1,1),(3,2)],[],rfl,.inl (by (repeat' exact rfl)),⟨by rfl,by rfl,by rfl,trivial,by (repeat' first|exact trivial|exact rfl|refine And.intro ?_ ?_|refine ⟨_,rfl,?_⟩|exact of_decide_eq_true rfl)⟩,by (repeat' first|exact trivial|exact rfl|refine And.intro ?_ ?_|refine ⟨_,rfl,?_⟩)⟩
  | none =>
   obtain ⟨n,hn⟩ : ∃ n,f[k]? = some n:=⟨f[k],by simp [hkf]⟩
   have hn':f.getD k default=n:=by simp [List.getD,hn]
   cases hx:zK n.op with
   | false =>
    have hy:zB n.op=false:=by
     cases hy:zB n.op with
     | true=>rw [zX hy] at hx;cases hx
     | false=>rfl
    have hux:=hx▸zd5 (T:=T) n.op
    have huy:=hy▸zcn (T:=T) n.op
    have e:=zrr hf hkf hd (by rw [hn'];exact hx) (by rw [hn'];exact hy)
    rw [hn'] at e
    rw [e]
    simp only [rUp,zhR (o:=s.out) hd]
    exact zDT hL hn hl (zc2 hkf hd) hux huy rfl
   | true =>
    have hux:=hx▸zd5 (T:=T) n.op
    have hxk:=zbj hf hkf (by rw [hn'];exact hx)
    rw [hn'] at hxk
    obtain ⟨i1,d1⟩:=zdd hf hxk.2 (by omega) hs hd
    have c1:=ih n.x.toNat n.x s (by omega) (by omega) (by omega) hs
    cases h1:fin f (n.x.toNat+1) n.x.toNat s with
    | mk r1 s1 =>
    rw [h1] at i1 d1 c1
    simp only at i1 d1 c1
    have l1:s1.out.length≤1000:=Nat.le_trans (zeJ i1) hL
    cases hy:zB n.op with
    | false =>
     have huy:=hy▸zcn (T:=T) n.op
     have e:=zrs hf hkf hd hn' hx hy h1
     rw [e]
     simp only [rUp,zhR (o:=s1.out) d1]
     exact zDU hL hn hl (zc2 hkf hd) hux huy l1 c1 (zc2 hkf d1) rfl
    | true =>
     have huy:=hy▸zcn (T:=T) n.op
     have hyk:=zd1 hf hkf (by rw [hn'];exact hy)
     rw [hn'] at hyk
     obtain ⟨i2,d2⟩:=zdd hf hyk.2 (by omega) i1 d1
     have c2:=ih n.y.toNat n.y s1 (by omega) (by omega) (by omega) i1
     cases h2:fin f (n.y.toNat+1) n.y.toNat s1 with
     | mk r2 s2 =>
     rw [h2] at i2 d2 c2
     simp only at i2 d2 c2
     have l2:s2.out.length≤1000:=Nat.le_trans (zeJ i2) hL
     have e:=zrt hf hkf hd hn' hx hy h1 h2
     rw [e]
     simp only [rUp,zhR (o:=s2.out) d2]
     exact zDV hL hn hl (zc2 hkf hd) hux huy l1 c1 (zc2 hkf d1) l2 c2 (zc2 hkf d2) rfl
theorem zAP {f:List Nd} (hf:zao f) (hL:f.length≤1000) : ∀ (m k:Nat) (i:Int),k < m→i=k→k < f.length →
  Fn Tryz.prog T zD [.d (dF f),.d (.int .i64 i),.ptr 0 0] [.box [.nils 6,.own 1],.row 1 (zN f ⟨[],[]⟩)] (.d (.int .i64 ((fin f (k+1) k ⟨[],[]⟩).1:Int))) (zye f (fin f (k+1) k ⟨[],[]⟩).2):=by
 intro m
 induction m with
 | zero=>intro k i h;omega
 | succ m ih =>
  intro k i hk hi hkf
  subst hi
  have hs:=zsp f
  have hd:(FSt.mk [] []).done.lookup k=none:=rfl
  obtain ⟨n,hn⟩ : ∃ n,f[k]? = some n:=⟨f[k],by simp [hkf]⟩
  have hn':f.getD k default=n:=by simp [List.getD,hn]
  cases hx:zK n.op with
  | false =>
   have hy:zB n.op=false:=by
    cases hy:zB n.op with
    | true=>rw [zX hy] at hx;cases hx
    | false=>rfl
   have hux:=hx▸zd5 (T:=T) n.op
   have huy:=hy▸zcn (T:=T) n.op
   have e:=zrr hf hkf hd (by rw [hn'];exact hx) (by rw [hn'];exact hy)
   rw [hn'] at e
   rw [e]
   simp only [zye,zhR (o:=([]:List Nd)) hd]
   exact zDW hL hn (zc2 hkf hd) hux huy
  | true =>
   have hux:=hx▸zd5 (T:=T) n.op
   have hxk:=zbj hf hkf (by rw [hn'];exact hx)
   rw [hn'] at hxk
   obtain ⟨i1,d1⟩:=zdd hf hxk.2 (by omega) hs hd
   have c1:=ih n.x.toNat n.x (by omega) (by omega) (by omega)
   cases h1:fin f (n.x.toNat+1) n.x.toNat (FSt.mk [] []) with
   | mk r1 s1 =>
   rw [h1] at i1 d1 c1
   simp only at i1 d1 c1
   have l1:s1.out.length≤1000:=Nat.le_trans (zeJ i1) hL
   cases hy:zB n.op with
   | false =>
    have huy:=hy▸zcn (T:=T) n.op
    have e:=zrs hf hkf hd hn' hx hy h1
    rw [e]
    simp only [zye,zhR (o:=s1.out) d1]
    exact zDX hL hn (zc2 hkf hd) hux huy l1 c1 (zc2 hkf d1) rfl
   | true =>
    have huy:=hy▸zcn (T:=T) n.op
    have hyk:=zd1 hf hkf (by rw [hn'];exact hy)
    rw [hn'] at hyk
    obtain ⟨i2,d2⟩:=zdd hf hyk.2 (by omega) i1 d1
    have c2:=zCu (T:=T) hf hL (n.y.toNat+1) n.y.toNat n.y s1 (by omega) (by omega) (by omega) i1
    cases h2:fin f (n.y.toNat+1) n.y.toNat s1 with
    | mk r2 s2 =>
    rw [h2] at i2 d2 c2
    simp only at i2 d2 c2
    have l2:s2.out.length≤1000:=Nat.le_trans (zeJ i2) hL
    have e:=zrt hf hkf hd hn' hx hy h1 h2
    rw [e]
    simp only [zye,zhR (o:=s2.out) d2]
    exact zDY hL hn (zc2 hkf hd) hux huy l1 c1 (zc2 hkf d1) l2 c2 (zc2 hkf d2) rfl
end Go.Ab
namespace Go.Ab
open Go Go.Proofs
set_option maxRecDepth 10000
set_option maxHeartbeats 4000000
variable {T:Nat→Obj→Prop}
theorem zDk (f:List Nd):zN f ⟨[],[]⟩=List.replicate f.length (.int .i64 (-1)):=by
 show (dA f _).map _=_
 refine List.eq_replicate_iff.2 ⟨by simp [dA],fun b hb=>?_⟩
 simp [dA,List.lookup] at hb
 exact hb.2.symm
theorem zCw (f:List Nd) (i:Int):Fn Tryz.prog T ze9 [.d (dF f),.d (.int .i64 i)] [] (.d (dF (zht f i))) []:=by
 refine zd zp zoH (by show 2≤45;decide) ?_
 (repeat' ((conv=>whnf);first|refine vA ?_|((first|refine vD ?_ ?_|refine vF ?_ ?_)<;>intro hc<;>try simp only [vL] at hc)|refine vJ fun hg=>?_|refine vT ?_|refine yD (ziw _) ⟨⟨rfl,rfl⟩,rfl⟩ rfl ?_));all_goals try conv=>whnf
 ·have hp:zht f i=[]:=if_pos (.inl ‹_›)
  rw [hp];rfl
 ·have hp:zht f i=[]:=if_pos (.inr (.inl ‹_›))
  rw [hp];rfl
 ·have hp:zht f i=[]:=if_pos (.inr (.inr (by omega)))
  rw [hp];rfl
 ·have h0:zaX f=0:=by omega
  have h1:=zdN.1 h0
  have hp:zht f i=zbl f i.toNat:=if_neg (by omega)
  rw [hp]
  refine zt (fun ((k,xs):Nat×List D)=>[(0,.d (dF f)),(1,.d (.int .i64 (i))),(5,.ptr 0 0),(6,.d (.int .i64 ((k:Int))))]) (fun ((k,xs):Nat×List D)=>[(0,some (.box [.nils 6,.own 1])),(1,some (.row 1 xs))]) 2 (fun ((k,xs):Nat×List D)=>k≤f.length∧xs=List.replicate k (.int .i64 (-1))) (fun ((k,xs):Nat×List D)=>f.length - k) ((0,[])) [(0,0)] [1] (⟨by simp,rfl⟩) (by (refine ⟨rfl,rfl,rfl,?_,?_⟩;repeat' first|exact trivial|exact rfl|exact ⟨_,rfl⟩|refine And.intro ?_ ?_|refine ⟨_,rfl,?_⟩|decide)) ?_
  rintro ⟨k,xs⟩ ⟨hk,hI⟩
  have hlx:xs.length≤1000:=by rw [hI,List.length_replicate];omega
  (repeat' ((conv=>whnf);first|refine vA ?_|(refine vF ?_ ?_<;>intro hc<;>try simp only [vL] at hc)|refine vJ fun hg=>?_|refine vT ?_|((first|refine vO ?_ ?_|refine vP ?_ ?_);·first|omega|(simp only [vM] at *;omega))|fail));all_goals try conv=>whnf
  ·refine ⟨(k+1,_),[(0,0),(1,3)],[],?_,?_,by (refine ⟨rfl,rfl,rfl,?_,?_⟩;repeat' first|exact trivial|exact rfl|refine And.intro ?_ ?_|refine ⟨_,rfl,?_⟩|decide)⟩
   ·exact ⟨by (omega),by rw [hI];exact List.replicate_succ'.symm⟩
   ·((simp only [vM] at *;omega))
  ·have hk:k=f.length:=by omega
   subst hk
   rw [← zDk] at hI
   subst hI
   have c:=zAP (T:=T) h1.2.2 (by omega) (i.toNat+1) i.toNat i (by omega) (by omega) (by omega)
   refine zL.objs [0,1] (c) (by (repeat' first|exact rfl|refine And.intro ?_ ?_|refine ⟨_,rfl,?_⟩)) (by (repeat' first|exact rfl|refine And.intro ?_ ?_|refine ⟨_,rfl,?_⟩)) (by rfl) (by rfl) (by simp) ?_
   (repeat' ((conv=>whnf);refine vT ?_));all_goals try conv=>whnf
   rfl
theorem zfX (f:List Nd):Fn Tryz.prog T zdr [.d (dF f)] [] (.d (dF (cL f))) []:=by
 refine zd zp zkU (by show 1≤8;decide) ?_
 (repeat' ((conv=>whnf);first|refine vJ fun hg=>?_|refine vT ?_|(refine vO ?_ ?_;·(simp only [vM] at *;omega))|fail));all_goals try conv=>whnf
 have cC:=zCw (T:=T) f (((f.map dNd).length:Int) - 1)
 rw [show zht f (((f.map dNd).length:Int) - 1)=cL f by rw [List.length_map,zz8]] at cC
 (repeat' ((conv=>whnf);first|refine vT ?_|refine yN cC ⟨⟨rfl,rfl⟩,⟨rfl,rfl⟩,rfl⟩ ?_));all_goals try conv=>whnf
 rfl
theorem zAQ (op:Int) (h0:op≤21):Fn Tryz.prog T zeQ [.d (.int .i64 op)] [] (.d (.int .i64 (zaH op))) []:=by
 by_cases h:1≤op
 ·have:op=1∨op=2∨op=3∨op=4∨op=5∨op=6∨op=7∨op=8∨op=9∨op=10∨op=11∨op=12∨op=13∨op=14∨op=15∨op=16∨op=17∨op=18∨op=19∨op=20∨op=21:=by omega
  clear h h0
  rcases this with rfl|rfl|rfl|rfl|rfl|rfl|rfl|rfl|rfl|rfl|rfl|rfl|rfl|rfl|rfl|rfl|rfl|rfl|rfl|rfl|rfl
  all_goals refine zd zp zhz (by show 1≤21;decide) ?_
  all_goals (repeat' ((conv=>whnf);first|refine zP.decN (by omega) ?_|refine zP.decY (by omega) ?_|refine vA ?_|refine vT ?_|((first|refine vO ?_ ?_|refine vP ?_ ?_);·omega)|refine vX ?_));all_goals try conv=>whnf
  all_goals try refine vW (show inR _ _ from ⟨by decide,by decide⟩) ?_
  all_goals try (repeat' ((conv=>whnf);first|refine vT ?_|refine vX ?_));all_goals try conv=>whnf
  all_goals first|rfl|kernel_rfl|skip
 ·refine zd zp zhz (by show 1≤21;decide) ?_
  (repeat' ((conv=>whnf);first|refine zP.decN (by omega) ?_|refine vA ?_|refine vT ?_|refine vX ?_));all_goals try conv=>whnf
  have e8:zaH op=0:=by unfold zaH; (repeat' rw [if_neg (by omega)])
  rw [e8]
  first|rfl|skip
theorem zB2 {n:Nd} (h:zdn n.hd):1≤n.op∧n.op≤21:=of_decide_eq_true h.op
theorem zs4 (f:List Nd):Fn Tryz.prog T zem [.d (dF f)] [] (.d (.int .i64 (uni zai (cL f):Int))) []:=by
 have hlen:=zj2 f
 have hlt : ∀ n∈cL f,zai n.hd < 2 ^ 9:=fun n hn=>zh4 n.hd
 refine zd zp zmS (by show 1≤23;decide) ?_
 (repeat' ((conv=>whnf);first|refine vA ?_|refine vT ?_|refine yN (zfX _) ⟨⟨rfl,rfl⟩,rfl⟩ ?_));all_goals try conv=>whnf
 refine z1 (fun ((k,x):Nat×Int)=>[(3,.d (dF (cL f))),(4,.d (.int .i64 (x))),(5,.d (.int .i64 ((k:Int))))]) (fun ((k,x):Nat×Int)=>k≤(cL f).length∧x=(uni zai ((cL f).take k):Nat)) (fun ((k,x):Nat×Int)=>(cL f).length - k) ((0,0)) (⟨by simp,rfl⟩) (by (repeat' first|exact trivial|exact rfl|refine And.intro ?_ ?_)) ?_
 rintro ⟨k,x⟩ ⟨hk,hI⟩
 subst hI
 (repeat' ((conv=>whnf);first|refine vA ?_|(refine vF ?_ ?_<;>intro hc<;>try simp only [vL] at hc)|refine vJ fun hg=>?_|refine vT ?_|(refine vQ ?_ fun x hx=>?_;·omega)|refine vX ?_));all_goals try conv=>whnf
 ·have hh:=ziq (List.mem_of_getElem? hx)
  (repeat' ((conv=>whnf);first|refine vT ?_|(refine vO ?_ ?_;·omega)|refine yD (zAQ _ (zB2 hh).2) ⟨⟨rfl,rfl⟩,rfl⟩ rfl ?_));all_goals try conv=>whnf
  refine ⟨(k+1,_),[],[],?_,?_,by (refine ⟨rfl,rfl,rfl,?_,?_⟩;repeat' first|exact trivial|exact rfl|refine And.intro ?_ ?_)⟩
  ·refine ⟨by (omega),?_⟩
   rw [zkn zai hx]
   have e:=zxY (x.hd)
   show zbI .i64 (fun p q=>p|||q) _ (zaH x.hd.op)=_
   rw [← e]
   exact zhN (Nat.lt_trans (zv2 zai f hlt k) (by decide)) (Nat.lt_trans (zh4 x.hd) (by decide))
  ·((simp only [vM] at *;omega))
 ·rw [show k=(cL f).length by omega,List.take_length]
theorem zy1 (f:List Nd):Fn Tryz.prog T zel [.d (dF f)] [] (.d (.int .i64 (uni zbp (cL f):Int))) []:=by
 have hlen:=zj2 f
 have hlt : ∀ n∈cL f,zbp n.hd < 2 ^ 8:=fun n hn=>zqw (ziq hn)
 refine zd zp zmR (by show 1≤29;decide) ?_
 (repeat' ((conv=>whnf);first|refine vA ?_|refine vT ?_|refine yN (zfX _) ⟨⟨rfl,rfl⟩,rfl⟩ ?_));all_goals try conv=>whnf
 refine z1 (fun ((k,x):Nat×Int)=>[(3,.d (dF (cL f))),(4,.d (.int .i64 (x))),(5,.d (.int .i64 ((k:Int))))]) (fun ((k,x):Nat×Int)=>k≤(cL f).length∧x=(uni zbp ((cL f).take k):Nat)) (fun ((k,x):Nat×Int)=>(cL f).length - k) ((0,0)) (⟨by simp,rfl⟩) (by (repeat' first|exact trivial|exact rfl|refine And.intro ?_ ?_)) ?_
 rintro ⟨k,x⟩ ⟨hk,hI⟩
 subst hI
 by_cases hkl:k < (cL f).length
 ·have hx:=List.getElem?_eq_getElem hkl
  have hh:=ziq (List.mem_of_getElem? hx)
  generalize hn:(cL f)[k]=n at hx hh
  by_cases hf:n.op=3
  ·have hf':z2 n.op=true:=decide_eq_true hf
   obtain ⟨h0,h7⟩:0≤n.i∧n.i≤7:=hh.fact hf'
   obtain ⟨h1,h2⟩:=zkK h0 h7
   have e:((zbp n.hd:Nat):Int)=1 * 2 ^ min n.i.toNat IntKind.i64.bits:=by rw [zbp,if_pos (by exact hf')];exact h2
   (repeat' ((conv=>whnf);first|refine vA ?_|(refine vF ?_ ?_<;>intro hc<;>try simp only [vL] at hc)|refine vJ fun hg=>?_|refine vT ?_|refine vN ‹_› ?_|((first|refine vO ?_ ?_|refine vP ?_ ?_);·omega)|refine vX ?_));all_goals try conv=>whnf
   all_goals try omega
   refine ⟨(k+1,_),[],[],?_,?_,by (refine ⟨rfl,rfl,rfl,?_,?_⟩;repeat' first|exact trivial|exact rfl|refine And.intro ?_ ?_)⟩
   ·refine ⟨by (omega),?_⟩
    rw [zkn zbp hx,← e]
    exact zhN (Nat.lt_trans (zv2 zbp f hlt k) (by decide)) (Nat.lt_trans (zqw hh) (by decide))
   ·((simp only [vM] at *;omega))
  ·have e:zbp n.hd=0:=by rw [zbp,if_neg (by simp [Nd.hd,z2,hf])]
   (repeat' ((conv=>whnf);first|refine vA ?_|(refine vF ?_ ?_<;>intro hc<;>try simp only [vL] at hc)|refine vJ fun hg=>?_|refine vT ?_|refine vN ‹_› ?_|((first|refine vO ?_ ?_|refine vP ?_ ?_);·omega)|refine vX ?_));all_goals try conv=>whnf
   all_goals try omega
   refine ⟨(k+1,_),[],[],?_,?_,by (refine ⟨rfl,rfl,rfl,?_,?_⟩;repeat' first|exact trivial|exact rfl|refine And.intro ?_ ?_)⟩
   ·refine ⟨by (omega),?_⟩
    rw [zkn zbp hx,e,Nat.or_zero]
   ·((simp only [vM] at *;omega))
 ·(repeat' ((conv=>whnf);first|refine vA ?_|(refine vF ?_ ?_<;>intro hc<;>try simp only [vL] at hc)|refine vJ fun hg=>?_|refine vT ?_|refine vN ‹_› ?_|(refine vQ ?_ fun x hx=>?_;·omega)|((first|refine vO ?_ ?_|refine vP ?_ ?_);·omega)|refine vX ?_));all_goals try conv=>whnf
  all_goals try omega
  rw [show k=(cL f).length by omega,List.take_length]
theorem zxS (f:List Nd):Fn Tryz.prog T zdP [.d (dF f)] [] (.d (.int .i64 (uni zaz (cL f):Int))) []:=by
 have hlen:=zj2 f
 have hlt : ∀ n∈cL f,zaz n.hd < 2 ^ 4:=fun n hn=>zn1 (ziq hn)
 refine zd zp zlt (by show 1≤36;decide) ?_
 (repeat' ((conv=>whnf);first|refine vA ?_|refine vT ?_|refine yN (zfX _) ⟨⟨rfl,rfl⟩,rfl⟩ ?_));all_goals try conv=>whnf
 refine z1 (fun ((k,x):Nat×Int)=>[(3,.d (dF (cL f))),(4,.d (.int .i64 (x))),(5,.d (.int .i64 ((k:Int))))]) (fun ((k,x):Nat×Int)=>k≤(cL f).length∧x=(uni zaz ((cL f).take k):Nat)) (fun ((k,x):Nat×Int)=>(cL f).length - k) ((0,0)) (⟨by simp,rfl⟩) (by (repeat' first|exact trivial|exact rfl|refine And.intro ?_ ?_)) ?_
 rintro ⟨k,x⟩ ⟨hk,hI⟩
 subst hI
 by_cases hkl:k < (cL f).length
 ·have hx:=List.getElem?_eq_getElem hkl
  have hh:=ziq (List.mem_of_getElem? hx)
  generalize hn:(cL f)[k]=n at hx hh
  have hu:=Nat.lt_trans (zv2 zaz f hlt k) (show 2 ^ 4 < 2 ^ 63 by decide)
  have hgl:=Nat.lt_trans (zn1 hh) (show 2 ^ 4 < 2 ^ 63 by decide)
  cases hf:zH n.op with
  | true =>
   have hag:=hf▸zoq (T:=T) n.op
   obtain ⟨h0,h7⟩:0≤n.i∧n.i≤3:=hh.agent hf
   obtain ⟨h1,h2⟩:=zkK h0 (by omega)
   have e:((zaz n.hd:Nat):Int)=1 * 2 ^ min n.i.toNat IntKind.i64.bits:=by rw [zaz,if_pos (by exact hf)];exact h2
   have hg0:n.g=0:=by
    have h3:zO n.op=false:=by simp only [zH,zO,decide_eq_true_eq,decide_eq_false_iff_not] at hf ⊢;omega
    exact hh.g0 h3
   (repeat' ((conv=>whnf);first|refine vA ?_|refine vG ?_|(refine vF ?_ ?_<;>intro hc<;>try simp only [vL] at hc)|refine vJ fun hg=>?_|refine vT ?_|refine vN ‹_› ?_|((first|refine vO ?_ ?_|refine vP ?_ ?_);·omega)|refine vX ?_|refine yD hag (by (repeat refine ⟨⟨rfl,rfl⟩,?_⟩);rfl) rfl ?_));all_goals try conv=>whnf
   all_goals try omega
   refine ⟨(k+1,_),[],[],?_,?_,by (refine ⟨rfl,rfl,rfl,?_,?_⟩;repeat' first|exact trivial|exact rfl|refine And.intro ?_ ?_)⟩
   ·refine ⟨by (omega),?_⟩
    rw [zkn zaz hx,← e,hg0,zhN hu hgl]
    have:=zhN (a:=uni zaz ((cL f).take k)|||zaz n.hd) (b:=0) (Nat.or_lt_two_pow hu hgl) (by decide)
    rw [Nat.or_zero] at this
    exact this
   ·((simp only [vM] at *;omega))
  | false =>
   have hag:=hf▸zoq (T:=T) n.op
   have h0:0≤n.g:=by
    cases hg:zO n.op with
    | true=>have:1≤n.g∧n.g≤15:=hh.group hg;omega
    | false=>have:n.g=0:=hh.g0 hg;omega
   have e:((zaz n.hd:Nat):Int)=n.g:=by rw [zaz,if_neg (by simp [Nd.hd,hf])];exact Int.toNat_of_nonneg h0
   (repeat' ((conv=>whnf);first|refine vA ?_|refine vH ?_|(refine vF ?_ ?_<;>intro hc<;>try simp only [vL] at hc)|refine vJ fun hg=>?_|refine vT ?_|refine vN ‹_› ?_|(refine vO ?_ ?_;·omega)|refine vX ?_|refine yD hag (by (repeat refine ⟨⟨rfl,rfl⟩,?_⟩);rfl) rfl ?_));all_goals try conv=>whnf
   all_goals try omega
   refine ⟨(k+1,_),[],[],?_,?_,by (refine ⟨rfl,rfl,rfl,?_,?_⟩;repeat' first|exact trivial|exact rfl|refine And.intro ?_ ?_)⟩
   ·refine ⟨by (omega),?_⟩
    rw [zkn zaz hx,← e,zhN hu hgl]
   ·((simp only [vM] at *;omega))
 ·(repeat' ((conv=>whnf);first|refine vA ?_|(refine vF ?_ ?_<;>intro hc<;>try simp only [vL] at hc)|refine vJ fun hg=>?_|refine vT ?_|(refine vQ ?_ fun x hx=>?_;·omega)|refine vX ?_));all_goals try conv=>whnf
  all_goals try omega
  rw [show k=(cL f).length by omega,List.take_length]
theorem zjD {m k:Nat} (hk:k≤64):((m:Int).fdiv (2 ^ min (k:Int).toNat IntKind.i64.bits)).tmod 2=1↔m.testBit k=true:=by
 rw [show min (k:Int).toNat IntKind.i64.bits=k from Nat.min_eq_left hk,zCZ,Nat.shiftRight_eq_div_pow,Nat.testBit_eq_decide_div_mod_eq,decide_eq_true_eq]
 generalize m / 2 ^ k=a
 rw [Int.tmod_eq_emod_of_nonneg (Int.natCast_nonneg a)]
 omega
theorem zkw {m b:Nat} {n:Int} (hm:m < 2 ^ b) (hb:b≤31):ziF m n=true ↔ ∀ i,i < b→m.testBit i=true→(i:Int) < n:=by
 unfold ziF
 rw [decide_eq_true_eq]
 constructor
 ·rintro (h|h) i hi ht
  ·omega
  ·refine Classical.byContradiction fun hn=>?_
   rw [Nat.testBit_lt_two_pow (Nat.lt_of_lt_of_le h (Nat.pow_le_pow_right (by omega) (by omega)))] at ht
   cases ht
 ·intro h
  by_cases hn:31≤n
  ·exact .inl hn
  ·refine .inr (Nat.lt_pow_two_of_testBit _ fun i hi=>?_)
   by_cases hib:i < b
   ·refine Bool.eq_false_iff.2 fun ht=>?_
    have:=h i hib ht
    omega
   ·exact Nat.testBit_lt_two_pow (Nat.lt_of_lt_of_le hm (Nat.pow_le_pow_right (by omega) (by omega)))
theorem zve (f:List Nd) (agents facts:Int):Fn Tryz.prog T zeP [.d (dF f),.d (.int .i64 agents),.d (.int .i64 facts)] [] (.d (.bool (zfu f agents facts))) []:=by
 have hA:uni zaz (cL f) < 2 ^ 4:=(zfq zaz).2 fun n hn=>zn1 (ziq hn)
 have hF:uni zbp (cL f) < 2 ^ 8:=(zfq zbp).2 fun n hn=>zqw (ziq hn)
 refine zd zp znQ (by show 3≤42;decide) ?_
 (repeat' ((conv=>whnf);first|refine vA ?_|(refine vD ?_ ?_<;>intro hc)|refine vT ?_|refine vZ ?_|refine yD (ziw _) ⟨⟨rfl,rfl⟩,rfl⟩ rfl ?_));all_goals try conv=>whnf
 ·simp_all [zfu]
 ·have h0:zaX f=0:=by omega
  refine z1 (fun (k:Nat)=>[(0,.d (dF f)),(1,.d (.int .i64 (agents))),(2,.d (.int .i64 (facts))),(7,.d (.int .i64 ((k:Int))))]) (fun (k:Nat)=>k≤4 ∧ ∀ i,i < k→(uni zaz (cL f)).testBit i=true→(i:Int) < agents) (fun (k:Nat)=>4 - k) (0) (⟨by omega,by omega⟩) (by (repeat' first|exact trivial|exact rfl|refine And.intro ?_ ?_)) ?_
  rintro k ⟨hk,hI⟩
  (repeat' ((conv=>whnf);first|refine vA ?_|(refine vF ?_ ?_<;>intro hc<;>try simp only [vL] at hc)|refine vT ?_|((first|refine vO ?_ ?_|refine vP ?_ ?_);·omega)|refine vZ ?_|refine yD (zxS _) ⟨⟨rfl,rfl⟩,rfl⟩ rfl ?_));all_goals try conv=>whnf
  ·have hb:=(zjD (m:=uni zaz (cL f)) (k:=k) (by omega)).1 ‹_›
   refine (Bool.eq_false_iff.2 fun h=>?_).symm
   simp only [zfu,Bool.and_eq_true] at h
   have:=(zkw hA (by omega)).1 h.1.2 k (by omega) hb
   omega
  ·exact ⟨k+1,[],[],⟨by (omega),fun i hi ht=>by
    by_cases h:i=k
    ·subst h;omega
    ·exact hI i (by omega) ht⟩,by (omega),by (refine ⟨rfl,rfl,rfl,?_,?_⟩;repeat' first|exact trivial|exact rfl|refine And.intro ?_ ?_)⟩
  ·have hb : ¬_:=fun h=>‹¬Int.tmod _ 2=1› ((zjD (m:=uni zaz (cL f)) (k:=k) (by omega)).2 h)
   exact ⟨k+1,[],[],⟨by (omega),fun i hi ht=>by
    by_cases h:i=k
    ·subst h;exact absurd ht hb
    ·exact hI i (by omega) ht⟩,by (omega),by (refine ⟨rfl,rfl,rfl,?_,?_⟩;repeat' first|exact trivial|exact rfl|refine And.intro ?_ ?_)⟩
  ·have hA1:ziF (uni zaz (cL f)) agents=true:=(zkw hA (by omega)).2 fun i hi=>hI i (by omega)
   refine z1 (fun (k:Nat)=>[(0,.d (dF f)),(2,.d (.int .i64 (facts))),(8,.d (.int .i64 ((k:Int))))]) (fun (k:Nat)=>k≤8 ∧ ∀ i,i < k→(uni zbp (cL f)).testBit i=true→(i:Int) < facts) (fun (k:Nat)=>8 - k) (0) (⟨by omega,by omega⟩) (by (repeat' first|exact trivial|exact rfl|refine And.intro ?_ ?_)) ?_
   clear hI
   rintro k ⟨hk,hI⟩
   (repeat' ((conv=>whnf);first|refine vA ?_|(refine vF ?_ ?_<;>intro hc<;>try simp only [vL] at hc)|refine vT ?_|((first|refine vO ?_ ?_|refine vP ?_ ?_);·omega)|refine vZ ?_|refine yD (zy1 _) ⟨⟨rfl,rfl⟩,rfl⟩ rfl ?_));all_goals try conv=>whnf
   ·have hb:=(zjD (m:=uni zbp (cL f)) (k:=k) (by omega)).1 ‹_›
    refine (Bool.eq_false_iff.2 fun h=>?_).symm
    simp only [zfu,Bool.and_eq_true] at h
    have:=(zkw hF (by omega)).1 h.2 k (by omega) hb
    omega
   ·exact ⟨k+1,[],[],⟨by (omega),fun i hi ht=>by
     by_cases h:i=k
     ·subst h;omega
     ·exact hI i (by omega) ht⟩,by (omega),by (refine ⟨rfl,rfl,rfl,?_,?_⟩;repeat' first|exact trivial|exact rfl|refine And.intro ?_ ?_)⟩
   ·have hb : ¬_:=fun h=>‹¬Int.tmod _ 2=1› ((zjD (m:=uni zbp (cL f)) (k:=k) (by omega)).2 h)
    exact ⟨k+1,[],[],⟨by (omega),fun i hi ht=>by
     by_cases h:i=k
     ·subst h;exact absurd ht hb
     ·exact hI i (by omega) ht⟩,by (omega),by (refine ⟨rfl,rfl,rfl,?_,?_⟩;repeat' first|exact trivial|exact rfl|refine And.intro ?_ ?_)⟩
   ·have hF1:ziF (uni zbp (cL f)) facts=true:=(zkw hF (by omega)).2 fun i hi=>hI i (by omega)
    simp [zfu,hA1,hF1,h0]
end Go.Ab
namespace Go.Ab
open Go Go.Proofs
set_option maxRecDepth 10000
set_option maxHeartbeats 4000000
variable {T:Nat→Obj→Prop}
theorem zs1 (l:List (BitVec 64)) (n:Int) (h:0≤n):Fn Tryz.prog T zdQ [.d (dU l),.d (.int .i64 n)] [] (.d (.bool (l.any (bad n)))) []:=by
 refine zd zp zlu (by show 2≤20;decide) ?_
 (repeat' ((conv=>whnf);first|refine vA ?_|refine vT ?_));all_goals try conv=>whnf
 refine z1 (fun (k:Nat)=>[(0,.d (dU l)),(1,.d (.int .i64 (n))),(5,.d (.int .i64 ((k:Int))))]) (fun (k:Nat)=>k≤l.length∧l.any (bad n)=(l.drop k).any (bad n)) (fun (k:Nat)=>l.length - k) (0) (⟨by simp,rfl⟩) (by (repeat' first|exact trivial|exact rfl|refine And.intro ?_ ?_)) ?_
 rintro k ⟨hk,hI⟩
 (repeat' ((conv=>whnf);first|refine vA ?_|((first|refine vD ?_ ?_|refine vF ?_ ?_)<;>intro hc<;>try simp only [vL] at hc)|refine vJ fun hg=>?_|refine vT ?_|(refine vQ ?_ fun x hx=>?_;·omega)|(refine vO ?_ ?_;·omega)|(refine vU ?_ ?_;·kernel_rfl)|refine vZ ?_|refine yD (zkb n h) ⟨⟨rfl,rfl⟩,rfl⟩ rfl ?_));all_goals try conv=>whnf
 ·rw [hI,zap hx,List.any_cons,show bad n x=true from decide_eq_true ‹_›];rfl
 ·exact ⟨k+1,[],[],⟨by (omega),by rw [hI,zap hx,List.any_cons,show bad n x=false from decide_eq_false (by simpa using ‹x &&& ~~~zaQ n=0#64›)];rfl⟩,by (omega),by (refine ⟨rfl,rfl,rfl,?_,?_⟩;repeat' first|exact trivial|exact rfl|refine And.intro ?_ ?_)⟩
 ·rw [hI,List.drop_eq_nil_of_le (by omega)];rfl
def zbs (m:KM):Int :=
 if m.W < 1∨64 < m.W then 2 else if 4 < m.rel.length∨8 < m.val.length then 8 else if m.rel.any (fun r=>decide ((r.length:Int)≠m.W)) then 3 else if m.val.any (bad m.W) then 2 else if m.rel.any (fun r=>r.any (bad m.W)) then 2 else 0
structure zBT (m:KM):Prop where
 w1:1≤m.W
 w2:m.W≤64
 n4:m.rel.length≤4
 v8:m.val.length≤8
 len : ∀ r∈m.rel,(r.length:Int)=m.W
 val : ∀ s∈m.val,bad m.W s=false
 rel : ∀ r∈m.rel,∀ s∈r,bad m.W s=false
theorem zp5 {m:KM} (h:zbs m=0):zBT m:=by
 unfold zbs at h
 split at h
 ·cases h
 ·split at h
  ·cases h
  ·split at h
   ·cases h
   ·split at h
    ·cases h
    ·split at h
     ·cases h
     ·rename_i h1 h2 h3 h4 h5
      refine ⟨by omega,by omega,by omega,by omega,fun r hr=>?_,fun s hs=>?_,fun r hr s hs=>?_⟩
      ·simp only [List.any_eq_true,not_exists,not_and] at h3;simpa using h3 r hr
      ·simp only [List.any_eq_true,not_exists,not_and] at h4;simpa using h4 s hs
      ·simp only [List.any_eq_true,not_exists,not_and] at h5;simpa using h5 r hr s hs
theorem zoo (m:KM):Fn Tryz.prog T zen [.d (dKM m)] [] (.d (.int .i64 (zbs m))) []:=by
 refine zd zp zmX (by show 1≤59;decide) ?_
 (repeat' ((conv=>whnf);first|refine vA ?_|(refine vF ?_ ?_<;>intro hc<;>try simp only [vL] at hc)|refine vJ fun hg=>?_|refine vT ?_|refine vX ?_));all_goals try conv=>whnf
 ·rw [zbs,if_pos (by omega)]
 ·rw [zbs,if_pos (by omega)]
 ·rw [zbs,if_neg (by omega),if_pos (by omega)]
 ·rw [zbs,if_neg (by omega),if_pos (by omega)]
 ·have e0:zbs m=if m.rel.any (fun r=>decide ((r.length:Int)≠m.W)) then 3 else if m.val.any (bad m.W) then 2 else if m.rel.any (fun r=>r.any (bad m.W)) then 2 else 0:=by rw [zbs,if_neg (by omega),if_neg (by omega)]
  refine zt (fun (k:Nat)=>[(1,.ptr 0 0),(3,.d (.int .i64 ((k:Int))))]) (fun (k:Nat)=>[(0,some (zmj m))]) 1 (fun (k:Nat)=>k≤m.rel.length∧m.rel.any (fun r=>decide ((r.length:Int)≠m.W))=(m.rel.drop k).any (fun r=>decide ((r.length:Int)≠m.W))) (fun (k:Nat)=>m.rel.length - k) (0) [(0,0)] [] (⟨by simp,rfl⟩) (by (refine ⟨rfl,rfl,rfl,?_,?_⟩;repeat' first|exact trivial|exact rfl|refine And.intro ?_ ?_|refine ⟨_,rfl,?_⟩|decide)) ?_
  rintro k ⟨hk,hI⟩
  (repeat' ((conv=>whnf);first|refine vA ?_|((first|refine vD ?_ ?_|refine vF ?_ ?_)<;>intro hc<;>try simp only [vL] at hc)|refine vJ fun hg=>?_|refine vT ?_|(refine vQ ?_ fun x hx=>?_;·omega)|(refine vO ?_ ?_;·omega)|(refine vU ?_ ?_;·kernel_rfl)|refine vX ?_));all_goals try conv=>whnf
  ·rw [e0,if_pos (by rw [hI,zap hx,List.any_cons,decide_eq_true (by simpa using ‹_›)];rfl)]
  ·exact ⟨k+1,[(0,0)],[],⟨by (omega),by rw [hI,zap hx,List.any_cons,decide_eq_false (by simpa using ‹_›)];rfl⟩,by (omega),by (refine ⟨rfl,rfl,rfl,?_,?_⟩;repeat' first|exact trivial|exact rfl|refine And.intro ?_ ?_|refine ⟨_,rfl,?_⟩|decide)⟩
  ·have h1:m.rel.any (fun r=>decide ((r.length:Int)≠m.W))=false:=by rw [hI,List.drop_eq_nil_of_le (by omega)];rfl
   rw [h1,if_neg (by decide)] at e0
   (repeat' ((conv=>whnf);first|refine vA ?_|(refine vI ?_ ?_<;>intro hc)|refine vT ?_|refine vX ?_|refine yD (zs1 _ m.W (by omega)) ⟨⟨rfl,rfl⟩,⟨rfl,rfl⟩,rfl⟩ rfl ?_));all_goals try conv=>whnf
   ·rw [e0,if_pos ‹_›]
   ·rw [show m.val.any (bad m.W)=false from ‹_›,if_neg (by decide)] at e0
    refine zt (fun (k:Nat)=>[(1,.ptr 0 0),(4,.d (.int .i64 ((k:Int))))]) (fun (k:Nat)=>[(0,some (zmj m))]) 1 (fun (k:Nat)=>k≤m.rel.length∧m.rel.any (fun r=>r.any (bad m.W))=(m.rel.drop k).any (fun r=>r.any (bad m.W))) (fun (k:Nat)=>m.rel.length - k) (0) [(0,0)] [] (⟨by simp,rfl⟩) (by (refine ⟨rfl,rfl,rfl,?_,?_⟩;repeat' first|exact trivial|exact rfl|refine And.intro ?_ ?_|refine ⟨_,rfl,?_⟩|decide)) ?_
    clear hI hk
    rintro k ⟨hk,hI⟩
    (repeat' ((conv=>whnf);first|refine vA ?_|((first|refine vF ?_ ?_|refine vI ?_ ?_)<;>intro hc<;>try simp only [vL] at hc)|refine vJ fun hg=>?_|refine vT ?_|(refine vQ ?_ fun x hx=>?_;·omega)|(refine vO ?_ ?_;·omega)|(refine vU ?_ ?_;·kernel_rfl)|refine vX ?_|refine yD (zs1 _ m.W (by omega)) ⟨⟨rfl,rfl⟩,⟨rfl,rfl⟩,rfl⟩ rfl ?_));all_goals try conv=>whnf
    ·rw [e0,if_pos (by rw [hI,zap hx,List.any_cons,show x.any (bad m.W)=true from ‹_›];rfl)]
    ·exact ⟨k+1,[(0,0)],[],⟨by (omega),by rw [hI,zap hx,List.any_cons,show x.any (bad m.W)=false from ‹_›];rfl⟩,by (omega),by (refine ⟨rfl,rfl,rfl,?_,?_⟩;repeat' first|exact trivial|exact rfl|refine And.intro ?_ ?_|refine ⟨_,rfl,?_⟩|decide)⟩
    ·rw [e0,if_neg]
     rw [hI,List.drop_eq_nil_of_le (by omega)];simp
def zho (m:KM) (a w:Nat):BitVec 64:=(m.rel.getD a []).getD w 0#64
theorem zBn {m:KM} {a w:Nat} {r:List (BitVec 64)} {x:BitVec 64} (h:m.rel[a]? = some r) (h':r[w]? = some x):zho m a w=x:=by rw [zho,zaU h,zaU h']
def zh5 (m:KM) (g:Nat) (meet:Bool) (w k:Nat):BitVec 64:=(List.range k).foldl (fun s a=>if g.testBit a=true then (if meet=true then s&&&zho m a w else s|||zho m a w) else s) (if meet=true then zaQ m.W else 0#64)
theorem zox (m:KM) (g:Nat) (meet:Bool) (w k:Nat):zh5 m g meet w (k+1)=if g.testBit k=true then (if meet=true then zh5 m g meet w k&&&zho m k w else zh5 m g meet w k|||zho m k w) else zh5 m g meet w k:=by
 unfold zh5;rw [List.range_succ,List.foldl_append];rfl
def zdw (m:KM) (g:Nat) (meet:Bool):List (BitVec 64):=if zbs m≠0∨g < 1∨2 ^ m.rel.length≤g then [] else (List.range m.W.toNat).map fun w=>zh5 m g meet w m.rel.length
theorem zxW (m:KM) (g:Nat) (hg:g < 2 ^ 63):Fn Tryz.prog T zeq [.d (dKM m),.d (.int .i64 (g:Int)),.d (.bool false)] [] (.d (dU (zdw m g false))) []:=by
 refine zd zp zm0 (by show 3≤85;decide) ?_
 by_cases hc:zbs m=0
 ·have hgd:=zp5 hc
  have n4:=hgd.n4
  have w1:=hgd.w1
  have w2:=hgd.w2
  obtain ⟨p1,p2⟩:=zkK (i:=(m.rel.length:Int)) (by omega) (by omega)
  have p2:((2 ^ m.rel.length:Nat):Int)=(1:Int) * 2 ^ (min (m.rel.length:Int).toNat IntKind.i64.bits):=p2
  have hcf:=zoo (T:=T) m
  rw [hc] at hcf
  (repeat' ((conv=>whnf);first|refine zP.no (by decide) ?_|refine vA ?_|(refine vF ?_ ?_<;>intro hc<;>try simp only [vL] at hc)|refine vJ fun hg=>?_|refine vT ?_|((first|refine vO ?_ ?_|refine vP ?_ ?_);·first|omega|(simp only [vM] at *;omega))|refine yD hcf ⟨⟨rfl,rfl⟩,rfl⟩ rfl ?_));all_goals try conv=>whnf
  ·rw [zdw,if_pos (.inr (.inl (by omega)))];rfl
  ·rw [zdw,if_pos (.inr (.inr (by have:=‹_≤(g:Int)›;rw [← p2] at this;omega)))];rfl
  ·have e0:zdw m g false=(List.range m.W.toNat).map fun w=>zh5 m g false w m.rel.length:=by
    have:=‹(g:Int) < _›
    rw [← p2] at this
    rw [zdw,if_neg (by omega)]
   rw [e0]
   refine zt (fun ((k,zs):Nat×List D)=>[(1,.d (.int .i64 ((g:Int)))),(2,.d (.bool (false))),(3,.ptr 0 0),(7,.own 1),(8,.d (.int .i64 ((k:Int))))]) (fun ((k,zs):Nat×List D)=>[(0,some (zmj m)),(1,some (.row 1 zs))]) 2 (fun ((k,zs):Nat×List D)=>k≤m.W.toNat∧zs=((List.range k).map fun w=>zh5 m g false w m.rel.length).map D.u64) (fun ((k,zs):Nat×List D)=>m.W.toNat - k) ((0,[])) [(0,0)]   [1] (⟨by simp,rfl⟩) (by (refine ⟨rfl,rfl,rfl,?_,?_⟩;repeat' first|exact trivial|exact rfl|exact ⟨_,rfl⟩|exact .inl rfl|refine And.intro ?_ ?_|refine ⟨_,rfl,?_⟩|decide)) ?_
   rintro ⟨k,zs⟩ ⟨hk,hI⟩
   have hzl:zs.length≤64:=by rw [hI];simp;omega
   have h64 : ∀ a (r:List (BitVec 64)),m.rel[a]? = some r→r.length=m.W.toNat:=fun a r h=>by have:=hgd.len r (List.mem_of_getElem? h);omega
   (repeat' ((conv=>whnf);first|refine vA ?_|refine vH ?_|(refine vF ?_ ?_<;>intro hc<;>try simp only [vL] at hc)|refine vT ?_));all_goals try conv=>whnf
   ·refine zt (fun ((a,s):Nat×BitVec 64)=>[(1,.d (.int .i64 ((g:Int)))),(2,.d (.bool (false))),(3,.ptr 0 0),(7,.own 1),(8,.d (.int .i64 ((k:Int)))),(9,.d (.u64 (s))),(10,.d (.int .i64 ((a:Int))))]) (fun ((a,s):Nat×BitVec 64)=>[(0,some (zmj m)),(1,some (.row 1 zs))]) 2 (fun ((a,s):Nat×BitVec 64)=>a≤m.rel.length∧s=zh5 m g false k a) (fun ((a,s):Nat×BitVec 64)=>m.rel.length - a) ((0,0#64)) [(0,0),(1,1)] [] (⟨by simp,rfl⟩) (by (refine ⟨rfl,rfl,rfl,?_,?_⟩;repeat' first|exact trivial|exact rfl|exact .inl rfl|refine And.intro ?_ ?_|refine ⟨_,rfl,?_⟩|decide)) ?_
    rintro ⟨a,s⟩ ⟨ha,hS⟩
    by_cases hal:a < m.rel.length
    ·obtain ⟨r,hr⟩ : ∃ r,m.rel[a]? = some r:=⟨_,List.getElem?_eq_getElem hal⟩
     obtain ⟨x,hx0⟩ : ∃ x,r[k]? = some x:=⟨_,List.getElem?_eq_getElem (by have:=h64 a r hr;omega)⟩
     (repeat' ((conv=>whnf);first|refine vA ?_|refine vE ?_|refine vH ?_|(refine vF ?_ ?_<;>intro hc<;>try simp only [vL] at hc)|refine vJ fun hg=>?_|refine vT ?_|refine vN ‹_› ?_|((first|refine vO ?_ ?_|refine vP ?_ ?_);·omega)|fail));all_goals try conv=>whnf
     all_goals try (exact absurd ‹Int.tmod _ 2=1› ‹¬Int.tmod _ 2=1›)
     ·refine ⟨(a+1,_),[(0,0),(1,1)],[],?_,?_,by (refine ⟨rfl,rfl,rfl,?_,?_⟩;repeat' first|exact trivial|exact rfl|exact .inl rfl|refine And.intro ?_ ?_|refine ⟨_,rfl,?_⟩|decide)⟩
      ·exact ⟨by (omega),by rw [zox,if_pos ((zjD (m:=g) (k:=a) (by omega)).1 ‹_›),hS,zBn hr hx0];rfl⟩
      ·((simp only [vM] at *;omega))
     ·exact ⟨(a+1,s),[(0,0),(1,1)],[],⟨by (omega),by rw [zox,if_neg (fun h=>‹¬Int.tmod _ 2=1› ((zjD (m:=g) (k:=a) (by omega)).2 h)),hS]⟩,by ((simp only [vM] at *;omega)),by (refine ⟨rfl,rfl,rfl,?_,?_⟩;repeat' first|exact trivial|exact rfl|exact .inl rfl|refine And.intro ?_ ?_|refine ⟨_,rfl,?_⟩|decide)⟩
     all_goals omega
    ·(repeat' ((conv=>whnf);first|refine vA ?_|refine vE ?_|refine vH ?_|(refine vF ?_ ?_<;>intro hc<;>try simp only [vL] at hc)|refine vJ fun hg=>?_|refine vT ?_|(refine vQ ?_ fun x hx=>?_;·omega)|((first|refine vO ?_ ?_|refine vP ?_ ?_);·first|omega|(simp only [vM] at *;omega))|fail));all_goals try conv=>whnf
     ·omega
     all_goals try omega
     have ea:a=m.rel.length:=by omega
     subst ea
     refine ⟨(k+1,_),[(0,0),(1,3)],[],?_,?_,by (refine ⟨rfl,rfl,rfl,?_,?_⟩;repeat' first|exact trivial|exact rfl|exact .inl rfl|refine And.intro ?_ ?_|refine ⟨_,rfl,?_⟩|decide)⟩
     ·exact ⟨by (omega),by rw [List.range_succ,List.map_append,List.map_append,hI,hS];rfl⟩
     ·((simp only [vM] at *;omega))
   ·rw [hI,show k=m.W.toNat by omega];rfl
 ·have hcf:=zoo (T:=T) m
  (repeat' ((conv=>whnf);first|refine vA ?_|((first|refine vD ?_ ?_|refine vF ?_ ?_)<;>intro hc<;>try simp only [vL] at hc)|refine vJ fun hg=>?_|refine vT ?_|((first|refine vO ?_ ?_|refine vP ?_ ?_);·omega)|refine yD hcf ⟨⟨rfl,rfl⟩,rfl⟩ rfl ?_));all_goals try conv=>whnf
  ·rw [zdw,if_pos (.inl hc)];rfl
  all_goals omega
end Go.Ab
