/- A part of the proofs of this seat: functions and their contracts. -/
import Derived.Test.YtlaahcmflibkgaaGreatDoorMF
import Derived.WalkKit
import Derived.Maps.OwnRows
import Derived.Maps.RangeRun
import Derived.Deep.RegionLaw
import Derived.Deep.AppendLies
import Derived.Deep.DrawnRows
set_option linter.unusedVariables false
set_option linter.unusedSimpArgs false
set_option linter.unusedSectionVars false
namespace Go.Ab
open Go Go.Proofs Go.MapKept
set_option linter.unusedVariables false
set_option linter.unusedSimpArgs false
abbrev GI := List (Int × List Int)
theorem find_int : ∀ (l : List MapEntry) (ks : List Int) (i : Nat) (c : Int), ks.length = l.length → (∀ j, j < ks.length → (l.getD j default).key = .int .i64 (ks.getD j 0)) →
    (c ∉ ks ∧ Instr.findNow (.int .i64) (.int .i64 c) l i = some none) ∨ ∃ j, j < ks.length ∧ ks.getD j 0 = c ∧ Instr.findNow (.int .i64) (.int .i64 c) l i = some (some (i + j, (l.getD j default).val))
  | [], [], i, c, _, _ => .inl ⟨by simp, rfl⟩
  | [], _ :: _, _, _, h, _ => by simp at h
  | _ :: _, [], _, _, h, _ => by simp at h
  | e :: l, k :: ks, i, c, h, hk => by
    have h0 : e.key = .int .i64 k := by simpa using hk 0 (by simp)
    have hs : Instr.sameNow (.int .i64) (.int .i64 c) e.key = some (decide (c = k)) := by rw [h0]; simp [Instr.sameNow, int_beq]
    by_cases hc : c = k
    · refine .inr ⟨0, by simp, by simp [hc], ?_⟩
      subst hc
      simp [Instr.findNow, hs]
    · rcases find_int l ks (i + 1) c (by simpa using h) (fun j hj => by simpa using hk (j + 1) (by simpa using hj)) with ⟨h1, h2⟩ | ⟨j, h1, h2, h3⟩
      · exact .inl ⟨by simp [hc, h1], by simp [Instr.findNow, hs, hc, h2]⟩
      · exact .inr ⟨j + 1, by simpa using h1, by simpa using h2, by simp [Instr.findNow, hs, hc, h3]; omega⟩
theorem run_store {w : World} {m : Nat} {es : Array MapEntry} {clock : Nat} (hm : w.heap[m]? = some (.map es clock)) {c : Int} {v : Value} {r : Option (Nat × Value)} (hf : Instr.findNow (.int .i64) (.int .i64 c) es.toList 0 = some r)
    (hr : ∀ j u, r = some (j, u) → j < es.size ∧ (es.getD j default).key = .int .i64 c) :
    (Instr.mapUpdate 62 (.map (some m)) (.int .i64 c) v).run Tryz.prog w = .ok () { w with heap := w.heap.setIfInBounds m (match r with
      | none => .map (es.push { key := .int .i64 c, val := v, born := clock }) (clock + 1)
      | some p => .map (es.modify p.1 fun e => { e with key := .int .i64 c, val := v }) clock) } := by
  have hik : IsKey (.int .i64) (.int .i64 c) := rfl
  have hck := fun b => run_checkKey (w := w) Tryz.underlying3 hik b 9999
  have hfk := run_findKey (w := w) Tryz.underlying3 hf
  cases r with
  | none =>
    have hset := run_setObj_map (P := Tryz.prog) (.map (es.push { key := .int .i64 c, val := v, born := clock }) (clock + 1)) hm
    simp [Instr.mapUpdate, run_underlying Tryz.underlying62, run_getMap hm, hck, hfk, hset]
  | some p =>
    obtain ⟨j, u⟩ := p
    obtain ⟨hj, hkj⟩ := hr j u rfl
    have hold : ((es[j]?).map (·.key)).getD (.int .i64 c) = .int .i64 c := by
      rw [← hkj]; simp [Array.getD_eq_getD_getElem?, hj]
    have hset := run_setObj_map (P := Tryz.prog) (.map (es.modify j fun e => { e with key := .int .i64 c, val := v }) clock) hm
    simp [Instr.mapUpdate, run_underlying Tryz.underlying62, run_getMap hm, hck, hfk, hold, Instr.keyThatStays, sameBits_key hik, hset]
structure Grp (O : World → Value → Nat → List Int → Prop) (w : World) (m : Nat) (gs : GI) (es : Array MapEntry) (clock : Nat) (blk : Nat → Nat) : Prop where
  heap : w.heap[m]? = some (.map es clock)
  st : Stamps es clock
  size : es.size = gs.length
  key : ∀ i, i < gs.length → (es.getD i default).key = .int .i64 (gs.getD i default).1
  val : ∀ i, i < gs.length → O w (es.getD i default).val (blk i) (gs.getD i default).2
  apart : ∀ i j, i < gs.length → j < gs.length → blk i = blk j → i = j
section
variable {O : World → Value → Nat → List Int → Prop} {w : World} {m : Nat} {gs : GI} {es : Array MapEntry} {clock : Nat} {blk : Nat → Nat}
theorem Grp.find (h : Grp O w m gs es clock blk) (c : Int) : (c ∉ gs.map Prod.fst ∧ Instr.findNow (.int .i64) (.int .i64 c) es.toList 0 = some none) ∨
    ∃ j, j < gs.length ∧ (gs.getD j default).1 = c ∧ Instr.findNow (.int .i64) (.int .i64 c) es.toList 0 = some (some (j, (es.getD j default).val)) := by
  have hg : ∀ j, j < gs.length → (gs.map Prod.fst).getD j 0 = (gs.getD j default).1 := fun j hj => by simp [List.getD, hj]
  rcases find_int es.toList (gs.map Prod.fst) 0 c (by simp [h.size]) (fun j hj => by
    rw [List.length_map] at hj
    rw [getD_toList, h.key j hj, hg j hj]) with h1 | ⟨j, h1, h2, h3⟩
  · exact .inl h1
  · rw [List.length_map] at h1
    rw [hg j h1] at h2
    refine .inr ⟨j, h1, h2, ?_⟩
    rw [h3, Nat.zero_add, getD_toList]
theorem lookG_none {w : World} {m : Nat} {es : Array MapEntry} {clock : Nat} (h : w.heap[m]? = some (.map es clock)) {c : Int} (hf : Instr.findNow (.int .i64) (.int .i64 c) es.toList 0 = some none) : (Instr.lookup 62 (.map (some m)) (.int .i64 c) false).run Tryz.prog w = .ok (.slice none 0 0) w := by
  have hz : ∀ w, (zeroValue 34).run Tryz.prog w = .ok (.slice none 0 0) w := fun w => by kernel_rfl
  simpa [foundV] using run_lookup (ok := false) Tryz.underlying62 Tryz.underlying3 (show IsKey (.int .i64) (.int .i64 c) from rfl) hz h hf
theorem lookG_some {w : World} {m : Nat} {es : Array MapEntry} {clock : Nat} (h : w.heap[m]? = some (.map es clock)) {c : Int} {j : Nat} {v : Value} (hf : Instr.findNow (.int .i64) (.int .i64 c) es.toList 0 = some (some (j, v))) : (Instr.lookup 62 (.map (some m)) (.int .i64 c) false).run Tryz.prog w = .ok v w := by
  have hz : ∀ w, (zeroValue 34).run Tryz.prog w = .ok (.slice none 0 0) w := fun w => by kernel_rfl
  simpa [foundV] using run_lookup (ok := false) Tryz.underlying62 Tryz.underlying3 (show IsKey (.int .i64) (.int .i64 c) from rfl) hz h hf
theorem gset_get {i j : Nat} {x : Int × List Int} (hi : i < gs.length) : (gs.set i x).getD j default = if j = i then x else gs.getD j default := by
  by_cases h : j = i
  · subst h; simp [List.getD, hi]
  · rw [if_neg h]; simp [List.getD, Ne.symm h]
theorem gadd_get {j : Nat} {x : Int × List Int} (hj : j < gs.length + 1) : (gs ++ [x]).getD j default = if j = gs.length then x else gs.getD j default := by
  by_cases h : j = gs.length
  · subst h; simp [List.getD]
  · rw [if_neg h]; simp [List.getD, List.getElem?_append_left (show j < gs.length by omega)]
theorem Grp.set {w1 : World} (h : Grp O w m gs es clock blk) {c : Int} {i : Nat} {u v : Value} {g : Nat} {zs : List Int} (hi : i < gs.length) (hc : (gs.getD i default).1 = c)
    (hf : Instr.findNow (.int .i64) (.int .i64 c) es.toList 0 = some (some (i, u))) (hm : w1.heap[m]? = some (.map es clock))
    (hv : ∀ o, O { w1 with heap := w1.heap.setIfInBounds m o } v g zs)
    (ho : ∀ o j, j < gs.length → j ≠ i → O { w1 with heap := w1.heap.setIfInBounds m o } (es.getD j default).val (blk j) (gs.getD j default).2) (hg : ∀ j, j < gs.length → j ≠ i → blk j ≠ g) :
    ∃ es', (Instr.mapUpdate 62 (.map (some m)) (.int .i64 c) v).run Tryz.prog w1 = .ok () { w1 with heap := w1.heap.setIfInBounds m (.map es' clock) } ∧
      Grp O { w1 with heap := w1.heap.setIfInBounds m (.map es' clock) } m (gs.set i (c, zs)) es' clock (fun j => if j = i then g else blk j) ∧ ∀ j, j < gs.length → (es'.getD j default).born = (es.getD j default).born := by
  have hj : i < es.size := by rw [h.size]; exact hi
  have hmod : ∀ j, (es.modify i fun e => { e with key := .int .i64 c, val := v }).getD j default = if j = i then { key := .int .i64 c, val := v, born := (es.getD i default).born } else es.getD j default := fun j => modify_getD hj
  refine ⟨es.modify i fun e => { e with key := .int .i64 c, val := v }, run_store hm hf (fun j u' e => ?_), ⟨?_, ?_, ?_, fun j hj' => ?_, fun j hj' => ?_, fun j k hj' hk' e => ?_⟩, fun j hj' => ?_⟩
  · cases e; exact ⟨hj, by rw [h.key i hi, hc]⟩
  · simp [lt_of_block hm]
  · refine ⟨fun p q hp hq he => ?_, fun p hp => ?_⟩
    · simp only [Array.size_modify] at hp hq
      rw [hmod, hmod] at he
      refine h.st.inj p q hp hq ?_
      split at he <;> split at he <;> simp_all
    · simp only [Array.size_modify] at hp
      rw [hmod p]
      by_cases e : p = i
      · rw [if_pos e]; exact h.st.lt i hj
      · rw [if_neg e]; exact h.st.lt p hp
  · simp [h.size]
  · rw [List.length_set] at hj'
    rw [hmod, gset_get hi]
    split
    · rfl
    · exact h.key j hj'
  · rw [List.length_set] at hj'
    rw [hmod, gset_get hi]
    split
    · exact hv _
    · exact ho _ j hj' ‹_›
  · rw [List.length_set] at hj' hk'
    by_cases e1 : j = i <;> by_cases e2 : k = i
    · omega
    · rw [if_pos e1, if_neg e2] at e; exact absurd e.symm (hg k hk' e2)
    · rw [if_neg e1, if_pos e2] at e; exact absurd e (hg j hj' e1)
    · rw [if_neg e1, if_neg e2] at e; exact h.apart j k hj' hk' e
  · rw [hmod j]
    by_cases e : j = i
    · rw [if_pos e, e]
    · rw [if_neg e]
theorem Grp.add {w1 : World} (h : Grp O w m gs es clock blk) {c : Int} {v : Value} {g : Nat} {zs : List Int}
    (hf : Instr.findNow (.int .i64) (.int .i64 c) es.toList 0 = some none) (hm : w1.heap[m]? = some (.map es clock))
    (hv : ∀ o, O { w1 with heap := w1.heap.setIfInBounds m o } v g zs)
    (ho : ∀ o j, j < gs.length → O { w1 with heap := w1.heap.setIfInBounds m o } (es.getD j default).val (blk j) (gs.getD j default).2) (hg : ∀ j, j < gs.length → blk j ≠ g) :
    ∃ es', (Instr.mapUpdate 62 (.map (some m)) (.int .i64 c) v).run Tryz.prog w1 = .ok () { w1 with heap := w1.heap.setIfInBounds m (.map es' (clock + 1)) } ∧
      Grp O { w1 with heap := w1.heap.setIfInBounds m (.map es' (clock + 1)) } m (gs ++ [(c, zs)]) es' (clock + 1) (fun j => if j = gs.length then g else blk j) := by
  have hget : ∀ j, (es.push { key := .int .i64 c, val := v, born := clock }).getD j default = if j = gs.length then { key := .int .i64 c, val := v, born := clock } else es.getD j default := by
    intro j
    rw [← h.size]
    simp only [Array.getD_eq_getD_getElem?, Array.getElem?_push]
    split <;> rfl
  refine ⟨es.push { key := .int .i64 c, val := v, born := clock }, run_store hm hf (fun j u' e => by cases e), ⟨?_, stamps_push h.st _ _, ?_, fun j hj' => ?_, fun j hj' => ?_, fun j k hj' hk' e => ?_⟩⟩
  · simp [lt_of_block hm]
  · simp [h.size]
  · simp only [List.length_append, List.length_cons, List.length_nil] at hj'
    rw [hget, gadd_get hj']
    split
    · rfl
    · exact h.key j (by omega)
  · simp only [List.length_append, List.length_cons, List.length_nil] at hj'
    rw [hget, gadd_get hj']
    split
    · exact hv _
    · exact ho _ j (by omega)
  · simp only [List.length_append, List.length_cons, List.length_nil] at hj' hk'
    by_cases e1 : j = gs.length <;> by_cases e2 : k = gs.length
    · omega
    · rw [if_pos e1, if_neg e2] at e; exact absurd e.symm (hg k (by omega))
    · rw [if_neg e1, if_pos e2] at e; exact absurd e (hg j (by omega))
    · rw [if_neg e1, if_neg e2] at e; exact h.apart j k (by omega) (by omega) e
end
end Go.Ab
namespace Go.Ab
open Go Go.Proofs Go.MapKept
set_option linter.unusedVariables false
set_option linter.unusedSimpArgs false
variable {T : Nat → Obj → Prop}
def O2 (base : Nat) (w : World) (v : Value) (g : Nat) (zs : List Int) : Prop := ∃ cap c e, v = .slice (some ⟨g, 0, none⟩) zs.length cap ∧ base ≤ g ∧ w.heap[g]? = some (.cells c e (0, 0)) ∧ zs.length ≤ cap ∧ cap ≤ c.size ∧ zs.length ≤ 536870912 ∧
  ∀ j, j < zs.length → c.getD j undef = .int .i64 (zs.getD j 0)
def rowI (zs : List Int) : Ob := .row 1 (zs.map (D.int .i64))
theorem O2.kept {base : Nat} {w w' : World} {v : Value} {g : Nat} {zs : List Int} (h : O2 base w v g zs) (hg : w'.heap[g]? = w.heap[g]?) : O2 base w' v g zs := by
  obtain ⟨cap, c, e, h1, h2, h3, h4⟩ := h
  exact ⟨cap, c, e, h1, h2, hg.trans h3, h4⟩
def cBase (T : Nat → Obj → Prop) (w : World) (g : Nat) : Base where
  w0 := w
  O := fun b => b < w.heap.size ∧ b ≠ g
  R := fun b => b = g
  nt := 0
  pin := fun b o => T b o ∧ w.heap[b]? = some o ∧ b ≠ g
  pinO := fun b o h => ⟨lt_of_block h.2.1, h.2.2⟩
  ghost := fun _ => undef
  small := Nat.zero_le _
  dfr := []
  inv := fun _ _ _ _ => True
  stab := fun _ _ _ _ _ _ _ _ _ _ _ _ => trivial
  mono := fun _ _ _ _ _ _ _ => trivial
theorem cSim {base : Nat} {w : World} {v : Value} {g : Nat} {zs : List Int} (h : O2 base w v g zs) :
    Sim (cBase T w g) (fun _ => .undef) (memG [some (rowI zs)]) (fun i => 1 ≤ i) (fun _ => some g) ⟨#[], []⟩ w ∧
    VSim (fun _ => some g) (memG [some (rowI zs)]) (fun i => 1 ≤ i) ((cBase T w g).X (fun _ => some g) (memG [some (rowI zs)])) w (.own 0) v := by
  obtain ⟨cap, c, e, rfl, h2, h3, h4, h5, h6, h7⟩ := h
  have hm : ∀ i, memG [some (rowI zs)] i = if i = 0 then some (rowI zs) else none := fun i => by
    match i with
    | 0 => rfl
    | i + 1 => rfl
  have e0 : ∀ i, memG [some (rowI zs)] i ≠ none → i = 0 := fun i hi => by
    rw [hm] at hi
    by_cases h : i = 0
    · exact h
    · rw [if_neg h] at hi; exact absurd rfl hi
  refine ⟨⟨fun t => .undef _, fun id ob hid => ?_, fun i j b hi hj _ _ => by rw [e0 i hi, e0 j hj], fun id b hi hb => ?_, fun id hid => by rw [hm, if_neg (by omega)], ⟨rfl, rfl, rfl, Nat.le_refl _, fun _ _ _ => rfl, fun b c e h => ⟨c, h, rfl⟩⟩, ⟨rfl, rfl⟩, fun b hb => hb.1, fun b o h => h.2.1, fun _ _ _ => trivial⟩, ?_⟩
  · rw [hm] at hid
    by_cases h : id = 0
    · rw [if_pos h] at hid
      cases hid
      refine .row 1 (zs.map (D.int .i64)) g c e rfl h3 (by rw [List.length_map]; omega) (by rw [List.length_map]; omega) (fun x hx => ?_) (fun i j hi hj => ?_)
      · obtain ⟨y, -, rfl⟩ := List.mem_map.1 hx
        rfl
      · rw [List.length_map] at hi
        have : j = 0 := by omega
        subst this
        rw [Nat.mul_one, Nat.add_zero, h7 i hi]
        rw [show (zs.map (D.int .i64)).getD i .nil = .int .i64 (zs.getD i 0) by simp [List.getD, hi]]
        exact .int .i64 _ (by simp)
    · rw [if_neg h] at hid; cases hid
  · cases hb
    exact ⟨fun h => h.2 rfl, .inl rfl⟩
  · have := VSim.own (σ := fun _ => some g) (M := memG [some (rowI zs)]) (F := fun i => 1 ≤ i) (X := (cBase T w g).X (fun _ => some g) (memG [some (rowI zs)])) (w := w) 0 1 (zs.map (D.int .i64)) g cap c e rfl rfl h3 (by rw [List.length_map]; omega) (by omega)
    rwa [List.length_map] at this
theorem kept_grown {w w' : World} {g : Nat} (h : Kept (fun b => b = g) w w') : w.grownBy w' (some g) :=
  ⟨h.os, h.tape, h.output, h.size, fun b hb hne => h.block b hb (fun e => hne (by rw [e]))⟩
theorem row_out {σ : Nat → Option Nat} {M : Nat → Option Ob} {F X : Nat → Prop} {w : World} {id : Nat} {ys : List Int} {v : Value} (hV : VSim σ M F X w (.own id) v) (hO : ObSim σ M F X w id (rowI ys)) (hm : M id = some (rowI ys)) (hl : ys.length ≤ 536870912) (h0 : ys ≠ []) :
    ∃ g, σ id = some g ∧ O2 0 w v g ys := by
  have hlen : (ys.map (D.int .i64)).length = ys.length := List.length_map _
  unfold rowI at hm hO
  have pos : 0 < ys.length := List.length_pos_iff.2 h0
  cases hV with
  | ownDead _ ad l c h1 => rw [hm] at h1; cases h1
  | ownNil _ s h1 => rw [hm] at h1; simp at h1; exact absurd h1.2 h0
  | own _ s xs b cap c e h1 h2 h3 h4 h5 =>
    rw [hm] at h1
    simp only [Option.some.injEq, Ob.row.injEq] at h1
    obtain ⟨rfl, rfl⟩ := h1
    refine ⟨b, h2, cap, c, e, by rw [hlen], Nat.zero_le _, h3, by omega, by omega, hl, fun j hj => ?_⟩
    generalize hxs : ys.map (D.int .i64) = xs at hO hlen
    cases hO with
    | nilrow s h => rw [List.length_nil] at hlen; omega
    | row s xs' b' c' e' g1 g2 g3 g4 g5 g6 =>
      rw [h2] at g1; cases g1
      rw [h3] at g2; cases g2
      have := g6 j 0 (by omega) (by omega)
      rw [Nat.mul_one, Nat.add_zero, ← hxs, show (ys.map (D.int .i64)).getD j .nil = .int .i64 (ys.getD j 0) by simp [List.getD, hj]] at this
      generalize c.getD j undef = z at this ⊢
      cases this; rfl
theorem call_row {f : Nat} {zs ys : List Int} {id : Nat} {obs' : List (Option Ob)} (hf : Fn Tryz.prog T f [.own 0] [rowI zs] (.own id) obs') (hid : memG obs' id = some (rowI ys)) (hl : ys.length ≤ 536870912) (h0 : ys ≠ [])
    {base : Nat} {w : World} {v : Value} {g : Nat} (h : O2 base w v g zs) (hT : ∀ b o, T b o → w.heap[b]? = some o ∧ b ≠ g) (hb : base ≤ w.heap.size) :
    Calls Tryz.prog f #[v] w fun e w' => ∃ v' g', e = .returned v' ∧ O2 base w' v' g' ys ∧ (g' = g ∨ w.heap.size ≤ g') ∧ w.grownBy w' (some g) := by
  obtain ⟨hS, hV⟩ := cSim (T := T) h
  have hbg : base ≤ g := by obtain ⟨_, _, _, _, h2, _⟩ := h; exact h2
  intro cs
  obtain ⟨v', w', σ', ⟨fr, hc, hfn, hlk⟩, hS', hV', -⟩ := hf.2 (cBase T w g) (fun _ => some g) ⟨#[], []⟩ w #[v] (fun b o ht => ⟨ht, hT b o ht⟩) (fun _ _ _ _ => trivial) hS rfl (fun i hi => by
    match i, hi with
    | 0, _ => exact hV) cs
  obtain ⟨g', hg', cap, c, e, q1, -, q2⟩ := row_out hV' (hS'.mem id _ hid) hid hl h0
  have hmine := (hS'.mine id g' (by rw [hid]; simp) hg').2
  refine ⟨.returned v', w', fr, ⟨v', g', rfl, ⟨cap, c, e, q1, ?_, q2⟩, hmine, kept_grown hS'.kept⟩, hc, hfn, hlk⟩
  rcases hmine with rfl | h
  · exact hbg
  · exact Nat.le_trans hb h
theorem call_sort {f : Nat} {zs ys : List Int} (hf : Fn Tryz.prog T f [.own 0] [rowI zs] (.tup []) [some (rowI ys)]) (hl : ys.length = zs.length) (h0 : ys ≠ [])
    {base : Nat} {w : World} {v : Value} {g : Nat} (h : O2 base w v g zs) (hT : ∀ b o, T b o → w.heap[b]? = some o ∧ b ≠ g) :
    Calls Tryz.prog f #[v] w fun e w' => e = .returned (.tuple #[]) ∧ O2 base w' v g ys ∧ w.grownBy w' (some g) := by
  obtain ⟨hS, hV⟩ := cSim (T := T) h
  intro cs
  obtain ⟨v', w', σ', ⟨fr, hc, hfn, hlk⟩, hS', hV', hK⟩ := hf.2 (cBase T w g) (fun _ => some g) ⟨#[], []⟩ w #[v] (fun b o ht => ⟨ht, hT b o ht⟩) (fun _ _ _ _ => trivial) hS rfl (fun i hi => by
    match i, hi with
    | 0, _ => exact hV) cs
  obtain ⟨cap, c, e, q1, q2, q3, q4, q5, q6, q7⟩ := h
  have hv : v' = .tuple #[] := by
    cases hV' with
    | tup cs vs h1 h2 =>
      have : vs = #[] := Array.eq_empty_of_size_eq_zero (by simpa using h1.symm)
      rw [this]
  have hσ : σ' 0 = some g := by
    rcases hK 0 _ rfl with h1 | ⟨h1, -⟩
    · cases h1
    · exact h1
  obtain ⟨c', k1, k2⟩ := hS'.kept.cells g c e q3
  refine ⟨.returned v', w', fr, ⟨by rw [hv], ⟨cap, c', e, by rw [hl]; exact q1, q2, k1, by omega, by omega, by omega, fun j hj => ?_⟩, kept_grown hS'.kept⟩, hc, hfn, hlk⟩
  have hO := hS'.mem 0 (rowI ys) rfl
  unfold rowI at hO
  have hlen : (ys.map (D.int .i64)).length = ys.length := List.length_map _
  generalize hxs : ys.map (D.int .i64) = xs at hO hlen
  cases hO with
  | nilrow s h => rw [List.length_nil] at hlen; omega
  | row s xs' b' c'' e' g1 g2 g3 g4 g5 g6 =>
    rw [hσ] at g1; cases g1
    rw [k1] at g2; cases g2
    have := g6 j 0 (by omega) (by omega)
    rw [Nat.mul_one, Nat.add_zero, ← hxs, show (ys.map (D.int .i64)).getD j .nil = .int .i64 (ys.getD j 0) by simp [List.getD, hj]] at this
    generalize c'.getD j undef = z at this ⊢
    cases this; rfl
end Go.Ab
namespace Go.Ab
open Go Go.Proofs Go.MapKept
set_option linter.unusedVariables false
set_option linter.unusedSimpArgs false
def inC (rank cell : List Int) (k : Nat) (c : Int) : List Int := ((List.range k).filter fun w => at0 cell w == c).map (at0 rank)
def gsOf (cell rank : List Int) (k : Nat) : GI := (keysOf (cell.take k)).map fun c => (c, inC rank cell k c)
theorem inC_succ {cell rank : List Int} {k : Nat} {c : Int} : inC rank cell (k + 1) c = inC rank cell k c ++ (if at0 cell k = c then [at0 rank k] else []) := by
  unfold inC
  rw [List.range_succ, List.filter_append, List.map_append]
  congr 1
  by_cases h : at0 cell k = c
  · simp [h]
  · simp [h]
theorem inC_len {cell rank : List Int} {k : Nat} {c : Int} : (inC rank cell k c).length ≤ k := by
  unfold inC
  rw [List.length_map]
  have := List.length_filter_le (fun w => at0 cell w == c) (List.range k)
  rwa [List.length_range] at this
theorem keysOf_snoc {l : List Int} {c : Int} : keysOf (l ++ [c]) = if c ∈ keysOf l then keysOf l else keysOf l ++ [c] := by
  simp only [keysOf, List.foldl_append, List.foldl_cons, List.foldl_nil]
  by_cases h : c ∈ List.foldl (fun l c => if c ∈ l then l else l ++ [c]) [] l
  · exact (if_pos h).trans (if_pos h).symm
  · exact (if_neg h).trans (if_neg h).symm
theorem nodup_fold : ∀ {l acc : List Int}, acc.Nodup → (l.foldl (fun l c => if c ∈ l then l else l ++ [c]) acc).Nodup
  | [], acc, h => h
  | x :: l, acc, h => by
    rw [List.foldl_cons]
    refine nodup_fold ?_
    split
    · exact h
    · rename_i hx
      exact List.nodup_append.2 ⟨h, by simp, fun a ha b hb => by simp at hb; subst hb; intro e; subst e; exact hx ha⟩
theorem nodup_keysOf {l : List Int} : (keysOf l).Nodup := nodup_fold List.nodup_nil
theorem take_at0 {cell : List Int} {k : Nat} (h : k < cell.length) : cell.take (k + 1) = cell.take k ++ [at0 cell k] := by
  rw [List.take_add_one, get_at0 h]; rfl
theorem gsOf_keys {cell rank : List Int} {k : Nat} : (gsOf cell rank k).map Prod.fst = keysOf (cell.take k) := by
  rw [gsOf, List.map_map]
  exact (List.map_congr_left fun _ _ => rfl).trans (List.map_id _)
theorem gs_new {cell rank : List Int} {k : Nat} (hk : k < cell.length) (h : at0 cell k ∉ (gsOf cell rank k).map Prod.fst) : gsOf cell rank (k + 1) = gsOf cell rank k ++ [(at0 cell k, [at0 rank k])] := by
  rw [gsOf_keys] at h
  have h0 : inC rank cell k (at0 cell k) = [] := by
    rw [inC, List.map_eq_nil_iff, List.filter_eq_nil_iff]
    intro w hw he
    rw [List.mem_range] at hw
    refine h (mem_keysOf.2 ?_)
    rw [← (show at0 cell w = at0 cell k by simpa using he)]
    exact List.mem_of_getElem? (i := w) (by rw [List.getElem?_take, if_pos hw, get_at0 (by omega)])
  rw [gsOf, take_at0 hk, keysOf_snoc, if_neg h, List.map_append]
  congr 1
  · refine List.map_congr_left fun c hc => ?_
    rw [inC_succ, if_neg (fun e => h (by rw [e]; exact hc)), List.append_nil]
  · simp [inC_succ, h0]
theorem gs_old {cell rank : List Int} {k i : Nat} (hk : k < cell.length) (hi : i < (gsOf cell rank k).length) (hc : ((gsOf cell rank k).getD i default).1 = at0 cell k) :
    gsOf cell rank (k + 1) = (gsOf cell rank k).set i (at0 cell k, ((gsOf cell rank k).getD i default).2 ++ [at0 rank k]) := by
  have hl : i < (keysOf (cell.take k)).length := by simpa [gsOf] using hi
  have hg : ∀ j (hj : j < (keysOf (cell.take k)).length), (gsOf cell rank k)[j]'(by simpa [gsOf] using hj) = ((keysOf (cell.take k))[j], inC rank cell k (keysOf (cell.take k))[j]) := fun j hj => by simp [gsOf]
  have hci : (keysOf (cell.take k))[i] = at0 cell k := by
    rw [← hc]; simp [List.getD, hi, hg i hl]
  have hm : at0 cell k ∈ keysOf (cell.take k) := by rw [← hci]; exact List.getElem_mem _
  have hn : gsOf cell rank (k + 1) = (keysOf (cell.take k)).map fun c => (c, inC rank cell (k + 1) c) := by rw [gsOf, take_at0 hk, keysOf_snoc, if_pos hm]
  rw [hn]
  refine List.ext_getElem (by simp [gsOf]) fun j h1 h2 => ?_
  have hj : j < (keysOf (cell.take k)).length := by simpa using h1
  rw [List.getElem_map, List.getElem_set]
  by_cases e : i = j
  · subst e
    rw [if_pos rfl, hci, inC_succ, if_pos rfl]
    simp [List.getD, hi, hg i hl, hci]
  · rw [if_neg e, hg j hj, inC_succ, if_neg, List.append_nil]
    intro h
    exact e ((List.getElem_inj nodup_keysOf).1 (hci.trans h))
def O1 (base : Nat) (w : World) (v : Value) (g : Nat) (zs : List Int) : Prop := w.ownsRow base 3 1 v zs.length (zs.map (Value.int .i64)) ∧ v.ownBlock = some g
theorem O1.kept {base : Nat} {w w' : World} {v : Value} {g : Nat} {zs : List Int} {row : Option Nat} (h : O1 base w v g zs) (hg : w.grownBy w' row) (hne : some g ≠ row) : O1 base w' v g zs := ⟨h.1.kept hg (.inr (by rw [h.2]; exact hne)), h.2⟩
theorem O1.lt {base : Nat} {w : World} {v : Value} {g : Nat} {zs : List Int} (h : O1 base w v g zs) : base ≤ g ∧ g < w.heap.size := h.1.lt g h.2
theorem O1.O2 {base : Nat} {w : World} {v : Value} {g : Nat} {zs : List Int} (h : O1 base w v g zs) (hl : zs.length ≤ 536870912) : O2 base w v g zs := by
  obtain ⟨⟨h1, h2⟩, h3⟩ := h
  rcases h2 with ⟨rfl, h2⟩ | ⟨g', cap, cur, rfl, h4, h5, h6, h7, h8, h9⟩
  · cases h3
  · cases h3
    refine ⟨cap, cur, 3, rfl, h4, h5, h6, by omega, hl, fun j hj => ?_⟩
    have : (cur.toList.take (zs.length * 1))[j]? = some (Value.int .i64 (zs.getD j 0)) := by rw [h9]; simp [hj, List.getD]
    rw [List.getElem?_take, if_pos (by omega)] at this
    rw [Array.getD_eq_getD_getElem?, ← Array.getElem?_toList, this]; rfl
theorem grown_set (w : World) (m : Nat) (o : Obj) : w.grownBy { w with heap := w.heap.setIfInBounds m o } (some m) :=
  ⟨rfl, rfl, rfl, by simp, fun k _ hk => by simp [Array.getElem?_setIfInBounds_ne (fun e : m = k => hk (by rw [e]))]⟩
section
variable {w : World} {base m : Nat} {gs : GI} {es : Array MapEntry} {clock : Nat} {blk : Nat → Nat}
theorem Grp.look1 (h : Grp (O1 base) w m gs es clock blk) (hmb : m < base) (c : Int) : ∃ v zs, ∃ tgt : List Int → GI, (v.ownBlock ≠ some m) ∧ (∀ w', w'.heap[m]? = w.heap[m]? → (Instr.lookup 62 (.map (some m)) (.int .i64 c) false).run Tryz.prog w' = .ok v w') ∧ w.ownsRow base 3 1 v zs.length (zs.map (Value.int .i64)) ∧
    ((∃ i, i < gs.length ∧ (gs.getD i default).1 = c ∧ zs = (gs.getD i default).2 ∧ tgt = fun ys => gs.set i (c, ys)) ∨ (c ∉ gs.map Prod.fst ∧ zs = [] ∧ tgt = fun ys => gs ++ [(c, ys)])) ∧
    ∀ w1 v' x, w.grownBy w1 v.ownBlock → w1.ownsRow base 3 1 v' (zs.length + 1) (zs.map (Value.int .i64) ++ [.int .i64 x]) → (v'.ownBlock = v.ownBlock ∨ v'.ownBlock = some w.heap.size ∨ ∃ g, v'.ownBlock = some g ∧ w.heap.size ≤ g) →
      ∃ w2 es' clock' blk', (Instr.mapUpdate 62 (.map (some m)) (.int .i64 c) v').run Tryz.prog w1 = .ok () w2 ∧ Grp (O1 base) w2 m (tgt (zs ++ [x])) es' clock' blk' ∧ w1.grownBy w2 (some m) := by
  have hmw : m < w.heap.size := lt_of_block h.heap
  have nn : ∀ {w1 : World} {v' : Value} {zs : List Int} {x : Int}, w1.ownsRow base 3 1 v' (zs.length + 1) (zs.map (Value.int .i64) ++ [.int .i64 x]) → ∃ g, O1 base w1 v' g (zs ++ [x]) := by
    intro w1 v' zs x ho
    have ho' : w1.ownsRow base 3 1 v' (zs ++ [x]).length ((zs ++ [x]).map (Value.int .i64)) := by simpa using ho
    rcases ho.2 with ⟨_, h0⟩ | ⟨g, cap, cur, rfl, _⟩
    · omega
    · exact ⟨g, ho', rfl⟩
  rcases h.find c with ⟨hn, hf⟩ | ⟨i, hi, hc, hf⟩
  · refine ⟨_, [], _, by simp [Value.ownBlock], fun w' hw' => lookG_none (hw'.trans h.heap) hf, World.ownsRow_nil _ _ _ _, .inr ⟨hn, rfl, rfl⟩, fun w1 v' x hg ho hl => ?_⟩
    obtain ⟨g, hv⟩ := nn ho
    have hgw : w.heap.size ≤ g := by
      rcases hl with h1 | h1 | ⟨g', h1, h2⟩
      · rw [hv.2] at h1; cases h1
      · rw [hv.2] at h1; cases h1; exact Nat.le_refl _
      · rw [hv.2] at h1; cases h1; exact h2
    have hm1 : w1.heap[m]? = some (.map es clock) := (hg.block m hmw (by simp [Value.ownBlock])).trans h.heap
    obtain ⟨es', h1, h2⟩ := h.add (w1 := w1) (c := c) (v := v') (g := g) (zs := [] ++ [x]) hf hm1
      (fun o => hv.kept (grown_set w1 m o) (by simp; have := hv.lt; omega))
      (fun o j hj => ((h.val j hj).kept hg (by simp [Value.ownBlock])).kept (grown_set w1 m o) (by have := (h.val j hj).lt; simp; omega))
      (fun j hj => by have := (h.val j hj).lt; omega)
    exact ⟨_, es', _, _, h1, h2, grown_set _ _ _⟩
  · have hvi := h.val i hi
    refine ⟨_, (gs.getD i default).2, _, by rw [hvi.2]; have := hvi.lt; simp; omega, fun w' hw' => lookG_some (hw'.trans h.heap) hf, hvi.1, .inl ⟨i, hi, hc, rfl, rfl⟩, fun w1 v' x hg ho hl => ?_⟩
    rw [hvi.2] at hg hl
    obtain ⟨g, hv⟩ := nn ho
    have hgw : g = blk i ∨ w.heap.size ≤ g := by
      rcases hl with h1 | h1 | ⟨g', h1, h2⟩
      · rw [hv.2] at h1; cases h1; exact .inl rfl
      · rw [hv.2] at h1; cases h1; exact .inr (Nat.le_refl _)
      · rw [hv.2] at h1; cases h1; exact .inr h2
    have hmi : m ≠ blk i := by have := hvi.lt; omega
    have hm1 : w1.heap[m]? = some (.map es clock) := (hg.block m hmw (by simpa using hmi)).trans h.heap
    have hne : ∀ j, j < gs.length → j ≠ i → blk j ≠ blk i := fun j hj hji e => hji (h.apart j i hj hi e)
    obtain ⟨es', h1, h2, -⟩ := h.set (w1 := w1) (c := c) (u := (es.getD i default).val) (v := v') (g := g) (zs := (gs.getD i default).2 ++ [x]) hi hc hf hm1
      (fun o => hv.kept (grown_set w1 m o) (by simp; have := hv.lt; omega))
      (fun o j hj hji => ((h.val j hj).kept hg (by simpa using hne j hj hji)).kept (grown_set w1 m o) (by have := (h.val j hj).lt; simp; omega))
      (fun j hj hji => by
        have := (h.val j hj).lt
        rcases hgw with rfl | h3
        · exact hne j hj hji
        · omega)
    exact ⟨_, es', _, _, h1, h2, grown_set _ _ _⟩
end
end Go.Ab
namespace Go.Ab
open Go Go.Proofs Go.MapKept
open Go.ChangeMaps (setBlock)
set_option linter.unusedVariables false
set_option linter.unusedSimpArgs false
variable {T : Nat → Obj → Prop}
def finZ (zs : List Int) : List Int := ddA (Sort.sort Sort.ltInt zs.toArray) (Sort.sort Sort.ltInt zs.toArray).size
theorem dd_ne {d : Array Int} : ∀ {n : Nat}, 0 < n → ddA d n ≠ []
  | 1, _ => by simp [ddA]
  | n + 2, _ => by
    rw [ddA]
    split
    · exact dd_ne (Nat.succ_pos n)
    · simp
theorem dd_len {α : Type} [Inhabited α] [DecidableEq α] {d : Array α} : ∀ {n : Nat}, (ddA d n).length ≤ n
  | 0 => Nat.le_refl 0
  | n + 1 => by
    have := dd_len (d := d) (n := n)
    rw [ddA]
    split
    · omega
    · simp; omega
theorem sort_size (d : Array Int) : (Sort.sort Sort.ltInt d).size = d.size := pdq_size Sort.swo_ltInt d.size d 0 d.size _ true true (by omega) (Nat.zero_le _) (Nat.le_refl _)
theorem call_compact {d : Array Int} (hl : d.size ≤ 536870912) (h0 : 0 < d.size) {base : Nat} {w : World} {v : Value} {g : Nat} (h : O2 base w v g d.toList) (hT : ∀ b o, T b o → w.heap[b]? = some o ∧ b ≠ g) (hb : base ≤ w.heap.size) :
    Calls Tryz.prog 69 #[v] w fun e w' => ∃ v' g', e = .returned v' ∧ O2 base w' v' g' (ddA d d.size) ∧ (g' = g ∨ w.heap.size ≤ g') ∧ w.grownBy w' (some g) := by
  by_cases hs : Steps d
  · have hd : ddA d d.size = d.toList := by
      rw [dd_take (Nat.le_refl _) (fun j h1 h2 => hs j h1 h2), List.take_of_length_le (by simp)]
    exact call_row (T := T) (f := 69) (id := 0) (fn_Compact_id_int d hl hs) (by rw [hd]; rfl) (Nat.le_trans dd_len hl) (dd_ne h0) h hT hb
  · exact call_row (T := T) (f := 69) (id := 1) (fn_Compact_cut_int d hl hs) rfl (Nat.le_trans dd_len hl) (dd_ne h0) h hT hb
theorem call_sortI {zs : List Int} (hl : zs.length ≤ 536870912) (h0 : zs ≠ []) {base : Nat} {w : World} {v : Value} {g : Nat} (h : O2 base w v g zs) (hT : ∀ b o, T b o → w.heap[b]? = some o ∧ b ≠ g) :
    Calls Tryz.prog 68 #[v] w fun e w' => e = .returned (.tuple #[]) ∧ O2 base w' v g (Sort.sort Sort.ltInt zs.toArray).toList ∧ w.grownBy w' (some g) := by
  have hf := fn_Sort_int (T := T) zs.toArray (by simpa using hl)
  have hz : (Sort.sort Sort.ltInt zs.toArray).toList.length = zs.length := by rw [Array.length_toList, sort_size]; simp
  exact call_sort (T := T) (f := 68) (zs := zs) (ys := (Sort.sort Sort.ltInt zs.toArray).toList) hf hz (fun e => h0 (by rw [e] at hz; simpa using hz.symm)) h hT
def gAt (gs : GI) (born : Nat → Nat) (seen : Array Nat) : GI := (List.range gs.length).map fun j => ((gs.getD j default).1, if seen.contains (born j) then finZ (gs.getD j default).2 else (gs.getD j default).2)
def unseen (n : Nat) (born : Nat → Nat) (seen : Array Nat) : Nat := ((List.range n).filter fun j => !seen.contains (born j)).length
structure Mid (w : World) (m base r clock : Nat) (gs : GI) (born : Nat → Nat) (seen : Array Nat) (wr : World) : Prop where
  ex : ∃ es blk, Grp (O2 base) wr m (gAt gs born seen) es clock blk ∧ (∀ j, j < gs.length → (es.getD j default).born = born j) ∧ ∀ j, j < gs.length → blk j ≠ r ∧ blk j < wr.heap.size
  iter : wr.heap[r]? = some (.mapIter (some m) clock seen clock)
  grown : w.grownBy wr none
  mr : m < base ∧ base ≤ r ∧ w.heap.size ≤ m
theorem gAt_len {gs : GI} {born : Nat → Nat} {seen : Array Nat} : (gAt gs born seen).length = gs.length := by simp [gAt]
theorem gAt_get {gs : GI} {born : Nat → Nat} {seen : Array Nat} {j : Nat} (hj : j < gs.length) : (gAt gs born seen).getD j default = ((gs.getD j default).1, if seen.contains (born j) then finZ (gs.getD j default).2 else (gs.getD j default).2) := by
  simp [gAt, List.getD, hj]
theorem gAt_push {gs : GI} {born : Nat → Nat} {seen : Array Nat} {i : Nat} (hi : i < gs.length) (hb : ∀ j, j < gs.length → born j = born i → j = i) :
    gAt gs born (seen.push (born i)) = (gAt gs born seen).set i ((gs.getD i default).1, finZ (gs.getD i default).2) := by
  refine List.ext_getElem (by simp [gAt]) fun j h1 h2 => ?_
  have hj : j < gs.length := by simpa [gAt] using h1
  rw [List.getElem_set]
  simp only [gAt, List.getElem_map, List.getElem_range, Array.contains_push]
  by_cases e : i = j
  · subst e; simp
  · rw [if_neg e]
    have : (born j == born i) = false := by simpa using fun h => e (hb j hj h).symm
    simp [this]
theorem unseen_push {n : Nat} {born : Nat → Nat} {seen : Array Nat} {i : Nat} (hi : i < n) (hs : seen.contains (born i) = false) : unseen n born (seen.push (born i)) < unseen n born seen := by
  unfold unseen
  have hsub : ((List.range n).filter fun j => !(seen.push (born i)).contains (born j)) = ((List.range n).filter fun j => !seen.contains (born j)).filter fun j => !(born j == born i) := by
    rw [List.filter_filter]
    refine List.filter_congr fun j _ => ?_
    rw [Array.contains_push]
    cases seen.contains (born j) <;> cases (born j == born i) <;> rfl
  rw [hsub]
  refine Nat.lt_of_le_of_ne (List.length_filter_le _ _) fun h => ?_
  have := (List.filter_eq_self.1 (List.length_filter_eq_length_iff.1 h |> fun hh => List.filter_eq_self.2 hh)) i (List.mem_filter.2 ⟨List.mem_range.2 hi, by simpa using hs⟩)
  simp at this
end Go.Ab
namespace Go.Ab
open Go Go.Proofs Go.MapKept
open Go.ChangeMaps (setBlock)
set_option linter.unusedVariables false
set_option linter.unusedSimpArgs false
variable {T : Nat → Obj → Prop}
theorem Mid.round {w wr : World} {m base r clock : Nat} {gs : GI} {born : Nat → Nat} {seen : Array Nat} (h : Mid w m base r clock gs born seen wr) (ty : TypeId) (hT : ∀ b o, T b o → w.heap[b]? = some o)
    (hk : ∀ i j, i < gs.length → j < gs.length → (gs.getD i default).1 = (gs.getD j default).1 → i = j) (hz : ∀ j, j < gs.length → (gs.getD j default).2 ≠ [] ∧ (gs.getD j default).2.length ≤ 536870912) :
    ((Instr.next (.pointer (some ⟨r, 0, none⟩)) false ty).run Tryz.prog wr = .ok (.tuple #[.bool false]) wr ∧ ∀ j, j < gs.length → seen.contains (born j) = true) ∨
    ∃ (c : Int) (v : Value) (wn : World), (Instr.next (.pointer (some ⟨r, 0, none⟩)) false ty).run Tryz.prog wr = .ok (.tuple #[.bool true, .int .i64 c, v]) wn ∧ (Instr.entry (.pointer (some ⟨r, 0, none⟩))).run Tryz.prog wn = .ok (.tuple #[.int .i64 c, v]) wn ∧
      Calls Tryz.prog 68 #[v] wn fun e w' => e = .returned (.tuple #[]) ∧ Calls Tryz.prog 69 #[v] w' fun e w'' => ∃ v', e = .returned v' ∧ ∃ wz seen', (Instr.mapUpdate 62 (.map (some m)) (.int .i64 c) v').run Tryz.prog w'' = .ok () wz ∧
        Mid w m base r clock gs born seen' wz ∧ unseen gs.length born seen' < unseen gs.length born seen := by
  obtain ⟨es, blk, hG, hborn, hblk⟩ := h.ex
  obtain ⟨hmb, hbr, hwm⟩ := h.mr
  have hsz : es.size = gs.length := hG.size.trans gAt_len
  have idx : ∀ x ∈ es.toList, ∃ j, j < gs.length ∧ es.getD j default = x := fun x hx => by
    obtain ⟨j, hj, rfl⟩ := List.getElem_of_mem hx
    rw [Array.length_toList] at hj
    exact ⟨j, by omega, by simp [Array.getD_eq_getD_getElem?, hj]⟩
  have hold : ∀ x ∈ es.toList, x.born < clock := fun x hx => by
    obtain ⟨j, hj, rfl⟩ := idx x hx
    exact hG.st.lt j (by omega)
  have hbi : ∀ i j, i < gs.length → j < gs.length → born i = born j → i = j := fun i j hi hj e => hG.st.inj i j (by omega) (by omega) (by rw [hborn i hi, hborn j hj, e])
  rcases run_next_at (P := Tryz.prog) wr ty r m clock clock seen es clock h.iter hG.heap hold (Nat.le_refl _) with ⟨h0, hrun⟩ | ⟨e, he, w1, hw1, hrun⟩
  · refine .inl ⟨hrun, fun j hj => ?_⟩
    by_cases hc : seen.contains (born j) = true
    · exact hc
    · have hm : es.getD j default ∈ (leftOf es seen) := by
        unfold leftOf
        refine Array.mem_filter.2 ⟨?_, ?_⟩
        · rw [show es.getD j default = es[j]'(by omega) by simp [Array.getD_eq_getD_getElem?, show j < es.size by omega]]
          exact Array.getElem_mem _
        · rw [hborn j hj]; simpa using hc
      have : leftOf es seen = #[] := Array.eq_empty_of_size_eq_zero h0
      rw [this] at hm
      simp at hm
  · right
    have he' : e ∈ es ∧ seen.contains e.born = false := by
      have : e ∈ leftOf es seen := by simpa using he
      unfold leftOf at this
      obtain ⟨h1, h2⟩ := Array.mem_filter.1 this
      exact ⟨h1, by simpa using h2⟩
    obtain ⟨j, hj, rfl⟩ := idx e (by simpa using he'.1)
    have hs := he'.2
    rw [hborn j hj] at hs hrun
    have hjl : j < (gAt gs born seen).length := by rw [gAt_len]; exact hj
    have hkey := hG.key j hjl
    have hval := hG.val j hjl
    have hgj := gAt_get (born := born) (seen := seen) hj
    rw [hs] at hgj
    simp only [Bool.false_eq_true, if_false] at hgj
    rw [hgj] at hkey hval
    simp only at hkey hval
    rw [hkey] at hrun
    have hw1h : w1.heap = wr.heap ∧ w1.os = wr.os ∧ w1.tape = wr.tape ∧ w1.output = wr.output := by rcases hw1 with rfl | rfl <;> exact ⟨rfl, rfl, rfl, rfl⟩
    have hrlt : r < wr.heap.size := lt_of_block h.iter
    generalize hwn : setBlock w1 r (.mapIter (some m) clock (seen.push (born j)) clock) = wn at hrun
    have nr : wn.heap[r]? = some (.mapIter (some m) clock (seen.push (born j)) clock) := by rw [← hwn]; simp [setBlock, hw1h.1, hrlt]
    have no : ∀ b, b ≠ r → wn.heap[b]? = wr.heap[b]? := fun b hb => by rw [← hwn]; simp [setBlock, hw1h.1, Array.getElem?_setIfInBounds_ne (Ne.symm hb)]
    have ns : wn.heap.size = wr.heap.size := by rw [← hwn]; simp [setBlock, hw1h.1]
    have nx : wn.os = wr.os ∧ wn.tape = wr.tape ∧ wn.output = wr.output := by rw [← hwn]; exact hw1h.2
    clear hwn
    obtain ⟨hbj1, hbj2⟩ := hblk j hj
    have hbase : ∀ i, i < gs.length → base ≤ blk i := fun i hi => by
      obtain ⟨_, _, _, _, h2, _⟩ := hG.val i (by rw [gAt_len]; exact hi); exact h2
    have hgn : w.grownBy wn none := ⟨nx.1.trans h.grown.os, nx.2.1.trans h.grown.tape, nx.2.2.trans h.grown.output, by rw [ns]; exact h.grown.size, fun b hb _ => (no b (by omega)).trans (h.grown.block b hb (by simp))⟩
    have hTn : ∀ (x : World), wn.grownBy x (some (blk j)) → ∀ b o, T b o → x.heap[b]? = some o ∧ b ≠ blk j := fun x hx b o ht => by
      have h1 := hT b o ht
      have h2 := lt_of_block h1
      have h3 := hbase j hj
      exact ⟨(hx.block b (Nat.lt_of_lt_of_le h2 hgn.size) (by simp; omega)).trans ((hgn.block b h2 (by simp)).trans h1), by omega⟩
    have hself : wn.grownBy wn (some (blk j)) := ⟨rfl, rfl, rfl, Nat.le_refl _, fun _ _ _ => rfl⟩
    refine ⟨(gs.getD j default).1, (es.getD j default).val, wn, hrun, ?_, ?_⟩
    · have := run_entry_at (P := Tryz.prog) wn r m clock seen es clock (es.getD j default) (by rw [hborn j hj]; exact nr) ((no m (by omega)).trans hG.heap) (by simpa using he'.1) (by
        refine List.pairwise_iff_getElem.2 fun p q hp hq hpq e => ?_
        simp only [List.length_map, Array.length_toList] at hp hq
        have := hG.st.inj p q hp hq (by simpa [Array.getD_eq_getD_getElem?, hp, hq] using e)
        omega)
      rw [hkey] at this
      exact this
    · refine (call_sortI (T := T) (hz j hj).2 (hz j hj).1 (hval.kept (no _ hbj1)) (hTn wn hself)).mono ?_
      rintro e1 w' ⟨rfl, hO1, hg1⟩
      refine ⟨rfl, ?_⟩
      have hds : (Sort.sort Sort.ltInt (gs.getD j default).2.toArray).size = (gs.getD j default).2.length := by rw [sort_size]; simp
      refine (call_compact (T := T) (d := Sort.sort Sort.ltInt (gs.getD j default).2.toArray) (by rw [hds]; exact (hz j hj).2) (by rw [hds]; exact List.length_pos_iff.2 (hz j hj).1) hO1 (hTn w' hg1) (by have := hbase j hj; have := hg1.size; omega)).mono ?_
      rintro e2 w'' ⟨v', g', rfl, hO2, hg', hg2⟩
      refine ⟨v', rfl, ?_⟩
      have hg12 : wn.grownBy w'' (some (blk j)) := ⟨hg2.os.trans hg1.os, hg2.tape.trans hg1.tape, hg2.output.trans hg1.output, Nat.le_trans hg1.size hg2.size, fun b hb hne => (hg2.block b (Nat.lt_of_lt_of_le hb hg1.size) hne).trans (hg1.block b hb hne)⟩
      have hmj : m ≠ blk j := by have := hbase j hj; omega
      have hm2 : w''.heap[m]? = some (.map es clock) := (hg12.block m (by rw [ns]; omega) (by simpa using hmj)).trans ((no m (by omega)).trans hG.heap)
      have hg'b : base ≤ g' := by obtain ⟨_, _, _, _, h2, _⟩ := hO2; exact h2
      have hg'l : g' < w''.heap.size := by obtain ⟨_, _, _, _, _, h3, _⟩ := hO2; exact lt_of_block h3
      have hg'r : g' ≠ r := by
        rcases hg' with rfl | h3
        · exact hbj1
        · have := hg1.size; omega
      have hf : Instr.findNow (.int .i64) (.int .i64 (gs.getD j default).1) es.toList 0 = some (some (j, (es.getD j default).val)) := by
        rcases hG.find (gs.getD j default).1 with ⟨hn, -⟩ | ⟨i, hi, hi2, hf⟩
        · refine absurd ?_ hn
          refine List.mem_map.2 ⟨(gAt gs born seen).getD j default, ?_, by rw [hgj]⟩
          simp [List.getD, hjl]
        · rw [gAt_len] at hi
          rw [gAt_get hi] at hi2
          have := hk i j hi hj hi2
          subst this
          exact hf
      obtain ⟨es', hup, hG', hbn⟩ := hG.set (w1 := w'') (c := (gs.getD j default).1) (i := j) (u := (es.getD j default).val) (v := v') (g := g') (zs := finZ (gs.getD j default).2) hjl (by rw [hgj]) hf hm2
        (fun o => hO2.kept (by simp [Array.getElem?_setIfInBounds_ne (show m ≠ g' by omega)]))
        (fun o i hi hij => (hG.val i hi).kept (by
          rw [gAt_len] at hi
          have h1 := hbase i hi
          have h2 : blk i ≠ blk j := fun e => hij (hG.apart i j (by rw [gAt_len]; exact hi) hjl e)
          obtain ⟨h3, h4⟩ := hblk i hi
          show (w''.heap.setIfInBounds m o)[blk i]? = _
          rw [Array.getElem?_setIfInBounds_ne (show m ≠ blk i by omega), hg12.block (blk i) (by rw [ns]; exact h4) (by simpa using h2), no _ h3]))
        (fun i hi hij => by
          rw [gAt_len] at hi
          have h2 : blk i ≠ blk j := fun e => hij (hG.apart i j (by rw [gAt_len]; exact hi) hjl e)
          have h4 := (hblk i hi).2
          rcases hg' with rfl | h3
          · exact h2
          · have := hg1.size; omega)
      refine ⟨_, seen.push (born j), hup, ⟨⟨es', fun i => if i = j then g' else blk i, ?_, fun i hi => (hbn i (by rw [gAt_len]; exact hi)).trans (hborn i hi), fun i hi => ?_⟩, ?_, ?_, hmb, hbr, hwm⟩, unseen_push hj hs⟩
      · rw [gAt_push hj (fun i hi e => hbi i j hi hj e)]
        exact hG'
      · show (if i = j then g' else blk i) ≠ r ∧ (if i = j then g' else blk i) < _
        by_cases e : i = j
        · rw [if_pos e]; exact ⟨hg'r, by simpa using hg'l⟩
        · rw [if_neg e]
          refine ⟨(hblk i hi).1, ?_⟩
          have := (hblk i hi).2; have := hg12.size; simp; omega
      · show (w''.heap.setIfInBounds m _)[r]? = _
        rw [Array.getElem?_setIfInBounds_ne (show m ≠ r by omega), hg12.block r (by rw [ns]; exact hrlt) (by simpa using Ne.symm hbj1), nr]
      · refine ⟨hg12.os.trans hgn.os, hg12.tape.trans hgn.tape, hg12.output.trans hgn.output, by simp; exact Nat.le_trans hgn.size hg12.size, fun b hb _ => ?_⟩
        show (w''.heap.setIfInBounds m _)[b]? = _
        have := hbase j hj
        rw [Array.getElem?_setIfInBounds_ne (show m ≠ b by omega), hg12.block b (Nat.lt_of_lt_of_le hb hgn.size) (by simp; omega), hgn.block b hb (by simp)]
def muOf (r n : Nat) (born : Nat → Nat) (w : World) : Nat := match w.heap[r]? with
  | some (.mapIter _ _ seen _) => unseen n born seen
  | _ => 0
theorem Mid.mu {w wr : World} {m base r clock n : Nat} {gs : GI} {born : Nat → Nat} {seen : Array Nat} (h : Mid w m base r clock gs born seen wr) : muOf r n born wr = unseen n born seen := by
  rw [muOf, h.iter]
theorem gAt_nil {gs : GI} {born : Nat → Nat} : gAt gs born #[] = gs := by
  refine List.ext_getElem (by simp [gAt]) fun j h1 h2 => ?_
  simp [gAt, List.getD, h2]
theorem gAt_all {gs : GI} {born : Nat → Nat} {seen : Array Nat} (h : ∀ j, j < gs.length → seen.contains (born j) = true) : gAt gs born seen = gs.map fun p => (p.1, finZ p.2) := by
  refine List.ext_getElem (by simp [gAt]) fun j h1 h2 => ?_
  have hj : j < gs.length := by simpa using h2
  have := h j hj
  simp only [gAt, List.getElem_map, List.getElem_range, this, if_true]
  simp [List.getD, hj]
theorem Mid.start {w wr : World} {m base clock : Nat} {gs : GI} {es : Array MapEntry} {blk : Nat → Nat} (hG : Grp (O1 base) wr m gs es clock blk) (hz : ∀ j, j < gs.length → (gs.getD j default).2.length ≤ 536870912)
    (hgr : w.grownBy wr none) (hmb : m < base) (hb : base ≤ wr.heap.size) (hwm : w.heap.size ≤ m) :
    Mid w m base wr.heap.size clock gs (fun j => (es.getD j default).born) #[] (wr.alloc (.mapIter (some m) clock #[] clock)) := by
  refine ⟨⟨es, blk, ?_, fun j hj => rfl, fun j hj => ?_⟩, heap_alloc_new _ _, hgr.trans (World.grownBy_alloc _ _ _), hmb, hb, hwm⟩
  · rw [gAt_nil]
    exact ⟨(heap_alloc_old _ _ (lt_of_block hG.heap)).trans hG.heap, hG.st, hG.size, hG.key, fun i hi => ((hG.val i hi).O2 (hz i hi)).kept (heap_alloc_old _ _ (hG.val i hi).lt.2), hG.apart⟩
  · have := (hG.val j hj).lt
    exact ⟨by omega, by simp; omega⟩
end Go.Ab
namespace Go.Ab
open Go Go.Proofs Go.MapKept Go.RowKit Go.WideMaps Go.Maps
set_option linter.unusedVariables false
set_option linter.unusedSimpArgs false
section
variable {P : Program} (w : World) {ops : Array Oper} {rest : List Oper} {o : Oper} {a : Act} {Q : Exit → Act → World → Prop}
theorem wpList_lookup_run (hg : o.guard = none) (m x : Operand) (t : TypeId) (hop : o.op = Op.lookup t m x false) {mv xv v : Value} (hm : a.eval m = mv) (hx : a.eval x = xv)
    (hrun : (Instr.lookup t mv xv false).run P w = .ok v w) (hK : wpList P ops Q rest (a.put o.dst v) w) : wpList P ops Q (o :: rest) a w := by
  refine wpList_plain hg fun K' hK' => ?_
  unfold Oper.wp
  simp [execOp, hop, hm, hx, hrun, Result.andThen]
  exact hK' _ _ hK
theorem wpList_mapUpdate_run (hg : o.guard = none) (m x v : Operand) (t : TypeId) (hop : o.op = Op.mapUpdate t m x v) {mv xv vv : Value} {w' : World} (hm : a.eval m = mv) (hx : a.eval x = xv) (hv : a.eval v = vv)
    (hrun : (Instr.mapUpdate t mv xv vv).run P w = .ok () w') (hK : wpList P ops Q rest (a.put o.dst undef) w') : wpList P ops Q (o :: rest) a w := by
  refine wpList_plain hg fun K' hK' => ?_
  unfold Oper.wp
  simp [execOp, hop, hm, hx, hv, hrun, Result.andThen]
  exact hK' _ _ hK
end
theorem rk_info3 : (Tryz.prog.info? 3).map (fun i => (i.zero, i.size, i.bytes)) = some (some (.int .i64 0), 1, 8) := by kernel_rfl
variable {T : Nat → Obj → Prop}
theorem gs_ok {cell rank : List Int} (hl : cell.length ≤ 536870912) : ∀ j, j < (gsOf cell rank cell.length).length → ((gsOf cell rank cell.length).getD j default).2 ≠ [] ∧ ((gsOf cell rank cell.length).getD j default).2.length ≤ 536870912 := by
  intro j hj
  have hm : (gsOf cell rank cell.length).getD j default ∈ gsOf cell rank cell.length := by simp [List.getD, hj]
  obtain ⟨c, hc, e⟩ := List.mem_map.1 hm
  rw [← e]
  refine ⟨fun h => ?_, Nat.le_trans inC_len hl⟩
  rw [List.take_length] at hc
  obtain ⟨i, hi, h2⟩ := mem_at0.1 (mem_keysOf.1 hc)
  have : at0 rank i ∈ inC rank cell cell.length c := List.mem_map.2 ⟨i, List.mem_filter.2 ⟨List.mem_range.2 hi, by simpa using h2⟩, rfl⟩
  rw [show inC rank cell cell.length c = [] from h] at this
  cases this
theorem gs_keys {cell rank : List Int} : ∀ i j, i < (gsOf cell rank cell.length).length → j < (gsOf cell rank cell.length).length → ((gsOf cell rank cell.length).getD i default).1 = ((gsOf cell rank cell.length).getD j default).1 → i = j := by
  intro i j hi hj e
  have hn : ((gsOf cell rank cell.length).map Prod.fst).Nodup := by rw [gsOf_keys]; exact nodup_keysOf
  have hi' : i < ((gsOf cell rank cell.length).map Prod.fst).length := by simpa using hi
  have hj' : j < ((gsOf cell rank cell.length).map Prod.fst).length := by simpa using hj
  refine (List.getElem_inj (h₀ := hi') (h₁ := hj') hn).1 ?_
  simpa [List.getD, hi, hj] using e
set_option maxHeartbeats 4000000 in
set_option maxRecDepth 100000 in
theorem ranks_walk (b1 o1 cap1 b2 o2 cap2 n2 : Nat) (cell rank : List Int) (w : World) (hn : 0 < cell.length) (hn2 : cell.length ≤ n2) (hl : cell.length ≤ 536870912)
    (hT : ∀ b o, T b o → w.heap[b]? = some o) (hb1 : b1 < w.heap.size) (hb2 : b2 < w.heap.size)
    (hc1 : ∀ j, j < cell.length → w.cell? ⟨b1, o1 + j, none⟩ = some (.int .i64 (at0 cell j))) (hc2 : ∀ j, j < cell.length → w.cell? ⟨b2, o2 + j, none⟩ = some (.int .i64 (at0 rank j))) :
    Calls Tryz.prog 39 #[.slice (some ⟨b1, o1, none⟩) cell.length cap1, .slice (some ⟨b2, o2, none⟩) n2 cap2] w fun e w' => e = .returned (.map (some w.heap.size)) ∧ w.grownBy w' none ∧ ∃ es clock blk, Grp (O2 (w.heap.size + 1)) w' w.heap.size ((gsOf cell rank cell.length).map fun p => (p.1, finZ p.2)) es clock blk := by
  have hmm := @run_makeMap Tryz.prog
  obtain ⟨i0, hi, hz0, hz1, hz2⟩ := info_parts rk_info3
  go_enter Tryz.func39, Tryz.ntmps39
  go_wp2
  go_loopw [13] (fun i wr => ∃ k : Nat, k ≤ cell.length ∧ i = .int .i64 k ∧ ∃ es clock blk, Grp (O1 (w.heap.size + 1)) wr w.heap.size (gsOf cell rank k) es clock blk ∧ w.grownBy wr none ∧ w.heap.size + 1 ≤ wr.heap.size)
    (fun i _ => cell.length - (RowKit.intOf i).toNat)
  case atStart =>
    refine ⟨0, Nat.zero_le _, rfl, #[], 0, fun _ => 0, ?_, World.grownBy_alloc _ _ _, by simp⟩
    exact ⟨heap_alloc_new _ _, ⟨fun i j hi => by simp at hi, fun i hi => by simp at hi⟩, rfl, fun i hi => by simp [gsOf, keysOf] at hi, fun i hi => by simp [gsOf, keysOf] at hi, fun i j hi => by simp [gsOf, keysOf] at hi⟩
  case round =>
    obtain ⟨k, hk, rfl, es, clock, blk, hG, hgr, hsz⟩ := hrel
    have hcx1 : k < cell.length → wr.cell? ⟨b1, o1 + k, none⟩ = some (.int .i64 (at0 cell k)) := fun hlt => (cell_same (hgr.block b1 hb1 (by simp))).trans (hc1 k hlt)
    have hcx2 : k < cell.length → wr.cell? ⟨b2, o2 + k, none⟩ = some (.int .i64 (at0 rank k)) := fun hlt => (cell_same (hgr.block b2 hb2 (by simp))).trans (hc2 k hlt)
    obtain ⟨v, zs, tgt, hvm, hlook, hown, hcase, hback⟩ := hG.look1 (Nat.lt_succ_self _) (at0 cell k)
    have hmw : w.heap.size < wr.heap.size := by omega
    have hzl : zs.length ≤ k := by
      rcases hcase with ⟨i, hi1, -, rfl, -⟩ | ⟨-, rfl, -⟩
      · have : (gsOf cell rank k).getD i default ∈ gsOf cell rank k := by simp [List.getD, hi1]
        obtain ⟨c, -, hc⟩ := List.mem_map.1 this
        rw [← hc]; exact inC_len
      · simp
    have hvb : ∀ b, b < w.heap.size → some b ≠ v.ownBlock := fun b hb e => by have := (hown.lt b e.symm).1; omega
    have hik0 : (0 : Int) ≤ (k : Int) := Int.natCast_nonneg _
    have hik1 : k < cell.length → (k : Int) < (n2 : Int) := fun h => by omega
    have hbk : k < cell.length → ∀ w1 gg cap o, (wr.drew.alloc o).grownBy w1 v.ownBlock → w1.ownsRow (w.heap.size + 1) 3 1 (.slice (some ⟨gg, 0, none⟩) (zs.length + 1) cap) (zs.length + 1) (zs.map (Value.int .i64) ++ [.int .i64 (at0 rank k)]) → (v.ownBlock = some gg ∨ gg = wr.heap.size + 1) →
        ∃ w2 es' clock' blk', (Instr.mapUpdate 62 (.map (some w.heap.size)) (.int .i64 (at0 cell k)) (.slice (some ⟨gg, 0, none⟩) (zs.length + 1) cap)).run Tryz.prog w1 = .ok () w2 ∧ Grp (O1 (w.heap.size + 1)) w2 w.heap.size (gsOf cell rank (k + 1)) es' clock' blk' ∧ w.grownBy w2 none ∧ w.heap.size + 1 ≤ w2.heap.size := by
      intro hlt w1 gg cap o hgrow hown1 hat
      have h1 : wr.drew.grownBy w1 v.ownBlock := (World.grownBy_alloc wr.drew _ _).trans hgrow
      obtain ⟨w2, es', clock', blk', q1, q2, q3⟩ := hback w1 _ _ ⟨h1.os, h1.tape, h1.output, h1.size, h1.block⟩ hown1 (hat.elim (fun h => .inl h.symm) (fun h => .inr (.inr ⟨gg, rfl, by omega⟩)))
      have hs1 : wr.heap.size ≤ w1.heap.size := h1.size
      have hs2 := q3.size
      refine ⟨w2, es', clock', blk', q1, ?_, ⟨q3.os.trans (h1.os.trans hgr.os), q3.tape.trans (h1.tape.trans hgr.tape), q3.output.trans (h1.output.trans hgr.output), by omega, fun b hb _ => ?_⟩, by omega⟩
      · rcases hcase with ⟨i, hi1, hi2, rfl, rfl⟩ | ⟨hn1, rfl, rfl⟩
        · rw [gs_old hlt hi1 hi2]; exact q2
        · rw [gs_new hlt hn1]; exact q2
      · exact (q3.block b (by omega) (by simp; omega)).trans ((h1.block b (show b < wr.heap.size by omega) (hvb b hb)).trans (hgr.block b hb (by simp)))
    have hrange := run_range_map (P := Tryz.prog) wr 62 3 34 w.heap.size es clock Tryz.underlying62 hG.heap
    go_wp2_with fail
    · clear hrange
      have hlt : k < cell.length := by assumption
      have hik1 := hik1 hlt
      have hl0 : (Instr.lookup 62 (.map (some w.heap.size)) (.int .i64 (at0 cell k)) false).run Tryz.prog wr.drew = .ok v wr.drew := hlook _ rfl
      have hl1 : ∀ o, (Instr.lookup 62 (.map (some w.heap.size)) (.int .i64 (at0 cell k)) false).run Tryz.prog (wr.drew.alloc o) = .ok v (wr.drew.alloc o) := fun o => hlook _ (heap_alloc_old _ _ hmw)
      have hb2r : b2 < wr.heap.size := by omega
      have hl2 : ∀ o, (Instr.lookup 62 (.map (some w.heap.size)) (.int .i64 (at0 cell k)) false).run Tryz.prog (wr.alloc o).drew = .ok v (wr.alloc o).drew := fun o => hlook _ (heap_alloc_old _ _ hmw)
      have hc2k := hcx2 hlt
      go_region_law
        ((refine step_append_lies _ (by rfl) _ _ _ (by rfl) (w.heap.size + 1) 3 i0 _ 1 8 Tryz.underlying34 hi hz0 hz1 hz2 rfl (by omega) v zs.length (zs.map (Value.int .i64)) (by rfl) (hown.drew.alloc _)
            ⟨wr.heap.size, 0, none⟩ 1 1 [.int .i64 (at0 rank k)] (by rfl) (by rfl) (World.news_of_block (cs := #[.int .i64 (at0 rank k)]) (t := 3) (fr := (0, 0)) (heap_alloc_new _ _)) (by simp [Value.oneCell'])
            (by omega) (by unfold maxLen; omega) (by omega) (by simp; omega) (wr.heap.size + 1) (by simp) ?_; intro gg cap w1 hown1 hgrow hat hlt1; obtain ⟨w2, es', clock', blk', hup, hG2, hgr2, hsz2⟩ := hbk hlt w1 gg cap _ hgrow hown1 hat))
      all_goals
        clear hup hl0 hl1 hl2
        go_wp2
        go_roundw
        case rel =>
          exact ⟨k + 1, by omega, by go_num, es', clock', blk', hG2, hgr2, hsz2⟩
        case measure => simp [RowKit.intOf]; omega
    · have hke : k = cell.length := by omega
      subst hke
      have hz : ∀ j, j < (gsOf cell rank cell.length).length → ((gsOf cell rank cell.length).getD j default).2 ≠ [] ∧ ((gsOf cell rank cell.length).getD j default).2.length ≤ 536870912 := gs_ok hl
      have hk : ∀ i j, i < (gsOf cell rank cell.length).length → j < (gsOf cell rank cell.length).length → ((gsOf cell rank cell.length).getD i default).1 = ((gsOf cell rank cell.length).getD j default).1 → i = j := gs_keys
      have hM := Mid.start hG (fun j hj => (hz j hj).2) hgr (Nat.lt_succ_self _) hsz (Nat.le_refl _)
      generalize hborn : (fun j => (es.getD j default).born) = born at hM
      generalize hrr : wr.heap.size = r at hM
      clear hback hbk hlook hcase hrange hG
      rw [show decide (cell.length < cell.length) = false by simp]
      go_loopw [8] (fun _ wr2 => ∃ seen, Mid w w.heap.size (w.heap.size + 1) r clock (gsOf cell rank cell.length) born seen wr2) (fun _ wr2 => muOf r (gsOf cell rank cell.length).length born wr2)
      case atStart => exact ⟨#[], hM⟩
      case round =>
        obtain ⟨seen, hM2⟩ := hrel
        rcases hM2.round (T := T) 0 hT hk hz with ⟨hnext, hall⟩ | ⟨c, v, wn, hnext, hentry, hcalls⟩
        · go_wp2
          go_ret
          refine ⟨rfl, hM2.grown, ?_⟩
          obtain ⟨es2, blk2, h1, -⟩ := hM2.ex
          rw [gAt_all hall] at h1
          exact ⟨es2, _, blk2, h1⟩
        · go_wp2_with (first
            | (go_at_call 68; refine hcalls.mono ?_; rintro e w' ⟨rfl, hcomp⟩)
            | (go_at_call 69; refine hcomp.mono ?_; rintro e w'' ⟨v', rfl, wz, seen', hup, hMz, hlt⟩))
          go_roundw
          case rel => exact ⟨seen', hMz⟩
          case measure => rw [hMz.mu, hM2.mu]; exact hlt
end Go.Ab
namespace Go.Ab
open Go Go.Proofs Go.MapKept
set_option linter.unusedVariables false
set_option linter.unusedSimpArgs false
section
variable {α : Type} [Inhabited α] [DecidableEq α]
theorem dd_mem {d : Array α} {x : α} : ∀ {n : Nat}, x ∈ ddA d n ↔ ∃ i, i < n ∧ d[i]! = x
  | 0 => by simp [ddA]
  | n + 1 => by
    rw [ddA]
    constructor
    · intro h
      split at h
      · obtain ⟨i, h1, h2⟩ := dd_mem.1 h
        exact ⟨i, by omega, h2⟩
      · rcases List.mem_append.1 h with h | h
        · obtain ⟨i, h1, h2⟩ := dd_mem.1 h
          exact ⟨i, by omega, h2⟩
        · exact ⟨n, by omega, by simp at h; exact h.symm⟩
    · rintro ⟨i, h1, h2⟩
      split
      · rename_i hc
        by_cases e : i = n
        · subst e
          exact dd_mem.2 ⟨i - 1, by omega, by rw [← hc.2]; exact h2⟩
        · exact dd_mem.2 ⟨i, by omega, h2⟩
      · by_cases e : i = n
        · subst e; exact List.mem_append.2 (.inr (by simp [h2]))
        · exact List.mem_append.2 (.inl (dd_mem.2 ⟨i, by omega, h2⟩))
theorem dd_pair {lt : α → α → Bool} {d : Array α} (hs : ∀ i j, i < j → j < d.size → lt d[j]! d[i]! = false) (tri : ∀ x y, lt x y = false → lt y x = false → x = y) : ∀ {n : Nat}, n ≤ d.size → (ddA d n).Pairwise fun x y => lt x y = true
  | 0, _ => List.Pairwise.nil
  | n + 1, h => by
    rw [ddA]
    split
    · exact dd_pair hs tri (by omega)
    · rename_i hc
      refine List.pairwise_append.2 ⟨dd_pair hs tri (by omega), List.pairwise_singleton _ _, fun x hx y hy => ?_⟩
      obtain ⟨i, hi, rfl⟩ := dd_mem.1 hx
      have hy : y = d[n]! := by simpa using hy
      subst hy
      cases hb : lt d[i]! d[n]! with
      | true => rfl
      | false =>
        have e1 := tri _ _ hb (hs i n hi (by omega))
        refine absurd ⟨by omega, ?_⟩ hc
        by_cases e : i = n - 1
        · rw [← e]; exact e1.symm
        · refine (tri _ _ ?_ ?_)
          · exact hs (n - 1) n (by omega) (by omega)
          · rw [← e1]; exact hs i (n - 1) (by omega) (by omega)
theorem pair_ext {R : α → α → Prop} (irr : ∀ x, ¬R x x) (tr : ∀ x y z, R x y → R y z → R x z) : ∀ {l l' : List α}, l.Pairwise R → l'.Pairwise R → (∀ x, x ∈ l ↔ x ∈ l') → l = l'
  | [], [], _, _, _ => rfl
  | [], y :: l', _, _, h => by have := (h y).2 (by simp); cases this
  | x :: l, [], _, _, h => by have := (h x).1 (by simp); cases this
  | x :: l, y :: l', h1, h2, h => by
    obtain ⟨a1, a2⟩ := List.pairwise_cons.1 h1
    obtain ⟨b1, b2⟩ := List.pairwise_cons.1 h2
    have hxy : x = y := by
      rcases List.mem_cons.1 ((h x).1 (by simp)) with e | hx
      · exact e
      · rcases List.mem_cons.1 ((h y).2 (by simp)) with e | hy
        · exact e.symm
        · exact absurd (tr _ _ _ (a1 y hy) (b1 x hx)) (irr x)
    subst hxy
    rw [pair_ext irr tr a2 b2 fun z => ?_]
    constructor
    · intro hz
      rcases List.mem_cons.1 ((h z).1 (List.mem_cons_of_mem _ hz)) with rfl | h3
      · exact absurd (a1 z hz) (irr z)
      · exact h3
    · intro hz
      rcases List.mem_cons.1 ((h z).2 (List.mem_cons_of_mem _ hz)) with rfl | h3
      · exact absurd (b1 z hz) (irr z)
      · exact h3
end
theorem sort_mem {α : Type} [Inhabited α] {lt : α → α → Bool} (hS : Sort.SWO lt) (d : Array α) : (Sort.sort lt d).toList.Perm d.toList := by
  obtain ⟨⟨h1, -, h2⟩, -⟩ := Sort.sort_sorts lt hS d
  have e1 : (Sort.sort lt d).extract 0 d.size = Sort.sort lt d := by rw [← h1]; simp
  have e2 : d.extract 0 d.size = d := by simp
  rwa [e1, e2] at h2
theorem mem_get {α : Type} [Inhabited α] {d : Array α} {x : α} : x ∈ d.toList ↔ ∃ i, i < d.size ∧ d[i]! = x := by
  constructor
  · intro h
    obtain ⟨i, hi, rfl⟩ := List.getElem_of_mem h
    rw [Array.length_toList] at hi
    exact ⟨i, hi, by simp [hi]⟩
  · rintro ⟨i, hi, rfl⟩
    rw [show d[i]! = d.toList[i]'(by simpa using hi) by simp [hi]]
    exact List.getElem_mem _
theorem finZ_eq (zs : List Int) : finZ zs = sortD zs := by
  have hS := Sort.swo_ltInt
  obtain ⟨⟨h1, -, -⟩, h3⟩ := Sort.sort_sorts Sort.ltInt hS zs.toArray
  refine pair_ext (R := (· < ·)) (fun x => Int.lt_irrefl x) (fun x y z => Int.lt_trans) ?_ rising_sortD fun x => ?_
  · have := dd_pair (lt := Sort.ltInt) (d := Sort.sort Sort.ltInt zs.toArray) (fun i j hij hj => h3 i j (Nat.zero_le _) hij (by rw [← h1]; exact hj)) (fun x y a b => by simp only [Sort.ltInt, decide_eq_false_iff_not] at a b; omega) (Nat.le_refl _)
    exact this.imp fun h => by simpa [Sort.ltInt] using h
  · rw [mem_sortD, finZ, dd_mem, ← mem_get, (sort_mem hS zs.toArray).mem_iff]
end Go.Ab
namespace Go.Ab
open Go Go.Proofs Go.MapKept Go.RowKit Go.WideMaps Go.Maps
set_option linter.unusedVariables false
set_option linter.unusedSimpArgs false
variable {T : Nat → Obj → Prop}
set_option maxRecDepth 100000 in
theorem ranks_none (a : Option Addr) (cap : Nat) (vb : Value) (w : World) :
    Calls Tryz.prog 39 #[.slice a 0 cap, vb] w fun e w' => e = .returned (.map (some w.heap.size)) ∧ w.grownBy w' none ∧ w'.heap[w.heap.size]? = some (.map #[] 0) := by
  have hmm := @run_makeMap Tryz.prog
  have hrange := run_range_map (P := Tryz.prog) (w.alloc (.map #[] 0)) 62 3 34 w.heap.size #[] 0 Tryz.underlying62 (heap_alloc_new _ _)
  have hnext : (Instr.next (.pointer (some ⟨w.heap.size + 1, 0, none⟩)) false 0).run Tryz.prog ((w.alloc (.map #[] 0)).alloc (.mapIter (some w.heap.size) 0 #[] 0)) = .ok (.tuple #[.bool false]) ((w.alloc (.map #[] 0)).alloc (.mapIter (some w.heap.size) 0 #[] 0)) := by
    rcases run_next_at (P := Tryz.prog) ((w.alloc (.map #[] 0)).alloc (.mapIter (some w.heap.size) 0 #[] 0)) 0 (w.heap.size + 1) w.heap.size 0 0 #[] #[] 0 (by have := heap_alloc_new (w.alloc (.map #[] 0)) (.mapIter (some w.heap.size) 0 #[] 0); simpa using this)
      ((heap_alloc_old _ _ (by simp)).trans (heap_alloc_new _ _)) (by simp) (Nat.le_refl _) with ⟨-, h⟩ | ⟨e, he, -⟩
    · exact h
    · simp [leftOf] at he
  simp only [show (w.alloc (.map #[] 0)).heap.size = w.heap.size + 1 by simp] at hrange
  go_enter Tryz.func39, Tryz.ntmps39
  go_wp2
  refine wp_loop_rounds 1 ?_
  rw [rounds_succ]
  go_wp2
  refine wp_loop_rounds 1 ?_
  rw [rounds_succ]
  go_wp2
  go_ret
  exact ⟨rfl, (World.grownBy_alloc _ _ _).trans (World.grownBy_alloc _ _ _), (heap_alloc_old _ _ (by simp)).trans (heap_alloc_new _ _)⟩
theorem ranks_ok : RanksOk T := by
  intro cell rank hle h64
  refine fn_of_calls ⟨_, Tryz.func39, by decide, rfl⟩ fun B σ a w args hT hS hsz hargs => ?_
  have ha : args = #[args.getD 0 undef, args.getD 1 undef] := by
    apply Array.ext
    · simpa using hsz
    · intro i h1 h2
      match i, h2 with
      | 0, _ => simp [Array.getD, show 0 < args.size by omega]
      | 1, _ => simp [Array.getD, show 1 < args.size by omega]
  have h0 := hargs 0 (by simp)
  have h1 := hargs 1 (by simp)
  have fin : ∀ (e : Ending) (w' : World) (es : Array MapEntry) (clock : Nat) (blk : Nat → Nat), e = .returned (.map (some w.heap.size)) → w.grownBy w' none → Grp (O2 (w.heap.size + 1)) w' w.heap.size ((gsOf cell rank cell.length).map fun p => (p.1, finZ p.2)) es clock blk →
      ∃ v' σ', e = .returned v' ∧ Sim B (fun _ => .undef) (memG []) (fun i => ([] : List (Option Ob)).length ≤ i) σ' a w' ∧ VSim σ' (memG []) (fun i => ([] : List (Option Ob)).length ≤ i) (B.X σ' (memG [])) w' (.d (.map (ranksD cell rank))) v' ∧
        ∀ i ob, ([] : List Ob)[i]? = some ob → memG [] i = none ∨ (σ' i = σ i ∧ ∃ ob', memG [] i = some ob' ∧ Shape ob ob') := by
    intro e w' es clock blk he hg hG
    have hX : ∀ b, w.heap.size ≤ b → ¬B.X σ (memG []) b := by
      rintro b hb (h | ⟨id, h, -⟩)
      · have := hS.olt b h; omega
      · exact h (by simp [memG])
    have hgl : ((gsOf cell rank cell.length).map fun p => (p.1, finZ p.2)).length = (keysOf cell).length := by simp [gsOf]
    have hgd : ∀ i, i < (keysOf cell).length → ((gsOf cell rank cell.length).map fun p => (p.1, finZ p.2)).getD i default = ((keysOf cell).getD i 0, ranksOf cell rank ((keysOf cell).getD i 0)) := by
      intro i hi
      simp only [gsOf, List.take_length, List.map_map, List.getD, List.getElem?_map, List.getElem?_eq_getElem hi, Option.map_some, Option.getD_some, Function.comp, finZ_eq]
      rfl
    refine ⟨_, σ, he, ⟨fun t => .undef _, fun id ob h => by simp [memG] at h, fun i j b h => absurd (by simp [memG]) h, fun id b h => absurd (by simp [memG]) h, fun _ _ => by simp [memG], ?_, hS.nt, fun b hb => Nat.lt_of_lt_of_le (hS.olt b hb) hg.size, fun b o hp => (hg.block b (lt_of_block (hS.pins b o hp)) (by simp)).trans (hS.pins b o hp), fun id l h => by simp [memG] at h⟩, .d _ _ ?_, fun i ob h => by simp at h⟩
    · refine ⟨hg.os.trans hS.kept.os, hg.tape.trans hS.kept.tape, hg.output.trans hS.kept.output, Nat.le_trans hS.kept.size hg.size, fun b hb hR => (hg.block b (Nat.lt_of_lt_of_le hb hS.kept.size) (by simp)).trans (hS.kept.block b hb hR), fun b c e h => ?_⟩
      obtain ⟨c', h1, h2⟩ := hS.kept.cells b c e h
      exact ⟨c', (hg.block b (lt_of_block h1) (by simp)).trans h1, h2⟩
    · refine .map _ _ es clock (hX _ (Nat.le_refl _)) (lt_of_block hG.heap) hG.heap (by rw [hG.size, hgl]; simp) hG.st (fun i hi => ?_) (fun i hi => ?_)
      · rw [List.length_map] at hi
        rw [hG.key i (by rw [hgl]; exact hi), hgd i hi, show ((keysOf cell).map fun c => (D.int .i64 c, dI (ranksOf cell rank c))).getD i (.nil, .nil) = (D.int .i64 ((keysOf cell).getD i 0), dI (ranksOf cell rank ((keysOf cell).getD i 0))) by simp [List.getD, hi]]
        exact .int .i64 _ (by simp)
      · rw [List.length_map] at hi
        have hv := hG.val i (by rw [hgl]; exact hi)
        rw [hgd i hi] at hv
        rw [show ((keysOf cell).map fun c => (D.int .i64 c, dI (ranksOf cell rank c))).getD i (.nil, .nil) = (D.int .i64 ((keysOf cell).getD i 0), dI (ranksOf cell rank ((keysOf cell).getD i 0))) by simp [List.getD, hi]]
        simp only
        generalize ranksOf cell rank ((keysOf cell).getD i 0) = zs at hv
        replace hv : O2 (w.heap.size + 1) w' (es.getD i default).val (blk i) zs := hv
        obtain ⟨cap, c, e, q1, q2, q3, q4, q5, q6, q7⟩ := hv
        rw [q1]
        have hl : (zs.map (D.int .i64)).length = zs.length := List.length_map _
        rw [← hl]
        refine .arr 1 (zs.map (D.int .i64)) (blk i) 0 cap (fun j => c.getD j undef) (hX _ (by omega)) (lt_of_block q3) (fun x hx => ?_) (by omega) (by omega) (fun j hj => ?_) (fun j k hj hk => ?_)
        · obtain ⟨y, -, rfl⟩ := List.mem_map.1 hx; rfl
        · have hjc : j < c.size := by omega
          simp [World.cell?, q3, Array.getD_eq_getD_getElem?, hjc]
        · have : k = 0 := by omega
          subst this
          rw [hl] at hj
          rw [Nat.mul_one, Nat.add_zero]
          rw [q7 j hj, show (zs.map (D.int .i64)).getD j .nil = .int .i64 (zs.getD j 0) by simp [List.getD, hj]]
          exact .int .i64 _ (by simp)
  have read : ∀ (xs : List Int) (v : Value), xs ≠ [] → DSim (B.X σ (memG [])) w (dI xs) v → ∃ b off cap, v = .slice (some ⟨b, off, none⟩) xs.length cap ∧ b < w.heap.size ∧ ∀ j, j < xs.length → w.cell? ⟨b, off + j, none⟩ = some (.int .i64 (at0 xs j)) := by
    intro xs v hne hd
    unfold dI at hd
    have hl : (xs.map (D.int .i64)).length = xs.length := List.length_map _
    generalize hys : xs.map (D.int .i64) = ys at hd hl
    cases hd with
    | arr0 s a cap => exact absurd (List.eq_nil_of_length_eq_zero (by simpa using hl.symm)) hne
    | arr s _ b off cap cv g1 g2 g3 g4 g5 g6 g7 =>
      refine ⟨b, off, cap, by rw [hl], g2, fun j hj => ?_⟩
      have h6 := g6 j (by omega)
      have h7 := g7 j 0 (by omega) (by omega)
      rw [Nat.mul_one, Nat.add_zero, ← hys, show (xs.map (D.int .i64)).getD j .nil = .int .i64 (at0 xs j) by simp [List.getD, at0, hj]] at h7
      rw [h6]
      generalize cv j = z at h7
      cases h7; rfl
  rw [ha]
  have e0 : ([V.d (dI cell), V.d (dI rank)].getD 0 .undef) = .d (dI cell) := rfl
  have e1 : ([V.d (dI cell), V.d (dI rank)].getD 1 .undef) = .d (dI rank) := rfl
  rw [e0] at h0
  rw [e1] at h1
  generalize args.getD 0 undef = va at h0
  generalize args.getD 1 undef = vb at h1
  cases h0 with
  | d _ _ hd0 =>
  cases h1 with
  | d _ _ hd1 =>
  by_cases hc : cell = []
  · subst hc
    have hv : ∃ a' cap, va = .slice a' 0 cap := by
      unfold dI at hd0
      cases hd0 with
      | arr0 s a' cap => exact ⟨a', cap, rfl⟩
      | arr s _ b off cap cv => exact ⟨_, cap, rfl⟩
    obtain ⟨a', cap, rfl⟩ := hv
    refine (ranks_none a' cap vb w).mono ?_
    rintro e w' ⟨he, hg, hh⟩
    exact fin e w' #[] 0 (fun _ => 0) he hg ⟨hh, ⟨fun i j hi => by simp at hi, fun i hi => by simp at hi⟩, rfl, fun i hi => by simp [gsOf, keysOf] at hi, fun i hi => by simp [gsOf, keysOf] at hi, fun i j hi => by simp [gsOf, keysOf] at hi⟩
  · have hpos : 0 < cell.length := List.length_pos_iff.2 hc
    obtain ⟨b1, o1, cap1, rfl, l1, c1⟩ := read cell va hc hd0
    obtain ⟨b2, o2, cap2, rfl, l2, c2⟩ := read rank vb (fun e => by rw [e] at hle; simp at hle; exact hc (List.eq_nil_of_length_eq_zero (by simp [hle]))) hd1
    refine (ranks_walk (T := T) b1 o1 cap1 b2 o2 cap2 rank.length cell rank w hpos hle (by omega) (fun b o ht => hS.pins b o (hT b o ht)) l1 l2 c1 (fun j hj => c2 j (by omega))).mono ?_
    rintro e w' ⟨he, hg, es, clock, blk, hG⟩
    exact fin e w' es clock blk he hg hG
end Go.Ab
namespace Go.Ab
open Go Go.Proofs Go.MapKept
set_option linter.unusedVariables false
theorem Sim.grown {B : Base} {ρ : Nat → V} {M : Nat → Option Ob} {F : Nat → Prop} {σ : Nat → Option Nat} {a : Act} {w w' : World} (h : Sim B ρ M F σ a w) (hg : w.grownBy w' none) : Sim B ρ M F σ a w' := by
  refine h.step ⟨fun id ob hid => .inr ⟨rfl, ob, hid, Shape.refl ob⟩, fun id h1 h2 => ⟨h1, h2⟩, hg.size, fun b _ hb => hg.block b hb (by simp), fun b _ hx => hx, fun id b c e _ _ hc => ⟨c, (hg.block b (lt_of_block hc) (by simp)).trans hc, rfl⟩⟩
    (fun id ob hid => .inl ⟨hid, rfl, fun b hb => ?_⟩) h.inj h.mine h.free ?_ (fun b hb => hg.block b (h.olt b hb) (by simp)) (fun _ _ h => h)
  · obtain ⟨o, ho⟩ := (h.mem id ob hid).block hb
    exact hg.block b (lt_of_block ho) (by simp)
  · refine ⟨hg.os.trans h.kept.os, hg.tape.trans h.kept.tape, hg.output.trans h.kept.output, Nat.le_trans h.kept.size hg.size, fun b hb hR => (hg.block b (Nat.lt_of_lt_of_le hb h.kept.size) (by simp)).trans (h.kept.block b hb hR), fun b c e hc => ?_⟩
    obtain ⟨c', h1, h2⟩ := h.kept.cells b c e hc
    exact ⟨c', (hg.block b (lt_of_block h1) (by simp)).trans h1, h2⟩
theorem ranks_map {w w' : World} {X : Nat → Prop} {cell rank : List Int} {es : Array MapEntry} {clock : Nat} {blk : Nat → Nat} (hX : ∀ b, w.heap.size ≤ b → ¬X b)
    (hG : Grp (O2 (w.heap.size + 1)) w' w.heap.size ((gsOf cell rank cell.length).map fun p => (p.1, finZ p.2)) es clock blk) : DSim X w' (.map (ranksD cell rank)) (.map (some w.heap.size)) := by
  have hgl : ((gsOf cell rank cell.length).map fun p => (p.1, finZ p.2)).length = (keysOf cell).length := by simp [gsOf]
  have hgd : ∀ i, i < (keysOf cell).length → ((gsOf cell rank cell.length).map fun p => (p.1, finZ p.2)).getD i default = ((keysOf cell).getD i 0, ranksOf cell rank ((keysOf cell).getD i 0)) := by
    intro i hi
    simp only [gsOf, List.take_length, List.map_map, List.getD, List.getElem?_map, List.getElem?_eq_getElem hi, Option.map_some, Option.getD_some, Function.comp, finZ_eq]
    rfl
  refine .map _ _ es clock (hX _ (Nat.le_refl _)) (lt_of_block hG.heap) hG.heap (by rw [hG.size, hgl]; simp) hG.st (fun i hi => ?_) (fun i hi => ?_)
  · rw [List.length_map] at hi
    rw [hG.key i (by rw [hgl]; exact hi), hgd i hi, show ((keysOf cell).map fun c => (D.int .i64 c, dI (ranksOf cell rank c))).getD i (.nil, .nil) = (D.int .i64 ((keysOf cell).getD i 0), dI (ranksOf cell rank ((keysOf cell).getD i 0))) by simp [List.getD, hi]]
    exact .int .i64 _ (by simp)
  · rw [List.length_map] at hi
    have hv := hG.val i (by rw [hgl]; exact hi)
    rw [hgd i hi] at hv
    rw [show ((keysOf cell).map fun c => (D.int .i64 c, dI (ranksOf cell rank c))).getD i (.nil, .nil) = (D.int .i64 ((keysOf cell).getD i 0), dI (ranksOf cell rank ((keysOf cell).getD i 0))) by simp [List.getD, hi]]
    simp only
    generalize ranksOf cell rank ((keysOf cell).getD i 0) = zs at hv
    replace hv : O2 (w.heap.size + 1) w' (es.getD i default).val (blk i) zs := hv
    obtain ⟨cap, c, e, q1, q2, q3, q4, q5, q6, q7⟩ := hv
    rw [q1]
    have hl : (zs.map (D.int .i64)).length = zs.length := List.length_map _
    rw [← hl]
    refine .arr 1 (zs.map (D.int .i64)) (blk i) 0 cap (fun j => c.getD j undef) (hX _ (by omega)) (lt_of_block q3) (fun x hx => ?_) (by omega) (by omega) (fun j hj => ?_) (fun j k hj hk => ?_)
    · obtain ⟨y, -, rfl⟩ := List.mem_map.1 hx; rfl
    · have hjc : j < c.size := by omega
      simp [World.cell?, q3, Array.getD_eq_getD_getElem?, hjc]
    · have : k = 0 := by omega
      subst this
      rw [hl] at hj
      rw [Nat.mul_one, Nat.add_zero]
      rw [q7 j hj, show (zs.map (D.int .i64)).getD j .nil = .int .i64 (zs.getD j 0) by simp [List.getD, hj]]
      exact .int .i64 _ (by simp)
end Go.Ab
namespace Go.Ab
open Go Go.Proofs Go.MapKept
set_option linter.unusedVariables false
variable {T : Nat → Obj → Prop}
theorem ranks_own {cell rank : List Int} (hle : cell.length ≤ rank.length) (h64 : rank.length ≤ 64) : Fn Tryz.prog T f_plaus_ranks [.own 0, .own 1] [rowI cell, rowI rank] (.d (.map (ranksD cell rank))) [some (rowI cell), some (rowI rank)] := by
  refine fn_of_calls ⟨_, Tryz.func39, by decide, rfl⟩ fun B σ a w args hT hS hsz hargs => ?_
  have ha : args = #[args.getD 0 undef, args.getD 1 undef] := by
    apply Array.ext
    · simpa using hsz
    · intro i h1 h2
      match i, h2 with
      | 0, _ => simp [Array.getD, show 0 < args.size by omega]
      | 1, _ => simp [Array.getD, show 1 < args.size by omega]
  have h0 := hargs 0 (by simp)
  have h1 := hargs 1 (by simp)
  have fin : ∀ (e : Ending) (w' : World) (es : Array MapEntry) (clock : Nat) (blk : Nat → Nat), e = .returned (.map (some w.heap.size)) → w.grownBy w' none → Grp (O2 (w.heap.size + 1)) w' w.heap.size ((gsOf cell rank cell.length).map fun p => (p.1, finZ p.2)) es clock blk →
      ∃ v' σ', e = .returned v' ∧ Sim B (fun _ => .undef) (memG [some (rowI cell), some (rowI rank)]) (fun i => 2 ≤ i) σ' a w' ∧ VSim σ' (memG [some (rowI cell), some (rowI rank)]) (fun i => 2 ≤ i) (B.X σ' (memG [some (rowI cell), some (rowI rank)])) w' (.d (.map (ranksD cell rank))) v' ∧
        ∀ i ob, [rowI cell, rowI rank][i]? = some ob → memG [some (rowI cell), some (rowI rank)] i = none ∨ (σ' i = σ i ∧ ∃ ob', memG [some (rowI cell), some (rowI rank)] i = some ob' ∧ Shape ob ob') := by
    intro e w' es clock blk he hg hG
    refine ⟨_, σ, he, hS.grown hg, .d _ _ (ranks_map (fun b hb => ?_) hG), fun i ob hi => .inr ⟨rfl, ob, ?_, Shape.refl ob⟩⟩
    · rintro (h | ⟨id, h, h2⟩)
      · have := hS.olt b h; omega
      · obtain ⟨ob, hob⟩ := Option.ne_none_iff_exists'.1 h
        obtain ⟨o, ho⟩ := (hS.mem id ob hob).block h2
        have := lt_of_block ho; omega
    · match i, hi with
      | 0, hi => simpa [memG] using hi
      | 1, hi => simpa [memG] using hi
  rw [ha]
  have m0 : memG ([rowI cell, rowI rank].map some) 0 = some (rowI cell) := rfl
  have m1 : memG ([rowI cell, rowI rank].map some) 1 = some (rowI rank) := rfl
  change VSim _ _ _ _ _ (.own 0) _ at h0
  change VSim _ _ _ _ _ (.own 1) _ at h1
  generalize args.getD 0 undef = va at h0
  generalize args.getD 1 undef = vb at h1
  have rd : ∀ {g : Nat} {v : Value} {xs : List Int}, O2 0 w v g xs → ∃ cap, v = .slice (some ⟨g, 0, none⟩) xs.length cap ∧ g < w.heap.size ∧ ∀ j, j < xs.length → w.cell? ⟨g, 0 + j, none⟩ = some (.int .i64 (at0 xs j)) := by
    rintro g v xs ⟨cap, c, e, q1, -, q3, q4, q5, -, q7⟩
    refine ⟨cap, q1, lt_of_block q3, fun j hj => ?_⟩
    have hjc : j < c.size := by omega
    have := q7 j hj
    rw [Array.getD_eq_getD_getElem?, Array.getElem?_eq_getElem hjc] at this
    simp only [Option.getD_some] at this
    simp [World.cell?, q3, hjc, this, at0]
  by_cases hc : cell = []
  · subst hc
    have hv : ∃ a' cap, va = .slice a' 0 cap := by
      cases h0 with
      | ownDead _ ad l c g1 => rw [m0] at g1; cases g1
      | ownNil => exact ⟨none, 0, rfl⟩
      | own _ s xs b cap c e g1 g2 g3 g4 g5 =>
        rw [m0] at g1
        simp only [rowI, Option.some.injEq, Ob.row.injEq] at g1
        obtain ⟨-, rfl⟩ := g1
        exact ⟨_, cap, rfl⟩
    obtain ⟨a', cap, rfl⟩ := hv
    refine (ranks_none a' cap vb w).mono ?_
    rintro e w' ⟨he, hg, hh⟩
    exact fin e w' #[] 0 (fun _ => 0) he hg ⟨hh, ⟨fun i j hi => by simp at hi, fun i hi => by simp at hi⟩, rfl, fun i hi => by simp [gsOf, keysOf] at hi, fun i hi => by simp [gsOf, keysOf] at hi, fun i j hi => by simp [gsOf, keysOf] at hi⟩
  · have hpos : 0 < cell.length := List.length_pos_iff.2 hc
    obtain ⟨g1, -, o1⟩ := row_out h0 (hS.mem 0 _ m0) m0 (by omega) hc
    obtain ⟨g2, -, o2⟩ := row_out h1 (hS.mem 1 _ m1) m1 (by omega) (fun e => by rw [e] at hle; simp at hle; exact hc hle)
    obtain ⟨cap1, rfl, l1, c1⟩ := rd o1
    obtain ⟨cap2, rfl, l2, c2⟩ := rd o2
    refine (ranks_walk (T := T) g1 0 cap1 g2 0 cap2 rank.length cell rank w hpos hle (by omega) (fun b o ht => hS.pins b o (hT b o ht)) l1 l2 c1 (fun j hj => c2 j (by omega))).mono ?_
    rintro e w' ⟨he, hg, es, clock, blk, hG⟩
    exact fin e w' es clock blk he hg hG
end Go.Ab
namespace Go.Ab
open Go Go.Proofs
set_option linter.unusedVariables false
set_option linter.unusedSimpArgs false
theorem nd_le {α:Type} [DecidableEq α] : ∀ {l l':List α},l.Nodup→(∀ x∈l,x∈l')→l.length≤l'.length
 | [],_,_,_=>Nat.zero_le _
 | x::t,l',h,hs=>by
  obtain ⟨h1,h2⟩:=List.nodup_cons.1 h
  have hx:=hs x (by simp)
  have:=nd_le (l:=t) (l':=l'.erase x) h2 fun y hy=>(List.mem_erase_of_ne (fun e=>h1 (by rw [← e];exact hy))).2 (hs y (List.mem_cons_of_mem _ hy))
  rw [List.length_erase_of_mem hx] at this
  have hp:=List.length_pos_of_mem hx
  simp only [List.length_cons];omega
theorem fin_mem {zs:List (BitVec 64)} {x:BitVec 64} : x∈finU zs↔x∈zs:=by
 rw [finU,dd_mem,← mem_get,(sort_mem swo_u64 zs.toArray).mem_iff]
theorem fin_nodup (zs:List (BitVec 64)):(finU zs).Nodup:=by
 obtain ⟨⟨h1,-,-⟩,h3⟩:=Sort.sort_sorts ltU swo_u64 zs.toArray
 have:=dd_pair (lt:=ltU) (d:=Sort.sort ltU zs.toArray) (fun i j hij hj=>h3 i j (Nat.zero_le _) hij (by rw [← h1];exact hj)) (fun x y a b=>by
  simp only [ltU,decide_eq_false_iff_not] at a b
  exact BitVec.eq_of_toNat_eq (by omega)) (Nat.le_refl _)
 exact this.imp fun h e=>by subst e;simp [ltU] at h
def rk (r:List (BitVec 64)) (w:Nat):Nat:=(finU (belowL r w r.length)).length
theorem mem_below {r:List (BitVec 64)} {w n:Nat} {x:BitVec 64} : x∈belowL r w n ↔ ∃ v,v < n∧rb r w v=true∧rb r v w=false∧uAt r v=x:=by
 unfold belowL
 rw [List.mem_map]
 constructor
 ·rintro ⟨v,h,rfl⟩
  rw [List.mem_filter,List.mem_range] at h
  simp only [Bool.and_eq_true,Bool.not_eq_true'] at h
  exact ⟨v,h.1,h.2.1,h.2.2,rfl⟩
 ·rintro ⟨v,h1,h2,h3,rfl⟩
  exact ⟨v,List.mem_filter.2 ⟨List.mem_range.2 h1,by simp [h2,h3]⟩,rfl⟩
theorem rk_le {r:List (BitVec 64)} {w v:Nat} (h : ∀ x,x∈belowL r w r.length→x∈belowL r v r.length):rk r w≤rk r v :=
 nd_le (fin_nodup _) fun x hx=>fin_mem.2 (h x (fin_mem.1 hx))
theorem rk_lt {r:List (BitVec 64)} {w v:Nat} {y:BitVec 64} (h : ∀ x,x∈belowL r w r.length→x∈belowL r v r.length) (h1:y∈belowL r v r.length) (h2:y ∉ belowL r w r.length):rk r w < rk r v:=by
 have:=nd_le (l:=y::finU (belowL r w r.length)) (l':=finU (belowL r v r.length)) (List.nodup_cons.2 ⟨fun h=>h2 (fin_mem.1 h),fin_nodup _⟩) fun x hx=>by
  rcases List.mem_cons.1 hx with rfl|hx
  ·exact fin_mem.2 h1
  ·exact fin_mem.2 (h x (fin_mem.1 hx))
 exact this
theorem rk_succ {r:List (BitVec 64)} {w v:Nat} {y:BitVec 64} (h : ∀ x,x∈belowL r w r.length→x=y∨x∈belowL r v r.length):rk r w≤rk r v+1:=by
 have:=nd_le (l:=finU (belowL r w r.length)) (l':=y::finU (belowL r v r.length)) (fin_nodup _) fun x hx=>by
  rcases h x (fin_mem.1 hx) with rfl|h
  ·simp
  ·exact List.mem_cons_of_mem _ (fin_mem.2 h)
 simpa [rk] using this
theorem most {α:Type} (f:α→Nat) : ∀ {l:List α},l≠[] → ∃ x∈l,∀ y∈l,f y≤f x
 | [],h=>absurd rfl h
 | [x],_=>⟨x,by simp,by simp⟩
 | x::y::t,_=>by
  obtain ⟨z,h1,h2⟩:=most f (l:=y::t) (by simp)
  by_cases hz:f x≤f z
  ·refine ⟨z,List.mem_cons_of_mem _ h1,fun u hu=>?_⟩
   rcases List.mem_cons.1 hu with rfl|hu
   ·exact hz
   ·exact h2 u hu
  ·refine ⟨x,by simp,fun u hu=>?_⟩
   rcases List.mem_cons.1 hu with rfl|hu
   ·exact Nat.le_refl _
   ·have:=h2 u hu;omega
def cmp (r:List (BitVec 64)) (w v:Nat):Bool:=rb r w v||rb r v w
structure PreO (r:List (BitVec 64)):Prop where
 len:r.length≤64
 ins : ∀ w v,rb r w v=true→v < r.length
 refl : ∀ w,w < r.length→rb r w w=true
 tr : ∀ w u v,rb r w u=true→rb r u v=true→rb r w v=true
 conn : ∀ w v i,cmp r w v=true→cmp r w i=true→cmp r v i=true
theorem rb_lt {r:List (BitVec 64)} {w v:Nat} (h:rb r w v=true):w < r.length:=by
 apply Classical.byContradiction
 intro hn
 rw [rb_out (by omega)] at h;cases h
theorem cmp_symm {r:List (BitVec 64)} {w v:Nat} : cmp r w v=cmp r v w:=by unfold cmp;exact Bool.or_comm _ _
theorem uAt_bit {r:List (BitVec 64)} {w i:Nat} : (uAt r w).getLsbD i=rb r w i:=rfl
theorem rowsEq {r:List (BitVec 64)} {w v:Nat} (h : ∀ i,rb r w i=rb r v i):uAt r w=uAt r v:=by
 apply BitVec.eq_of_getLsbD_eq
 intro i _
 exact h i
namespace PreO
variable {r:List (BitVec 64)} (h:PreO r)
include h
theorem cmp_refl {w:Nat} (hw:w < r.length):cmp r w w=true:=by simp [cmp,h.refl w hw]
theorem cmp_lt {w v:Nat} (hc:cmp r w v=true):w < r.length∧v < r.length:=by
 simp only [cmp,Bool.or_eq_true] at hc
 rcases hc with hc|hc
 ·exact ⟨rb_lt hc,h.ins _ _ hc⟩
 ·exact ⟨h.ins _ _ hc,rb_lt hc⟩
theorem cmp_tr {w v i:Nat} (h1:cmp r w v=true) (h2:cmp r v i=true):cmp r w i=true:=h.conn v w i (by rw [cmp_symm];exact h1) h2
theorem eq_rows {w v:Nat} (h1:rb r w v=true) (h2:rb r v w=true):uAt r w=uAt r v:=rowsEq fun i=>by
 rw [Bool.eq_iff_iff];exact ⟨h.tr _ _ _ h2,h.tr _ _ _ h1⟩
theorem below_sub {w v:Nat} (h1:rb r w v=true) : ∀ x,x∈belowL r v r.length→x∈belowL r w r.length:=by
 intro x hx
 obtain ⟨u,h2,h3,h4,rfl⟩:=mem_below.1 hx
 refine mem_below.2 ⟨u,h2,h.tr _ _ _ h1 h3,?_,rfl⟩
 cases hb:rb r u w with
 | false=>rfl
 | true=>rw [h.tr _ _ _ hb h1] at h4;cases h4
theorem rk_mono {w v:Nat} (h1:rb r w v=true):rk r v≤rk r w:=rk_le (h.below_sub h1)
theorem rk_strict {w v:Nat} (h1:rb r w v=true) (h2:rb r v w=false):rk r v < rk r w:=by
 refine rk_lt (y:=uAt r v) (h.below_sub h1) (mem_below.2 ⟨v,h.ins _ _ h1,h1,h2,rfl⟩) fun hm=>?_
 obtain ⟨u,h3,h4,h5,h6⟩:=mem_below.1 hm
 have h7:rb r u v=true:=by rw [← uAt_bit,h6,uAt_bit];exact h.refl v (h.ins _ _ h1)
 rw [h7] at h5;cases h5
theorem rk_iff {w v:Nat} (hc:cmp r w v=true):rk r v≤rk r w↔rb r w v=true:=by
 constructor
 ·intro hk
  cases hb:rb r w v with
  | true=>rfl
  | false =>
   simp only [cmp,hb,Bool.false_or] at hc
   have:=h.rk_strict hc hb
   omega
 ·exact h.rk_mono
theorem rk_gap {w:Nat} (hw:w < r.length):rk r w=0 ∨ ∃ v,rb r w v=true∧rk r v+1=rk r w:=by
 by_cases he:((List.range r.length).filter fun v=>rb r w v && !rb r v w)=[]
 ·left
  have h0:belowL r w r.length=[]:=by unfold belowL;rw [he];rfl
  have h1:finU (belowL r w r.length)=[]:=List.eq_nil_iff_forall_not_mem.2 fun x hx=>by
   rw [fin_mem,h0] at hx;cases hx
  unfold rk
  rw [h1];rfl
 ·right
  obtain ⟨v,h1,h2⟩:=most (rk r) he
  rw [List.mem_filter,List.mem_range] at h1
  simp only [Bool.and_eq_true,Bool.not_eq_true'] at h1
  obtain ⟨h3,h4,h5⟩:=h1
  refine ⟨v,h4,?_⟩
  have h6:=h.rk_strict h4 h5
  have h7:rk r w≤rk r v+1:=rk_succ (y:=uAt r v) fun x hx=>by
   obtain ⟨u,a1,a2,a3,rfl⟩:=mem_below.1 hx
   have hm:=h2 u (List.mem_filter.2 ⟨List.mem_range.2 a1,by simp [a2,a3]⟩)
   have hc:cmp r v u=true:=h.conn w v u (by simp [cmp,h4]) (by simp [cmp,a2])
   have hvu:=(h.rk_iff hc).1 hm
   cases hb:rb r u v with
   | true=>left;exact h.eq_rows hb hvu
   | false=>right;exact mem_below.2 ⟨u,a1,hvu,hb,rfl⟩
  omega
end PreO
end Go.Ab
namespace Go.Ab
open Go Go.Proofs
set_option linter.unusedVariables false
set_option linter.unusedSimpArgs false
theorem cmp2_eq {r:List (BitVec 64)} (hl:r.length≤64) (hi:Inside r) (w v:Nat):cmp2 r (revL r) w v=cmp r w v:=by
 unfold cmp2 cmp
 rw [revL_bit hl]
 cases hb:rb r v w with
 | false=>simp
 | true=>simp [rb_lt hb,hi v w hb]
theorem pre_of {r:List (BitVec 64)} (hr:relCheck r=0) (hc:connB r (revL r)=true):PreO r:=by
 obtain ⟨h1,h2⟩:=relCheck_ok.1 hr
 obtain ⟨h3,h4,h5⟩:=connB_iff.1 hc
 have g3 : ∀ w,w < r.length→rb r w w=true:=by
  rcases h3.2 with h|h|h|h|h
  ·exact absurd h.1 (by decide)
  ·exact h.2
  ·exact absurd h.1 (by decide)
  ·exact absurd h.1 (by decide)
  ·exact absurd h.1 (by decide)
 have g4 : ∀ w u v,rb r w u=true→rb r u v=true→rb r w v=true:=by
  rcases h4.2 with h|h|h|h|h
  ·exact absurd h.1 (by decide)
  ·exact absurd h.1 (by decide)
  ·exact absurd h.1 (by decide)
  ·exact h.2
  ·exact absurd h.1 (by decide)
 refine ⟨h1,h2,g3,g4,fun w v i ha hb=>?_⟩
 have hw:w < r.length∧v < r.length:=by
  simp only [cmp,Bool.or_eq_true] at ha
  rcases ha with ha|ha
  ·exact ⟨rb_lt ha,h2 _ _ ha⟩
  ·exact ⟨h2 _ _ ha,rb_lt ha⟩
 have:=h5 w hw.1 v hw.2 (by rw [cmp2_eq h1 h2];exact ha) i (by rw [cmp2_eq h1 h2];exact hb)
 rwa [cmp2_eq h1 h2] at this
theorem conn_of {r:List (BitVec 64)} (h:PreO r):connB r (revL r)=true:=by
 have hr:=relCheck_ok.2 ⟨h.len,h.ins⟩
 refine connB_iff.2 ⟨⟨hr,.inr (.inl ⟨rfl,h.refl⟩)⟩,⟨hr,.inr (.inr (.inr (.inl ⟨rfl,h.tr⟩)))⟩,fun w hw v hv ha i hb=>?_⟩
 rw [cmp2_eq h.len h.ins] at ha hb ⊢
 exact h.conn w v i ha hb
def lowC (r:List (BitVec 64)) (w:Nat):Nat:=Lib.ctz 64 (uAt r w|||uAt (revL r) w).toNat
namespace PreO
variable {r:List (BitVec 64)} (h:PreO r)
include h
theorem low_spec {w:Nat} (hw:w < r.length):lowC r w < r.length∧cmp r w (lowC r w)=true ∧ ∀ i,cmp r w i=true→lowC r w≤i:=by
 have hb : ∀ i,(uAt r w|||uAt (revL r) w).getLsbD i=cmp r w i:=fun i=>by
  rw [BitVec.getLsbD_or,uAt_bit,uAt_bit]
  exact cmp2_eq h.len h.ins w i
 have hne:uAt r w|||uAt (revL r) w≠0#64:=fun e=>by
  have:=hb w
  rw [e,h.cmp_refl hw] at this
  simp at this
 obtain ⟨h1,h2,h3,-⟩:=low_bit _ hne
 have h4:cmp r w (lowC r w)=true:=(hb _).symm.trans h2
 refine ⟨(h.cmp_lt h4).2,h4,fun i hi=>?_⟩
 apply Classical.byContradiction
 intro hn
 have:=h3 i (by show i < lowC r w;omega)
 rw [hb,hi] at this;cases this
theorem low_eq {w v:Nat} (hw:w < r.length) (hv:v < r.length):lowC r w=lowC r v↔cmp r w v=true:=by
 obtain ⟨a1,a2,a3⟩:=h.low_spec hw
 obtain ⟨b1,b2,b3⟩:=h.low_spec hv
 constructor
 ·intro e
  rw [← e,cmp_symm] at b2
  exact h.cmp_tr a2 b2
 ·intro hc
  have h1:=b3 _ (h.cmp_tr (by rw [cmp_symm];exact hc) a2)
  have h2:=a3 _ (h.cmp_tr hc b2)
  omega
theorem low_le {w:Nat} (hw:w < r.length):lowC r w≤w:=(h.low_spec hw).2.2 w (h.cmp_refl hw)
theorem low_low {w:Nat} (hw:w < r.length):lowC r (lowC r w)=lowC r w:=by
 obtain ⟨a1,a2,a3⟩:=h.low_spec hw
 exact (h.low_eq a1 hw).2 (by rw [cmp_symm];exact a2)
end PreO
theorem cellR_len {r:List (BitVec 64)} : (cellR r).length=r.length:=by simp [cellR]
theorem rankR_len {r:List (BitVec 64)} : (rankR r).length=r.length:=by simp [rankR]
theorem at0_cellR {r:List (BitVec 64)} {w:Nat} (hw:w < r.length):at0 (cellR r) w=(lowC r w:Int):=at0_of (by simp [cellR,hw,lowC])
theorem at0_rankR {r:List (BitVec 64)} {w:Nat} (hw:w < r.length):at0 (rankR r) w=(rk r w:Int):=at0_of (by simp [rankR,hw,rk])
theorem cells_R {r:List (BitVec 64)} (h:PreO r):Cells (cellR r):=by
 intro w hw
 rw [cellR_len] at hw
 have h1:=h.low_le hw
 rw [at0_cellR hw]
 refine ⟨by omega,by omega,?_⟩
 rw [Int.toNat_natCast,at0_cellR (by omega),h.low_low hw]
theorem ranked_R {r:List (BitVec 64)} (h:PreO r):Ranked (cellR r) (rankR r):=by
 intro w hw
 rw [cellR_len] at hw
 rw [at0_rankR hw]
 refine ⟨by omega,?_⟩
 rcases h.rk_gap hw with h1|⟨v,h1,h2⟩
 ·left;omega
 ·right
  have hv:=h.ins _ _ h1
  refine ⟨v,by rw [cellR_len];exact hv,?_,?_⟩
  ·rw [at0_cellR hv,at0_cellR hw]
   exact congrArg Int.ofNat ((h.low_eq hv hw).2 (by simp [cmp,h1]))
  ·rw [at0_rankR hv];omega
theorem weak_len {p:PM} {a:Nat} : (weakL p a).length=p.W.toNat:=by simp [weakL]
theorem rb_weak {p:PM} {a:Nat} (hW:p.W≤64) {w v:Nat} : rb (weakL p a) w v=(decide (w < p.W.toNat)&&decide (v < p.W.toNat)&&(at0 (rowAt p.cell a) v==at0 (rowAt p.cell a) w)&&decide (at0 (rowAt p.rank a) v≤at0 (rowAt p.rank a) w)):=by
 by_cases hw:w < p.W.toNat
 ·have:(weakL p a)[w]? = some (weakRow (rowAt p.cell a) (rowAt p.rank a) w p.W.toNat):=by simp [weakL,hw]
  rw [rb_of this,weakRow,setTo_bit]
  by_cases hv:v < p.W.toNat
  ·simp [hw,hv,show v < 64 by omega]
  ·simp [hv]
 ·rw [rb_out (by rw [weak_len];omega)];simp [hw]
theorem rb_weak_iff {p:PM} {a:Nat} (hW:p.W≤64) {w v:Nat} : rb (weakL p a) w v=true↔w < p.W.toNat∧v < p.W.toNat∧at0 (rowAt p.cell a) v=at0 (rowAt p.cell a) w∧at0 (rowAt p.rank a) v≤at0 (rowAt p.rank a) w:=by
 rw [rb_weak hW]
 simp only [Bool.and_eq_true,decide_eq_true_eq,beq_iff_eq,and_assoc]
theorem cmp_weak {p:PM} {a:Nat} (hW:p.W≤64) {w v:Nat} : cmp (weakL p a) w v=true↔w < p.W.toNat∧v < p.W.toNat∧at0 (rowAt p.cell a) v=at0 (rowAt p.cell a) w:=by
 unfold cmp
 rw [Bool.or_eq_true,rb_weak_iff hW,rb_weak_iff hW]
 constructor
 ·rintro (⟨h1,h2,h3,-⟩|⟨h1,h2,h3,-⟩)
  ·exact ⟨h1,h2,h3⟩
  ·exact ⟨h2,h1,h3.symm⟩
 ·rintro ⟨h1,h2,h3⟩
  rcases Int.le_total (at0 (rowAt p.rank a) v) (at0 (rowAt p.rank a) w) with h|h
  ·exact .inl ⟨h1,h2,h3,h⟩
  ·exact .inr ⟨h2,h1,h3.symm,h⟩
theorem pre_weak {p:PM} {a:Nat} (hW:p.W≤64):PreO (weakL p a) where
 len:=by rw [weak_len];omega
 ins w v h:=by rw [weak_len];exact ((rb_weak_iff hW).1 h).2.1
 refl w h:=(rb_weak_iff hW).2 ⟨by rwa [weak_len] at h,by rwa [weak_len] at h,rfl,Int.le_refl _⟩
 tr w u v h1 h2:=by
  rw [rb_weak_iff hW] at h1 h2 ⊢
  exact ⟨h1.1,h2.2.1,h2.2.2.1.trans h1.2.2.1,Int.le_trans h2.2.2.2 h1.2.2.2⟩
 conn w v i h1 h2:=by
  rw [cmp_weak hW] at h1 h2 ⊢
  exact ⟨h1.2.1,h2.2.1,h2.2.2.trans h1.2.2.symm⟩
theorem ranks_uniq {K:Nat→Prop} {f g:Nat→Int} (f0 : ∀ w,K w→0≤f w) (g0 : ∀ w,K w→0≤g w) (hf : ∀ w,K w→f w=0 ∨ ∃ v,K v∧f v=f w - 1) (hg : ∀ w,K w→g w=0 ∨ ∃ v,K v∧g v=g w - 1)
  (ho : ∀ w v,K w→K v→(f v≤f w↔g v≤g w)) : ∀ (n:Nat) (w:Nat),K w→(f w).toNat=n→f w=g w
 | 0,w,hw,hn=>by
  have h1:=f0 w hw
  have h2:=g0 w hw
  rcases hg w hw with h|⟨v,hv,h⟩
  ·omega
  ·have h3:=f0 v hv
   have h4:=(ho v w hv hw).1 (by omega)
   omega
 | n+1,w,hw,hn=>by
  have h2:=g0 w hw
  rcases hf w hw with h|⟨v,hv,h⟩
  ·omega
  ·have ih:=ranks_uniq f0 g0 hf hg ho n v hv (by omega)
   have h3 : ¬ g w≤g v:=fun hh=>by
    have:=(ho v w hv hw).2 hh
    omega
   rcases hg w hw with h4|⟨u,hu,h4⟩
   ·have:=g0 v hv;omega
   ·have h5 : ¬ f w≤f u:=fun hh=>by
     have:=(ho u w hu hw).1 hh
     omega
    have h6:=(ho v u hv hu).1 (by omega)
    omega
theorem list_at0 {l l':List Int} (hl:l.length=l'.length) (h : ∀ i,i < l.length→at0 l i=at0 l' i):l=l':=by
 refine List.ext_getElem hl fun i h1 h2=>?_
 have:=h i h1
 simp only [at0,List.getD,List.getElem?_eq_getElem h1,List.getElem?_eq_getElem h2,Option.getD_some] at this
 exact this
theorem cell_weak {p:PM} (hg:Good p) {a:Nat} (ha:a < p.cell.length):cellR (weakL p a)=rowAt p.cell a:=by
 obtain ⟨hl,hl'⟩:=hg.lens a ha
 have hW:=hg.w2
 have hP:=pre_weak (a:=a) hW
 have hc:=hg.cells a ha
 refine list_at0 (by rw [cellR_len,weak_len];omega) fun w hw=>?_
 rw [cellR_len] at hw
 rw [at0_cellR hw]
 obtain ⟨h1,h2,h3⟩:=hP.low_spec hw
 rw [weak_len] at hw h1
 rw [cmp_weak hW] at h2
 obtain ⟨c1,c2,c3⟩:=hc w (by omega)
 have h4:=h3 (at0 (rowAt p.cell a) w).toNat ((cmp_weak hW).2 ⟨hw,by omega,c3⟩)
 obtain ⟨d1,d2,d3⟩:=hc _ (show lowC (weakL p a) w < (rowAt p.cell a).length by omega)
 rw [h2.2.2] at d2
 omega
theorem rank_weak {p:PM} (hg:Good p) {a:Nat} (ha:a < p.cell.length):rankR (weakL p a)=rowAt p.rank a:=by
 obtain ⟨hl,hl'⟩:=hg.lens a ha
 have hW:=hg.w2
 have hP:=pre_weak (a:=a) hW
 have hc:=hg.ranked a ha
 refine list_at0 (by rw [rankR_len,weak_len];omega) fun w hw=>?_
 rw [rankR_len] at hw
 rw [at0_rankR hw]
 have hw':=hw
 rw [weak_len] at hw'
 refine ranks_uniq (K:=fun v=>v < p.W.toNat∧at0 (rowAt p.cell a) v=at0 (rowAt p.cell a) w) (f:=fun v=>(rk (weakL p a) v:Int)) (g:=fun v=>at0 (rowAt p.rank a) v) ?_ ?_ ?_ ?_ ?_ _ w ⟨hw',rfl⟩ rfl
 ·intro v hv;exact Int.natCast_nonneg _
 ·intro v hv;exact (hc v (by omega)).1
 ·intro v hv
  rcases hP.rk_gap (w:=v) (by rw [weak_len];exact hv.1) with h|⟨u,h1,h2⟩
  ·left;show (rk (weakL p a) v:Int)=0;omega
  ·right
   rw [rb_weak_iff hW] at h1
   exact ⟨u,⟨h1.2.1,h1.2.2.1.trans hv.2⟩,by show (rk (weakL p a) u:Int)=rk (weakL p a) v - 1;omega⟩
 ·intro v hv
  obtain ⟨-,h⟩:=hc v (by omega)
  refine h.imp_right fun ⟨u,h1,h2,h3⟩=>⟨u,⟨by omega,h2.trans hv.2⟩,h3⟩
 ·intro v u hv hu
  show (rk (weakL p a) u:Int)≤rk (weakL p a) v↔_
  rw [Int.ofNat_le,hP.rk_iff ((cmp_weak hW).2 ⟨hv.1,hu.1,hu.2.trans hv.2.symm⟩),rb_weak_iff hW]
  exact ⟨fun h=>h.2.2.2,fun h=>⟨hv.1,hu.1,hu.2.trans hv.2.symm,h⟩⟩
theorem relN_iff {n:Int} {r:List (BitVec 64)} : relN n r=0↔0≤n∧n≤64∧(r.length:Int)=n∧Inside r:=by
 constructor
 ·intro h
  obtain ⟨h1,h2⟩:=relN_ok h
  obtain ⟨h3,h4⟩:=relCheck_ok.1 h2
  exact ⟨by omega,by omega,h1,h4⟩
 ·rintro ⟨h1,h2,h3,h4⟩
  have:=relCheck_ok.2 ⟨by omega,h4⟩
  unfold relCheck at this
  rw [if_neg (by omega)] at this
  unfold relN
  rw [if_neg (by omega),if_neg (by omega),← h3]
  exact this
theorem range_rows {α:Type} {l:List α} {f:Nat→α} {z:α} (h : ∀ a,a < l.length→f a=l.getD a z):(List.range l.length).map f=l:=by
 refine List.ext_getElem (by simp) fun i h1 h2=>?_
 have:=h i h2
 simp only [List.getElem_map,List.getElem_range,this,List.getD,List.getElem?_eq_getElem h2,Option.getD_some]
theorem new_weak {p:PM} (hg:Good p) (hs:shapeL p.W p.cell.length p.val=0):newL p.W p.val ((List.range p.cell.length).map (weakL p))=(p,0):=by
 have h1:=hg.w1
 have h2:=hg.w2
 have hr : ∀ a,relN p.W (weakL p a)=0:=fun a=>relN_iff.2 ⟨by omega,h2,by rw [weak_len];omega,(pre_weak h2).ins⟩
 unfold newL
 rw [List.length_map,List.length_range,if_neg (not_not_intro hs),if_neg,if_neg]
 ·rw [List.map_map,List.map_map]
  have e1:(List.range p.cell.length).map (cellR∘weakL p)=p.cell:=range_rows (z:=[]) fun a ha=>cell_weak hg ha
  have e2:(List.range p.cell.length).map (rankR∘weakL p)=p.rank:=by
   rw [← hg.len];exact range_rows (z:=[]) fun a ha=>rank_weak hg (by rw [← hg.len];exact ha)
  rw [e1,e2]
 ·rw [List.any_map,List.any_eq_true]
  rintro ⟨a,-,ha⟩
  simp [conn_of (pre_weak (p:=p) (a:=a) h2)] at ha
 ·rw [List.any_map,List.any_eq_true]
  rintro ⟨a,-,ha⟩
  simp [hr a] at ha
theorem shape_good {p:PM} (h:checkL p=0):shapeL p.W p.cell.length p.val=0:=by
 unfold checkL at h
 split at h
 ·rename_i h0;exact absurd h h0
 ·rename_i h0;exact Classical.not_not.1 h0
theorem newL_ok {W:Int} {val:List (BitVec 64)} {acc:List (List (BitVec 64))} {s:PM} (h:newL W val acc=(s,0)) :
  shapeL W acc.length val=0∧(∀ r∈acc,(r.length:Int)=W∧PreO r)∧s=⟨W,val,acc.map cellR,acc.map rankR⟩:=by
 unfold newL at h
 split at h
 ·rename_i h0;exact absurd (congrArg Prod.snd h) h0
 ·rename_i h0
  split at h
  ·exact absurd (congrArg Prod.snd h) (by show ¬(3:Int)=0;decide)
  ·split at h
   ·exact absurd (congrArg Prod.snd h) (by show ¬(12:Int)=0;decide)
   ·rename_i h1 h2
    refine ⟨Classical.not_not.1 h0,fun r hr=>?_,(congrArg Prod.fst h).symm⟩
    have h3:relN W r=0:=by
     apply Classical.byContradiction
     intro hn
     exact h1 (List.any_eq_true.2 ⟨r,hr,decide_eq_true hn⟩)
    obtain ⟨h4,h5⟩:=relN_ok h3
    refine ⟨h4,pre_of h5 ?_⟩
    apply Classical.byContradiction
    intro hn
    exact h2 (List.any_eq_true.2 ⟨r,hr,by simpa using hn⟩)
theorem rowAt_map {α:Type} {l:List α} {f:α→List Int} {a:Nat} {x:α} (h:l[a]? = some x):rowAt (l.map f) a=f x:=rowAt_of (by rw [List.getElem?_map,h];rfl)
theorem check_of {p:PM} (h0:shapeL p.W p.cell.length p.val=0) (h1:p.rank.length=p.cell.length) (h2:Lens p) (h3:AllCells p) (h4:AllRanked p):checkL p=0:=by
 unfold checkL
 rw [if_neg (not_not_intro h0),if_neg (not_not_intro h1),if_neg (not_not_intro h2),if_neg (not_not_intro h3),if_neg (not_not_intro h4)]
theorem new_valid {W:Int} {val:List (BitVec 64)} {acc:List (List (BitVec 64))} {s:PM} (h:newL W val acc=(s,0)):checkL s=0 ∧ ∀ a r,acc[a]? = some r→weakL s a=r:=by
 obtain ⟨h1,h2,rfl⟩:=newL_ok h
 obtain ⟨w1,w2,-⟩:=shapeL_ok h1
 refine ⟨check_of (by rw [List.length_map];exact h1) (by rw [List.length_map,List.length_map]) ?_ ?_ ?_,fun a r hr=>?_⟩
 ·intro a ha
  rw [List.length_map] at ha
  have hx:=List.getElem?_eq_getElem ha
  obtain ⟨h3,h4⟩:=h2 _ (List.mem_of_getElem? hx)
  rw [rowAt_map hx,rowAt_map hx,cellR_len,rankR_len]
  exact ⟨h3,h3⟩
 ·intro a ha
  rw [List.length_map] at ha
  have hx:=List.getElem?_eq_getElem ha
  rw [rowAt_map hx]
  exact cells_R (h2 _ (List.mem_of_getElem? hx)).2
 ·intro a ha
  rw [List.length_map] at ha
  have hx:=List.getElem?_eq_getElem ha
  rw [rowAt_map hx,rowAt_map hx]
  exact ranked_R (h2 _ (List.mem_of_getElem? hx)).2
 ·obtain ⟨h3,h4⟩:=h2 r (List.mem_of_getElem? hr)
  refine rel_ext (by rw [weak_len];show W.toNat=_;omega) fun w v hw=>?_
  rw [weak_len] at hw
  replace hw:w < W.toNat:=hw
  rw [Bool.eq_iff_iff,rb_weak_iff w2]
  show w < W.toNat∧v < W.toNat∧at0 (rowAt (acc.map cellR) a) v=at0 (rowAt (acc.map cellR) a) w∧at0 (rowAt (acc.map rankR) a) v≤at0 (rowAt (acc.map rankR) a) w↔_
  rw [rowAt_map hr,rowAt_map hr]
  constructor
  ·rintro ⟨-,hv,a1,a2⟩
   rw [at0_cellR (by omega),at0_cellR (by omega)] at a1
   rw [at0_rankR (by omega),at0_rankR (by omega)] at a2
   have hc:=(h4.low_eq (w:=w) (v:=v) (by omega) (by omega)).1 (by omega)
   exact (h4.rk_iff hc).1 (by omega)
  ·intro hb
   have hv:=h4.ins _ _ hb
   have hc:cmp r w v=true:=by simp [cmp,hb]
   refine ⟨hw,by omega,?_,?_⟩
   ·rw [at0_cellR hv,at0_cellR (by omega),(h4.low_eq (by omega) hv).2 hc]
   ·rw [at0_rankR hv,at0_rankR (by omega)]
    exact Int.ofNat_le.2 (h4.rk_mono hb)
end Go.Ab
namespace Go.Ab
open Go Go.Proofs
set_option linter.unusedVariables false
set_option linter.unusedSimpArgs false
theorem findL_spec {α:Type} {p:α→Bool} {l:List α} : ∀ (i:Nat) (x:α),l[i]? = some x→p x=true → ∃ k y,findL p l=((k:Nat):Int)∧k≤i∧l[k]? = some y∧p y=true ∧ ∀ j z,j < k→l[j]? = some z→p z=false:=by
 intro i
 induction i using Nat.strongRecOn with
 | _ i ih =>
  intro x hx hp
  by_cases h : ∃ j z,j < i∧l[j]? = some z∧p z=true
  ·obtain ⟨j,z,h1,h2,h3⟩:=h
   obtain ⟨k,y,a1,a2,a3,a4,a5⟩:=ih j h1 z h2 h3
   exact ⟨k,y,a1,by omega,a3,a4,a5⟩
  ·have hn : ∀ j z,j < i→l[j]? = some z→p z=false:=fun j z h1 h2=>by
    cases hb:p z with
    | false=>rfl
    | true=>exact absurd ⟨j,z,h1,h2,hb⟩ h
   exact ⟨i,x,findL_hit hx hp hn,Nat.le_refl _,hx,hp,hn⟩
theorem packN_bit {v:BitVec 64} {ws:List Int} : ∀ (n i:Nat),(packN v ws n).getLsbD i=(decide (i < 64)&&decide (i < n)&&v.getLsbD (at0 ws i).toNat)
 | 0,i=>by simp [packN]
 | n+1,i=>by
  have hone : ∀ j,((v >>> (at0 ws n).toNat)&&&1#64).getLsbD j=(decide (j=0)&&v.getLsbD (at0 ws n).toNat):=fun j=>by
   rw [BitVec.getLsbD_and,BitVec.getLsbD_ushiftRight]
   by_cases h:j=0
   ·subst h;simp
   ·simp [h]
  rw [packN,BitVec.getLsbD_or,packN_bit n i,BitVec.getLsbD_shiftLeft,hone]
  by_cases h64:i < 64
  ·by_cases h1:i=n
   ·subst h1;simp [h64]
   ·by_cases h2:i < n
    ·simp [h64,h2,show i < n+1 by omega]
    ·have:i - n≠0:=by omega
     simp [h64,h2,show ¬ i < n+1 by omega,this]
  ·simp [h64]
theorem wsL_rising (s:BitVec 64) (n:Nat):Rising (wsL s n):=by
 unfold wsL Rising
 rw [List.pairwise_map]
 exact (List.Pairwise.filter _ List.pairwise_lt_range).imp fun h=>Int.ofNat_lt.2 h
theorem mem_wsL {s:BitVec 64} {n:Nat} {x:Int} : x∈wsL s n ↔ ∃ i:Nat,i < n∧s.getLsbD i=true∧x=i:=by
 unfold wsL
 rw [List.mem_map]
 constructor
 ·rintro ⟨i,h,rfl⟩
  rw [List.mem_filter,List.mem_range] at h
  exact ⟨i,h.1,h.2,rfl⟩
 ·rintro ⟨i,h1,h2,rfl⟩
  exact ⟨i,List.mem_filter.2 ⟨List.mem_range.2 h1,h2⟩,rfl⟩
section
variable {p:PM} {ws:List Int} {a:Nat}
def cAt (p:PM) (ws:List Int) (a i:Nat):Int:=at0 (rowAt p.cell a) (at0 ws i).toNat
def rAt (p:PM) (ws:List Int) (a i:Nat):Int:=at0 (rowAt p.rank a) (at0 ws i).toNat
theorem cell2_len:(cell2 p ws a).length=ws.length:=by simp [cell2]
theorem rank2_len:(rank2 p ws a).length=ws.length:=by simp [rank2]
theorem rank3_len:(rank3 p ws a).length=ws.length:=by simp [rank3]
theorem at0_rank2 {i:Nat} (h:i < ws.length):at0 (rank2 p ws a) i=rAt p ws a i:=at0_map (get_at0 h)
theorem cell2_spec {i:Nat} (h:i < ws.length) : ∃ k,at0 (cell2 p ws a) i=((k:Nat):Int)∧k≤i∧cAt p ws a k=cAt p ws a i ∧ ∀ j,j < ws.length→cAt p ws a j=cAt p ws a i→k≤j:=by
 have e:at0 (cell2 p ws a) i=findL (fun x:Int=>decide (at0 (rowAt p.cell a) x.toNat=at0 (rowAt p.cell a) (at0 ws i).toNat)) ws:=at0_map (get_at0 h)
 obtain ⟨k,y,h1,h2,h3,h4,h5⟩:=findL_spec (p:=fun x:Int=>decide (at0 (rowAt p.cell a) x.toNat=at0 (rowAt p.cell a) (at0 ws i).toNat)) i (at0 ws i) (get_at0 h) (by simp)
 refine ⟨k,e.trans h1,h2,?_,fun j hj hc=>?_⟩
 ·unfold cAt
  rw [at0_of h3]
  exact of_decide_eq_true h4
 ·apply Classical.byContradiction
  intro hn
  have:=h5 j _ (by omega) (get_at0 hj)
  rw [show at0 (rowAt p.cell a) (at0 ws j).toNat=at0 (rowAt p.cell a) (at0 ws i).toNat from hc] at this
  simp at this
theorem cell2_eq {i j:Nat} (hi:i < ws.length) (hj:j < ws.length):at0 (cell2 p ws a) i=at0 (cell2 p ws a) j↔cAt p ws a i=cAt p ws a j:=by
 obtain ⟨k,h1,h2,h3,h4⟩:=cell2_spec (p:=p) (a:=a) hi
 obtain ⟨l,g1,g2,g3,g4⟩:=cell2_spec (p:=p) (a:=a) hj
 rw [h1,g1]
 constructor
 ·intro e
  have:k=l:=by omega
  subst this
  exact h3.symm.trans g3
 ·intro e
  have:=h4 l (by omega) (g3.trans e.symm)
  have:=g4 k (by omega) (h3.trans e)
  omega
theorem cells2:Cells (cell2 p ws a):=by
 intro i hi
 rw [cell2_len] at hi
 obtain ⟨k,h1,h2,h3,h4⟩:=cell2_spec (p:=p) (a:=a) hi
 refine ⟨by omega,by omega,?_⟩
 rw [h1,Int.toNat_natCast,← h1]
 exact (cell2_eq (by omega) hi).2 h3
theorem rising_inj {l:List Int} (h:Rising l) {i j:Nat} (hi:i < l.length) (hj:j < l.length):at0 l i≤at0 l j↔i≤j:=by
 constructor
 ·intro e
  apply Classical.byContradiction
  intro hn
  have:=rising_at0 h (show j < i by omega) hi
  omega
 ·intro e
  by_cases hij:i=j
  ·subst hij;exact Int.le_refl _
  ·have:=rising_at0 h (show i < j by omega) hj
   omega
abbrev rks (p:PM) (ws:List Int) (a i:Nat):List Int:=ranksOf (cell2 p ws a) (rank2 p ws a) (at0 (cell2 p ws a) i)
theorem mem_rks {i:Nat} {x:Int} (hi:i < ws.length):x∈rks p ws a i ↔ ∃ j,j < ws.length∧cAt p ws a j=cAt p ws a i∧rAt p ws a j=x:=by
 rw [mem_ranksOf]
 constructor
 ·rintro ⟨w,h1,h2,h3⟩
  rw [cell2_len] at h1
  exact ⟨w,h1,(cell2_eq h1 hi).1 h2,by rw [← at0_rank2 h1];exact h3⟩
 ·rintro ⟨w,h1,h2,h3⟩
  exact ⟨w,by rw [cell2_len];exact h1,(cell2_eq h1 hi).2 h2,by rw [at0_rank2 h1];exact h3⟩
theorem rank3_spec {i:Nat} (hi:i < ws.length) : ∃ m,at0 (rank3 p ws a) i=((m:Nat):Int)∧m < (rks p ws a i).length∧at0 (rks p ws a i) m=rAt p ws a i:=by
 have hm:rAt p ws a i∈rks p ws a i:=(mem_rks hi).2 ⟨i,hi,rfl,rfl⟩
 obtain ⟨k,hk⟩:=List.getElem?_of_mem hm
 obtain ⟨m,y,h1,h2,h3,h4,h5⟩:=findL_spec (p:=fun y:Int=>at0 (rank2 p ws a) i==y) k _ hk (by rw [at0_rank2 hi];simp)
 refine ⟨m,(rank3_at hi).trans h1,(List.getElem?_eq_some_iff.1 h3).1,?_⟩
 rw [at0_of h3]
 have:at0 (rank2 p ws a) i=y:=by simpa using h4
 rw [← this,at0_rank2 hi]
theorem rks_eq {i j:Nat} (hi:i < ws.length) (hj:j < ws.length) (h:cAt p ws a i=cAt p ws a j):rks p ws a i=rks p ws a j:=by
 unfold rks
 rw [(cell2_eq hi hj).2 h]
theorem rank3_le {i j:Nat} (hi:i < ws.length) (hj:j < ws.length) (h:cAt p ws a i=cAt p ws a j):at0 (rank3 p ws a) i≤at0 (rank3 p ws a) j↔rAt p ws a i≤rAt p ws a j:=by
 obtain ⟨m,h1,h2,h3⟩:=rank3_spec (p:=p) (a:=a) hi
 obtain ⟨n,g1,g2,g3⟩:=rank3_spec (p:=p) (a:=a) hj
 rw [rks_eq hi hj h] at h2 h3
 have hr:Rising (rks p ws a j):=rising_sortD
 rw [h1,g1,← h3,← g3,rising_inj hr h2 g2]
 exact Int.ofNat_le
theorem ranked3:Ranked (cell2 p ws a) (rank3 p ws a):=by
 intro i hi
 rw [cell2_len] at hi
 obtain ⟨m,h1,h2,h3⟩:=rank3_spec (p:=p) (a:=a) hi
 refine ⟨by omega,?_⟩
 by_cases h0:m=0
 ·left;omega
 ·right
  have hx:at0 (rks p ws a i) (m - 1)∈rks p ws a i:=mem_at0.2 ⟨m - 1,by omega,rfl⟩
  obtain ⟨j,h4,h5,h6⟩:=(mem_rks hi).1 hx
  refine ⟨j,by rw [cell2_len];exact h4,(cell2_eq h4 hi).2 h5,?_⟩
  obtain ⟨n,g1,g2,g3⟩:=rank3_spec (p:=p) (a:=a) h4
  rw [rks_eq h4 hi h5] at g2 g3
  rw [h6] at g3
  have hr:Rising (rks p ws a i):=rising_sortD
  have e1:=(rising_inj hr g2 (show m - 1 < (rks p ws a i).length by omega)).1 (Int.le_of_eq g3)
  have e2:=(rising_inj hr (show m - 1 < (rks p ws a i).length by omega) g2).1 (Int.le_of_eq g3.symm)
  omega
end
theorem rest_ok {p:PM} (hg:Good p) {s:BitVec 64} (hs:s &&& ~~~(allL p.W)=0) (h0 : ¬s=0) {ws:List Int} (hws:ws=wsL s p.W.toNat) :
  (1≤ws.length∧ws.length≤64)∧checkL (restPM p ws)=0 ∧ ∀ a,a < p.cell.length → ∀ i k,i < ws.length→k < ws.length→rb (weakL (restPM p ws) a) i k=rb (weakL p a) (at0 ws i).toNat (at0 ws k).toNat:=by
 have hw1:=hg.w1
 have hw2:=hg.w2
 have hl:ws.length≤64:=by have:=wsL_len (s:=s) (n:=p.W.toNat);rw [← hws] at this;omega
 have hb : ∀ i,s.getLsbD i=true→(i:Int) < p.W:=by
  have:bad p.W s=false:=by
   rw [bad,decide_eq_false_iff_not,Classical.not_not];exact hs
  exact (bad_false (by omega)).1 this
 have hl1:1≤ws.length:=by
  apply Classical.byContradiction
  intro hn
  apply h0
  apply BitVec.eq_of_getLsbD_eq
  intro i _
  cases hbi:s.getLsbD i with
  | false=>simp
  | true =>
   have:=hb i hbi
   have hm:(i:Int)∈ws:=by rw [hws];exact mem_wsL.2 ⟨i,by omega,hbi,rfl⟩
   have:=List.length_pos_of_mem hm
   omega
 have hW:(restPM p ws).W=ws.length:=rfl
 have hm : ∀ i,i < ws.length→0≤at0 ws i∧at0 ws i < p.W:=fun i hi=>by
  have:at0 ws i∈ws:=mem_at0.2 ⟨i,hi,rfl⟩
  rw [hws] at this
  obtain ⟨j,h1,h2,h3⟩:=mem_wsL.1 this
  rw [← hws] at h3
  omega
 have rc : ∀ a,a < p.cell.length→rowAt (restPM p ws).cell a=cell2 p ws a:=fun a ha=>by
  show rowAt ((List.range p.cell.length).map (cell2 p ws)) a=_
  exact rowAt_map (by simp [ha])
 have rr : ∀ a,a < p.cell.length→rowAt (restPM p ws).rank a=rank3 p ws a:=fun a ha=>by
  show rowAt ((List.range p.cell.length).map (rank3 p ws)) a=_
  exact rowAt_map (by simp [ha])
 have hcl:(restPM p ws).cell.length=p.cell.length:=by simp [restPM]
 refine ⟨⟨hl1,hl⟩,check_of ?_ ?_ ?_ ?_ ?_,fun a ha i k hi hk=>?_⟩
 ·have h4:=hg.n4
  have h8:=hg.v8
  show shapeL (ws.length:Int) ((restPM p ws).cell.length:Int) (p.val.map fun v=>packN v ws ws.length)=0
  rw [hcl]
  unfold shapeL
  rw [if_neg (by omega),if_neg (by rw [List.length_map];omega),if_neg]
  rw [List.any_map,List.any_eq_true]
  rintro ⟨v,-,hv⟩
  have:bad (ws.length:Int) (packN v ws ws.length)=false:=(bad_false (by omega)).2 fun i hi=>by
   rw [packN_bit] at hi
   simp only [Bool.and_eq_true,decide_eq_true_eq] at hi
   omega
  simp only [Function.comp] at hv
  rw [this] at hv;cases hv
 ·simp [restPM]
 ·intro a ha
  rw [hcl] at ha
  rw [rc a ha,rr a ha,cell2_len,rank3_len]
  exact ⟨rfl,rfl⟩
 ·intro a ha
  rw [hcl] at ha
  rw [rc a ha];exact cells2
 ·intro a ha
  rw [hcl] at ha
  rw [rc a ha,rr a ha];exact ranked3
 ·rw [Bool.eq_iff_iff,rb_weak_iff (by rw [hW];omega),rb_weak_iff hw2,rc a ha,rr a ha,hW]
  obtain ⟨a1,a2⟩:=hm i hi
  obtain ⟨b1,b2⟩:=hm k hk
  have e1:=cell2_eq (p:=p) (a:=a) hk hi
  constructor
  ·rintro ⟨-,-,h3,h4⟩
   have h5:=e1.1 h3
   exact ⟨by omega,by omega,h5,(rank3_le hk hi h5).1 h4⟩
  ·rintro ⟨-,-,h3,h4⟩
   exact ⟨by omega,by omega,e1.2 h3,(rank3_le hk hi h3).2 h4⟩
end Go.Ab
namespace Go.Ab
open Go Go.Proofs
set_option linter.unusedVariables false
set_option linter.unusedSimpArgs false
theorem least_ex {K:Nat→Prop} {R:Nat→Int} (h0 : ∀ i,K i→0≤R i) : ∀ (n:Nat) (i:Nat),K i→(R i).toNat≤n → ∃ j,K j ∧ ∀ u,K u→R j≤R u:=by
 intro n
 induction n with
 | zero=>intro i hi hn;exact ⟨i,hi,fun u hu=>by have:=h0 i hi;have:=h0 u hu;omega⟩
 | succ n ih =>
  intro i hi hn
  by_cases h : ∃ u,K u∧R u < R i
  ·obtain ⟨u,h1,h2⟩:=h
   exact ih u h1 (by have:=h0 u h1;have:=h0 i hi;omega)
  ·exact ⟨i,hi,fun u hu=>by
    apply Classical.byContradiction
    intro hn
    exact h ⟨u,hu,by omega⟩⟩
section
variable {p:PM} {a w:Int} (hat:At p a w)
include hat
theorem cellL_bit {i:Nat} : (cellL p a w).getLsbD i=true↔i < p.W.toNat∧at0 (rowAt p.cell a.toNat) i=at0 (rowAt p.cell a.toNat) w.toNat:=by
 obtain ⟨-,-,h1,-,h3,-⟩:=hat.rows
 rw [cellL,if_pos hat,cellSet,setTo_bit]
 simp only [Bool.and_eq_true,decide_eq_true_eq,beq_iff_eq]
 constructor
 ·rintro ⟨⟨-,h4⟩,h5⟩;exact ⟨by omega,h5⟩
 ·rintro ⟨h4,h5⟩;exact ⟨⟨by omega,by omega⟩,h5⟩
theorem bestL_bit {s:BitVec 64} {i:Nat} : (bestL p a w s).getLsbD i=true↔(s.getLsbD i=true∧(cellL p a w).getLsbD i=true) ∧ ∀ u,s.getLsbD u=true→(cellL p a w).getLsbD u=true→at0 (rowAt p.rank a.toNat) i≤at0 (rowAt p.rank a.toNat) u:=by
 obtain ⟨-,-,h1,h2,h3,-⟩:=hat.rows
 have hc : ∀ i,(cellSet (rowAt p.cell a.toNat) w.toNat).getLsbD i=(cellL p a w).getLsbD i:=fun i=>by rw [cellL,if_pos hat]
 rw [bestL,if_pos hat,bestSet,best_bit]
 simp only [BitVec.getLsbD_and,Bool.and_eq_true,hc]
 constructor
 ·rintro ⟨h4,h5,h6⟩
  exact ⟨h5,fun u hu hu'=>h6 u (by have:=(cellL_bit hat).1 hu';omega) ⟨hu,hu'⟩⟩
 ·rintro ⟨h4,h5⟩
  exact ⟨by have:=(cellL_bit hat).1 h4.2;omega,h4,fun u _ hu=>h5 u hu.1 hu.2⟩
theorem rank_nonneg {i:Nat} (h:(cellL p a w).getLsbD i=true):0≤at0 (rowAt p.rank a.toNat) i:=by
 obtain ⟨-,-,h1,h2,h3,-⟩:=hat.rows
 have hg:=checkL_good hat.ok
 have h4:=(cellL_bit hat).1 h
 have ha:=hat.a0
 have ha':=hat.a1
 exact ((hg.ranked a.toNat (by omega)) i (by omega)).1
theorem within1 (s:BitVec 64):bestL p a w s &&& ~~~(cellL p a w&&&s)=0#64:=by
 rw [zero_iff]
 intro i
 rw [BitVec.getLsbD_and]
 cases hb:(bestL p a w s).getLsbD i with
 | false=>simp
 | true =>
  obtain ⟨⟨h1,h2⟩,-⟩:=(bestL_bit hat).1 hb
  simp [h1,h2]
theorem within2 (s:BitVec 64):bestL p a w s=0#64↔cellL p a w&&&s=0#64:=by
 constructor
 ·intro h
  apply Classical.byContradiction
  intro hn
  rw [zero_iff] at hn
  have : ∃ i,(cellL p a w&&&s).getLsbD i=true:=by
   apply Classical.byContradiction
   intro h'
   apply hn
   intro i
   cases hb:(cellL p a w&&&s).getLsbD i with
   | false=>rfl
   | true=>exact absurd ⟨i,hb⟩ h'
  obtain ⟨i,hi⟩:=this
  rw [BitVec.getLsbD_and,Bool.and_eq_true] at hi
  obtain ⟨j,h1,h2⟩:=least_ex (K:=fun i=>s.getLsbD i=true∧(cellL p a w).getLsbD i=true) (R:=fun i=>at0 (rowAt p.rank a.toNat) i) (fun i hi=>rank_nonneg hat hi.2) _ i ⟨hi.2,hi.1⟩ (Nat.le_refl _)
  have:=(bestL_bit hat).2 ⟨h1,fun u hu hu'=>h2 u ⟨hu,hu'⟩⟩
  rw [h] at this
  simp at this
 ·intro h
  rw [zero_iff] at h ⊢
  intro i
  cases hb:(bestL p a w s).getLsbD i with
  | false=>rfl
  | true =>
   obtain ⟨⟨h1,h2⟩,-⟩:=(bestL_bit hat).1 hb
   have:=h i
   rw [BitVec.getLsbD_and,h1,h2] at this
   cases this
theorem within3:(cellL p a w).getLsbD w.toNat=true:=by
 have h0:=hat.w0
 have h1:=hat.w1
 exact (cellL_bit hat).2 ⟨by omega,rfl⟩
theorem within4 {s t:BitVec 64} (h:bestL p a w s&&&t≠0#64):bestL p a w (s&&&t)=bestL p a w s&&&t:=by
 have : ∃ i,(bestL p a w s&&&t).getLsbD i=true:=by
  apply Classical.byContradiction
  intro h'
  apply h
  rw [zero_iff]
  intro i
  cases hb:(bestL p a w s&&&t).getLsbD i with
  | false=>rfl
  | true=>exact absurd ⟨i,hb⟩ h'
 obtain ⟨i,hi⟩:=this
 rw [BitVec.getLsbD_and,Bool.and_eq_true,bestL_bit hat] at hi
 refine bits_ext fun j hj=>?_
 rw [BitVec.getLsbD_and,Bool.and_eq_true,bestL_bit hat,bestL_bit hat]
 simp only [BitVec.getLsbD_and,Bool.and_eq_true]
 obtain ⟨⟨⟨h1,h2⟩,h3⟩,h4⟩:=hi
 constructor
 ·rintro ⟨⟨⟨a1,a2⟩,a3⟩,a4⟩
  refine ⟨⟨⟨a1,a3⟩,fun u hu hu'=>?_⟩,a2⟩
  have:=a4 i ⟨h1,h4⟩ h2
  have:=h3 u hu hu'
  omega
 ·rintro ⟨⟨⟨a1,a3⟩,a4⟩,a2⟩
  exact ⟨⟨⟨a1,a2⟩,a3⟩,fun u hu hu'=>a4 u hu.1 hu'⟩
end
def knowR (p:PM) (a:Nat):List (BitVec 64):=(List.range p.W.toNat).map fun w=>cellSet (rowAt p.cell a) w
def beliefR (p:PM) (a:Nat):List (BitVec 64):=(List.range p.W.toNat).map fun w=>bestSet (rowAt p.rank a) (cellSet (rowAt p.cell a) w)
section
variable {p:PM} (hg:Good p) {a:Nat} (ha:a < p.cell.length)
include hg ha
theorem know_bit {w v:Nat} : rb (knowR p a) w v=true↔w < p.W.toNat∧v < p.W.toNat∧at0 (rowAt p.cell a) v=at0 (rowAt p.cell a) w:=by
 obtain ⟨h1,h2⟩:=hg.lens a ha
 have hw2:=hg.w2
 by_cases hw:w < p.W.toNat
 ·have:(knowR p a)[w]? = some (cellSet (rowAt p.cell a) w):=by simp [knowR,hw]
  rw [rb_of this,cellSet,setTo_bit]
  simp only [Bool.and_eq_true,decide_eq_true_eq,beq_iff_eq]
  constructor
  ·rintro ⟨⟨-,h4⟩,h5⟩;exact ⟨hw,by omega,h5⟩
  ·rintro ⟨-,h4,h5⟩;exact ⟨⟨by omega,by omega⟩,h5⟩
 ·rw [rb_out (by simp [knowR];omega)]
  constructor
  ·intro h;cases h
  ·rintro ⟨h,-⟩;exact absurd h hw
theorem belief_bit {w v:Nat} : rb (beliefR p a) w v=true↔w < p.W.toNat∧v < p.W.toNat∧at0 (rowAt p.cell a) v=at0 (rowAt p.cell a) w ∧ ∀ u,u < p.W.toNat→at0 (rowAt p.cell a) u=at0 (rowAt p.cell a) w→at0 (rowAt p.rank a) v≤at0 (rowAt p.rank a) u:=by
 obtain ⟨h1,h2⟩:=hg.lens a ha
 have hw2:=hg.w2
 have hc : ∀ i,(cellSet (rowAt p.cell a) w).getLsbD i=true↔i < p.W.toNat∧at0 (rowAt p.cell a) i=at0 (rowAt p.cell a) w:=fun i=>by
  rw [cellSet,setTo_bit]
  simp only [Bool.and_eq_true,decide_eq_true_eq,beq_iff_eq]
  constructor
  ·rintro ⟨⟨-,h4⟩,h5⟩;exact ⟨by omega,h5⟩
  ·rintro ⟨h4,h5⟩;exact ⟨⟨by omega,by omega⟩,h5⟩
 by_cases hw:w < p.W.toNat
 ·have:(beliefR p a)[w]? = some (bestSet (rowAt p.rank a) (cellSet (rowAt p.cell a) w)):=by simp [beliefR,hw]
  rw [rb_of this,bestSet,best_bit]
  simp only [hc]
  constructor
  ·rintro ⟨h4,⟨h5,h6⟩,h7⟩
   exact ⟨hw,h5,h6,fun u hu hu'=>h7 u (by omega) ⟨hu,hu'⟩⟩
  ·rintro ⟨-,h5,h6,h7⟩
   exact ⟨by omega,⟨h5,h6⟩,fun u _ hu=>h7 u hu.1 hu.2⟩
 ·rw [rb_out (by simp [beliefR];omega)]
  constructor
  ·intro h;cases h
  ·rintro ⟨h,-⟩;exact absurd h hw
theorem know_check:relCheck (knowR p a)=0:=by
 have hw2:=hg.w2
 refine relCheck_ok.2 ⟨by simp [knowR];omega,fun w v h=>?_⟩
 have:=((know_bit hg ha).1 h).2.1
 simpa [knowR] using this
theorem belief_check:relCheck (beliefR p a)=0:=by
 have hw2:=hg.w2
 refine relCheck_ok.2 ⟨by simp [beliefR];omega,fun w v h=>?_⟩
 have:=((belief_bit hg ha).1 h).2.1
 simpa [beliefR] using this
theorem know_refl:hasB (knowR p a) 2=true:=hasB_iff.2 ⟨know_check hg ha,.inr (.inl ⟨rfl,fun w hw=>by
 have:w < p.W.toNat:=by simpa [knowR] using hw
 exact (know_bit hg ha).2 ⟨this,this,rfl⟩⟩)⟩
theorem know_sym:hasB (knowR p a) 3=true:=hasB_iff.2 ⟨know_check hg ha,.inr (.inr (.inl ⟨rfl,fun w v h=>by
 rw [know_bit hg ha] at h ⊢
 exact ⟨h.2.1,h.1,h.2.2.symm⟩⟩))⟩
theorem know_tr:hasB (knowR p a) 4=true:=hasB_iff.2 ⟨know_check hg ha,.inr (.inr (.inr (.inl ⟨rfl,fun w u v h h'=>by
 rw [know_bit hg ha] at h h' ⊢
 exact ⟨h.1,h'.2.1,h'.2.2.trans h.2.2⟩⟩)))⟩
theorem belief_ser:hasB (beliefR p a) 1=true:=hasB_iff.2 ⟨belief_check hg ha,.inl ⟨rfl,fun w hw=>by
 have hw':w < p.W.toNat:=by simpa [beliefR] using hw
 obtain ⟨h1,h2⟩:=hg.lens a ha
 obtain ⟨j,⟨h3,h4⟩,h5⟩:=least_ex (K:=fun i=>i < p.W.toNat∧at0 (rowAt p.cell a) i=at0 (rowAt p.cell a) w) (R:=fun i=>at0 (rowAt p.rank a) i) (fun i hi=>(hg.ranked a ha i (by omega)).1) _ w ⟨hw',rfl⟩ (Nat.le_refl _)
 exact ⟨j,(belief_bit hg ha).2 ⟨hw',h3,h4,fun u hu hu'=>h5 u ⟨hu,hu'⟩⟩⟩⟩⟩
theorem belief_tr:hasB (beliefR p a) 4=true:=hasB_iff.2 ⟨belief_check hg ha,.inr (.inr (.inr (.inl ⟨rfl,fun w u v h h'=>by
 rw [belief_bit hg ha] at h h' ⊢
 exact ⟨h.1,h'.2.1,h'.2.2.1.trans h.2.2.1,fun x hx hx'=>h'.2.2.2 x hx (hx'.trans h.2.2.1.symm)⟩⟩)))⟩
theorem belief_euc:hasB (beliefR p a) 5=true:=hasB_iff.2 ⟨belief_check hg ha,.inr (.inr (.inr (.inr ⟨rfl,fun w u v h h'=>by
 rw [belief_bit hg ha] at h h' ⊢
 exact ⟨h.2.1,h'.2.1,h'.2.2.1.trans h.2.2.1.symm,fun x hx hx'=>h'.2.2.2 x hx (hx'.trans h.2.2.1)⟩⟩)))⟩
theorem belief_same {w v:Nat} (h:rb (knowR p a) w v=true):uAt (beliefR p a) v=uAt (beliefR p a) w:=rowsEq fun i=>by
 rw [know_bit hg ha] at h
 rw [Bool.eq_iff_iff,belief_bit hg ha,belief_bit hg ha]
 simp only [h.2.2,h.1,h.2.1]
theorem belief_know (w:Nat):uAt (beliefR p a) w &&& ~~~(uAt (knowR p a) w)=0#64:=by
 rw [zero_iff]
 intro i
 rw [BitVec.getLsbD_and,uAt_bit]
 cases hb:rb (beliefR p a) w i with
 | false=>simp
 | true =>
  obtain ⟨h1,h2,h3,-⟩:=(belief_bit hg ha).1 hb
  have h4:(uAt (knowR p a) w).getLsbD i=true:=(know_bit hg ha).2 ⟨h1,h2,h3⟩
  have h5:i < 64:=by have:=hg.w2;omega
  simp [h4]
end
end Go.Ab
namespace Go.Ab
open Go Go.Proofs
set_option linter.unusedSimpArgs false
set_option linter.unusedVariables false
set_option maxRecDepth 10000
set_option maxHeartbeats 4000000
variable {T:Nat→Obj→Prop}
theorem TestS.yes {b:Bool} {p q:Prop} (hb:b=true) (h:p):TestS b p q:=⟨fun _=>h,fun e=>by rw [hb] at e;cases e⟩
theorem TestS.no {b:Bool} {p q:Prop} (hb:b=false) (h:q):TestS b p q:=⟨fun e=>(by rw [hb] at e;cases e),fun _=>h⟩
theorem AltS.other {a b:Prop} (h:b):AltS True a b := .no h
def pm0:PM:=⟨3,[1#64],[[0,0,2]],[[1,0,0]]⟩
abbrev obsS:List (Option Ob):=[some (.row 1 [.u64 1]),some (.row 1 [.int .i64 0,.int .i64 0,.int .i64 2]),some (.box [.own 1]),some (.row 1 [.int .i64 1,.int .i64 0,.int .i64 0]),some (.box [.own 3])]
theorem fn_small_D:Fn Tryz.prog T f_wittinglaw33_small [] [] (.d (dPM pm0)) []:=by
 refine fn_dataR hmix k_wittinglaw33_small (by show 0≤7;decide) ?_
 (repeat' ((conv=>whnf);refine vT ?_));all_goals try conv=>whnf
 rfl
theorem fn_small_O:Fn Tryz.prog T f_wittinglaw33_small [] [] (.agg [.d (.int .i64 3),.own 0,.bown 2 1,.bown 4 1]) obsS:=by
 refine fn_introR hmix k_wittinglaw33_small (by show 0≤7;decide) _ (fun e env mem n h=>h) ?_
 (repeat' ((conv=>whnf);refine AltS.other ?_));all_goals try conv=>whnf
 refine ⟨trivial,_,[(0,1),(1,2),(2,3),(3,4),(4,5)],[],rfl,.inl (by (repeat' first|exact rfl|refine And.intro ?_ ?_|refine ⟨_,rfl,?_⟩)),⟨by rfl,by rfl,by rfl,trivial,by (repeat' first|exact trivial|exact rfl|refine And.intro ?_ ?_|refine ⟨_,rfl,?_⟩|decide)⟩,by (repeat' exact trivial)⟩
theorem small_ok:IntsOk pm0.rank:=by
 intro r hr x hx
 simp [pm0] at hr
 subst hr
 have h : ∀ x∈([1,0,0]:List Int),0≤x∧x≤1:=by decide
 have:=h x hx
 exact ⟨by omega,by omega⟩
theorem weaker0:weakerL pm0 0=([3#64,2#64,4#64],0):=by decide
theorem belief0:kripkeL pm0 (fun a w=>bestSet (rowAt pm0.rank a) (cellSet (rowAt pm0.cell a) w))=(⟨3,[1#64],[[2#64,2#64,4#64]]⟩,0):=by decide
theorem rest0:restL pm0 5#64=(⟨2,[1#64],[[0,1]],[[0,0]]⟩,[0,2],0):=by decide
theorem check0:checkL pm0=0:=by decide
theorem new0:newL 3 [1#64] [[3#64,2#64,4#64]]=(pm0,0):=by
 have h:=new_weak (checkL_good check0) (shape_good check0)
 rwa [show (List.range pm0.cell.length).map (weakL pm0)=[[3#64,2#64,4#64]] by decide] at h
abbrev pmBad:PM:=⟨3,[1#64],[[0,0,2]],[[2,0,0]]⟩
abbrev pmWorse:PM:=⟨3,[1#64],[[1,0,2]],[[1,0,0]]⟩
theorem ints_ok {l:List Int} (h : ∀ x∈l,0≤x∧x≤2):IntsOk [l]:=by
 intro r hr x hx
 rw [List.mem_singleton] at hr
 subst hr
 have:=h x hx
 exact ⟨by omega,by omega⟩
end Go.Ab
namespace Go.Ab
open Go Go.Proofs
set_option linter.unusedSimpArgs false
set_option linter.unusedVariables false
set_option maxRecDepth 10000
set_option maxHeartbeats 4000000
variable {T:Nat→Obj→Prop}
set_option maxHeartbeats 4000000 in
theorem fn_awake (hT:TzOk T):Fn Tryz.prog T f_wittinglaw33_awake [] [] (.d (.bool true)) []:=by
 have hR:=ranks_ok (T:=T)
 have hRO:RanksOwn T:=fun cell rank h1 h2=>ranks_own h1 h2
 have hW:=fn_Weaker hR pm0 small_ok 0
 rw [weaker0] at hW
 have hN:=fn_New hT 3 [1#64] [[3#64,2#64,4#64]]
 rw [new0] at hN
 have hB:=fn_Belief hR pm0 small_ok
 rw [belief0] at hB
 have hRs:=fn_Restrict hR hRO pm0 small_ok 5#64
 rw [rest0] at hRs
 have hS1:=fn_ref02_Same (T:=T) [3#64,2#64,4#64] [3#64,2#64,4#64]
 rw [show ([3#64,2#64,4#64]==[3#64,2#64,4#64])=true by decide] at hS1
 have hS2:=fn_ref02_Same (T:=T) [2#64,2#64,4#64] [2#64,2#64,4#64]
 rw [show ([2#64,2#64,4#64]==[2#64,2#64,4#64])=true by decide] at hS2
 have hP1:=fn_plaus_Same (T:=T) pm0 pm0
 rw [show decide (pm0=pm0)=true by simp] at hP1
 have hP2:=fn_plaus_Same (T:=T) ⟨2,[1#64],[[0,1]],[[0,0]]⟩ ⟨2,[1#64],[[0,1]],[[0,0]]⟩
 rw [show decide ((⟨2,[1#64],[[0,1]],[[0,0]]⟩:PM)=⟨2,[1#64],[[0,1]],[[0,0]]⟩)=true by simp] at hP2
 have hC:=fn_Cell hR pm0 small_ok 0 1
 rw [show cellL pm0 0 1=3#64 by decide] at hC
 have hB1:=fn_Best hR pm0 small_ok 0 0 7#64
 rw [show bestL pm0 0 0 7#64=2#64 by decide] at hB1
 have hB2:=fn_Best hR pm0 small_ok 0 0 5#64
 rw [show bestL pm0 0 0 5#64=1#64 by decide] at hB2
 have hB3:=fn_Best hR pm0 small_ok 0 2 3#64
 rw [show bestL pm0 0 2 3#64=0#64 by decide] at hB3
 have hK1:=fn_plaus_Check hR pmBad (ints_ok (by decide))
 rw [show checkL pmBad=9 by decide] at hK1
 have hK2:=fn_plaus_Check hR pmWorse (ints_ok (by decide))
 rw [show checkL pmWorse=1 by decide] at hK2
 refine fn_dataR hmix k_wittinglaw33_awake (by show 0≤134;decide) ?_
 (repeat' ((conv=>whnf);fail));all_goals try conv=>whnf
 refine CallS.dataN (fn_small_D) (by (repeat refine ⟨⟨rfl,rfl⟩,?_⟩);rfl) ?_
 (repeat' ((conv=>whnf);first|refine vT ?_|refine yN hW ⟨⟨rfl,rfl⟩,⟨rfl,rfl⟩,rfl⟩ ?_|refine yN hN ⟨⟨rfl,rfl⟩,⟨rfl,rfl⟩,⟨rfl,rfl⟩,rfl⟩ ?_|refine yN hB ⟨⟨rfl,rfl⟩,rfl⟩ ?_|refine yN hRs ⟨⟨rfl,rfl⟩,⟨rfl,rfl⟩,rfl⟩ ?_));all_goals try conv=>whnf
 refine SeqS.cut (fun (u:Unit)=>[(1,.ptr 0 0),(8,.ptr 1 0),(9,.d (dI [0,2]))]) (fun (u:Unit)=>[(0,some (boxPM pm0)),(1,some (boxPM ⟨2,[1#64],[[0,1]],[[0,0]]⟩))]) 2 (fun (u:Unit)=>True) ?_ ?_
 ·(repeat' ((conv=>whnf);first|refine TestS.no (by decide) ?_|refine vA ?_|refine vJ fun hg=>?_|(refine vQ ?_ fun x hx=>?_;·(simp only [vM] at *;omega))|(refine vO ?_ ?_;·first|omega|(simp only [vM] at *;omega))|refine yD hS1 ⟨⟨rfl,rfl⟩,⟨rfl,rfl⟩,rfl⟩ rfl ?_|refine yD hP1 ⟨⟨rfl,rfl⟩,⟨rfl,rfl⟩,rfl⟩ rfl ?_));all_goals try conv=>whnf
  obtain rfl:[2#64,2#64,4#64]=x:=Option.some.inj hx
  (repeat' ((conv=>whnf);first|refine TestS.no (by decide) ?_|refine yD hS2 ⟨⟨rfl,rfl⟩,⟨rfl,rfl⟩,rfl⟩ rfl ?_));all_goals try conv=>whnf
  exact ⟨(),[(0,0),(1,5)],[],trivial,by (refine ⟨rfl,rfl,rfl,?_,?_⟩;repeat' first|exact trivial|exact rfl|refine And.intro ?_ ?_|refine ⟨_,rfl,?_⟩|decide)⟩
 ·intro u hu
  (repeat' ((conv=>whnf);fail));all_goals try conv=>whnf
  refine CallS.res (fn_small_O) (by (repeat refine ⟨⟨rfl,rfl⟩,?_⟩);rfl) ?_
  (repeat' ((conv=>whnf);fail));all_goals try conv=>whnf
  refine CallS.res (fn_small_O) (by (repeat refine ⟨⟨rfl,rfl⟩,?_⟩);rfl) ?_
  (repeat' ((conv=>whnf);first|refine TestS.yes (by decide) ?_|refine vA ?_|(refine vF ?_ ?_<;>intro hc)|refine vJ fun hg=>?_|refine vT ?_|(refine vQ ?_ fun x hx=>?_;·(simp only [vM] at *;omega))|(refine vP ?_ ?_;·first|omega|(simp only [vM] at *;omega))|refine vZ ?_|refine yD hP2 ⟨⟨rfl,rfl⟩,⟨rfl,rfl⟩,rfl⟩ rfl ?_|refine yD hC ⟨⟨rfl,rfl⟩,⟨rfl,rfl⟩,⟨rfl,rfl⟩,rfl⟩ rfl ?_|refine yD hB1 (by (repeat refine ⟨⟨rfl,rfl⟩,?_⟩);rfl) rfl ?_|refine yD hB2 (by (repeat refine ⟨⟨rfl,rfl⟩,?_⟩);rfl) rfl ?_|refine yD hB3 (by (repeat refine ⟨⟨rfl,rfl⟩,?_⟩);rfl) rfl ?_|refine yD hK1 ⟨⟨rfl,rfl⟩,rfl⟩ rfl ?_|refine yD hK2 ⟨⟨rfl,rfl⟩,rfl⟩ rfl ?_));all_goals try conv=>whnf
  exact absurd (Option.some.inj hx).symm hc
end Go.Ab
namespace Go.Ab
open Go Go.Proofs
set_option linter.unusedSimpArgs false
set_option linter.unusedVariables false
set_option maxRecDepth 10000
set_option maxHeartbeats 4000000
variable {T:Nat→Obj→Prop}
theorem weaker_ok {p:PM} {a:Nat} (h:checkL p=0) (ha:a < p.cell.length):weakerL p a=(weakL p a,0):=by
 rw [weakerL,if_neg (not_not_intro h),if_neg (by omega)];rfl
end Go.Ab
namespace Go.Ab
open Go Go.Proofs
set_option linter.unusedSimpArgs false
set_option linter.unusedVariables false
set_option maxRecDepth 10000
set_option maxHeartbeats 4000000
variable {T:Nat→Obj→Prop}
theorem fn_ref02_Check (n:Int) (r:List (BitVec 64)):Fn Tryz.prog T f_wittingref02_Check [.d (.int .i64 n),.d (dU r)] [] (.d (.int .i64 (relN n r))) []:=by
 refine fn_dataR hmix k_wittingref02_Check (by show 2≤29;decide) ?_
 unfold relN
 (repeat' ((conv=>whnf);first|refine vA ?_|((first|refine vD ?_ ?_|refine vF ?_ ?_)<;>intro hc<;>try simp only [vL] at hc)|refine vJ fun hg=>?_|refine vX ?_));all_goals try conv=>whnf
 ·rw [if_pos (.inl hc)]
 ·rw [if_pos (.inr hc)]
 ·rw [if_neg (by omega),if_pos hc]
 refine loop_intro (fun (k:Nat)=>[(0,.d (.int .i64 (n))),(1,.d (dU r)),(5,.d (.int .i64 ((k:Int))))]) (fun (k:Nat)=>k≤r.length∧r.any (bad n)=(r.drop k).any (bad n)) (fun (k:Nat)=>r.length - k) (0) (⟨by simp,by simp⟩) (by (repeat' first|exact trivial|exact rfl|refine And.intro ?_ ?_)) ?_
 rintro k ⟨hk,hI⟩
 (repeat' ((conv=>whnf);first|refine vA ?_|((first|refine vD ?_ ?_|refine vF ?_ ?_)<;>intro hc<;>try simp only [vL] at hc)|(refine vQ ?_ fun x hx=>?_;·omega)|(refine vO ?_ ?_;·omega)|(refine vU ?_ ?_;·kernel_rfl)|refine vX ?_|(refine yD (fn_ref02_All _ ?_) ⟨⟨rfl,rfl⟩,rfl⟩ rfl ?_;(·omega))|fail));all_goals try conv=>whnf
 ·have hb:bad n x=true:=by simpa [bad] using hc
  rw [if_neg (by omega),if_neg (by omega),hI,drop_cons hx];simp [hb]
 ·have hb:bad n x=false:=by simpa [bad] using hc
  exact ⟨k+1,[],[],⟨by (omega),by rw [hI,drop_cons hx];simp [hb]⟩,by (omega),by (refine ⟨rfl,rfl,rfl,?_,?_⟩;repeat' first|exact trivial|exact rfl|refine And.intro ?_ ?_)⟩
 ·rw [if_neg (by omega),if_neg (by omega),hI,List.drop_eq_nil_of_le (by omega)];simp
theorem relN_self {r:List (BitVec 64)} : relN r.length r=relCheck r:=by
 unfold relCheck relN
 by_cases h1:64 < r.length
 ·rw [if_pos h1,if_pos (.inr (Int.ofNat_lt.2 h1))]
 ·rw [if_neg h1,if_neg (show ¬((r.length:Int) < 0∨(64:Int) < (r.length:Int)) by omega),if_neg (show ¬((r.length:Int)≠(r.length:Int)) by simp)]
theorem fn_refCheck (r:List (BitVec 64)):Fn Tryz.prog T f_wittingref02_Check [.d (.int .i64 ((r.map D.u64).length:Int)),.d (dU r)] [] (.d (.int .i64 (relCheck r))) []:=by
 have h:=fn_ref02_Check (T:=T) (r.length:Int) r
 rw [relN_self] at h
 rw [List.length_map];exact h
theorem fn_Valid (r:List (BitVec 64)):Fn Tryz.prog T f_wittingref02_Valid [.d (dU r)] [] (.d (.bool (decide (relCheck r=0)))) []:=by
 refine fn_dataR hmix k_wittingref02_Valid (by show 1≤8;decide) ?_
 (repeat' ((conv=>whnf);first|refine vJ fun hg=>?_|refine vZ ?_|refine yD (fn_refCheck _) ⟨⟨rfl,rfl⟩,⟨rfl,rfl⟩,rfl⟩ rfl ?_));all_goals try conv=>whnf
 all_goals rfl
theorem rows_list (r:List (BitVec 64)):(List.range r.length).map (uAt r)=r:=range_rows (z:=0) fun a ha=>rfl
theorem rows_D (r:List (BitVec 64)):r.map D.u64=(List.range r.length).map fun u=>D.u64 (uAt r u):=by
 conv=>lhs;rw [← rows_list r]
 rw [List.map_map];rfl
theorem fn_ref02_Converse (r:List (BitVec 64)):Fn Tryz.prog T f_wittingref02_Converse [.d (dU r)] [] (.d (dUI (if relCheck r≠0 then ([],relCheck r) else (revL r,0)))) []:=by
 refine fn_dataR hmix k_wittingref02_Converse (by show 1≤46;decide) ?_
 (repeat' ((conv=>whnf);first|refine vA ?_|(refine vD ?_ ?_<;>intro hc)|refine vJ fun hg=>?_|(refine vP ?_ ?_;·omega)|refine yD (fn_refCheck _) ⟨⟨rfl,rfl⟩,⟨rfl,rfl⟩,rfl⟩ rfl ?_));all_goals try conv=>whnf
 ·rw [if_pos hc];rfl
 have h0:=‹relCheck r=0›
 obtain ⟨h64,hin⟩:=relCheck_ok.1 h0
 rw [if_neg (not_not_intro h0)]
 (repeat' ((conv=>whnf);first|refine vA ?_|(refine vP ?_ ?_;·(simp only [vM] at *;omega))|fail));all_goals try conv=>whnf
 refine loop_mem (fun ((w,xs):Nat×List D)=>[(0,.d (dU r)),(5,.own 0),(6,.d (.int .i64 ((w:Int))))]) (fun ((w,xs):Nat×List D)=>[(0,some (.row 1 xs))]) 1 (fun ((w,xs):Nat×List D)=>w≤r.length∧xs=(List.range r.length).map fun v=>D.u64 (setTo (fun w=>rb r w v) w)) (fun ((w,xs):Nat×List D)=>r.length - w) ((0,List.replicate ((r.map D.u64).length:Int).toNat (D.u64 0#64))) [(0,0)] [] (⟨by simp,by simp only [List.length_map,Int.toNat_natCast];exact replicate_range _ _⟩) (by (refine ⟨rfl,rfl,rfl,?_,?_⟩;repeat' first|exact trivial|exact rfl|refine And.intro ?_ ?_|refine ⟨_,rfl,?_⟩|decide)) ?_
 rintro ⟨w,_⟩ ⟨hw,rfl⟩
 (repeat' ((conv=>whnf);first|refine vA ?_|(refine vF ?_ ?_<;>intro hc<;>try simp only [vL] at hc)|refine vJ fun hg=>?_));all_goals try conv=>whnf
 ·refine loop_mem (fun ((v,xs):Nat×List D)=>[(0,.d (dU r)),(5,.own 0),(6,.d (.int .i64 ((w:Int)))),(7,.d (.int .i64 ((v:Int))))]) (fun ((v,xs):Nat×List D)=>[(0,some (.row 1 xs))]) 1 (fun ((v,xs):Nat×List D)=>v≤r.length∧xs=(List.range r.length).map fun u=>D.u64 (setTo (fun w=>rb r w u) w|||if u < v∧rb r w u=true then 1#64 <<< w else 0#64)) (fun ((v,xs):Nat×List D)=>r.length - v) ((0,(List.range r.length).map fun v=>D.u64 (setTo (fun w=>rb r w v) w))) [(0,0)] [] (⟨by simp,map_range_congr fun u hu=>by simp⟩) (by (refine ⟨rfl,rfl,rfl,?_,?_⟩;repeat' first|exact trivial|exact rfl|refine And.intro ?_ ?_|refine ⟨_,rfl,?_⟩|decide)) ?_
  rintro ⟨v,_⟩ ⟨hv,rfl⟩
  (repeat' ((conv=>whnf);first|refine vA ?_|((first|refine vF ?_ ?_|refine vI ?_ ?_)<;>intro hc<;>try simp only [vL] at hc)|refine vJ fun hg=>?_|(refine vQ ?_ fun x hx=>?_;·first|omega|(simp only [vM] at *;omega))|((first|refine vO ?_ ?_|refine vP ?_ ?_);·first|omega|(simp only [vM] at *;omega))|(refine yD (fn_In _ _ ?_ ?_) ⟨⟨rfl,rfl⟩,⟨rfl,rfl⟩,rfl⟩ rfl ?_;(·omega);(·omega))|fail));all_goals try conv=>whnf
  ·have hb:rb r w v=true:=by rw [rb_of ‹r[w]? = some _›,← bit_eq];exact hc
   have hxe:=get_range hx
   subst hxe
   refine ⟨(x+1,_),[(0,0)],[],?_,?_,by (refine ⟨rfl,rfl,rfl,?_,?_⟩;repeat' first|exact trivial|exact rfl|refine And.intro ?_ ?_|refine ⟨_,rfl,?_⟩|decide)⟩
   ·refine ⟨by (omega),(set_range _).trans (map_range_congr fun u hu=>?_)⟩
    show (if u=x then D.u64 _ else D.u64 _)=_
    by_cases e:u=x
    ·subst e
     rw [if_pos rfl,ofInt_nat (by omega)]
     simp [hb]
    ·by_cases e1:u < x
     ·simp [e,e1,show u < x+1 by omega]
     ·simp [e,e1,show ¬u < x+1 by omega]
   ·((simp only [vM] at *;omega))
  ·have hb:rb r w v=false:=by rw [rb_of ‹r[w]? = some _›,← bit_eq];exact hc
   refine ⟨(v+1,_),[(0,0)],[],?_,?_,by (refine ⟨rfl,rfl,rfl,?_,?_⟩;repeat' first|exact trivial|exact rfl|refine And.intro ?_ ?_|refine ⟨_,rfl,?_⟩|decide)⟩
   ·refine ⟨by (omega),map_range_congr fun u hu=>?_⟩
    by_cases e:u=v
    ·subst e;simp [hb]
    ·by_cases e1:u < v
     ·simp [e1,show u < v+1 by omega]
     ·simp [e1,show ¬u < v+1 by omega]
   ·((simp only [vM] at *;omega))
  ·refine ⟨(w+1,_),[(0,0)],[],?_,?_,by (refine ⟨rfl,rfl,rfl,?_,?_⟩;repeat' first|exact trivial|exact rfl|refine And.intro ?_ ?_|refine ⟨_,rfl,?_⟩|decide)⟩
   ·refine ⟨by (omega),map_range_congr fun u hu=>?_⟩
    rw [setTo]
    by_cases e:rb r w u=true
    ·simp [e,show u < v by omega]
    ·simp [e]
   ·((simp only [vM] at *;omega))
 ·obtain rfl:w=r.length:=by omega
  refine congrArg some (congrArg (fun l=>D.tup [.arr 1 l,.int .i64 0]) ?_)
  rw [revL,List.map_map];rfl
def orR (r s:List (BitVec 64)):List (BitVec 64):=(List.range r.length).map fun u=>uAt r u|||uAt s u
theorem fn_two (r s:List (BitVec 64)):Fn Tryz.prog T f_wittingref02_two [.d (dU r),.d (dU s)] [] (.d (.int .i64 (if relCheck r≠0 then relCheck r else if relCheck s≠0 then relCheck s else if r.length≠s.length then 1 else 0))) []:=by
 refine fn_dataR hmix k_wittingref02_two (by show 2≤26;decide) ?_
 (repeat' ((conv=>whnf);first|refine vA ?_|(refine vD ?_ ?_<;>intro hc<;>try simp only [vL] at hc)|refine vJ fun hg=>?_|refine vX ?_|refine yD (fn_refCheck _) ⟨⟨rfl,rfl⟩,⟨rfl,rfl⟩,rfl⟩ rfl ?_));all_goals try conv=>whnf
 ·rw [if_pos hc]
 ·rw [if_neg (not_not_intro ‹relCheck r=0›),if_pos hc]
 ·rw [if_neg (not_not_intro ‹relCheck r=0›),if_neg (not_not_intro ‹relCheck s=0›),if_pos (by omega)]
 ·rw [if_neg (not_not_intro ‹relCheck r=0›),if_neg (not_not_intro ‹relCheck s=0›),if_neg (by omega)]
theorem fn_Union (r s:List (BitVec 64)) (h1:relCheck r=0) (h2:relCheck s=0) (hl:s.length=r.length):Fn Tryz.prog T f_wittingref02_Union [.d (dU r),.d (dU s)] [] (.d (dUI (orR r s,0))) []:=by
 have htw:=fn_two (T:=T) r s
 rw [if_neg (not_not_intro h1),if_neg (not_not_intro h2),if_neg (not_not_intro hl.symm)] at htw
 have h64:=(relCheck_ok.1 h1).1
 refine fn_dataR hmix k_wittingref02_Union (by show 2≤37;decide) ?_
 (repeat' ((conv=>whnf);first|refine TestS.no (by decide) ?_|refine vA ?_|refine vJ fun hg=>?_|(refine vP ?_ ?_;·(simp only [vM] at *;omega))|refine yD htw ⟨⟨rfl,rfl⟩,⟨rfl,rfl⟩,rfl⟩ rfl ?_));all_goals try conv=>whnf
 refine loop_mem (fun ((w,xs):Nat×List D)=>[(0,.d (dU r)),(1,.d (dU s)),(7,.own 0),(8,.d (.int .i64 ((w:Int))))]) (fun ((w,xs):Nat×List D)=>[(0,some (.row 1 xs))]) 1 (fun ((w,xs):Nat×List D)=>w≤r.length∧xs=(List.range r.length).map fun u=>D.u64 (if u < w then uAt r u|||uAt s u else 0#64)) (fun ((w,xs):Nat×List D)=>r.length - w) ((0,List.replicate ((r.map D.u64).length:Int).toNat (D.u64 0#64))) [(0,0)] [] (⟨by simp,by simp only [List.length_map,Int.toNat_natCast];exact (replicate_range _ _).trans (map_range_congr fun u hu=>by simp)⟩) (by (refine ⟨rfl,rfl,rfl,?_,?_⟩;repeat' first|exact trivial|exact rfl|refine And.intro ?_ ?_|refine ⟨_,rfl,?_⟩|decide)) ?_
 rintro ⟨w,_⟩ ⟨hw,rfl⟩
 (repeat' ((conv=>whnf);first|refine vA ?_|(refine vF ?_ ?_<;>intro hc<;>try simp only [vL] at hc)|refine vJ fun hg=>?_|(refine vQ ?_ fun x hx=>?_;·omega)|((first|refine vO ?_ ?_|refine vP ?_ ?_);·first|omega|(simp only [vM] at *;omega))|(refine vU ?_ ?_;·kernel_rfl)|fail));all_goals try conv=>whnf
 ·have e1:=uAt_of ‹r[w]? = some _›
  have e2:=uAt_of hx
  refine ⟨(w+1,_),[(0,0)],[],?_,?_,by (refine ⟨rfl,rfl,rfl,?_,?_⟩;repeat' first|exact trivial|exact rfl|refine And.intro ?_ ?_|refine ⟨_,rfl,?_⟩|decide)⟩
  ·refine ⟨by (omega),(set_range _).trans (map_range_congr fun u hu=>?_)⟩
   show (if u=w then D.u64 _ else D.u64 _)=_
   by_cases e:u=w
   ·subst e;rw [if_pos rfl,if_pos (Nat.lt_succ_self _),e1,e2]
   ·by_cases h:u < w
    ·simp [e,h,show u < w+1 by omega]
    ·simp [e,h,show ¬u < w+1 by omega]
  ·((simp only [vM] at *;omega))
 ·obtain rfl:w=r.length:=by omega
  refine congrArg some (congrArg (fun l=>D.tup [.arr 1 l,.int .i64 0]) ?_)
  rw [orR,List.map_map]
  exact map_range_congr fun u hu=>by rw [if_pos hu];rfl
theorem rev_check {r:List (BitVec 64)} (h:relCheck r=0):relCheck (revL r)=0∧(revL r).length=r.length:=by
 obtain ⟨h1,h2⟩:=relCheck_ok.1 h
 have hl:(revL r).length=r.length:=by simp [revL]
 refine ⟨relCheck_ok.2 ⟨by omega,fun w v hb=>?_⟩,hl⟩
 rw [revL_bit h1] at hb
 simp only [Bool.and_eq_true,decide_eq_true_eq] at hb
 omega
theorem fn_Symmetric (r:List (BitVec 64)) (h:relCheck r=0):Fn Tryz.prog T f_wittingref02_Symmetric [.d (dU r)] [] (.d (dUI (orR r (revL r),0))) []:=by
 have hcv:=fn_ref02_Converse (T:=T) r
 rw [if_neg (not_not_intro h)] at hcv
 obtain ⟨h2,h3⟩:=rev_check h
 have hun:=fn_Union (T:=T) r (revL r) h h2 h3
 refine fn_dataR hmix k_wittingref02_Symmetric (by show 1≤19;decide) ?_
 (repeat' ((conv=>whnf);first|refine vA ?_|refine vH ?_|refine yN hcv ⟨⟨rfl,rfl⟩,rfl⟩ ?_|refine yN hun ⟨⟨rfl,rfl⟩,⟨rfl,rfl⟩,rfl⟩ ?_));all_goals try conv=>whnf
 all_goals rfl
def reflL (r:List (BitVec 64)):List (BitVec 64):=(List.range r.length).map fun u=>uAt r u|||1#64 <<< u
theorem fn_Reflexive (r:List (BitVec 64)) (h:relCheck r=0):Fn Tryz.prog T f_wittingref02_Reflexive [.d (dU r)] [] (.d (dUI (reflL r,0))) []:=by
 have hrc:=fn_refCheck (T:=T) r
 rw [h] at hrc
 have h64:=(relCheck_ok.1 h).1
 refine fn_dataR hmix k_wittingref02_Reflexive (by show 1≤33;decide) ?_
 (repeat' ((conv=>whnf);first|refine TestS.no (by decide) ?_|refine vA ?_|refine vJ fun hg=>?_|(refine vP ?_ ?_;·(simp only [vM] at *;omega))|refine yD hrc ⟨⟨rfl,rfl⟩,⟨rfl,rfl⟩,rfl⟩ rfl ?_));all_goals try conv=>whnf
 refine loop_mem (fun ((w,xs):Nat×List D)=>[(0,.d (dU r)),(5,.own 0),(6,.d (.int .i64 ((w:Int))))]) (fun ((w,xs):Nat×List D)=>[(0,some (.row 1 xs))]) 1 (fun ((w,xs):Nat×List D)=>w≤r.length∧xs=(List.range r.length).map fun u=>D.u64 (if u < w then uAt r u|||1#64 <<< u else uAt r u)) (fun ((w,xs):Nat×List D)=>r.length - w) ((0,r.map D.u64)) [(0,1)] [] (⟨by simp,(rows_D r).trans (map_range_congr fun u hu=>by simp)⟩) (by (refine ⟨rfl,rfl,rfl,?_,?_⟩;repeat' first|exact trivial|exact rfl|refine And.intro ?_ ?_|refine ⟨_,rfl,?_⟩|decide)) ?_
 rintro ⟨w,_⟩ ⟨hw,rfl⟩
 (repeat' ((conv=>whnf);first|refine vA ?_|(refine vF ?_ ?_<;>intro hc<;>try simp only [vL] at hc)|refine vJ fun hg=>?_|(refine vQ ?_ fun x hx=>?_;·(simp only [vM] at *;omega))|((first|refine vO ?_ ?_|refine vP ?_ ?_);·first|omega|(simp only [vM] at *;omega))|fail));all_goals try conv=>whnf
 ·have hxe:=get_range hx
  simp only [Int.toNat_natCast] at hxe
  subst hxe
  refine ⟨(x+1,_),[(0,0)],[],?_,?_,by (refine ⟨rfl,rfl,rfl,?_,?_⟩;repeat' first|exact trivial|exact rfl|refine And.intro ?_ ?_|refine ⟨_,rfl,?_⟩|decide)⟩
  ·refine ⟨by (omega),(set_range _).trans (map_range_congr fun u hu=>?_)⟩
   show (if u=x then D.u64 _ else D.u64 _)=_
   by_cases e:u=x
   ·subst e;rw [ofInt_nat (by omega)];simp
   ·by_cases h:u < x
    ·simp [e,h,show u < x+1 by omega]
    ·simp [e,h,show ¬u < x+1 by omega]
  ·((simp only [vM] at *;omega))
 ·obtain rfl:w=r.length:=by omega
  refine congrArg some (congrArg (fun l=>D.tup [.arr 1 l,.int .i64 0]) ?_)
  rw [reflL,List.map_map]
  exact map_range_congr fun u hu=>by rw [if_pos hu];rfl
end Go.Ab
namespace Go.Ab
open Go Go.Proofs
set_option linter.unusedSimpArgs false
set_option linter.unusedVariables false
set_option maxRecDepth 10000
set_option maxHeartbeats 4000000
variable {T:Nat→Obj→Prop}
inductive TC (r:List (BitVec 64)):Nat→Nat→Prop where
 | base {w v:Nat} : rb r w v=true→TC r w v
 | step {w u v:Nat} : TC r w u→TC r u v→TC r w v
theorem TC.lt {r:List (BitVec 64)} (hi:Inside r) {w v:Nat} (h:TC r w v):w < r.length∧v < r.length:=by
 induction h with
 | base h=>exact ⟨rb_lt h,hi _ _ h⟩
 | step _ _ h1 h2=>exact ⟨h1.1,h2.2⟩
noncomputable def tcL (r:List (BitVec 64)):List (BitVec 64):=(List.range r.length).map fun w=>setTo (fun v => @decide (TC r w v) (Classical.propDecidable _)) r.length
theorem rb_tc {r:List (BitVec 64)} (hl:r.length≤64) (hi:Inside r) {w v:Nat} : rb (tcL r) w v=true↔TC r w v:=by
 by_cases hw:w < r.length
 ·have:(tcL r)[w]? = some (setTo (fun v => @decide (TC r w v) (Classical.propDecidable _)) r.length):=by rw [tcL,List.getElem?_map,List.getElem?_range hw];rfl
  rw [rb_of this,setTo_bit]
  rw [Bool.and_eq_true,Bool.and_eq_true,decide_eq_true_eq,decide_eq_true_eq,@decide_eq_true_eq _ (Classical.propDecidable _)]
  exact ⟨fun h=>h.2,fun h=>⟨⟨by have:=(TC.lt hi h).2;omega,(TC.lt hi h).2⟩,h⟩⟩
 ·rw [rb_out (by simp [tcL];omega)]
  exact ⟨fun h=>(by cases h),fun h=>absurd (TC.lt hi h).1 hw⟩
structure Bet (r out:List (BitVec 64)):Prop where
 len:out.length=r.length
 lo : ∀ w v,rb r w v=true→rb out w v=true
 hi : ∀ w v,rb out w v=true→TC r w v
def Closed (out:List (BitVec 64)):Prop := ∀ w u v,rb out w u=true→rb out u v=true→rb out w v=true
theorem bet_closed {r out:List (BitVec 64)} (hl:r.length≤64) (hi:Inside r) (hb:Bet r out) (hc:Closed out):out=tcL r:=by
 refine rel_ext (by rw [hb.len];simp [tcL]) fun w v hw=>?_
 rw [Bool.eq_iff_iff,rb_tc hl hi]
 refine ⟨hb.hi w v,fun h=>?_⟩
 induction h with
 | base h=>exact hb.lo _ _ h
 | step h1 _ i1 i2=>exact hc _ _ _ (i1 hw) (i2 (by rw [hb.len];exact (h1.lt hi).2))
def up (out:List (BitVec 64)):Nat:=(out.map BitVec.toNat).sum
theorem up_le : ∀ (out:List (BitVec 64)),up out≤out.length * 18446744073709551616
 | []=>by simp [up]
 | x::t=>by
  have h1:=up_le t
  have h2:=x.isLt
  simp only [up,List.map_cons,List.sum_cons,List.length_cons] at h1 ⊢
  omega
theorem up_set {y:BitVec 64} : ∀ {out:List (BitVec 64)} {w:Nat} {x:BitVec 64},out[w]? = some x→up (out.set w y)+x.toNat=up out+y.toNat
 | [],w,x,h=>by simp at h
 | z::t,0,x,h=>by
  simp only [List.getElem?_cons_zero,Option.some.injEq] at h
  subst h
  simp only [up,List.set_cons_zero,List.map_cons,List.sum_cons]
  omega
 | z::t,w+1,x,h=>by
  have:=up_set (y:=y) (out:=t) (w:=w) (x:=x) (by simpa using h)
  simp only [up,List.set_cons_succ,List.map_cons,List.sum_cons] at this ⊢
  omega
theorem or_lt {x y:BitVec 64} (h:x|||y≠x):x.toNat < (x|||y).toNat:=by
 have h1:x.toNat≤(x|||y).toNat:=by rw [BitVec.toNat_or];exact Nat.left_le_or
 have h2:x.toNat≠(x|||y).toNat:=fun e=>h (BitVec.eq_of_toNat_eq e.symm)
 omega
theorem rb_set {out:List (BitVec 64)} {w a b:Nat} {y:BitVec 64} (hw:w < out.length):rb (out.set w y) a b=if a=w then y.getLsbD b else rb out a b:=by
 by_cases e:a=w
 ·subst e
  rw [if_pos rfl,rb_of (s:=y) (by simp [hw])]
 ·rw [if_neg e]
  unfold rb
  simp [List.getD,List.getElem?_set_ne (Ne.symm e)]
theorem bet_set {r out:List (BitVec 64)} (hb:Bet r out) {w u:Nat} {x y:BitVec 64} (hx:out[w]? = some x) (hy:out[u]? = some y) (hu:rb out w u=true):Bet r (out.set w (x|||y)):=by
 have hw:=(List.getElem?_eq_some_iff.1 hx).1
 refine ⟨by rw [List.length_set];exact hb.len,fun a b h=>?_,fun a b h=>?_⟩
 ·rw [rb_set hw]
  have h1:=hb.lo a b h
  split
  ·rename_i e
   subst e
   rw [rb_of hx] at h1
   simp [h1]
  ·exact h1
 ·rw [rb_set hw] at h
  split at h
  ·rename_i e
   subst e
   rw [BitVec.getLsbD_or,Bool.or_eq_true] at h
   rcases h with h|h
   ·exact hb.hi _ _ (by rw [rb_of hx];exact h)
   ·exact .step (hb.hi _ _ hu) (hb.hi _ _ (by rw [rb_of hy];exact h))
  ·exact hb.hi _ _ h
structure Gr (r out0 out:List (BitVec 64)) (ag:Bool) (w u:Nat):Prop where
 bet:Bet r out
 le:up out0≤up out
 lt:ag=true→up out0 < up out
 eq:ag=false→out=out0∧(∀ a,a < w → ∀ b c,rb out0 a b=true→rb out0 b c=true→rb out0 a c=true) ∧ ∀ b,b < u → ∀ c,rb out0 w b=true→rb out0 b c=true→rb out0 w c=true
theorem Gr.start {r out:List (BitVec 64)} (hb:Bet r out):Gr r out out false 0 0:=⟨hb,Nat.le_refl _,nofun,fun _=>⟨rfl,nofun,nofun⟩⟩
theorem Gr.row {r out0 out:List (BitVec 64)} {ag:Bool} {w:Nat} (hi:Inside r) (h:Gr r out0 out ag w r.length):Gr r out0 out ag (w+1) 0:=by
 refine ⟨h.bet,h.le,h.lt,fun e=>?_⟩
 obtain ⟨h1,h2,h3⟩:=h.eq e
 have hb:=h.bet
 rw [h1] at hb
 refine ⟨h1,fun a ha b c x y=>?_,nofun⟩
 by_cases e:a=w
 ·subst e;exact h3 b ((hb.hi _ _ x).lt hi).2 c x y
 ·exact h2 a (by omega) b c x y
theorem Gr.skip {r out0 out:List (BitVec 64)} {ag:Bool} {w u:Nat} (h:Gr r out0 out ag w u) (hs:out=out0 → ∀ c,rb out0 w u=true→rb out0 u c=true→rb out0 w c=true):Gr r out0 out ag w (u+1):=by
 refine ⟨h.bet,h.le,h.lt,fun e=>?_⟩
 obtain ⟨h1,h2,h3⟩:=h.eq e
 refine ⟨h1,h2,fun b hb c x y=>?_⟩
 by_cases e:b=u
 ·subst e;exact hs h1 c x y
 ·exact h3 b (by omega) c x y
theorem Gr.add {r out0 out:List (BitVec 64)} {ag:Bool} {w u:Nat} {x y:BitVec 64} (h:Gr r out0 out ag w u) (hx:out[w]? = some x) (hy:out[u]? = some y) (hu:rb out w u=true) (hne:x|||y≠x):Gr r out0 (out.set w (x|||y)) true w (u+1):=by
 have h1:=up_set (y:=x|||y) hx
 have h2:=or_lt hne
 have h3:=h.le
 exact ⟨bet_set h.bet hx hy hu,by omega,fun _=>by omega,nofun⟩
theorem Gr.closed {r out0 out:List (BitVec 64)} (h:Gr r out0 out false r.length 0):Closed out:=by
 obtain ⟨h1,h2,-⟩:=h.eq rfl
 have hb:=h.bet
 subst h1
 exact fun w u v x y=>h2 w (by have:=rb_lt x;rw [hb.len] at this;exact this) u v x y
set_option maxHeartbeats 8000000 in
theorem fn_grow (r:List (BitVec 64)) (h:relCheck r=0):Fn Tryz.prog T f_wittingref02_grow [.d (dU r),.d (.bool false)] [] (.d (dU (tcL r))) []:=by
 obtain ⟨h64,hin⟩:=relCheck_ok.1 h
 refine fn_dataR hmix k_wittingref02_grow (by show 2≤64;decide) ?_
 (repeat' ((conv=>whnf);first|refine vA ?_|(refine vP ?_ ?_;·(simp only [vM] at *;omega))|fail));all_goals try conv=>whnf
 refine loop_mem (fun ((out,ag,xs):List (BitVec 64)×Bool×List D)=>[(1,.d (.bool (false))),(5,.own 0),(6,.d (.bool (ag)))]) (fun ((out,ag,xs):List (BitVec 64)×Bool×List D)=>[(0,some (.row 1 xs))]) 1 (fun ((out,ag,xs):List (BitVec 64)×Bool×List D)=>xs=out.map D.u64∧Bet r out∧(ag=false→Closed out)) (fun ((out,ag,xs):List (BitVec 64)×Bool×List D)=>2 * (r.length * 18446744073709551616 - up out)+(if ag then 1 else 0)) ((r,true,r.map D.u64)) [(0,1)] [] (⟨rfl,⟨rfl,fun _ _ h=>h,fun _ _ h => .base h⟩,nofun⟩) (by (refine ⟨rfl,rfl,rfl,?_,?_⟩;repeat' first|exact trivial|exact rfl|exact .inl rfl|exact .inr (.inl ⟨rfl,rfl⟩)|refine And.intro ?_ ?_|refine ⟨_,rfl,?_⟩|decide)) ?_
 rintro ⟨out0,ag0,_⟩ ⟨rfl,hb0,hc0⟩
 (repeat' ((conv=>whnf);first|refine vA ?_|(refine vI ?_ ?_<;>intro hc)));all_goals try conv=>whnf
 ·refine loop_mem (fun ((w,out,ag,xs):Nat×List (BitVec 64)×Bool×List D)=>[(1,.d (.bool (false))),(5,.own 0),(6,.d (.bool (ag))),(7,.d (.int .i64 ((w:Int))))]) (fun ((w,out,ag,xs):Nat×List (BitVec 64)×Bool×List D)=>[(0,some (.row 1 xs))]) 1 (fun ((w,out,ag,xs):Nat×List (BitVec 64)×Bool×List D)=>xs=out.map D.u64∧w≤r.length∧Gr r out0 out ag w 0) (fun ((w,out,ag,xs):Nat×List (BitVec 64)×Bool×List D)=>r.length - w) ((0,out0,false,out0.map D.u64)) [(0,0)] [] (⟨rfl,by omega,Gr.start hb0⟩) (by (refine ⟨rfl,rfl,rfl,?_,?_⟩;repeat' first|exact trivial|exact rfl|exact .inl rfl|exact .inr (.inr ⟨rfl,rfl⟩)|refine And.intro ?_ ?_|refine ⟨_,rfl,?_⟩|decide)) ?_
  rintro ⟨w,out,ag,_⟩ ⟨rfl,hw,hG⟩
  have hl:=hG.bet.len
  (repeat' ((conv=>whnf);first|refine vA ?_|(refine vF ?_ ?_<;>intro hc<;>try simp only [vL] at hc)|refine vJ fun hg=>?_));all_goals try conv=>whnf
  ·have hwn:w < r.length:=by omega
   refine loop_mem (fun ((u,out,ag,xs):Nat×List (BitVec 64)×Bool×List D)=>[(1,.d (.bool (false))),(5,.own 0),(6,.d (.bool (ag))),(7,.d (.int .i64 ((w:Int)))),(8,.d (.int .i64 ((u:Int))))]) (fun ((u,out,ag,xs):Nat×List (BitVec 64)×Bool×List D)=>[(0,some (.row 1 xs))]) 1 (fun ((u,out,ag,xs):Nat×List (BitVec 64)×Bool×List D)=>xs=out.map D.u64∧u≤r.length∧Gr r out0 out ag w u) (fun ((u,out,ag,xs):Nat×List (BitVec 64)×Bool×List D)=>r.length - u) ((0,out,ag,out.map D.u64)) [(0,0)] [] (⟨rfl,by omega,hG⟩) (by (refine ⟨rfl,rfl,rfl,?_,?_⟩;repeat' first|exact trivial|exact rfl|exact .inl rfl|refine And.intro ?_ ?_|refine ⟨_,rfl,?_⟩|decide)) ?_
   clear hl hG
   rintro ⟨u,out,ag,_⟩ ⟨rfl,hu,hG⟩
   have hl:=hG.bet.len
   (repeat' ((conv=>whnf);first|refine vA ?_|refine vE ?_|refine vH ?_|((first|refine vD ?_ ?_|refine vF ?_ ?_|refine vI ?_ ?_)<;>intro hc<;>try simp only [vL] at hc)|refine vJ fun hg=>?_|refine vN ‹_› ?_|(refine vQ ?_ fun x hx=>?_;·omega)|((first|refine vO ?_ ?_|refine vP ?_ ?_);·first|omega|(simp only [vM] at *;omega))|(refine vU ?_ ?_;·kernel_rfl)|(refine yD (fn_In _ _ ?_ ?_) ⟨⟨rfl,rfl⟩,⟨rfl,rfl⟩,rfl⟩ rfl ?_;(·omega);(·omega))|fail));all_goals try conv=>whnf
   ·rename_i z hz hbz
    have h1:out[w]? = some z:=hz
    have h2:out[u]? = some x:=hx
    have h3:rb out w u=true:=by rw [rb_of h1,← bit_eq];exact hbz
    refine ⟨(u+1,out.set w (z|||x),true,_),[(0,0)],[],?_,?_,by (refine ⟨rfl,rfl,rfl,?_,?_⟩;repeat' first|exact trivial|exact rfl|exact .inl rfl|exact .inr (.inl ⟨rfl,rfl⟩)|refine And.intro ?_ ?_|refine ⟨_,rfl,?_⟩|decide)⟩
    ·refine ⟨?_,by omega,hG.add h1 h2 h3 hc⟩
     rw [List.map_set];rfl
    ·((simp only [vM] at *;omega))
   ·have h1:out[w]? = some _:=‹out[((w:Nat):Int).toNat]? = some _›
    have h2:out[u]? = some _:=hx
    refine ⟨(u+1,out,ag,_),[(0,0)],[],?_,?_,by (refine ⟨rfl,rfl,rfl,?_,?_⟩;repeat' first|exact trivial|exact rfl|exact .inl rfl|refine And.intro ?_ ?_|refine ⟨_,rfl,?_⟩|decide)⟩
    ·refine ⟨rfl,by omega,hG.skip fun e c _ h4=>?_⟩
     rw [← e] at h4 ⊢
     rw [rb_of h2] at h4
     rw [rb_of h1,← hc,BitVec.getLsbD_or,h4,Bool.or_true]
    ·((simp only [vM] at *;omega))
   ·have h1:out[w]? = some _:=hx
    have h3:rb out w u=false:=by rw [rb_of h1,← bit_eq];assumption
    refine ⟨(u+1,out,ag,_),[(0,0)],[],?_,?_,by (refine ⟨rfl,rfl,rfl,?_,?_⟩;repeat' first|exact trivial|exact rfl|exact .inl rfl|refine And.intro ?_ ?_|refine ⟨_,rfl,?_⟩|decide)⟩
    ·refine ⟨rfl,by omega,hG.skip fun e c h4 _=>?_⟩
     rw [← e,h3] at h4;cases h4
    ·((simp only [vM] at *;omega))
   ·obtain rfl:u=r.length:=by omega
    refine ⟨(w+1,out,ag,_),[(0,0)],[],?_,?_,by (refine ⟨rfl,rfl,rfl,?_,?_⟩;repeat' first|exact trivial|exact rfl|exact .inl rfl|refine And.intro ?_ ?_|refine ⟨_,rfl,?_⟩|decide)⟩
    ·exact ⟨rfl,by omega,hG.row hin⟩
    ·((simp only [vM] at *;omega))
  ·obtain rfl:w=r.length:=by omega
   refine ⟨(out,ag,_),[(0,0)],[],?_,?_,by (refine ⟨rfl,rfl,rfl,?_,?_⟩;repeat' first|exact trivial|exact rfl|exact .inl rfl|refine And.intro ?_ ?_|refine ⟨_,rfl,?_⟩|decide)⟩
   ·exact ⟨rfl,hG.bet,fun e=>by subst e;exact hG.closed⟩
   ·have h1:=hG.le
    have h2:=up_le out
    have h3:=hG.lt
    rw [hl] at h2
    show 2 * (r.length * 18446744073709551616 - up out)+(if ag=true then 1 else 0) < 2 * (r.length * 18446744073709551616 - up out0)+(if ag0=true then 1 else 0)
    rw [if_pos ‹ag0=true›]
    cases ag with
    | true=>have:=h3 rfl;simp only [if_true];omega
    | false=>simp only [Bool.false_eq_true,if_false];omega
 ·rw [← bet_closed h64 hin hb0 (hc0 ‹ag0=false›)]
  rfl
end Go.Ab
namespace Go.Ab
open Go Go.Proofs
set_option linter.unusedSimpArgs false
set_option linter.unusedVariables false
set_option maxRecDepth 10000
set_option maxHeartbeats 4000000
variable {T:Nat→Obj→Prop}
theorem fn_Transitive (r:List (BitVec 64)) (h:relCheck r=0):Fn Tryz.prog T f_wittingref02_Transitive [.d (dU r)] [] (.d (dUI (tcL r,0))) []:=by
 have hrc:=fn_refCheck (T:=T) r
 rw [h] at hrc
 have hgw:=fn_grow (T:=T) r h
 refine fn_dataR hmix k_wittingref02_Transitive (by show 1≤14;decide) ?_
 (repeat' ((conv=>whnf);first|refine TestS.no (by decide) ?_|refine vA ?_|refine vJ fun hg=>?_|refine yD hrc ⟨⟨rfl,rfl⟩,⟨rfl,rfl⟩,rfl⟩ rfl ?_|refine yN hgw ⟨⟨rfl,rfl⟩,⟨rfl,rfl⟩,rfl⟩ ?_));all_goals try conv=>whnf
 all_goals rfl
theorem refl_iff {r:List (BitVec 64)} (h:relCheck r=0):(reflL r==r)=hasB r 2:=by
 obtain ⟨h64,hin⟩:=relCheck_ok.1 h
 have hlen:(reflL r).length=r.length:=by simp [reflL]
 have hb : ∀ w v,w < r.length→rb (reflL r) w v=(rb r w v||(decide (v < 64)&&decide (v=w))):=fun w v hw=>by
  have:(reflL r)[w]? = some (uAt r w|||1#64 <<< w):=by rw [reflL,List.getElem?_map,List.getElem?_range hw];rfl
  rw [rb_of this,BitVec.getLsbD_or,bit_pow,uAt_bit]
 rw [Bool.eq_iff_iff,hasB_iff,beq_iff_eq]
 constructor
 ·intro e
  refine ⟨h,.inr (.inl ⟨rfl,fun w hw=>?_⟩)⟩
  have:=hb w w hw
  rw [e] at this
  rw [this];simp;omega
 ·rintro ⟨-,h1|h1|h1|h1|h1⟩
  ·exact absurd h1.1 (by decide)
  ·refine rel_ext hlen fun w v hw=>?_
   rw [hlen] at hw
   rw [hb w v hw]
   by_cases e:v=w
   ·subst e;simp [h1.2 v hw]
   ·simp [e]
  ·exact absurd h1.1 (by decide)
  ·exact absurd h1.1 (by decide)
  ·exact absurd h1.1 (by decide)
theorem tc_iff {r:List (BitVec 64)} (h:relCheck r=0):(tcL r==r)=hasB r 4:=by
 obtain ⟨h64,hin⟩:=relCheck_ok.1 h
 rw [Bool.eq_iff_iff,hasB_iff,beq_iff_eq]
 constructor
 ·intro e
  refine ⟨h,.inr (.inr (.inr (.inl ⟨rfl,fun w u v h1 h2=>?_⟩)))⟩
  rw [← e,rb_tc h64 hin]
  exact .step (.base h1) (.base h2)
 ·rintro ⟨-,h1|h1|h1|h1|h1⟩
  ·exact absurd h1.1 (by decide)
  ·exact absurd h1.1 (by decide)
  ·exact absurd h1.1 (by decide)
  ·exact (bet_closed h64 hin ⟨rfl,fun _ _ h=>h,fun _ _ h => .base h⟩ h1.2).symm
  ·exact absurd h1.1 (by decide)
theorem fn_RHas2 (r:List (BitVec 64)) (h:relCheck r=0):Fn Tryz.prog T f_wittingref02_Has [.d (dU r),.d (.int .i64 2)] [] (.d (.bool (hasB r 2))) []:=by
 have hva:=fn_Valid (T:=T) r
 rw [decide_eq_true h] at hva
 have hre:=fn_Reflexive (T:=T) r h
 have h64:=(relCheck_ok.1 h).1
 rw [← refl_iff h]
 refine fn_dataR hmix k_wittingref02_Has (by show 2≤58;decide) ?_
 (repeat' ((conv=>whnf);first|refine TestS.no (by decide) ?_|refine TestS.yes (by decide) ?_|refine vA ?_|(refine vP ?_ ?_;·(simp only [vM] at *;omega))|refine vZ ?_|refine yD hva ⟨⟨rfl,rfl⟩,rfl⟩ rfl ?_|refine yN hre ⟨⟨rfl,rfl⟩,rfl⟩ ?_|refine yD (fn_ref02_Same _ _) ⟨⟨rfl,rfl⟩,⟨rfl,rfl⟩,rfl⟩ rfl ?_));all_goals try conv=>whnf
 all_goals rfl
theorem fn_RHas4 (r:List (BitVec 64)) (h:relCheck r=0):Fn Tryz.prog T f_wittingref02_Has [.d (dU r),.d (.int .i64 4)] [] (.d (.bool (hasB r 4))) []:=by
 have hva:=fn_Valid (T:=T) r
 rw [decide_eq_true h] at hva
 have htr:=fn_Transitive (T:=T) r h
 have h64:=(relCheck_ok.1 h).1
 rw [← tc_iff h]
 refine fn_dataR hmix k_wittingref02_Has (by show 2≤58;decide) ?_
 (repeat' ((conv=>whnf);first|refine TestS.no (by decide) ?_|refine TestS.yes (by decide) ?_|refine vA ?_|(refine vP ?_ ?_;·(simp only [vM] at *;omega))|refine vZ ?_|refine yD hva ⟨⟨rfl,rfl⟩,rfl⟩ rfl ?_|refine yN htr ⟨⟨rfl,rfl⟩,rfl⟩ ?_|refine yD (fn_ref02_Same _ _) ⟨⟨rfl,rfl⟩,⟨rfl,rfl⟩,rfl⟩ rfl ?_));all_goals try conv=>whnf
 all_goals rfl
theorem or_rb {r:List (BitVec 64)} (h:relCheck r=0) {w v:Nat} : rb (orR r (revL r)) w v=cmp r w v:=by
 obtain ⟨h64,hin⟩:=relCheck_ok.1 h
 by_cases hw:w < r.length
 ·have:(orR r (revL r))[w]? = some (uAt r w|||uAt (revL r) w):=by rw [orR,List.getElem?_map,List.getElem?_range hw];rfl
  rw [rb_of this,BitVec.getLsbD_or,uAt_bit,uAt_bit]
  exact cmp2_eq h64 hin w v
 ·rw [rb_out (by simp [orR];omega)]
  symm
  rw [Bool.eq_false_iff]
  intro h1
  simp only [cmp,Bool.or_eq_true] at h1
  rcases h1 with h1|h1
  ·exact hw (rb_lt h1)
  ·exact hw (hin _ _ h1)
theorem or_check {r:List (BitVec 64)} (h:relCheck r=0):relCheck (orR r (revL r))=0:=by
 obtain ⟨h64,hin⟩:=relCheck_ok.1 h
 have hl:(orR r (revL r)).length=r.length:=by simp [orR]
 refine relCheck_ok.2 ⟨by omega,fun w v h1=>?_⟩
 rw [or_rb h] at h1
 simp only [cmp,Bool.or_eq_true] at h1
 rw [hl]
 rcases h1 with h1|h1
 ·exact hin _ _ h1
 ·exact rb_lt h1
theorem sym_conn {r:List (BitVec 64)} (h:relCheck r=0) (h2:hasB r 2=true) (h4:hasB r 4=true):(orR r (revL r)==tcL (orR r (revL r)))=connB r (revL r):=by
 obtain ⟨h64,hin⟩:=relCheck_ok.1 h
 have hs:=or_check h
 have e:=tc_iff hs
 have e1:(orR r (revL r)==tcL (orR r (revL r)))=(tcL (orR r (revL r))==orR r (revL r)):=by
  rw [Bool.eq_iff_iff,beq_iff_eq,beq_iff_eq];exact eq_comm
 rw [e1,e,Bool.eq_iff_iff,hasB_iff,connB_iff]
 constructor
 ·rintro ⟨-,h1|h1|h1|h1|h1⟩
  ·exact absurd h1.1 (by decide)
  ·exact absurd h1.1 (by decide)
  ·exact absurd h1.1 (by decide)
  ·refine ⟨hasB_iff.1 h2,hasB_iff.1 h4,fun w hw v hv ha i hb=>?_⟩
   rw [cmp2_eq h64 hin] at ha hb ⊢
   have:=h1.2 v w i (by rw [or_rb h,cmp_symm];exact ha) (by rw [or_rb h];exact hb)
   rwa [or_rb h] at this
  ·exact absurd h1.1 (by decide)
 ·intro hc
  have hP:=pre_of h (connB_iff.2 hc)
  refine ⟨hs,.inr (.inr (.inr (.inl ⟨rfl,fun w u v ha hb=>?_⟩)))⟩
  rw [or_rb h] at ha hb ⊢
  exact hP.cmp_tr ha hb
theorem fn_rconn (r:List (BitVec 64)) (h:relCheck r=0) (h2:hasB r 2=true) (h4:hasB r 4=true):Fn Tryz.prog T f_wittingref33_connected [.d (dU r)] [] (.d (.bool (connB r (revL r)))) []:=by
 have hsy:=fn_Symmetric (T:=T) r h
 have htr:=fn_Transitive (T:=T) _ (or_check h)
 rw [← sym_conn h h2 h4]
 refine fn_dataR hmix k_wittingref33_connected (by show 1≤20;decide) ?_
 (repeat' ((conv=>whnf);first|refine vZ ?_|refine yN hsy ⟨⟨rfl,rfl⟩,rfl⟩ ?_|refine yN htr ⟨⟨rfl,rfl⟩,rfl⟩ ?_|refine yD (fn_ref02_Same _ _) ⟨⟨rfl,rfl⟩,⟨rfl,rfl⟩,rfl⟩ rfl ?_));all_goals try conv=>whnf
end Go.Ab
namespace Go.Ab
open Go Go.Proofs
set_option linter.unusedSimpArgs false
set_option linter.unusedVariables false
set_option maxRecDepth 10000
set_option maxHeartbeats 4000000
variable {T:Nat→Obj→Prop}
def strictL (r:List (BitVec 64)) (w:Nat):BitVec 64:=setTo (fun v=>rb r w v && !rb r v w) r.length
theorem strict_bit {r:List (BitVec 64)} (h64:r.length≤64) (hin:Inside r) {w v:Nat} : (strictL r w).getLsbD v=(rb r w v && !rb r v w):=by
 rw [strictL,setTo_bit]
 cases hb:rb r w v with
 | false=>simp
 | true=>have:=hin w v hb;simp [show v < 64 by omega,this]
theorem fn_strictly (r:List (BitVec 64)) (w:Nat) (hw:w < r.length):Fn Tryz.prog T f_wittingref33_strictly [.d (dU r),.d (.int .i64 (w:Int))] [] (.d (.u64 (strictL r w))) []:=by
 refine fn_dataR hmix k_wittingref33_strictly (by show 2≤34;decide) ?_
 (repeat' ((conv=>whnf);refine vA ?_));all_goals try conv=>whnf
 refine loop_intro (fun ((v,s):Nat×BitVec 64)=>[(0,.d (dU r)),(1,.d (.int .i64 ((w:Int)))),(5,.d (.u64 (s))),(6,.d (.int .i64 ((v:Int))))]) (fun ((v,s):Nat×BitVec 64)=>v≤r.length∧s=setTo (fun v=>rb r w v && !rb r v w) v) (fun ((v,s):Nat×BitVec 64)=>r.length - v) ((0,0#64)) (⟨by simp,rfl⟩) (by (repeat' first|exact trivial|exact rfl|refine And.intro ?_ ?_)) ?_
 rintro ⟨v,_⟩ ⟨hv,rfl⟩
 (repeat' ((conv=>whnf);first|refine vA ?_|refine vE ?_|((first|refine vF ?_ ?_|refine vI ?_ ?_)<;>intro hc<;>try simp only [vL] at hc)|refine vJ fun hg=>?_|(refine vQ ?_ fun x hx=>?_;·omega)|(refine vO ?_ ?_;·omega)|refine vY ?_|(refine yD (fn_In _ _ ?_ ?_) ⟨⟨rfl,rfl⟩,⟨rfl,rfl⟩,rfl⟩ rfl ?_;(·omega);(·omega))|fail));all_goals try conv=>whnf
 ·have h1:rb r w v=true:=by rw [rb_of ‹r[w]? = some _›,← bit_eq];assumption
  have h2:rb r v w=true:=by rw [rb_of hx,← bit_eq];exact hc
  exact ⟨(v+1,_),[],[],⟨by (omega),by rw [setTo,if_neg (by simp [h1,h2])]⟩,by ((simp only [vM] at *;omega)),by (refine ⟨rfl,rfl,rfl,?_,?_⟩;repeat' first|exact trivial|exact rfl|refine And.intro ?_ ?_)⟩
 ·have h1:rb r w v=true:=by rw [rb_of ‹r[w]? = some _›,← bit_eq];assumption
  have h2:rb r v w=false:=by rw [rb_of hx,← bit_eq];exact hc
  refine ⟨(v+1,_),[],[],?_,?_,by (refine ⟨rfl,rfl,rfl,?_,?_⟩;repeat' first|exact trivial|exact rfl|refine And.intro ?_ ?_)⟩
  ·exact ⟨by (omega),by rw [setTo,if_pos (by simp [h1,h2]),ofInt_nat (by omega)];rfl⟩
  ·((simp only [vM] at *;omega))
 ·have h1:rb r w v=false:=by rw [rb_of hx,← bit_eq];exact hc
  exact ⟨(v+1,_),[],[],⟨by (omega),by rw [setTo,if_neg (by simp [h1])]⟩,by ((simp only [vM] at *;omega)),by (refine ⟨rfl,rfl,rfl,?_,?_⟩;repeat' first|exact trivial|exact rfl|refine And.intro ?_ ?_)⟩
 ·obtain rfl:v=r.length:=by omega
  rfl
def eqL (r:List (BitVec 64)) (w:Nat):BitVec 64:=uAt r w &&& ~~~(strictL r w)
theorem fn_equal (r:List (BitVec 64)) (w:Nat) (hw:w < r.length):Fn Tryz.prog T f_wittingref33_equal [.d (dU r),.d (.int .i64 (w:Int))] [] (.d (.u64 (eqL r w))) []:=by
 refine fn_dataR hmix k_wittingref33_equal (by show 2≤13;decide) ?_
 (repeat' ((conv=>whnf);first|refine vA ?_|(refine vQ ?_ fun x hx=>?_;·omega)|(refine vU ?_ ?_;·kernel_rfl)|refine vY ?_|refine yD (fn_strictly r w hw) ⟨⟨rfl,rfl⟩,⟨rfl,rfl⟩,rfl⟩ rfl ?_));all_goals try conv=>whnf
 rw [eqL,uAt_of hx]
def chainC (r:List (BitVec 64)) (w v:Nat):Prop:=(strictL r w).getLsbD v=true∧strictL r w &&& ~~~(strictL r v) &&& ~~~(eqL r v)=0#64
section
variable {r:List (BitVec 64)} (h:PreO r)
include h
theorem PreO.chain_iff {w v:Nat} : chainC r w v↔(rb r w v=true∧rb r v w=false) ∧ ∀ u,rb r w u=true→rb r u w=false→rb r v u=true:=by
 have hs:=fun w v=>strict_bit (r:=r) h.len h.ins (w:=w) (v:=v)
 unfold chainC
 rw [hs,zero_iff]
 simp only [Bool.and_eq_true,Bool.not_eq_true']
 refine and_congr_right fun _=>⟨fun hz u h1 h2=>?_,fun hz u=>?_⟩
 ·have:=hz u
  have h64:u < 64:=by have:=h.ins w u h1;have:=h.len;omega
  rw [BitVec.getLsbD_and,BitVec.getLsbD_and,hs,h1,h2,BitVec.getLsbD_not,BitVec.getLsbD_not,hs,eqL,BitVec.getLsbD_and,BitVec.getLsbD_not,hs,uAt_bit] at this
  cases hb:rb r v u with
  | true=>rfl
  | false=>rw [hb] at this;simp [h64] at this
 ·rw [BitVec.getLsbD_and,BitVec.getLsbD_and,hs]
  cases h1:rb r w u with
  | false=>simp
  | true =>
   cases h2:rb r u w with
   | true=>simp
   | false =>
    have h3:=hz u h1 h2
    have h64:u < 64:=by have:=h.ins w u h1;have:=h.len;omega
    rw [BitVec.getLsbD_not,BitVec.getLsbD_not,hs,eqL,BitVec.getLsbD_and,BitVec.getLsbD_not,hs,uAt_bit,h3]
    cases rb r u v<;>simp [h64]
theorem PreO.chain_rk {w v:Nat} (hc:chainC r w v):rk r v+1=rk r w:=by
 obtain ⟨⟨h4,h5⟩,hm⟩:=h.chain_iff.1 hc
 have h6:=h.rk_strict h4 h5
 have h7:rk r w≤rk r v+1:=rk_succ (y:=uAt r v) fun x hx=>by
  obtain ⟨u,a1,a2,a3,rfl⟩:=mem_below.1 hx
  have hvu:=hm u a2 a3
  cases hb:rb r u v with
  | true=>left;exact h.eq_rows hb hvu
  | false=>right;exact mem_below.2 ⟨u,a1,hvu,hb,rfl⟩
 omega
theorem PreO.chain_ex {w:Nat} (h0:rk r w≠0) : ∃ v,v < r.length∧chainC r w v:=by
 by_cases he:((List.range r.length).filter fun v=>rb r w v && !rb r v w)=[]
 ·refine absurd ?_ h0
  have h0:belowL r w r.length=[]:=by unfold belowL;rw [he];rfl
  have h1:finU (belowL r w r.length)=[]:=List.eq_nil_iff_forall_not_mem.2 fun x hx=>by
   rw [fin_mem,h0] at hx;cases hx
  unfold rk
  rw [h1];rfl
 ·obtain ⟨v,h1,h2⟩:=most (rk r) he
  rw [List.mem_filter,List.mem_range] at h1
  simp only [Bool.and_eq_true,Bool.not_eq_true'] at h1
  obtain ⟨h3,h4,h5⟩:=h1
  refine ⟨v,h3,h.chain_iff.2 ⟨⟨h4,h5⟩,fun u a2 a3=>?_⟩⟩
  have hm:=h2 u (List.mem_filter.2 ⟨List.mem_range.2 (h.ins _ _ a2),by simp [a2,a3]⟩)
  exact (h.rk_iff (h.conn w v u (by simp [cmp,h4]) (by simp [cmp,a2]))).1 hm
end
set_option maxHeartbeats 8000000 in
theorem fn_chain (r:List (BitVec 64)) (h:PreO r) : ∀ (n w:Nat) (d:Int),w < r.length→rk r w=n→(n:Int)≤d→d≤64→Fn Tryz.prog T f_wittingref33_chain [.d (dU r),.d (.int .i64 (w:Int)),.d (.int .i64 d)] [] (.d (.int .i64 (n:Int))) []:=by
 intro n
 induction n using Nat.strongRecOn with
 | _ n ih =>
  intro w d hw hn hd hd2
  have h64:=h.len
  refine fn_dataR hmix k_wittingref33_chain (by show 3≤45;decide) ?_
  (repeat' ((conv=>whnf);first|refine vA ?_|refine yD (fn_strictly r w hw) ⟨⟨rfl,rfl⟩,⟨rfl,rfl⟩,rfl⟩ rfl ?_));all_goals try conv=>whnf
  refine loop_intro (fun (v:Nat)=>[(0,.d (dU r)),(2,.d (.int .i64 (d))),(7,.d (.int .i64 (0))),(8,.d (.u64 ((strictL r w)))),(9,.d (.int .i64 ((v:Int))))]) (fun (v:Nat)=>v≤r.length ∧ ∀ u,u < v → ¬chainC r w u) (fun (v:Nat)=>r.length - v) (0) (⟨by simp,nofun⟩) (by (repeat' first|exact trivial|exact rfl|refine And.intro ?_ ?_)) ?_
  rintro v ⟨hv,hI⟩
  (repeat' ((conv=>whnf);first|refine vA ?_|((first|refine vF ?_ ?_|refine vI ?_ ?_)<;>intro hc<;>try simp only [vL] at hc)|refine vJ fun hg=>?_|(refine vO ?_ ?_;·omega)|refine vX ?_|(refine yD (fn_In _ _ ?_ ?_) ⟨⟨rfl,rfl⟩,⟨rfl,rfl⟩,rfl⟩ rfl ?_;(·omega);(·omega))|fail));all_goals try conv=>whnf
  ·have hvn:v < r.length:=by omega
   have hb:(strictL r w).getLsbD v=true:=by rw [← bit_eq];exact hc
   (repeat' ((conv=>whnf);first|(refine vF ?_ ?_<;>intro hc)|(refine vO ?_ ?_;·omega)|refine yD (fn_strictly r v hvn) ⟨⟨rfl,rfl⟩,⟨rfl,rfl⟩,rfl⟩ rfl ?_|refine yD (fn_equal r v hvn) ⟨⟨rfl,rfl⟩,⟨rfl,rfl⟩,rfl⟩ rfl ?_));all_goals try conv=>whnf
   ·have hch:chainC r w v:=⟨hb,‹_=(0:BitVec 64)›⟩
    have hr:=h.chain_rk hch
    refine CallS.data (ih (rk r v) (by omega) v (d - 1) hvn rfl (by omega) (by omega)) (by (repeat refine ⟨⟨rfl,rfl⟩,?_⟩);rfl) rfl ?_
    (repeat' ((conv=>whnf);first|(refine vO ?_ ?_;·omega)|refine vX ?_));all_goals try conv=>whnf
    omega
   ·have hch : ¬chainC r w v:=fun h=>hc h.2
    exact ⟨v+1,[],[],⟨by (omega),fun u hu=>by
     by_cases e:u=v
     ·subst e;exact hch
     ·exact hI u (by omega)⟩,by (omega),by (refine ⟨rfl,rfl,rfl,?_,?_⟩;repeat' first|exact trivial|exact rfl|refine And.intro ?_ ?_)⟩
  ·have hb : ¬(strictL r w).getLsbD v=true:=by rw [← bit_eq];simp at hc ⊢;exact hc
   exact ⟨v+1,[],[],⟨by (omega),fun u hu=>by
    by_cases e:u=v
    ·subst e;exact fun h=>hb h.1
    ·exact hI u (by omega)⟩,by (omega),by (refine ⟨rfl,rfl,rfl,?_,?_⟩;repeat' first|exact trivial|exact rfl|refine And.intro ?_ ?_)⟩
  ·omega
  ·have h0:rk r w=0:=by
    apply Classical.byContradiction
    intro h0
    obtain ⟨u,hu,hc⟩:=h.chain_ex h0
    exact hI u (by omega) hc
   omega
theorem low_uniq {s:BitVec 64} (hs:s≠0#64) {w:Nat} (hb:s.getLsbD w=true) (hI : ∀ i,i < w→s.getLsbD i=false):w=Lib.ctz 64 s.toNat:=by
 obtain ⟨h1,h2,h3,-⟩:=low_bit s hs
 rcases Nat.lt_trichotomy w (Lib.ctz 64 s.toNat) with h|h|h
 ·rw [h3 w h] at hb;cases hb
 ·exact h
 ·rw [hI _ h] at h2;cases h2
theorem fn_lowest (s:BitVec 64) (hs:s≠0#64):Fn Tryz.prog T f_wittingref33_lowest [.d (.u64 s)] [] (.d (.int .i64 (Lib.ctz 64 s.toNat:Int))) []:=by
 refine fn_dataR hmix k_wittingref33_lowest (by show 1≤15;decide) ?_
 (repeat' ((conv=>whnf);refine vA ?_));all_goals try conv=>whnf
 refine loop_intro (fun (w:Nat)=>[(0,.d (.u64 (s))),(3,.d (.int .i64 ((w:Int))))]) (fun (w:Nat)=>w≤63 ∧ ∀ i,i < w→s.getLsbD i=false) (fun (w:Nat)=>63 - w) (0) (⟨by simp,nofun⟩) (by (repeat' first|exact trivial|exact rfl|refine And.intro ?_ ?_)) ?_
 rintro w ⟨hw,hI⟩
 (repeat' ((conv=>whnf);first|refine vA ?_|refine vE ?_|((first|refine vF ?_ ?_|refine vI ?_ ?_)<;>intro hc<;>try simp only [vL] at hc)|(refine vO ?_ ?_;·omega)|refine vX ?_|(refine yD (fn_In _ _ ?_ ?_) ⟨⟨rfl,rfl⟩,⟨rfl,rfl⟩,rfl⟩ rfl ?_;(·omega);(·omega))|fail));all_goals try conv=>whnf
 ·exact congrArg Int.ofNat (low_uniq hs (by rw [← bit_eq];exact hc) hI)
 ·have hb:s.getLsbD w=false:=by rw [← bit_eq];exact hc
  exact ⟨w+1,[],[],⟨by omega,fun i hi=>by
   by_cases e:i=w
   ·subst e;exact hb
   ·exact hI i (by omega)⟩,by (omega),by (refine ⟨rfl,rfl,rfl,?_,?_⟩;repeat' first|exact trivial|exact rfl|refine And.intro ?_ ?_)⟩
 ·obtain rfl:w=63:=by omega
  refine congrArg Int.ofNat (low_uniq hs ?_ hI)
  apply Classical.byContradiction
  intro hn
  apply hs
  apply BitVec.eq_of_getLsbD_eq
  intro i hi
  by_cases e:i=63
  ·subst e;simpa using hn
  ·rw [hI i (by omega)];simp
end Go.Ab
namespace Go.Ab
open Go Go.Proofs
set_option linter.unusedSimpArgs false
set_option linter.unusedVariables false
set_option maxRecDepth 10000
set_option maxHeartbeats 4000000
variable {T:Nat→Obj→Prop}
theorem pack_one {v:BitVec 64} {ws:List Int} {k:Nat} (h:v.getLsbD (at0 ws k).toNat=true):packN v ws (k+1)=packN v ws k|||1#64 <<< k:=by
 rw [packN,(bit_one v _).2 h]
theorem pack_zero {v:BitVec 64} {ws:List Int} {k:Nat} (h:v.getLsbD (at0 ws k).toNat=false):packN v ws (k+1)=packN v ws k:=by
 rw [packN,(bit_zero v _).2 h];simp
theorem fn_pull (l:List (BitVec 64)) (ws:List Int) (hws : ∀ x∈ws,0≤x∧x < 64) (hl:l.length≤64):Fn Tryz.prog T f_wittingref33_pull [.d (dU l),.own 0] [.row 1 (ws.map (D.int .i64))] (.d (dU (l.map fun v=>packN v ws ws.length))) [some (.row 1 (ws.map (D.int .i64)))]:=by
 refine fn_introR hmix k_wittingref33_pull (by show 2≤40;decide) _ (fun e env mem n h=>h) ?_
 (repeat' ((conv=>whnf);refine vA ?_));all_goals try conv=>whnf
 refine loop_mem (fun ((i,xs):Nat×List D)=>[(0,.d (dU l)),(1,.own 0),(5,.own 1),(6,.d (.int .i64 ((i:Int)))),(ghostAt,.own 0)]) (fun ((i,xs):Nat×List D)=>[(0,some (.row 1 (ws.map (D.int .i64)))),(1,some (.row 1 xs))]) 2 (fun ((i,xs):Nat×List D)=>i≤l.length∧xs=(l.take i).map fun v=>D.u64 (packN v ws ws.length)) (fun ((i,xs):Nat×List D)=>l.length - i) ((0,[])) [(0,0)]   [1] (⟨by simp,rfl⟩) (by (refine ⟨rfl,rfl,rfl,?_,?_⟩;repeat' first|exact trivial|exact rfl|exact ⟨_,rfl⟩|refine And.intro ?_ ?_|refine ⟨_,rfl,?_⟩|decide)) ?_
 rintro ⟨i,_⟩ ⟨hi,rfl⟩
 (repeat' ((conv=>whnf);first|refine vA ?_|(refine vF ?_ ?_<;>intro hc<;>try simp only [vL] at hc)|refine vJ fun hg=>?_));all_goals try conv=>whnf
 ·have hil:i < l.length:=by omega
  refine loop_mem (fun ((k,x):Nat×BitVec 64)=>[(0,.d (dU l)),(1,.own 0),(5,.own 1),(6,.d (.int .i64 ((i:Int)))),(7,.d (.u64 (x))),(8,.d (.int .i64 ((k:Int)))),(ghostAt,.own 0)]) (fun ((k,x):Nat×BitVec 64)=>[(0,some (.row 1 (ws.map (D.int .i64)))),(1,some (.row 1 ((l.take i).map fun v=>D.u64 (packN v ws ws.length))))]) 2 (fun ((k,x):Nat×BitVec 64)=>k≤ws.length∧x=packN (uAt l i) ws k) (fun ((k,x):Nat×BitVec 64)=>ws.length - k) ((0,0#64)) [(0,0),(1,1)] [] (⟨by simp,rfl⟩) (by (refine ⟨rfl,rfl,rfl,?_,?_⟩;repeat' first|exact trivial|exact rfl|refine And.intro ?_ ?_|refine ⟨_,rfl,?_⟩|decide)) ?_
  rintro ⟨k,_⟩ ⟨hk,rfl⟩
  (repeat' ((conv=>whnf);first|refine vA ?_|(refine vF ?_ ?_<;>intro hc<;>try simp only [vL] at hc)|refine vJ fun hg=>?_|(refine vQ ?_ fun x hx=>?_;·omega)|(refine vP ?_ ?_;·(simp only [vM] at *;omega))|fail));all_goals try conv=>whnf
  ·rename_i z hz
   have hxm:=hws x (List.mem_of_getElem? hx)
   have e1:=uAt_of hz
   have e2:=at0_of (l:=ws) (i:=k) hx
   refine CallS.data (fn_In z x hxm.1 (by omega)) (by (repeat refine ⟨⟨rfl,rfl⟩,?_⟩);rfl) rfl ?_
   (repeat' ((conv=>whnf);first|(refine vI ?_ ?_<;>intro hc)|(refine vO ?_ ?_;·omega)|(refine vU ?_ ?_;·kernel_rfl)|fail));all_goals try conv=>whnf
   ·have hb:(uAt l i).getLsbD (at0 ws k).toNat=true:=by rw [e1,e2,← bit_eq];assumption
    refine ⟨(k+1,_),[(0,0),(1,1)],[],?_,?_,by (refine ⟨rfl,rfl,rfl,?_,?_⟩;repeat' first|exact trivial|exact rfl|refine And.intro ?_ ?_|refine ⟨_,rfl,?_⟩|decide)⟩
    ·exact ⟨by (omega),by rw [pack_one hb,ofInt_nat (by omega)];rfl⟩
    ·((simp only [vM] at *;omega))
   ·have hb:(uAt l i).getLsbD (at0 ws k).toNat=false:=by rw [e1,e2,← bit_eq];assumption
    refine ⟨(k+1,_),[(0,0),(1,1)],[],?_,?_,by (refine ⟨rfl,rfl,rfl,?_,?_⟩;repeat' first|exact trivial|exact rfl|refine And.intro ?_ ?_|refine ⟨_,rfl,?_⟩|decide)⟩
    ·exact ⟨by (omega),(pack_zero hb).symm⟩
    ·((simp only [vM] at *;omega))
  ·obtain rfl:k=ws.length:=by omega
   have hkt:(l.take i).length=i:=List.length_take_of_le hi
   refine NeedS.mk (by simp only [List.length_map,hkt,mostLen,List.length_set,List.length_replicate];omega) ?_
   (repeat' ((conv=>whnf);first|(refine vO ?_ ?_;·omega)|fail));all_goals try conv=>whnf
   refine ⟨(i+1,_),[(0,0),(1,3)],[],?_,?_,by (refine ⟨rfl,rfl,rfl,?_,?_⟩;repeat' first|exact trivial|exact rfl|refine And.intro ?_ ?_|refine ⟨_,rfl,?_⟩|decide)⟩
   ·refine ⟨by (omega),?_⟩
    rw [take_snoc (show l[i]? = some (uAt l i) by simp [uAt,List.getD,hil]),List.map_append];rfl
   ·((simp only [vM] at *;omega))
 ·obtain rfl:i=l.length:=by omega
  refine ⟨trivial,_,[(0,0)],[],rfl,.inr ⟨_,rfl,?_,rfl⟩,⟨rfl,rfl,rfl,trivial,by (repeat' first|exact trivial|exact rfl|refine And.intro ?_ ?_|refine ⟨_,rfl,?_⟩|exact of_decide_eq_true rfl)⟩,by (repeat' first|exact trivial|exact rfl|refine And.intro ?_ ?_)⟩
  refine congrArg some (congrArg (D.arr 1) ?_)
  rw [List.take_length,List.map_map];rfl
theorem newL_9 {W:Int} {val:List (BitVec 64)} {acc:List (List (BitVec 64))} (hs0:shapeL W acc.length val=0) (hacc : ¬(acc.any fun r=>decide (relN W r≠0))=true) {y:List (BitVec 64)} (hy:y∈acc) (hc:connB y (revL y)=false):newL W val acc=(⟨0,[],[],[]⟩,12):=by
 rw [newL,if_neg (not_not_intro hs0),if_neg hacc,if_pos (List.any_eq_true.2 ⟨y,hy,by simpa using hc⟩)]
set_option maxHeartbeats 8000000 in
theorem fn_RNew (W:Int) (val:List (BitVec 64)) (acc:List (List (BitVec 64))):Fn Tryz.prog T f_wittingref33_New [.d (.int .i64 W),.d (dU val),.d (dUU acc)] [] (.d (dPI (newL W val acc))) []:=by
 refine fn_dataR hmix k_wittingref33_New (by show 3≤108;decide) ?_
 (repeat' ((conv=>whnf);first|refine vA ?_|(refine vD ?_ ?_<;>intro hc<;>try simp only [vL] at hc)|refine vJ fun hg=>?_|refine yD (fn_ref33_sizes _ _ _) ⟨⟨rfl,rfl⟩,⟨rfl,rfl⟩,⟨rfl,rfl⟩,rfl⟩ rfl ?_));all_goals try conv=>whnf
 ·rw [newL,if_pos hc,show (acc.length:Int)=((acc.map dU).length:Int) by simp];rfl
 have hs0:=‹shapeL W acc.length val=0›
 obtain ⟨hw1,hw2,hv8,hn4,-⟩:=shapeL_ok hs0
 refine loop_mem (fun (k:Nat)=>[(0,.d (.int .i64 (W))),(1,.d (dU val)),(2,.d (dUU acc)),(6,.ptr 0 0),(9,.d (.int .i64 ((k:Int))))]) (fun (k:Nat)=>[(0,some box0)]) 1 (fun (k:Nat)=>k≤acc.length ∧ ∀ r,r∈acc.take k→relN W r=0) (fun (k:Nat)=>acc.length - k) (0) [(0,0)] [] (⟨by simp,by simp⟩) (by (refine ⟨rfl,rfl,rfl,?_,?_⟩;repeat' first|exact trivial|exact rfl|refine And.intro ?_ ?_|refine ⟨_,rfl,?_⟩|decide)) ?_
 rintro k ⟨hk,hI⟩
 (repeat' ((conv=>whnf);first|refine vA ?_|((first|refine vD ?_ ?_|refine vF ?_ ?_)<;>intro hc<;>try simp only [vL] at hc)|refine vJ fun hg=>?_|(refine vQ ?_ fun x hx=>?_;·omega)|((first|refine vO ?_ ?_|refine vP ?_ ?_);·first|omega|(simp only [vM] at *;omega))|refine yD (fn_ref02_Check _ _) ⟨⟨rfl,rfl⟩,⟨rfl,rfl⟩,rfl⟩ rfl ?_));all_goals try conv=>whnf
 ·rw [newL,if_neg (not_not_intro hs0),if_pos (List.any_eq_true.2 ⟨_,List.mem_of_getElem? hx,decide_eq_true ‹_≠(0:Int)›⟩)];rfl
 ·exact ⟨k+1,[(0,0)],[],⟨by (omega),fun r hr=>by
   rw [take_snoc hx] at hr
   rcases List.mem_append.1 hr with h|h
   ·exact hI r h
   ·simp at h;subst h;assumption⟩,by (omega),by (refine ⟨rfl,rfl,rfl,?_,?_⟩;repeat' first|exact trivial|exact rfl|refine And.intro ?_ ?_|refine ⟨_,rfl,?_⟩|decide)⟩
 have hr0 : ∀ r∈acc,relN W r=0:=fun r hr=>hI r (by rw [List.take_of_length_le (by omega)];exact hr)
 have hacc : ¬(acc.any fun r=>decide (relN W r≠0))=true:=fun h=>by
  obtain ⟨r,h1,h2⟩:=List.any_eq_true.1 h
  exact of_decide_eq_true h2 (hr0 r h1)
 refine loop_mem (fun ((k,xs,ys):Nat×List D×List D)=>[(0,.d (.int .i64 (W))),(2,.d (dUU acc)),(6,.ptr 0 0),(10,.ptr 1 0),(11,.d (.int .i64 ((k:Int))))]) (fun ((k,xs,ys):Nat×List D×List D)=>[(0,some box0),(1,some (.box [.d (.int .i64 W),.own 2,.own 3,.own 4])),(2,some (.row 1 (val.map D.u64))),(3,some (.row 1 xs)),(4,some (.row 1 ys))]) 5 (fun ((k,xs,ys):Nat×List D×List D)=>k≤acc.length∧xs=(acc.take k).map cD∧ys=(acc.take k).map rD ∧ ∀ r,r∈acc.take k→connB r (revL r)=true) (fun ((k,xs,ys):Nat×List D×List D)=>acc.length - k) ((0,[],[])) [(0,0),(1,3),(2,2)]   [3,4] (⟨by simp,rfl,rfl,by simp⟩) (by (refine ⟨rfl,rfl,rfl,?_,?_⟩;repeat' first|exact trivial|exact rfl|exact ⟨_,rfl⟩|refine And.intro ?_ ?_|refine ⟨_,rfl,?_⟩|decide)) ?_
 rintro ⟨k,_,_⟩ ⟨hk,rfl,rfl,hI⟩
 (repeat' ((conv=>whnf);first|refine vA ?_|(refine vF ?_ ?_<;>intro hc<;>try simp only [vL] at hc)|refine vJ fun hg=>?_|(refine vQ ?_ fun x hx=>?_;·omega)|fail));all_goals try conv=>whnf
 ·obtain ⟨y,hy⟩ : ∃ y,y=x:=⟨_,rfl⟩
  subst hy
  have hrm:=List.mem_of_getElem? hx
  obtain ⟨hrl,hrc⟩:=relN_ok (hr0 y hrm)
  (repeat' ((conv=>whnf);first|refine vE ?_|(refine vI ?_ ?_<;>intro hc)|refine yD (fn_RHas2 y hrc) ⟨⟨rfl,rfl⟩,⟨rfl,rfl⟩,rfl⟩ rfl ?_|refine yD (fn_RHas4 y hrc) ⟨⟨rfl,rfl⟩,⟨rfl,rfl⟩,rfl⟩ rfl ?_));all_goals try conv=>whnf
  ·have h2:=hasB_iff.1 ‹hasB y 2=true›
   have h4:=hasB_iff.1 ‹hasB y 4=true›
   (repeat' ((conv=>whnf);first|refine vA ?_|refine vE ?_|(refine vI ?_ ?_<;>intro hc)|refine yD (fn_rconn y hrc ‹_› ‹_›) ⟨⟨rfl,rfl⟩,rfl⟩ rfl ?_|refine yN (fn_Symmetric y hrc) ⟨⟨rfl,rfl⟩,rfl⟩ ?_));all_goals try conv=>whnf
   ·have hP:=pre_of hrc ‹connB y (revL y)=true›
    have hol:(orR y (revL y)).length=y.length:=by simp [orR]
    refine loop_mem (fun ((w,cs,rs):Nat×List D×List D)=>[(0,.d (.int .i64 (W))),(2,.d (dUU acc)),(6,.ptr 0 0),(10,.ptr 1 0),(11,.d (.int .i64 ((k:Int)))),(12,.d (dU y)),(13,.d (dU (orR y (revL y)))),(15,.own 5),(16,.own 6),(17,.d (.int .i64 ((w:Int))))]) (fun ((w,cs,rs):Nat×List D×List D)=>[(0,some box0),(1,some (.box [.d (.int .i64 W),.own 2,.own 3,.own 4])),(2,some (.row 1 (val.map D.u64))),(3,some (.row 1 ((acc.take k).map cD))),(4,some (.row 1 ((acc.take k).map rD))),(5,some (.row 1 cs)),(6,some (.row 1 rs))]) 7 (fun ((w,cs,rs):Nat×List D×List D)=>w≤W.toNat∧cs=(List.range w).map (fun u=>D.int .i64 (lowC y u))∧rs=(List.range w).map (fun u=>D.int .i64 (rk y u))) (fun ((w,cs,rs):Nat×List D×List D)=>W.toNat - w) ((0,[],[])) [(0,0),(1,1),(2,2),(3,3),(4,4)]   [5,6] (⟨by simp,rfl,rfl⟩) (by (refine ⟨rfl,rfl,rfl,?_,?_⟩;repeat' first|exact trivial|exact rfl|exact ⟨_,rfl⟩|refine And.intro ?_ ?_|refine ⟨_,rfl,?_⟩|decide)) ?_
    rintro ⟨w,_,_⟩ ⟨hw,rfl,rfl⟩
    (repeat' ((conv=>whnf);first|refine vA ?_|(refine vF ?_ ?_<;>intro hc<;>try simp only [vL] at hc)|refine vT ?_|(refine vQ ?_ fun x hx=>?_;·omega)|(refine vP ?_ ?_;·omega)|fail));all_goals try conv=>whnf
    ·have hwy:w < y.length:=by omega
     have hxo:(orR y (revL y))[w]? = some (uAt y w|||uAt (revL y) w):=by rw [orR,List.getElem?_map,List.getElem?_range hwy];rfl
     have hne:uAt y w|||uAt (revL y) w≠0#64:=fun e=>by
      have h:=or_rb hrc (w:=w) (v:=w)
      rw [rb_of hxo,e,hP.cmp_refl hwy] at h
      simp at h
     have hrk:rk y w≤y.length:=by
      have h1:rk y w≤(belowL y w y.length).length:=nd_le (fin_nodup _) fun x hx=>fin_mem.1 hx
      have:=belowL_len (r:=y) (w:=w) (n:=y.length)
      omega
     obtain rfl:uAt y w|||uAt (revL y) w=x:=Option.some.inj (hxo.symm.trans hx)
     refine CallS.data (fn_lowest _ hne) (by (repeat refine ⟨⟨rfl,rfl⟩,?_⟩);rfl) rfl ?_
     (repeat' ((conv=>whnf);first|((first|refine vO ?_ ?_|refine vP ?_ ?_);·first|omega|(simp only [vM] at *;omega))|refine yD (fn_chain y hP (rk y w) w W hwy rfl (by omega) (by omega)) ⟨⟨rfl,rfl⟩,⟨rfl,rfl⟩,⟨rfl,rfl⟩,rfl⟩ rfl ?_));all_goals try conv=>whnf
     refine ⟨(w+1,_,_),[(0,0),(1,1),(2,2),(3,3),(4,4),(5,8),(6,10)],[],?_,?_,by (refine ⟨rfl,rfl,rfl,?_,?_⟩;repeat' first|exact trivial|exact rfl|refine And.intro ?_ ?_|refine ⟨_,rfl,?_⟩|decide)⟩
     ·refine ⟨by (omega),?_,?_⟩
      ·rw [List.range_succ,List.map_append];rfl
      ·rw [List.range_succ,List.map_append];rfl
     ·((simp only [vM] at *;omega))
    ·have hkt:(acc.take k).length=k:=List.length_take_of_le hk
     refine NeedS.mk (by simp only [List.length_map,hkt,mostLen,List.length_set,List.length_replicate];omega) ?_
     (repeat' ((conv=>whnf);first|refine vT ?_|((first|refine vO ?_ ?_|refine vP ?_ ?_);·first|omega|(simp only [vM] at *;omega))|fail));all_goals try conv=>whnf
     obtain rfl:w=W.toNat:=by omega
     have hcn:=‹connB y (revL y)=true›
     refine ⟨(k+1,_,_),[(0,0),(1,1),(2,2),(3,8),(4,10)],[],?_,?_,by (refine ⟨rfl,rfl,rfl,?_,?_⟩;repeat' first|exact trivial|exact rfl|refine And.intro ?_ ?_|refine ⟨_,rfl,?_⟩|decide)⟩
     ·refine ⟨by (omega),?_,?_,fun r hr=>?_⟩
      ·rw [take_snoc hx,List.map_append]
       refine congrArg (_++[D.arr 1 ·]) ?_
       rw [cellR,List.map_map,show W.toNat=y.length by omega];rfl
      ·rw [take_snoc hx,List.map_append]
       refine congrArg (_++[D.arr 1 ·]) ?_
       rw [rankR,List.map_map,show W.toNat=y.length by omega];rfl
      ·rw [take_snoc hx] at hr
       rcases List.mem_append.1 hr with h|h
       ·exact hI r h
       ·simp at h;subst h;exact hcn
     ·((simp only [vM] at *;omega))
   ·rw [newL_9 hs0 hacc hrm ‹_›];rfl
  ·rw [newL_9 hs0 hacc hrm (connB_no.2 fun h=>hasB_no.1 ‹hasB y 4=false› h.2.1)];rfl
  ·rw [newL_9 hs0 hacc hrm (connB_no.2 fun h=>hasB_no.1 ‹hasB y 2=false› h.1)];rfl
 ·have hke:acc.take k=acc:=List.take_of_length_le (by omega)
  rw [newL,if_neg (not_not_intro hs0),if_neg hacc,if_neg (fun h=>by
   obtain ⟨r,h1,h2⟩:=List.any_eq_true.1 h
   rw [hI r (by rw [hke];exact h1)] at h2;cases h2)]
  rw [hke]
  show some (D.tup [D.agg [.int .i64 W,dU val,.arr 1 (acc.map cD),.arr 1 (acc.map rD)],.int .i64 0])=some (D.tup [D.agg [.int .i64 W,dU val,.arr 1 ((acc.map cellR).map dI),.arr 1 ((acc.map rankR).map dI)],.int .i64 0])
  rw [List.map_map,List.map_map];rfl
end Go.Ab
namespace Go.Ab
open Go Go.Proofs
set_option linter.unusedSimpArgs false
set_option linter.unusedVariables false
set_option maxRecDepth 10000
set_option maxHeartbeats 4000000
variable {T:Nat→Obj→Prop}
theorem CallS.objsF {P:Program} {M:Nat→Option Ob} {n f:Nat} {vs lvs:List V} {obs:List Ob} {lv:V} {obs':List (Option Ob)} {K:V→Upd→Nat→Prop} (js fz:List Nat) (hf:Fn P T f lvs obs lv obs') (ha:VPasses M js fz 20 lvs vs)
  (ho:ObPasses M js fz obs js) (hnd:nodup js=true) (hdj:disj fz js=true) (hsj:subl js (valReach M vs)=true) (hsf:subl fz (valReach M vs)=true) (hle:js.length≤obs'.length)
  (hK:K (renV js n 20 lv) (callU js fz n obs' false) (obs'.length - js.length)):CallS (CallC P T) M n f vs K :=
 ⟨⟨_,_,_,⟨js,fz,false,lvs,obs,lv,obs',hf,ha,ho,hnd,hdj,hsj,hsf,hle,nofun,rfl,rfl,rfl⟩,hK⟩⟩
theorem law_News (hT:TzOk T) (W:Int) (val:List (BitVec 64)) (acc:List (List (BitVec 64))):Fn Tryz.prog T f_wittinglaw33_PlausNews [.d (.int .i64 W),.d (dU val),.d (dUU acc)] [] (.d (.bool true)) []:=by
 have hA:=fn_awake hT
 have hN:=fn_New hT W val acc
 have hM:=fn_RNew (T:=T) W val acc
 have hS:=fn_ref33_Same (T:=T) (newL W val acc).1 (newL W val acc).1
 rw [show decide ((newL W val acc).1=(newL W val acc).1)=true by simp] at hS
 refine fn_dataR hmix k_wittinglaw33_PlausNews (by show 3≤53;decide) ?_
 (repeat' ((conv=>whnf);first|refine vA ?_|refine vG ?_|(refine vF ?_ ?_<;>intro hc<;>try simp only [vL] at hc)|refine vJ fun hg=>?_|refine vZ ?_|refine yD hA rfl rfl ?_|refine yN hN ⟨⟨rfl,rfl⟩,⟨rfl,rfl⟩,⟨rfl,rfl⟩,rfl⟩ ?_|refine yN hM ⟨⟨rfl,rfl⟩,⟨rfl,rfl⟩,⟨rfl,rfl⟩,rfl⟩ ?_|refine yD hS ⟨⟨rfl,rfl⟩,⟨rfl,rfl⟩,rfl⟩ rfl ?_));all_goals try conv=>whnf
 all_goals exact absurd trivial hc
theorem pull_weak {p:PM} (hg:Good p) {s:BitVec 64} (hs:s &&& ~~~(allL p.W)=0) (h0 : ¬s=0) {ws:List Int} (hws:ws=wsL s p.W.toNat) {a:Nat} (ha:a < p.cell.length) :
  ((ws.map fun v=>uAt (weakL p a) v.toNat).map fun v=>packN v ws ws.length)=weakL (restPM p ws) a:=by
 obtain ⟨⟨hl1,hl2⟩,hqc,hqb⟩:=rest_ok hg hs h0 hws
 have hlw:(weakL (restPM p ws) a).length=ws.length:=by rw [weak_len];show (ws.length:Int).toNat=_;omega
 refine rel_ext (by rw [List.length_map,List.length_map,hlw]) fun i k hi=>?_
 rw [List.length_map,List.length_map] at hi
 have h1:((ws.map fun v=>uAt (weakL p a) v.toNat).map fun v=>packN v ws ws.length)[i]? = some (packN (uAt (weakL p a) (at0 ws i).toNat) ws ws.length):=by
  rw [List.getElem?_map,List.getElem?_map,get_at0 hi];rfl
 rw [rb_of h1,packN_bit,uAt_bit]
 by_cases hk:k < ws.length
 ·rw [hqb a ha i k hi hk]
  simp [hk,show k < 64 by omega]
 ·have:rb (weakL (restPM p ws) a) i k=false:=by
   rw [Bool.eq_false_iff]
   intro h
   have:=(pre_weak (p:=restPM p ws) (a:=a) (by show (ws.length:Int)≤64;omega)).ins _ _ h
   omega
  rw [this];simp [hk]
set_option maxHeartbeats 8000000 in
theorem fn_RRestrict (p:PM) (hp:IntsOk p.rank) (s:BitVec 64):Fn Tryz.prog T f_wittingref33_Restrict [.d (dPM p),.d (.u64 s)] [] (.d (dPLI (restL p s))) []:=by
 refine fn_dataR hmix k_wittingref33_Restrict (by show 2≤96;decide) ?_
 (repeat' ((conv=>whnf);first|refine vA ?_|(refine vD ?_ ?_<;>intro hc)|refine yD (fn_ref33_Check _ hp) ⟨⟨rfl,rfl⟩,rfl⟩ rfl ?_));all_goals try conv=>whnf
 ·rw [restL,if_pos hc];rfl
 have hck:=‹checkL p=0›
 have hgd:=checkL_good hck
 have hw1:=hgd.w1
 have hw2:=hgd.w2
 have hv8:=hgd.v8
 have hn4:=hgd.n4
 (repeat' ((conv=>whnf);first|refine vA ?_|((first|refine vD ?_ ?_|refine vF ?_ ?_)<;>intro hc)|refine yD (fn_ref02_All p.W (by omega)) ⟨⟨rfl,rfl⟩,rfl⟩ rfl ?_));all_goals try conv=>whnf
 ·rw [restL,if_neg (not_not_intro hck),if_pos ‹s &&& ~~~allL p.W≠(0:BitVec 64)›];rfl
 ·rw [restL,if_neg (not_not_intro hck),if_neg (not_not_intro ‹s &&& ~~~allL p.W=(0:BitVec 64)›),if_pos ‹s=0›];rfl
 have hs1:=‹s &&& ~~~allL p.W=(0:BitVec 64)›
 have hs2:=‹¬s=0›
 refine loop_mem (fun ((i,zs):Nat×List D)=>[(1,.d (.u64 (s))),(2,.ptr 0 0),(4,.ptr 1 0),(8,.own 2),(9,.d (.int .i64 ((i:Int))))]) (fun ((i,zs):Nat×List D)=>[(0,some (boxPM p)),(1,some box0),(2,some (.row 1 zs))]) 3 (fun ((i,zs):Nat×List D)=>i≤p.W.toNat∧zs=(wsL s i).map (D.int .i64)) (fun ((i,zs):Nat×List D)=>p.W.toNat - i) ((0,[])) [(0,0),(1,1)]   [2] (⟨by simp,rfl⟩) (by (refine ⟨rfl,rfl,rfl,?_,?_⟩;repeat' first|exact trivial|exact rfl|exact ⟨_,rfl⟩|refine And.intro ?_ ?_|refine ⟨_,rfl,?_⟩|decide)) ?_
 rintro ⟨i,_⟩ ⟨hi,rfl⟩
 (repeat' ((conv=>whnf);first|refine vA ?_|((first|refine vF ?_ ?_|refine vI ?_ ?_)<;>intro hc<;>try simp only [vL] at hc)|((first|refine vO ?_ ?_|refine vP ?_ ?_);·omega)|(refine yD (fn_In _ _ ?_ ?_) ⟨⟨rfl,rfl⟩,⟨rfl,rfl⟩,rfl⟩ rfl ?_;(·omega);(·omega))|fail));all_goals try conv=>whnf
 ·have hwl:=wsL_len (s:=s) (n:=i)
  refine NeedS.mk (by simp only [List.length_map,mostLen,List.length_set,List.length_replicate];omega) ?_
  (repeat' ((conv=>whnf);first|(refine vO ?_ ?_;·omega)|fail));all_goals try conv=>whnf
  refine ⟨(i+1,_),[(0,0),(1,1),(2,4)],[],?_,?_,by (refine ⟨rfl,rfl,rfl,?_,?_⟩;repeat' first|exact trivial|exact rfl|refine And.intro ?_ ?_|refine ⟨_,rfl,?_⟩|decide)⟩
  ·refine ⟨by (omega),?_⟩
   rw [wsL_succ,if_pos (by rw [← bit_eq];assumption),List.map_append];rfl
  ·((simp only [vM] at *;omega))
 ·refine ⟨(i+1,_),[(0,0),(1,1),(2,2)],[],?_,?_,by (refine ⟨rfl,rfl,rfl,?_,?_⟩;repeat' first|exact trivial|exact rfl|refine And.intro ?_ ?_|refine ⟨_,rfl,?_⟩|decide)⟩
  ·refine ⟨by (omega),?_⟩
   rw [wsL_succ,if_neg (by rw [← bit_eq];simp at hc ⊢;exact hc),List.append_nil]
  ·((simp only [vM] at *;omega))
 obtain rfl:i=p.W.toNat:=by omega
 obtain ⟨ws,hws⟩ : ∃ ws,ws=wsL s p.W.toNat:=⟨_,rfl⟩
 rw [show restL p s=(restPM p ws,ws,0) by rw [hws,restL,if_neg (not_not_intro hck),if_neg (not_not_intro hs1),if_neg hs2]]
 rw [← hws]
 obtain ⟨⟨hl1,hl2⟩,hqc,-⟩:=rest_ok hgd hs1 hs2 hws
 have hwm : ∀ x∈ws,0≤x∧x < p.W:=fun x hx=>by
  rw [hws] at hx
  have:=wsL_mem hx;omega
 have hpw:=fun a ha=>pull_weak hgd hs1 hs2 hws (a:=a) ha
 clear hws hi
 refine loop_mem (fun ((a,zs):Nat×List D)=>[(2,.ptr 0 0),(4,.ptr 1 0),(8,.own 2),(10,.own 3),(11,.d (.int .i64 ((a:Int))))]) (fun ((a,zs):Nat×List D)=>[(0,some (boxPM p)),(1,some box0),(2,some (.row 1 (ws.map (D.int .i64)))),(3,some (.row 1 zs))]) 4 (fun ((a,zs):Nat×List D)=>a≤p.cell.length∧zs=((List.range a).map (weakL (restPM p ws))).map dU) (fun ((a,zs):Nat×List D)=>p.cell.length - a) ((0,[])) [(0,0),(1,1),(2,2)]   [3] (⟨by simp,rfl⟩) (by (refine ⟨rfl,rfl,rfl,?_,?_⟩;repeat' first|exact trivial|exact rfl|exact ⟨_,rfl⟩|refine And.intro ?_ ?_|refine ⟨_,rfl,?_⟩|decide)) ?_
 rintro ⟨a,_⟩ ⟨ha,rfl⟩
 (repeat' ((conv=>whnf);first|refine vA ?_|(refine vF ?_ ?_<;>intro hc<;>try simp only [vL] at hc)|refine vJ fun hg=>?_));all_goals try conv=>whnf
 ·have han:a < p.cell.length:=by omega
  have hW:=fn_ref33_Weaker (T:=T) p hp a
  rw [weaker_ok hck han] at hW
  have hL1:(weakL p a).length=p.W.toNat:=weak_len
  (repeat' ((conv=>whnf);first|refine vA ?_|refine yN hW ⟨⟨rfl,rfl⟩,⟨rfl,rfl⟩,rfl⟩ ?_));all_goals try conv=>whnf
  refine loop_mem (fun ((k,zs):Nat×List D)=>[(2,.ptr 0 0),(4,.ptr 1 0),(8,.own 2),(10,.own 3),(11,.d (.int .i64 ((a:Int)))),(12,.d (dU (weakL p a))),(14,.own 4),(15,.d (.int .i64 ((k:Int))))]) (fun ((k,zs):Nat×List D)=>[(0,some (boxPM p)),(1,some box0),(2,some (.row 1 (ws.map (D.int .i64)))),(3,some (.row 1 (((List.range a).map (weakL (restPM p ws))).map dU))),(4,some (.row 1 zs))]) 5 (fun ((k,zs):Nat×List D)=>k≤ws.length∧zs=((ws.take k).map fun v=>uAt (weakL p a) v.toNat).map D.u64) (fun ((k,zs):Nat×List D)=>ws.length - k) ((0,[])) [(0,0),(1,1),(2,2),(3,3)]   [4] (⟨by simp,rfl⟩) (by (refine ⟨rfl,rfl,rfl,?_,?_⟩;repeat' first|exact trivial|exact rfl|exact ⟨_,rfl⟩|refine And.intro ?_ ?_|refine ⟨_,rfl,?_⟩|decide)) ?_
  rintro ⟨k,_⟩ ⟨hk,rfl⟩
  (repeat' ((conv=>whnf);first|refine vA ?_|(refine vF ?_ ?_<;>intro hc<;>try simp only [vL] at hc)|refine vJ fun hg=>?_|(refine vQ ?_ fun x hx=>?_;·omega)|((first|refine vS ?_ fun x hx=>?_|refine vP ?_ ?_);·(simp only [vM] at *;omega))|fail));all_goals try conv=>whnf
  ·obtain ⟨x0,x1⟩:=hwm x (List.mem_of_getElem? hx)
   have hkx:ws[k]? = some x:=hx
   have hkt:(ws.take k).length=k:=List.length_take_of_le hk
   (repeat' ((conv=>whnf);first|((first|refine vO ?_ ?_|refine vS ?_ fun x hx=>?_|refine vP ?_ ?_);·first|omega|(simp only [vM] at *;omega))|fail));all_goals try conv=>whnf
   have e1:=uAt_of hx
   refine ⟨(k+1,_),[(0,0),(1,1),(2,2),(3,3),(4,6)],[],?_,?_,by (refine ⟨rfl,rfl,rfl,?_,?_⟩;repeat' first|exact trivial|exact rfl|refine And.intro ?_ ?_|refine ⟨_,rfl,?_⟩|decide)⟩
   ·refine ⟨by (omega),?_⟩
    rw [take_snoc hkx,List.map_append,List.map_append]
    show _++[D.u64 _]=_++[D.u64 (uAt (weakL p a) _)]
    rw [e1]
   ·((simp only [vM] at *;omega))
  ·obtain rfl:k=ws.length:=by omega
   rw [List.take_length]
   refine CallS.objsF [2] [4] (fn_pull (ws.map fun v=>uAt (weakL p a) v.toNat) ws (fun x hx=>by have:=hwm x hx;omega) (by rw [List.length_map];omega)) (by (repeat' first|exact rfl|refine And.intro ?_ ?_|refine ⟨_,rfl,?_⟩)) (by (repeat' first|exact rfl|refine And.intro ?_ ?_)) (by rfl) (by rfl) (by rfl) (by rfl) (by simp) ?_
   (repeat' ((conv=>whnf);first|((first|refine vO ?_ ?_|refine vP ?_ ?_);·first|omega|(simp only [vM] at *;omega))|fail));all_goals try conv=>whnf
   refine ⟨(a+1,_),[(0,0),(1,1),(2,2),(3,6)],[],?_,?_,by (refine ⟨rfl,rfl,rfl,?_,?_⟩;repeat' first|exact trivial|exact rfl|refine And.intro ?_ ?_|refine ⟨_,rfl,?_⟩|decide)⟩
   ·refine ⟨by (omega),?_⟩
    rw [List.range_succ,List.map_append,List.map_append]
    exact congrArg (fun z=>List.map dU (List.map (weakL (restPM p ws)) (List.range a))++[dU z]) (hpw a han)
   ·((simp only [vM] at *;omega))
 ·have hae:a=p.cell.length:=by omega
  subst hae
  have hnw:=fn_RNew (T:=T) ws.length (p.val.map fun v=>packN v ws ws.length) ((List.range p.cell.length).map (weakL (restPM p ws)))
  have hnq:=new_weak (checkL_good hqc) (shape_good hqc)
  rw [show (restPM p ws).cell.length=p.cell.length by simp [restPM]] at hnq
  rw [show newL (ws.length:Int) (p.val.map fun v=>packN v ws ws.length) ((List.range p.cell.length).map (weakL (restPM p ws)))=(restPM p ws,0) from hnq] at hnw
  have hnx:Fn Tryz.prog T f_wittingref33_New [.d (.int .i64 ((ws.map (D.int .i64)).length:Int)),.d (dU (p.val.map fun v=>packN v ws ws.length)),.d (dUU ((List.range p.cell.length).map (weakL (restPM p ws))))] [] (.d (dPI (restPM p ws,0))) []:=by rw [List.length_map];exact hnw
  refine CallS.objs [2] (fn_pull p.val ws (fun x hx=>by have:=hwm x hx;omega) (by omega)) (by (repeat' first|exact rfl|refine And.intro ?_ ?_|refine ⟨_,rfl,?_⟩)) (by (repeat' first|exact rfl|refine And.intro ?_ ?_)) (by rfl) (by rfl) (by simp) ?_
  (repeat' ((conv=>whnf);fail));all_goals try conv=>whnf
  refine CallS.dataN (hnx) (by (repeat refine ⟨⟨rfl,rfl⟩,?_⟩);rfl) ?_
  (repeat' ((conv=>whnf);fail));all_goals try conv=>whnf
  rfl
theorem law_Restricts (hT:TzOk T) (p:PM) (hp:IntsOk p.rank) (s:BitVec 64):Fn Tryz.prog T f_wittinglaw33_PlausRestricts [.d (dPM p),.d (.u64 s)] [] (.d (.bool true)) []:=by
 have hA:=fn_awake hT
 have hR:=ranks_ok (T:=T)
 have hRO:RanksOwn T:=fun cell rank h1 h2=>ranks_own h1 h2
 have hN2:=fn_Restrict hR hRO p hp s
 have hM2:=fn_RRestrict (T:=T) p hp s
 generalize restL p s=qle at hN2 hM2
 obtain ⟨q,l,e⟩:=qle
 have hS:=fn_ref33_Same (T:=T) q q
 rw [show decide (q=q)=true by simp] at hS
 refine fn_dataR hmix k_wittinglaw33_PlausRestricts (by show 2≤62;decide) ?_
 (repeat' ((conv=>whnf);first|refine vA ?_|refine vE ?_|refine vG ?_|((first|refine vD ?_ ?_|refine vF ?_ ?_)<;>intro hc<;>try simp only [vL] at hc)|refine vJ fun hg=>?_|refine vZ ?_|refine yD (fn_Few _) ⟨⟨rfl,rfl⟩,rfl⟩ rfl ?_|refine yD hA rfl rfl ?_|refine yN hN2 ⟨⟨rfl,rfl⟩,⟨rfl,rfl⟩,rfl⟩ ?_|refine yN hM2 ⟨⟨rfl,rfl⟩,⟨rfl,rfl⟩,rfl⟩ ?_|refine yD hS ⟨⟨rfl,rfl⟩,⟨rfl,rfl⟩,rfl⟩ rfl ?_));all_goals try conv=>whnf
 ·exact absurd rfl hc
 ·exact absurd rfl hc
 ·refine loop_mem (fun (k:Nat)=>[(6,.d (dI l)),(9,.d (dI l)),(11,.d (.int .i64 ((k:Int))))]) (fun (k:Nat)=>[]) 0 (fun (k:Nat)=>k≤l.length) (fun (k:Nat)=>l.length - k) (0) [] [] (by omega) (by (refine ⟨rfl,rfl,rfl,?_,?_⟩;repeat' first|exact trivial|exact rfl|refine And.intro ?_ ?_)) ?_
  rintro k hk
  (repeat' ((conv=>whnf);first|refine vA ?_|((first|refine vD ?_ ?_|refine vF ?_ ?_)<;>intro hc<;>try simp only [vL] at hc)|refine vJ fun hg=>?_|refine vN ‹_› ?_|(refine vQ ?_ fun x hx=>?_;·omega)|(refine vO ?_ ?_;·omega)|(refine vU ?_ ?_;·kernel_rfl)|refine vZ ?_|refine yD hA rfl rfl ?_));all_goals try conv=>whnf
  ·exact absurd rfl hc
  ·exact ⟨k+1,[],[],by (omega),by (omega),by (refine ⟨rfl,rfl,rfl,?_,?_⟩;repeat' first|exact trivial|exact rfl|refine And.intro ?_ ?_)⟩
end Go.Ab
