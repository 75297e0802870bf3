/- A part of the proofs of this seat: functions and their contracts. -/
import Derived.Test.YtmaiaomgcpbccaaGreatME
import Derived.Shelf.Sort.Plain
import Derived.Sort.OwnSortedInts
import Derived.Sort.AssemblyPlain
import Derived.Deep.RegionLaw
import Derived.Deep.AppendLies
import Derived.Deep.DrawnRows
import Derived.Sort.LotD4
set_option linter.unusedVariables false
set_option linter.unusedSimpArgs false
set_option linter.unusedSectionVars false
namespace Go.Ab
open Go Go.Proofs Go.MapKept
set_option linter.unusedVariables false
set_option linter.unusedSimpArgs false
def inC (rank cell : List Int) (k : Nat) (c : Int) : List Int := ((List.range k).filter fun w => at0 cell w == c).map (at0 rank)
def gsOf (cell rank : List Int) (k : Nat) : GI := (keysOf (cell.take k)).map fun c => (c, inC rank cell k c)
theorem inC_succ {cell rank : List Int} {k : Nat} {c : Int} : inC rank cell (k + 1) c = inC rank cell k c ++ (if at0 cell k = c then [at0 rank k] else []) := by
  unfold inC
  rw [List.range_succ, List.filter_append, List.map_append]
  congr 1
  by_cases h : at0 cell k = c
  · simp [h]
  · simp [h]
theorem inC_len {cell rank : List Int} {k : Nat} {c : Int} : (inC rank cell k c).length ≤ k := by
  unfold inC
  rw [List.length_map]
  have := List.length_filter_le (fun w => at0 cell w == c) (List.range k)
  rwa [List.length_range] at this
theorem keysOf_snoc {l : List Int} {c : Int} : keysOf (l ++ [c]) = if c ∈ keysOf l then keysOf l else keysOf l ++ [c] := by
  simp only [keysOf, List.foldl_append, List.foldl_cons, List.foldl_nil]
  by_cases h : c ∈ List.foldl (fun l c => if c ∈ l then l else l ++ [c]) [] l
  · exact (if_pos h).trans (if_pos h).symm
  · exact (if_neg h).trans (if_neg h).symm
theorem nodup_fold : ∀ {l acc : List Int}, acc.Nodup → (l.foldl (fun l c => if c ∈ l then l else l ++ [c]) acc).Nodup
  | [], acc, h => h
  | x :: l, acc, h => by
    rw [List.foldl_cons]
    refine nodup_fold ?_
    split
    · exact h
    · rename_i hx
      exact List.nodup_append.2 ⟨h, by simp, fun a ha b hb => by simp at hb; subst hb; intro e; subst e; exact hx ha⟩
theorem nodup_keysOf {l : List Int} : (keysOf l).Nodup := nodup_fold List.nodup_nil
theorem take_at0 {cell : List Int} {k : Nat} (h : k < cell.length) : cell.take (k + 1) = cell.take k ++ [at0 cell k] := by
  rw [List.take_add_one, get_at0 h]; rfl
theorem gsOf_keys {cell rank : List Int} {k : Nat} : (gsOf cell rank k).map Prod.fst = keysOf (cell.take k) := by
  rw [gsOf, List.map_map]
  exact (List.map_congr_left fun _ _ => rfl).trans (List.map_id _)
theorem gs_new {cell rank : List Int} {k : Nat} (hk : k < cell.length) (h : at0 cell k ∉ (gsOf cell rank k).map Prod.fst) : gsOf cell rank (k + 1) = gsOf cell rank k ++ [(at0 cell k, [at0 rank k])] := by
  rw [gsOf_keys] at h
  have h0 : inC rank cell k (at0 cell k) = [] := by
    rw [inC, List.map_eq_nil_iff, List.filter_eq_nil_iff]
    intro w hw he
    rw [List.mem_range] at hw
    refine h (mem_keysOf.2 ?_)
    rw [← (show at0 cell w = at0 cell k by simpa using he)]
    exact List.mem_of_getElem? (i := w) (by rw [List.getElem?_take, if_pos hw, get_at0 (by omega)])
  rw [gsOf, take_at0 hk, keysOf_snoc, if_neg h, List.map_append]
  congr 1
  · refine List.map_congr_left fun c hc => ?_
    rw [inC_succ, if_neg (fun e => h (by rw [e]; exact hc)), List.append_nil]
  · simp [inC_succ, h0]
theorem gs_old {cell rank : List Int} {k i : Nat} (hk : k < cell.length) (hi : i < (gsOf cell rank k).length) (hc : ((gsOf cell rank k).getD i default).1 = at0 cell k) :
    gsOf cell rank (k + 1) = (gsOf cell rank k).set i (at0 cell k, ((gsOf cell rank k).getD i default).2 ++ [at0 rank k]) := by
  have hl : i < (keysOf (cell.take k)).length := by simpa [gsOf] using hi
  have hg : ∀ j (hj : j < (keysOf (cell.take k)).length), (gsOf cell rank k)[j]'(by simpa [gsOf] using hj) = ((keysOf (cell.take k))[j], inC rank cell k (keysOf (cell.take k))[j]) := fun j hj => by simp [gsOf]
  have hci : (keysOf (cell.take k))[i] = at0 cell k := by
    rw [← hc]; simp [List.getD, hi, hg i hl]
  have hm : at0 cell k ∈ keysOf (cell.take k) := by rw [← hci]; exact List.getElem_mem _
  have hn : gsOf cell rank (k + 1) = (keysOf (cell.take k)).map fun c => (c, inC rank cell (k + 1) c) := by rw [gsOf, take_at0 hk, keysOf_snoc, if_pos hm]
  rw [hn]
  refine List.ext_getElem (by simp [gsOf]) fun j h1 h2 => ?_
  have hj : j < (keysOf (cell.take k)).length := by simpa using h1
  rw [List.getElem_map, List.getElem_set]
  by_cases e : i = j
  · subst e
    rw [if_pos rfl, hci, inC_succ, if_pos rfl]
    simp [List.getD, hi, hg i hl, hci]
  · rw [if_neg e, hg j hj, inC_succ, if_neg, List.append_nil]
    intro h
    exact e ((List.getElem_inj nodup_keysOf).1 (hci.trans h))
def O1 (base : Nat) (w : World) (v : Value) (g : Nat) (zs : List Int) : Prop := w.ownsRow base 3 1 v zs.length (zs.map (Value.int .i64)) ∧ v.ownBlock = some g
theorem O1.kept {base : Nat} {w w' : World} {v : Value} {g : Nat} {zs : List Int} {row : Option Nat} (h : O1 base w v g zs) (hg : w.grownBy w' row) (hne : some g ≠ row) : O1 base w' v g zs := ⟨h.1.kept hg (.inr (by rw [h.2]; exact hne)), h.2⟩
theorem O1.lt {base : Nat} {w : World} {v : Value} {g : Nat} {zs : List Int} (h : O1 base w v g zs) : base ≤ g ∧ g < w.heap.size := h.1.lt g h.2
theorem O1.O2 {base : Nat} {w : World} {v : Value} {g : Nat} {zs : List Int} (h : O1 base w v g zs) (hl : zs.length ≤ 536870912) : O2 base w v g zs := by
  obtain ⟨⟨h1, h2⟩, h3⟩ := h
  rcases h2 with ⟨rfl, h2⟩ | ⟨g', cap, cur, rfl, h4, h5, h6, h7, h8, h9⟩
  · cases h3
  · cases h3
    refine ⟨cap, cur, 3, rfl, h4, h5, h6, by omega, hl, fun j hj => ?_⟩
    have : (cur.toList.take (zs.length * 1))[j]? = some (Value.int .i64 (zs.getD j 0)) := by rw [h9]; simp [hj, List.getD]
    rw [List.getElem?_take, if_pos (by omega)] at this
    rw [Array.getD_eq_getD_getElem?, ← Array.getElem?_toList, this]; rfl
theorem grown_set (w : World) (m : Nat) (o : Obj) : w.grownBy { w with heap := w.heap.setIfInBounds m o } (some m) :=
  ⟨rfl, rfl, rfl, by simp, fun k _ hk => by simp [Array.getElem?_setIfInBounds_ne (fun e : m = k => hk (by rw [e]))]⟩
section
variable {w : World} {base m : Nat} {gs : GI} {es : Array MapEntry} {clock : Nat} {blk : Nat → Nat}
theorem Grp.look1 (h : Grp (O1 base) w m gs es clock blk) (hmb : m < base) (c : Int) : ∃ v zs, ∃ tgt : List Int → GI, (v.ownBlock ≠ some m) ∧ (∀ w', w'.heap[m]? = w.heap[m]? → (Instr.lookup 82 (.map (some m)) (.int .i64 c) false).run Tryz.prog w' = .ok v w') ∧ w.ownsRow base 3 1 v zs.length (zs.map (Value.int .i64)) ∧
    ((∃ i, i < gs.length ∧ (gs.getD i default).1 = c ∧ zs = (gs.getD i default).2 ∧ tgt = fun ys => gs.set i (c, ys)) ∨ (c ∉ gs.map Prod.fst ∧ zs = [] ∧ tgt = fun ys => gs ++ [(c, ys)])) ∧
    ∀ w1 v' x, w.grownBy w1 v.ownBlock → w1.ownsRow base 3 1 v' (zs.length + 1) (zs.map (Value.int .i64) ++ [.int .i64 x]) → (v'.ownBlock = v.ownBlock ∨ v'.ownBlock = some w.heap.size ∨ ∃ g, v'.ownBlock = some g ∧ w.heap.size ≤ g) →
      ∃ w2 es' clock' blk', (Instr.mapUpdate 82 (.map (some m)) (.int .i64 c) v').run Tryz.prog w1 = .ok () w2 ∧ Grp (O1 base) w2 m (tgt (zs ++ [x])) es' clock' blk' ∧ w1.grownBy w2 (some m) := by
  have hmw : m < w.heap.size := lt_of_block h.heap
  have nn : ∀ {w1 : World} {v' : Value} {zs : List Int} {x : Int}, w1.ownsRow base 3 1 v' (zs.length + 1) (zs.map (Value.int .i64) ++ [.int .i64 x]) → ∃ g, O1 base w1 v' g (zs ++ [x]) := by
    intro w1 v' zs x ho
    have ho' : w1.ownsRow base 3 1 v' (zs ++ [x]).length ((zs ++ [x]).map (Value.int .i64)) := by simpa using ho
    rcases ho.2 with ⟨_, h0⟩ | ⟨g, cap, cur, rfl, _⟩
    · omega
    · exact ⟨g, ho', rfl⟩
  rcases h.find c with ⟨hn, hf⟩ | ⟨i, hi, hc, hf⟩
  · refine ⟨_, [], _, by simp [Value.ownBlock], fun w' hw' => lookG_none (hw'.trans h.heap) hf, World.ownsRow_nil _ _ _ _, .inr ⟨hn, rfl, rfl⟩, fun w1 v' x hg ho hl => ?_⟩
    obtain ⟨g, hv⟩ := nn ho
    have hgw : w.heap.size ≤ g := by
      rcases hl with h1 | h1 | ⟨g', h1, h2⟩
      · rw [hv.2] at h1; cases h1
      · rw [hv.2] at h1; cases h1; exact Nat.le_refl _
      · rw [hv.2] at h1; cases h1; exact h2
    have hm1 : w1.heap[m]? = some (.map es clock) := (hg.block m hmw (by simp [Value.ownBlock])).trans h.heap
    obtain ⟨es', h1, h2⟩ := h.add (w1 := w1) (c := c) (v := v') (g := g) (zs := [] ++ [x]) hf hm1
      (fun o => hv.kept (grown_set w1 m o) (by simp; have := hv.lt; omega))
      (fun o j hj => ((h.val j hj).kept hg (by simp [Value.ownBlock])).kept (grown_set w1 m o) (by have := (h.val j hj).lt; simp; omega))
      (fun j hj => by have := (h.val j hj).lt; omega)
    exact ⟨_, es', _, _, h1, h2, grown_set _ _ _⟩
  · have hvi := h.val i hi
    refine ⟨_, (gs.getD i default).2, _, by rw [hvi.2]; have := hvi.lt; simp; omega, fun w' hw' => lookG_some (hw'.trans h.heap) hf, hvi.1, .inl ⟨i, hi, hc, rfl, rfl⟩, fun w1 v' x hg ho hl => ?_⟩
    rw [hvi.2] at hg hl
    obtain ⟨g, hv⟩ := nn ho
    have hgw : g = blk i ∨ w.heap.size ≤ g := by
      rcases hl with h1 | h1 | ⟨g', h1, h2⟩
      · rw [hv.2] at h1; cases h1; exact .inl rfl
      · rw [hv.2] at h1; cases h1; exact .inr (Nat.le_refl _)
      · rw [hv.2] at h1; cases h1; exact .inr h2
    have hmi : m ≠ blk i := by have := hvi.lt; omega
    have hm1 : w1.heap[m]? = some (.map es clock) := (hg.block m hmw (by simpa using hmi)).trans h.heap
    have hne : ∀ j, j < gs.length → j ≠ i → blk j ≠ blk i := fun j hj hji e => hji (h.apart j i hj hi e)
    obtain ⟨es', h1, h2, -⟩ := h.set (w1 := w1) (c := c) (u := (es.getD i default).val) (v := v') (g := g) (zs := (gs.getD i default).2 ++ [x]) hi hc hf hm1
      (fun o => hv.kept (grown_set w1 m o) (by simp; have := hv.lt; omega))
      (fun o j hj hji => ((h.val j hj).kept hg (by simpa using hne j hj hji)).kept (grown_set w1 m o) (by have := (h.val j hj).lt; simp; omega))
      (fun j hj hji => by
        have := (h.val j hj).lt
        rcases hgw with rfl | h3
        · exact hne j hj hji
        · omega)
    exact ⟨_, es', _, _, h1, h2, grown_set _ _ _⟩
end
end Go.Ab
namespace Go.Proofs
def Tryz.lays189_ren : Go.Shelf.Ren := ⟨fun | 189 => 120 | 125 => 158 | 257 => 161 | 128 => 197 | 129 => 198 | 294 => 199 | 295 => 200 | 296 => 201 | 297 => 202 | 298 => 203 | 299 => 204 | 216 => 205 | 300 => 206 | 301 => 207 | 328 => 225 | 329 => 221 | 330 => 222 | 331 => 226 | 332 => 227 | 215 => 156 | 343 => 234 | n => n, fun | 28 => 29 | 3 => 3 | 46 => 52 | 0 => 0 | 51 => 173 | 53 => 42 | 4 => 4 | 183 => 167 | 182 => 166 | 131 => 153 | 5 => 5 | 9 => 9 | 218 => 185 | 222 => 189 | 228 => 196 | 229 => 197 | n => n, fun | n => n⟩
theorem Tryz.lays189 : Go.Proofs.Lays.n189 Tryz.prog Tryz.lays189_ren := {
  mixed := by kernel_rfl
  f125 := Tryz.func158.trans (congrArg some (by kernel_rfl))
  f128 := Tryz.func197.trans (congrArg some (by kernel_rfl))
  f129 := Tryz.func198.trans (congrArg some (by kernel_rfl))
  f189 := Tryz.func120.trans (congrArg some (by kernel_rfl))
  f215 := Tryz.func156.trans (congrArg some (by kernel_rfl))
  f216 := Tryz.func205.trans (congrArg some (by kernel_rfl))
  f257 := Tryz.func161.trans (congrArg some (by kernel_rfl))
  f294 := Tryz.func199.trans (congrArg some (by kernel_rfl))
  f295 := Tryz.func200.trans (congrArg some (by kernel_rfl))
  f296 := Tryz.func201.trans (congrArg some (by kernel_rfl))
  f297 := Tryz.func202.trans (congrArg some (by kernel_rfl))
  f298 := Tryz.func203.trans (congrArg some (by kernel_rfl))
  f299 := Tryz.func204.trans (congrArg some (by kernel_rfl))
  f300 := Tryz.func206.trans (congrArg some (by kernel_rfl))
  f301 := Tryz.func207.trans (congrArg some (by kernel_rfl))
  f328 := Tryz.func225.trans (congrArg some (by kernel_rfl))
  f329 := Tryz.func221.trans (congrArg some (by kernel_rfl))
  f330 := Tryz.func222.trans (congrArg some (by kernel_rfl))
  f331 := Tryz.func226.trans (congrArg some (by kernel_rfl))
  f332 := Tryz.func227.trans (congrArg some (by kernel_rfl))
  f343 := Tryz.func234.trans (congrArg some (by kernel_rfl))
  t0 := Tryz.underlying0
  a0 := Tryz.isAgg0
  z0 := Tryz.sizeOf0
  v0 := Tryz.zeroValue0
  t3 := Tryz.underlying3
  a3 := Tryz.isAgg3
  z3 := Tryz.sizeOf3
  v3 := Tryz.zeroValue3
  t4 := Tryz.underlying4
  a4 := Tryz.isAgg4
  z4 := Tryz.sizeOf4
  v4 := Tryz.zeroValue4
  t5 := Tryz.underlying5
  a5 := Tryz.isAgg5
  z5 := Tryz.sizeOf5
  v5 := Tryz.zeroValue5
  t9 := Tryz.underlying9
  a9 := Tryz.isAgg9
  z9 := Tryz.sizeOf9
  v9 := Tryz.zeroValue9
  t28 := Tryz.underlying29
  a28 := Tryz.isAgg29
  z28 := Tryz.sizeOf29
  v28 := Tryz.zeroValue29
  t46 := Tryz.underlying52
  a46 := Tryz.isAgg52
  z46 := Tryz.sizeOf52
  v46 := Tryz.zeroValue52
  t51 := Tryz.underlying173
  a51 := Tryz.isAgg173
  z51 := Tryz.sizeOf173
  v51 := Tryz.zeroValue173
  t53 := Tryz.underlying42
  a53 := Tryz.isAgg42
  z53 := Tryz.sizeOf42
  v53 := Tryz.zeroValue42
  t131 := Tryz.underlying153
  a131 := Tryz.isAgg153
  z131 := Tryz.sizeOf153
  v131 := Tryz.zeroValue153
  t182 := Tryz.underlying166
  a182 := Tryz.isAgg166
  z182 := Tryz.sizeOf166
  v182 := Tryz.zeroValue166
  t183 := Tryz.underlying167
  a183 := Tryz.isAgg167
  z183 := Tryz.sizeOf167
  v183 := Tryz.zeroValue167
  t218 := Tryz.underlying185
  a218 := Tryz.isAgg185
  z218 := Tryz.sizeOf185
  v218 := Tryz.zeroValue185
  t222 := Tryz.underlying189
  a222 := Tryz.isAgg189
  z222 := Tryz.sizeOf189
  v222 := Tryz.zeroValue189
  t228 := Tryz.underlying196
  a228 := Tryz.isAgg196
  z228 := Tryz.sizeOf196
  v228 := Tryz.zeroValue196
  t229 := Tryz.underlying197
  a229 := Tryz.isAgg197
  z229 := Tryz.sizeOf197
  v229 := Tryz.zeroValue197 }
end Go.Proofs
namespace Go.Ab
open Go Go.Proofs Go.MapKept
open Go.ChangeMaps (setBlock)
set_option linter.unusedVariables false
set_option linter.unusedSimpArgs false
variable {T : Nat → Obj → Prop}
def finZ (zs : List Int) : List Int := ddA (Sort.sort Sort.ltInt zs.toArray) (Sort.sort Sort.ltInt zs.toArray).size
theorem dd_ne {d : Array Int} : ∀ {n : Nat}, 0 < n → ddA d n ≠ []
  | 1, _ => by simp [ddA]
  | n + 2, _ => by
    rw [ddA]
    split
    · exact dd_ne (Nat.succ_pos n)
    · simp
theorem dd_len {α : Type} [Inhabited α] [DecidableEq α] {d : Array α} : ∀ {n : Nat}, (ddA d n).length ≤ n
  | 0 => Nat.le_refl 0
  | n + 1 => by
    have := dd_len (d := d) (n := n)
    rw [ddA]
    split
    · omega
    · simp; omega
theorem sort_size (d : Array Int) : (Sort.sort Sort.ltInt d).size = d.size := pdq_size Sort.swo_ltInt d.size d 0 d.size _ true true (by omega) (Nat.zero_le _) (Nat.le_refl _)
theorem call_compact {d : Array Int} (hl : d.size ≤ 536870912) (h0 : 0 < d.size) {base : Nat} {w : World} {v : Value} {g : Nat} (h : O2 base w v g d.toList) (hT : ∀ b o, T b o → w.heap[b]? = some o ∧ b ≠ g) (hb : base ≤ w.heap.size) :
    Calls Tryz.prog 121 #[v] w fun e w' => ∃ v' g', e = .returned v' ∧ O2 base w' v' g' (ddA d d.size) ∧ (g' = g ∨ w.heap.size ≤ g') ∧ w.grownBy w' (some g) := by
  by_cases hs : Steps d
  · have hd : ddA d d.size = d.toList := by
      rw [dd_take (Nat.le_refl _) (fun j h1 h2 => hs j h1 h2), List.take_of_length_le (by simp)]
    exact call_row (T := T) (f := 121) (id := 0) (fn_Compact_id_int d hl hs) (by rw [hd]; rfl) (Nat.le_trans dd_len hl) (dd_ne h0) h hT hb
  · exact call_row (T := T) (f := 121) (id := 1) (fn_Compact_cut_int d hl hs) rfl (Nat.le_trans dd_len hl) (dd_ne h0) h hT hb
theorem call_sortI {zs : List Int} (hl : zs.length ≤ 536870912) (h0 : zs ≠ []) {base : Nat} {w : World} {v : Value} {g : Nat} (h : O2 base w v g zs) (hT : ∀ b o, T b o → w.heap[b]? = some o ∧ b ≠ g) :
    Calls Tryz.prog 120 #[v] w fun e w' => e = .returned (.tuple #[]) ∧ O2 base w' v g (Sort.sort Sort.ltInt zs.toArray).toList ∧ w.grownBy w' (some g) := by
  have hz : (Sort.sort Sort.ltInt zs.toArray).toList.length = zs.length := by rw [Array.length_toList, sort_size]; simp
  obtain ⟨cap, c, e, rfl, h2, h3, h4, h5, h6, h7⟩ := h
  have hH := holds_of_blockI (ss := zs) h3 (by
    refine List.ext_getElem (by simp; omega) fun i h1 h8 => ?_
    have h8 : i < zs.length := by simpa using h8
    have := h7 i h8
    simp [List.getD, h8, show i < c.size by omega] at this
    simp [this])
  refine (Any.slices_Sort_int Tryz.lays189 g 0 cap zs w hH (lt_of_block h3) (by omega)).mono fun x w' => ?_
  rintro ⟨rfl, n, os, rfl⟩
  have hq : (zs.mergeSort fun x y => decide (x ≤ y)) = (Sort.sort Sort.ltInt zs.toArray).toList := (Go.Sort.sortInt zs).symm
  rw [hq]
  generalize (Sort.sort Sort.ltInt zs.toArray).toList = ys at hz
  refine ⟨rfl, ⟨cap, _, e, by rw [hz], h2, heap_sortedI _ h3, by omega, by simp [Sort.putCells]; omega, by omega, fun j hj => ?_⟩, grownBy_sortedI _⟩
  have ht := take_putCellsI c ys (by omega)
  have := congrArg (fun l : List Value => l.getD j undef) ht
  simp [List.getD, List.getElem?_take, hj] at this
  simpa [List.getD, hj] using this
def gAt (gs : GI) (born : Nat → Nat) (seen : Array Nat) : GI := (List.range gs.length).map fun j => ((gs.getD j default).1, if seen.contains (born j) then finZ (gs.getD j default).2 else (gs.getD j default).2)
def unseen (n : Nat) (born : Nat → Nat) (seen : Array Nat) : Nat := ((List.range n).filter fun j => !seen.contains (born j)).length
structure Mid (w : World) (m base r clock : Nat) (gs : GI) (born : Nat → Nat) (seen : Array Nat) (wr : World) : Prop where
  ex : ∃ es blk, Grp (O2 base) wr m (gAt gs born seen) es clock blk ∧ (∀ j, j < gs.length → (es.getD j default).born = born j) ∧ ∀ j, j < gs.length → blk j ≠ r ∧ blk j < wr.heap.size
  iter : wr.heap[r]? = some (.mapIter (some m) clock seen clock)
  grown : w.grownBy wr none
  mr : m < base ∧ base ≤ r ∧ w.heap.size ≤ m
theorem gAt_len {gs : GI} {born : Nat → Nat} {seen : Array Nat} : (gAt gs born seen).length = gs.length := by simp [gAt]
theorem gAt_get {gs : GI} {born : Nat → Nat} {seen : Array Nat} {j : Nat} (hj : j < gs.length) : (gAt gs born seen).getD j default = ((gs.getD j default).1, if seen.contains (born j) then finZ (gs.getD j default).2 else (gs.getD j default).2) := by
  simp [gAt, List.getD, hj]
theorem gAt_push {gs : GI} {born : Nat → Nat} {seen : Array Nat} {i : Nat} (hi : i < gs.length) (hb : ∀ j, j < gs.length → born j = born i → j = i) :
    gAt gs born (seen.push (born i)) = (gAt gs born seen).set i ((gs.getD i default).1, finZ (gs.getD i default).2) := by
  refine List.ext_getElem (by simp [gAt]) fun j h1 h2 => ?_
  have hj : j < gs.length := by simpa [gAt] using h1
  rw [List.getElem_set]
  simp only [gAt, List.getElem_map, List.getElem_range, Array.contains_push]
  by_cases e : i = j
  · subst e; simp
  · rw [if_neg e]
    have : (born j == born i) = false := by simpa using fun h => e (hb j hj h).symm
    simp [this]
theorem unseen_push {n : Nat} {born : Nat → Nat} {seen : Array Nat} {i : Nat} (hi : i < n) (hs : seen.contains (born i) = false) : unseen n born (seen.push (born i)) < unseen n born seen := by
  unfold unseen
  have hsub : ((List.range n).filter fun j => !(seen.push (born i)).contains (born j)) = ((List.range n).filter fun j => !seen.contains (born j)).filter fun j => !(born j == born i) := by
    rw [List.filter_filter]
    refine List.filter_congr fun j _ => ?_
    rw [Array.contains_push]
    cases seen.contains (born j) <;> cases (born j == born i) <;> rfl
  rw [hsub]
  refine Nat.lt_of_le_of_ne (List.length_filter_le _ _) fun h => ?_
  have := (List.filter_eq_self.1 (List.length_filter_eq_length_iff.1 h |> fun hh => List.filter_eq_self.2 hh)) i (List.mem_filter.2 ⟨List.mem_range.2 hi, by simpa using hs⟩)
  simp at this
end Go.Ab
namespace Go.Ab
open Go Go.Proofs Go.MapKept
open Go.ChangeMaps (setBlock)
set_option linter.unusedVariables false
set_option linter.unusedSimpArgs false
variable {T : Nat → Obj → Prop}
theorem Mid.round {w wr : World} {m base r clock : Nat} {gs : GI} {born : Nat → Nat} {seen : Array Nat} (h : Mid w m base r clock gs born seen wr) (ty : TypeId) (hT : ∀ b o, T b o → w.heap[b]? = some o)
    (hk : ∀ i j, i < gs.length → j < gs.length → (gs.getD i default).1 = (gs.getD j default).1 → i = j) (hz : ∀ j, j < gs.length → (gs.getD j default).2 ≠ [] ∧ (gs.getD j default).2.length ≤ 536870912) :
    ((Instr.next (.pointer (some ⟨r, 0, none⟩)) false ty).run Tryz.prog wr = .ok (.tuple #[.bool false]) wr ∧ ∀ j, j < gs.length → seen.contains (born j) = true) ∨
    ∃ (c : Int) (v : Value) (wn : World), (Instr.next (.pointer (some ⟨r, 0, none⟩)) false ty).run Tryz.prog wr = .ok (.tuple #[.bool true, .int .i64 c, v]) wn ∧ (Instr.entry (.pointer (some ⟨r, 0, none⟩))).run Tryz.prog wn = .ok (.tuple #[.int .i64 c, v]) wn ∧
      Calls Tryz.prog 120 #[v] wn fun e w' => e = .returned (.tuple #[]) ∧ Calls Tryz.prog 121 #[v] w' fun e w'' => ∃ v', e = .returned v' ∧ ∃ wz seen', (Instr.mapUpdate 82 (.map (some m)) (.int .i64 c) v').run Tryz.prog w'' = .ok () wz ∧
        Mid w m base r clock gs born seen' wz ∧ unseen gs.length born seen' < unseen gs.length born seen := by
  obtain ⟨es, blk, hG, hborn, hblk⟩ := h.ex
  obtain ⟨hmb, hbr, hwm⟩ := h.mr
  have hsz : es.size = gs.length := hG.size.trans gAt_len
  have idx : ∀ x ∈ es.toList, ∃ j, j < gs.length ∧ es.getD j default = x := fun x hx => by
    obtain ⟨j, hj, rfl⟩ := List.getElem_of_mem hx
    rw [Array.length_toList] at hj
    exact ⟨j, by omega, by simp [Array.getD_eq_getD_getElem?, hj]⟩
  have hold : ∀ x ∈ es.toList, x.born < clock := fun x hx => by
    obtain ⟨j, hj, rfl⟩ := idx x hx
    exact hG.st.lt j (by omega)
  have hbi : ∀ i j, i < gs.length → j < gs.length → born i = born j → i = j := fun i j hi hj e => hG.st.inj i j (by omega) (by omega) (by rw [hborn i hi, hborn j hj, e])
  rcases run_next_at (P := Tryz.prog) wr ty r m clock clock seen es clock h.iter hG.heap hold (Nat.le_refl _) with ⟨h0, hrun⟩ | ⟨e, he, w1, hw1, hrun⟩
  · refine .inl ⟨hrun, fun j hj => ?_⟩
    by_cases hc : seen.contains (born j) = true
    · exact hc
    · have hm : es.getD j default ∈ (leftOf es seen) := by
        unfold leftOf
        refine Array.mem_filter.2 ⟨?_, ?_⟩
        · rw [show es.getD j default = es[j]'(by omega) by simp [Array.getD_eq_getD_getElem?, show j < es.size by omega]]
          exact Array.getElem_mem _
        · rw [hborn j hj]; simpa using hc
      have : leftOf es seen = #[] := Array.eq_empty_of_size_eq_zero h0
      rw [this] at hm
      simp at hm
  · right
    have he' : e ∈ es ∧ seen.contains e.born = false := by
      have : e ∈ leftOf es seen := by simpa using he
      unfold leftOf at this
      obtain ⟨h1, h2⟩ := Array.mem_filter.1 this
      exact ⟨h1, by simpa using h2⟩
    obtain ⟨j, hj, rfl⟩ := idx e (by simpa using he'.1)
    have hs := he'.2
    rw [hborn j hj] at hs hrun
    have hjl : j < (gAt gs born seen).length := by rw [gAt_len]; exact hj
    have hkey := hG.key j hjl
    have hval := hG.val j hjl
    have hgj := gAt_get (born := born) (seen := seen) hj
    rw [hs] at hgj
    simp only [Bool.false_eq_true, if_false] at hgj
    rw [hgj] at hkey hval
    simp only at hkey hval
    rw [hkey] at hrun
    have hw1h : w1.heap = wr.heap ∧ w1.os = wr.os ∧ w1.tape = wr.tape ∧ w1.output = wr.output := by rcases hw1 with rfl | rfl <;> exact ⟨rfl, rfl, rfl, rfl⟩
    have hrlt : r < wr.heap.size := lt_of_block h.iter
    generalize hwn : setBlock w1 r (.mapIter (some m) clock (seen.push (born j)) clock) = wn at hrun
    have nr : wn.heap[r]? = some (.mapIter (some m) clock (seen.push (born j)) clock) := by rw [← hwn]; simp [setBlock, hw1h.1, hrlt]
    have no : ∀ b, b ≠ r → wn.heap[b]? = wr.heap[b]? := fun b hb => by rw [← hwn]; simp [setBlock, hw1h.1, Array.getElem?_setIfInBounds_ne (Ne.symm hb)]
    have ns : wn.heap.size = wr.heap.size := by rw [← hwn]; simp [setBlock, hw1h.1]
    have nx : wn.os = wr.os ∧ wn.tape = wr.tape ∧ wn.output = wr.output := by rw [← hwn]; exact hw1h.2
    clear hwn
    obtain ⟨hbj1, hbj2⟩ := hblk j hj
    have hbase : ∀ i, i < gs.length → base ≤ blk i := fun i hi => by
      obtain ⟨_, _, _, _, h2, _⟩ := hG.val i (by rw [gAt_len]; exact hi); exact h2
    have hgn : w.grownBy wn none := ⟨nx.1.trans h.grown.os, nx.2.1.trans h.grown.tape, nx.2.2.trans h.grown.output, by rw [ns]; exact h.grown.size, fun b hb _ => (no b (by omega)).trans (h.grown.block b hb (by simp))⟩
    have hTn : ∀ (x : World), wn.grownBy x (some (blk j)) → ∀ b o, T b o → x.heap[b]? = some o ∧ b ≠ blk j := fun x hx b o ht => by
      have h1 := hT b o ht
      have h2 := lt_of_block h1
      have h3 := hbase j hj
      exact ⟨(hx.block b (Nat.lt_of_lt_of_le h2 hgn.size) (by simp; omega)).trans ((hgn.block b h2 (by simp)).trans h1), by omega⟩
    have hself : wn.grownBy wn (some (blk j)) := ⟨rfl, rfl, rfl, Nat.le_refl _, fun _ _ _ => rfl⟩
    refine ⟨(gs.getD j default).1, (es.getD j default).val, wn, hrun, ?_, ?_⟩
    · have := run_entry_at (P := Tryz.prog) wn r m clock seen es clock (es.getD j default) (by rw [hborn j hj]; exact nr) ((no m (by omega)).trans hG.heap) (by simpa using he'.1) (by
        refine List.pairwise_iff_getElem.2 fun p q hp hq hpq e => ?_
        simp only [List.length_map, Array.length_toList] at hp hq
        have := hG.st.inj p q hp hq (by simpa [Array.getD_eq_getD_getElem?, hp, hq] using e)
        omega)
      rw [hkey] at this
      exact this
    · refine (call_sortI (T := T) (hz j hj).2 (hz j hj).1 (hval.kept (no _ hbj1)) (hTn wn hself)).mono ?_
      rintro e1 w' ⟨rfl, hO1, hg1⟩
      refine ⟨rfl, ?_⟩
      have hds : (Sort.sort Sort.ltInt (gs.getD j default).2.toArray).size = (gs.getD j default).2.length := by rw [sort_size]; simp
      refine (call_compact (T := T) (d := Sort.sort Sort.ltInt (gs.getD j default).2.toArray) (by rw [hds]; exact (hz j hj).2) (by rw [hds]; exact List.length_pos_iff.2 (hz j hj).1) hO1 (hTn w' hg1) (by have := hbase j hj; have := hg1.size; omega)).mono ?_
      rintro e2 w'' ⟨v', g', rfl, hO2, hg', hg2⟩
      refine ⟨v', rfl, ?_⟩
      have hg12 : wn.grownBy w'' (some (blk j)) := ⟨hg2.os.trans hg1.os, hg2.tape.trans hg1.tape, hg2.output.trans hg1.output, Nat.le_trans hg1.size hg2.size, fun b hb hne => (hg2.block b (Nat.lt_of_lt_of_le hb hg1.size) hne).trans (hg1.block b hb hne)⟩
      have hmj : m ≠ blk j := by have := hbase j hj; omega
      have hm2 : w''.heap[m]? = some (.map es clock) := (hg12.block m (by rw [ns]; omega) (by simpa using hmj)).trans ((no m (by omega)).trans hG.heap)
      have hg'b : base ≤ g' := by obtain ⟨_, _, _, _, h2, _⟩ := hO2; exact h2
      have hg'l : g' < w''.heap.size := by obtain ⟨_, _, _, _, _, h3, _⟩ := hO2; exact lt_of_block h3
      have hg'r : g' ≠ r := by
        rcases hg' with rfl | h3
        · exact hbj1
        · have := hg1.size; omega
      have hf : Instr.findNow (.int .i64) (.int .i64 (gs.getD j default).1) es.toList 0 = some (some (j, (es.getD j default).val)) := by
        rcases hG.find (gs.getD j default).1 with ⟨hn, -⟩ | ⟨i, hi, hi2, hf⟩
        · refine absurd ?_ hn
          refine List.mem_map.2 ⟨(gAt gs born seen).getD j default, ?_, by rw [hgj]⟩
          simp [List.getD, hjl]
        · rw [gAt_len] at hi
          rw [gAt_get hi] at hi2
          have := hk i j hi hj hi2
          subst this
          exact hf
      obtain ⟨es', hup, hG', hbn⟩ := hG.set (w1 := w'') (c := (gs.getD j default).1) (i := j) (u := (es.getD j default).val) (v := v') (g := g') (zs := finZ (gs.getD j default).2) hjl (by rw [hgj]) hf hm2
        (fun o => hO2.kept (by simp [Array.getElem?_setIfInBounds_ne (show m ≠ g' by omega)]))
        (fun o i hi hij => (hG.val i hi).kept (by
          rw [gAt_len] at hi
          have h1 := hbase i hi
          have h2 : blk i ≠ blk j := fun e => hij (hG.apart i j (by rw [gAt_len]; exact hi) hjl e)
          obtain ⟨h3, h4⟩ := hblk i hi
          show (w''.heap.setIfInBounds m o)[blk i]? = _
          rw [Array.getElem?_setIfInBounds_ne (show m ≠ blk i by omega), hg12.block (blk i) (by rw [ns]; exact h4) (by simpa using h2), no _ h3]))
        (fun i hi hij => by
          rw [gAt_len] at hi
          have h2 : blk i ≠ blk j := fun e => hij (hG.apart i j (by rw [gAt_len]; exact hi) hjl e)
          have h4 := (hblk i hi).2
          rcases hg' with rfl | h3
          · exact h2
          · have := hg1.size; omega)
      refine ⟨_, seen.push (born j), hup, ⟨⟨es', fun i => if i = j then g' else blk i, ?_, fun i hi => (hbn i (by rw [gAt_len]; exact hi)).trans (hborn i hi), fun i hi => ?_⟩, ?_, ?_, hmb, hbr, hwm⟩, unseen_push hj hs⟩
      · rw [gAt_push hj (fun i hi e => hbi i j hi hj e)]
        exact hG'
      · show (if i = j then g' else blk i) ≠ r ∧ (if i = j then g' else blk i) < _
        by_cases e : i = j
        · rw [if_pos e]; exact ⟨hg'r, by simpa using hg'l⟩
        · rw [if_neg e]
          refine ⟨(hblk i hi).1, ?_⟩
          have := (hblk i hi).2; have := hg12.size; simp; omega
      · show (w''.heap.setIfInBounds m _)[r]? = _
        rw [Array.getElem?_setIfInBounds_ne (show m ≠ r by omega), hg12.block r (by rw [ns]; exact hrlt) (by simpa using Ne.symm hbj1), nr]
      · refine ⟨hg12.os.trans hgn.os, hg12.tape.trans hgn.tape, hg12.output.trans hgn.output, by simp; exact Nat.le_trans hgn.size hg12.size, fun b hb _ => ?_⟩
        show (w''.heap.setIfInBounds m _)[b]? = _
        have := hbase j hj
        rw [Array.getElem?_setIfInBounds_ne (show m ≠ b by omega), hg12.block b (Nat.lt_of_lt_of_le hb hgn.size) (by simp; omega), hgn.block b hb (by simp)]
def muOf (r n : Nat) (born : Nat → Nat) (w : World) : Nat := match w.heap[r]? with
  | some (.mapIter _ _ seen _) => unseen n born seen
  | _ => 0
theorem Mid.mu {w wr : World} {m base r clock n : Nat} {gs : GI} {born : Nat → Nat} {seen : Array Nat} (h : Mid w m base r clock gs born seen wr) : muOf r n born wr = unseen n born seen := by
  rw [muOf, h.iter]
theorem gAt_nil {gs : GI} {born : Nat → Nat} : gAt gs born #[] = gs := by
  refine List.ext_getElem (by simp [gAt]) fun j h1 h2 => ?_
  simp [gAt, List.getD, h2]
theorem gAt_all {gs : GI} {born : Nat → Nat} {seen : Array Nat} (h : ∀ j, j < gs.length → seen.contains (born j) = true) : gAt gs born seen = gs.map fun p => (p.1, finZ p.2) := by
  refine List.ext_getElem (by simp [gAt]) fun j h1 h2 => ?_
  have hj : j < gs.length := by simpa using h2
  have := h j hj
  simp only [gAt, List.getElem_map, List.getElem_range, this, if_true]
  simp [List.getD, hj]
theorem Mid.start {w wr : World} {m base clock : Nat} {gs : GI} {es : Array MapEntry} {blk : Nat → Nat} (hG : Grp (O1 base) wr m gs es clock blk) (hz : ∀ j, j < gs.length → (gs.getD j default).2.length ≤ 536870912)
    (hgr : w.grownBy wr none) (hmb : m < base) (hb : base ≤ wr.heap.size) (hwm : w.heap.size ≤ m) :
    Mid w m base wr.heap.size clock gs (fun j => (es.getD j default).born) #[] (wr.alloc (.mapIter (some m) clock #[] clock)) := by
  refine ⟨⟨es, blk, ?_, fun j hj => rfl, fun j hj => ?_⟩, heap_alloc_new _ _, hgr.trans (World.grownBy_alloc _ _ _), hmb, hb, hwm⟩
  · rw [gAt_nil]
    exact ⟨(heap_alloc_old _ _ (lt_of_block hG.heap)).trans hG.heap, hG.st, hG.size, hG.key, fun i hi => ((hG.val i hi).O2 (hz i hi)).kept (heap_alloc_old _ _ (hG.val i hi).lt.2), hG.apart⟩
  · have := (hG.val j hj).lt
    exact ⟨by omega, by simp; omega⟩
end Go.Ab
namespace Go.Ab
open Go Go.Proofs Go.MapKept Go.RowKit Go.WideMaps Go.Maps
set_option linter.unusedVariables false
set_option linter.unusedSimpArgs false
section
variable {P : Program} (w : World) {ops : Array Oper} {rest : List Oper} {o : Oper} {a : Act} {Q : Exit → Act → World → Prop}
theorem wpList_lookup_run (hg : o.guard = none) (m x : Operand) (t : TypeId) (hop : o.op = Op.lookup t m x false) {mv xv v : Value} (hm : a.eval m = mv) (hx : a.eval x = xv)
    (hrun : (Instr.lookup t mv xv false).run P w = .ok v w) (hK : wpList P ops Q rest (a.put o.dst v) w) : wpList P ops Q (o :: rest) a w := by
  refine wpList_plain hg fun K' hK' => ?_
  unfold Oper.wp
  simp [execOp, hop, hm, hx, hrun, Result.andThen]
  exact hK' _ _ hK
theorem wpList_mapUpdate_run (hg : o.guard = none) (m x v : Operand) (t : TypeId) (hop : o.op = Op.mapUpdate t m x v) {mv xv vv : Value} {w' : World} (hm : a.eval m = mv) (hx : a.eval x = xv) (hv : a.eval v = vv)
    (hrun : (Instr.mapUpdate t mv xv vv).run P w = .ok () w') (hK : wpList P ops Q rest (a.put o.dst undef) w') : wpList P ops Q (o :: rest) a w := by
  refine wpList_plain hg fun K' hK' => ?_
  unfold Oper.wp
  simp [execOp, hop, hm, hx, hv, hrun, Result.andThen]
  exact hK' _ _ hK
end
theorem rk_info3 : (Tryz.prog.info? 3).map (fun i => (i.zero, i.size, i.bytes)) = some (some (.int .i64 0), 1, 8) := by kernel_rfl
variable {T : Nat → Obj → Prop}
theorem gs_ok {cell rank : List Int} (hl : cell.length ≤ 536870912) : ∀ j, j < (gsOf cell rank cell.length).length → ((gsOf cell rank cell.length).getD j default).2 ≠ [] ∧ ((gsOf cell rank cell.length).getD j default).2.length ≤ 536870912 := by
  intro j hj
  have hm : (gsOf cell rank cell.length).getD j default ∈ gsOf cell rank cell.length := by simp [List.getD, hj]
  obtain ⟨c, hc, e⟩ := List.mem_map.1 hm
  rw [← e]
  refine ⟨fun h => ?_, Nat.le_trans inC_len hl⟩
  rw [List.take_length] at hc
  obtain ⟨i, hi, h2⟩ := mem_at0.1 (mem_keysOf.1 hc)
  have : at0 rank i ∈ inC rank cell cell.length c := List.mem_map.2 ⟨i, List.mem_filter.2 ⟨List.mem_range.2 hi, by simpa using h2⟩, rfl⟩
  rw [show inC rank cell cell.length c = [] from h] at this
  cases this
theorem gs_keys {cell rank : List Int} : ∀ i j, i < (gsOf cell rank cell.length).length → j < (gsOf cell rank cell.length).length → ((gsOf cell rank cell.length).getD i default).1 = ((gsOf cell rank cell.length).getD j default).1 → i = j := by
  intro i j hi hj e
  have hn : ((gsOf cell rank cell.length).map Prod.fst).Nodup := by rw [gsOf_keys]; exact nodup_keysOf
  have hi' : i < ((gsOf cell rank cell.length).map Prod.fst).length := by simpa using hi
  have hj' : j < ((gsOf cell rank cell.length).map Prod.fst).length := by simpa using hj
  refine (List.getElem_inj (h₀ := hi') (h₁ := hj') hn).1 ?_
  simpa [List.getD, hi, hj] using e
set_option maxHeartbeats 4000000 in
set_option maxRecDepth 100000 in
theorem ranks_walk (b1 o1 cap1 b2 o2 cap2 n2 : Nat) (cell rank : List Int) (w : World) (hn : 0 < cell.length) (hn2 : cell.length ≤ n2) (hl : cell.length ≤ 536870912)
    (hT : ∀ b o, T b o → w.heap[b]? = some o) (hb1 : b1 < w.heap.size) (hb2 : b2 < w.heap.size)
    (hc1 : ∀ j, j < cell.length → w.cell? ⟨b1, o1 + j, none⟩ = some (.int .i64 (at0 cell j))) (hc2 : ∀ j, j < cell.length → w.cell? ⟨b2, o2 + j, none⟩ = some (.int .i64 (at0 rank j))) :
    Calls Tryz.prog 64 #[.slice (some ⟨b1, o1, none⟩) cell.length cap1, .slice (some ⟨b2, o2, none⟩) n2 cap2] w fun e w' => e = .returned (.map (some w.heap.size)) ∧ w.grownBy w' none ∧ ∃ es clock blk, Grp (O2 (w.heap.size + 1)) w' w.heap.size ((gsOf cell rank cell.length).map fun p => (p.1, finZ p.2)) es clock blk := by
  have hmm := @run_makeMap Tryz.prog
  obtain ⟨i0, hi, hz0, hz1, hz2⟩ := info_parts rk_info3
  go_enter Tryz.func64, Tryz.ntmps64
  go_wp2
  go_loopw [13] (fun i wr => ∃ k : Nat, k ≤ cell.length ∧ i = .int .i64 k ∧ ∃ es clock blk, Grp (O1 (w.heap.size + 1)) wr w.heap.size (gsOf cell rank k) es clock blk ∧ w.grownBy wr none ∧ w.heap.size + 1 ≤ wr.heap.size)
    (fun i _ => cell.length - (RowKit.intOf i).toNat)
  case atStart =>
    refine ⟨0, Nat.zero_le _, rfl, #[], 0, fun _ => 0, ?_, World.grownBy_alloc _ _ _, by simp⟩
    exact ⟨heap_alloc_new _ _, ⟨fun i j hi => by simp at hi, fun i hi => by simp at hi⟩, rfl, fun i hi => by simp [gsOf, keysOf] at hi, fun i hi => by simp [gsOf, keysOf] at hi, fun i j hi => by simp [gsOf, keysOf] at hi⟩
  case round =>
    obtain ⟨k, hk, rfl, es, clock, blk, hG, hgr, hsz⟩ := hrel
    have hcx1 : k < cell.length → wr.cell? ⟨b1, o1 + k, none⟩ = some (.int .i64 (at0 cell k)) := fun hlt => (cell_same (hgr.block b1 hb1 (by simp))).trans (hc1 k hlt)
    have hcx2 : k < cell.length → wr.cell? ⟨b2, o2 + k, none⟩ = some (.int .i64 (at0 rank k)) := fun hlt => (cell_same (hgr.block b2 hb2 (by simp))).trans (hc2 k hlt)
    obtain ⟨v, zs, tgt, hvm, hlook, hown, hcase, hback⟩ := hG.look1 (Nat.lt_succ_self _) (at0 cell k)
    have hmw : w.heap.size < wr.heap.size := by omega
    have hzl : zs.length ≤ k := by
      rcases hcase with ⟨i, hi1, -, rfl, -⟩ | ⟨-, rfl, -⟩
      · have : (gsOf cell rank k).getD i default ∈ gsOf cell rank k := by simp [List.getD, hi1]
        obtain ⟨c, -, hc⟩ := List.mem_map.1 this
        rw [← hc]; exact inC_len
      · simp
    have hvb : ∀ b, b < w.heap.size → some b ≠ v.ownBlock := fun b hb e => by have := (hown.lt b e.symm).1; omega
    have hik0 : (0 : Int) ≤ (k : Int) := Int.natCast_nonneg _
    have hik1 : k < cell.length → (k : Int) < (n2 : Int) := fun h => by omega
    have hbk : k < cell.length → ∀ w1 gg cap o, (wr.drew.alloc o).grownBy w1 v.ownBlock → w1.ownsRow (w.heap.size + 1) 3 1 (.slice (some ⟨gg, 0, none⟩) (zs.length + 1) cap) (zs.length + 1) (zs.map (Value.int .i64) ++ [.int .i64 (at0 rank k)]) → (v.ownBlock = some gg ∨ gg = wr.heap.size + 1) →
        ∃ w2 es' clock' blk', (Instr.mapUpdate 82 (.map (some w.heap.size)) (.int .i64 (at0 cell k)) (.slice (some ⟨gg, 0, none⟩) (zs.length + 1) cap)).run Tryz.prog w1 = .ok () w2 ∧ Grp (O1 (w.heap.size + 1)) w2 w.heap.size (gsOf cell rank (k + 1)) es' clock' blk' ∧ w.grownBy w2 none ∧ w.heap.size + 1 ≤ w2.heap.size := by
      intro hlt w1 gg cap o hgrow hown1 hat
      have h1 : wr.drew.grownBy w1 v.ownBlock := (World.grownBy_alloc wr.drew _ _).trans hgrow
      obtain ⟨w2, es', clock', blk', q1, q2, q3⟩ := hback w1 _ _ ⟨h1.os, h1.tape, h1.output, h1.size, h1.block⟩ hown1 (hat.elim (fun h => .inl h.symm) (fun h => .inr (.inr ⟨gg, rfl, by omega⟩)))
      have hs1 : wr.heap.size ≤ w1.heap.size := h1.size
      have hs2 := q3.size
      refine ⟨w2, es', clock', blk', q1, ?_, ⟨q3.os.trans (h1.os.trans hgr.os), q3.tape.trans (h1.tape.trans hgr.tape), q3.output.trans (h1.output.trans hgr.output), by omega, fun b hb _ => ?_⟩, by omega⟩
      · rcases hcase with ⟨i, hi1, hi2, rfl, rfl⟩ | ⟨hn1, rfl, rfl⟩
        · rw [gs_old hlt hi1 hi2]; exact q2
        · rw [gs_new hlt hn1]; exact q2
      · exact (q3.block b (by omega) (by simp; omega)).trans ((h1.block b (show b < wr.heap.size by omega) (hvb b hb)).trans (hgr.block b hb (by simp)))
    have hrange := run_range_map (P := Tryz.prog) wr 82 3 29 w.heap.size es clock Tryz.underlying82 hG.heap
    go_wp2_with fail
    · clear hrange
      have hlt : k < cell.length := by assumption
      have hik1 := hik1 hlt
      have hl0 : (Instr.lookup 82 (.map (some w.heap.size)) (.int .i64 (at0 cell k)) false).run Tryz.prog wr.drew = .ok v wr.drew := hlook _ rfl
      have hl1 : ∀ o, (Instr.lookup 82 (.map (some w.heap.size)) (.int .i64 (at0 cell k)) false).run Tryz.prog (wr.drew.alloc o) = .ok v (wr.drew.alloc o) := fun o => hlook _ (heap_alloc_old _ _ hmw)
      have hb2r : b2 < wr.heap.size := by omega
      have hl2 : ∀ o, (Instr.lookup 82 (.map (some w.heap.size)) (.int .i64 (at0 cell k)) false).run Tryz.prog (wr.alloc o).drew = .ok v (wr.alloc o).drew := fun o => hlook _ (heap_alloc_old _ _ hmw)
      have hc2k := hcx2 hlt
      go_region_law
        ((refine step_append_lies _ (by rfl) _ _ _ (by rfl) (w.heap.size + 1) 3 i0 _ 1 8 Tryz.underlying29 hi hz0 hz1 hz2 rfl (by omega) v zs.length (zs.map (Value.int .i64)) (by rfl) (hown.drew.alloc _)
            ⟨wr.heap.size, 0, none⟩ 1 1 [.int .i64 (at0 rank k)] (by rfl) (by rfl) (World.news_of_block (cs := #[.int .i64 (at0 rank k)]) (t := 3) (fr := (0, 0)) (heap_alloc_new _ _)) (by simp [Value.oneCell'])
            (by omega) (by unfold maxLen; omega) (by omega) (by simp; omega) (wr.heap.size + 1) (by simp) ?_; intro gg cap w1 hown1 hgrow hat hlt1; obtain ⟨w2, es', clock', blk', hup, hG2, hgr2, hsz2⟩ := hbk hlt w1 gg cap _ hgrow hown1 hat))
      all_goals
        clear hup hl0 hl1 hl2
        go_wp2
        go_roundw
        case rel =>
          exact ⟨k + 1, by omega, by go_num, es', clock', blk', hG2, hgr2, hsz2⟩
        case measure => simp [RowKit.intOf]; omega
    · have hke : k = cell.length := by omega
      subst hke
      have hz : ∀ j, j < (gsOf cell rank cell.length).length → ((gsOf cell rank cell.length).getD j default).2 ≠ [] ∧ ((gsOf cell rank cell.length).getD j default).2.length ≤ 536870912 := gs_ok hl
      have hk : ∀ i j, i < (gsOf cell rank cell.length).length → j < (gsOf cell rank cell.length).length → ((gsOf cell rank cell.length).getD i default).1 = ((gsOf cell rank cell.length).getD j default).1 → i = j := gs_keys
      have hM := Mid.start hG (fun j hj => (hz j hj).2) hgr (Nat.lt_succ_self _) hsz (Nat.le_refl _)
      generalize hborn : (fun j => (es.getD j default).born) = born at hM
      generalize hrr : wr.heap.size = r at hM
      clear hback hbk hlook hcase hrange hG
      rw [show decide (cell.length < cell.length) = false by simp]
      go_loopw [8] (fun _ wr2 => ∃ seen, Mid w w.heap.size (w.heap.size + 1) r clock (gsOf cell rank cell.length) born seen wr2) (fun _ wr2 => muOf r (gsOf cell rank cell.length).length born wr2)
      case atStart => exact ⟨#[], hM⟩
      case round =>
        obtain ⟨seen, hM2⟩ := hrel
        rcases hM2.round (T := T) 0 hT hk hz with ⟨hnext, hall⟩ | ⟨c, v, wn, hnext, hentry, hcalls⟩
        · go_wp2
          go_ret
          refine ⟨rfl, hM2.grown, ?_⟩
          obtain ⟨es2, blk2, h1, -⟩ := hM2.ex
          rw [gAt_all hall] at h1
          exact ⟨es2, _, blk2, h1⟩
        · go_wp2_with (first
            | (go_at_call 120; refine hcalls.mono ?_; rintro e w' ⟨rfl, hcomp⟩)
            | (go_at_call 121; refine hcomp.mono ?_; rintro e w'' ⟨v', rfl, wz, seen', hup, hMz, hlt⟩))
          go_roundw
          case rel => exact ⟨seen', hMz⟩
          case measure => rw [hMz.mu, hM2.mu]; exact hlt
end Go.Ab
namespace Go.Ab
open Go Go.Proofs Go.MapKept
set_option linter.unusedVariables false
set_option linter.unusedSimpArgs false
section
variable {α : Type} [Inhabited α] [DecidableEq α]
theorem dd_mem {d : Array α} {x : α} : ∀ {n : Nat}, x ∈ ddA d n ↔ ∃ i, i < n ∧ d[i]! = x
  | 0 => by simp [ddA]
  | n + 1 => by
    rw [ddA]
    constructor
    · intro h
      split at h
      · obtain ⟨i, h1, h2⟩ := dd_mem.1 h
        exact ⟨i, by omega, h2⟩
      · rcases List.mem_append.1 h with h | h
        · obtain ⟨i, h1, h2⟩ := dd_mem.1 h
          exact ⟨i, by omega, h2⟩
        · exact ⟨n, by omega, by simp at h; exact h.symm⟩
    · rintro ⟨i, h1, h2⟩
      split
      · rename_i hc
        by_cases e : i = n
        · subst e
          exact dd_mem.2 ⟨i - 1, by omega, by rw [← hc.2]; exact h2⟩
        · exact dd_mem.2 ⟨i, by omega, h2⟩
      · by_cases e : i = n
        · subst e; exact List.mem_append.2 (.inr (by simp [h2]))
        · exact List.mem_append.2 (.inl (dd_mem.2 ⟨i, by omega, h2⟩))
theorem dd_pair {lt : α → α → Bool} {d : Array α} (hs : ∀ i j, i < j → j < d.size → lt d[j]! d[i]! = false) (tri : ∀ x y, lt x y = false → lt y x = false → x = y) : ∀ {n : Nat}, n ≤ d.size → (ddA d n).Pairwise fun x y => lt x y = true
  | 0, _ => List.Pairwise.nil
  | n + 1, h => by
    rw [ddA]
    split
    · exact dd_pair hs tri (by omega)
    · rename_i hc
      refine List.pairwise_append.2 ⟨dd_pair hs tri (by omega), List.pairwise_singleton _ _, fun x hx y hy => ?_⟩
      obtain ⟨i, hi, rfl⟩ := dd_mem.1 hx
      have hy : y = d[n]! := by simpa using hy
      subst hy
      cases hb : lt d[i]! d[n]! with
      | true => rfl
      | false =>
        have e1 := tri _ _ hb (hs i n hi (by omega))
        refine absurd ⟨by omega, ?_⟩ hc
        by_cases e : i = n - 1
        · rw [← e]; exact e1.symm
        · refine (tri _ _ ?_ ?_)
          · exact hs (n - 1) n (by omega) (by omega)
          · rw [← e1]; exact hs i (n - 1) (by omega) (by omega)
theorem pair_ext {R : α → α → Prop} (irr : ∀ x, ¬R x x) (tr : ∀ x y z, R x y → R y z → R x z) : ∀ {l l' : List α}, l.Pairwise R → l'.Pairwise R → (∀ x, x ∈ l ↔ x ∈ l') → l = l'
  | [], [], _, _, _ => rfl
  | [], y :: l', _, _, h => by have := (h y).2 (by simp); cases this
  | x :: l, [], _, _, h => by have := (h x).1 (by simp); cases this
  | x :: l, y :: l', h1, h2, h => by
    obtain ⟨a1, a2⟩ := List.pairwise_cons.1 h1
    obtain ⟨b1, b2⟩ := List.pairwise_cons.1 h2
    have hxy : x = y := by
      rcases List.mem_cons.1 ((h x).1 (by simp)) with e | hx
      · exact e
      · rcases List.mem_cons.1 ((h y).2 (by simp)) with e | hy
        · exact e.symm
        · exact absurd (tr _ _ _ (a1 y hy) (b1 x hx)) (irr x)
    subst hxy
    rw [pair_ext irr tr a2 b2 fun z => ?_]
    constructor
    · intro hz
      rcases List.mem_cons.1 ((h z).1 (List.mem_cons_of_mem _ hz)) with rfl | h3
      · exact absurd (a1 z hz) (irr z)
      · exact h3
    · intro hz
      rcases List.mem_cons.1 ((h z).2 (List.mem_cons_of_mem _ hz)) with rfl | h3
      · exact absurd (b1 z hz) (irr z)
      · exact h3
end
theorem sort_mem {α : Type} [Inhabited α] {lt : α → α → Bool} (hS : Sort.SWO lt) (d : Array α) : (Sort.sort lt d).toList.Perm d.toList := by
  obtain ⟨⟨h1, -, h2⟩, -⟩ := Sort.sort_sorts lt hS d
  have e1 : (Sort.sort lt d).extract 0 d.size = Sort.sort lt d := by rw [← h1]; simp
  have e2 : d.extract 0 d.size = d := by simp
  rwa [e1, e2] at h2
theorem mem_get {α : Type} [Inhabited α] {d : Array α} {x : α} : x ∈ d.toList ↔ ∃ i, i < d.size ∧ d[i]! = x := by
  constructor
  · intro h
    obtain ⟨i, hi, rfl⟩ := List.getElem_of_mem h
    rw [Array.length_toList] at hi
    exact ⟨i, hi, by simp [hi]⟩
  · rintro ⟨i, hi, rfl⟩
    rw [show d[i]! = d.toList[i]'(by simpa using hi) by simp [hi]]
    exact List.getElem_mem _
theorem finZ_eq (zs : List Int) : finZ zs = sortD zs := by
  have hS := Sort.swo_ltInt
  obtain ⟨⟨h1, -, -⟩, h3⟩ := Sort.sort_sorts Sort.ltInt hS zs.toArray
  refine pair_ext (R := (· < ·)) (fun x => Int.lt_irrefl x) (fun x y z => Int.lt_trans) ?_ rising_sortD fun x => ?_
  · have := dd_pair (lt := Sort.ltInt) (d := Sort.sort Sort.ltInt zs.toArray) (fun i j hij hj => h3 i j (Nat.zero_le _) hij (by rw [← h1]; exact hj)) (fun x y a b => by simp only [Sort.ltInt, decide_eq_false_iff_not] at a b; omega) (Nat.le_refl _)
    exact this.imp fun h => by simpa [Sort.ltInt] using h
  · rw [mem_sortD, finZ, dd_mem, ← mem_get, (sort_mem hS zs.toArray).mem_iff]
end Go.Ab
namespace Go.Ab
open Go Go.Proofs
set_option linter.unusedSimpArgs false
set_option linter.unusedVariables false
set_option maxRecDepth 10000
set_option maxHeartbeats 4000000
variable {T:Nat→Obj→Prop}
theorem CallS.objsC {P:Program} {M:Nat→Option Ob} {n f:Nat} {vs lvs:List V} {obs:List Ob} {lv:V} {obs':List (Option Ob)} {K:V→Upd→Nat→Prop} (js fz:List Nat) (hf:Fn P T f lvs obs lv obs') (ha:VPasses M js fz 20 lvs vs)
  (ho:ObPasses M js fz obs js) (hnd:nodup js=true) (hdj:disj fz js=true) (hsj:subl js (valReach M vs)=true) (hsf:subl fz (valReach M vs)=true) (hle:js.length≤obs'.length) (hfl:V.flat 20 lv=true) (hfo:Obs.Flat obs')
  (hK:K (renV js n 20 lv) (callU js fz n obs' true) (obs'.length - js.length)):CallS (CallC P T) M n f vs K :=
 ⟨⟨_,_,_,⟨js,fz,true,lvs,obs,lv,obs',hf,ha,ho,hnd,hdj,hsj,hsf,hle,fun _=>⟨hfl,hfo⟩,rfl,rfl,rfl⟩,hK⟩⟩
section
variable {p:PM} (hc0:checkL p=0) {fs:Nat→Nat→BitVec 64} {a:Nat} (ha:a < p.cell.length)
include hc0 ha
theorem cmpK_neg {x y:Nat} (hx:x < p.W.toNat) (hy:y < p.W.toNat):cmpK p fs a x y < 0↔ltK (clA p a) (keyN p fs a) x y:=by
 have r1:=rk_lt hc0 ha hx
 have r2:=rk_lt hc0 ha hy
 unfold cmpK orI orI orI orI cmpI k0 ltK keyN
 by_cases h1:(fs a x).getLsbD x=true<;>by_cases h2:(fs a y).getLsbD y=true<;>simp only [h1,h2,if_true,if_false]<;>(repeat' split)<;>simp<;>omega
theorem cmpK_zero {x y:Nat} (hx:x < p.W.toNat) (hy:y < p.W.toNat):cmpK p fs a x y=0↔clA p a x=clA p a y∧keyN p fs a x=keyN p fs a y:=by
 have r1:=rk_lt hc0 ha hx
 have r2:=rk_lt hc0 ha hy
 unfold cmpK orI orI orI orI cmpI k0 keyN
 by_cases h1:(fs a x).getLsbD x=true<;>by_cases h2:(fs a y).getLsbD y=true<;>simp only [h1,h2,if_true,if_false]<;>(repeat' split)<;>simp<;>omega
abbrev cK (p:PM) (fs:Nat→Nat→BitVec 64) (a:Nat):Fin p.W.toNat→Fin p.W.toNat→Int:=fun x y=>cmpK p fs a x y
theorem swoK:Sort.SWO (ltC (cK p fs a)):=by
 have key : ∀ x y:Fin p.W.toNat,ltC (cK p fs a) x y=true↔ltK (clA p a) (keyN p fs a) x y:=fun x y=>by
  rw [ltC,decide_eq_true_eq];exact cmpK_neg hc0 ha x.2 y.2
 have keyf : ∀ x y:Fin p.W.toNat,ltC (cK p fs a) x y=false ↔ ¬ltK (clA p a) (keyN p fs a) x y:=fun x y=>by
  rw [← key,Bool.not_eq_true]
 refine ⟨fun x=>(keyf _ _).2 ?_,fun x y z h1 h2=>?_,fun x y z h1 h2=>?_⟩
 ·unfold ltK;omega
 ·rw [key] at h1 h2 ⊢;unfold ltK at *;omega
 ·rw [keyf] at h1 h2 ⊢;unfold ltK at *;omega
end
theorem cells_fin (n:Nat):(List.finRange n).map (eC fun x:Fin n=>((x:Nat):Int))=(List.range n).map fun (i:Nat)=>D.int .i64 (i:Int):=by
 refine List.ext_getElem (by simp) fun i h1 h2=>?_
 simp
theorem ordered_of {p:PM} (hc0:checkL p=0) {fs:Nat→Nat→BitVec 64} {a:Nat} (ha:a < p.cell.length) [Inhabited (Fin p.W.toNat)]:Ordered p.W.toNat (clA p a) (keyN p fs a) ((Sort.sort (ltC (cK p fs a)) (List.finRange p.W.toNat).toArray).toList.map Fin.val):=by
 have hS:=swoK hc0 ha (fs:=fs)
 have hp:=sort_mem hS (List.finRange p.W.toNat).toArray
 obtain ⟨⟨h1,-,-⟩,h3⟩:=Sort.sort_sorts _ hS (List.finRange p.W.toNat).toArray
 generalize Sort.sort (ltC (cK p fs a)) (List.finRange p.W.toNat).toArray=S at hp h1 h3
 have hl:S.toList.length=p.W.toNat:=by rw [hp.length_eq];simp
 have hget : ∀ (j v:Nat),(S.toList.map Fin.val)[j]? = some v → ∃ h:v < p.W.toNat,S.toList[j]? = some ⟨v,h⟩:=fun j v h=>by
  rw [List.getElem?_map,Option.map_eq_some_iff] at h
  obtain ⟨x,h1,rfl⟩:=h
  exact ⟨x.2,h1⟩
 refine ⟨by simpa using hl,fun v hv=>?_,fun j v h=>(hget j v h).1,fun i j v hi hj=>?_,fun i j x y hij hx hy=>?_⟩
 ·have:(⟨v,hv⟩:Fin p.W.toNat)∈S.toList:=hp.mem_iff.2 (by simp)
  obtain ⟨j,hj⟩:=List.getElem?_of_mem this
  exact ⟨j,by rw [List.getElem?_map,hj];rfl⟩
 ·obtain ⟨hv,e1⟩:=hget i v hi
  obtain ⟨_,e2⟩:=hget j v hj
  have hn:S.toList.Nodup:=hp.nodup_iff.2 (by simpa using List.nodup_finRange _)
  obtain ⟨i1,i2⟩:=List.getElem?_eq_some_iff.1 e1
  obtain ⟨j1,j2⟩:=List.getElem?_eq_some_iff.1 e2
  exact (List.getElem_inj hn).1 (i2.trans j2.symm)
 ·obtain ⟨hx',e1⟩:=hget i x hx
  obtain ⟨hy',e2⟩:=hget j y hy
  have j1:=(List.getElem?_eq_some_iff.1 e2).1
  have:=h3 i j (Nat.zero_le _) hij (by rw [← h1];simpa using j1)
  rw [(arr_eq e1).1,(arr_eq e2).1,ltC,decide_eq_false_iff_not] at this
  exact fun h=>this ((cmpK_neg hc0 ha hy' hx').2 h)
end Go.Ab
namespace Go.Ab
open Go Go.Proofs
set_option linter.unusedSimpArgs false
set_option linter.unusedVariables false
set_option maxRecDepth 10000
set_option maxHeartbeats 4000000
variable {T:Nat→Obj→Prop}
def cmp2 (r c:List (BitVec 64)) (w v:Nat):Bool:=rb r w v||rb c w v
def ConnP (r c:List (BitVec 64)):Prop:=HasP r 2∧HasP r 4 ∧ ∀ w,w < r.length → ∀ v,v < r.length→cmp2 r c w v=true → ∀ i,cmp2 r c w i=true→cmp2 r c v i=true
noncomputable def connB (r c:List (BitVec 64)):Bool := @decide (ConnP r c) (Classical.propDecidable _)
end Go.Ab
namespace Go.Ab
open Go Go.Proofs
set_option linter.unusedSimpArgs false
set_option linter.unusedVariables false
set_option maxRecDepth 10000
set_option maxHeartbeats 4000000
variable {T:Nat→Obj→Prop}
def ltU (x y:BitVec 64):Bool:=decide (x.toNat < y.toNat)
abbrev rowu64 (d:Array ((BitVec 64))):Ob := .row 1 (d.toList.map D.u64)
end Go.Ab
namespace Go.Ab
open Go Go.Proofs
set_option linter.unusedSimpArgs false
set_option linter.unusedVariables false
set_option maxRecDepth 10000
set_option maxHeartbeats 4000000
variable {T:Nat→Obj→Prop}
abbrev box1u64 (s:Nat):Ob := .box [.d (.int .i64 (s:Int))]
end Go.Ab
namespace Go.Ab
open Go Go.Proofs
set_option linter.unusedSimpArgs false
set_option linter.unusedVariables false
set_option maxRecDepth 10000
set_option maxHeartbeats 4000000
variable {T:Nat→Obj→Prop}
end Go.Ab
namespace Go.Ab
open Go Go.Proofs
set_option linter.unusedSimpArgs false
set_option linter.unusedVariables false
set_option maxRecDepth 10000
set_option maxHeartbeats 4000000
variable {T:Nat→Obj→Prop}
end Go.Ab
namespace Go.Ab
open Go Go.Proofs
set_option linter.unusedSimpArgs false
set_option linter.unusedVariables false
set_option maxRecDepth 10000
set_option maxHeartbeats 4000000
variable {T:Nat→Obj→Prop}
end Go.Ab
namespace Go.Ab
open Go Go.Proofs
set_option linter.unusedSimpArgs false
set_option linter.unusedVariables false
set_option maxRecDepth 10000
set_option maxHeartbeats 4000000
variable {T:Nat→Obj→Prop}
end Go.Ab
namespace Go.Ab
open Go Go.Proofs
set_option linter.unusedSimpArgs false
set_option linter.unusedVariables false
set_option maxRecDepth 10000
set_option maxHeartbeats 4000000
variable {T:Nat→Obj→Prop}
end Go.Ab
namespace Go.Ab
open Go Go.Proofs
set_option linter.unusedSimpArgs false
set_option linter.unusedVariables false
set_option maxRecDepth 10000
set_option maxHeartbeats 4000000
variable {T:Nat→Obj→Prop}
def finU (zs:List (BitVec 64)):List (BitVec 64):=ddA (Sort.sort ltU zs.toArray) (Sort.sort ltU zs.toArray).size
def uAt (r:List (BitVec 64)) (w:Nat):BitVec 64:=r.getD w 0
def relN (n:Int) (r:List (BitVec 64)):Int:=if n < 0∨64 < n then 2 else if (r.length:Int)≠n then 3 else if r.any (bad n) then 1 else 0
def cellR (r:List (BitVec 64)):List Int:=(List.range r.length).map fun w=>(Lib.ctz 64 (uAt r w|||uAt (revL r) w).toNat:Int)
def belowQ (r:List (BitVec 64)) (w n:Nat):List (BitVec 64):=((List.range n).filter fun v=>rb r w v && !rb r v w).map (uAt r)
def rankR (r:List (BitVec 64)):List Int:=(List.range r.length).map fun w=>((finU (belowQ r w r.length)).length:Int)
noncomputable def newL (W:Int) (val:List (BitVec 64)) (acc:List (List (BitVec 64))):PM×Int :=
 if shapeL W acc.length val≠0 then (⟨0,[],[],[]⟩,shapeL W acc.length val) else if acc.any (fun r=>decide (relN W r≠0)) then (⟨0,[],[],[]⟩,3) else
  if acc.any (fun r => !connB r (revL r)) then (⟨0,[],[],[]⟩,12) else (⟨W,val,acc.map cellR,acc.map rankR⟩,0)
abbrev dPI (x:PM×Int):D := .tup [dPM x.1,.int .i64 x.2]
theorem take_snoc {α:Type} {l:List α} {k:Nat} {x:α} (h:l[k]? = some x):l.take (k+1)=l.take k++[x]:=by rw [List.take_add_one,h];rfl
abbrev cD (r:List (BitVec 64)):D:=dI (cellR r)
abbrev rD (r:List (BitVec 64)):D:=dI (rankR r)
abbrev box0:Ob := .box [.d (.int .i64 0),.nils 1,.nils 1,.nils 1]
end Go.Ab
namespace Go.Ab
open Go Go.Proofs
set_option linter.unusedSimpArgs false
set_option linter.unusedVariables false
set_option maxRecDepth 10000
set_option maxHeartbeats 4000000
variable {T:Nat→Obj→Prop}
theorem fn_Clone_int (l:List Int) (hl:l.length≤34359738368):Fn Tryz.prog T f_slices_Clone_Lint_int_ [.d (dI l)] [] (.d (dI l)) []:=by
 refine fn_dataR hmix k_slices_Clone_Lint_int_ (by show 1≤8;decide) ?_
 (repeat' ((conv=>whnf);first|refine vA ?_|refine vB fun b hb=>?_|refine vE ?_|(refine vF ?_ ?_<;>intro hc)|(refine vP ?_ ?_;·(simp only [vM] at *;omega))|fail));all_goals try conv=>whnf
 ·rfl
 ·have:l=[]:=by simpa using hb (by simpa using hc)
  subst this;rfl
structure RkTo (W k:Nat) (den:Nat→Nat) (ws:List Nat) (xs:List Int):Prop where
 len:xs.length=W
 at_ : ∀ (j w:Nat),ws[j]? = some w→xs[w]? = some (if j < k then (den w:Int) else 0)
theorem RkTo.skip {W k:Nat} {den:Nat→Nat} {ws:List Nat} {xs:List Int} (h:RkTo W k den ws xs) {w:Nat} (hw:ws[k]? = some w) (hd:den w=0):RkTo W (k+1) den ws xs:=by
 refine ⟨h.len,fun j v hj=>?_⟩
 rw [h.at_ j v hj]
 by_cases e:j=k
 ·subst e;rw [hw] at hj;cases hj;rw [if_neg (by omega),if_pos (by omega),hd];rfl
 ·by_cases e2:j < k
  ·rw [if_pos e2,if_pos (by omega)]
  ·rw [if_neg e2,if_neg (by omega)]
theorem RkTo.set {W k:Nat} {den:Nat→Nat} {ws:List Nat} {xs:List Int} (h:RkTo W k den ws xs) {w:Nat} (hw:ws[k]? = some w) (inj : ∀ (i j v:Nat),ws[i]? = some v→ws[j]? = some v→i=j) (hlt:w < W) {r:Int} (hd:(den w:Int)=r):RkTo W (k+1) den ws (xs.set w r):=by
 refine ⟨by rw [List.length_set];exact h.len,fun j v hj=>?_⟩
 by_cases e:j=k
 ·subst e;rw [hw] at hj;cases hj
  rw [List.getElem?_set_self (by rw [h.len];exact hlt),if_pos (by omega),hd]
 ·have hne:w≠v:=fun hh=>e (inj j k v hj (hh▸hw))
  rw [List.getElem?_set_ne hne,h.at_ j v hj]
  by_cases e2:j < k
  ·rw [if_pos e2,if_pos (by omega)]
  ·rw [if_neg e2,if_neg (by omega)]
theorem RkTo.full {p:PM} {fs:Nat→Nat→BitVec 64} {a:Nat} {ws:List Nat} {xs:List Int} (ho:Ordered p.W.toNat (clA p a) (keyN p fs a) ws) (h:RkTo p.W.toNat p.W.toNat (dense p.W.toNat (2 * p.W.toNat) (clA p a) (keyN p fs a)) ws xs):xs=upR p fs a:=by
 refine List.ext_getElem? fun w=>?_
 by_cases hw:w < p.W.toNat
 ·obtain ⟨j,hj⟩:=ho.all w hw
  have hjl:=(List.getElem?_eq_some_iff.1 hj).1
  rw [h.at_ j w hj,if_pos (by rw [← ho.len];exact hjl)]
  simp [upR,hw]
 ·rw [List.getElem?_eq_none (by rw [h.len];omega),List.getElem?_eq_none (by simp [upR];omega)]
set_option maxHeartbeats 40000000
theorem fn_reorder (hR:RanksOk T) (p:PM) (hp:IntsOk p.rank) (f:List Nd) (gi:Nat) (gcs:List D) (fs:Nat→Nat→BitVec 64) (hgc:gcs.length≤10)
  (hF:checkL p=0 → ∀ a w:Nat,a < p.cell.length→w < p.W.toNat→Fn Tryz.prog T gi ([.d (.int .i64 (a:Int)),.d (.int .i64 (w:Int)),.d (.u64 (holdsL p f).1)]++gcs.map V.d) [] (.d (.u64 (fs a w))) []) :
  Fn Tryz.prog T f_upgrade_reorder [.d (dPM p),.d (dF f),.d (.fn gi gcs)] [] (.d (dPI (if (holdsL p f).2≠0 then (⟨0,[],[],[]⟩,(holdsL p f).2) else (upL p fs,0)))) []:=by
 refine fn_dataR hmix k_upgrade_reorder (by show 3≤140;decide) ?_
 by_cases he:(holdsL p f).2=0
 ·have hc0:=(holds_inv he).1
  have hF:=hF hc0
  have hgd:=checkL_good hc0
  have w1:=hgd.w1
  have w2:=hgd.w2
  have n4:=hgd.n4
  have v8:=hgd.v8
  have hcH:=fn_Holds (T:=T) hR p hp f
  rw [show dUE (holdsL p f) = .tup [.u64 (holdsL p f).1,.int .i64 0] by rw [dUE,he]] at hcH
  rw [if_neg (by omega)]
  (repeat' ((conv=>whnf);first|refine TestS.no (by decide) ?_|refine vA ?_|refine vJ fun hg=>?_|(refine vU ?_ ?_;·kernel_rfl)|refine yN hcH ⟨⟨rfl,rfl⟩,⟨rfl,rfl⟩,rfl⟩ ?_|refine yN (fn_Clone_u64 p.val (by omega)) ⟨⟨rfl,rfl⟩,rfl⟩ ?_));all_goals try conv=>whnf
  refine loop_mem (fun ((a,xs,ys):Nat×List D×List D)=>[(3,.ptr 0 0),(5,.ptr 1 0),(6,.ptr 2 0),(8,.ptr 3 0),(10,.ptr 4 0),(37,.d (.int .i64 ((p.cell.map dI).length:Int))),(38,.d (.int .i64 ((a:Int))))]) (fun ((a,xs,ys):Nat×List D×List D)=>[(0,some (boxPM p)),(1,some (.box [.d (.fn gi gcs)])),(2,some (.box [.d (.int .i64 0),.nils 1,.nils 1,.nils 1])),(3,some (.box [.d (.u64 (holdsL p f).1)])),(4,some (.box [.d (.int .i64 p.W),.d (dU p.val),.own 5,.own 6])),(5,some (.row 1 xs)),(6,some (.row 1 ys))]) 7 (fun ((a,xs,ys):Nat×List D×List D)=>a≤p.cell.length∧xs=(p.cell.take a).map dI∧ys=((List.range a).map (upR p fs)).map dI) (fun ((a,xs,ys):Nat×List D×List D)=>p.cell.length - a) ((0,[],[])) [(0,0),(1,1),(2,2),(3,3),(4,4)]   [5,6] (⟨by simp,rfl,rfl⟩) (by (refine ⟨rfl,rfl,rfl,?_,?_⟩;repeat' first|exact trivial|exact rfl|exact ⟨_,rfl⟩|refine And.intro ?_ ?_|refine ⟨_,rfl,?_⟩|decide)) ?_
  rintro ⟨a,xs,ys⟩ ⟨ha,hX,hY⟩
  by_cases hal:a < p.cell.length
  ·have hrow:=get_rowAt hal
   have hal':a < p.rank.length:=by rw [hgd.len];exact hal
   have hlens:=hgd.lens a hal
   haveI:Inhabited (Fin p.W.toNat):=⟨⟨0,by omega⟩⟩
   have hxl:xs.length≤4:=by rw [hX];simp;omega
   have hyl:ys.length≤4:=by rw [hY];simp;omega
   have hcK : ∀ x y:Fin p.W.toNat,Fn Tryz.prog T f_upgrade_reorder_2 [.d (.int .i64 (((x:Nat):Int))),.d (.int .i64 (((y:Nat):Int))),.d (yK p a gi gcs (holdsL p f).1),.d (bP p),.d (bI a)] [] (.d (.int .i64 (cK p fs a x y))) []:=fun x y=>fn_cmpK hgc hF hc0 a x y hal x.2 y.2
   have hO:=swoK hc0 hal (fs:=fs)
   have hord:=ordered_of hc0 hal (fs:=fs)
   (repeat' ((conv=>whnf);first|refine vA ?_|(refine vF ?_ ?_<;>intro hc<;>try simp only [vL] at hc)|refine vK fun hg=>?_|(refine vP ?_ ?_;·omega)|fail));all_goals try conv=>whnf
   all_goals try omega
   refine loop_mem (fun ((i,zs):Nat×List D)=>[(3,.ptr 0 0),(5,.ptr 1 0),(6,.ptr 2 0),(8,.ptr 3 0),(10,.ptr 4 0),(11,.ptr 7 0),(13,.fn f_upgrade_reorder_2 [.ptr 8 0,.ptr 0 0,.ptr 7 0]),(14,.own 9),(37,.d (.int .i64 ((p.cell.map dI).length:Int))),(38,.d (.int .i64 ((a:Int)))),(47,.d (.int .i64 (((List.replicate p.W.toNat (D.int .i64 0)).length:Nat):Int))),(48,.d (.int .i64 ((i:Int))))]) (fun ((i,zs):Nat×List D)=>[(0,some (boxPM p)),(1,some (.box [.d (.fn gi gcs)])),(2,some (.box [.d (.int .i64 0),.nils 1,.nils 1,.nils 1])),(3,some (.box [.d (.u64 (holdsL p f).1)])),(4,some (.box [.d (.int .i64 p.W),.d (dU p.val),.own 5,.own 6])),(5,some (.row 1 xs)),(6,some (.row 1 ys)),(7,some (.box [.d (.int .i64 (a:Int))])),(8,some (.box [.fn f_upgrade_reorder_1 [.ptr 0 0,.ptr 7 0,.ptr 1 0,.ptr 3 0]])),(9,some (.row 1 zs))]) 10 (fun ((i,zs):Nat×List D)=>i≤p.W.toNat∧zs.length=p.W.toNat ∧ ∀ j,j < i→zs[j]? = some (.int .i64 (j:Int))) (fun ((i,zs):Nat×List D)=>p.W.toNat - i) ((0,List.replicate p.W.toNat (D.int .i64 0))) [(0,0),(1,1),(2,2),(3,3),(4,4),(5,5),(6,6),(7,7),(8,8),(9,9)] [] (⟨by simp,by simp,by omega⟩) (by (refine ⟨rfl,rfl,rfl,?_,?_⟩;repeat' first|exact trivial|exact rfl|refine And.intro ?_ ?_|refine ⟨_,rfl,?_⟩|decide)) ?_
   rintro ⟨i,zs⟩ ⟨hi,hzl,hz⟩
   have hrl:((List.replicate p.W.toNat (D.int .i64 0)).length:Int)=p.W:=by rw [List.length_replicate];omega
   (repeat' ((conv=>whnf);first|refine vA ?_|(refine vF ?_ ?_<;>intro hc<;>try simp only [vL] at hc)|((first|refine vO ?_ ?_|refine vP ?_ ?_);·omega)|fail));all_goals try conv=>whnf
   ·refine ⟨(i+1,_),[(0,0),(1,1),(2,2),(3,3),(4,4),(5,5),(6,6),(7,7),(8,8),(9,9)],[],?_,?_,by (refine ⟨rfl,rfl,rfl,?_,?_⟩;repeat' first|exact trivial|exact rfl|refine And.intro ?_ ?_|refine ⟨_,rfl,?_⟩|decide)⟩
    ·refine ⟨by (omega),by rw [List.length_set];exact hzl,fun j hj=>?_⟩
     by_cases e:j=i
     ·subst e;exact List.getElem?_set_self (by omega)
     ·exact (List.getElem?_set_ne (by omega)).trans (hz j (by omega))
    ·((simp only [vM] at *;omega))
   ·have ei:i=p.W.toNat:=by omega
    subst ei
    have ezs:zs=(List.finRange p.W.toNat).map (eC fun x:Fin p.W.toNat=>((x:Nat):Int)):=by
     rw [cells_fin]
     refine List.ext_getElem? fun j=>?_
     by_cases hj:j < p.W.toNat
     ·rw [hz j hj];simp [hj]
     ·rw [List.getElem?_eq_none (by omega),List.getElem?_eq_none (by simp;omega)]
    have cS:=fn_Sort_cmp hcK hO (List.finRange p.W.toNat).toArray (by simp;omega)
    generalize Sort.sort (ltC (cK p fs a)) (List.finRange p.W.toNat).toArray=S at cS hord
    rw [show rowC (fun x:Fin p.W.toNat=>((x:Nat):Int)) (List.finRange p.W.toNat).toArray = .row 1 zs by rw [ezs],show rowC (fun x:Fin p.W.toNat=>((x:Nat):Int)) S = .row 1 ((S.toList.map Fin.val).map fun (w:Nat)=>D.int .i64 (w:Int)) by rw [List.map_map];rfl] at cS
    generalize S.toList.map Fin.val=ws at cS hord
    clear ezs hz
    have hwl:=hord.len
    refine CallS.objsC [9] [8,0,7,1,3] cS (by (repeat' first|exact rfl|refine And.intro ?_ ?_|refine ⟨_,rfl,?_⟩)) (by (repeat' first|exact rfl|refine And.intro ?_ ?_)) (by rfl) (by rfl) (by rfl) (by rfl) (by simp) (by rfl) ⟨fun x hx y hy=>by
     obtain ⟨z,-,rfl⟩:=List.mem_map.1 hx
     rw [show D.cells (D.int .i64 (z:Int))=[D.int .i64 (z:Int)] from rfl,List.mem_singleton] at hy
     subst hy;rfl,trivial⟩ ?_
    (repeat' ((conv=>whnf);first|refine vA ?_|refine vJ fun hg=>?_|(refine vP ?_ ?_;·omega)|fail));all_goals try conv=>whnf
    refine loop_mem (fun ((k,rs):Nat×List D)=>[(3,.ptr 0 0),(5,.ptr 1 0),(6,.ptr 2 0),(8,.ptr 3 0),(10,.ptr 4 0),(11,.ptr 7 0),(13,.fn f_upgrade_reorder_2 [.ptr 8 0,.ptr 0 0,.ptr 7 0]),(14,.own 9),(37,.d (.int .i64 ((p.cell.map dI).length:Int))),(38,.d (.int .i64 ((a:Int)))),(16,.own 10),(62,.own 9),(63,.d (.int .i64 (((ws.map fun (w:Nat)=>D.int .i64 (w:Int)).length:Nat):Int))),(64,.d (.int .i64 ((k:Int))))]) (fun ((k,rs):Nat×List D)=>[(0,some (boxPM p)),(1,some (.box [.d (.fn gi gcs)])),(2,some (.box [.d (.int .i64 0),.nils 1,.nils 1,.nils 1])),(3,some (.box [.d (.u64 (holdsL p f).1)])),(4,some (.box [.d (.int .i64 p.W),.d (dU p.val),.own 5,.own 6])),(5,some (.row 1 xs)),(6,some (.row 1 ys)),(7,some (.box [.d (.int .i64 (a:Int))])),(8,some (.box [.fn f_upgrade_reorder_1 [.ptr 0 0,.ptr 7 0,.ptr 1 0,.ptr 3 0]])),(9,some (.row 1 (ws.map fun (w:Nat)=>D.int .i64 (w:Int)))),(10,some (.row 1 rs))]) 11 (fun ((k,rs):Nat×List D)=>k≤p.W.toNat ∧ ∃ l:List Int,rs=l.map (D.int .i64)∧RkTo p.W.toNat k (dense p.W.toNat (2 * p.W.toNat) (clA p a) (keyN p fs a)) ws l) (fun ((k,rs):Nat×List D)=>p.W.toNat - k) ((0,List.replicate p.W.toNat (D.int .i64 0))) [(0,0),(1,1),(2,2),(3,3),(4,4),(5,5),(6,6),(7,7),(8,8),(9,9),(10,10)] [] (⟨by simp,List.replicate p.W.toNat 0,by simp,by simp,fun j w hj=>by rw [if_neg (by omega),List.getElem?_replicate,if_pos (hord.lt j w hj)]⟩) (by (refine ⟨rfl,rfl,rfl,?_,?_⟩;repeat' first|exact trivial|exact rfl|refine And.intro ?_ ?_|refine ⟨_,rfl,?_⟩|decide)) ?_
    rintro ⟨k,rs⟩ ⟨hk,l,rfl,hl⟩
    have hll:=hl.len
    by_cases hkW:k < p.W.toNat
    ·obtain ⟨w,hw⟩ : ∃ w,ws[k]? = some w:=⟨_,List.getElem?_eq_getElem (by omega)⟩
     have hwW:=hord.lt k w hw
     by_cases hk0:k=0
     ·subst hk0
      (repeat' ((conv=>whnf);first|refine TestS.decY (by omega) ?_|refine vA ?_|(refine vF ?_ ?_<;>intro hc<;>try simp only [vL] at hc)|refine vN ‹_› ?_|((first|refine vO ?_ ?_|refine vP ?_ ?_);·first|omega|(simp only [vM] at *;omega))|(refine vU ?_ ?_;·kernel_rfl)|fail));all_goals try conv=>whnf
      all_goals try omega
      refine ⟨(1,_),[(0,0),(1,1),(2,2),(3,3),(4,4),(5,5),(6,6),(7,7),(8,8),(9,9),(10,10)],[],?_,?_,by (refine ⟨rfl,rfl,rfl,?_,?_⟩;repeat' first|exact trivial|exact rfl|refine And.intro ?_ ?_|refine ⟨_,rfl,?_⟩|decide)⟩
      ·exact ⟨by (omega),l,rfl,hl.skip hw (hord.first hw)⟩
      ·((simp only [vM] at *;omega))
     ·obtain ⟨x,hx⟩ : ∃ x,ws[k - 1]? = some x:=⟨_,List.getElem?_eq_getElem (by omega)⟩
      have hxW:=hord.lt (k - 1) x hx
      have hxi:ws[((k:Int) - 1).toNat]? = some x:=by rw [show ((k:Int) - 1).toNat=k - 1 by omega];exact hx
      have hw':ws[k - 1+1]? = some w:=by rw [show k - 1+1=k by omega];exact hw
      obtain ⟨z1,e1⟩ : ∃ z,(rowAt p.cell a)[x]? = some z:=⟨_,List.getElem?_eq_getElem (by omega)⟩
      obtain ⟨z2,e2⟩ : ∃ z,(rowAt p.cell a)[w]? = some z:=⟨_,List.getElem?_eq_getElem (by omega)⟩
      have f1:clA p a x=z1:=at0_of e1
      have f2:clA p a w=z2:=at0_of e2
      have cx:=fn_cmpK hgc hF hc0 a x w hal hxW hwW
      have hlx:=hl.at_ (k - 1) x hx
      rw [if_pos (by omega)] at hlx
      have hkr:=keyN_range hc0 hal (fs:=fs) x hxW
      have hdb:dense p.W.toNat (2 * p.W.toNat) (clA p a) (keyN p fs a) x≤2 * p.W.toNat:=dense_bound
      have hcz:=cmpK_zero hc0 hal (fs:=fs) hxW hwW
      (repeat' ((conv=>whnf);first|refine TestS.decN (by omega) ?_|refine vA ?_|((first|refine vD ?_ ?_|refine vF ?_ ?_)<;>intro hc<;>try simp only [vL] at hc)|refine vN ‹_› ?_|((first|refine vO ?_ ?_|refine vP ?_ ?_);·first|omega|(simp only [vM] at *;omega))|(refine vU ?_ ?_;·kernel_rfl)|refine yD cx (by (repeat refine ⟨⟨rfl,rfl⟩,?_⟩);rfl) rfl ?_));all_goals try conv=>whnf
      all_goals try omega
      ·refine ⟨(k+1,_),[(0,0),(1,1),(2,2),(3,3),(4,4),(5,5),(6,6),(7,7),(8,8),(9,9),(10,10)],[],?_,?_,by (refine ⟨rfl,rfl,rfl,?_,?_⟩;repeat' first|exact trivial|exact rfl|refine And.intro ?_ ?_|refine ⟨_,rfl,?_⟩|decide)⟩
       ·exact ⟨by (omega),l,rfl,hl.skip hw (hord.other hx hw' (by rw [f1,f2];assumption))⟩
       ·((simp only [vM] at *;omega))
      ·have hnz:=‹cmpK p fs a x w≠0›
       have hcl:clA p a x=clA p a w:=by rw [f1,f2];assumption
       have hdw:=hord.next hx hw' hcl (fun h=>hnz (hcz.2 ⟨hcl,h⟩)) hkr.1 hkr.2
       refine ⟨_,⟨Int.natCast_nonneg _,List.getElem?_set_self (by rw [List.length_map];omega)⟩,?_⟩
       (repeat' ((conv=>whnf);first|((first|refine vO ?_ ?_|refine vP ?_ ?_);·first|omega|(simp only [vM] at *;omega))|fail));all_goals try conv=>whnf
       refine ⟨(k+1,_),[(0,0),(1,1),(2,2),(3,3),(4,4),(5,5),(6,6),(7,7),(8,8),(9,9),(10,10)],[],?_,?_,by (refine ⟨rfl,rfl,rfl,?_,?_⟩;repeat' first|exact trivial|exact rfl|refine And.intro ?_ ?_|refine ⟨_,rfl,?_⟩|decide)⟩
       ·exact ⟨by (omega),l.set w ((dense p.W.toNat (2 * p.W.toNat) (clA p a) (keyN p fs a) x:Int)+1),by rw [List.map_set];exact List.set_set _,hl.set hw hord.inj hwW (by rw [hdw];omega)⟩
       ·((simp only [vM] at *;omega))
      ·have hz:=hcz.1 ‹cmpK p fs a x w=0›
       refine ⟨(k+1,_),[(0,0),(1,1),(2,2),(3,3),(4,4),(5,5),(6,6),(7,7),(8,8),(9,9),(10,10)],[],?_,?_,by (refine ⟨rfl,rfl,rfl,?_,?_⟩;repeat' first|exact trivial|exact rfl|refine And.intro ?_ ?_|refine ⟨_,rfl,?_⟩|decide)⟩
       ·exact ⟨by (omega),l.set w (dense p.W.toNat (2 * p.W.toNat) (clA p a) (keyN p fs a) x:Int),by rw [List.map_set];rfl,hl.set hw hord.inj hwW (by rw [hord.same hz.1 hz.2])⟩
       ·((simp only [vM] at *;omega))
    ·have ek:k=p.W.toNat:=by omega
     subst ek
     have efull:=RkTo.full hord hl
     (repeat' ((conv=>whnf);first|refine TestS.decN (by omega) ?_|refine vA ?_|(refine vF ?_ ?_<;>intro hc<;>try simp only [vL] at hc)|refine vT ?_|refine vN ‹_› ?_|(refine vQ ?_ fun x hx=>?_;·omega)|((first|refine vO ?_ ?_|refine vP ?_ ?_);·first|omega|(simp only [vM] at *;omega))|(refine vU ?_ ?_;·kernel_rfl)|refine yN (fn_Clone_int _ (by omega)) ⟨⟨rfl,rfl⟩,rfl⟩ ?_));all_goals try conv=>whnf
     all_goals try omega
     refine ⟨(a+1,_,_),[(0,0),(1,1),(2,2),(3,3),(4,4),(5,12),(6,14)],[],?_,?_,by (refine ⟨rfl,rfl,rfl,?_,?_⟩;repeat' first|exact trivial|exact rfl|refine And.intro ?_ ?_|refine ⟨_,rfl,?_⟩|decide)⟩
     ·exact ⟨by (omega),by rw [List.take_add_one,List.map_append,hX,hrow];rfl,by rw [List.range_succ,List.map_append,List.map_append,hY,efull];rfl⟩
     ·((simp only [vM] at *;omega))
  ·(repeat' ((conv=>whnf);first|refine vA ?_|(refine vF ?_ ?_<;>intro hc<;>try simp only [vL] at hc)|refine vK fun hg=>?_|(refine vP ?_ ?_;·omega)|fail));all_goals try conv=>whnf
   all_goals try omega
   have ea:a=p.cell.length:=by omega
   subst ea
   rw [hX,hY,List.take_length];rfl
 ·(repeat' ((conv=>whnf);first|refine vA ?_|(refine vD ?_ ?_<;>intro hc)|refine yN (fn_Holds hR p hp f) ⟨⟨rfl,rfl⟩,⟨rfl,rfl⟩,rfl⟩ ?_));all_goals try conv=>whnf
  ·rw [if_pos he];rfl
  all_goals exact absurd ‹(holdsL p f).2=0› he
end Go.Ab
namespace Go.Ab
open Go Go.Proofs
set_option linter.unusedSimpArgs false
set_option linter.unusedVariables false
set_option maxRecDepth 10000
set_option maxHeartbeats 4000000
variable {T:Nat→Obj→Prop}
abbrev obs3 (p:PM) (a v:Int):List Ob:=[boxPM p,.box [.d (.int .i64 a)],.box [.d (.int .i64 v)]]
abbrev obs3' (p:PM) (a v:Int):List (Option Ob):=[some (boxPM p),some (.box [.d (.int .i64 a)]),some (.box [.d (.int .i64 v)])]
theorem fn_Restrict_1 (p:PM) (a:Nat) (x:Int) (v:Nat) (ha:a < p.cell.length) (h0:0≤x) (hx:x < (rowAt p.cell a).length) (hv:v < (rowAt p.cell a).length) :
  Fn Tryz.prog T f_plaus_Restrict_1 [.d (.int .i64 x),.ptr 0 0,.ptr 1 0,.ptr 2 0] (obs3 p a v) (.d (.bool (decide (at0 (rowAt p.cell a) x.toNat=at0 (rowAt p.cell a) v)))) (obs3' p a v):=by
 generalize hV:decide (at0 (rowAt p.cell a) x.toNat=at0 (rowAt p.cell a) v)=V
 refine fn_introR hmix k_plaus_Restrict_1 (by show 4≤23;decide) _ (fun e env mem n h=>h) ?_
 (repeat' ((conv=>whnf);first|refine vA ?_|(refine vQ ?_ fun x hx=>?_;·omega)|(refine vS ?_ fun x hx=>?_;·omega)|fail));all_goals try conv=>whnf
 have e:=rowAt_of ‹p.cell[a]? = some _›
 subst e
 (repeat' ((conv=>whnf);first|refine vN ‹_› ?_|(refine vQ ?_ fun x hx=>?_;·omega)|(refine vS ?_ fun x hx=>?_;·omega)|(refine vU ?_ ?_;·kernel_rfl)|fail));all_goals try conv=>whnf
 rename_i y hy
 rw [at0_of hy,at0_of hx] at hV
 subst hV
 refine ⟨trivial,_,[(0,0),(1,1),(2,2)],[],rfl,.inl (by (repeat' exact .inl rfl)),⟨by rfl,by rfl,by rfl,trivial,by (repeat' first|exact trivial|exact rfl|refine And.intro ?_ ?_|refine ⟨_,rfl,?_⟩|exact of_decide_eq_true rfl)⟩,by (repeat' first|exact trivial|exact rfl|refine And.intro ?_ ?_|refine ⟨_,rfl,?_⟩)⟩
theorem fn_IndexFunc (p:PM) (a:Nat) (v:Nat) (xs:List Int) (ha:a < p.cell.length) (hv:v < (rowAt p.cell a).length) (hxs : ∀ x∈xs,0≤x∧x < (rowAt p.cell a).length) :
  Fn Tryz.prog T f_slices_IndexFunc_Lint_int_ [.own 3,.fn f_plaus_Restrict_1 [.ptr 0 0,.ptr 1 0,.ptr 2 0]] (obs3 p a v++[.row 1 (xs.map (D.int .i64))])
   (.d (.int .i64 (findL (fun x:Int=>decide (at0 (rowAt p.cell a) x.toNat=at0 (rowAt p.cell a) v)) xs))) (obs3' p a v++[some (.row 1 (xs.map (D.int .i64)))]):=by
 generalize hV:findL (fun x:Int=>decide (at0 (rowAt p.cell a) x.toNat=at0 (rowAt p.cell a) v)) xs=V
 refine fn_introR hmix k_slices_IndexFunc_Lint_int_ (by show 2≤19;decide) _ (fun e env mem n h=>h) ?_
 (repeat' ((conv=>whnf);first|refine vA ?_|refine vJ fun hg=>?_));all_goals try conv=>whnf
 refine loop_mem (fun (k:Nat)=>[(0,.own 3),(1,.fn f_plaus_Restrict_1 [.ptr 0 0,.ptr 1 0,.ptr 2 0]),(7,.d (.int .i64 ((xs.map (D.int .i64)).length:Int))),(8,.d (.int .i64 ((k:Int)))),(ghostAt,.ptr 0 0),(ghostAt+1,.ptr 1 0),(ghostAt+2,.ptr 2 0),(ghostAt+3,.own 3)]) (fun (k:Nat)=>[(0,some (boxPM p)),(1,some (.box [.d (.int .i64 a)])),(2,some (.box [.d (.int .i64 v)])),(3,some (.row 1 (xs.map (D.int .i64))))]) 4 (fun (k:Nat)=>k≤xs.length ∧ ∀ i y,i < k→xs[i]? = some y→decide (at0 (rowAt p.cell a) y.toNat=at0 (rowAt p.cell a) v)=false) (fun (k:Nat)=>xs.length - k) (0) [(0,0),(1,1),(2,2),(3,3)] [] (⟨by simp,by simp⟩) (by (refine ⟨rfl,rfl,rfl,?_,?_⟩;repeat' first|exact trivial|exact rfl|refine And.intro ?_ ?_|refine ⟨_,rfl,?_⟩|decide)) ?_
 rintro k ⟨hk,hI⟩
 (repeat' ((conv=>whnf);first|refine vA ?_|(refine vF ?_ ?_<;>intro hc<;>try simp only [vL] at hc)|(refine vQ ?_ fun x hx=>?_;·omega)|(refine vP ?_ ?_;·(simp only [vM] at *;omega))|fail));all_goals try conv=>whnf
 ·obtain ⟨q1,q2⟩:=hxs _ (List.mem_of_getElem? hx)
  refine CallS.objs [0,1,2] (fn_Restrict_1 p a x v ha q1 q2 hv) (by (repeat' first|exact rfl|refine And.intro ?_ ?_|refine ⟨_,rfl,?_⟩)) (by (repeat' first|exact rfl|refine And.intro ?_ ?_|refine ⟨_,rfl,?_⟩)) (by rfl) (by rfl) (by simp) ?_
  (repeat' ((conv=>whnf);first|(refine vF ?_ ?_<;>intro hc)|(refine vO ?_ ?_;·omega)|fail));all_goals try conv=>whnf
  ·obtain rfl:V=(k:Int):=by rw [← hV];exact findL_hit hx (decide_eq_true hc) hI
   refine ⟨trivial,_,[(0,0),(1,1),(2,2),(3,3)],[],rfl,.inl (by (repeat' exact rfl)),⟨by rfl,by rfl,by rfl,trivial,by (repeat' first|exact trivial|exact rfl|refine And.intro ?_ ?_|refine ⟨_,rfl,?_⟩|exact of_decide_eq_true rfl)⟩,by (repeat' first|exact trivial|exact rfl|refine And.intro ?_ ?_|refine ⟨_,rfl,?_⟩)⟩
  ·have hne:=decide_eq_false hc
   refine ⟨k+1,[(0,0),(1,1),(2,2),(3,3)],[],?_,?_,by (refine ⟨rfl,rfl,rfl,?_,?_⟩;repeat' first|exact trivial|exact rfl|refine And.intro ?_ ?_|refine ⟨_,rfl,?_⟩|decide)⟩
   ·exact ⟨by (omega),fun i y hi hy=>by
     by_cases e:i=k
     ·subst e;rw [show xs[i]? = some x from hx] at hy;cases hy;exact hne
     ·exact hI i y (by omega) hy⟩
   ·(omega)
 ·obtain rfl:V = -1:=by rw [← hV];exact findL_none fun i y hi hy=>hI i y (by omega) hy
  refine ⟨trivial,_,[(0,0),(1,1),(2,2),(3,3)],[],rfl,.inl (by (repeat' exact rfl)),⟨by rfl,by rfl,by rfl,trivial,by (repeat' first|exact trivial|exact rfl|refine And.intro ?_ ?_|refine ⟨_,rfl,?_⟩|exact of_decide_eq_true rfl)⟩,by (repeat' first|exact trivial|exact rfl|refine And.intro ?_ ?_|refine ⟨_,rfl,?_⟩)⟩
end Go.Ab
namespace Go.Ab
open Go Go.Proofs
set_option linter.unusedSimpArgs false
set_option linter.unusedVariables false
set_option maxRecDepth 10000
set_option maxHeartbeats 4000000
variable {T:Nat→Obj→Prop}
def wsL (s:BitVec 64) (n:Nat):List Int:=((List.range n).filter fun i=>s.getLsbD i).map fun i:Nat=>(i:Int)
def packN (v:BitVec 64) (ws:List Int):Nat→BitVec 64
 | 0=>0
 | n+1=>packN v ws n|||(((v >>> (at0 ws n).toNat)&&&1#64) <<< n)
def cell2 (p:PM) (ws:List Int) (a:Nat):List Int:=ws.map fun v=>findL (fun x:Int=>decide (at0 (rowAt p.cell a) x.toNat=at0 (rowAt p.cell a) v.toNat)) ws
def rank2 (p:PM) (ws:List Int) (a:Nat):List Int:=ws.map fun v=>at0 (rowAt p.rank a) v.toNat
def rank3 (p:PM) (ws:List Int) (a:Nat):List Int:=(List.range ws.length).map fun j=>findL (fun y=>at0 (rank2 p ws a) j==y) (ranksOf (cell2 p ws a) (rank2 p ws a) (at0 (cell2 p ws a) j))
def restPM (p:PM) (ws:List Int):PM:=⟨ws.length,p.val.map fun v=>packN v ws ws.length,(List.range p.cell.length).map (cell2 p ws),(List.range p.cell.length).map (rank3 p ws)⟩
def restL (p:PM) (s:BitVec 64):PM×List Int×Int :=
 if checkL p≠0 then (⟨0,[],[],[]⟩,[],checkL p) else if s &&& ~~~(allL p.W)≠0 then (⟨0,[],[],[]⟩,[],2) else if s=0 then (⟨0,[],[],[]⟩,[],6) else (restPM p (wsL s p.W.toNat),wsL s p.W.toNat,0)
abbrev dPLI (x:PM×List Int×Int):D := .tup [dPM x.1,dI x.2.1,.int .i64 x.2.2]
theorem wsL_succ {s:BitVec 64} {n:Nat} : wsL s (n+1)=wsL s n++(if s.getLsbD n=true then [(n:Int)] else []):=by
 unfold wsL
 rw [List.range_succ,List.filter_append,List.map_append]
 congr 1
 by_cases h:s.getLsbD n=true
 ·rw [if_pos h,List.filter_cons,if_pos h];rfl
 ·rw [if_neg h,List.filter_cons,if_neg h];rfl
theorem wsL_len {s:BitVec 64} {n:Nat} : (wsL s n).length≤n:=by
 unfold wsL
 rw [List.length_map]
 have:=List.length_filter_le (fun i=>s.getLsbD i) (List.range n)
 rwa [List.length_range] at this
theorem wsL_mem {s:BitVec 64} {n:Nat} {x:Int} (h:x∈wsL s n):0≤x∧x < n:=by
 obtain ⟨i,hi,rfl⟩:=List.mem_map.1 h
 have:=List.mem_range.1 (List.mem_filter.1 hi).1
 omega
theorem at0_map {l:List Int} {f:Int→Int} {j:Nat} {x:Int} (h:l[j]? = some x):at0 (l.map f) j=f x:=at0_of (by rw [List.getElem?_map,h];rfl)
theorem full_map {l:List Int} {n:Nat} (h:l.length=n):(List.range n).map (fun u=>D.int .i64 (if u < n then at0 l u else 0))=l.map (D.int .i64):=by
 subst h
 refine List.ext_getElem (by simp) fun i h1 h2=>?_
 have hi:i < l.length:=by simpa using h2
 simp [hi,at0,List.getD]
theorem rest_map {l l':List Int} {n:Nat} (h:l.length=n):(List.range n).map (fun u=>D.int .i64 (if u < 0 then at0 l' u else at0 l u))=l.map (D.int .i64):=by
 subst h
 refine List.ext_getElem (by simp) fun i h1 h2=>?_
 have hi:i < l.length:=by simpa using h2
 simp [hi,at0,List.getD]
theorem find_ranks {cell rank:List Int} {c:Int} : ∀ {ks:List Int},c∈ks→findD (ks.map fun c=>(D.int .i64 c,dI (ranksOf cell rank c))) (.int .i64 c)=some (some (dI (ranksOf cell rank c)))
 | [],h=>by cases h
 | k::ks,h=>by
  rw [List.map_cons,findD]
  by_cases e:c=k
  ·subst e
   simp [D.eqk,D.same]
  ·have:c∈ks:=by
    rcases List.mem_cons.1 h with h|h
    ·exact absurd h e
    ·exact h
   simp [D.eqk,D.same,e,find_ranks this]
theorem rank3_at {p:PM} {ws:List Int} {a j:Nat} (h:j < ws.length):at0 (rank3 p ws a) j=findL (fun y=>at0 (rank2 p ws a) j==y) (ranksOf (cell2 p ws a) (rank2 p ws a) (at0 (cell2 p ws a) j)):=by
 simp [rank3,at0,List.getD,h]
theorem full_map2 {l l':List Int} {n:Nat} (h:l.length=n):(List.range n).map (fun u=>D.int .i64 (if u < n then at0 l u else at0 l' u))=l.map (D.int .i64):=by
 subst h
 refine List.ext_getElem (by simp) fun i h1 h2=>?_
 have hi:i < l.length:=by simpa using h2
 simp [hi,at0,List.getD]
def RanksOwn (T:Nat→Obj→Prop):Prop := ∀ cell rank:List Int,cell.length≤rank.length→rank.length≤64 →
 Fn Tryz.prog T f_plaus_ranks [.own 0,.own 1] [.row 1 (cell.map (D.int .i64)),.row 1 (rank.map (D.int .i64))] (.d (.map (ranksD cell rank))) [some (.row 1 (cell.map (D.int .i64))),some (.row 1 (rank.map (D.int .i64)))]
set_option maxHeartbeats 2000000 in
theorem fn_Restrict (hR:RanksOk T) (hRO:RanksOwn T) (p:PM) (hp:IntsOk p.rank) (s:BitVec 64):Fn Tryz.prog T f_plaus_Restrict [.d (dPM p),.d (.u64 s)] [] (.d (dPLI (restL p s))) []:=by
 refine fn_dataR hmix k_plaus_Restrict (by show 2≤162;decide) ?_
 (repeat' ((conv=>whnf);first|refine vA ?_|(refine vD ?_ ?_<;>intro hc)|refine yD (fn_plaus_Check hR _ hp) ⟨⟨rfl,rfl⟩,rfl⟩ rfl ?_));all_goals try conv=>whnf
 ·rw [restL,if_pos hc];rfl
 have hck:=‹checkL p=0›
 have hg':=checkL_good hck
 have hw1:=hg'.w1
 have hw2:=hg'.w2
 have hv8:=hg'.v8
 have hn4:=hg'.n4
 (repeat' ((conv=>whnf);first|refine vA ?_|((first|refine vD ?_ ?_|refine vF ?_ ?_)<;>intro hc)|refine yD (fn_plaus_all p.W (by omega)) ⟨⟨rfl,rfl⟩,rfl⟩ rfl ?_));all_goals try conv=>whnf
 ·rw [restL,if_neg (not_not_intro hck),if_pos ‹s &&& ~~~allL p.W≠(0:BitVec 64)›];rfl
 ·rw [restL,if_neg (not_not_intro hck),if_neg (not_not_intro ‹s &&& ~~~allL p.W=(0:BitVec 64)›),if_pos ‹s=0›];rfl
 have hs1:=‹s &&& ~~~allL p.W=(0:BitVec 64)›
 have hs2:=‹¬s=0›
 refine loop_mem (fun ((i,zs):Nat×List D)=>[(1,.d (.u64 (s))),(2,.ptr 0 0),(4,.ptr 1 0),(8,.own 2),(40,.d (.int .i64 (p.W))),(41,.d (.int .i64 ((i:Int))))]) (fun ((i,zs):Nat×List D)=>[(0,some (boxPM p)),(1,some box0),(2,some (.row 1 zs))]) 3 (fun ((i,zs):Nat×List D)=>i≤p.W.toNat∧zs=(wsL s i).map (D.int .i64)) (fun ((i,zs):Nat×List D)=>p.W.toNat - i) ((0,[])) [(0,0),(1,1)]   [2] (⟨by simp,rfl⟩) (by (refine ⟨rfl,rfl,rfl,?_,?_⟩;repeat' first|exact trivial|exact rfl|exact ⟨_,rfl⟩|refine And.intro ?_ ?_|refine ⟨_,rfl,?_⟩|decide)) ?_
 rintro ⟨i,_⟩ ⟨hi,rfl⟩
 (repeat' ((conv=>whnf);first|refine vA ?_|(refine vF ?_ ?_<;>intro hc<;>try simp only [vL] at hc)|refine vJ fun hg=>?_|((first|refine vO ?_ ?_|refine vP ?_ ?_);·omega)|fail));all_goals try conv=>whnf
 ·have hwl:=wsL_len (s:=s) (n:=i)
  refine NeedS.mk (by simp only [List.length_map,mostLen,List.length_set,List.length_replicate];omega) ?_
  (repeat' ((conv=>whnf);first|(refine vO ?_ ?_;·omega)|fail));all_goals try conv=>whnf
  refine ⟨(i+1,_),[(0,0),(1,1),(2,4)],[],?_,?_,by (refine ⟨rfl,rfl,rfl,?_,?_⟩;repeat' first|exact trivial|exact rfl|refine And.intro ?_ ?_|refine ⟨_,rfl,?_⟩|decide)⟩
  ·refine ⟨by (omega),?_⟩
   rw [wsL_succ,if_pos ((bit_one s i).1 ‹s >>> ((i:Nat):Int).toNat&&&1#64=1#64›),List.map_append];rfl
  ·((simp only [vM] at *;omega))
 ·refine ⟨(i+1,_),[(0,0),(1,1),(2,2)],[],?_,?_,by (refine ⟨rfl,rfl,rfl,?_,?_⟩;repeat' first|exact trivial|exact rfl|refine And.intro ?_ ?_|refine ⟨_,rfl,?_⟩|decide)⟩
  ·refine ⟨by (omega),?_⟩
   rw [wsL_succ,if_neg (mt (bit_one s i).2 ‹¬s >>> ((i:Nat):Int).toNat&&&1#64=1#64›),List.append_nil]
  ·((simp only [vM] at *;omega))
 obtain rfl:i=p.W.toNat:=by omega
 rw [show restL p s=(restPM p (wsL s p.W.toNat),wsL s p.W.toNat,0) by rw [restL,if_neg (not_not_intro hck),if_neg (not_not_intro hs1),if_neg hs2]]
 have hwl:=wsL_len (s:=s) (n:=p.W.toNat)
 have hwm : ∀ x∈wsL s p.W.toNat,0≤x∧x < p.W:=fun x hx=>by have:=wsL_mem hx;omega
 generalize wsL s p.W.toNat=ws at hwl hwm
 refine loop_mem (fun ((k,zs):Nat×List D)=>[(2,.ptr 0 0),(4,.ptr 1 0),(8,.own 2),(10,.ptr 3 0),(58,.d (dU p.val)),(59,.d (.int .i64 ((p.val.map D.u64).length:Int))),(60,.d (.int .i64 ((k:Int))))]) (fun ((k,zs):Nat×List D)=>[(0,some (boxPM p)),(1,some box0),(2,some (.row 1 (ws.map (D.int .i64)))),(3,some (.box [.d (.int .i64 ((ws.map (D.int .i64)).length:Int)),.own 4,.nils 1,.nils 1])),(4,some (.row 1 zs))]) 5 (fun ((k,zs):Nat×List D)=>k≤p.val.length∧zs=(p.val.take k).map fun v=>D.u64 (packN v ws ws.length)) (fun ((k,zs):Nat×List D)=>p.val.length - k) ((0,[])) [(0,0),(1,1),(2,2),(3,3)]   [4] (⟨by simp,rfl⟩) (by (refine ⟨rfl,rfl,rfl,?_,?_⟩;repeat' first|exact trivial|exact rfl|exact ⟨_,rfl⟩|refine And.intro ?_ ?_|refine ⟨_,rfl,?_⟩|decide)) ?_
 rintro ⟨k,_⟩ ⟨hk,rfl⟩
 (repeat' ((conv=>whnf);first|refine vA ?_|(refine vF ?_ ?_<;>intro hc<;>try simp only [vL] at hc)|refine vJ fun hg=>?_|(refine vQ ?_ fun x hx=>?_;·omega)|fail));all_goals try conv=>whnf
 ·refine loop_mem (fun ((j,acc):Nat×BitVec 64)=>[(2,.ptr 0 0),(4,.ptr 1 0),(8,.own 2),(10,.ptr 3 0),(12,.d (.u64 (x))),(13,.d (.u64 (acc))),(58,.d (dU p.val)),(59,.d (.int .i64 ((p.val.map D.u64).length:Int))),(60,.d (.int .i64 ((k:Int)))),(64,.own 2),(65,.d (.int .i64 ((ws.map (D.int .i64)).length:Int))),(66,.d (.int .i64 ((j:Int))))]) (fun ((j,acc):Nat×BitVec 64)=>[(0,some (boxPM p)),(1,some box0),(2,some (.row 1 (ws.map (D.int .i64)))),(3,some (.box [.d (.int .i64 ((ws.map (D.int .i64)).length:Int)),.own 4,.nils 1,.nils 1])),(4,some (.row 1 ((p.val.take k).map fun v=>D.u64 (packN v ws ws.length))))]) 5 (fun ((j,acc):Nat×BitVec 64)=>j≤ws.length∧acc=packN x ws j) (fun ((j,acc):Nat×BitVec 64)=>ws.length - j) ((0,0)) [(0,0),(1,1),(2,2),(3,3),(4,4)] [] (⟨by simp,rfl⟩) (by (refine ⟨rfl,rfl,rfl,?_,?_⟩;repeat' first|exact trivial|exact rfl|refine And.intro ?_ ?_|refine ⟨_,rfl,?_⟩|decide)) ?_
  rintro ⟨j,_⟩ ⟨hj,rfl⟩
  (repeat' ((conv=>whnf);first|refine vA ?_|(refine vF ?_ ?_<;>intro hc<;>try simp only [vL] at hc)|(refine vQ ?_ fun x hx=>?_;·omega)|(refine vP ?_ ?_;·(simp only [vM] at *;omega))|fail));all_goals try conv=>whnf
  ·rename_i y hy
   refine NeedS.mk (hwm _ (List.mem_of_getElem? hx)).1 ?_
   (repeat' ((conv=>whnf);first|((first|refine vO ?_ ?_|refine vP ?_ ?_);·omega)|fail));all_goals try conv=>whnf
   refine ⟨(j+1,_),[(0,0),(1,1),(2,2),(3,3),(4,4)],[],?_,?_,by (refine ⟨rfl,rfl,rfl,?_,?_⟩;repeat' first|exact trivial|exact rfl|refine And.intro ?_ ?_|refine ⟨_,rfl,?_⟩|decide)⟩
   ·refine ⟨by (omega),?_⟩
    rw [packN,at0_of (l:=ws) (i:=j) hx];rfl
   ·((simp only [vM] at *;omega))
  ·obtain rfl:j=ws.length:=by omega
   have hkt:(p.val.take k).length=k:=List.length_take_of_le hk
   refine NeedS.mk (by simp only [List.length_map,hkt,mostLen,List.length_set,List.length_replicate];omega) ?_
   (repeat' ((conv=>whnf);first|(refine vO ?_ ?_;·omega)|fail));all_goals try conv=>whnf
   refine ⟨(k+1,_),[(0,0),(1,1),(2,2),(3,3),(4,6)],[],?_,?_,by (refine ⟨rfl,rfl,rfl,?_,?_⟩;repeat' first|exact trivial|exact rfl|refine And.intro ?_ ?_|refine ⟨_,rfl,?_⟩|decide)⟩
   ·refine ⟨by (omega),?_⟩
    rw [take_snoc hx,List.map_append];rfl
   ·((simp only [vM] at *;omega))
 have hkv:p.val.take k=p.val:=List.take_of_length_le (by omega)
 rw [hkv]
 refine loop_mem (fun ((a,xs,ys):Nat×List D×List D)=>[(2,.ptr 0 0),(4,.ptr 1 0),(8,.own 2),(10,.ptr 3 0),(89,.d (.int .i64 ((p.cell.map dI).length:Int))),(90,.d (.int .i64 ((a:Int))))]) (fun ((a,xs,ys):Nat×List D×List D)=>[(0,some (boxPM p)),(1,some box0),(2,some (.row 1 (ws.map (D.int .i64)))),(3,some (.box [.d (.int .i64 ((ws.map (D.int .i64)).length:Int)),.own 4,.own 5,.own 6])),(4,some (.row 1 (p.val.map fun v=>D.u64 (packN v ws ws.length)))),(5,some (.row 1 xs)),(6,some (.row 1 ys))]) 7 (fun ((a,xs,ys):Nat×List D×List D)=>a≤p.cell.length∧xs=(List.range a).map (fun a=>dI (cell2 p ws a))∧ys=(List.range a).map (fun a=>dI (rank3 p ws a))) (fun ((a,xs,ys):Nat×List D×List D)=>p.cell.length - a) ((0,[],[])) [(0,0),(1,1),(2,2),(3,3),(4,4)]   [5,6] (⟨by simp,rfl,rfl⟩) (by (refine ⟨rfl,rfl,rfl,?_,?_⟩;repeat' first|exact trivial|exact rfl|exact ⟨_,rfl⟩|refine And.intro ?_ ?_|refine ⟨_,rfl,?_⟩|decide)) ?_
 rintro ⟨a,_,_⟩ ⟨ha,rfl,rfl⟩
 (repeat' ((conv=>whnf);first|refine vA ?_|(refine vF ?_ ?_<;>intro hc<;>try simp only [vL] at hc)|refine vJ fun hg=>?_|(refine vP ?_ ?_;·(simp only [vM] at *;omega))|(refine vU ?_ ?_;·kernel_rfl)|fail));all_goals try conv=>whnf
 ·have hca:a < p.cell.length:=by omega
  refine loop_mem (fun ((j,us,vs):Nat×List D×List D)=>[(2,.ptr 0 0),(4,.ptr 1 0),(8,.own 2),(10,.ptr 3 0),(16,.ptr 7 0),(17,.own 8),(18,.own 9),(89,.d (.int .i64 ((p.cell.map dI).length:Int))),(90,.d (.int .i64 ((a:Int)))),(99,.own 2),(100,.d (.int .i64 ((ws.map (D.int .i64)).length:Int))),(101,.d (.int .i64 ((j:Int))))]) (fun ((j,us,vs):Nat×List D×List D)=>[(0,some (boxPM p)),(1,some box0),(2,some (.row 1 (ws.map (D.int .i64)))),(3,some (.box [.d (.int .i64 ((ws.map (D.int .i64)).length:Int)),.own 4,.own 5,.own 6])),(4,some (.row 1 (p.val.map fun v=>D.u64 (packN v ws ws.length)))),(5,some (.row 1 ((List.range a).map (fun a=>dI (cell2 p ws a))))),(6,some (.row 1 ((List.range a).map (fun a=>dI (rank3 p ws a))))),(7,some (.box [.d (.int .i64 (a:Int))])),(8,some (.row 1 us)),(9,some (.row 1 vs))]) 10 (fun ((j,us,vs):Nat×List D×List D)=>j≤ws.length∧us=(List.range ws.length).map (fun u=>D.int .i64 (if u < j then at0 (cell2 p ws a) u else 0))∧vs=(List.range ws.length).map (fun u=>D.int .i64 (if u < j then at0 (rank2 p ws a) u else 0))) (fun ((j,us,vs):Nat×List D×List D)=>ws.length - j) ((0,List.replicate ((ws.map (D.int .i64)).length:Int).toNat (D.int .i64 0),List.replicate ((ws.map (D.int .i64)).length:Int).toNat (D.int .i64 0))) [(0,0),(1,1),(2,2),(3,3),(4,4),(5,5),(6,6),(7,7),(8,8),(9,9)] [] (⟨by simp,by simp [List.map_const'],by simp [List.map_const']⟩) (by (refine ⟨rfl,rfl,rfl,?_,?_⟩;repeat' first|exact trivial|exact rfl|refine And.intro ?_ ?_|refine ⟨_,rfl,?_⟩|decide)) ?_
  rintro ⟨j,_,_⟩ ⟨hj,rfl,rfl⟩
  (repeat' ((conv=>whnf);first|refine vA ?_|(refine vF ?_ ?_<;>intro hc<;>try simp only [vL] at hc)|(refine vQ ?_ fun x hx=>?_;·omega)|(refine vP ?_ ?_;·(simp only [vM] at *;omega))|fail));all_goals try conv=>whnf
  ·have hxm:=hwm x (List.mem_of_getElem? hx)
   obtain ⟨v,rfl⟩ : ∃ v:Nat,x=v:=⟨x.toNat,by omega⟩
   obtain ⟨hlc,hlr⟩:=hg'.lens a hca
   have hlen:=hg'.len
   refine CallS.objs [0,7,10,2] (fn_IndexFunc p a v ws hca (by omega) (fun x hx=>by have:=hwm x hx;omega)) (by (repeat' first|exact rfl|refine And.intro ?_ ?_|refine ⟨_,rfl,?_⟩)) (by (repeat' first|exact rfl|refine And.intro ?_ ?_|refine ⟨_,rfl,?_⟩)) (by rfl) (by rfl) (by simp) ?_
   (repeat' ((conv=>whnf);first|(refine vQ ?_ fun x hx=>?_;·omega)|((first|refine vS ?_ fun x hx=>?_|refine vP ?_ ?_);·(simp only [vM] at *;omega))|fail));all_goals try conv=>whnf
   have e:=rowAt_of ‹p.rank[a]? = some _›
   subst e
   (repeat' ((conv=>whnf);first|(refine vQ ?_ fun x hx=>?_;·omega)|((first|refine vO ?_ ?_|refine vP ?_ ?_);·first|omega|(simp only [vM] at *;omega))|(refine vU ?_ ?_;·kernel_rfl)|fail));all_goals try conv=>whnf
   have hxj:ws[j]? = some (v:Int):=‹ws[((j:Nat):Int).toNat]? = some _›
   have hxr:=at0_of hx
   refine ⟨(j+1,_,_),[(0,0),(1,1),(2,2),(3,3),(4,4),(5,5),(6,6),(7,7),(8,8),(9,9)],[],?_,?_,by (refine ⟨rfl,rfl,rfl,?_,?_⟩;repeat' first|exact trivial|exact rfl|refine And.intro ?_ ?_|refine ⟨_,rfl,?_⟩|decide)⟩
   ·refine ⟨by (omega),(set_range _).trans (map_range_congr fun u hu=>?_),(set_range _).trans (map_range_congr fun u hu=>?_)⟩
    ·show (if u=j then _ else _)=_
     by_cases e:u=j
     ·subst e;rw [if_pos rfl,if_pos (Nat.lt_succ_self _),cell2,at0_map hxj];rfl
     ·by_cases e1:u < j
      ·simp [e1,e,show u < j+1 by omega]
      ·simp [e1,e,show ¬ u < j+1 by omega]
    ·show (if u=j then _ else _)=_
     by_cases e:u=j
     ·subst e;rw [if_pos rfl,if_pos (Nat.lt_succ_self _),rank2,at0_map hxj,← hxr];rfl
     ·by_cases e1:u < j
      ·simp [e1,e,show u < j+1 by omega]
      ·simp [e1,e,show ¬ u < j+1 by omega]
   ·((simp only [vM] at *;omega))
  ·obtain rfl:j=ws.length:=by omega
   rw [full_map (l:=cell2 p ws a) (by simp [cell2]),full_map (l:=rank2 p ws a) (by simp [rank2])]
   refine CallS.objs [8,9] (hRO (cell2 p ws a) (rank2 p ws a) (by simp [cell2,rank2]) (by simp only [rank2,List.length_map];omega)) (by (repeat' first|exact rfl|refine And.intro ?_ ?_|refine ⟨_,rfl,?_⟩)) (by (repeat' first|exact rfl|refine And.intro ?_ ?_)) (by rfl) (by rfl) (by simp) ?_
   (repeat' ((conv=>whnf);first|refine vA ?_|refine vJ fun hg=>?_));all_goals try conv=>whnf
   refine loop_mem (fun ((j,vs):Nat×List D)=>[(2,.ptr 0 0),(4,.ptr 1 0),(8,.own 2),(10,.ptr 3 0),(17,.own 8),(18,.own 9),(21,.d (.map (ranksD (cell2 p ws a) (rank2 p ws a)))),(89,.d (.int .i64 ((p.cell.map dI).length:Int))),(90,.d (.int .i64 ((a:Int)))),(128,.d (.int .i64 ((ws.map (D.int .i64)).length:Int))),(129,.d (.int .i64 ((j:Int))))]) (fun ((j,vs):Nat×List D)=>[(0,some (boxPM p)),(1,some box0),(2,some (.row 1 (ws.map (D.int .i64)))),(3,some (.box [.d (.int .i64 ((ws.map (D.int .i64)).length:Int)),.own 4,.own 5,.own 6])),(4,some (.row 1 (p.val.map fun v=>D.u64 (packN v ws ws.length)))),(5,some (.row 1 ((List.range a).map (fun a=>dI (cell2 p ws a))))),(6,some (.row 1 ((List.range a).map (fun a=>dI (rank3 p ws a))))),(8,some (.row 1 ((cell2 p ws a).map (D.int .i64)))),(9,some (.row 1 vs))]) 10 (fun ((j,vs):Nat×List D)=>j≤ws.length∧vs=(List.range ws.length).map (fun u=>D.int .i64 (if u < j then at0 (rank3 p ws a) u else at0 (rank2 p ws a) u))) (fun ((j,vs):Nat×List D)=>ws.length - j) ((0,(rank2 p ws a).map (D.int .i64))) [(0,0),(1,1),(2,2),(3,3),(4,4),(5,5),(6,6),(8,8),(9,9)] [] (⟨by simp,(rest_map (l:=rank2 p ws a) (by simp [rank2])).symm⟩) (by (refine ⟨rfl,rfl,rfl,?_,?_⟩;repeat' first|exact trivial|exact rfl|refine And.intro ?_ ?_|refine ⟨_,rfl,?_⟩|decide)) ?_
   rintro ⟨j,_⟩ ⟨hj,rfl⟩
   have hlc2:(cell2 p ws a).length=ws.length:=by simp [cell2]
   (repeat' ((conv=>whnf);first|refine vA ?_|(refine vF ?_ ?_<;>intro hc<;>try simp only [vL] at hc)|refine vT ?_|(refine vQ ?_ fun x hx=>?_;·omega)|((first|refine vO ?_ ?_|refine vP ?_ ?_);·first|omega|(simp only [vM] at *;omega))|(refine vU ?_ ?_;·kernel_rfl)|fail));all_goals try conv=>whnf
   ·have hxc:(cell2 p ws a)[j]? = some x:=hx
    refine ⟨_,find_ranks (mem_keysOf.2 (List.mem_of_getElem? hxc)),?_⟩
    (repeat' ((conv=>whnf);first|(refine vQ ?_ fun x hx=>?_;·(simp only [vM] at *;omega))|((first|refine vO ?_ ?_|refine vP ?_ ?_);·first|omega|(simp only [vM] at *;omega))|(refine vU ?_ ?_;·kernel_rfl)|refine yD (fn_Index_int _ _) ⟨⟨rfl,rfl⟩,⟨rfl,rfl⟩,rfl⟩ rfl ?_));all_goals try conv=>whnf
    have hxe:j=x:=(get_range hx).symm
    subst hxe
    have hxr:=at0_of hxc
    refine ⟨(j+1,_),[(0,0),(1,1),(2,2),(3,3),(4,4),(5,5),(6,6),(8,8),(9,9)],[],?_,?_,by (refine ⟨rfl,rfl,rfl,?_,?_⟩;repeat' first|exact trivial|exact rfl|refine And.intro ?_ ?_|refine ⟨_,rfl,?_⟩|decide)⟩
    ·refine ⟨by (omega),(set_range _).trans (map_range_congr fun u hu=>?_)⟩
     show (if u=_ then _ else _)=_
     by_cases e:u=j
     ·subst e
      rw [if_pos (show u=((u:Nat):Int).toNat from rfl),if_pos (Nat.lt_succ_self _),rank3_at hu,hxr]
      simp
     ·by_cases e1:u < j
      ·simp [e1,e,show u < j+1 by omega]
      ·simp [e1,e,show ¬ u < j+1 by omega]
    ·((simp only [vM] at *;omega))
   ·obtain rfl:j=ws.length:=by omega
    refine ⟨(a+1,_,_),[(0,0),(1,1),(2,2),(3,3),(4,4),(5,11),(6,13)],[],?_,?_,by (refine ⟨rfl,rfl,rfl,?_,?_⟩;repeat' first|exact trivial|exact rfl|refine And.intro ?_ ?_|refine ⟨_,rfl,?_⟩|decide)⟩
    ·refine ⟨by (omega),?_,?_⟩
     ·rw [List.range_succ,List.map_append];rfl
     ·rw [List.range_succ,List.map_append]
      exact congrArg (_++[D.arr 1 ·]) (full_map2 (by simp [rank3]))
    ·((simp only [vM] at *;omega))
 ·have hae:a=p.cell.length:=by omega
  subst hae
  show some (D.tup [D.agg [.int .i64 ((ws.map (D.int .i64)).length:Int),.arr 1 (p.val.map fun v=>D.u64 (packN v ws ws.length)),.arr 1 ((List.range p.cell.length).map (fun a=>dI (cell2 p ws a))),.arr 1 ((List.range p.cell.length).map (fun a=>dI (rank3 p ws a)))],dI ws,.int .i64 0])=_
  rw [List.length_map]
  show _=some (D.tup [D.agg [.int .i64 (ws.length:Int),.arr 1 ((p.val.map fun v=>packN v ws ws.length).map D.u64),.arr 1 (((List.range p.cell.length).map (cell2 p ws)).map dI),.arr 1 (((List.range p.cell.length).map (rank3 p ws)).map dI)],dI ws,.int .i64 0])
  rw [List.map_map,List.map_map,List.map_map];rfl
end Go.Ab
namespace Go.Ab
open Go Go.Proofs Go.MapKept Go.RowKit Go.WideMaps Go.Maps
set_option linter.unusedVariables false
set_option linter.unusedSimpArgs false
variable {T : Nat → Obj → Prop}
set_option maxRecDepth 100000 in
theorem ranks_none (a : Option Addr) (cap : Nat) (vb : Value) (w : World) :
    Calls Tryz.prog 64 #[.slice a 0 cap, vb] w fun e w' => e = .returned (.map (some w.heap.size)) ∧ w.grownBy w' none ∧ w'.heap[w.heap.size]? = some (.map #[] 0) := by
  have hmm := @run_makeMap Tryz.prog
  have hrange := run_range_map (P := Tryz.prog) (w.alloc (.map #[] 0)) 82 3 29 w.heap.size #[] 0 Tryz.underlying82 (heap_alloc_new _ _)
  have hnext : (Instr.next (.pointer (some ⟨w.heap.size + 1, 0, none⟩)) false 0).run Tryz.prog ((w.alloc (.map #[] 0)).alloc (.mapIter (some w.heap.size) 0 #[] 0)) = .ok (.tuple #[.bool false]) ((w.alloc (.map #[] 0)).alloc (.mapIter (some w.heap.size) 0 #[] 0)) := by
    rcases run_next_at (P := Tryz.prog) ((w.alloc (.map #[] 0)).alloc (.mapIter (some w.heap.size) 0 #[] 0)) 0 (w.heap.size + 1) w.heap.size 0 0 #[] #[] 0 (by have := heap_alloc_new (w.alloc (.map #[] 0)) (.mapIter (some w.heap.size) 0 #[] 0); simpa using this)
      ((heap_alloc_old _ _ (by simp)).trans (heap_alloc_new _ _)) (by simp) (Nat.le_refl _) with ⟨-, h⟩ | ⟨e, he, -⟩
    · exact h
    · simp [leftOf] at he
  simp only [show (w.alloc (.map #[] 0)).heap.size = w.heap.size + 1 by simp] at hrange
  go_enter Tryz.func64, Tryz.ntmps64
  go_wp2
  refine wp_loop_rounds 1 ?_
  rw [rounds_succ]
  go_wp2
  refine wp_loop_rounds 1 ?_
  rw [rounds_succ]
  go_wp2
  go_ret
  exact ⟨rfl, (World.grownBy_alloc _ _ _).trans (World.grownBy_alloc _ _ _), (heap_alloc_old _ _ (by simp)).trans (heap_alloc_new _ _)⟩
theorem ranks_ok : RanksOk T := by
  intro cell rank hle h64
  refine fn_of_calls ⟨_, Tryz.func64, by decide, rfl⟩ fun B σ a w args hT hS hsz hargs => ?_
  have ha : args = #[args.getD 0 undef, args.getD 1 undef] := by
    apply Array.ext
    · simpa using hsz
    · intro i h1 h2
      match i, h2 with
      | 0, _ => simp [Array.getD, show 0 < args.size by omega]
      | 1, _ => simp [Array.getD, show 1 < args.size by omega]
  have h0 := hargs 0 (by simp)
  have h1 := hargs 1 (by simp)
  have fin : ∀ (e : Ending) (w' : World) (es : Array MapEntry) (clock : Nat) (blk : Nat → Nat), e = .returned (.map (some w.heap.size)) → w.grownBy w' none → Grp (O2 (w.heap.size + 1)) w' w.heap.size ((gsOf cell rank cell.length).map fun p => (p.1, finZ p.2)) es clock blk →
      ∃ v' σ', e = .returned v' ∧ Sim B (fun _ => .undef) (memG []) (fun i => ([] : List (Option Ob)).length ≤ i) σ' a w' ∧ VSim σ' (memG []) (fun i => ([] : List (Option Ob)).length ≤ i) (B.X σ' (memG [])) w' (.d (.map (ranksD cell rank))) v' ∧
        ∀ i ob, ([] : List Ob)[i]? = some ob → memG [] i = none ∨ (σ' i = σ i ∧ ∃ ob', memG [] i = some ob' ∧ Shape ob ob') := by
    intro e w' es clock blk he hg hG
    have hX : ∀ b, w.heap.size ≤ b → ¬B.X σ (memG []) b := by
      rintro b hb (h | ⟨id, h, -⟩)
      · have := hS.olt b h; omega
      · exact h (by simp [memG])
    have hgl : ((gsOf cell rank cell.length).map fun p => (p.1, finZ p.2)).length = (keysOf cell).length := by simp [gsOf]
    have hgd : ∀ i, i < (keysOf cell).length → ((gsOf cell rank cell.length).map fun p => (p.1, finZ p.2)).getD i default = ((keysOf cell).getD i 0, ranksOf cell rank ((keysOf cell).getD i 0)) := by
      intro i hi
      simp only [gsOf, List.take_length, List.map_map, List.getD, List.getElem?_map, List.getElem?_eq_getElem hi, Option.map_some, Option.getD_some, Function.comp, finZ_eq]
      rfl
    refine ⟨_, σ, he, ⟨fun t => .undef _, fun id ob h => by simp [memG] at h, fun i j b h => absurd (by simp [memG]) h, fun id b h => absurd (by simp [memG]) h, fun _ _ => by simp [memG], ?_, hS.nt, fun b hb => Nat.lt_of_lt_of_le (hS.olt b hb) hg.size, fun b o hp => (hg.block b (lt_of_block (hS.pins b o hp)) (by simp)).trans (hS.pins b o hp), fun id l h => by simp [memG] at h⟩, .d _ _ ?_, fun i ob h => by simp at h⟩
    · refine ⟨hg.os.trans hS.kept.os, hg.tape.trans hS.kept.tape, hg.output.trans hS.kept.output, Nat.le_trans hS.kept.size hg.size, fun b hb hR => (hg.block b (Nat.lt_of_lt_of_le hb hS.kept.size) (by simp)).trans (hS.kept.block b hb hR), fun b c e h => ?_⟩
      obtain ⟨c', h1, h2⟩ := hS.kept.cells b c e h
      exact ⟨c', (hg.block b (lt_of_block h1) (by simp)).trans h1, h2⟩
    · refine .map _ _ es clock (hX _ (Nat.le_refl _)) (lt_of_block hG.heap) hG.heap (by rw [hG.size, hgl]; simp) hG.st (fun i hi => ?_) (fun i hi => ?_)
      · rw [List.length_map] at hi
        rw [hG.key i (by rw [hgl]; exact hi), hgd i hi, show ((keysOf cell).map fun c => (D.int .i64 c, dI (ranksOf cell rank c))).getD i (.nil, .nil) = (D.int .i64 ((keysOf cell).getD i 0), dI (ranksOf cell rank ((keysOf cell).getD i 0))) by simp [List.getD, hi]]
        exact .int .i64 _ (by simp)
      · rw [List.length_map] at hi
        have hv := hG.val i (by rw [hgl]; exact hi)
        rw [hgd i hi] at hv
        rw [show ((keysOf cell).map fun c => (D.int .i64 c, dI (ranksOf cell rank c))).getD i (.nil, .nil) = (D.int .i64 ((keysOf cell).getD i 0), dI (ranksOf cell rank ((keysOf cell).getD i 0))) by simp [List.getD, hi]]
        simp only
        generalize ranksOf cell rank ((keysOf cell).getD i 0) = zs at hv
        replace hv : O2 (w.heap.size + 1) w' (es.getD i default).val (blk i) zs := hv
        obtain ⟨cap, c, e, q1, q2, q3, q4, q5, q6, q7⟩ := hv
        rw [q1]
        have hl : (zs.map (D.int .i64)).length = zs.length := List.length_map _
        rw [← hl]
        refine .arr 1 (zs.map (D.int .i64)) (blk i) 0 cap (fun j => c.getD j undef) (hX _ (by omega)) (lt_of_block q3) (fun x hx => ?_) (by omega) (by omega) (fun j hj => ?_) (fun j k hj hk => ?_)
        · obtain ⟨y, -, rfl⟩ := List.mem_map.1 hx; rfl
        · have hjc : j < c.size := by omega
          simp [World.cell?, q3, Array.getD_eq_getD_getElem?, hjc]
        · have : k = 0 := by omega
          subst this
          rw [hl] at hj
          rw [Nat.mul_one, Nat.add_zero]
          rw [q7 j hj, show (zs.map (D.int .i64)).getD j .nil = .int .i64 (zs.getD j 0) by simp [List.getD, hj]]
          exact .int .i64 _ (by simp)
  have read : ∀ (xs : List Int) (v : Value), xs ≠ [] → DSim (B.X σ (memG [])) w (dI xs) v → ∃ b off cap, v = .slice (some ⟨b, off, none⟩) xs.length cap ∧ b < w.heap.size ∧ ∀ j, j < xs.length → w.cell? ⟨b, off + j, none⟩ = some (.int .i64 (at0 xs j)) := by
    intro xs v hne hd
    unfold dI at hd
    have hl : (xs.map (D.int .i64)).length = xs.length := List.length_map _
    generalize hys : xs.map (D.int .i64) = ys at hd hl
    cases hd with
    | arr0 s a cap => exact absurd (List.eq_nil_of_length_eq_zero (by simpa using hl.symm)) hne
    | arr s _ b off cap cv g1 g2 g3 g4 g5 g6 g7 =>
      refine ⟨b, off, cap, by rw [hl], g2, fun j hj => ?_⟩
      have h6 := g6 j (by omega)
      have h7 := g7 j 0 (by omega) (by omega)
      rw [Nat.mul_one, Nat.add_zero, ← hys, show (xs.map (D.int .i64)).getD j .nil = .int .i64 (at0 xs j) by simp [List.getD, at0, hj]] at h7
      rw [h6]
      generalize cv j = z at h7
      cases h7; rfl
  rw [ha]
  have e0 : ([V.d (dI cell), V.d (dI rank)].getD 0 .undef) = .d (dI cell) := rfl
  have e1 : ([V.d (dI cell), V.d (dI rank)].getD 1 .undef) = .d (dI rank) := rfl
  rw [e0] at h0
  rw [e1] at h1
  generalize args.getD 0 undef = va at h0
  generalize args.getD 1 undef = vb at h1
  cases h0 with
  | d _ _ hd0 =>
  cases h1 with
  | d _ _ hd1 =>
  by_cases hc : cell = []
  · subst hc
    have hv : ∃ a' cap, va = .slice a' 0 cap := by
      unfold dI at hd0
      cases hd0 with
      | arr0 s a' cap => exact ⟨a', cap, rfl⟩
      | arr s _ b off cap cv => exact ⟨_, cap, rfl⟩
    obtain ⟨a', cap, rfl⟩ := hv
    refine (ranks_none a' cap vb w).mono ?_
    rintro e w' ⟨he, hg, hh⟩
    exact fin e w' #[] 0 (fun _ => 0) he hg ⟨hh, ⟨fun i j hi => by simp at hi, fun i hi => by simp at hi⟩, rfl, fun i hi => by simp [gsOf, keysOf] at hi, fun i hi => by simp [gsOf, keysOf] at hi, fun i j hi => by simp [gsOf, keysOf] at hi⟩
  · have hpos : 0 < cell.length := List.length_pos_iff.2 hc
    obtain ⟨b1, o1, cap1, rfl, l1, c1⟩ := read cell va hc hd0
    obtain ⟨b2, o2, cap2, rfl, l2, c2⟩ := read rank vb (fun e => by rw [e] at hle; simp at hle; exact hc (List.eq_nil_of_length_eq_zero (by simp [hle]))) hd1
    refine (ranks_walk (T := T) b1 o1 cap1 b2 o2 cap2 rank.length cell rank w hpos hle (by omega) (fun b o ht => hS.pins b o (hT b o ht)) l1 l2 c1 (fun j hj => c2 j (by omega))).mono ?_
    rintro e w' ⟨he, hg, es, clock, blk, hG⟩
    exact fin e w' es clock blk he hg hG
end Go.Ab
namespace Go.Ab
open Go Go.Proofs Go.MapKept
set_option linter.unusedVariables false
theorem Sim.grown {B : Base} {ρ : Nat → V} {M : Nat → Option Ob} {F : Nat → Prop} {σ : Nat → Option Nat} {a : Act} {w w' : World} (h : Sim B ρ M F σ a w) (hg : w.grownBy w' none) : Sim B ρ M F σ a w' := by
  refine h.step ⟨fun id ob hid => .inr ⟨rfl, ob, hid, Shape.refl ob⟩, fun id h1 h2 => ⟨h1, h2⟩, hg.size, fun b _ hb => hg.block b hb (by simp), fun b _ hx => hx, fun id b c e _ _ hc => ⟨c, (hg.block b (lt_of_block hc) (by simp)).trans hc, rfl⟩⟩
    (fun id ob hid => .inl ⟨hid, rfl, fun b hb => ?_⟩) h.inj h.mine h.free ?_ (fun b hb => hg.block b (h.olt b hb) (by simp)) (fun _ _ h => h)
  · obtain ⟨o, ho⟩ := (h.mem id ob hid).block hb
    exact hg.block b (lt_of_block ho) (by simp)
  · refine ⟨hg.os.trans h.kept.os, hg.tape.trans h.kept.tape, hg.output.trans h.kept.output, Nat.le_trans h.kept.size hg.size, fun b hb hR => (hg.block b (Nat.lt_of_lt_of_le hb h.kept.size) (by simp)).trans (h.kept.block b hb hR), fun b c e hc => ?_⟩
    obtain ⟨c', h1, h2⟩ := h.kept.cells b c e hc
    exact ⟨c', (hg.block b (lt_of_block h1) (by simp)).trans h1, h2⟩
theorem ranks_map {w w' : World} {X : Nat → Prop} {cell rank : List Int} {es : Array MapEntry} {clock : Nat} {blk : Nat → Nat} (hX : ∀ b, w.heap.size ≤ b → ¬X b)
    (hG : Grp (O2 (w.heap.size + 1)) w' w.heap.size ((gsOf cell rank cell.length).map fun p => (p.1, finZ p.2)) es clock blk) : DSim X w' (.map (ranksD cell rank)) (.map (some w.heap.size)) := by
  have hgl : ((gsOf cell rank cell.length).map fun p => (p.1, finZ p.2)).length = (keysOf cell).length := by simp [gsOf]
  have hgd : ∀ i, i < (keysOf cell).length → ((gsOf cell rank cell.length).map fun p => (p.1, finZ p.2)).getD i default = ((keysOf cell).getD i 0, ranksOf cell rank ((keysOf cell).getD i 0)) := by
    intro i hi
    simp only [gsOf, List.take_length, List.map_map, List.getD, List.getElem?_map, List.getElem?_eq_getElem hi, Option.map_some, Option.getD_some, Function.comp, finZ_eq]
    rfl
  refine .map _ _ es clock (hX _ (Nat.le_refl _)) (lt_of_block hG.heap) hG.heap (by rw [hG.size, hgl]; simp) hG.st (fun i hi => ?_) (fun i hi => ?_)
  · rw [List.length_map] at hi
    rw [hG.key i (by rw [hgl]; exact hi), hgd i hi, show ((keysOf cell).map fun c => (D.int .i64 c, dI (ranksOf cell rank c))).getD i (.nil, .nil) = (D.int .i64 ((keysOf cell).getD i 0), dI (ranksOf cell rank ((keysOf cell).getD i 0))) by simp [List.getD, hi]]
    exact .int .i64 _ (by simp)
  · rw [List.length_map] at hi
    have hv := hG.val i (by rw [hgl]; exact hi)
    rw [hgd i hi] at hv
    rw [show ((keysOf cell).map fun c => (D.int .i64 c, dI (ranksOf cell rank c))).getD i (.nil, .nil) = (D.int .i64 ((keysOf cell).getD i 0), dI (ranksOf cell rank ((keysOf cell).getD i 0))) by simp [List.getD, hi]]
    simp only
    generalize ranksOf cell rank ((keysOf cell).getD i 0) = zs at hv
    replace hv : O2 (w.heap.size + 1) w' (es.getD i default).val (blk i) zs := hv
    obtain ⟨cap, c, e, q1, q2, q3, q4, q5, q6, q7⟩ := hv
    rw [q1]
    have hl : (zs.map (D.int .i64)).length = zs.length := List.length_map _
    rw [← hl]
    refine .arr 1 (zs.map (D.int .i64)) (blk i) 0 cap (fun j => c.getD j undef) (hX _ (by omega)) (lt_of_block q3) (fun x hx => ?_) (by omega) (by omega) (fun j hj => ?_) (fun j k hj hk => ?_)
    · obtain ⟨y, -, rfl⟩ := List.mem_map.1 hx; rfl
    · have hjc : j < c.size := by omega
      simp [World.cell?, q3, Array.getD_eq_getD_getElem?, hjc]
    · have : k = 0 := by omega
      subst this
      rw [hl] at hj
      rw [Nat.mul_one, Nat.add_zero]
      rw [q7 j hj, show (zs.map (D.int .i64)).getD j .nil = .int .i64 (zs.getD j 0) by simp [List.getD, hj]]
      exact .int .i64 _ (by simp)
end Go.Ab
namespace Go.Ab
open Go Go.Proofs Go.MapKept
set_option linter.unusedVariables false
variable {T : Nat → Obj → Prop}
theorem ranks_own {cell rank : List Int} (hle : cell.length ≤ rank.length) (h64 : rank.length ≤ 64) : Fn Tryz.prog T f_plaus_ranks [.own 0, .own 1] [rowI cell, rowI rank] (.d (.map (ranksD cell rank))) [some (rowI cell), some (rowI rank)] := by
  refine fn_of_calls ⟨_, Tryz.func64, by decide, rfl⟩ fun B σ a w args hT hS hsz hargs => ?_
  have ha : args = #[args.getD 0 undef, args.getD 1 undef] := by
    apply Array.ext
    · simpa using hsz
    · intro i h1 h2
      match i, h2 with
      | 0, _ => simp [Array.getD, show 0 < args.size by omega]
      | 1, _ => simp [Array.getD, show 1 < args.size by omega]
  have h0 := hargs 0 (by simp)
  have h1 := hargs 1 (by simp)
  have fin : ∀ (e : Ending) (w' : World) (es : Array MapEntry) (clock : Nat) (blk : Nat → Nat), e = .returned (.map (some w.heap.size)) → w.grownBy w' none → Grp (O2 (w.heap.size + 1)) w' w.heap.size ((gsOf cell rank cell.length).map fun p => (p.1, finZ p.2)) es clock blk →
      ∃ v' σ', e = .returned v' ∧ Sim B (fun _ => .undef) (memG [some (rowI cell), some (rowI rank)]) (fun i => 2 ≤ i) σ' a w' ∧ VSim σ' (memG [some (rowI cell), some (rowI rank)]) (fun i => 2 ≤ i) (B.X σ' (memG [some (rowI cell), some (rowI rank)])) w' (.d (.map (ranksD cell rank))) v' ∧
        ∀ i ob, [rowI cell, rowI rank][i]? = some ob → memG [some (rowI cell), some (rowI rank)] i = none ∨ (σ' i = σ i ∧ ∃ ob', memG [some (rowI cell), some (rowI rank)] i = some ob' ∧ Shape ob ob') := by
    intro e w' es clock blk he hg hG
    refine ⟨_, σ, he, hS.grown hg, .d _ _ (ranks_map (fun b hb => ?_) hG), fun i ob hi => .inr ⟨rfl, ob, ?_, Shape.refl ob⟩⟩
    · rintro (h | ⟨id, h, h2⟩)
      · have := hS.olt b h; omega
      · obtain ⟨ob, hob⟩ := Option.ne_none_iff_exists'.1 h
        obtain ⟨o, ho⟩ := (hS.mem id ob hob).block h2
        have := lt_of_block ho; omega
    · match i, hi with
      | 0, hi => simpa [memG] using hi
      | 1, hi => simpa [memG] using hi
  rw [ha]
  have m0 : memG ([rowI cell, rowI rank].map some) 0 = some (rowI cell) := rfl
  have m1 : memG ([rowI cell, rowI rank].map some) 1 = some (rowI rank) := rfl
  change VSim _ _ _ _ _ (.own 0) _ at h0
  change VSim _ _ _ _ _ (.own 1) _ at h1
  generalize args.getD 0 undef = va at h0
  generalize args.getD 1 undef = vb at h1
  have rd : ∀ {g : Nat} {v : Value} {xs : List Int}, O2 0 w v g xs → ∃ cap, v = .slice (some ⟨g, 0, none⟩) xs.length cap ∧ g < w.heap.size ∧ ∀ j, j < xs.length → w.cell? ⟨g, 0 + j, none⟩ = some (.int .i64 (at0 xs j)) := by
    rintro g v xs ⟨cap, c, e, q1, -, q3, q4, q5, -, q7⟩
    refine ⟨cap, q1, lt_of_block q3, fun j hj => ?_⟩
    have hjc : j < c.size := by omega
    have := q7 j hj
    rw [Array.getD_eq_getD_getElem?, Array.getElem?_eq_getElem hjc] at this
    simp only [Option.getD_some] at this
    simp [World.cell?, q3, hjc, this, at0]
  by_cases hc : cell = []
  · subst hc
    have hv : ∃ a' cap, va = .slice a' 0 cap := by
      cases h0 with
      | ownDead _ ad l c g1 => rw [m0] at g1; cases g1
      | ownNil => exact ⟨none, 0, rfl⟩
      | own _ s xs b cap c e g1 g2 g3 g4 g5 =>
        rw [m0] at g1
        simp only [rowI, Option.some.injEq, Ob.row.injEq] at g1
        obtain ⟨-, rfl⟩ := g1
        exact ⟨_, cap, rfl⟩
    obtain ⟨a', cap, rfl⟩ := hv
    refine (ranks_none a' cap vb w).mono ?_
    rintro e w' ⟨he, hg, hh⟩
    exact fin e w' #[] 0 (fun _ => 0) he hg ⟨hh, ⟨fun i j hi => by simp at hi, fun i hi => by simp at hi⟩, rfl, fun i hi => by simp [gsOf, keysOf] at hi, fun i hi => by simp [gsOf, keysOf] at hi, fun i j hi => by simp [gsOf, keysOf] at hi⟩
  · have hpos : 0 < cell.length := List.length_pos_iff.2 hc
    obtain ⟨g1, -, o1⟩ := row_out h0 (hS.mem 0 _ m0) m0 (by omega) hc
    obtain ⟨g2, -, o2⟩ := row_out h1 (hS.mem 1 _ m1) m1 (by omega) (fun e => by rw [e] at hle; simp at hle; exact hc hle)
    obtain ⟨cap1, rfl, l1, c1⟩ := rd o1
    obtain ⟨cap2, rfl, l2, c2⟩ := rd o2
    refine (ranks_walk (T := T) g1 0 cap1 g2 0 cap2 rank.length cell rank w hpos hle (by omega) (fun b o ht => hS.pins b o (hT b o ht)) l1 l2 c1 (fun j hj => c2 j (by omega))).mono ?_
    rintro e w' ⟨he, hg, es, clock, blk, hG⟩
    exact fin e w' es clock blk he hg hG
end Go.Ab
namespace Go.Ab
open Go Go.Proofs
set_option linter.unusedSimpArgs false
set_option linter.unusedVariables false
set_option maxRecDepth 10000
set_option maxHeartbeats 4000000
variable {T:Nat→Obj→Prop}
abbrev noP:PM:=⟨0,[],[],[]⟩
noncomputable def radL (p:PM) (f:List Nd):PM×Int:=if (holdsL p f).2≠0 then (noP,(holdsL p f).2) else (upL p fun _ _=>(holdsL p f).1,0)
noncomputable def conL (p:PM) (f:List Nd):PM×Int:=if (holdsL p f).2≠0 then (noP,(holdsL p f).2) else (upL p fun a w=>bestL p a w (holdsL p f).1,0)
noncomputable def hardL (p:PM) (f:List Nd):PM×List Int×Int:=if (holdsL p f).2≠0 then (noP,[],(holdsL p f).2) else if (holdsL p f).1=0#64 then (noP,[],11) else restL p (holdsL p f).1
theorem fn_Radical (hR:RanksOk T) (p:PM) (hp:IntsOk p.rank) (f:List Nd):Fn Tryz.prog T f_upgrade_Radical [.d (dPM p),.d (dF f)] [] (.d (dPI (radL p f))) []:=by
 have c:=fn_reorder (T:=T) hR p hp f f_upgrade_Radical_1 [] (fun _ _=>(holdsL p f).1) (by simp) (fun _ a w _ _=>by
  show Fn _ T _ [.d (.int .i64 (a:Int)),.d (.int .i64 (w:Int)),.d (.u64 (holdsL p f).1)] [] _ []
  refine fn_dataR hmix k_upgrade_Radical_1 (by show 3≤8;decide) ?_
  (repeat' ((conv=>whnf);refine vY ?_));all_goals try conv=>whnf)
 refine fn_dataR hmix k_upgrade_Radical (by show 2≤11;decide) ?_
 (repeat' ((conv=>whnf);refine yN c ⟨⟨rfl,rfl⟩,⟨rfl,rfl⟩,⟨rfl,rfl⟩,rfl⟩ ?_));all_goals try conv=>whnf
 rfl
theorem fn_Conservative (hR:RanksOk T) (p:PM) (hp:IntsOk p.rank) (f:List Nd):Fn Tryz.prog T f_upgrade_Conservative [.d (dPM p),.d (dF f)] [] (.d (dPI (conL p f))) []:=by
 have c:=fn_reorder (T:=T) hR p hp f f_upgrade_Conservative_1 [bP p] (fun a w=>bestL p a w (holdsL p f).1) (by simp) (fun _ a w _ _=>by
  show Fn _ T _ [.d (.int .i64 (a:Int)),.d (.int .i64 (w:Int)),.d (.u64 (holdsL p f).1),.d (bP p)] [] _ []
  refine fn_dataR hmix k_upgrade_Conservative_1 (by show 4≤13;decide) ?_
  (repeat' ((conv=>whnf);first|refine vY ?_|refine yD (fn_Best hR p hp _ _ _) (by (repeat refine ⟨⟨rfl,rfl⟩,?_⟩);rfl) rfl ?_));all_goals try conv=>whnf)
 refine fn_dataR hmix k_upgrade_Conservative (by show 2≤12;decide) ?_
 (repeat' ((conv=>whnf);refine yN c ⟨⟨rfl,rfl⟩,⟨rfl,rfl⟩,⟨rfl,rfl⟩,rfl⟩ ?_));all_goals try conv=>whnf
 rfl
theorem fn_Hard (hR:RanksOk T) (hRO:RanksOwn T) (p:PM) (hp:IntsOk p.rank) (f:List Nd):Fn Tryz.prog T f_upgrade_Hard [.d (dPM p),.d (dF f)] [] (.d (dPLI (hardL p f))) []:=by
 refine fn_dataR hmix k_upgrade_Hard (by show 2≤28;decide) ?_
 (repeat' ((conv=>whnf);first|refine vA ?_|((first|refine vD ?_ ?_|refine vF ?_ ?_)<;>intro hc)|refine yN (fn_Holds hR p hp f) ⟨⟨rfl,rfl⟩,⟨rfl,rfl⟩,rfl⟩ ?_|refine yN (fn_Restrict hR hRO p hp _) ⟨⟨rfl,rfl⟩,⟨rfl,rfl⟩,rfl⟩ ?_));all_goals try conv=>whnf
 ·rw [hardL,if_pos ‹_›];rfl
 ·rw [hardL,if_neg (by omega),if_pos ‹_›];rfl
 ·rw [hardL,if_neg (by omega),if_neg ‹_›];rfl
end Go.Ab
namespace Go.Ab
open Go Go.Proofs
set_option linter.unusedSimpArgs false
set_option linter.unusedVariables false
set_option maxRecDepth 10000
set_option maxHeartbeats 4000000
variable {T:Nat→Obj→Prop}
set_option maxHeartbeats 2000000 in
theorem fn_RestrictO (hR:RanksOk T) (hRO:RanksOwn T) (p:PM) (hp:IntsOk p.rank) (s:BitVec 64) (hck:checkL p=0) (hs1:s &&& ~~~(allL p.W)=(0:BitVec 64)) (hs2 : ¬ s=0):Fn Tryz.prog T f_plaus_Restrict [.d (dPM p),.d (.u64 s)] [] (.tup [.d (dPM (restPM p (wsL s p.W.toNat))),.own 0,.d (.int .i64 0)]) [some (.row 1 ((wsL s p.W.toNat).map (D.int .i64)))]:=by
 refine fn_introR hmix k_plaus_Restrict (by show 2≤162;decide) _ (fun e env mem n h=>h) ?_
 have hg':=checkL_good hck
 have hw1:=hg'.w1
 have hw2:=hg'.w2
 have hv8:=hg'.v8
 have hn4:=hg'.n4
 (repeat' ((conv=>whnf);first|refine vA ?_|(refine vD ?_ ?_<;>intro hc)|refine yD (fn_plaus_Check hR _ hp) ⟨⟨rfl,rfl⟩,rfl⟩ rfl ?_));all_goals try conv=>whnf
 ·exact absurd hck hc
 (repeat' ((conv=>whnf);first|refine vA ?_|((first|refine vD ?_ ?_|refine vF ?_ ?_)<;>intro hc)|refine yD (fn_plaus_all p.W (by omega)) ⟨⟨rfl,rfl⟩,rfl⟩ rfl ?_));all_goals try conv=>whnf
 ·exact absurd hs1 ‹_›
 ·exact absurd ‹s=0› hs2
 refine loop_mem (fun ((i,zs):Nat×List D)=>[(1,.d (.u64 (s))),(2,.ptr 0 0),(4,.ptr 1 0),(8,.own 2),(40,.d (.int .i64 (p.W))),(41,.d (.int .i64 ((i:Int))))]) (fun ((i,zs):Nat×List D)=>[(0,some (boxPM p)),(1,some box0),(2,some (.row 1 zs))]) 3 (fun ((i,zs):Nat×List D)=>i≤p.W.toNat∧zs=(wsL s i).map (D.int .i64)) (fun ((i,zs):Nat×List D)=>p.W.toNat - i) ((0,[])) [(0,0),(1,1)]   [2] (⟨by simp,rfl⟩) (by (refine ⟨rfl,rfl,rfl,?_,?_⟩;repeat' first|exact trivial|exact rfl|exact ⟨_,rfl⟩|refine And.intro ?_ ?_|refine ⟨_,rfl,?_⟩|decide)) ?_
 rintro ⟨i,_⟩ ⟨hi,rfl⟩
 (repeat' ((conv=>whnf);first|refine vA ?_|(refine vF ?_ ?_<;>intro hc<;>try simp only [vL] at hc)|refine vJ fun hg=>?_|((first|refine vO ?_ ?_|refine vP ?_ ?_);·omega)|fail));all_goals try conv=>whnf
 ·have hwl:=wsL_len (s:=s) (n:=i)
  refine NeedS.mk (by simp only [List.length_map,mostLen,List.length_set,List.length_replicate];omega) ?_
  (repeat' ((conv=>whnf);first|(refine vO ?_ ?_;·omega)|fail));all_goals try conv=>whnf
  refine ⟨(i+1,_),[(0,0),(1,1),(2,4)],[],?_,?_,by (refine ⟨rfl,rfl,rfl,?_,?_⟩;repeat' first|exact trivial|exact rfl|refine And.intro ?_ ?_|refine ⟨_,rfl,?_⟩|decide)⟩
  ·refine ⟨by (omega),?_⟩
   rw [wsL_succ,if_pos ((bit_one s i).1 ‹s >>> ((i:Nat):Int).toNat&&&1#64=1#64›),List.map_append];rfl
  ·((simp only [vM] at *;omega))
 ·refine ⟨(i+1,_),[(0,0),(1,1),(2,2)],[],?_,?_,by (refine ⟨rfl,rfl,rfl,?_,?_⟩;repeat' first|exact trivial|exact rfl|refine And.intro ?_ ?_|refine ⟨_,rfl,?_⟩|decide)⟩
  ·refine ⟨by (omega),?_⟩
   rw [wsL_succ,if_neg (mt (bit_one s i).2 ‹¬s >>> ((i:Nat):Int).toNat&&&1#64=1#64›),List.append_nil]
  ·((simp only [vM] at *;omega))
 obtain rfl:i=p.W.toNat:=by omega
 have hwl:=wsL_len (s:=s) (n:=p.W.toNat)
 have hwm : ∀ x∈wsL s p.W.toNat,0≤x∧x < p.W:=fun x hx=>by have:=wsL_mem hx;omega
 generalize wsL s p.W.toNat=ws at hwl hwm
 refine loop_mem (fun ((k,zs):Nat×List D)=>[(2,.ptr 0 0),(4,.ptr 1 0),(8,.own 2),(10,.ptr 3 0),(58,.d (dU p.val)),(59,.d (.int .i64 ((p.val.map D.u64).length:Int))),(60,.d (.int .i64 ((k:Int))))]) (fun ((k,zs):Nat×List D)=>[(0,some (boxPM p)),(1,some box0),(2,some (.row 1 (ws.map (D.int .i64)))),(3,some (.box [.d (.int .i64 ((ws.map (D.int .i64)).length:Int)),.own 4,.nils 1,.nils 1])),(4,some (.row 1 zs))]) 5 (fun ((k,zs):Nat×List D)=>k≤p.val.length∧zs=(p.val.take k).map fun v=>D.u64 (packN v ws ws.length)) (fun ((k,zs):Nat×List D)=>p.val.length - k) ((0,[])) [(0,0),(1,1),(2,2),(3,3)]   [4] (⟨by simp,rfl⟩) (by (refine ⟨rfl,rfl,rfl,?_,?_⟩;repeat' first|exact trivial|exact rfl|exact ⟨_,rfl⟩|refine And.intro ?_ ?_|refine ⟨_,rfl,?_⟩|decide)) ?_
 rintro ⟨k,_⟩ ⟨hk,rfl⟩
 (repeat' ((conv=>whnf);first|refine vA ?_|(refine vF ?_ ?_<;>intro hc<;>try simp only [vL] at hc)|refine vJ fun hg=>?_|(refine vQ ?_ fun x hx=>?_;·omega)|fail));all_goals try conv=>whnf
 ·refine loop_mem (fun ((j,acc):Nat×BitVec 64)=>[(2,.ptr 0 0),(4,.ptr 1 0),(8,.own 2),(10,.ptr 3 0),(12,.d (.u64 (x))),(13,.d (.u64 (acc))),(58,.d (dU p.val)),(59,.d (.int .i64 ((p.val.map D.u64).length:Int))),(60,.d (.int .i64 ((k:Int)))),(64,.own 2),(65,.d (.int .i64 ((ws.map (D.int .i64)).length:Int))),(66,.d (.int .i64 ((j:Int))))]) (fun ((j,acc):Nat×BitVec 64)=>[(0,some (boxPM p)),(1,some box0),(2,some (.row 1 (ws.map (D.int .i64)))),(3,some (.box [.d (.int .i64 ((ws.map (D.int .i64)).length:Int)),.own 4,.nils 1,.nils 1])),(4,some (.row 1 ((p.val.take k).map fun v=>D.u64 (packN v ws ws.length))))]) 5 (fun ((j,acc):Nat×BitVec 64)=>j≤ws.length∧acc=packN x ws j) (fun ((j,acc):Nat×BitVec 64)=>ws.length - j) ((0,0)) [(0,0),(1,1),(2,2),(3,3),(4,4)] [] (⟨by simp,rfl⟩) (by (refine ⟨rfl,rfl,rfl,?_,?_⟩;repeat' first|exact trivial|exact rfl|refine And.intro ?_ ?_|refine ⟨_,rfl,?_⟩|decide)) ?_
  rintro ⟨j,_⟩ ⟨hj,rfl⟩
  (repeat' ((conv=>whnf);first|refine vA ?_|(refine vF ?_ ?_<;>intro hc<;>try simp only [vL] at hc)|(refine vQ ?_ fun x hx=>?_;·omega)|(refine vP ?_ ?_;·(simp only [vM] at *;omega))|fail));all_goals try conv=>whnf
  ·rename_i y hy
   refine NeedS.mk (hwm _ (List.mem_of_getElem? hx)).1 ?_
   (repeat' ((conv=>whnf);first|((first|refine vO ?_ ?_|refine vP ?_ ?_);·omega)|fail));all_goals try conv=>whnf
   refine ⟨(j+1,_),[(0,0),(1,1),(2,2),(3,3),(4,4)],[],?_,?_,by (refine ⟨rfl,rfl,rfl,?_,?_⟩;repeat' first|exact trivial|exact rfl|refine And.intro ?_ ?_|refine ⟨_,rfl,?_⟩|decide)⟩
   ·refine ⟨by (omega),?_⟩
    rw [packN,at0_of (l:=ws) (i:=j) hx];rfl
   ·((simp only [vM] at *;omega))
  ·obtain rfl:j=ws.length:=by omega
   have hkt:(p.val.take k).length=k:=List.length_take_of_le hk
   refine NeedS.mk (by simp only [List.length_map,hkt,mostLen,List.length_set,List.length_replicate];omega) ?_
   (repeat' ((conv=>whnf);first|(refine vO ?_ ?_;·omega)|fail));all_goals try conv=>whnf
   refine ⟨(k+1,_),[(0,0),(1,1),(2,2),(3,3),(4,6)],[],?_,?_,by (refine ⟨rfl,rfl,rfl,?_,?_⟩;repeat' first|exact trivial|exact rfl|refine And.intro ?_ ?_|refine ⟨_,rfl,?_⟩|decide)⟩
   ·refine ⟨by (omega),?_⟩
    rw [take_snoc hx,List.map_append];rfl
   ·((simp only [vM] at *;omega))
 have hkv:p.val.take k=p.val:=List.take_of_length_le (by omega)
 rw [hkv]
 refine loop_mem (fun ((a,xs,ys):Nat×List D×List D)=>[(2,.ptr 0 0),(4,.ptr 1 0),(8,.own 2),(10,.ptr 3 0),(89,.d (.int .i64 ((p.cell.map dI).length:Int))),(90,.d (.int .i64 ((a:Int))))]) (fun ((a,xs,ys):Nat×List D×List D)=>[(0,some (boxPM p)),(1,some box0),(2,some (.row 1 (ws.map (D.int .i64)))),(3,some (.box [.d (.int .i64 ((ws.map (D.int .i64)).length:Int)),.own 4,.own 5,.own 6])),(4,some (.row 1 (p.val.map fun v=>D.u64 (packN v ws ws.length)))),(5,some (.row 1 xs)),(6,some (.row 1 ys))]) 7 (fun ((a,xs,ys):Nat×List D×List D)=>a≤p.cell.length∧xs=(List.range a).map (fun a=>dI (cell2 p ws a))∧ys=(List.range a).map (fun a=>dI (rank3 p ws a))) (fun ((a,xs,ys):Nat×List D×List D)=>p.cell.length - a) ((0,[],[])) [(0,0),(1,1),(2,2),(3,3),(4,4)]   [5,6] (⟨by simp,rfl,rfl⟩) (by (refine ⟨rfl,rfl,rfl,?_,?_⟩;repeat' first|exact trivial|exact rfl|exact ⟨_,rfl⟩|refine And.intro ?_ ?_|refine ⟨_,rfl,?_⟩|decide)) ?_
 rintro ⟨a,_,_⟩ ⟨ha,rfl,rfl⟩
 (repeat' ((conv=>whnf);first|refine vA ?_|(refine vF ?_ ?_<;>intro hc<;>try simp only [vL] at hc)|refine vJ fun hg=>?_|(refine vP ?_ ?_;·(simp only [vM] at *;omega))|(refine vU ?_ ?_;·kernel_rfl)|fail));all_goals try conv=>whnf
 ·have hca:a < p.cell.length:=by omega
  refine loop_mem (fun ((j,us,vs):Nat×List D×List D)=>[(2,.ptr 0 0),(4,.ptr 1 0),(8,.own 2),(10,.ptr 3 0),(16,.ptr 7 0),(17,.own 8),(18,.own 9),(89,.d (.int .i64 ((p.cell.map dI).length:Int))),(90,.d (.int .i64 ((a:Int)))),(99,.own 2),(100,.d (.int .i64 ((ws.map (D.int .i64)).length:Int))),(101,.d (.int .i64 ((j:Int))))]) (fun ((j,us,vs):Nat×List D×List D)=>[(0,some (boxPM p)),(1,some box0),(2,some (.row 1 (ws.map (D.int .i64)))),(3,some (.box [.d (.int .i64 ((ws.map (D.int .i64)).length:Int)),.own 4,.own 5,.own 6])),(4,some (.row 1 (p.val.map fun v=>D.u64 (packN v ws ws.length)))),(5,some (.row 1 ((List.range a).map (fun a=>dI (cell2 p ws a))))),(6,some (.row 1 ((List.range a).map (fun a=>dI (rank3 p ws a))))),(7,some (.box [.d (.int .i64 (a:Int))])),(8,some (.row 1 us)),(9,some (.row 1 vs))]) 10 (fun ((j,us,vs):Nat×List D×List D)=>j≤ws.length∧us=(List.range ws.length).map (fun u=>D.int .i64 (if u < j then at0 (cell2 p ws a) u else 0))∧vs=(List.range ws.length).map (fun u=>D.int .i64 (if u < j then at0 (rank2 p ws a) u else 0))) (fun ((j,us,vs):Nat×List D×List D)=>ws.length - j) ((0,List.replicate ((ws.map (D.int .i64)).length:Int).toNat (D.int .i64 0),List.replicate ((ws.map (D.int .i64)).length:Int).toNat (D.int .i64 0))) [(0,0),(1,1),(2,2),(3,3),(4,4),(5,5),(6,6),(7,7),(8,8),(9,9)] [] (⟨by simp,by simp [List.map_const'],by simp [List.map_const']⟩) (by (refine ⟨rfl,rfl,rfl,?_,?_⟩;repeat' first|exact trivial|exact rfl|refine And.intro ?_ ?_|refine ⟨_,rfl,?_⟩|decide)) ?_
  rintro ⟨j,_,_⟩ ⟨hj,rfl,rfl⟩
  (repeat' ((conv=>whnf);first|refine vA ?_|(refine vF ?_ ?_<;>intro hc<;>try simp only [vL] at hc)|(refine vQ ?_ fun x hx=>?_;·omega)|(refine vP ?_ ?_;·(simp only [vM] at *;omega))|fail));all_goals try conv=>whnf
  ·have hxm:=hwm x (List.mem_of_getElem? hx)
   obtain ⟨v,rfl⟩ : ∃ v:Nat,x=v:=⟨x.toNat,by omega⟩
   obtain ⟨hlc,hlr⟩:=hg'.lens a hca
   have hlen:=hg'.len
   refine CallS.objs [0,7,10,2] (fn_IndexFunc p a v ws hca (by omega) (fun x hx=>by have:=hwm x hx;omega)) (by (repeat' first|exact rfl|refine And.intro ?_ ?_|refine ⟨_,rfl,?_⟩)) (by (repeat' first|exact rfl|refine And.intro ?_ ?_|refine ⟨_,rfl,?_⟩)) (by rfl) (by rfl) (by simp) ?_
   (repeat' ((conv=>whnf);first|(refine vQ ?_ fun x hx=>?_;·omega)|((first|refine vS ?_ fun x hx=>?_|refine vP ?_ ?_);·(simp only [vM] at *;omega))|fail));all_goals try conv=>whnf
   have e:=rowAt_of ‹p.rank[a]? = some _›
   subst e
   (repeat' ((conv=>whnf);first|(refine vQ ?_ fun x hx=>?_;·omega)|((first|refine vO ?_ ?_|refine vP ?_ ?_);·first|omega|(simp only [vM] at *;omega))|(refine vU ?_ ?_;·kernel_rfl)|fail));all_goals try conv=>whnf
   have hxj:ws[j]? = some (v:Int):=‹ws[((j:Nat):Int).toNat]? = some _›
   have hxr:=at0_of hx
   refine ⟨(j+1,_,_),[(0,0),(1,1),(2,2),(3,3),(4,4),(5,5),(6,6),(7,7),(8,8),(9,9)],[],?_,?_,by (refine ⟨rfl,rfl,rfl,?_,?_⟩;repeat' first|exact trivial|exact rfl|refine And.intro ?_ ?_|refine ⟨_,rfl,?_⟩|decide)⟩
   ·refine ⟨by (omega),(set_range _).trans (map_range_congr fun u hu=>?_),(set_range _).trans (map_range_congr fun u hu=>?_)⟩
    ·show (if u=j then _ else _)=_
     by_cases e:u=j
     ·subst e;rw [if_pos rfl,if_pos (Nat.lt_succ_self _),cell2,at0_map hxj];rfl
     ·by_cases e1:u < j
      ·simp [e1,e,show u < j+1 by omega]
      ·simp [e1,e,show ¬ u < j+1 by omega]
    ·show (if u=j then _ else _)=_
     by_cases e:u=j
     ·subst e;rw [if_pos rfl,if_pos (Nat.lt_succ_self _),rank2,at0_map hxj,← hxr];rfl
     ·by_cases e1:u < j
      ·simp [e1,e,show u < j+1 by omega]
      ·simp [e1,e,show ¬ u < j+1 by omega]
   ·((simp only [vM] at *;omega))
  ·obtain rfl:j=ws.length:=by omega
   rw [full_map (l:=cell2 p ws a) (by simp [cell2]),full_map (l:=rank2 p ws a) (by simp [rank2])]
   refine CallS.objs [8,9] (hRO (cell2 p ws a) (rank2 p ws a) (by simp [cell2,rank2]) (by simp only [rank2,List.length_map];omega)) (by (repeat' first|exact rfl|refine And.intro ?_ ?_|refine ⟨_,rfl,?_⟩)) (by (repeat' first|exact rfl|refine And.intro ?_ ?_)) (by rfl) (by rfl) (by simp) ?_
   (repeat' ((conv=>whnf);first|refine vA ?_|refine vJ fun hg=>?_));all_goals try conv=>whnf
   refine loop_mem (fun ((j,vs):Nat×List D)=>[(2,.ptr 0 0),(4,.ptr 1 0),(8,.own 2),(10,.ptr 3 0),(17,.own 8),(18,.own 9),(21,.d (.map (ranksD (cell2 p ws a) (rank2 p ws a)))),(89,.d (.int .i64 ((p.cell.map dI).length:Int))),(90,.d (.int .i64 ((a:Int)))),(128,.d (.int .i64 ((ws.map (D.int .i64)).length:Int))),(129,.d (.int .i64 ((j:Int))))]) (fun ((j,vs):Nat×List D)=>[(0,some (boxPM p)),(1,some box0),(2,some (.row 1 (ws.map (D.int .i64)))),(3,some (.box [.d (.int .i64 ((ws.map (D.int .i64)).length:Int)),.own 4,.own 5,.own 6])),(4,some (.row 1 (p.val.map fun v=>D.u64 (packN v ws ws.length)))),(5,some (.row 1 ((List.range a).map (fun a=>dI (cell2 p ws a))))),(6,some (.row 1 ((List.range a).map (fun a=>dI (rank3 p ws a))))),(8,some (.row 1 ((cell2 p ws a).map (D.int .i64)))),(9,some (.row 1 vs))]) 10 (fun ((j,vs):Nat×List D)=>j≤ws.length∧vs=(List.range ws.length).map (fun u=>D.int .i64 (if u < j then at0 (rank3 p ws a) u else at0 (rank2 p ws a) u))) (fun ((j,vs):Nat×List D)=>ws.length - j) ((0,(rank2 p ws a).map (D.int .i64))) [(0,0),(1,1),(2,2),(3,3),(4,4),(5,5),(6,6),(8,8),(9,9)] [] (⟨by simp,(rest_map (l:=rank2 p ws a) (by simp [rank2])).symm⟩) (by (refine ⟨rfl,rfl,rfl,?_,?_⟩;repeat' first|exact trivial|exact rfl|refine And.intro ?_ ?_|refine ⟨_,rfl,?_⟩|decide)) ?_
   rintro ⟨j,_⟩ ⟨hj,rfl⟩
   have hlc2:(cell2 p ws a).length=ws.length:=by simp [cell2]
   (repeat' ((conv=>whnf);first|refine vA ?_|(refine vF ?_ ?_<;>intro hc<;>try simp only [vL] at hc)|refine vT ?_|(refine vQ ?_ fun x hx=>?_;·omega)|((first|refine vO ?_ ?_|refine vP ?_ ?_);·first|omega|(simp only [vM] at *;omega))|(refine vU ?_ ?_;·kernel_rfl)|fail));all_goals try conv=>whnf
   ·have hxc:(cell2 p ws a)[j]? = some x:=hx
    refine ⟨_,find_ranks (mem_keysOf.2 (List.mem_of_getElem? hxc)),?_⟩
    (repeat' ((conv=>whnf);first|(refine vQ ?_ fun x hx=>?_;·(simp only [vM] at *;omega))|((first|refine vO ?_ ?_|refine vP ?_ ?_);·first|omega|(simp only [vM] at *;omega))|(refine vU ?_ ?_;·kernel_rfl)|refine yD (fn_Index_int _ _) ⟨⟨rfl,rfl⟩,⟨rfl,rfl⟩,rfl⟩ rfl ?_));all_goals try conv=>whnf
    have hxe:j=x:=(get_range hx).symm
    subst hxe
    have hxr:=at0_of hxc
    refine ⟨(j+1,_),[(0,0),(1,1),(2,2),(3,3),(4,4),(5,5),(6,6),(8,8),(9,9)],[],?_,?_,by (refine ⟨rfl,rfl,rfl,?_,?_⟩;repeat' first|exact trivial|exact rfl|refine And.intro ?_ ?_|refine ⟨_,rfl,?_⟩|decide)⟩
    ·refine ⟨by (omega),(set_range _).trans (map_range_congr fun u hu=>?_)⟩
     show (if u=_ then _ else _)=_
     by_cases e:u=j
     ·subst e
      rw [if_pos (show u=((u:Nat):Int).toNat from rfl),if_pos (Nat.lt_succ_self _),rank3_at hu,hxr]
      simp
     ·by_cases e1:u < j
      ·simp [e1,e,show u < j+1 by omega]
      ·simp [e1,e,show ¬ u < j+1 by omega]
    ·((simp only [vM] at *;omega))
   ·obtain rfl:j=ws.length:=by omega
    refine ⟨(a+1,_,_),[(0,0),(1,1),(2,2),(3,3),(4,4),(5,11),(6,13)],[],?_,?_,by (refine ⟨rfl,rfl,rfl,?_,?_⟩;repeat' first|exact trivial|exact rfl|refine And.intro ?_ ?_|refine ⟨_,rfl,?_⟩|decide)⟩
    ·refine ⟨by (omega),?_,?_⟩
     ·rw [List.range_succ,List.map_append];rfl
     ·rw [List.range_succ,List.map_append]
      exact congrArg (_++[D.arr 1 ·]) (full_map2 (by simp [rank3]))
    ·((simp only [vM] at *;omega))
 ·have hae:a=p.cell.length:=by omega
  subst hae
  refine ⟨trivial,_,[(0,2)],[],rfl,.inr (.inr ⟨_,_,rfl,rfl,rfl,fun i hi=>?_⟩),⟨by rfl,by rfl,by rfl,trivial,by (repeat' first|exact trivial|exact rfl|refine And.intro ?_ ?_|refine ⟨_,rfl,?_⟩|exact of_decide_eq_true rfl)⟩,by (repeat' exact trivial)⟩
  match i,hi with
  | 0,_ =>
   refine .inr ⟨_,rfl,?_,by rfl⟩
   show some (D.agg [.int .i64 ((ws.map (D.int .i64)).length:Int),.arr 1 (p.val.map fun v=>D.u64 (packN v ws ws.length)),.arr 1 ((List.range p.cell.length).map (fun a=>dI (cell2 p ws a))),.arr 1 ((List.range p.cell.length).map (fun a=>dI (rank3 p ws a)))])=_
   rw [List.length_map]
   show _=some (D.agg [.int .i64 (ws.length:Int),.arr 1 ((p.val.map fun v=>packN v ws ws.length).map D.u64),.arr 1 (((List.range p.cell.length).map (cell2 p ws)).map dI),.arr 1 (((List.range p.cell.length).map (rank3 p ws)).map dI)])
   rw [List.map_map,List.map_map,List.map_map];rfl
  | 1,_=>exact .inl (by (repeat' exact rfl))
  | 2,_=>exact .inl (by (repeat' exact rfl))
end Go.Ab
namespace Go.Ab
open Go Go.Proofs
set_option linter.unusedSimpArgs false
set_option linter.unusedVariables false
set_option maxRecDepth 10000
set_option maxHeartbeats 4000000
variable {T : Nat → Obj → Prop}
def dKd (x : Int × Nat × List D) : D := .agg [.int .i64 x.1, .fn x.2.1 x.2.2]
abbrev everyD (g : Nat) : D := .fn f_upgrade_every_1 [.box [.fn g []]]
abbrev kindL : List (Int × Nat × List D) := [(1, f_upgrade_Hard, []), (2, f_upgrade_every_1, [.box [.fn f_upgrade_Radical []]]), (3, f_upgrade_every_1, [.box [.fn f_upgrade_Conservative []]])]
theorem fn_everyU (g : Nat) : Fn Tryz.prog T f_upgrade_every [.d (.fn g [])] [] (.d (everyD g)) [] := by
  refine fn_dataR hmix k_upgrade_every (by show 1 ≤ 4; decide) ?_
  (repeat' ((conv=>whnf);fail));all_goals try conv=>whnf
  rfl
theorem fn_kinds : Fn Tryz.prog T f_upgrade_kinds [] [] (.d (.arr 2 (kindL.map dKd))) [] := by
  refine fn_dataR hmix k_upgrade_kinds (by show 0 ≤ 7; decide) ?_
  (repeat' ((conv=>whnf);refine yN (fn_everyU _) ⟨⟨rfl,rfl⟩,rfl⟩ ?_));all_goals try conv=>whnf
  rfl
theorem fn_Sequence_1 (k : Int × Nat × List D) (n : Int) : Fn Tryz.prog T f_upgrade_Sequence_1 [.d (dKd k), .d (.box [.int .i64 n])] [] (.d (.bool (decide (k.1 = n)))) [] := by
  refine fn_dataR hmix k_upgrade_Sequence_1 (by show 2 ≤ 8; decide) ?_
  (repeat' ((conv=>whnf);refine vZ ?_));all_goals try conv=>whnf
theorem fn_IndexK (l : List (Int × Nat × List D)) (n : Int) : Fn Tryz.prog T f_slices_IndexFunc_Lupgrade_kind_upgrade_kind_ [.d (.arr 2 (l.map dKd)), .d (.fn f_upgrade_Sequence_1 [.box [.int .i64 n]])] [] (.d (.int .i64 (findL (fun k => decide (k.1 = n)) l))) [] := by
  generalize hV : findL (fun k : Int × Nat × List D => decide (k.1 = n)) l = V
  refine fn_dataR hmix k_slices_IndexFunc_Lupgrade_kind_upgrade_kind_ (by show 2 ≤ 19; decide) ?_
  (repeat' ((conv=>whnf);first|refine vA ?_|refine vJ fun hg=>?_));all_goals try conv=>whnf
  refine loop_intro (fun (k : Nat) => [(0, .d (.arr 2 (l.map dKd))), (1, .d (.fn f_upgrade_Sequence_1 [.box [.int .i64 n]])), (7, .d (.int .i64 ((l.map dKd).length : Int))), (8, .d (.int .i64 ((k : Int))))]) (fun (k : Nat) => k ≤ l.length ∧ ∀ i y, i < k → l[i]? = some y → decide (y.1 = n) = false) (fun (k : Nat) => l.length - k) (0) (⟨by simp, by simp⟩) (by (repeat' first|exact trivial|exact rfl|refine And.intro ?_ ?_)) ?_
  rintro k ⟨hk, hI⟩
  (repeat' ((conv=>whnf);first|refine vA ?_|(refine vF ?_ ?_<;>intro hc<;>try simp only [vL] at hc)|(refine vQ ?_ fun x hx=>?_;·omega)|(refine vO ?_ ?_;·omega)|refine vX ?_|refine yD (fn_Sequence_1 _ _) ⟨⟨rfl,rfl⟩,⟨rfl,rfl⟩,rfl⟩ rfl ?_));all_goals try conv=>whnf
  · obtain rfl : V = (k : Int) := by rw [← hV]; exact findL_hit hx (decide_eq_true hc) hI
    rfl
  · have hne := decide_eq_false hc
    exact ⟨k + 1, [], [], ⟨by (omega), fun i y hi hy => by
          by_cases e : i = k
          · subst e; rw [show l[i]? = some x from hx] at hy; cases hy; exact hne
          · exact hI i y (by omega) hy⟩, by (omega), by (refine ⟨rfl,rfl,rfl,?_,?_⟩;repeat' first|exact trivial|exact rfl|refine And.intro ?_ ?_)⟩
  · obtain rfl : V = -1 := by rw [← hV]; exact findL_none fun i y hi hy => hI i y (by omega) hy
    rfl
section
variable (g : Nat) (p : PM) (f : List Nd) (q : PM) (e : Int) (cg : Fn Tryz.prog T g [.d (dPM p), .d (dF f)] [] (.d (dPI (q, e))) [])
include cg
theorem fn_every1E (he : e ≠ 0) : Fn Tryz.prog T f_upgrade_every_1 [.d (dPM p), .d (dF f), .d (.box [.fn g []])] [] (.d (dPLI (noP, [], e))) [] := by
  refine fn_dataR hmix k_upgrade_every_1 (by show 3 ≤ 38; decide) ?_
  (repeat' ((conv=>whnf);first|refine vA ?_|(refine vD ?_ ?_<;>intro hc<;>try simp only [vL] at hc)|refine vK fun hg=>?_|(refine vP ?_ ?_;·omega)|refine yN cg (by (repeat refine ⟨⟨rfl,rfl⟩,?_⟩);rfl) ?_));all_goals try conv=>whnf
  · rfl
  all_goals exact absurd ‹e = 0› he
theorem fn_every1 (he : e = 0) (hW : 0 ≤ q.W) (hW' : q.W ≤ 64) : Fn Tryz.prog T f_upgrade_every_1 [.d (dPM p), .d (dF f), .d (.box [.fn g []])] [] (.tup [.d (dPM q), .own 0, .d (.int .i64 0)]) [some (.row 1 ((List.range q.W.toNat).map fun i : Nat => D.int .i64 (i : Int)))] := by
  subst he
  refine fn_introR hmix k_upgrade_every_1 (by show 3 ≤ 38; decide) _ (fun e env mem n h => h) ?_
  (repeat' ((conv=>whnf);first|refine vA ?_|refine vH ?_|refine vK fun hg=>?_|(refine vP ?_ ?_;·(simp only [vM] at *;omega))|refine yN cg (by (repeat refine ⟨⟨rfl,rfl⟩,?_⟩);rfl) ?_));all_goals try conv=>whnf
  have hlr : (List.replicate (q, (0 : Int)).fst.W.toNat (D.int IntKind.i64 0)).length = q.W.toNat := List.length_replicate
  refine loop_mem (fun ((k, zs) : Nat × List D) => [(5, .ptr 1 0), (8, .ptr 2 0), (10, .own 3), (27, .d (.int .i64 (((List.replicate (q, (0 : Int)).fst.W.toNat (D.int .i64 0)).length : Int)))), (28, .d (.int .i64 ((k : Int))))]) (fun ((k, zs) : Nat × List D) => [(0, some (boxPM p)), (1, some box0), (2, some (boxPM q)), (3, some (.row 1 zs))]) 4 (fun ((k, zs) : Nat × List D) => k ≤ q.W.toNat ∧ zs = (List.range q.W.toNat).map (fun u : Nat => D.int .i64 (if u < k then (u : Int) else 0))) (fun ((k, zs) : Nat × List D) => q.W.toNat - k) ((0, List.replicate q.W.toNat (D.int .i64 0))) [(0, 0), (1, 1), (2, 2), (3, 3)] [] (⟨by simp, by simp [List.map_const']⟩) (by (refine ⟨rfl,rfl,rfl,?_,?_⟩;repeat' first|exact trivial|exact rfl|refine And.intro ?_ ?_|refine ⟨_,rfl,?_⟩|decide)) ?_
  rintro ⟨k, _⟩ ⟨hk, rfl⟩
  (repeat' ((conv=>whnf);first|refine vA ?_|(refine vF ?_ ?_<;>intro hc<;>try simp only [vL] at hc)|((first|refine vO ?_ ?_|refine vP ?_ ?_);·first|omega|(simp only [vM] at *;omega))|fail));all_goals try conv=>whnf
  · refine ⟨(k + 1, _), [(0, 0), (1, 1), (2, 2), (3, 3)], [], ?_, ?_, by (refine ⟨rfl,rfl,rfl,?_,?_⟩;repeat' first|exact trivial|exact rfl|refine And.intro ?_ ?_|refine ⟨_,rfl,?_⟩|decide)⟩
    · refine ⟨by (omega), (set_range _).trans (map_range_congr fun u hu => ?_)⟩
      show (if u = _ then _ else _) = _
      by_cases e : u = k
      · subst e; rw [if_pos (show u = ((u : Nat) : Int).toNat from rfl), if_pos (Nat.lt_succ_self _)]
      · by_cases e1 : u < k
        · simp [e1, e, show u < k + 1 by omega]
        · simp [e1, e, show ¬ u < k + 1 by omega]
    · ((simp only [vM] at *;omega))
  obtain rfl : k = q.W.toNat := by omega
  have hz : (List.range q.W.toNat).map (fun u : Nat => D.int .i64 (if u < q.W.toNat then (u : Int) else 0)) = (List.range q.W.toNat).map fun i : Nat => D.int .i64 (i : Int) := map_range_congr fun u hu => by rw [if_pos hu]
  rw [hz]
  refine ⟨trivial, _, [(0, 3)], [], rfl, .inl (by (repeat' first|exact rfl|refine And.intro ?_ ?_|refine ⟨_,rfl,?_⟩)), ⟨by rfl, by rfl, by rfl, trivial, by (repeat' first|exact trivial|exact rfl|refine And.intro ?_ ?_|refine ⟨_,rfl,?_⟩|exact of_decide_eq_true rfl)⟩, by (repeat' exact trivial)⟩
end
end Go.Ab
namespace Go.Ab
open Go Go.Proofs
set_option linter.unusedVariables false
set_option linter.unusedSimpArgs false
def rk (r:List (BitVec 64)) (w:Nat):Nat:=(finU (belowQ r w r.length)).length
theorem most {α:Type} (f:α→Nat) : ∀ {l:List α},l≠[] → ∃ x∈l,∀ y∈l,f y≤f x
 | [],h=>absurd rfl h
 | [x],_=>⟨x,by simp,by simp⟩
 | x::y::t,_=>by
  obtain ⟨z,h1,h2⟩:=most f (l:=y::t) (by simp)
  by_cases hz:f x≤f z
  ·refine ⟨z,List.mem_cons_of_mem _ h1,fun u hu=>?_⟩
   rcases List.mem_cons.1 hu with rfl|hu
   ·exact hz
   ·exact h2 u hu
  ·refine ⟨x,by simp,fun u hu=>?_⟩
   rcases List.mem_cons.1 hu with rfl|hu
   ·exact Nat.le_refl _
   ·have:=h2 u hu;omega
def cmp (r:List (BitVec 64)) (w v:Nat):Bool:=rb r w v||rb r v w
structure PreO (r:List (BitVec 64)):Prop where
 len:r.length≤64
 ins : ∀ w v,rb r w v=true→v < r.length
 refl : ∀ w,w < r.length→rb r w w=true
 tr : ∀ w u v,rb r w u=true→rb r u v=true→rb r w v=true
 conn : ∀ w v i,cmp r w v=true→cmp r w i=true→cmp r v i=true
namespace PreO
variable {r:List (BitVec 64)} (h:PreO r)
include h
end PreO
end Go.Ab
namespace Go.Ab
open Go Go.Proofs
set_option linter.unusedVariables false
set_option linter.unusedSimpArgs false
def lowC (r:List (BitVec 64)) (w:Nat):Nat:=Lib.ctz 64 (uAt r w|||uAt (revL r) w).toNat
namespace PreO
variable {r:List (BitVec 64)} (h:PreO r)
include h
end PreO
theorem weak_len {p:PM} {a:Nat} : (weakL p a).length=p.W.toNat:=by simp [weakL]
theorem rb_weak {p:PM} {a:Nat} (hW:p.W≤64) {w v:Nat} : rb (weakL p a) w v=(decide (w < p.W.toNat)&&decide (v < p.W.toNat)&&(at0 (rowAt p.cell a) v==at0 (rowAt p.cell a) w)&&decide (at0 (rowAt p.rank a) v≤at0 (rowAt p.rank a) w)):=by
 by_cases hw:w < p.W.toNat
 ·have:(weakL p a)[w]? = some (weakRow (rowAt p.cell a) (rowAt p.rank a) w p.W.toNat):=by simp [weakL,hw]
  rw [rb_of this,weakRow,setTo_bit]
  by_cases hv:v < p.W.toNat
  ·simp [hw,hv,show v < 64 by omega]
  ·simp [hv]
 ·rw [rb_out (by rw [weak_len];omega)];simp [hw]
theorem rb_weak_iff {p:PM} {a:Nat} (hW:p.W≤64) {w v:Nat} : rb (weakL p a) w v=true↔w < p.W.toNat∧v < p.W.toNat∧at0 (rowAt p.cell a) v=at0 (rowAt p.cell a) w∧at0 (rowAt p.rank a) v≤at0 (rowAt p.rank a) w:=by
 rw [rb_weak hW]
 simp only [Bool.and_eq_true,decide_eq_true_eq,beq_iff_eq,and_assoc]
theorem rowAt_map {α:Type} {l:List α} {f:α→List Int} {a:Nat} {x:α} (h:l[a]? = some x):rowAt (l.map f) a=f x:=rowAt_of (by rw [List.getElem?_map,h];rfl)
theorem check_of {p:PM} (h0:shapeL p.W p.cell.length p.val=0) (h1:p.rank.length=p.cell.length) (h2:Lens p) (h3:AllCells p) (h4:AllRanked p):checkL p=0:=by
 unfold checkL
 rw [if_neg (not_not_intro h0),if_neg (not_not_intro h1),if_neg (not_not_intro h2),if_neg (not_not_intro h3),if_neg (not_not_intro h4)]
end Go.Ab
namespace Go.Ab
open Go Go.Proofs
set_option linter.unusedVariables false
set_option linter.unusedSimpArgs false
theorem findL_spec {α:Type} {p:α→Bool} {l:List α} : ∀ (i:Nat) (x:α),l[i]? = some x→p x=true → ∃ k y,findL p l=((k:Nat):Int)∧k≤i∧l[k]? = some y∧p y=true ∧ ∀ j z,j < k→l[j]? = some z→p z=false:=by
 intro i
 induction i using Nat.strongRecOn with
 | _ i ih =>
  intro x hx hp
  by_cases h : ∃ j z,j < i∧l[j]? = some z∧p z=true
  ·obtain ⟨j,z,h1,h2,h3⟩:=h
   obtain ⟨k,y,a1,a2,a3,a4,a5⟩:=ih j h1 z h2 h3
   exact ⟨k,y,a1,by omega,a3,a4,a5⟩
  ·have hn : ∀ j z,j < i→l[j]? = some z→p z=false:=fun j z h1 h2=>by
    cases hb:p z with
    | false=>rfl
    | true=>exact absurd ⟨j,z,h1,h2,hb⟩ h
   exact ⟨i,x,findL_hit hx hp hn,Nat.le_refl _,hx,hp,hn⟩
theorem packN_bit {v:BitVec 64} {ws:List Int} : ∀ (n i:Nat),(packN v ws n).getLsbD i=(decide (i < 64)&&decide (i < n)&&v.getLsbD (at0 ws i).toNat)
 | 0,i=>by simp [packN]
 | n+1,i=>by
  have hone : ∀ j,((v >>> (at0 ws n).toNat)&&&1#64).getLsbD j=(decide (j=0)&&v.getLsbD (at0 ws n).toNat):=fun j=>by
   rw [BitVec.getLsbD_and,BitVec.getLsbD_ushiftRight]
   by_cases h:j=0
   ·subst h;simp
   ·simp [h]
  rw [packN,BitVec.getLsbD_or,packN_bit n i,BitVec.getLsbD_shiftLeft,hone]
  by_cases h64:i < 64
  ·by_cases h1:i=n
   ·subst h1;simp [h64]
   ·by_cases h2:i < n
    ·simp [h64,h2,show i < n+1 by omega]
    ·have:i - n≠0:=by omega
     simp [h64,h2,show ¬ i < n+1 by omega,this]
  ·simp [h64]
theorem mem_wsL {s:BitVec 64} {n:Nat} {x:Int} : x∈wsL s n ↔ ∃ i:Nat,i < n∧s.getLsbD i=true∧x=i:=by
 unfold wsL
 rw [List.mem_map]
 constructor
 ·rintro ⟨i,h,rfl⟩
  rw [List.mem_filter,List.mem_range] at h
  exact ⟨i,h.1,h.2,rfl⟩
 ·rintro ⟨i,h1,h2,rfl⟩
  exact ⟨i,List.mem_filter.2 ⟨List.mem_range.2 h1,h2⟩,rfl⟩
section
variable {p:PM} {ws:List Int} {a:Nat}
def cAt (p:PM) (ws:List Int) (a i:Nat):Int:=at0 (rowAt p.cell a) (at0 ws i).toNat
def rAt (p:PM) (ws:List Int) (a i:Nat):Int:=at0 (rowAt p.rank a) (at0 ws i).toNat
theorem cell2_len:(cell2 p ws a).length=ws.length:=by simp [cell2]
theorem rank3_len:(rank3 p ws a).length=ws.length:=by simp [rank3]
theorem at0_rank2 {i:Nat} (h:i < ws.length):at0 (rank2 p ws a) i=rAt p ws a i:=at0_map (get_at0 h)
theorem cell2_spec {i:Nat} (h:i < ws.length) : ∃ k,at0 (cell2 p ws a) i=((k:Nat):Int)∧k≤i∧cAt p ws a k=cAt p ws a i ∧ ∀ j,j < ws.length→cAt p ws a j=cAt p ws a i→k≤j:=by
 have e:at0 (cell2 p ws a) i=findL (fun x:Int=>decide (at0 (rowAt p.cell a) x.toNat=at0 (rowAt p.cell a) (at0 ws i).toNat)) ws:=at0_map (get_at0 h)
 obtain ⟨k,y,h1,h2,h3,h4,h5⟩:=findL_spec (p:=fun x:Int=>decide (at0 (rowAt p.cell a) x.toNat=at0 (rowAt p.cell a) (at0 ws i).toNat)) i (at0 ws i) (get_at0 h) (by simp)
 refine ⟨k,e.trans h1,h2,?_,fun j hj hc=>?_⟩
 ·unfold cAt
  rw [at0_of h3]
  exact of_decide_eq_true h4
 ·apply Classical.byContradiction
  intro hn
  have:=h5 j _ (by omega) (get_at0 hj)
  rw [show at0 (rowAt p.cell a) (at0 ws j).toNat=at0 (rowAt p.cell a) (at0 ws i).toNat from hc] at this
  simp at this
theorem cell2_eq {i j:Nat} (hi:i < ws.length) (hj:j < ws.length):at0 (cell2 p ws a) i=at0 (cell2 p ws a) j↔cAt p ws a i=cAt p ws a j:=by
 obtain ⟨k,h1,h2,h3,h4⟩:=cell2_spec (p:=p) (a:=a) hi
 obtain ⟨l,g1,g2,g3,g4⟩:=cell2_spec (p:=p) (a:=a) hj
 rw [h1,g1]
 constructor
 ·intro e
  have:k=l:=by omega
  subst this
  exact h3.symm.trans g3
 ·intro e
  have:=h4 l (by omega) (g3.trans e.symm)
  have:=g4 k (by omega) (h3.trans e)
  omega
theorem cells2:Cells (cell2 p ws a):=by
 intro i hi
 rw [cell2_len] at hi
 obtain ⟨k,h1,h2,h3,h4⟩:=cell2_spec (p:=p) (a:=a) hi
 refine ⟨by omega,by omega,?_⟩
 rw [h1,Int.toNat_natCast,← h1]
 exact (cell2_eq (by omega) hi).2 h3
theorem rising_inj {l:List Int} (h:Rising l) {i j:Nat} (hi:i < l.length) (hj:j < l.length):at0 l i≤at0 l j↔i≤j:=by
 constructor
 ·intro e
  apply Classical.byContradiction
  intro hn
  have:=rising_at0 h (show j < i by omega) hi
  omega
 ·intro e
  by_cases hij:i=j
  ·subst hij;exact Int.le_refl _
  ·have:=rising_at0 h (show i < j by omega) hj
   omega
abbrev rks (p:PM) (ws:List Int) (a i:Nat):List Int:=ranksOf (cell2 p ws a) (rank2 p ws a) (at0 (cell2 p ws a) i)
theorem mem_rks {i:Nat} {x:Int} (hi:i < ws.length):x∈rks p ws a i ↔ ∃ j,j < ws.length∧cAt p ws a j=cAt p ws a i∧rAt p ws a j=x:=by
 rw [mem_ranksOf]
 constructor
 ·rintro ⟨w,h1,h2,h3⟩
  rw [cell2_len] at h1
  exact ⟨w,h1,(cell2_eq h1 hi).1 h2,by rw [← at0_rank2 h1];exact h3⟩
 ·rintro ⟨w,h1,h2,h3⟩
  exact ⟨w,by rw [cell2_len];exact h1,(cell2_eq h1 hi).2 h2,by rw [at0_rank2 h1];exact h3⟩
theorem rank3_spec {i:Nat} (hi:i < ws.length) : ∃ m,at0 (rank3 p ws a) i=((m:Nat):Int)∧m < (rks p ws a i).length∧at0 (rks p ws a i) m=rAt p ws a i:=by
 have hm:rAt p ws a i∈rks p ws a i:=(mem_rks hi).2 ⟨i,hi,rfl,rfl⟩
 obtain ⟨k,hk⟩:=List.getElem?_of_mem hm
 obtain ⟨m,y,h1,h2,h3,h4,h5⟩:=findL_spec (p:=fun y:Int=>at0 (rank2 p ws a) i==y) k _ hk (by rw [at0_rank2 hi];simp)
 refine ⟨m,(rank3_at hi).trans h1,(List.getElem?_eq_some_iff.1 h3).1,?_⟩
 rw [at0_of h3]
 have:at0 (rank2 p ws a) i=y:=by simpa using h4
 rw [← this,at0_rank2 hi]
theorem rks_eq {i j:Nat} (hi:i < ws.length) (hj:j < ws.length) (h:cAt p ws a i=cAt p ws a j):rks p ws a i=rks p ws a j:=by
 unfold rks
 rw [(cell2_eq hi hj).2 h]
theorem rank3_le {i j:Nat} (hi:i < ws.length) (hj:j < ws.length) (h:cAt p ws a i=cAt p ws a j):at0 (rank3 p ws a) i≤at0 (rank3 p ws a) j↔rAt p ws a i≤rAt p ws a j:=by
 obtain ⟨m,h1,h2,h3⟩:=rank3_spec (p:=p) (a:=a) hi
 obtain ⟨n,g1,g2,g3⟩:=rank3_spec (p:=p) (a:=a) hj
 rw [rks_eq hi hj h] at h2 h3
 have hr:Rising (rks p ws a j):=rising_sortD
 rw [h1,g1,← h3,← g3,rising_inj hr h2 g2]
 exact Int.ofNat_le
theorem ranked3:Ranked (cell2 p ws a) (rank3 p ws a):=by
 intro i hi
 rw [cell2_len] at hi
 obtain ⟨m,h1,h2,h3⟩:=rank3_spec (p:=p) (a:=a) hi
 refine ⟨by omega,?_⟩
 by_cases h0:m=0
 ·left;omega
 ·right
  have hx:at0 (rks p ws a i) (m - 1)∈rks p ws a i:=mem_at0.2 ⟨m - 1,by omega,rfl⟩
  obtain ⟨j,h4,h5,h6⟩:=(mem_rks hi).1 hx
  refine ⟨j,by rw [cell2_len];exact h4,(cell2_eq h4 hi).2 h5,?_⟩
  obtain ⟨n,g1,g2,g3⟩:=rank3_spec (p:=p) (a:=a) h4
  rw [rks_eq h4 hi h5] at g2 g3
  rw [h6] at g3
  have hr:Rising (rks p ws a i):=rising_sortD
  have e1:=(rising_inj hr g2 (show m - 1 < (rks p ws a i).length by omega)).1 (Int.le_of_eq g3)
  have e2:=(rising_inj hr (show m - 1 < (rks p ws a i).length by omega) g2).1 (Int.le_of_eq g3.symm)
  omega
end
theorem rest_ok {p:PM} (hg:Good p) {s:BitVec 64} (hs:s &&& ~~~(allL p.W)=0) (h0 : ¬s=0) {ws:List Int} (hws:ws=wsL s p.W.toNat) :
  (1≤ws.length∧ws.length≤64)∧checkL (restPM p ws)=0 ∧ ∀ a,a < p.cell.length → ∀ i k,i < ws.length→k < ws.length→rb (weakL (restPM p ws) a) i k=rb (weakL p a) (at0 ws i).toNat (at0 ws k).toNat:=by
 have hw1:=hg.w1
 have hw2:=hg.w2
 have hl:ws.length≤64:=by have:=wsL_len (s:=s) (n:=p.W.toNat);rw [← hws] at this;omega
 have hb : ∀ i,s.getLsbD i=true→(i:Int) < p.W:=by
  have:bad p.W s=false:=by
   rw [bad,decide_eq_false_iff_not,Classical.not_not];exact hs
  exact (bad_false (by omega)).1 this
 have hl1:1≤ws.length:=by
  apply Classical.byContradiction
  intro hn
  apply h0
  apply BitVec.eq_of_getLsbD_eq
  intro i _
  cases hbi:s.getLsbD i with
  | false=>simp
  | true =>
   have:=hb i hbi
   have hm:(i:Int)∈ws:=by rw [hws];exact mem_wsL.2 ⟨i,by omega,hbi,rfl⟩
   have:=List.length_pos_of_mem hm
   omega
 have hW:(restPM p ws).W=ws.length:=rfl
 have hm : ∀ i,i < ws.length→0≤at0 ws i∧at0 ws i < p.W:=fun i hi=>by
  have:at0 ws i∈ws:=mem_at0.2 ⟨i,hi,rfl⟩
  rw [hws] at this
  obtain ⟨j,h1,h2,h3⟩:=mem_wsL.1 this
  rw [← hws] at h3
  omega
 have rc : ∀ a,a < p.cell.length→rowAt (restPM p ws).cell a=cell2 p ws a:=fun a ha=>by
  show rowAt ((List.range p.cell.length).map (cell2 p ws)) a=_
  exact rowAt_map (by simp [ha])
 have rr : ∀ a,a < p.cell.length→rowAt (restPM p ws).rank a=rank3 p ws a:=fun a ha=>by
  show rowAt ((List.range p.cell.length).map (rank3 p ws)) a=_
  exact rowAt_map (by simp [ha])
 have hcl:(restPM p ws).cell.length=p.cell.length:=by simp [restPM]
 refine ⟨⟨hl1,hl⟩,check_of ?_ ?_ ?_ ?_ ?_,fun a ha i k hi hk=>?_⟩
 ·have h4:=hg.n4
  have h8:=hg.v8
  show shapeL (ws.length:Int) ((restPM p ws).cell.length:Int) (p.val.map fun v=>packN v ws ws.length)=0
  rw [hcl]
  unfold shapeL
  rw [if_neg (by omega),if_neg (by rw [List.length_map];omega),if_neg]
  rw [List.any_map,List.any_eq_true]
  rintro ⟨v,-,hv⟩
  have:bad (ws.length:Int) (packN v ws ws.length)=false:=(bad_false (by omega)).2 fun i hi=>by
   rw [packN_bit] at hi
   simp only [Bool.and_eq_true,decide_eq_true_eq] at hi
   omega
  simp only [Function.comp] at hv
  rw [this] at hv;cases hv
 ·simp [restPM]
 ·intro a ha
  rw [hcl] at ha
  rw [rc a ha,rr a ha,cell2_len,rank3_len]
  exact ⟨rfl,rfl⟩
 ·intro a ha
  rw [hcl] at ha
  rw [rc a ha];exact cells2
 ·intro a ha
  rw [hcl] at ha
  rw [rc a ha,rr a ha];exact ranked3
 ·rw [Bool.eq_iff_iff,rb_weak_iff (by rw [hW];omega),rb_weak_iff hw2,rc a ha,rr a ha,hW]
  obtain ⟨a1,a2⟩:=hm i hi
  obtain ⟨b1,b2⟩:=hm k hk
  have e1:=cell2_eq (p:=p) (a:=a) hk hi
  constructor
  ·rintro ⟨-,-,h3,h4⟩
   have h5:=e1.1 h3
   exact ⟨by omega,by omega,h5,(rank3_le hk hi h5).1 h4⟩
  ·rintro ⟨-,-,h3,h4⟩
   exact ⟨by omega,by omega,e1.2 h3,(rank3_le hk hi h3).2 h4⟩
end Go.Ab
namespace Go.Ab
open Go Go.Proofs
set_option linter.unusedSimpArgs false
set_option linter.unusedVariables false
set_option maxRecDepth 10000
set_option maxHeartbeats 4000000
variable {T:Nat→Obj→Prop}
theorem ints_of {p:PM} (hc0:checkL p=0):IntsOk p.rank:=by
 have hg:=checkL_good hc0
 have h2:=hg.w2
 intro r hr x hx
 obtain ⟨a,ha,rfl⟩:=List.mem_iff_getElem.1 hr
 have ha':a < p.cell.length:=by rw [← hg.len];exact ha
 obtain ⟨w,hw,rfl⟩:=List.mem_iff_getElem.1 hx
 have hl:=hg.lens a ha'
 have e:rowAt p.rank a=p.rank[a]:=rowAt_of (List.getElem?_eq_getElem ha)
 rw [e] at hl
 have:=rk_lt hc0 ha' (w:=w) (by omega)
 have e2:rkA p a w=p.rank[a][w]:=at0_of (by rw [e];exact List.getElem?_eq_getElem hw)
 rw [← e2]
 exact ⟨by omega,by omega⟩
theorem hard_inv {p:PM} {f:List Nd} (h:(hardL p f).2.2=0):(checkL p=0∧(holdsL p f).1 &&& ~~~(allL p.W)=0 ∧ ¬(holdsL p f).1=0)∧hardL p f=(restPM p (wsL (holdsL p f).1 p.W.toNat),wsL (holdsL p f).1 p.W.toNat,0)∧(holdsL p f).2=0:=by
 unfold hardL at h ⊢
 by_cases h1:(holdsL p f).2=0
 ·rw [if_neg (not_not_intro h1)] at h ⊢
  by_cases h2:(holdsL p f).1=0#64
  ·rw [if_pos h2] at h;cases h
  ·rw [if_neg h2] at h ⊢
   unfold restL at h ⊢
   split at h
   ·rename_i h0;exact absurd h h0
   ·rename_i h0
    split at h
    ·cases h
    ·rename_i h3
     rw [if_neg h0,if_neg h3,if_neg (show ¬(holdsL p f).1=0 from h2)]
     exact ⟨⟨Classical.not_not.1 h0,Classical.not_not.1 h3,h2⟩,rfl,h1⟩
 ·rw [if_pos h1] at h;exact absurd h h1
theorem fn_HardO (hR:RanksOk T) (hRO:RanksOwn T) (p:PM) (hp:IntsOk p.rank) (f:List Nd) (h:(hardL p f).2.2=0):Fn Tryz.prog T f_upgrade_Hard [.d (dPM p),.d (dF f)] [] (.tup [.d (dPM (hardL p f).1),.own 0,.d (.int .i64 0)]) [some (.row 1 ((hardL p f).2.1.map (D.int .i64)))]:=by
 obtain ⟨⟨h1,h2,h3⟩,h4,h5⟩:=hard_inv h
 rw [h4]
 have ch:=fn_Holds hR p hp f
 rw [show dUE (holdsL p f) = .tup [.u64 (holdsL p f).1,.int .i64 0] by rw [dUE,h5]] at ch
 generalize (holdsL p f).1=s at *
 have c:=fn_RestrictO hR hRO p hp s h1 h2 h3
 refine fn_introR hmix k_upgrade_Hard (by show 2≤28;decide) _ (fun e env mem n h=>h) ?_
 (repeat' ((conv=>whnf);first|refine vA ?_|refine vH ?_|(refine vF ?_ ?_<;>intro hc)|refine yN ch ⟨⟨rfl,rfl⟩,⟨rfl,rfl⟩,rfl⟩ ?_));all_goals try conv=>whnf
 ·exact absurd ‹s=0#64› h3
 refine CallS.objs [] (c) (by (repeat' first|exact rfl|refine And.intro ?_ ?_)) (by (repeat' exact rfl)) (by rfl) (by rfl) (by simp) ?_
 (repeat' ((conv=>whnf);fail));all_goals try conv=>whnf
 refine ⟨trivial,_,[(0,2)],[],rfl,.inl (by (repeat' first|exact rfl|refine And.intro ?_ ?_|refine ⟨_,rfl,?_⟩)),⟨by rfl,by rfl,by rfl,trivial,by (repeat' first|exact trivial|exact rfl|refine And.intro ?_ ?_|refine ⟨_,rfl,?_⟩|exact of_decide_eq_true rfl)⟩,by (repeat' exact trivial)⟩
end Go.Ab
namespace Go.Ab
open Go Go.Proofs
set_option linter.unusedSimpArgs false
set_option linter.unusedVariables false
set_option maxRecDepth 10000
set_option maxHeartbeats 4000000
variable {T:Nat→Obj→Prop}
def rangeI (n:Nat):List Int:=(List.range n).map fun i:Nat=>(i:Int)
noncomputable def appL (n:Int) (p:PM) (f:List Nd):PM×List Int×Int :=
 if n=1 then hardL p f
 else if n=2 then (if (radL p f).2≠0 then (noP,[],(radL p f).2) else ((radL p f).1,rangeI p.W.toNat,0))
 else if n=3 then (if (conL p f).2≠0 then (noP,[],(conL p f).2) else ((conL p f).1,rangeI p.W.toNat,0))
 else (noP,[],1)
noncomputable def seqGo (p:PM) (ws:List Int):List (Int×List Nd)→PM×List Int×Int
 | []=>(p,ws,0)
 | (n,f)::r=>if (appL n p f).2.2≠0 then (noP,[],(appL n p f).2.2) else seqGo (appL n p f).1 ((appL n p f).2.1.map fun i=>at0 ws i.toNat) r
noncomputable def seqL (p:PM) (ns:List Int) (fs:List (List Nd)):PM×List Int×Int :=
 if checkL p≠0 then (noP,[],checkL p) else if ns.length≠fs.length then (noP,[],3) else if 100 < ns.length then (noP,[],8) else seqGo (restPM p (wsL (allL p.W) p.W.toNat)) (wsL (allL p.W) p.W.toNat) (ns.zip fs)
def kindF (n:Int):Int:=findL (fun k:Int×Nat×List D=>decide (k.1=n)) kindL
def KindOk (T:Nat→Obj→Prop) (n:Int) (p:PM) (f:List Nd) (r:PM×List Int×Int):Prop :=
 ∃ (a:Nat) (g:Nat) (gcs:List D),kindF n=(a:Int)∧kindL[a]? = some (n,g,gcs)∧gcs.length≤10 ∧
  (r.2.2≠0→Fn Tryz.prog T g ([.d (dPM p),.d (dF f)]++gcs.map V.d) [] (.d (dPLI (noP,[],r.2.2))) []) ∧
  (r.2.2=0→(checkL r.1=0∧r.2.1.length=r.1.W.toNat ∧ ∀ x∈r.2.1,0≤x∧x < p.W)∧Fn Tryz.prog T g ([.d (dPM p),.d (dF f)]++gcs.map V.d) [] (.tup [.d (dPM r.1),.own 0,.d (.int .i64 0)]) [some (.row 1 (r.2.1.map (D.int .i64)))])
theorem rangeI_mem {n:Nat} {x:Int} (h:x∈rangeI n):0≤x∧x < n:=by
 obtain ⟨i,hi,rfl⟩:=List.mem_map.1 h
 have:=List.mem_range.1 hi
 omega
theorem rangeI_row {n:Nat} : (rangeI n).map (D.int .i64)=(List.range n).map fun i:Nat=>D.int .i64 (i:Int):=by rw [rangeI,List.map_map];rfl
theorem soft_ok {n:Int} {a:Nat} {g:Nat} {p:PM} {f:List Nd} {fs:Nat→Nat→BitVec 64} (hk:kindF n=(a:Int)) (hk2:kindL[a]? = some (n,f_upgrade_every_1,[.box [.fn g []]])) {q:PM×Int} (hq:q=if (holdsL p f).2≠0 then (noP,(holdsL p f).2) else (upL p fs,0))
  (cg:Fn Tryz.prog T g [.d (dPM p),.d (dF f)] [] (.d (dPI q)) []):KindOk T n p f (if q.2≠0 then (noP,[],q.2) else (q.1,rangeI p.W.toNat,0)):=by
 refine ⟨a,_,_,hk,hk2,by simp,?_⟩
 by_cases h:(holdsL p f).2=0
 ·rw [if_neg (not_not_intro h)] at hq
  subst hq
  have hc0:=(holds_inv h).1
  have hg:=checkL_good hc0
  have h1:=hg.w1
  have h2:=hg.w2
  rw [if_neg (by simp)]
  refine ⟨fun e=>absurd rfl e,fun _=>⟨⟨up_check hc0 fs,by simp [rangeI,upL],fun x hx=>by have:=rangeI_mem hx;omega⟩,?_⟩⟩
  have c:=fn_every1 g p f (upL p fs) 0 cg rfl (by show 0≤p.W;omega) (by show p.W≤64;omega)
  rw [rangeI_row]
  exact c
 ·rw [if_pos h] at hq
  subst hq
  rw [if_pos h]
  exact ⟨fun _=>fn_every1E g p f noP _ cg h,fun e=>absurd e h⟩
theorem kind_ok (hR:RanksOk T) (hRO:RanksOwn T) (n:Int) (p:PM) (hp:IntsOk p.rank) (f:List Nd):(kindF n = -1∧appL n p f=(noP,[],1))∨KindOk T n p f (appL n p f):=by
 unfold appL
 by_cases h1:n=1
 ·subst h1
  right
  rw [if_pos rfl]
  refine ⟨0,_,_,by decide,rfl,by simp,fun h=>?_,fun h=>?_⟩
  ·have c:=fn_Hard (T:=T) hR hRO p hp f
   have e:hardL p f=(noP,[],(hardL p f).2.2):=by
    unfold hardL at h ⊢
    split
    ·rfl
    ·rename_i h0
     rw [if_neg h0] at h
     split
     ·rfl
     ·rename_i h3
      rw [if_neg h3] at h
      unfold restL at h ⊢
      split
      ·rfl
      ·rename_i h4
       rw [if_neg h4] at h
       split
       ·rfl
       ·rename_i h5
        rw [if_neg h5] at h
        split
        ·rfl
        ·rename_i h6
         rw [if_neg h6] at h
         exact absurd rfl h
   rw [e] at c
   exact c
  ·obtain ⟨⟨g1,g2,g3⟩,g4,g5⟩:=hard_inv h
   refine ⟨?_,fn_HardO hR hRO p hp f h⟩
   rw [g4]
   have hg:=checkL_good g1
   obtain ⟨r1,r2,-⟩:=rest_ok hg g2 g3 rfl
   exact ⟨r2,by simp [restPM],fun x hx=>by have:=wsL_mem hx;have:=hg.w1;omega⟩
 ·rw [if_neg h1]
  by_cases h2:n=2
  ·subst h2
   rw [if_pos rfl]
   exact .inr (soft_ok (a:=1) (by decide) rfl rfl (fn_Radical hR p hp f))
  ·rw [if_neg h2]
   by_cases h3:n=3
   ·subst h3
    rw [if_pos rfl]
    exact .inr (soft_ok (a:=2) (by decide) rfl rfl (fn_Conservative hR p hp f))
   ·rw [if_neg h3]
    exact .inl ⟨by simp [kindF,findL,kindL,List.findIdx_cons,Ne.symm h1,Ne.symm h2,Ne.symm h3],rfl⟩
end Go.Ab
namespace Go.Ab
open Go Go.Proofs
set_option linter.unusedSimpArgs false
set_option linter.unusedVariables false
set_option maxRecDepth 10000
set_option maxHeartbeats 4000000
variable {T:Nat→Obj→Prop}
theorem all_shr {W:Int} (h1:1≤W) (h2:W≤64):(18446744073709551615#64) >>> (64 - W).toNat=allL W:=by
 obtain ⟨n,rfl⟩ : ∃ n:Nat,W=n:=⟨W.toNat,by omega⟩
 have hn:n∈List.range 65:=List.mem_range.2 (by omega)
 revert hn h1 h2
 have : ∀ n∈List.range 65,1≤(n:Int)→(18446744073709551615#64) >>> (64 - (n:Int)).toNat=allL n:=by decide
 exact fun h1 h2 hn=>this n hn h1
theorem fn_Sequence (hR:RanksOk T) (hRO:RanksOwn T) (p:PM) (hp:IntsOk p.rank) (ns:List Int) (fs:List (List Nd)):Fn Tryz.prog T f_upgrade_Sequence [.d (dPM p),.d (dI ns),.d (.arr 1 (fs.map dF))] [] (.d (dPLI (seqL p ns fs))) []:=by
 refine fn_dataR hmix k_upgrade_Sequence (by show 3≤99;decide) ?_
 (repeat' ((conv=>whnf);first|refine vA ?_|((first|refine vD ?_ ?_|refine vF ?_ ?_)<;>intro hc<;>try simp only [vL] at hc)|refine vJ fun hg=>?_|(refine vO ?_ ?_;·omega)|refine yD (fn_plaus_Check hR _ hp) ⟨⟨rfl,rfl⟩,rfl⟩ rfl ?_));all_goals try conv=>whnf
 ·rw [seqL,if_pos ‹_›];rfl
 ·rw [seqL,if_neg (not_not_intro ‹checkL p=0›),if_pos (show ns.length≠fs.length by omega)];rfl
 ·rw [seqL,if_neg (not_not_intro ‹checkL p=0›),if_neg (show ¬(ns.length≠fs.length) by omega),if_pos (show 100 < ns.length by omega)];rfl
 have hck:=‹checkL p=0›
 have hg':=checkL_good hck
 have hw1:=hg'.w1
 have hw2:=hg'.w2
 have hls:ns.length=fs.length:=by omega
 have hl1:ns.length≤100:=by omega
 rw [show seqL p ns fs=seqGo (restPM p (wsL (allL p.W) p.W.toNat)) (wsL (allL p.W) p.W.toNat) (ns.zip fs) by rw [seqL,if_neg (not_not_intro hck),if_neg (not_not_intro hls),if_neg (by omega)]]
 have ha1:allL p.W &&& ~~~(allL p.W)=(0:BitVec 64):=by simp
 have ha2 : ¬allL p.W=0:=fun h=>by
  have:=(all_bit hck (i:=0)).2 (by omega)
  rw [h] at this;simp at this
 have cR:=fn_RestrictO hR hRO p hp (allL p.W) hck ha1 ha2
 obtain ⟨rk1,rk2,-⟩:=rest_ok hg' ha1 ha2 rfl
 rw [← all_shr hw1 hw2] at ha1 ha2 ⊢
 rw [← all_shr hw1 hw2] at cR rk1 rk2
 (repeat' ((conv=>whnf);first|((first|refine vO ?_ ?_|refine vP ?_ ?_);·omega)|fail));all_goals try conv=>whnf
 refine CallS.objs [] (cR) (by (repeat' first|exact rfl|refine And.intro ?_ ?_)) (by (repeat' exact rfl)) (by rfl) (by rfl) (by simp) ?_
 (repeat' ((conv=>whnf);first|refine vA ?_|refine vJ fun hg=>?_|(refine vU ?_ ?_;·kernel_rfl)|fail));all_goals try conv=>whnf
 generalize wsL (18446744073709551615#64 >>> (64 - p.W).toNat) p.W.toNat=ws0 at *
 generalize hR0:seqGo (restPM p ws0) ws0 (ns.zip fs)=R
 refine loop_mem (fun ((i,q,ws):Nat×PM×List Int)=>[(2,.d (.arr 1 (fs.map dF))),(6,.ptr 1 0),(10,.ptr 3 0),(11,.own 2),(47,.d (dI ns)),(48,.d (.int .i64 ((ns.map (D.int .i64)).length:Int))),(49,.d (.int .i64 ((i:Int))))]) (fun ((i,q,ws):Nat×PM×List Int)=>[(1,some box0),(2,some (.row 1 (ws.map (D.int .i64)))),(3,some (boxPM q))]) 4 (fun ((i,q,ws):Nat×PM×List Int)=>(i≤ns.length∧checkL q=0∧ws.length=q.W.toNat)∧seqGo q ws ((ns.zip fs).drop i)=R) (fun ((i,q,ws):Nat×PM×List Int)=>ns.length - i) ((0,restPM p ws0,ws0)) [(1,1),(2,2),(3,3)] [] (⟨⟨by simp,rk2,by simp [restPM]⟩,hR0⟩) (by (refine ⟨rfl,rfl,rfl,?_,?_⟩;repeat' first|exact trivial|exact rfl|refine And.intro ?_ ?_|refine ⟨_,rfl,?_⟩|decide)) ?_
 rintro ⟨i,q,ws⟩ ⟨⟨hi,hq,hws⟩,hI⟩
 (repeat' ((conv=>whnf);first|refine vA ?_|(refine vF ?_ ?_<;>intro hc<;>try simp only [vL] at hc)|(refine vQ ?_ fun x hx=>?_;·omega)|refine yN fn_kinds rfl ?_));all_goals try conv=>whnf
 ·have hil:i < ns.length:=by omega
  obtain ⟨f,hf⟩ : ∃ f,fs[i]? = some f:=⟨_,List.getElem?_eq_getElem (by omega)⟩
  have hx':ns[i]? = some x:=hx
  have hd:(ns.zip fs).drop i=(x,f)::(ns.zip fs).drop (i+1):=drop_cons (by rw [List.getElem?_zip_eq_some];exact ⟨hx',hf⟩)
  rw [hd] at hI
  have hqp:=ints_of hq
  have cI:Fn Tryz.prog T f_slices_IndexFunc_Lupgrade_kind_upgrade_kind_ [.d (.arr 2 (kindL.map dKd)),.d (.fn f_upgrade_Sequence_1 [.box [.int .i64 x]])] [] (.d (.int .i64 (kindF x))) []:=fn_IndexK kindL x
  have hk:=kind_ok hR hRO x q hqp f
  refine CallS.data (cI) (by (repeat refine ⟨⟨rfl,rfl⟩,?_⟩);rfl) rfl ?_
  (repeat' ((conv=>whnf);first|refine vA ?_|(refine vF ?_ ?_<;>intro hc<;>try simp only [vL] at hc)|(refine vS ?_ fun x hx=>?_;·omega)|refine yN fn_kinds rfl ?_));all_goals try conv=>whnf
  ·rcases hk with ⟨-,h2⟩|⟨a,-,-,h1,-⟩
   ·rw [seqGo,h2,if_pos (by decide)] at hI
    rw [← hI];rfl
   ·omega
  rcases hk with ⟨h1,-⟩|⟨a,g,gcs,h1,h2,h3,hE,hO⟩
  ·omega
  rw [h1]
  refine ElemS.isNat h2 ?_
  conv=>whnf
  generalize happ:appL x q f=r at hE hO
  rw [seqGo,happ] at hI
  (repeat' ((conv=>whnf);refine vN ‹_› ?_));all_goals try conv=>whnf
  by_cases he:r.2.2=0
  ·obtain ⟨⟨g1,g2,g3⟩,cO⟩:=hO he
   rw [if_neg (not_not_intro he)] at hI
   refine CallS.objs [] cO ⟨⟨rfl,rfl⟩,⟨rfl,rfl⟩,vpasses_data gcs 18 (by omega)⟩ (by (repeat' exact rfl)) (by rfl) (by rfl) (by simp) ?_
   (repeat' ((conv=>whnf);first|refine vA ?_|refine vH ?_|refine vJ fun hg=>?_|(refine vU ?_ ?_;·kernel_rfl)|fail));all_goals try conv=>whnf
   have hll:(r.2.1.map fun i=>at0 ws i.toNat).length=r.2.1.length:=by simp
   refine loop_mem (fun ((k,zs):Nat×List D)=>[(2,.d (.arr 1 (fs.map dF))),(6,.ptr 1 0),(10,.ptr 3 0),(11,.own 2),(16,.ptr 6 0),(17,.own 5),(47,.d (dI ns)),(48,.d (.int .i64 ((ns.map (D.int .i64)).length:Int))),(49,.d (.int .i64 ((i:Int)))),(79,.own 5),(80,.d (.int .i64 ((r.2.1.map (D.int .i64)).length:Int))),(81,.d (.int .i64 ((k:Int))))]) (fun ((k,zs):Nat×List D)=>[(1,some box0),(2,some (.row 1 (ws.map (D.int .i64)))),(3,some (boxPM q)),(5,some (.row 1 zs)),(6,some (boxPM r.1))]) 7 (fun ((k,zs):Nat×List D)=>k≤r.2.1.length∧zs=(List.range r.2.1.length).map (fun u=>D.int .i64 (if u < k then at0 (r.2.1.map fun i=>at0 ws i.toNat) u else at0 r.2.1 u))) (fun ((k,zs):Nat×List D)=>r.2.1.length - k) ((0,r.2.1.map (D.int .i64))) [(1,1),(2,2),(3,3),(5,5),(6,6)] [] (⟨by simp,(rest_map (l:=r.2.1) rfl).symm⟩) (by (refine ⟨rfl,rfl,rfl,?_,?_⟩;repeat' first|exact trivial|exact rfl|refine And.intro ?_ ?_|refine ⟨_,rfl,?_⟩|decide)) ?_
   rintro ⟨k,_⟩ ⟨hk,rfl⟩
   (repeat' ((conv=>whnf);first|refine vA ?_|(refine vF ?_ ?_<;>intro hc<;>try simp only [vL] at hc)|(refine vQ ?_ fun x hx=>?_;·(simp only [vM] at *;omega))|((first|refine vO ?_ ?_|refine vP ?_ ?_);·first|omega|(simp only [vM] at *;omega))|fail));all_goals try conv=>whnf
   ·have hxe:k=x:=(get_range hx).symm
    subst hxe
    obtain ⟨y,hy⟩ : ∃ y,r.2.1[k]? = some y:=⟨_,List.getElem?_eq_getElem (by omega)⟩
    have g4:=g3 y (List.mem_of_getElem? hy)
    have hy0:=at0_of hy
    rw [if_neg (Nat.lt_irrefl k),hy0]
    refine NeedS.mk ⟨g4.1,by simp only [List.length_map];omega⟩ ?_
    (repeat' ((conv=>whnf);first|(refine vQ ?_ fun x hx=>?_;·omega)|((first|refine vO ?_ ?_|refine vP ?_ ?_);·first|omega|(simp only [vM] at *;omega))|fail));all_goals try conv=>whnf
    have hxr:=at0_of hx
    refine ⟨(k+1,_),[(1,1),(2,2),(3,3),(5,5),(6,6)],[],?_,?_,by (refine ⟨rfl,rfl,rfl,?_,?_⟩;repeat' first|exact trivial|exact rfl|refine And.intro ?_ ?_|refine ⟨_,rfl,?_⟩|decide)⟩
    ·refine ⟨by (omega),(set_range _).trans (map_range_congr fun u hu=>?_)⟩
     show (if u=_ then _ else _)=_
     by_cases e:u=k
     ·subst e
      rw [if_pos (show u=((u:Nat):Int).toNat from rfl),if_pos (Nat.lt_succ_self _),at0_map hy,← hxr]
     ·by_cases e1:u < k
      ·simp [e1,e,show u < k+1 by omega]
      ·simp [e1,e,show ¬ u < k+1 by omega]
    ·((simp only [vM] at *;omega))
   ·obtain rfl:k=r.2.1.length:=by omega
    rw [full_map2 (l:=r.2.1.map fun i=>at0 ws i.toNat) (l':=r.2.1) hll]
    refine ⟨(i+1,r.1,r.2.1.map fun i=>at0 ws i.toNat),[(1,1),(2,5),(3,3)],[],?_,?_,by (refine ⟨rfl,rfl,rfl,?_,?_⟩;repeat' first|exact trivial|exact rfl|refine And.intro ?_ ?_|refine ⟨_,rfl,?_⟩|decide)⟩
    ·exact ⟨⟨by omega,g1,by rw [hll];exact g2⟩,hI⟩
    ·((simp only [vM] at *;omega))
  ·have cE:=hE he
   rw [if_pos he] at hI
   refine CallS.data cE ⟨⟨rfl,rfl⟩,⟨rfl,rfl⟩,vpasses_data gcs 18 (by omega)⟩ rfl ?_
   (repeat' ((conv=>whnf);first|refine vA ?_|(refine vD ?_ ?_<;>intro hc<;>try simp only [vL] at hc)|refine vJ fun hg=>?_|(refine vU ?_ ?_;·kernel_rfl)|fail));all_goals try conv=>whnf
   ·rw [← hI];rfl
   ·exact absurd ‹_› he
 ·obtain rfl:i=ns.length:=by omega
  rw [List.drop_eq_nil_of_le (by rw [List.length_zip];omega)] at hI
  rw [seqGo] at hI
  rw [← hI];rfl
end Go.Ab
namespace Go.Ab
open Go Go.Proofs
set_option linter.unusedSimpArgs false
set_option linter.unusedVariables false
set_option maxRecDepth 10000
set_option maxHeartbeats 4000000
variable {T:Nat→Obj→Prop}
abbrev cNd (x:Nd):List V:=[.d (.int .i64 x.op),.d (.int .i64 x.i),.d (.int .i64 x.e),.d (.int .i64 x.g),.d (.int .i64 x.x),.d (.int .i64 x.y)]
theorem take_snocF {α:Type} {l:List α} {j:Nat} {n:α} (h:l[j]? = some n):l.take (j+1)=l.take j++[n]:=by rw [List.take_add_one,h];rfl
theorem sh_step {f c:List Nd} {j:Nat} {n:Nd} (h:c[j]? = some n):(f++(c.take (j+1)).map (shiftN f.length)).map dNd=(f++(c.take j).map (shiftN f.length)).map dNd++[dNd (shiftN f.length n)]:=by
 rw [take_snocF h];simp
set_option maxHeartbeats 40000000 in
theorem fn_build (x0:Nd) (os:List (List Nd)) (hos:os.length≤2):Fn Tryz.prog T f_formula_build [.d (dNd x0),.d (.arr 1 (os.map dF))] [] (.d (dF (buildL x0 os))) []:=by
 refine fn_dataR hmix k_formula_build (by show 2≤85;decide) ?_
 (repeat' ((conv=>whnf);first|refine vA ?_|refine vB fun b hb=>?_|refine vC (fun hl=>?_) fun i kv vv hi=>?_|refine vE ?_|refine vG ?_|refine vH ?_|((first|refine vD ?_ ?_|refine vF ?_ ?_|refine vI ?_ ?_)<;>intro hc<;>try simp only [vL] at hc)|refine vJ fun hg=>?_|refine vK fun hg=>?_|refine vT ?_|refine vN ‹_› ?_|(refine vQ ?_ fun x hx=>?_;·first|omega|(simp only [vM] at *;omega))|((first|refine vO ?_ ?_|refine vR ?_ ‹_› ?_|refine vS ?_ fun x hx=>?_|refine vP ?_ ?_);·first|omega|(simp only [vM] at *;omega))|refine vW ⟨by omega,by omega⟩ ?_|(refine vU ?_ ?_;·kernel_rfl)|refine vX ?_|refine vY ?_|refine vZ ?_|refine FindS.mk _ ‹_› ?_|refine vP (show (_:BitVec 64)≠_ by decide) ?_));all_goals try conv=>whnf
 refine loop_mem (fun ((k,x',f):Nat×Nd×List Nd)=>[(2,.ptr 0 0),(5,.own 1),(14,.d (.arr 1 (os.map dF))),(15,.d (.int .i64 ((os.map dF).length:Int))),(16,.d (.int .i64 ((k:Int))))]) (fun ((k,x',f):Nat×Nd×List Nd)=>[(0,some (.box (cNd x'))),(1,some (.row 6 (f.map dNd)))]) 2 (fun ((k,x',f):Nat×Nd×List Nd)=>k≤os.length∧buildGo k f x' (os.drop k)=buildGo 0 [] x0 os∧Okay f∧f.length≤200 * k) (fun ((k,x',f):Nat×Nd×List Nd)=>os.length - k) ((0,x0,[])) [(0,0)]   [1] (⟨by simp,rfl,okay_nil,by simp⟩) (by (refine ⟨rfl,rfl,rfl,?_,?_⟩;repeat' first|exact trivial|exact rfl|exact ⟨_,rfl⟩|exact .inl rfl|exact .inr (.inl ⟨rfl,rfl⟩)|exact .inr (.inr ⟨rfl,rfl⟩)|refine And.intro ?_ ?_|refine ⟨_,rfl,?_⟩|decide|exact of_decide_eq_true rfl)) ?_
 rintro ⟨k,x',f⟩ ⟨hk,hI,hf,hfl⟩
 (repeat' ((conv=>whnf);first|refine vA ?_|refine vB fun b hb=>?_|refine vC (fun hl=>?_) fun i kv vv hi=>?_|refine vE ?_|refine vG ?_|refine vH ?_|((first|refine vD ?_ ?_|refine vF ?_ ?_|refine vI ?_ ?_)<;>intro hc<;>try simp only [vL] at hc)|refine vJ fun hg=>?_|refine vK fun hg=>?_|refine vT ?_|refine vN ‹_› ?_|(refine vQ ?_ fun x hx=>?_;·first|omega|(simp only [vM] at *;omega))|((first|refine vO ?_ ?_|refine vR ?_ ‹_› ?_|refine vS ?_ fun x hx=>?_|refine vP ?_ ?_);·first|omega|(simp only [vM] at *;omega))|refine vW ⟨by omega,by omega⟩ ?_|(refine vU ?_ ?_;·kernel_rfl)|refine vX ?_|refine vY ?_|refine vZ ?_|refine yD (fn_fCheck _) ⟨⟨rfl,rfl⟩,rfl⟩ rfl ?_|refine yN (fn_fCompact _) ⟨⟨rfl,rfl⟩,rfl⟩ ?_|refine FindS.mk _ ‹_› ?_|refine vP (show (_:BitVec 64)≠_ by decide) ?_));all_goals try conv=>whnf
 ·have hne:=‹fErr _≠0›
  rw [drop_cons hx,buildGo,if_pos hne] at hI
  have e:buildL x0 os=[]:=by rw [buildL,← hI]
  rw [e];rfl
 ·have h0:=‹fErr _=0›
  revert hx h0
  generalize x=o
  intro hx h0
  have hkl:k < os.length:=(List.getElem?_eq_some_iff.1 hx).1
  rw [drop_cons hx,buildGo,if_neg (not_not_intro h0)] at hI
  have hco:=cL_okay o
  have hcl:=cL_len o
  have hfn:f.length≤200:=by omega
  refine loop_mem (fun ((j,ys):Nat×List D)=>[(2,.ptr 0 0),(5,.own 1),(6,.d (.int .i64 ((k:Int)))),(8,.d (.int .i64 ((((f.map dNd).length:Nat):Int)))),(14,.d (.arr 1 (os.map dF))),(15,.d (.int .i64 ((os.map dF).length:Int))),(16,.d (.int .i64 ((k:Int)))),(27,.d (dF (cL o))),(28,.d (.int .i64 (((cL o).map dNd).length:Int))),(29,.d (.int .i64 ((j:Int))))]) (fun ((j,ys):Nat×List D)=>[(0,some (.box (cNd x'))),(1,some (.row 6 ys))]) 2 (fun ((j,ys):Nat×List D)=>j≤(cL o).length∧ys=(f++((cL o).take j).map (shiftN f.length)).map dNd) (fun ((j,ys):Nat×List D)=>(cL o).length - j) ((0,f.map dNd)) [(0,0),(1,1)] [] (⟨by simp,by simp⟩) (by (refine ⟨rfl,rfl,rfl,?_,?_⟩;repeat' first|exact trivial|exact rfl|exact ⟨_,rfl⟩|exact .inl rfl|exact .inr (.inl ⟨rfl,rfl⟩)|exact .inr (.inr ⟨rfl,rfl⟩)|refine And.intro ?_ ?_|refine ⟨_,rfl,?_⟩|decide|exact of_decide_eq_true rfl)) ?_
  rintro ⟨j,_⟩ ⟨hj,rfl⟩
  by_cases hjl:j < (cL o).length
  ·obtain ⟨n,hn⟩ : ∃ n,(cL o)[j]? = some n:=⟨(cL o)[j],by simp [hjl]⟩
   have hst:=sh_step (f:=f) hn
   have hl:(f++((cL o).take j).map (shiftN f.length)).length=f.length+j:=by simp;omega
   obtain ⟨-,nx,-,ny,-⟩:=nErr_iff.1 (hco j n hn)
   cases hux:useX n.op with
   | false =>
    have huy:useY n.op=false:=by
     cases hy:useY n.op with
     | true=>rw [useX_of_useY hy] at hux;cases hux
     | false=>rfl
    have hu:=uses_of (T:=T) hux huy
    have es:shiftN f.length n=n:=by simp [shiftN,hux,huy]
    rw [es] at hst
    (repeat' ((conv=>whnf);first|refine vA ?_|refine vB fun b hb=>?_|refine vC (fun hl=>?_) fun i kv vv hi=>?_|refine vE ?_|refine vG ?_|refine vH ?_|((first|refine vD ?_ ?_|refine vF ?_ ?_|refine vI ?_ ?_)<;>intro hc<;>try simp only [vL] at hc)|refine vJ fun hg=>?_|refine vK fun hg=>?_|refine vT ?_|refine vN ‹_› ?_|(refine vQ ?_ fun x hx=>?_;·first|omega|(simp only [vM] at *;omega))|((first|refine vO ?_ ?_|refine vR ?_ ‹_› ?_|refine vS ?_ fun x hx=>?_|refine vP ?_ ?_);·first|omega|(simp only [vM] at *;omega))|refine vW ⟨by omega,by omega⟩ ?_|(refine vU ?_ ?_;·kernel_rfl)|refine vX ?_|refine vY ?_|refine vZ ?_|refine yD hu (by (repeat refine ⟨⟨rfl,rfl⟩,?_⟩);rfl) rfl ?_|refine yN hu (by (repeat refine ⟨⟨rfl,rfl⟩,?_⟩);rfl) ?_|refine FindS.mk _ ‹_› ?_|refine vP (show (_:BitVec 64)≠_ by decide) ?_));all_goals try conv=>whnf
    ·refine ⟨(j+1,_),[(0,0),(1,5)],[],?_,?_,by (refine ⟨rfl,rfl,rfl,?_,?_⟩;repeat' first|exact trivial|exact rfl|exact ⟨_,rfl⟩|exact .inl rfl|exact .inr (.inl ⟨rfl,rfl⟩)|exact .inr (.inr ⟨rfl,rfl⟩)|refine And.intro ?_ ?_|refine ⟨_,rfl,?_⟩|decide|exact of_decide_eq_true rfl)⟩
     ·exact ⟨hjl,hst.symm⟩
     ·(first|omega|(simp only [vM] at *;omega))
    all_goals omega
   | true =>
    have nx:=nx hux
    cases huy:useY n.op with
    | false =>
     have hu:=uses_of (T:=T) hux huy
     have es:shiftN f.length n=⟨n.op,n.i,n.e,n.g,n.x+(((f.map dNd).length:Nat):Int),n.y⟩:=by simp [shiftN,hux,huy]
     rw [es] at hst
     (repeat' ((conv=>whnf);first|refine vA ?_|refine vB fun b hb=>?_|refine vC (fun hl=>?_) fun i kv vv hi=>?_|refine vE ?_|refine vG ?_|refine vH ?_|((first|refine vD ?_ ?_|refine vF ?_ ?_|refine vI ?_ ?_)<;>intro hc<;>try simp only [vL] at hc)|refine vJ fun hg=>?_|refine vK fun hg=>?_|refine vT ?_|refine vN ‹_› ?_|(refine vQ ?_ fun x hx=>?_;·first|omega|(simp only [vM] at *;omega))|((first|refine vO ?_ ?_|refine vR ?_ ‹_› ?_|refine vS ?_ fun x hx=>?_|refine vP ?_ ?_);·first|omega|(simp only [vM] at *;omega))|refine vW ⟨by omega,by omega⟩ ?_|(refine vU ?_ ?_;·kernel_rfl)|refine vX ?_|refine vY ?_|refine vZ ?_|refine yD hu (by (repeat refine ⟨⟨rfl,rfl⟩,?_⟩);rfl) rfl ?_|refine yN hu (by (repeat refine ⟨⟨rfl,rfl⟩,?_⟩);rfl) ?_|refine FindS.mk _ ‹_› ?_|refine vP (show (_:BitVec 64)≠_ by decide) ?_));all_goals try conv=>whnf
     ·refine ⟨(j+1,_),[(0,0),(1,5)],[],?_,?_,by (refine ⟨rfl,rfl,rfl,?_,?_⟩;repeat' first|exact trivial|exact rfl|exact ⟨_,rfl⟩|exact .inl rfl|exact .inr (.inl ⟨rfl,rfl⟩)|exact .inr (.inr ⟨rfl,rfl⟩)|refine And.intro ?_ ?_|refine ⟨_,rfl,?_⟩|decide|exact of_decide_eq_true rfl)⟩
      ·exact ⟨hjl,hst.symm⟩
      ·(first|omega|(simp only [vM] at *;omega))
     all_goals omega
    | true =>
     have ny:=ny huy
     have hu:=uses_of (T:=T) hux huy
     have es:shiftN f.length n=⟨n.op,n.i,n.e,n.g,n.x+(((f.map dNd).length:Nat):Int),n.y+(((f.map dNd).length:Nat):Int)⟩:=by simp [shiftN,hux,huy]
     rw [es] at hst
     (repeat' ((conv=>whnf);first|refine vA ?_|refine vB fun b hb=>?_|refine vC (fun hl=>?_) fun i kv vv hi=>?_|refine vE ?_|refine vG ?_|refine vH ?_|((first|refine vD ?_ ?_|refine vF ?_ ?_|refine vI ?_ ?_)<;>intro hc<;>try simp only [vL] at hc)|refine vJ fun hg=>?_|refine vK fun hg=>?_|refine vT ?_|refine vN ‹_› ?_|(refine vQ ?_ fun x hx=>?_;·first|omega|(simp only [vM] at *;omega))|((first|refine vO ?_ ?_|refine vR ?_ ‹_› ?_|refine vS ?_ fun x hx=>?_|refine vP ?_ ?_);·first|omega|(simp only [vM] at *;omega))|refine vW ⟨by omega,by omega⟩ ?_|(refine vU ?_ ?_;·kernel_rfl)|refine vX ?_|refine vY ?_|refine vZ ?_|refine yD hu (by (repeat refine ⟨⟨rfl,rfl⟩,?_⟩);rfl) rfl ?_|refine yN hu (by (repeat refine ⟨⟨rfl,rfl⟩,?_⟩);rfl) ?_|refine FindS.mk _ ‹_› ?_|refine vP (show (_:BitVec 64)≠_ by decide) ?_));all_goals try conv=>whnf
     ·refine ⟨(j+1,_),[(0,0),(1,5)],[],?_,?_,by (refine ⟨rfl,rfl,rfl,?_,?_⟩;repeat' first|exact trivial|exact rfl|exact ⟨_,rfl⟩|exact .inl rfl|exact .inr (.inl ⟨rfl,rfl⟩)|exact .inr (.inr ⟨rfl,rfl⟩)|refine And.intro ?_ ?_|refine ⟨_,rfl,?_⟩|decide|exact of_decide_eq_true rfl)⟩
      ·exact ⟨hjl,hst.symm⟩
      ·(first|omega|(simp only [vM] at *;omega))
     all_goals omega
  ·have ej:j=(cL o).length:=by omega
   subst ej
   rw [List.take_length]
   have hl2:(addL f (cL o)).length=f.length+(cL o).length:=by simp [addL]
   have hok2:=addL_okay hf hco
   have elen:((((addL f (cL o)).map dNd).length:Nat):Int) - 1=((addL f (cL o)).length:Int) - 1:=by rw [List.length_map]
   rw [← elen] at hI
   (repeat' ((conv=>whnf);first|refine vA ?_|refine vB fun b hb=>?_|refine vC (fun hl=>?_) fun i kv vv hi=>?_|refine vE ?_|refine vG ?_|refine vH ?_|((first|refine vD ?_ ?_|refine vF ?_ ?_|refine vI ?_ ?_)<;>intro hc<;>try simp only [vL] at hc)|refine vJ fun hg=>?_|refine vK fun hg=>?_|refine vT ?_|refine vN ‹_› ?_|(refine vQ ?_ fun x hx=>?_;·first|omega|(simp only [vM] at *;omega))|((first|refine vO ?_ ?_|refine vR ?_ ‹_› ?_|refine vS ?_ fun x hx=>?_|refine vP ?_ ?_);·first|omega|(simp only [vM] at *;omega))|refine vW ⟨by omega,by omega⟩ ?_|(refine vU ?_ ?_;·kernel_rfl)|refine vX ?_|refine vY ?_|refine vZ ?_|refine FindS.mk _ ‹_› ?_|refine vP (show (_:BitVec 64)≠_ by decide) ?_));all_goals try conv=>whnf
   ·omega
   ·have e0:k=0:=by omega
    rw [if_pos e0] at hI
    exact ⟨(k+1,{ x' with x:=(((addL f (cL o)).map dNd).length:Int) - 1 },addL f (cL o)),[(0,0),(1,1)],[],⟨hkl,hI,hok2,by omega⟩,by (first|omega|(simp only [vM] at *;omega)),by (refine ⟨rfl,rfl,rfl,?_,?_⟩;repeat' first|exact trivial|exact rfl|exact ⟨_,rfl⟩|exact .inl rfl|exact .inr (.inl ⟨rfl,rfl⟩)|exact .inr (.inr ⟨rfl,rfl⟩)|refine And.intro ?_ ?_|refine ⟨_,rfl,?_⟩|decide|exact of_decide_eq_true rfl)⟩
   ·have e0 : ¬k=0:=by omega
    rw [if_neg e0] at hI
    exact ⟨(k+1,{ x' with y:=(((addL f (cL o)).map dNd).length:Int) - 1 },addL f (cL o)),[(0,0),(1,1)],[],⟨hkl,hI,hok2,by omega⟩,by (first|omega|(simp only [vM] at *;omega)),by (refine ⟨rfl,rfl,rfl,?_,?_⟩;repeat' first|exact trivial|exact rfl|exact ⟨_,rfl⟩|exact .inl rfl|exact .inr (.inl ⟨rfl,rfl⟩)|exact .inr (.inr ⟨rfl,rfl⟩)|refine And.intro ?_ ?_|refine ⟨_,rfl,?_⟩|decide|exact of_decide_eq_true rfl)⟩
 ·have ek:k=os.length:=by omega
  subst ek
  rw [List.drop_eq_nil_of_le (Nat.le_refl _),buildGo] at hI
  have eB:buildL x0 os=finishL x' f:=by rw [buildL,← hI]
  rw [eB]
  have hE:=fn_nodeError (T:=T) x' ((((f.map dNd).length:Nat):Int))
  (repeat' ((conv=>whnf);first|refine vA ?_|refine vB fun b hb=>?_|refine vC (fun hl=>?_) fun i kv vv hi=>?_|refine vE ?_|refine vG ?_|refine vH ?_|((first|refine vD ?_ ?_|refine vF ?_ ?_|refine vI ?_ ?_)<;>intro hc<;>try simp only [vL] at hc)|refine vJ fun hg=>?_|refine vK fun hg=>?_|refine vT ?_|refine vN ‹_› ?_|(refine vQ ?_ fun x hx=>?_;·first|omega|(simp only [vM] at *;omega))|((first|refine vO ?_ ?_|refine vR ?_ ‹_› ?_|refine vS ?_ fun x hx=>?_|refine vP ?_ ?_);·first|omega|(simp only [vM] at *;omega))|refine vW ⟨by omega,by omega⟩ ?_|(refine vU ?_ ?_;·kernel_rfl)|refine vX ?_|refine vY ?_|refine vZ ?_|refine yD hE ⟨⟨rfl,rfl⟩,⟨rfl,rfl⟩,rfl⟩ rfl ?_|refine FindS.mk _ ‹_› ?_|refine vP (show (_:BitVec 64)≠_ by decide) ?_));all_goals try conv=>whnf
  ·have e2:finishL x' f=[]:=if_pos ‹_›
   rw [e2];rfl
  ·have hn:=‹nErr x' _=0›
   have hok:Okay (f++[x']):=by
    intro k n hk
    rw [List.getElem?_append] at hk
    split at hk
    ·exact hf k n hk
    ·rename_i h1
     have:k=f.length:=by have:=(List.getElem?_eq_some_iff.1 hk).1;simp at this;omega
     subst this
     simp at hk;subst hk;exact hn
   have cB:=fn_compact (T:=T) hok (by simp;omega) (k:=f.length) (i:=(((f.map dNd).length:Nat):Int)) (by rw [List.length_map]) (by simp)
   rw [show dF (f++[x']) = .arr 6 (f.map dNd++[dNd x']) by simp] at cB
   refine CallS.dataN (cB) (by (repeat refine ⟨⟨rfl,rfl⟩,?_⟩);rfl) ?_
   (repeat' ((conv=>whnf);first|refine vA ?_|refine vB fun b hb=>?_|refine vC (fun hl=>?_) fun i kv vv hi=>?_|refine vE ?_|refine vG ?_|refine vH ?_|((first|refine vD ?_ ?_|refine vF ?_ ?_|refine vI ?_ ?_)<;>intro hc<;>try simp only [vL] at hc)|refine vJ fun hg=>?_|refine vK fun hg=>?_|refine vT ?_|refine vN ‹_› ?_|(refine vQ ?_ fun x hx=>?_;·first|omega|(simp only [vM] at *;omega))|((first|refine vO ?_ ?_|refine vR ?_ ‹_› ?_|refine vS ?_ fun x hx=>?_|refine vP ?_ ?_);·first|omega|(simp only [vM] at *;omega))|refine vW ⟨by omega,by omega⟩ ?_|(refine vU ?_ ?_;·kernel_rfl)|refine vX ?_|refine vY ?_|refine vZ ?_|refine FindS.mk _ ‹_› ?_|refine vP (show (_:BitVec 64)≠_ by decide) ?_));all_goals try conv=>whnf
   ·have e2:finishL x' f=[]:=by rw [finishL,if_neg (by omega),if_pos (by omega)]
    rw [e2];rfl
   ·have e2:finishL x' f=compactL (f++[x']) f.length:=by rw [finishL,if_neg (by omega),if_neg (by omega)]
    rw [e2];rfl
end Go.Ab
namespace Go.Ab
open Go Go.Proofs
set_option linter.unusedSimpArgs false
set_option linter.unusedVariables false
set_option maxRecDepth 10000
set_option maxHeartbeats 4000000
variable {T:Nat→Obj→Prop}
theorem fn_FPoss (a:Int) (f:List Nd):Fn Tryz.prog T f_formula_Poss [.d (.int .i64 a),.d (dF f)] [] (.d (dF (buildL ⟨10,a,0,0,0,0⟩ [f]))) []:=by
 refine fn_dataR hmix k_formula_Poss (by show 2≤10;decide) ?_
 (repeat' ((conv=>whnf);first|refine vA ?_|refine vB fun b hb=>?_|refine vC (fun hl=>?_) fun i kv vv hi=>?_|refine vE ?_|refine vG ?_|refine vH ?_|((first|refine vD ?_ ?_|refine vF ?_ ?_|refine vI ?_ ?_)<;>intro hc<;>try simp only [vL] at hc)|refine vJ fun hg=>?_|refine vK fun hg=>?_|refine vT ?_|refine vN ‹_› ?_|(refine vQ ?_ fun x hx=>?_;·first|omega|(simp only [vM] at *;omega))|((first|refine vO ?_ ?_|refine vR ?_ ‹_› ?_|refine vS ?_ fun x hx=>?_|refine vP ?_ ?_);·first|omega|(simp only [vM] at *;omega))|refine vW ⟨by omega,by omega⟩ ?_|(refine vU ?_ ?_;·kernel_rfl)|refine vX ?_|refine vY ?_|refine vZ ?_|refine FindS.mk _ ‹_› ?_|refine vP (show (_:BitVec 64)≠_ by decide) ?_));all_goals try conv=>whnf
 refine CallS.dataN (fn_build ⟨10,a,0,0,0,0⟩ [f] (by simp)) (by (repeat refine ⟨⟨rfl,rfl⟩,?_⟩);rfl) ?_
 (repeat' ((conv=>whnf);first|refine vA ?_|refine vB fun b hb=>?_|refine vC (fun hl=>?_) fun i kv vv hi=>?_|refine vE ?_|refine vG ?_|refine vH ?_|((first|refine vD ?_ ?_|refine vF ?_ ?_|refine vI ?_ ?_)<;>intro hc<;>try simp only [vL] at hc)|refine vJ fun hg=>?_|refine vK fun hg=>?_|refine vT ?_|refine vN ‹_› ?_|(refine vQ ?_ fun x hx=>?_;·first|omega|(simp only [vM] at *;omega))|((first|refine vO ?_ ?_|refine vR ?_ ‹_› ?_|refine vS ?_ fun x hx=>?_|refine vP ?_ ?_);·first|omega|(simp only [vM] at *;omega))|refine vW ⟨by omega,by omega⟩ ?_|(refine vU ?_ ?_;·kernel_rfl)|refine vX ?_|refine vY ?_|refine vZ ?_|refine FindS.mk _ ‹_› ?_|refine vP (show (_:BitVec 64)≠_ by decide) ?_));all_goals try conv=>whnf
 rfl
theorem fn_FNot (f:List Nd):Fn Tryz.prog T f_formula_Not [.d (dF f)] [] (.d (dF (buildL ⟨4,0,0,0,0,0⟩ [f]))) []:=by
 refine fn_dataR hmix k_formula_Not (by show 1≤7;decide) ?_
 (repeat' ((conv=>whnf);first|refine vA ?_|refine vB fun b hb=>?_|refine vC (fun hl=>?_) fun i kv vv hi=>?_|refine vE ?_|refine vG ?_|refine vH ?_|((first|refine vD ?_ ?_|refine vF ?_ ?_|refine vI ?_ ?_)<;>intro hc<;>try simp only [vL] at hc)|refine vJ fun hg=>?_|refine vK fun hg=>?_|refine vT ?_|refine vN ‹_› ?_|(refine vQ ?_ fun x hx=>?_;·first|omega|(simp only [vM] at *;omega))|((first|refine vO ?_ ?_|refine vR ?_ ‹_› ?_|refine vS ?_ fun x hx=>?_|refine vP ?_ ?_);·first|omega|(simp only [vM] at *;omega))|refine vW ⟨by omega,by omega⟩ ?_|(refine vU ?_ ?_;·kernel_rfl)|refine vX ?_|refine vY ?_|refine vZ ?_|refine FindS.mk _ ‹_› ?_|refine vP (show (_:BitVec 64)≠_ by decide) ?_));all_goals try conv=>whnf
 refine CallS.dataN (fn_build ⟨4,0,0,0,0,0⟩ [f] (by simp)) (by (repeat refine ⟨⟨rfl,rfl⟩,?_⟩);rfl) ?_
 (repeat' ((conv=>whnf);first|refine vA ?_|refine vB fun b hb=>?_|refine vC (fun hl=>?_) fun i kv vv hi=>?_|refine vE ?_|refine vG ?_|refine vH ?_|((first|refine vD ?_ ?_|refine vF ?_ ?_|refine vI ?_ ?_)<;>intro hc<;>try simp only [vL] at hc)|refine vJ fun hg=>?_|refine vK fun hg=>?_|refine vT ?_|refine vN ‹_› ?_|(refine vQ ?_ fun x hx=>?_;·first|omega|(simp only [vM] at *;omega))|((first|refine vO ?_ ?_|refine vR ?_ ‹_› ?_|refine vS ?_ fun x hx=>?_|refine vP ?_ ?_);·first|omega|(simp only [vM] at *;omega))|refine vW ⟨by omega,by omega⟩ ?_|(refine vU ?_ ?_;·kernel_rfl)|refine vX ?_|refine vY ?_|refine vZ ?_|refine FindS.mk _ ‹_› ?_|refine vP (show (_:BitVec 64)≠_ by decide) ?_));all_goals try conv=>whnf
 rfl
theorem fn_FAnd (f:List Nd) (g:List Nd):Fn Tryz.prog T f_formula_And [.d (dF f),.d (dF g)] [] (.d (dF (buildL ⟨5,0,0,0,0,0⟩ [f,g]))) []:=by
 refine fn_dataR hmix k_formula_And (by show 2≤10;decide) ?_
 (repeat' ((conv=>whnf);first|refine vA ?_|refine vB fun b hb=>?_|refine vC (fun hl=>?_) fun i kv vv hi=>?_|refine vE ?_|refine vG ?_|refine vH ?_|((first|refine vD ?_ ?_|refine vF ?_ ?_|refine vI ?_ ?_)<;>intro hc<;>try simp only [vL] at hc)|refine vJ fun hg=>?_|refine vK fun hg=>?_|refine vT ?_|refine vN ‹_› ?_|(refine vQ ?_ fun x hx=>?_;·first|omega|(simp only [vM] at *;omega))|((first|refine vO ?_ ?_|refine vR ?_ ‹_› ?_|refine vS ?_ fun x hx=>?_|refine vP ?_ ?_);·first|omega|(simp only [vM] at *;omega))|refine vW ⟨by omega,by omega⟩ ?_|(refine vU ?_ ?_;·kernel_rfl)|refine vX ?_|refine vY ?_|refine vZ ?_|refine FindS.mk _ ‹_› ?_|refine vP (show (_:BitVec 64)≠_ by decide) ?_));all_goals try conv=>whnf
 refine CallS.dataN (fn_build ⟨5,0,0,0,0,0⟩ [f,g] (by simp)) (by (repeat refine ⟨⟨rfl,rfl⟩,?_⟩);rfl) ?_
 (repeat' ((conv=>whnf);first|refine vA ?_|refine vB fun b hb=>?_|refine vC (fun hl=>?_) fun i kv vv hi=>?_|refine vE ?_|refine vG ?_|refine vH ?_|((first|refine vD ?_ ?_|refine vF ?_ ?_|refine vI ?_ ?_)<;>intro hc<;>try simp only [vL] at hc)|refine vJ fun hg=>?_|refine vK fun hg=>?_|refine vT ?_|refine vN ‹_› ?_|(refine vQ ?_ fun x hx=>?_;·first|omega|(simp only [vM] at *;omega))|((first|refine vO ?_ ?_|refine vR ?_ ‹_› ?_|refine vS ?_ fun x hx=>?_|refine vP ?_ ?_);·first|omega|(simp only [vM] at *;omega))|refine vW ⟨by omega,by omega⟩ ?_|(refine vU ?_ ?_;·kernel_rfl)|refine vX ?_|refine vY ?_|refine vZ ?_|refine FindS.mk _ ‹_› ?_|refine vP (show (_:BitVec 64)≠_ by decide) ?_));all_goals try conv=>whnf
 rfl
theorem fn_FOr (f:List Nd) (g:List Nd):Fn Tryz.prog T f_formula_Or [.d (dF f),.d (dF g)] [] (.d (dF (buildL ⟨6,0,0,0,0,0⟩ [f,g]))) []:=by
 refine fn_dataR hmix k_formula_Or (by show 2≤10;decide) ?_
 (repeat' ((conv=>whnf);first|refine vA ?_|refine vB fun b hb=>?_|refine vC (fun hl=>?_) fun i kv vv hi=>?_|refine vE ?_|refine vG ?_|refine vH ?_|((first|refine vD ?_ ?_|refine vF ?_ ?_|refine vI ?_ ?_)<;>intro hc<;>try simp only [vL] at hc)|refine vJ fun hg=>?_|refine vK fun hg=>?_|refine vT ?_|refine vN ‹_› ?_|(refine vQ ?_ fun x hx=>?_;·first|omega|(simp only [vM] at *;omega))|((first|refine vO ?_ ?_|refine vR ?_ ‹_› ?_|refine vS ?_ fun x hx=>?_|refine vP ?_ ?_);·first|omega|(simp only [vM] at *;omega))|refine vW ⟨by omega,by omega⟩ ?_|(refine vU ?_ ?_;·kernel_rfl)|refine vX ?_|refine vY ?_|refine vZ ?_|refine FindS.mk _ ‹_› ?_|refine vP (show (_:BitVec 64)≠_ by decide) ?_));all_goals try conv=>whnf
 refine CallS.dataN (fn_build ⟨6,0,0,0,0,0⟩ [f,g] (by simp)) (by (repeat refine ⟨⟨rfl,rfl⟩,?_⟩);rfl) ?_
 (repeat' ((conv=>whnf);first|refine vA ?_|refine vB fun b hb=>?_|refine vC (fun hl=>?_) fun i kv vv hi=>?_|refine vE ?_|refine vG ?_|refine vH ?_|((first|refine vD ?_ ?_|refine vF ?_ ?_|refine vI ?_ ?_)<;>intro hc<;>try simp only [vL] at hc)|refine vJ fun hg=>?_|refine vK fun hg=>?_|refine vT ?_|refine vN ‹_› ?_|(refine vQ ?_ fun x hx=>?_;·first|omega|(simp only [vM] at *;omega))|((first|refine vO ?_ ?_|refine vR ?_ ‹_› ?_|refine vS ?_ fun x hx=>?_|refine vP ?_ ?_);·first|omega|(simp only [vM] at *;omega))|refine vW ⟨by omega,by omega⟩ ?_|(refine vU ?_ ?_;·kernel_rfl)|refine vX ?_|refine vY ?_|refine vZ ?_|refine FindS.mk _ ‹_› ?_|refine vP (show (_:BitVec 64)≠_ by decide) ?_));all_goals try conv=>whnf
 rfl
theorem fn_FBelief (a:Int) (f:List Nd) (g:List Nd):Fn Tryz.prog T f_formula_Belief [.d (.int .i64 a),.d (dF f),.d (dF g)] [] (.d (dF (buildL ⟨14,a,0,0,0,0⟩ [f,g]))) []:=by
 refine fn_dataR hmix k_formula_Belief (by show 3≤13;decide) ?_
 (repeat' ((conv=>whnf);first|refine vA ?_|refine vB fun b hb=>?_|refine vC (fun hl=>?_) fun i kv vv hi=>?_|refine vE ?_|refine vG ?_|refine vH ?_|((first|refine vD ?_ ?_|refine vF ?_ ?_|refine vI ?_ ?_)<;>intro hc<;>try simp only [vL] at hc)|refine vJ fun hg=>?_|refine vK fun hg=>?_|refine vT ?_|refine vN ‹_› ?_|(refine vQ ?_ fun x hx=>?_;·first|omega|(simp only [vM] at *;omega))|((first|refine vO ?_ ?_|refine vR ?_ ‹_› ?_|refine vS ?_ fun x hx=>?_|refine vP ?_ ?_);·first|omega|(simp only [vM] at *;omega))|refine vW ⟨by omega,by omega⟩ ?_|(refine vU ?_ ?_;·kernel_rfl)|refine vX ?_|refine vY ?_|refine vZ ?_|refine FindS.mk _ ‹_› ?_|refine vP (show (_:BitVec 64)≠_ by decide) ?_));all_goals try conv=>whnf
 refine CallS.dataN (fn_build ⟨14,a,0,0,0,0⟩ [f,g] (by simp)) (by (repeat refine ⟨⟨rfl,rfl⟩,?_⟩);rfl) ?_
 (repeat' ((conv=>whnf);first|refine vA ?_|refine vB fun b hb=>?_|refine vC (fun hl=>?_) fun i kv vv hi=>?_|refine vE ?_|refine vG ?_|refine vH ?_|((first|refine vD ?_ ?_|refine vF ?_ ?_|refine vI ?_ ?_)<;>intro hc<;>try simp only [vL] at hc)|refine vJ fun hg=>?_|refine vK fun hg=>?_|refine vT ?_|refine vN ‹_› ?_|(refine vQ ?_ fun x hx=>?_;·first|omega|(simp only [vM] at *;omega))|((first|refine vO ?_ ?_|refine vR ?_ ‹_› ?_|refine vS ?_ fun x hx=>?_|refine vP ?_ ?_);·first|omega|(simp only [vM] at *;omega))|refine vW ⟨by omega,by omega⟩ ?_|(refine vU ?_ ?_;·kernel_rfl)|refine vX ?_|refine vY ?_|refine vZ ?_|refine FindS.mk _ ‹_› ?_|refine vP (show (_:BitVec 64)≠_ by decide) ?_));all_goals try conv=>whnf
 rfl
theorem fn_FTrue  : Fn Tryz.prog T f_formula_True [] [] (.d (dF (buildL ⟨1,0,0,0,0,0⟩ []))) []:=by
 refine fn_dataR hmix k_formula_True (by show 0≤3;decide) ?_
 (repeat' ((conv=>whnf);first|refine vA ?_|refine vB fun b hb=>?_|refine vC (fun hl=>?_) fun i kv vv hi=>?_|refine vE ?_|refine vG ?_|refine vH ?_|((first|refine vD ?_ ?_|refine vF ?_ ?_|refine vI ?_ ?_)<;>intro hc<;>try simp only [vL] at hc)|refine vJ fun hg=>?_|refine vK fun hg=>?_|refine vT ?_|refine vN ‹_› ?_|(refine vQ ?_ fun x hx=>?_;·first|omega|(simp only [vM] at *;omega))|((first|refine vO ?_ ?_|refine vR ?_ ‹_› ?_|refine vS ?_ fun x hx=>?_|refine vP ?_ ?_);·first|omega|(simp only [vM] at *;omega))|refine vW ⟨by omega,by omega⟩ ?_|(refine vU ?_ ?_;·kernel_rfl)|refine vX ?_|refine vY ?_|refine vZ ?_|refine FindS.mk _ ‹_› ?_|refine vP (show (_:BitVec 64)≠_ by decide) ?_));all_goals try conv=>whnf
 refine CallS.dataN (fn_build ⟨1,0,0,0,0,0⟩ [] (by simp)) (by (repeat refine ⟨⟨rfl,rfl⟩,?_⟩);rfl) ?_
 (repeat' ((conv=>whnf);first|refine vA ?_|refine vB fun b hb=>?_|refine vC (fun hl=>?_) fun i kv vv hi=>?_|refine vE ?_|refine vG ?_|refine vH ?_|((first|refine vD ?_ ?_|refine vF ?_ ?_|refine vI ?_ ?_)<;>intro hc<;>try simp only [vL] at hc)|refine vJ fun hg=>?_|refine vK fun hg=>?_|refine vT ?_|refine vN ‹_› ?_|(refine vQ ?_ fun x hx=>?_;·first|omega|(simp only [vM] at *;omega))|((first|refine vO ?_ ?_|refine vR ?_ ‹_› ?_|refine vS ?_ fun x hx=>?_|refine vP ?_ ?_);·first|omega|(simp only [vM] at *;omega))|refine vW ⟨by omega,by omega⟩ ?_|(refine vU ?_ ?_;·kernel_rfl)|refine vX ?_|refine vY ?_|refine vZ ?_|refine FindS.mk _ ‹_› ?_|refine vP (show (_:BitVec 64)≠_ by decide) ?_));all_goals try conv=>whnf
 rfl
theorem fn_FFalse  : Fn Tryz.prog T f_formula_False [] [] (.d (dF (buildL ⟨2,0,0,0,0,0⟩ []))) []:=by
 refine fn_dataR hmix k_formula_False (by show 0≤3;decide) ?_
 (repeat' ((conv=>whnf);first|refine vA ?_|refine vB fun b hb=>?_|refine vC (fun hl=>?_) fun i kv vv hi=>?_|refine vE ?_|refine vG ?_|refine vH ?_|((first|refine vD ?_ ?_|refine vF ?_ ?_|refine vI ?_ ?_)<;>intro hc<;>try simp only [vL] at hc)|refine vJ fun hg=>?_|refine vK fun hg=>?_|refine vT ?_|refine vN ‹_› ?_|(refine vQ ?_ fun x hx=>?_;·first|omega|(simp only [vM] at *;omega))|((first|refine vO ?_ ?_|refine vR ?_ ‹_› ?_|refine vS ?_ fun x hx=>?_|refine vP ?_ ?_);·first|omega|(simp only [vM] at *;omega))|refine vW ⟨by omega,by omega⟩ ?_|(refine vU ?_ ?_;·kernel_rfl)|refine vX ?_|refine vY ?_|refine vZ ?_|refine FindS.mk _ ‹_› ?_|refine vP (show (_:BitVec 64)≠_ by decide) ?_));all_goals try conv=>whnf
 refine CallS.dataN (fn_build ⟨2,0,0,0,0,0⟩ [] (by simp)) (by (repeat refine ⟨⟨rfl,rfl⟩,?_⟩);rfl) ?_
 (repeat' ((conv=>whnf);first|refine vA ?_|refine vB fun b hb=>?_|refine vC (fun hl=>?_) fun i kv vv hi=>?_|refine vE ?_|refine vG ?_|refine vH ?_|((first|refine vD ?_ ?_|refine vF ?_ ?_|refine vI ?_ ?_)<;>intro hc<;>try simp only [vL] at hc)|refine vJ fun hg=>?_|refine vK fun hg=>?_|refine vT ?_|refine vN ‹_› ?_|(refine vQ ?_ fun x hx=>?_;·first|omega|(simp only [vM] at *;omega))|((first|refine vO ?_ ?_|refine vR ?_ ‹_› ?_|refine vS ?_ fun x hx=>?_|refine vP ?_ ?_);·first|omega|(simp only [vM] at *;omega))|refine vW ⟨by omega,by omega⟩ ?_|(refine vU ?_ ?_;·kernel_rfl)|refine vX ?_|refine vY ?_|refine vZ ?_|refine FindS.mk _ ‹_› ?_|refine vP (show (_:BitVec 64)≠_ by decide) ?_));all_goals try conv=>whnf
 rfl
theorem fn_FFact (a:Int):Fn Tryz.prog T f_formula_Fact [.d (.int .i64 a)] [] (.d (dF (buildL ⟨3,a,0,0,0,0⟩ []))) []:=by
 refine fn_dataR hmix k_formula_Fact (by show 1≤6;decide) ?_
 (repeat' ((conv=>whnf);first|refine vA ?_|refine vB fun b hb=>?_|refine vC (fun hl=>?_) fun i kv vv hi=>?_|refine vE ?_|refine vG ?_|refine vH ?_|((first|refine vD ?_ ?_|refine vF ?_ ?_|refine vI ?_ ?_)<;>intro hc<;>try simp only [vL] at hc)|refine vJ fun hg=>?_|refine vK fun hg=>?_|refine vT ?_|refine vN ‹_› ?_|(refine vQ ?_ fun x hx=>?_;·first|omega|(simp only [vM] at *;omega))|((first|refine vO ?_ ?_|refine vR ?_ ‹_› ?_|refine vS ?_ fun x hx=>?_|refine vP ?_ ?_);·first|omega|(simp only [vM] at *;omega))|refine vW ⟨by omega,by omega⟩ ?_|(refine vU ?_ ?_;·kernel_rfl)|refine vX ?_|refine vY ?_|refine vZ ?_|refine FindS.mk _ ‹_› ?_|refine vP (show (_:BitVec 64)≠_ by decide) ?_));all_goals try conv=>whnf
 refine CallS.dataN (fn_build ⟨3,a,0,0,0,0⟩ [] (by simp)) (by (repeat refine ⟨⟨rfl,rfl⟩,?_⟩);rfl) ?_
 (repeat' ((conv=>whnf);first|refine vA ?_|refine vB fun b hb=>?_|refine vC (fun hl=>?_) fun i kv vv hi=>?_|refine vE ?_|refine vG ?_|refine vH ?_|((first|refine vD ?_ ?_|refine vF ?_ ?_|refine vI ?_ ?_)<;>intro hc<;>try simp only [vL] at hc)|refine vJ fun hg=>?_|refine vK fun hg=>?_|refine vT ?_|refine vN ‹_› ?_|(refine vQ ?_ fun x hx=>?_;·first|omega|(simp only [vM] at *;omega))|((first|refine vO ?_ ?_|refine vR ?_ ‹_› ?_|refine vS ?_ fun x hx=>?_|refine vP ?_ ?_);·first|omega|(simp only [vM] at *;omega))|refine vW ⟨by omega,by omega⟩ ?_|(refine vU ?_ ?_;·kernel_rfl)|refine vX ?_|refine vY ?_|refine vZ ?_|refine FindS.mk _ ‹_› ?_|refine vP (show (_:BitVec 64)≠_ by decide) ?_));all_goals try conv=>whnf
 rfl
end Go.Ab
namespace Go.Ab
open Go Go.Proofs
set_option linter.unusedSimpArgs false
set_option linter.unusedVariables false
set_option maxRecDepth 10000
set_option maxHeartbeats 4000000
variable {T:Nat→Obj→Prop}
def fewU (p:PM):Prop:=p.val.length≤20∧p.cell.length≤8∧p.rank.length≤8∧(∀ a,a < p.cell.length→(rowAt p.cell a).length≤20) ∧ ∀ a,a < p.rank.length→(rowAt p.rank a).length≤20
instance (p:PM):Decidable (fewU p):=by unfold fewU;infer_instance
theorem fn_sameU (a b:List Int):Fn Tryz.prog T f_wittinglaw36_sameInts [.d (dI a),.d (dI b)] [] (.d (.bool (a==b))) []:=by
 refine fn_dataR hmix k_wittinglaw36_sameInts (by show 2≤26;decide) ?_
 (repeat' ((conv=>whnf);first|refine vA ?_|(refine vD ?_ ?_<;>intro hc<;>try simp only [vL] at hc)|refine vJ fun hg=>?_|refine vZ ?_));all_goals try conv=>whnf
 ·have:a≠b:=fun e=>hc (by rw [e])
  simp [this]
 ·refine loop_intro (fun (k:Nat)=>[(0,.d (dI a)),(1,.d (dI b)),(5,.d (.int .i64 ((k:Int))))]) (fun (k:Nat)=>k≤a.length∧(a==b)=(a.drop k==b.drop k)) (fun (k:Nat)=>a.length - k) (0) (⟨by simp,by simp⟩) (by (repeat' first|exact trivial|exact rfl|refine And.intro ?_ ?_)) ?_
  rintro k ⟨hk,hI⟩
  (repeat' ((conv=>whnf);first|refine vA ?_|((first|refine vD ?_ ?_|refine vF ?_ ?_)<;>intro hc<;>try simp only [vL] at hc)|refine vJ fun hg=>?_|(refine vQ ?_ fun x hx=>?_;·omega)|(refine vO ?_ ?_;·omega)|(refine vU ?_ ?_;·kernel_rfl)|refine vZ ?_));all_goals try conv=>whnf
  ·rw [hI,drop_cons ‹a[k]? = some _›,drop_cons ‹b[k]? = some _›];simp [hc]
  ·exact ⟨k+1,[],[],⟨by (omega),by rw [hI,drop_cons ‹a[k]? = some _›,drop_cons ‹b[k]? = some _›];simp [hc]⟩,by (omega),by (refine ⟨rfl,rfl,rfl,?_,?_⟩;repeat' first|exact trivial|exact rfl|refine And.intro ?_ ?_)⟩
  ·rw [hI,List.drop_eq_nil_of_le (by omega),List.drop_eq_nil_of_le (by omega)];rfl
abbrev exU (a b c d:Int):PM:=⟨4,[10#64,12#64],[[0,0,0,0]],[[a,b,c,d]]⟩
theorem fn_exU (a b c d:Int):Fn Tryz.prog T f_wittinglaw36_example [.d (.int .i64 a),.d (.int .i64 b),.d (.int .i64 c),.d (.int .i64 d)] [] (.d (dPM (exU a b c d))) []:=by
 refine fn_dataR hmix k_wittinglaw36_example (by show 4≤19;decide) ?_
 (repeat' ((conv=>whnf);refine vT ?_));all_goals try conv=>whnf
 rfl
theorem fn_holdsU (hR:RanksOk T) (p:PM) (hp:IntsOk p.rank) (f:List Nd):Fn Tryz.prog T f_wittinglaw36_holds [.d (dPM p),.d (dF f)] [] (.d (.tup [.u64 (holdsL p f).1,.bool (decide ((holdsL p f).2=0))])) []:=by
 refine fn_dataR hmix k_wittinglaw36_holds (by show 2≤17;decide) ?_
 (repeat' ((conv=>whnf);refine yN (fn_Holds hR p hp _) ⟨⟨rfl,rfl⟩,⟨rfl,rfl⟩,rfl⟩ ?_));all_goals try conv=>whnf
 all_goals rfl
def PlF (p:PM) (f:List Nd):Prop:=f.length≤30∧uni fragN (cL f)=0∧fitsL f 0 p.val.length=true
def plainL (p:PM) (f g h:List Nd):Prop:=fewU p∧checkL p=0∧p.cell.length≠0∧PlF p f∧PlF p g∧PlF p h
theorem fn_plain (hR:RanksOk T) (p:PM) (hp:IntsOk p.rank) (f g h:List Nd) {b:Bool} (hb:b=true↔plainL p f g h):Fn Tryz.prog T f_wittinglaw36_plain [.d (dPM p),.d (.agg [dF f,dF g,dF h])] [] (.d (.bool b)) []:=by
 refine fn_dataR hmix k_wittinglaw36_plain (by show 2≤46;decide) ?_
 have hbN : ∀ {x:Bool},¬plainL p f g h→b=false:=fun hn=>by
  cases hbb:b with
  | false=>rfl
  | true=>exact absurd (hb.1 hbb) hn
 have hbF : ¬(PlF p f∧PlF p g∧PlF p h)→b=false:=fun hn=>hbN (x:=b) fun hp=>hn hp.2.2.2
 (repeat' ((conv=>whnf);first|refine vA ?_|refine vE ?_|((first|refine vD ?_ ?_|refine vF ?_ ?_)<;>intro hc<;>try simp only [vL] at hc)|refine vJ fun hg=>?_|refine vZ ?_|refine yD (fn_Few _) ⟨⟨rfl,rfl⟩,rfl⟩ rfl ?_|refine yD (fn_plaus_Check hR _ hp) ⟨⟨rfl,rfl⟩,rfl⟩ rfl ?_));all_goals try conv=>whnf
 ·exact (hbN (x:=b) fun h=>‹checkL p≠0› h.2.1).symm
 ·exact (hbN (x:=b) fun h=>h.2.2.1 (by omega)).symm
 ·refine loop_mem (fun (k:Nat)=>[(2,.ptr 0 0),(3,.ptr 1 0),(5,.d (.int .i64 ((k:Int))))]) (fun (k:Nat)=>[(0,some (boxPM p)),(1,some (.box [.d (dF f),.d (dF g),.d (dF h)]))]) 2 (fun (k:Nat)=>k≤3 ∧ ∀ j,j < k→PlF p ([f,g,h].getD j [])) (fun (k:Nat)=>3 - k) (0) [(0,0),(1,1)] [] (⟨by simp,by simp⟩) (by (refine ⟨rfl,rfl,rfl,?_,?_⟩;repeat' first|exact trivial|exact rfl|refine And.intro ?_ ?_|refine ⟨_,rfl,?_⟩|decide)) ?_
  rintro k ⟨hk,hI⟩
  by_cases h3:k=3
  ·subst h3
   (repeat' ((conv=>whnf);first|refine vA ?_|refine vH ?_|refine vZ ?_));all_goals try conv=>whnf
   exact (hb.2 ⟨‹_›,‹_›,by omega,hI 0 (by decide),hI 1 (by decide),hI 2 (by decide)⟩).symm
  ·have:k=0∨k=1∨k=2:=by omega
   rcases this with rfl|rfl|rfl
   ·(repeat' ((conv=>whnf);first|refine vA ?_|refine vE ?_|refine vG ?_|((first|refine vD ?_ ?_|refine vF ?_ ?_|refine vI ?_ ?_)<;>intro hc<;>try simp only [vL] at hc)|refine vJ fun hg=>?_|((first|refine vO ?_ ?_|refine vP ?_ ?_);·omega)|(refine vU ?_ ?_;·kernel_rfl)|refine vZ ?_|refine yD (fn_Frags _) ⟨⟨rfl,rfl⟩,rfl⟩ rfl ?_|refine yD (fn_Fits _ _ _) ⟨⟨rfl,rfl⟩,⟨rfl,rfl⟩,⟨rfl,rfl⟩,rfl⟩ rfl ?_));all_goals try conv=>whnf
    iterate 2 (refine (hbF fun q=>?_).symm;have q1:=q.1.1;have q2:=q.1.2.1;omega)
    ·exact ⟨0+1,[(0,0),(1,1)],[],⟨by (omega),fun j hj=>by
      by_cases e:j=0
      ·subst e
       exact (⟨by omega,by omega,‹_›⟩:PlF p f)
      ·exact hI j (by omega)⟩,by (omega),by (refine ⟨rfl,rfl,rfl,?_,?_⟩;repeat' first|exact trivial|exact rfl|refine And.intro ?_ ?_|refine ⟨_,rfl,?_⟩|decide)⟩
    ·exact (hbF fun q=>Bool.noConfusion (q.1.2.2.symm.trans ‹_›)).symm
   ·(repeat' ((conv=>whnf);first|refine vA ?_|refine vE ?_|refine vG ?_|((first|refine vD ?_ ?_|refine vF ?_ ?_|refine vI ?_ ?_)<;>intro hc<;>try simp only [vL] at hc)|refine vJ fun hg=>?_|((first|refine vO ?_ ?_|refine vP ?_ ?_);·omega)|(refine vU ?_ ?_;·kernel_rfl)|refine vZ ?_|refine yD (fn_Frags _) ⟨⟨rfl,rfl⟩,rfl⟩ rfl ?_|refine yD (fn_Fits _ _ _) ⟨⟨rfl,rfl⟩,⟨rfl,rfl⟩,⟨rfl,rfl⟩,rfl⟩ rfl ?_));all_goals try conv=>whnf
    iterate 2 (refine (hbF fun q=>?_).symm;have q1:=q.2.1.1;have q2:=q.2.1.2.1;omega)
    ·exact ⟨1+1,[(0,0),(1,1)],[],⟨by (omega),fun j hj=>by
      by_cases e:j=1
      ·subst e
       exact (⟨by omega,by omega,‹_›⟩:PlF p g)
      ·exact hI j (by omega)⟩,by (omega),by (refine ⟨rfl,rfl,rfl,?_,?_⟩;repeat' first|exact trivial|exact rfl|refine And.intro ?_ ?_|refine ⟨_,rfl,?_⟩|decide)⟩
    ·exact (hbF fun q=>Bool.noConfusion (q.2.1.2.2.symm.trans ‹_›)).symm
   ·(repeat' ((conv=>whnf);first|refine vA ?_|refine vE ?_|refine vG ?_|((first|refine vD ?_ ?_|refine vF ?_ ?_|refine vI ?_ ?_)<;>intro hc<;>try simp only [vL] at hc)|refine vJ fun hg=>?_|((first|refine vO ?_ ?_|refine vP ?_ ?_);·omega)|(refine vU ?_ ?_;·kernel_rfl)|refine vZ ?_|refine yD (fn_Frags _) ⟨⟨rfl,rfl⟩,rfl⟩ rfl ?_|refine yD (fn_Fits _ _ _) ⟨⟨rfl,rfl⟩,⟨rfl,rfl⟩,⟨rfl,rfl⟩,rfl⟩ rfl ?_));all_goals try conv=>whnf
    iterate 2 (refine (hbF fun q=>?_).symm;have q1:=q.2.2.1;have q2:=q.2.2.2.1;omega)
    ·exact ⟨2+1,[(0,0),(1,1)],[],⟨by (omega),fun j hj=>by
      by_cases e:j=2
      ·subst e
       exact (⟨by omega,by omega,‹_›⟩:PlF p h)
      ·exact hI j (by omega)⟩,by (omega),by (refine ⟨rfl,rfl,rfl,?_,?_⟩;repeat' first|exact trivial|exact rfl|refine And.intro ?_ ?_|refine ⟨_,rfl,?_⟩|decide)⟩
    ·exact (hbF fun q=>Bool.noConfusion (q.2.2.2.2.symm.trans ‹_›)).symm
 ·exact (hbN (x:=b) fun h=>‹¬(_∧_)› h.1).symm
end Go.Ab
namespace Go.Ab
set_option linter.unusedVariables false
set_option linter.unusedSectionVars false
section
variable {p:PM} (hc0:checkL p=0) {a:Nat} (ha:a < p.cell.length)
include hc0 ha
open Classical in
theorem con_bel {F G H:BitVec 64} {w:Nat} : (believesL (upL p fun a w=>bestL p a w F) a G H).getLsbD w=true↔if ∃ v,InC p a w v∧(F.getLsbD v=true ∧ ∀ u,InC p a w u→F.getLsbD u=true→rkA p a v≤rkA p a u)∧G.getLsbD v=true then (believesL p a (F&&&G) H).getLsbD w=true else (believesL p a G H).getLsbD w=true:=by
 have rk:=fun v (hv:InC p a w v)=>rk_lt hc0 ha hv.1
 have fst : ∀ v,InC p a w v→((bestL p a v F).getLsbD v=true↔F.getLsbD v=true ∧ ∀ u,InC p a w u→F.getLsbD u=true→rkA p a v≤rkA p a u):=fun v hv=>by
  rw [best_iff hc0 ha hv.1]
  constructor
  ·rintro ⟨-,h1,h2⟩
   exact ⟨h1,fun u hu=>h2 u ⟨hu.1,hu.2.trans hv.2.symm⟩⟩
  ·rintro ⟨h1,h2⟩
   exact ⟨⟨hv.1,rfl⟩,h1,fun u hu=>h2 u ⟨hu.1,hu.2.trans hv.2⟩⟩
 have key : ∀ v,InC p a w v→keyN p (fun a w=>bestL p a w F) a v=if F.getLsbD v=true ∧ ∀ u,InC p a w u→F.getLsbD u=true→rkA p a v≤rkA p a u then rkA p a v else p.W+rkA p a v:=fun v hv=>by
  unfold keyN
  by_cases h:(bestL p a v F).getLsbD v=true
  ·rw [if_pos h,if_pos ((fst v hv).1 h)]
  ·rw [if_neg h,if_neg fun h'=>h ((fst v hv).2 h')]
 rw [bel_up hc0 ha]
 split
 ·rename_i hex
  obtain ⟨x,hx,hB,hG⟩:=hex
  rw [believes_bit hc0 ha]
  refine and_congr_right fun hw=>forall_congr' fun v=>⟨fun h h1 h2 h3=>?_,fun h h1 h2 h3=>?_⟩
  ·rw [and_bit] at h2
   have hBv:F.getLsbD v=true ∧ ∀ u,InC p a w u→F.getLsbD u=true→rkA p a v≤rkA p a u:=⟨h2.1,fun u hu hF=>Int.le_trans (h3 x hx (and_bit.2 ⟨hB.1,hG⟩)) (hB.2 u hu hF)⟩
   refine h h1 h2.2 fun u hu hu'=>?_
   have a1:=rk u hu
   have a2:=rk v h1
   rw [key v h1,key u hu,if_pos hBv]
   split
   ·rename_i hBu;exact hBv.2 u hu hBu.1
   ·omega
  ·have h4:=h3 x hx hG
   have a1:=rk x hx
   have a2:=rk v h1
   rw [key v h1,key x hx,if_pos hB] at h4
   split at h4
   ·rename_i hBv
    exact h h1 (and_bit.2 ⟨hBv.1,h2⟩) fun u hu hu'=>hBv.2 u hu (and_bit.1 hu').1
   ·omega
 ·rename_i hex
  rw [believes_bit hc0 ha]
  have no : ∀ v,InC p a w v→G.getLsbD v=true→keyN p (fun a w=>bestL p a w F) a v=p.W+rkA p a v:=fun v hv hG=>by
   rw [key v hv,if_neg fun hB=>hex ⟨v,hv,hB,hG⟩]
  refine and_congr_right fun hw=>forall_congr' fun v=>⟨fun h h1 h2 h3=>h h1 h2 fun u hu hu'=>?_,fun h h1 h2 h3=>h h1 h2 fun u hu hu'=>?_⟩
  ·have:=h3 u hu hu'
   rw [no v h1 h2,no u hu hu'];omega
  ·have:=h3 u hu hu'
   rw [no v h1 h2,no u hu hu'] at this;omega
end
theorem dense_iso {W B B':Nat} {cl kN kN':Nat→Int} (hB : ∀ v,v < W→0≤kN v∧kN v < B) (hB' : ∀ v,v < W→0≤kN' v∧kN' v < B') (h : ∀ u v,u < W→v < W→cl u=cl v→(kN u < kN v↔kN' u < kN' v)) : ∀ (n w:Nat),w < W→dense W B cl kN w=n→dense W B' cl kN' w=n
 | 0,w,hw,e=>by
  refine Classical.byContradiction fun hn=>?_
  obtain ⟨v,hv,e1,e2⟩:=dense_pred hw hn hB'
  have:kN' v < kN' w:=Classical.byContradiction fun hh=>by
   have:=(dense_le (B:=B') e1.symm hw hv hB').2 (by omega)
   omega
  have:=dense_mono (B:=B) e1 ((h v w hv hw e1).2 this) hv (hB v hv).1 (hB v hv).2
  omega
 | n+1,w,hw,e=>by
  obtain ⟨v,hv,e1,e2⟩:=dense_pred (B:=B) (cl:=cl) (kN:=kN) hw (by omega) hB
  have ih:=dense_iso hB hB' h n v hv (by omega)
  have hlt:kN v < kN w:=Classical.byContradiction fun hh=>by
   have:=(dense_le (B:=B) e1.symm hw hv hB).2 (by omega)
   omega
  have h1:=dense_mono (B:=B') e1 ((h v w hv hw e1).1 hlt) hv (hB' v hv).1 (hB' v hv).2
  obtain ⟨u,hu,g1,g2⟩:=dense_pred (B:=B') (cl:=cl) (kN:=kN') hw (by omega) hB'
  have hul:kN' u < kN' w:=Classical.byContradiction fun hh=>by
   have:=(dense_le (B:=B') g1.symm hw hu hB').2 (by omega)
   omega
  have hu1:=dense_mono (B:=B) g1 ((h u w hu hw g1).2 hul) hu (hB u hu).1 (hB u hu).2
  have hc:cl u=cl v:=g1.trans e1.symm
  have:dense W B cl kN u≤dense W B cl kN v:=by omega
  have h5:=(dense_le hc hu hv hB).1 this
  have h6 : ¬kN' v < kN' u:=fun hh=>by have:=(h v u hv hu hc.symm).2 hh;omega
  have:=(dense_le (B:=B') hc hu hv hB').2 (by omega)
  omega
end Go.Ab
namespace Go.Ab
open Go
set_option linter.unusedVariables false
set_option linter.unusedSimpArgs false
def Prp (h:Hd):Prop:=1≤h.op∧h.op≤8
theorem uni_zero {m:Hd→Nat} {c:List Nd} (h:uni m c=0) {n:Nd} (hn:n∈c):m n.hd=0:=by
 refine Nat.eq_of_testBit_eq fun i=>?_
 rw [Nat.zero_testBit]
 refine Bool.eq_false_iff.2 fun hi=>?_
 have:(uni m c).testBit i=true:=by rw [uni_bit];exact List.any_eq_true.2 ⟨n,hn,hi⟩
 rw [h,Nat.zero_testBit] at this;cases this
theorem prop_op {h:Hd} (hh:HdOk h) (h0:fragN h=0):Prp h:=by
 have ho:1≤h.op∧h.op≤21:=of_decide_eq_true hh.op
 have e:fragOf h.op=0:=by rw [← fragN_cast,h0];rfl
 refine ⟨ho.1,Classical.byContradiction fun hn=>?_⟩
 have:h.op=9∨h.op=10∨h.op=11∨h.op=12∨h.op=13∨h.op=14∨h.op=15∨h.op=16∨h.op=17∨h.op=18∨h.op=19∨h.op=20∨h.op=21:=by omega
 rcases this with e'|e'|e'|e'|e'|e'|e'|e'|e'|e'|e'|e'|e'<;>rw [e'] at e<;>exact absurd e (by decide)
theorem prop_ok {p:PM} (hg:Good p) {f:List Nd} (h1:uni fragN (cL f)=0) (h2:fitsL f 0 p.val.length=true) : ∃ t,OkT p f t∧t.all Prp:=by
 have h8:=hg.v8
 simp only [fitsL,belowL,Bool.and_eq_true,decide_eq_true_eq,Int.toNat_natCast] at h2
 obtain ⟨⟨h0,hA⟩,hF⟩:=h2
 have hA:uni agentN (cL f)=0:=by
  have:=hA.resolve_left (by omega)
  simpa using this
 have hF:=hF.resolve_left (by omega)
 have hf:=isF_of h0
 have hc:=hf.canon.1
 refine ⟨_,⟨hf,?_,?_⟩,?_⟩
 ·rw [← hc.all]
  intro n hn i hi
  rw [uni_zero h1 hn,Nat.zero_testBit] at hi;cases hi
 ·rw [← hc.all]
  intro n hn
  exact ⟨by rw [uni_zero hA hn];exact Nat.two_pow_pos _,(uni_lt factN).1 hF n hn⟩
 ·rw [← hc.all]
  intro n hn
  exact prop_op (cL_hd hn) (uni_zero h1 hn)
theorem val_prop {p q:PM} (hW:q.W=p.W) (hv:q.val=p.val) {h:Hd} (hp:Prp h) (x y:BitVec 64):valL q h x y=valL p h x y:=by
 obtain ⟨a,b⟩:=hp
 have:h.op=1∨h.op=2∨h.op=3∨h.op=4∨h.op=5∨h.op=6∨h.op=7∨h.op=8:=by omega
 unfold valL
 rw [hW,hv]
 rcases this with e|e|e|e|e|e|e|e<;>simp only [e]<;>rfl
theorem ev_prop {p q:PM} (hW:q.W=p.W) (hv:q.val=p.val) : ∀ {t:Tm},t.all Prp→ev (valL q) 0#64 t=ev (valL p) 0#64 t
 | .z h,ht=>val_prop hW hv ht _ _
 | .u h x,ht=>by rw [ev,ev,ev_prop hW hv ht.2,val_prop hW hv ht.1]
 | .b h x y,ht=>by rw [ev,ev,ev_prop hW hv ht.2.1,ev_prop hW hv ht.2.2,val_prop hW hv ht.1]
theorem okT_move {p q:PM} (hc:q.cell.length=p.cell.length) (hv:q.val.length=p.val.length) {f:List Nd} {t:Tm} (h:OkT p f t):OkT q f t:=by
 refine ⟨h.isF,h.lang,?_⟩
 have e:FitH q=FitH p:=by funext x;unfold FitH;rw [hc,hv]
 rw [e];exact h.fit
end Go.Ab
