/- A part of the proofs of this seat: functions and their contracts. -/
import Derived.Test.YtmnbcipineblbaaGreatDoorMD
import Derived.Shelf.Sort.Plain
import Derived.Sort.OwnSortedInts
import Derived.Sort.AssemblyPlain
import Derived.Deep.RegionLaw
import Derived.Deep.AppendLies
import Derived.Deep.DrawnRows
set_option linter.unusedVariables false
set_option linter.unusedSimpArgs false
set_option linter.unusedSectionVars false
namespace Go.Ab
open Go Go.Proofs Go.MapKept
set_option linter.unusedVariables false
set_option linter.unusedSimpArgs false
def inC (rank cell : List Int) (k : Nat) (c : Int) : List Int := ((List.range k).filter fun w => at0 cell w == c).map (at0 rank)
def gsOf (cell rank : List Int) (k : Nat) : GI := (keysOf (cell.take k)).map fun c => (c, inC rank cell k c)
theorem inC_succ {cell rank : List Int} {k : Nat} {c : Int} : inC rank cell (k + 1) c = inC rank cell k c ++ (if at0 cell k = c then [at0 rank k] else []) := by
  unfold inC
  rw [List.range_succ, List.filter_append, List.map_append]
  congr 1
  by_cases h : at0 cell k = c
  · simp [h]
  · simp [h]
theorem inC_len {cell rank : List Int} {k : Nat} {c : Int} : (inC rank cell k c).length ≤ k := by
  unfold inC
  rw [List.length_map]
  have := List.length_filter_le (fun w => at0 cell w == c) (List.range k)
  rwa [List.length_range] at this
theorem keysOf_snoc {l : List Int} {c : Int} : keysOf (l ++ [c]) = if c ∈ keysOf l then keysOf l else keysOf l ++ [c] := by
  simp only [keysOf, List.foldl_append, List.foldl_cons, List.foldl_nil]
  by_cases h : c ∈ List.foldl (fun l c => if c ∈ l then l else l ++ [c]) [] l
  · exact (if_pos h).trans (if_pos h).symm
  · exact (if_neg h).trans (if_neg h).symm
theorem nodup_fold : ∀ {l acc : List Int}, acc.Nodup → (l.foldl (fun l c => if c ∈ l then l else l ++ [c]) acc).Nodup
  | [], acc, h => h
  | x :: l, acc, h => by
    rw [List.foldl_cons]
    refine nodup_fold ?_
    split
    · exact h
    · rename_i hx
      exact List.nodup_append.2 ⟨h, by simp, fun a ha b hb => by simp at hb; subst hb; intro e; subst e; exact hx ha⟩
theorem nodup_keysOf {l : List Int} : (keysOf l).Nodup := nodup_fold List.nodup_nil
theorem take_at0 {cell : List Int} {k : Nat} (h : k < cell.length) : cell.take (k + 1) = cell.take k ++ [at0 cell k] := by
  rw [List.take_add_one, get_at0 h]; rfl
theorem gsOf_keys {cell rank : List Int} {k : Nat} : (gsOf cell rank k).map Prod.fst = keysOf (cell.take k) := by
  rw [gsOf, List.map_map]
  exact (List.map_congr_left fun _ _ => rfl).trans (List.map_id _)
theorem gs_new {cell rank : List Int} {k : Nat} (hk : k < cell.length) (h : at0 cell k ∉ (gsOf cell rank k).map Prod.fst) : gsOf cell rank (k + 1) = gsOf cell rank k ++ [(at0 cell k, [at0 rank k])] := by
  rw [gsOf_keys] at h
  have h0 : inC rank cell k (at0 cell k) = [] := by
    rw [inC, List.map_eq_nil_iff, List.filter_eq_nil_iff]
    intro w hw he
    rw [List.mem_range] at hw
    refine h (mem_keysOf.2 ?_)
    rw [← (show at0 cell w = at0 cell k by simpa using he)]
    exact List.mem_of_getElem? (i := w) (by rw [List.getElem?_take, if_pos hw, get_at0 (by omega)])
  rw [gsOf, take_at0 hk, keysOf_snoc, if_neg h, List.map_append]
  congr 1
  · refine List.map_congr_left fun c hc => ?_
    rw [inC_succ, if_neg (fun e => h (by rw [e]; exact hc)), List.append_nil]
  · simp [inC_succ, h0]
theorem gs_old {cell rank : List Int} {k i : Nat} (hk : k < cell.length) (hi : i < (gsOf cell rank k).length) (hc : ((gsOf cell rank k).getD i default).1 = at0 cell k) :
    gsOf cell rank (k + 1) = (gsOf cell rank k).set i (at0 cell k, ((gsOf cell rank k).getD i default).2 ++ [at0 rank k]) := by
  have hl : i < (keysOf (cell.take k)).length := by simpa [gsOf] using hi
  have hg : ∀ j (hj : j < (keysOf (cell.take k)).length), (gsOf cell rank k)[j]'(by simpa [gsOf] using hj) = ((keysOf (cell.take k))[j], inC rank cell k (keysOf (cell.take k))[j]) := fun j hj => by simp [gsOf]
  have hci : (keysOf (cell.take k))[i] = at0 cell k := by
    rw [← hc]; simp [List.getD, hi, hg i hl]
  have hm : at0 cell k ∈ keysOf (cell.take k) := by rw [← hci]; exact List.getElem_mem _
  have hn : gsOf cell rank (k + 1) = (keysOf (cell.take k)).map fun c => (c, inC rank cell (k + 1) c) := by rw [gsOf, take_at0 hk, keysOf_snoc, if_pos hm]
  rw [hn]
  refine List.ext_getElem (by simp [gsOf]) fun j h1 h2 => ?_
  have hj : j < (keysOf (cell.take k)).length := by simpa using h1
  rw [List.getElem_map, List.getElem_set]
  by_cases e : i = j
  · subst e
    rw [if_pos rfl, hci, inC_succ, if_pos rfl]
    simp [List.getD, hi, hg i hl, hci]
  · rw [if_neg e, hg j hj, inC_succ, if_neg, List.append_nil]
    intro h
    exact e ((List.getElem_inj nodup_keysOf).1 (hci.trans h))
def O1 (base : Nat) (w : World) (v : Value) (g : Nat) (zs : List Int) : Prop := w.ownsRow base 3 1 v zs.length (zs.map (Value.int .i64)) ∧ v.ownBlock = some g
theorem O1.kept {base : Nat} {w w' : World} {v : Value} {g : Nat} {zs : List Int} {row : Option Nat} (h : O1 base w v g zs) (hg : w.grownBy w' row) (hne : some g ≠ row) : O1 base w' v g zs := ⟨h.1.kept hg (.inr (by rw [h.2]; exact hne)), h.2⟩
theorem O1.lt {base : Nat} {w : World} {v : Value} {g : Nat} {zs : List Int} (h : O1 base w v g zs) : base ≤ g ∧ g < w.heap.size := h.1.lt g h.2
theorem O1.O2 {base : Nat} {w : World} {v : Value} {g : Nat} {zs : List Int} (h : O1 base w v g zs) (hl : zs.length ≤ 536870912) : O2 base w v g zs := by
  obtain ⟨⟨h1, h2⟩, h3⟩ := h
  rcases h2 with ⟨rfl, h2⟩ | ⟨g', cap, cur, rfl, h4, h5, h6, h7, h8, h9⟩
  · cases h3
  · cases h3
    refine ⟨cap, cur, 3, rfl, h4, h5, h6, by omega, hl, fun j hj => ?_⟩
    have : (cur.toList.take (zs.length * 1))[j]? = some (Value.int .i64 (zs.getD j 0)) := by rw [h9]; simp [hj, List.getD]
    rw [List.getElem?_take, if_pos (by omega)] at this
    rw [Array.getD_eq_getD_getElem?, ← Array.getElem?_toList, this]; rfl
theorem grown_set (w : World) (m : Nat) (o : Obj) : w.grownBy { w with heap := w.heap.setIfInBounds m o } (some m) :=
  ⟨rfl, rfl, rfl, by simp, fun k _ hk => by simp [Array.getElem?_setIfInBounds_ne (fun e : m = k => hk (by rw [e]))]⟩
section
variable {w : World} {base m : Nat} {gs : GI} {es : Array MapEntry} {clock : Nat} {blk : Nat → Nat}
theorem Grp.look1 (h : Grp (O1 base) w m gs es clock blk) (hmb : m < base) (c : Int) : ∃ v zs, ∃ tgt : List Int → GI, (v.ownBlock ≠ some m) ∧ (∀ w', w'.heap[m]? = w.heap[m]? → (Instr.lookup 90 (.map (some m)) (.int .i64 c) false).run Tryz.prog w' = .ok v w') ∧ w.ownsRow base 3 1 v zs.length (zs.map (Value.int .i64)) ∧
    ((∃ i, i < gs.length ∧ (gs.getD i default).1 = c ∧ zs = (gs.getD i default).2 ∧ tgt = fun ys => gs.set i (c, ys)) ∨ (c ∉ gs.map Prod.fst ∧ zs = [] ∧ tgt = fun ys => gs ++ [(c, ys)])) ∧
    ∀ w1 v' x, w.grownBy w1 v.ownBlock → w1.ownsRow base 3 1 v' (zs.length + 1) (zs.map (Value.int .i64) ++ [.int .i64 x]) → (v'.ownBlock = v.ownBlock ∨ v'.ownBlock = some w.heap.size ∨ ∃ g, v'.ownBlock = some g ∧ w.heap.size ≤ g) →
      ∃ w2 es' clock' blk', (Instr.mapUpdate 90 (.map (some m)) (.int .i64 c) v').run Tryz.prog w1 = .ok () w2 ∧ Grp (O1 base) w2 m (tgt (zs ++ [x])) es' clock' blk' ∧ w1.grownBy w2 (some m) := by
  have hmw : m < w.heap.size := lt_of_block h.heap
  have nn : ∀ {w1 : World} {v' : Value} {zs : List Int} {x : Int}, w1.ownsRow base 3 1 v' (zs.length + 1) (zs.map (Value.int .i64) ++ [.int .i64 x]) → ∃ g, O1 base w1 v' g (zs ++ [x]) := by
    intro w1 v' zs x ho
    have ho' : w1.ownsRow base 3 1 v' (zs ++ [x]).length ((zs ++ [x]).map (Value.int .i64)) := by simpa using ho
    rcases ho.2 with ⟨_, h0⟩ | ⟨g, cap, cur, rfl, _⟩
    · omega
    · exact ⟨g, ho', rfl⟩
  rcases h.find c with ⟨hn, hf⟩ | ⟨i, hi, hc, hf⟩
  · refine ⟨_, [], _, by simp [Value.ownBlock], fun w' hw' => lookG_none (hw'.trans h.heap) hf, World.ownsRow_nil _ _ _ _, .inr ⟨hn, rfl, rfl⟩, fun w1 v' x hg ho hl => ?_⟩
    obtain ⟨g, hv⟩ := nn ho
    have hgw : w.heap.size ≤ g := by
      rcases hl with h1 | h1 | ⟨g', h1, h2⟩
      · rw [hv.2] at h1; cases h1
      · rw [hv.2] at h1; cases h1; exact Nat.le_refl _
      · rw [hv.2] at h1; cases h1; exact h2
    have hm1 : w1.heap[m]? = some (.map es clock) := (hg.block m hmw (by simp [Value.ownBlock])).trans h.heap
    obtain ⟨es', h1, h2⟩ := h.add (w1 := w1) (c := c) (v := v') (g := g) (zs := [] ++ [x]) hf hm1
      (fun o => hv.kept (grown_set w1 m o) (by simp; have := hv.lt; omega))
      (fun o j hj => ((h.val j hj).kept hg (by simp [Value.ownBlock])).kept (grown_set w1 m o) (by have := (h.val j hj).lt; simp; omega))
      (fun j hj => by have := (h.val j hj).lt; omega)
    exact ⟨_, es', _, _, h1, h2, grown_set _ _ _⟩
  · have hvi := h.val i hi
    refine ⟨_, (gs.getD i default).2, _, by rw [hvi.2]; have := hvi.lt; simp; omega, fun w' hw' => lookG_some (hw'.trans h.heap) hf, hvi.1, .inl ⟨i, hi, hc, rfl, rfl⟩, fun w1 v' x hg ho hl => ?_⟩
    rw [hvi.2] at hg hl
    obtain ⟨g, hv⟩ := nn ho
    have hgw : g = blk i ∨ w.heap.size ≤ g := by
      rcases hl with h1 | h1 | ⟨g', h1, h2⟩
      · rw [hv.2] at h1; cases h1; exact .inl rfl
      · rw [hv.2] at h1; cases h1; exact .inr (Nat.le_refl _)
      · rw [hv.2] at h1; cases h1; exact .inr h2
    have hmi : m ≠ blk i := by have := hvi.lt; omega
    have hm1 : w1.heap[m]? = some (.map es clock) := (hg.block m hmw (by simpa using hmi)).trans h.heap
    have hne : ∀ j, j < gs.length → j ≠ i → blk j ≠ blk i := fun j hj hji e => hji (h.apart j i hj hi e)
    obtain ⟨es', h1, h2, -⟩ := h.set (w1 := w1) (c := c) (u := (es.getD i default).val) (v := v') (g := g) (zs := (gs.getD i default).2 ++ [x]) hi hc hf hm1
      (fun o => hv.kept (grown_set w1 m o) (by simp; have := hv.lt; omega))
      (fun o j hj hji => ((h.val j hj).kept hg (by simpa using hne j hj hji)).kept (grown_set w1 m o) (by have := (h.val j hj).lt; simp; omega))
      (fun j hj hji => by
        have := (h.val j hj).lt
        rcases hgw with rfl | h3
        · exact hne j hj hji
        · omega)
    exact ⟨_, es', _, _, h1, h2, grown_set _ _ _⟩
end
end Go.Ab
namespace Go.Proofs
def Tryz.lays189_ren : Go.Shelf.Ren := ⟨fun | 189 => 110 | 125 => 124 | 257 => 143 | 128 => 158 | 129 => 159 | 294 => 166 | 295 => 167 | 296 => 168 | 297 => 169 | 298 => 170 | 299 => 171 | 216 => 172 | 300 => 173 | 301 => 174 | 328 => 192 | 329 => 179 | 330 => 180 | 331 => 193 | 332 => 194 | 215 => 195 | 343 => 201 | n => n, fun | 28 => 28 | 3 => 3 | 46 => 101 | 0 => 0 | 51 => 158 | 53 => 44 | 4 => 4 | 183 => 151 | 182 => 150 | 131 => 122 | 5 => 5 | 9 => 9 | 218 => 172 | 222 => 176 | 228 => 188 | 229 => 37 | n => n, fun | n => n⟩
theorem Tryz.lays189 : Go.Proofs.Lays.n189 Tryz.prog Tryz.lays189_ren := {
  mixed := by kernel_rfl
  f125 := Tryz.func124.trans (congrArg some (by kernel_rfl))
  f128 := Tryz.func158.trans (congrArg some (by kernel_rfl))
  f129 := Tryz.func159.trans (congrArg some (by kernel_rfl))
  f189 := Tryz.func110.trans (congrArg some (by kernel_rfl))
  f215 := Tryz.func195.trans (congrArg some (by kernel_rfl))
  f216 := Tryz.func172.trans (congrArg some (by kernel_rfl))
  f257 := Tryz.func143.trans (congrArg some (by kernel_rfl))
  f294 := Tryz.func166.trans (congrArg some (by kernel_rfl))
  f295 := Tryz.func167.trans (congrArg some (by kernel_rfl))
  f296 := Tryz.func168.trans (congrArg some (by kernel_rfl))
  f297 := Tryz.func169.trans (congrArg some (by kernel_rfl))
  f298 := Tryz.func170.trans (congrArg some (by kernel_rfl))
  f299 := Tryz.func171.trans (congrArg some (by kernel_rfl))
  f300 := Tryz.func173.trans (congrArg some (by kernel_rfl))
  f301 := Tryz.func174.trans (congrArg some (by kernel_rfl))
  f328 := Tryz.func192.trans (congrArg some (by kernel_rfl))
  f329 := Tryz.func179.trans (congrArg some (by kernel_rfl))
  f330 := Tryz.func180.trans (congrArg some (by kernel_rfl))
  f331 := Tryz.func193.trans (congrArg some (by kernel_rfl))
  f332 := Tryz.func194.trans (congrArg some (by kernel_rfl))
  f343 := Tryz.func201.trans (congrArg some (by kernel_rfl))
  t0 := Tryz.underlying0
  a0 := Tryz.isAgg0
  z0 := Tryz.sizeOf0
  v0 := Tryz.zeroValue0
  t3 := Tryz.underlying3
  a3 := Tryz.isAgg3
  z3 := Tryz.sizeOf3
  v3 := Tryz.zeroValue3
  t4 := Tryz.underlying4
  a4 := Tryz.isAgg4
  z4 := Tryz.sizeOf4
  v4 := Tryz.zeroValue4
  t5 := Tryz.underlying5
  a5 := Tryz.isAgg5
  z5 := Tryz.sizeOf5
  v5 := Tryz.zeroValue5
  t9 := Tryz.underlying9
  a9 := Tryz.isAgg9
  z9 := Tryz.sizeOf9
  v9 := Tryz.zeroValue9
  t28 := Tryz.underlying28
  a28 := Tryz.isAgg28
  z28 := Tryz.sizeOf28
  v28 := Tryz.zeroValue28
  t46 := Tryz.underlying101
  a46 := Tryz.isAgg101
  z46 := Tryz.sizeOf101
  v46 := Tryz.zeroValue101
  t51 := Tryz.underlying158
  a51 := Tryz.isAgg158
  z51 := Tryz.sizeOf158
  v51 := Tryz.zeroValue158
  t53 := Tryz.underlying44
  a53 := Tryz.isAgg44
  z53 := Tryz.sizeOf44
  v53 := Tryz.zeroValue44
  t131 := Tryz.underlying122
  a131 := Tryz.isAgg122
  z131 := Tryz.sizeOf122
  v131 := Tryz.zeroValue122
  t182 := Tryz.underlying150
  a182 := Tryz.isAgg150
  z182 := Tryz.sizeOf150
  v182 := Tryz.zeroValue150
  t183 := Tryz.underlying151
  a183 := Tryz.isAgg151
  z183 := Tryz.sizeOf151
  v183 := Tryz.zeroValue151
  t218 := Tryz.underlying172
  a218 := Tryz.isAgg172
  z218 := Tryz.sizeOf172
  v218 := Tryz.zeroValue172
  t222 := Tryz.underlying176
  a222 := Tryz.isAgg176
  z222 := Tryz.sizeOf176
  v222 := Tryz.zeroValue176
  t228 := Tryz.underlying188
  a228 := Tryz.isAgg188
  z228 := Tryz.sizeOf188
  v228 := Tryz.zeroValue188
  t229 := Tryz.underlying37
  a229 := Tryz.isAgg37
  z229 := Tryz.sizeOf37
  v229 := Tryz.zeroValue37 }
end Go.Proofs
namespace Go.Ab
open Go Go.Proofs Go.MapKept
open Go.ChangeMaps (setBlock)
set_option linter.unusedVariables false
set_option linter.unusedSimpArgs false
variable {T : Nat → Obj → Prop}
def finZ (zs : List Int) : List Int := ddA (Sort.sort Sort.ltInt zs.toArray) (Sort.sort Sort.ltInt zs.toArray).size
theorem dd_ne {d : Array Int} : ∀ {n : Nat}, 0 < n → ddA d n ≠ []
  | 1, _ => by simp [ddA]
  | n + 2, _ => by
    rw [ddA]
    split
    · exact dd_ne (Nat.succ_pos n)
    · simp
theorem dd_len {α : Type} [Inhabited α] [DecidableEq α] {d : Array α} : ∀ {n : Nat}, (ddA d n).length ≤ n
  | 0 => Nat.le_refl 0
  | n + 1 => by
    have := dd_len (d := d) (n := n)
    rw [ddA]
    split
    · omega
    · simp; omega
theorem sort_size (d : Array Int) : (Sort.sort Sort.ltInt d).size = d.size := pdq_size Sort.swo_ltInt d.size d 0 d.size _ true true (by omega) (Nat.zero_le _) (Nat.le_refl _)
theorem call_compact {d : Array Int} (hl : d.size ≤ 536870912) (h0 : 0 < d.size) {base : Nat} {w : World} {v : Value} {g : Nat} (h : O2 base w v g d.toList) (hT : ∀ b o, T b o → w.heap[b]? = some o ∧ b ≠ g) (hb : base ≤ w.heap.size) :
    Calls Tryz.prog 111 #[v] w fun e w' => ∃ v' g', e = .returned v' ∧ O2 base w' v' g' (ddA d d.size) ∧ (g' = g ∨ w.heap.size ≤ g') ∧ w.grownBy w' (some g) := by
  by_cases hs : Steps d
  · have hd : ddA d d.size = d.toList := by
      rw [dd_take (Nat.le_refl _) (fun j h1 h2 => hs j h1 h2), List.take_of_length_le (by simp)]
    exact call_row (T := T) (f := 111) (id := 0) (fn_Compact_id_int d hl hs) (by rw [hd]; rfl) (Nat.le_trans dd_len hl) (dd_ne h0) h hT hb
  · exact call_row (T := T) (f := 111) (id := 1) (fn_Compact_cut_int d hl hs) rfl (Nat.le_trans dd_len hl) (dd_ne h0) h hT hb
theorem call_sortI {zs : List Int} (hl : zs.length ≤ 536870912) (h0 : zs ≠ []) {base : Nat} {w : World} {v : Value} {g : Nat} (h : O2 base w v g zs) (hT : ∀ b o, T b o → w.heap[b]? = some o ∧ b ≠ g) :
    Calls Tryz.prog 110 #[v] w fun e w' => e = .returned (.tuple #[]) ∧ O2 base w' v g (Sort.sort Sort.ltInt zs.toArray).toList ∧ w.grownBy w' (some g) := by
  have hz : (Sort.sort Sort.ltInt zs.toArray).toList.length = zs.length := by rw [Array.length_toList, sort_size]; simp
  obtain ⟨cap, c, e, rfl, h2, h3, h4, h5, h6, h7⟩ := h
  have hH := holds_of_blockI (ss := zs) h3 (by
    refine List.ext_getElem (by simp; omega) fun i h1 h8 => ?_
    have h8 : i < zs.length := by simpa using h8
    have := h7 i h8
    simp [List.getD, h8, show i < c.size by omega] at this
    simp [this])
  refine (Any.slices_Sort_int Tryz.lays189 g 0 cap zs w hH (lt_of_block h3) (by omega)).mono fun x w' => ?_
  rintro ⟨rfl, n, os, rfl⟩
  have hq : (zs.mergeSort fun x y => decide (x ≤ y)) = (Sort.sort Sort.ltInt zs.toArray).toList := (Go.Sort.sortInt zs).symm
  rw [hq]
  generalize (Sort.sort Sort.ltInt zs.toArray).toList = ys at hz
  refine ⟨rfl, ⟨cap, _, e, by rw [hz], h2, heap_sortedI _ h3, by omega, by simp [Sort.putCells]; omega, by omega, fun j hj => ?_⟩, grownBy_sortedI _⟩
  have ht := take_putCellsI c ys (by omega)
  have := congrArg (fun l : List Value => l.getD j undef) ht
  simp [List.getD, List.getElem?_take, hj] at this
  simpa [List.getD, hj] using this
def gAt (gs : GI) (born : Nat → Nat) (seen : Array Nat) : GI := (List.range gs.length).map fun j => ((gs.getD j default).1, if seen.contains (born j) then finZ (gs.getD j default).2 else (gs.getD j default).2)
def unseen (n : Nat) (born : Nat → Nat) (seen : Array Nat) : Nat := ((List.range n).filter fun j => !seen.contains (born j)).length
structure Mid (w : World) (m base r clock : Nat) (gs : GI) (born : Nat → Nat) (seen : Array Nat) (wr : World) : Prop where
  ex : ∃ es blk, Grp (O2 base) wr m (gAt gs born seen) es clock blk ∧ (∀ j, j < gs.length → (es.getD j default).born = born j) ∧ ∀ j, j < gs.length → blk j ≠ r ∧ blk j < wr.heap.size
  iter : wr.heap[r]? = some (.mapIter (some m) clock seen clock)
  grown : w.grownBy wr none
  mr : m < base ∧ base ≤ r ∧ w.heap.size ≤ m
theorem gAt_len {gs : GI} {born : Nat → Nat} {seen : Array Nat} : (gAt gs born seen).length = gs.length := by simp [gAt]
theorem gAt_get {gs : GI} {born : Nat → Nat} {seen : Array Nat} {j : Nat} (hj : j < gs.length) : (gAt gs born seen).getD j default = ((gs.getD j default).1, if seen.contains (born j) then finZ (gs.getD j default).2 else (gs.getD j default).2) := by
  simp [gAt, List.getD, hj]
theorem gAt_push {gs : GI} {born : Nat → Nat} {seen : Array Nat} {i : Nat} (hi : i < gs.length) (hb : ∀ j, j < gs.length → born j = born i → j = i) :
    gAt gs born (seen.push (born i)) = (gAt gs born seen).set i ((gs.getD i default).1, finZ (gs.getD i default).2) := by
  refine List.ext_getElem (by simp [gAt]) fun j h1 h2 => ?_
  have hj : j < gs.length := by simpa [gAt] using h1
  rw [List.getElem_set]
  simp only [gAt, List.getElem_map, List.getElem_range, Array.contains_push]
  by_cases e : i = j
  · subst e; simp
  · rw [if_neg e]
    have : (born j == born i) = false := by simpa using fun h => e (hb j hj h).symm
    simp [this]
theorem unseen_push {n : Nat} {born : Nat → Nat} {seen : Array Nat} {i : Nat} (hi : i < n) (hs : seen.contains (born i) = false) : unseen n born (seen.push (born i)) < unseen n born seen := by
  unfold unseen
  have hsub : ((List.range n).filter fun j => !(seen.push (born i)).contains (born j)) = ((List.range n).filter fun j => !seen.contains (born j)).filter fun j => !(born j == born i) := by
    rw [List.filter_filter]
    refine List.filter_congr fun j _ => ?_
    rw [Array.contains_push]
    cases seen.contains (born j) <;> cases (born j == born i) <;> rfl
  rw [hsub]
  refine Nat.lt_of_le_of_ne (List.length_filter_le _ _) fun h => ?_
  have := (List.filter_eq_self.1 (List.length_filter_eq_length_iff.1 h |> fun hh => List.filter_eq_self.2 hh)) i (List.mem_filter.2 ⟨List.mem_range.2 hi, by simpa using hs⟩)
  simp at this
end Go.Ab
namespace Go.Ab
open Go Go.Proofs Go.MapKept
open Go.ChangeMaps (setBlock)
set_option linter.unusedVariables false
set_option linter.unusedSimpArgs false
variable {T : Nat → Obj → Prop}
theorem Mid.round {w wr : World} {m base r clock : Nat} {gs : GI} {born : Nat → Nat} {seen : Array Nat} (h : Mid w m base r clock gs born seen wr) (ty : TypeId) (hT : ∀ b o, T b o → w.heap[b]? = some o)
    (hk : ∀ i j, i < gs.length → j < gs.length → (gs.getD i default).1 = (gs.getD j default).1 → i = j) (hz : ∀ j, j < gs.length → (gs.getD j default).2 ≠ [] ∧ (gs.getD j default).2.length ≤ 536870912) :
    ((Instr.next (.pointer (some ⟨r, 0, none⟩)) false ty).run Tryz.prog wr = .ok (.tuple #[.bool false]) wr ∧ ∀ j, j < gs.length → seen.contains (born j) = true) ∨
    ∃ (c : Int) (v : Value) (wn : World), (Instr.next (.pointer (some ⟨r, 0, none⟩)) false ty).run Tryz.prog wr = .ok (.tuple #[.bool true, .int .i64 c, v]) wn ∧ (Instr.entry (.pointer (some ⟨r, 0, none⟩))).run Tryz.prog wn = .ok (.tuple #[.int .i64 c, v]) wn ∧
      Calls Tryz.prog 110 #[v] wn fun e w' => e = .returned (.tuple #[]) ∧ Calls Tryz.prog 111 #[v] w' fun e w'' => ∃ v', e = .returned v' ∧ ∃ wz seen', (Instr.mapUpdate 90 (.map (some m)) (.int .i64 c) v').run Tryz.prog w'' = .ok () wz ∧
        Mid w m base r clock gs born seen' wz ∧ unseen gs.length born seen' < unseen gs.length born seen := by
  obtain ⟨es, blk, hG, hborn, hblk⟩ := h.ex
  obtain ⟨hmb, hbr, hwm⟩ := h.mr
  have hsz : es.size = gs.length := hG.size.trans gAt_len
  have idx : ∀ x ∈ es.toList, ∃ j, j < gs.length ∧ es.getD j default = x := fun x hx => by
    obtain ⟨j, hj, rfl⟩ := List.getElem_of_mem hx
    rw [Array.length_toList] at hj
    exact ⟨j, by omega, by simp [Array.getD_eq_getD_getElem?, hj]⟩
  have hold : ∀ x ∈ es.toList, x.born < clock := fun x hx => by
    obtain ⟨j, hj, rfl⟩ := idx x hx
    exact hG.st.lt j (by omega)
  have hbi : ∀ i j, i < gs.length → j < gs.length → born i = born j → i = j := fun i j hi hj e => hG.st.inj i j (by omega) (by omega) (by rw [hborn i hi, hborn j hj, e])
  rcases run_next_at (P := Tryz.prog) wr ty r m clock clock seen es clock h.iter hG.heap hold (Nat.le_refl _) with ⟨h0, hrun⟩ | ⟨e, he, w1, hw1, hrun⟩
  · refine .inl ⟨hrun, fun j hj => ?_⟩
    by_cases hc : seen.contains (born j) = true
    · exact hc
    · have hm : es.getD j default ∈ (leftOf es seen) := by
        unfold leftOf
        refine Array.mem_filter.2 ⟨?_, ?_⟩
        · rw [show es.getD j default = es[j]'(by omega) by simp [Array.getD_eq_getD_getElem?, show j < es.size by omega]]
          exact Array.getElem_mem _
        · rw [hborn j hj]; simpa using hc
      have : leftOf es seen = #[] := Array.eq_empty_of_size_eq_zero h0
      rw [this] at hm
      simp at hm
  · right
    have he' : e ∈ es ∧ seen.contains e.born = false := by
      have : e ∈ leftOf es seen := by simpa using he
      unfold leftOf at this
      obtain ⟨h1, h2⟩ := Array.mem_filter.1 this
      exact ⟨h1, by simpa using h2⟩
    obtain ⟨j, hj, rfl⟩ := idx e (by simpa using he'.1)
    have hs := he'.2
    rw [hborn j hj] at hs hrun
    have hjl : j < (gAt gs born seen).length := by rw [gAt_len]; exact hj
    have hkey := hG.key j hjl
    have hval := hG.val j hjl
    have hgj := gAt_get (born := born) (seen := seen) hj
    rw [hs] at hgj
    simp only [Bool.false_eq_true, if_false] at hgj
    rw [hgj] at hkey hval
    simp only at hkey hval
    rw [hkey] at hrun
    have hw1h : w1.heap = wr.heap ∧ w1.os = wr.os ∧ w1.tape = wr.tape ∧ w1.output = wr.output := by rcases hw1 with rfl | rfl <;> exact ⟨rfl, rfl, rfl, rfl⟩
    have hrlt : r < wr.heap.size := lt_of_block h.iter
    generalize hwn : setBlock w1 r (.mapIter (some m) clock (seen.push (born j)) clock) = wn at hrun
    have nr : wn.heap[r]? = some (.mapIter (some m) clock (seen.push (born j)) clock) := by rw [← hwn]; simp [setBlock, hw1h.1, hrlt]
    have no : ∀ b, b ≠ r → wn.heap[b]? = wr.heap[b]? := fun b hb => by rw [← hwn]; simp [setBlock, hw1h.1, Array.getElem?_setIfInBounds_ne (Ne.symm hb)]
    have ns : wn.heap.size = wr.heap.size := by rw [← hwn]; simp [setBlock, hw1h.1]
    have nx : wn.os = wr.os ∧ wn.tape = wr.tape ∧ wn.output = wr.output := by rw [← hwn]; exact hw1h.2
    clear hwn
    obtain ⟨hbj1, hbj2⟩ := hblk j hj
    have hbase : ∀ i, i < gs.length → base ≤ blk i := fun i hi => by
      obtain ⟨_, _, _, _, h2, _⟩ := hG.val i (by rw [gAt_len]; exact hi); exact h2
    have hgn : w.grownBy wn none := ⟨nx.1.trans h.grown.os, nx.2.1.trans h.grown.tape, nx.2.2.trans h.grown.output, by rw [ns]; exact h.grown.size, fun b hb _ => (no b (by omega)).trans (h.grown.block b hb (by simp))⟩
    have hTn : ∀ (x : World), wn.grownBy x (some (blk j)) → ∀ b o, T b o → x.heap[b]? = some o ∧ b ≠ blk j := fun x hx b o ht => by
      have h1 := hT b o ht
      have h2 := lt_of_block h1
      have h3 := hbase j hj
      exact ⟨(hx.block b (Nat.lt_of_lt_of_le h2 hgn.size) (by simp; omega)).trans ((hgn.block b h2 (by simp)).trans h1), by omega⟩
    have hself : wn.grownBy wn (some (blk j)) := ⟨rfl, rfl, rfl, Nat.le_refl _, fun _ _ _ => rfl⟩
    refine ⟨(gs.getD j default).1, (es.getD j default).val, wn, hrun, ?_, ?_⟩
    · have := run_entry_at (P := Tryz.prog) wn r m clock seen es clock (es.getD j default) (by rw [hborn j hj]; exact nr) ((no m (by omega)).trans hG.heap) (by simpa using he'.1) (by
        refine List.pairwise_iff_getElem.2 fun p q hp hq hpq e => ?_
        simp only [List.length_map, Array.length_toList] at hp hq
        have := hG.st.inj p q hp hq (by simpa [Array.getD_eq_getD_getElem?, hp, hq] using e)
        omega)
      rw [hkey] at this
      exact this
    · refine (call_sortI (T := T) (hz j hj).2 (hz j hj).1 (hval.kept (no _ hbj1)) (hTn wn hself)).mono ?_
      rintro e1 w' ⟨rfl, hO1, hg1⟩
      refine ⟨rfl, ?_⟩
      have hds : (Sort.sort Sort.ltInt (gs.getD j default).2.toArray).size = (gs.getD j default).2.length := by rw [sort_size]; simp
      refine (call_compact (T := T) (d := Sort.sort Sort.ltInt (gs.getD j default).2.toArray) (by rw [hds]; exact (hz j hj).2) (by rw [hds]; exact List.length_pos_iff.2 (hz j hj).1) hO1 (hTn w' hg1) (by have := hbase j hj; have := hg1.size; omega)).mono ?_
      rintro e2 w'' ⟨v', g', rfl, hO2, hg', hg2⟩
      refine ⟨v', rfl, ?_⟩
      have hg12 : wn.grownBy w'' (some (blk j)) := ⟨hg2.os.trans hg1.os, hg2.tape.trans hg1.tape, hg2.output.trans hg1.output, Nat.le_trans hg1.size hg2.size, fun b hb hne => (hg2.block b (Nat.lt_of_lt_of_le hb hg1.size) hne).trans (hg1.block b hb hne)⟩
      have hmj : m ≠ blk j := by have := hbase j hj; omega
      have hm2 : w''.heap[m]? = some (.map es clock) := (hg12.block m (by rw [ns]; omega) (by simpa using hmj)).trans ((no m (by omega)).trans hG.heap)
      have hg'b : base ≤ g' := by obtain ⟨_, _, _, _, h2, _⟩ := hO2; exact h2
      have hg'l : g' < w''.heap.size := by obtain ⟨_, _, _, _, _, h3, _⟩ := hO2; exact lt_of_block h3
      have hg'r : g' ≠ r := by
        rcases hg' with rfl | h3
        · exact hbj1
        · have := hg1.size; omega
      have hf : Instr.findNow (.int .i64) (.int .i64 (gs.getD j default).1) es.toList 0 = some (some (j, (es.getD j default).val)) := by
        rcases hG.find (gs.getD j default).1 with ⟨hn, -⟩ | ⟨i, hi, hi2, hf⟩
        · refine absurd ?_ hn
          refine List.mem_map.2 ⟨(gAt gs born seen).getD j default, ?_, by rw [hgj]⟩
          simp [List.getD, hjl]
        · rw [gAt_len] at hi
          rw [gAt_get hi] at hi2
          have := hk i j hi hj hi2
          subst this
          exact hf
      obtain ⟨es', hup, hG', hbn⟩ := hG.set (w1 := w'') (c := (gs.getD j default).1) (i := j) (u := (es.getD j default).val) (v := v') (g := g') (zs := finZ (gs.getD j default).2) hjl (by rw [hgj]) hf hm2
        (fun o => hO2.kept (by simp [Array.getElem?_setIfInBounds_ne (show m ≠ g' by omega)]))
        (fun o i hi hij => (hG.val i hi).kept (by
          rw [gAt_len] at hi
          have h1 := hbase i hi
          have h2 : blk i ≠ blk j := fun e => hij (hG.apart i j (by rw [gAt_len]; exact hi) hjl e)
          obtain ⟨h3, h4⟩ := hblk i hi
          show (w''.heap.setIfInBounds m o)[blk i]? = _
          rw [Array.getElem?_setIfInBounds_ne (show m ≠ blk i by omega), hg12.block (blk i) (by rw [ns]; exact h4) (by simpa using h2), no _ h3]))
        (fun i hi hij => by
          rw [gAt_len] at hi
          have h2 : blk i ≠ blk j := fun e => hij (hG.apart i j (by rw [gAt_len]; exact hi) hjl e)
          have h4 := (hblk i hi).2
          rcases hg' with rfl | h3
          · exact h2
          · have := hg1.size; omega)
      refine ⟨_, seen.push (born j), hup, ⟨⟨es', fun i => if i = j then g' else blk i, ?_, fun i hi => (hbn i (by rw [gAt_len]; exact hi)).trans (hborn i hi), fun i hi => ?_⟩, ?_, ?_, hmb, hbr, hwm⟩, unseen_push hj hs⟩
      · rw [gAt_push hj (fun i hi e => hbi i j hi hj e)]
        exact hG'
      · show (if i = j then g' else blk i) ≠ r ∧ (if i = j then g' else blk i) < _
        by_cases e : i = j
        · rw [if_pos e]; exact ⟨hg'r, by simpa using hg'l⟩
        · rw [if_neg e]
          refine ⟨(hblk i hi).1, ?_⟩
          have := (hblk i hi).2; have := hg12.size; simp; omega
      · show (w''.heap.setIfInBounds m _)[r]? = _
        rw [Array.getElem?_setIfInBounds_ne (show m ≠ r by omega), hg12.block r (by rw [ns]; exact hrlt) (by simpa using Ne.symm hbj1), nr]
      · refine ⟨hg12.os.trans hgn.os, hg12.tape.trans hgn.tape, hg12.output.trans hgn.output, by simp; exact Nat.le_trans hgn.size hg12.size, fun b hb _ => ?_⟩
        show (w''.heap.setIfInBounds m _)[b]? = _
        have := hbase j hj
        rw [Array.getElem?_setIfInBounds_ne (show m ≠ b by omega), hg12.block b (Nat.lt_of_lt_of_le hb hgn.size) (by simp; omega), hgn.block b hb (by simp)]
def muOf (r n : Nat) (born : Nat → Nat) (w : World) : Nat := match w.heap[r]? with
  | some (.mapIter _ _ seen _) => unseen n born seen
  | _ => 0
theorem Mid.mu {w wr : World} {m base r clock n : Nat} {gs : GI} {born : Nat → Nat} {seen : Array Nat} (h : Mid w m base r clock gs born seen wr) : muOf r n born wr = unseen n born seen := by
  rw [muOf, h.iter]
theorem gAt_nil {gs : GI} {born : Nat → Nat} : gAt gs born #[] = gs := by
  refine List.ext_getElem (by simp [gAt]) fun j h1 h2 => ?_
  simp [gAt, List.getD, h2]
theorem gAt_all {gs : GI} {born : Nat → Nat} {seen : Array Nat} (h : ∀ j, j < gs.length → seen.contains (born j) = true) : gAt gs born seen = gs.map fun p => (p.1, finZ p.2) := by
  refine List.ext_getElem (by simp [gAt]) fun j h1 h2 => ?_
  have hj : j < gs.length := by simpa using h2
  have := h j hj
  simp only [gAt, List.getElem_map, List.getElem_range, this, if_true]
  simp [List.getD, hj]
theorem Mid.start {w wr : World} {m base clock : Nat} {gs : GI} {es : Array MapEntry} {blk : Nat → Nat} (hG : Grp (O1 base) wr m gs es clock blk) (hz : ∀ j, j < gs.length → (gs.getD j default).2.length ≤ 536870912)
    (hgr : w.grownBy wr none) (hmb : m < base) (hb : base ≤ wr.heap.size) (hwm : w.heap.size ≤ m) :
    Mid w m base wr.heap.size clock gs (fun j => (es.getD j default).born) #[] (wr.alloc (.mapIter (some m) clock #[] clock)) := by
  refine ⟨⟨es, blk, ?_, fun j hj => rfl, fun j hj => ?_⟩, heap_alloc_new _ _, hgr.trans (World.grownBy_alloc _ _ _), hmb, hb, hwm⟩
  · rw [gAt_nil]
    exact ⟨(heap_alloc_old _ _ (lt_of_block hG.heap)).trans hG.heap, hG.st, hG.size, hG.key, fun i hi => ((hG.val i hi).O2 (hz i hi)).kept (heap_alloc_old _ _ (hG.val i hi).lt.2), hG.apart⟩
  · have := (hG.val j hj).lt
    exact ⟨by omega, by simp; omega⟩
end Go.Ab
namespace Go.Ab
open Go Go.Proofs Go.MapKept Go.RowKit Go.WideMaps Go.Maps
set_option linter.unusedVariables false
set_option linter.unusedSimpArgs false
section
variable {P : Program} (w : World) {ops : Array Oper} {rest : List Oper} {o : Oper} {a : Act} {Q : Exit → Act → World → Prop}
end
theorem rk_info3 : (Tryz.prog.info? 3).map (fun i => (i.zero, i.size, i.bytes)) = some (some (.int .i64 0), 1, 8) := by kernel_rfl
variable {T : Nat → Obj → Prop}
theorem gs_ok {cell rank : List Int} (hl : cell.length ≤ 536870912) : ∀ j, j < (gsOf cell rank cell.length).length → ((gsOf cell rank cell.length).getD j default).2 ≠ [] ∧ ((gsOf cell rank cell.length).getD j default).2.length ≤ 536870912 := by
  intro j hj
  have hm : (gsOf cell rank cell.length).getD j default ∈ gsOf cell rank cell.length := by simp [List.getD, hj]
  obtain ⟨c, hc, e⟩ := List.mem_map.1 hm
  rw [← e]
  refine ⟨fun h => ?_, Nat.le_trans inC_len hl⟩
  rw [List.take_length] at hc
  obtain ⟨i, hi, h2⟩ := mem_at0.1 (mem_keysOf.1 hc)
  have : at0 rank i ∈ inC rank cell cell.length c := List.mem_map.2 ⟨i, List.mem_filter.2 ⟨List.mem_range.2 hi, by simpa using h2⟩, rfl⟩
  rw [show inC rank cell cell.length c = [] from h] at this
  cases this
theorem gs_keys {cell rank : List Int} : ∀ i j, i < (gsOf cell rank cell.length).length → j < (gsOf cell rank cell.length).length → ((gsOf cell rank cell.length).getD i default).1 = ((gsOf cell rank cell.length).getD j default).1 → i = j := by
  intro i j hi hj e
  have hn : ((gsOf cell rank cell.length).map Prod.fst).Nodup := by rw [gsOf_keys]; exact nodup_keysOf
  have hi' : i < ((gsOf cell rank cell.length).map Prod.fst).length := by simpa using hi
  have hj' : j < ((gsOf cell rank cell.length).map Prod.fst).length := by simpa using hj
  refine (List.getElem_inj (h₀ := hi') (h₁ := hj') hn).1 ?_
  simpa [List.getD, hi, hj] using e
set_option maxHeartbeats 4000000 in
set_option maxRecDepth 100000 in
theorem ranks_walk (b1 o1 cap1 b2 o2 cap2 n2 : Nat) (cell rank : List Int) (w : World) (hn : 0 < cell.length) (hn2 : cell.length ≤ n2) (hl : cell.length ≤ 536870912)
    (hT : ∀ b o, T b o → w.heap[b]? = some o) (hb1 : b1 < w.heap.size) (hb2 : b2 < w.heap.size)
    (hc1 : ∀ j, j < cell.length → w.cell? ⟨b1, o1 + j, none⟩ = some (.int .i64 (at0 cell j))) (hc2 : ∀ j, j < cell.length → w.cell? ⟨b2, o2 + j, none⟩ = some (.int .i64 (at0 rank j))) :
    Calls Tryz.prog 70 #[.slice (some ⟨b1, o1, none⟩) cell.length cap1, .slice (some ⟨b2, o2, none⟩) n2 cap2] w fun e w' => e = .returned (.map (some w.heap.size)) ∧ w.grownBy w' none ∧ ∃ es clock blk, Grp (O2 (w.heap.size + 1)) w' w.heap.size ((gsOf cell rank cell.length).map fun p => (p.1, finZ p.2)) es clock blk := by
  have hmm := @run_makeMap Tryz.prog
  obtain ⟨i0, hi, hz0, hz1, hz2⟩ := info_parts rk_info3
  go_enter Tryz.func70, Tryz.ntmps70
  go_wp2
  go_loopw [13] (fun i wr => ∃ k : Nat, k ≤ cell.length ∧ i = .int .i64 k ∧ ∃ es clock blk, Grp (O1 (w.heap.size + 1)) wr w.heap.size (gsOf cell rank k) es clock blk ∧ w.grownBy wr none ∧ w.heap.size + 1 ≤ wr.heap.size)
    (fun i _ => cell.length - (RowKit.intOf i).toNat)
  case atStart =>
    refine ⟨0, Nat.zero_le _, rfl, #[], 0, fun _ => 0, ?_, World.grownBy_alloc _ _ _, by simp⟩
    exact ⟨heap_alloc_new _ _, ⟨fun i j hi => by simp at hi, fun i hi => by simp at hi⟩, rfl, fun i hi => by simp [gsOf, keysOf] at hi, fun i hi => by simp [gsOf, keysOf] at hi, fun i j hi => by simp [gsOf, keysOf] at hi⟩
  case round =>
    obtain ⟨k, hk, rfl, es, clock, blk, hG, hgr, hsz⟩ := hrel
    have hcx1 : k < cell.length → wr.cell? ⟨b1, o1 + k, none⟩ = some (.int .i64 (at0 cell k)) := fun hlt => (cell_same (hgr.block b1 hb1 (by simp))).trans (hc1 k hlt)
    have hcx2 : k < cell.length → wr.cell? ⟨b2, o2 + k, none⟩ = some (.int .i64 (at0 rank k)) := fun hlt => (cell_same (hgr.block b2 hb2 (by simp))).trans (hc2 k hlt)
    obtain ⟨v, zs, tgt, hvm, hlook, hown, hcase, hback⟩ := hG.look1 (Nat.lt_succ_self _) (at0 cell k)
    have hmw : w.heap.size < wr.heap.size := by omega
    have hzl : zs.length ≤ k := by
      rcases hcase with ⟨i, hi1, -, rfl, -⟩ | ⟨-, rfl, -⟩
      · have : (gsOf cell rank k).getD i default ∈ gsOf cell rank k := by simp [List.getD, hi1]
        obtain ⟨c, -, hc⟩ := List.mem_map.1 this
        rw [← hc]; exact inC_len
      · simp
    have hvb : ∀ b, b < w.heap.size → some b ≠ v.ownBlock := fun b hb e => by have := (hown.lt b e.symm).1; omega
    have hik0 : (0 : Int) ≤ (k : Int) := Int.natCast_nonneg _
    have hik1 : k < cell.length → (k : Int) < (n2 : Int) := fun h => by omega
    have hbk : k < cell.length → ∀ w1 gg cap o, (wr.drew.alloc o).grownBy w1 v.ownBlock → w1.ownsRow (w.heap.size + 1) 3 1 (.slice (some ⟨gg, 0, none⟩) (zs.length + 1) cap) (zs.length + 1) (zs.map (Value.int .i64) ++ [.int .i64 (at0 rank k)]) → (v.ownBlock = some gg ∨ gg = wr.heap.size + 1) →
        ∃ w2 es' clock' blk', (Instr.mapUpdate 90 (.map (some w.heap.size)) (.int .i64 (at0 cell k)) (.slice (some ⟨gg, 0, none⟩) (zs.length + 1) cap)).run Tryz.prog w1 = .ok () w2 ∧ Grp (O1 (w.heap.size + 1)) w2 w.heap.size (gsOf cell rank (k + 1)) es' clock' blk' ∧ w.grownBy w2 none ∧ w.heap.size + 1 ≤ w2.heap.size := by
      intro hlt w1 gg cap o hgrow hown1 hat
      have h1 : wr.drew.grownBy w1 v.ownBlock := (World.grownBy_alloc wr.drew _ _).trans hgrow
      obtain ⟨w2, es', clock', blk', q1, q2, q3⟩ := hback w1 _ _ ⟨h1.os, h1.tape, h1.output, h1.size, h1.block⟩ hown1 (hat.elim (fun h => .inl h.symm) (fun h => .inr (.inr ⟨gg, rfl, by omega⟩)))
      have hs1 : wr.heap.size ≤ w1.heap.size := h1.size
      have hs2 := q3.size
      refine ⟨w2, es', clock', blk', q1, ?_, ⟨q3.os.trans (h1.os.trans hgr.os), q3.tape.trans (h1.tape.trans hgr.tape), q3.output.trans (h1.output.trans hgr.output), by omega, fun b hb _ => ?_⟩, by omega⟩
      · rcases hcase with ⟨i, hi1, hi2, rfl, rfl⟩ | ⟨hn1, rfl, rfl⟩
        · rw [gs_old hlt hi1 hi2]; exact q2
        · rw [gs_new hlt hn1]; exact q2
      · exact (q3.block b (by omega) (by simp; omega)).trans ((h1.block b (show b < wr.heap.size by omega) (hvb b hb)).trans (hgr.block b hb (by simp)))
    have hrange := run_range_map (P := Tryz.prog) wr 90 3 28 w.heap.size es clock Tryz.underlying90 hG.heap
    go_wp2_with fail
    · clear hrange
      have hlt : k < cell.length := by assumption
      have hik1 := hik1 hlt
      have hl0 : (Instr.lookup 90 (.map (some w.heap.size)) (.int .i64 (at0 cell k)) false).run Tryz.prog wr.drew = .ok v wr.drew := hlook _ rfl
      have hl1 : ∀ o, (Instr.lookup 90 (.map (some w.heap.size)) (.int .i64 (at0 cell k)) false).run Tryz.prog (wr.drew.alloc o) = .ok v (wr.drew.alloc o) := fun o => hlook _ (heap_alloc_old _ _ hmw)
      have hb2r : b2 < wr.heap.size := by omega
      have hl2 : ∀ o, (Instr.lookup 90 (.map (some w.heap.size)) (.int .i64 (at0 cell k)) false).run Tryz.prog (wr.alloc o).drew = .ok v (wr.alloc o).drew := fun o => hlook _ (heap_alloc_old _ _ hmw)
      have hc2k := hcx2 hlt
      go_region_law
        ((refine step_append_lies _ (by rfl) _ _ _ (by rfl) (w.heap.size + 1) 3 i0 _ 1 8 Tryz.underlying28 hi hz0 hz1 hz2 rfl (by omega) v zs.length (zs.map (Value.int .i64)) (by rfl) (hown.drew.alloc _)
            ⟨wr.heap.size, 0, none⟩ 1 1 [.int .i64 (at0 rank k)] (by rfl) (by rfl) (World.news_of_block (cs := #[.int .i64 (at0 rank k)]) (t := 3) (fr := (0, 0)) (heap_alloc_new _ _)) (by simp [Value.oneCell'])
            (by omega) (by unfold maxLen; omega) (by omega) (by simp; omega) (wr.heap.size + 1) (by simp) ?_; intro gg cap w1 hown1 hgrow hat hlt1; obtain ⟨w2, es', clock', blk', hup, hG2, hgr2, hsz2⟩ := hbk hlt w1 gg cap _ hgrow hown1 hat))
      all_goals
        clear hup hl0 hl1 hl2
        go_wp2
        go_roundw
        case rel =>
          exact ⟨k + 1, by omega, by go_num, es', clock', blk', hG2, hgr2, hsz2⟩
        case measure => simp [RowKit.intOf]; omega
    · have hke : k = cell.length := by omega
      subst hke
      have hz : ∀ j, j < (gsOf cell rank cell.length).length → ((gsOf cell rank cell.length).getD j default).2 ≠ [] ∧ ((gsOf cell rank cell.length).getD j default).2.length ≤ 536870912 := gs_ok hl
      have hk : ∀ i j, i < (gsOf cell rank cell.length).length → j < (gsOf cell rank cell.length).length → ((gsOf cell rank cell.length).getD i default).1 = ((gsOf cell rank cell.length).getD j default).1 → i = j := gs_keys
      have hM := Mid.start hG (fun j hj => (hz j hj).2) hgr (Nat.lt_succ_self _) hsz (Nat.le_refl _)
      generalize hborn : (fun j => (es.getD j default).born) = born at hM
      generalize hrr : wr.heap.size = r at hM
      clear hback hbk hlook hcase hrange hG
      rw [show decide (cell.length < cell.length) = false by simp]
      go_loopw [8] (fun _ wr2 => ∃ seen, Mid w w.heap.size (w.heap.size + 1) r clock (gsOf cell rank cell.length) born seen wr2) (fun _ wr2 => muOf r (gsOf cell rank cell.length).length born wr2)
      case atStart => exact ⟨#[], hM⟩
      case round =>
        obtain ⟨seen, hM2⟩ := hrel
        rcases hM2.round (T := T) 0 hT hk hz with ⟨hnext, hall⟩ | ⟨c, v, wn, hnext, hentry, hcalls⟩
        · go_wp2
          go_ret
          refine ⟨rfl, hM2.grown, ?_⟩
          obtain ⟨es2, blk2, h1, -⟩ := hM2.ex
          rw [gAt_all hall] at h1
          exact ⟨es2, _, blk2, h1⟩
        · go_wp2_with (first
            | (go_at_call 110; refine hcalls.mono ?_; rintro e w' ⟨rfl, hcomp⟩)
            | (go_at_call 111; refine hcomp.mono ?_; rintro e w'' ⟨v', rfl, wz, seen', hup, hMz, hlt⟩))
          go_roundw
          case rel => exact ⟨seen', hMz⟩
          case measure => rw [hMz.mu, hM2.mu]; exact hlt
end Go.Ab
namespace Go.Ab
open Go Go.Proofs Go.MapKept
set_option linter.unusedVariables false
set_option linter.unusedSimpArgs false
section
variable {α : Type} [Inhabited α] [DecidableEq α]
theorem dd_mem {d : Array α} {x : α} : ∀ {n : Nat}, x ∈ ddA d n ↔ ∃ i, i < n ∧ d[i]! = x
  | 0 => by simp [ddA]
  | n + 1 => by
    rw [ddA]
    constructor
    · intro h
      split at h
      · obtain ⟨i, h1, h2⟩ := dd_mem.1 h
        exact ⟨i, by omega, h2⟩
      · rcases List.mem_append.1 h with h | h
        · obtain ⟨i, h1, h2⟩ := dd_mem.1 h
          exact ⟨i, by omega, h2⟩
        · exact ⟨n, by omega, by simp at h; exact h.symm⟩
    · rintro ⟨i, h1, h2⟩
      split
      · rename_i hc
        by_cases e : i = n
        · subst e
          exact dd_mem.2 ⟨i - 1, by omega, by rw [← hc.2]; exact h2⟩
        · exact dd_mem.2 ⟨i, by omega, h2⟩
      · by_cases e : i = n
        · subst e; exact List.mem_append.2 (.inr (by simp [h2]))
        · exact List.mem_append.2 (.inl (dd_mem.2 ⟨i, by omega, h2⟩))
theorem dd_pair {lt : α → α → Bool} {d : Array α} (hs : ∀ i j, i < j → j < d.size → lt d[j]! d[i]! = false) (tri : ∀ x y, lt x y = false → lt y x = false → x = y) : ∀ {n : Nat}, n ≤ d.size → (ddA d n).Pairwise fun x y => lt x y = true
  | 0, _ => List.Pairwise.nil
  | n + 1, h => by
    rw [ddA]
    split
    · exact dd_pair hs tri (by omega)
    · rename_i hc
      refine List.pairwise_append.2 ⟨dd_pair hs tri (by omega), List.pairwise_singleton _ _, fun x hx y hy => ?_⟩
      obtain ⟨i, hi, rfl⟩ := dd_mem.1 hx
      have hy : y = d[n]! := by simpa using hy
      subst hy
      cases hb : lt d[i]! d[n]! with
      | true => rfl
      | false =>
        have e1 := tri _ _ hb (hs i n hi (by omega))
        refine absurd ⟨by omega, ?_⟩ hc
        by_cases e : i = n - 1
        · rw [← e]; exact e1.symm
        · refine (tri _ _ ?_ ?_)
          · exact hs (n - 1) n (by omega) (by omega)
          · rw [← e1]; exact hs i (n - 1) (by omega) (by omega)
theorem pair_ext {R : α → α → Prop} (irr : ∀ x, ¬R x x) (tr : ∀ x y z, R x y → R y z → R x z) : ∀ {l l' : List α}, l.Pairwise R → l'.Pairwise R → (∀ x, x ∈ l ↔ x ∈ l') → l = l'
  | [], [], _, _, _ => rfl
  | [], y :: l', _, _, h => by have := (h y).2 (by simp); cases this
  | x :: l, [], _, _, h => by have := (h x).1 (by simp); cases this
  | x :: l, y :: l', h1, h2, h => by
    obtain ⟨a1, a2⟩ := List.pairwise_cons.1 h1
    obtain ⟨b1, b2⟩ := List.pairwise_cons.1 h2
    have hxy : x = y := by
      rcases List.mem_cons.1 ((h x).1 (by simp)) with e | hx
      · exact e
      · rcases List.mem_cons.1 ((h y).2 (by simp)) with e | hy
        · exact e.symm
        · exact absurd (tr _ _ _ (a1 y hy) (b1 x hx)) (irr x)
    subst hxy
    rw [pair_ext irr tr a2 b2 fun z => ?_]
    constructor
    · intro hz
      rcases List.mem_cons.1 ((h z).1 (List.mem_cons_of_mem _ hz)) with rfl | h3
      · exact absurd (a1 z hz) (irr z)
      · exact h3
    · intro hz
      rcases List.mem_cons.1 ((h z).2 (List.mem_cons_of_mem _ hz)) with rfl | h3
      · exact absurd (b1 z hz) (irr z)
      · exact h3
end
theorem sort_mem {α : Type} [Inhabited α] {lt : α → α → Bool} (hS : Sort.SWO lt) (d : Array α) : (Sort.sort lt d).toList.Perm d.toList := by
  obtain ⟨⟨h1, -, h2⟩, -⟩ := Sort.sort_sorts lt hS d
  have e1 : (Sort.sort lt d).extract 0 d.size = Sort.sort lt d := by rw [← h1]; simp
  have e2 : d.extract 0 d.size = d := by simp
  rwa [e1, e2] at h2
theorem mem_get {α : Type} [Inhabited α] {d : Array α} {x : α} : x ∈ d.toList ↔ ∃ i, i < d.size ∧ d[i]! = x := by
  constructor
  · intro h
    obtain ⟨i, hi, rfl⟩ := List.getElem_of_mem h
    rw [Array.length_toList] at hi
    exact ⟨i, hi, by simp [hi]⟩
  · rintro ⟨i, hi, rfl⟩
    rw [show d[i]! = d.toList[i]'(by simpa using hi) by simp [hi]]
    exact List.getElem_mem _
theorem finZ_eq (zs : List Int) : finZ zs = sortD zs := by
  have hS := Sort.swo_ltInt
  obtain ⟨⟨h1, -, -⟩, h3⟩ := Sort.sort_sorts Sort.ltInt hS zs.toArray
  refine pair_ext (R := (· < ·)) (fun x => Int.lt_irrefl x) (fun x y z => Int.lt_trans) ?_ rising_sortD fun x => ?_
  · have := dd_pair (lt := Sort.ltInt) (d := Sort.sort Sort.ltInt zs.toArray) (fun i j hij hj => h3 i j (Nat.zero_le _) hij (by rw [← h1]; exact hj)) (fun x y a b => by simp only [Sort.ltInt, decide_eq_false_iff_not] at a b; omega) (Nat.le_refl _)
    exact this.imp fun h => by simpa [Sort.ltInt] using h
  · rw [mem_sortD, finZ, dd_mem, ← mem_get, (sort_mem hS zs.toArray).mem_iff]
end Go.Ab
namespace Go.Ab
open Go Go.Proofs Go.MapKept Go.RowKit Go.WideMaps Go.Maps
set_option linter.unusedVariables false
set_option linter.unusedSimpArgs false
variable {T : Nat → Obj → Prop}
set_option maxRecDepth 100000 in
theorem ranks_none (a : Option Addr) (cap : Nat) (vb : Value) (w : World) :
    Calls Tryz.prog 70 #[.slice a 0 cap, vb] w fun e w' => e = .returned (.map (some w.heap.size)) ∧ w.grownBy w' none ∧ w'.heap[w.heap.size]? = some (.map #[] 0) := by
  have hmm := @run_makeMap Tryz.prog
  have hrange := run_range_map (P := Tryz.prog) (w.alloc (.map #[] 0)) 90 3 28 w.heap.size #[] 0 Tryz.underlying90 (heap_alloc_new _ _)
  have hnext : (Instr.next (.pointer (some ⟨w.heap.size + 1, 0, none⟩)) false 0).run Tryz.prog ((w.alloc (.map #[] 0)).alloc (.mapIter (some w.heap.size) 0 #[] 0)) = .ok (.tuple #[.bool false]) ((w.alloc (.map #[] 0)).alloc (.mapIter (some w.heap.size) 0 #[] 0)) := by
    rcases run_next_at (P := Tryz.prog) ((w.alloc (.map #[] 0)).alloc (.mapIter (some w.heap.size) 0 #[] 0)) 0 (w.heap.size + 1) w.heap.size 0 0 #[] #[] 0 (by have := heap_alloc_new (w.alloc (.map #[] 0)) (.mapIter (some w.heap.size) 0 #[] 0); simpa using this)
      ((heap_alloc_old _ _ (by simp)).trans (heap_alloc_new _ _)) (by simp) (Nat.le_refl _) with ⟨-, h⟩ | ⟨e, he, -⟩
    · exact h
    · simp [leftOf] at he
  simp only [show (w.alloc (.map #[] 0)).heap.size = w.heap.size + 1 by simp] at hrange
  go_enter Tryz.func70, Tryz.ntmps70
  go_wp2
  refine wp_loop_rounds 1 ?_
  rw [rounds_succ]
  go_wp2
  refine wp_loop_rounds 1 ?_
  rw [rounds_succ]
  go_wp2
  go_ret
  exact ⟨rfl, (World.grownBy_alloc _ _ _).trans (World.grownBy_alloc _ _ _), (heap_alloc_old _ _ (by simp)).trans (heap_alloc_new _ _)⟩
theorem ranks_ok : RanksOk T := by
  intro cell rank hle h64
  refine fn_of_calls ⟨_, Tryz.func70, by decide, rfl⟩ fun B σ a w args hT hS hsz hargs => ?_
  have ha : args = #[args.getD 0 undef, args.getD 1 undef] := by
    apply Array.ext
    · simpa using hsz
    · intro i h1 h2
      match i, h2 with
      | 0, _ => simp [Array.getD, show 0 < args.size by omega]
      | 1, _ => simp [Array.getD, show 1 < args.size by omega]
  have h0 := hargs 0 (by simp)
  have h1 := hargs 1 (by simp)
  have fin : ∀ (e : Ending) (w' : World) (es : Array MapEntry) (clock : Nat) (blk : Nat → Nat), e = .returned (.map (some w.heap.size)) → w.grownBy w' none → Grp (O2 (w.heap.size + 1)) w' w.heap.size ((gsOf cell rank cell.length).map fun p => (p.1, finZ p.2)) es clock blk →
      ∃ v' σ', e = .returned v' ∧ Sim B (fun _ => .undef) (memG []) (fun i => ([] : List (Option Ob)).length ≤ i) σ' a w' ∧ VSim σ' (memG []) (fun i => ([] : List (Option Ob)).length ≤ i) (B.X σ' (memG [])) w' (.d (.map (ranksD cell rank))) v' ∧
        ∀ i ob, ([] : List Ob)[i]? = some ob → memG [] i = none ∨ (σ' i = σ i ∧ ∃ ob', memG [] i = some ob' ∧ Shape ob ob') := by
    intro e w' es clock blk he hg hG
    have hX : ∀ b, w.heap.size ≤ b → ¬B.X σ (memG []) b := by
      rintro b hb (h | ⟨id, h, -⟩)
      · have := hS.olt b h; omega
      · exact h (by simp [memG])
    have hgl : ((gsOf cell rank cell.length).map fun p => (p.1, finZ p.2)).length = (keysOf cell).length := by simp [gsOf]
    have hgd : ∀ i, i < (keysOf cell).length → ((gsOf cell rank cell.length).map fun p => (p.1, finZ p.2)).getD i default = ((keysOf cell).getD i 0, ranksOf cell rank ((keysOf cell).getD i 0)) := by
      intro i hi
      simp only [gsOf, List.take_length, List.map_map, List.getD, List.getElem?_map, List.getElem?_eq_getElem hi, Option.map_some, Option.getD_some, Function.comp, finZ_eq]
      rfl
    refine ⟨_, σ, he, ⟨fun t => .undef _, fun id ob h => by simp [memG] at h, fun i j b h => absurd (by simp [memG]) h, fun id b h => absurd (by simp [memG]) h, fun _ _ => by simp [memG], ?_, hS.nt, fun b hb => Nat.lt_of_lt_of_le (hS.olt b hb) hg.size, fun b o hp => (hg.block b (lt_of_block (hS.pins b o hp)) (by simp)).trans (hS.pins b o hp), fun id l h => by simp [memG] at h⟩, .d _ _ ?_, fun i ob h => by simp at h⟩
    · refine ⟨hg.os.trans hS.kept.os, hg.tape.trans hS.kept.tape, hg.output.trans hS.kept.output, Nat.le_trans hS.kept.size hg.size, fun b hb hR => (hg.block b (Nat.lt_of_lt_of_le hb hS.kept.size) (by simp)).trans (hS.kept.block b hb hR), fun b c e h => ?_⟩
      obtain ⟨c', h1, h2⟩ := hS.kept.cells b c e h
      exact ⟨c', (hg.block b (lt_of_block h1) (by simp)).trans h1, h2⟩
    · refine .map _ _ es clock (hX _ (Nat.le_refl _)) (lt_of_block hG.heap) hG.heap (by rw [hG.size, hgl]; simp) hG.st (fun i hi => ?_) (fun i hi => ?_)
      · rw [List.length_map] at hi
        rw [hG.key i (by rw [hgl]; exact hi), hgd i hi, show ((keysOf cell).map fun c => (D.int .i64 c, dI (ranksOf cell rank c))).getD i (.nil, .nil) = (D.int .i64 ((keysOf cell).getD i 0), dI (ranksOf cell rank ((keysOf cell).getD i 0))) by simp [List.getD, hi]]
        exact .int .i64 _ (by simp)
      · rw [List.length_map] at hi
        have hv := hG.val i (by rw [hgl]; exact hi)
        rw [hgd i hi] at hv
        rw [show ((keysOf cell).map fun c => (D.int .i64 c, dI (ranksOf cell rank c))).getD i (.nil, .nil) = (D.int .i64 ((keysOf cell).getD i 0), dI (ranksOf cell rank ((keysOf cell).getD i 0))) by simp [List.getD, hi]]
        simp only
        generalize ranksOf cell rank ((keysOf cell).getD i 0) = zs at hv
        replace hv : O2 (w.heap.size + 1) w' (es.getD i default).val (blk i) zs := hv
        obtain ⟨cap, c, e, q1, q2, q3, q4, q5, q6, q7⟩ := hv
        rw [q1]
        have hl : (zs.map (D.int .i64)).length = zs.length := List.length_map _
        rw [← hl]
        refine .arr 1 (zs.map (D.int .i64)) (blk i) 0 cap (fun j => c.getD j undef) (hX _ (by omega)) (lt_of_block q3) (fun x hx => ?_) (by omega) (by omega) (fun j hj => ?_) (fun j k hj hk => ?_)
        · obtain ⟨y, -, rfl⟩ := List.mem_map.1 hx; rfl
        · have hjc : j < c.size := by omega
          simp [World.cell?, q3, Array.getD_eq_getD_getElem?, hjc]
        · have : k = 0 := by omega
          subst this
          rw [hl] at hj
          rw [Nat.mul_one, Nat.add_zero]
          rw [q7 j hj, show (zs.map (D.int .i64)).getD j .nil = .int .i64 (zs.getD j 0) by simp [List.getD, hj]]
          exact .int .i64 _ (by simp)
  have read : ∀ (xs : List Int) (v : Value), xs ≠ [] → DSim (B.X σ (memG [])) w (dI xs) v → ∃ b off cap, v = .slice (some ⟨b, off, none⟩) xs.length cap ∧ b < w.heap.size ∧ ∀ j, j < xs.length → w.cell? ⟨b, off + j, none⟩ = some (.int .i64 (at0 xs j)) := by
    intro xs v hne hd
    unfold dI at hd
    have hl : (xs.map (D.int .i64)).length = xs.length := List.length_map _
    generalize hys : xs.map (D.int .i64) = ys at hd hl
    cases hd with
    | arr0 s a cap => exact absurd (List.eq_nil_of_length_eq_zero (by simpa using hl.symm)) hne
    | arr s _ b off cap cv g1 g2 g3 g4 g5 g6 g7 =>
      refine ⟨b, off, cap, by rw [hl], g2, fun j hj => ?_⟩
      have h6 := g6 j (by omega)
      have h7 := g7 j 0 (by omega) (by omega)
      rw [Nat.mul_one, Nat.add_zero, ← hys, show (xs.map (D.int .i64)).getD j .nil = .int .i64 (at0 xs j) by simp [List.getD, at0, hj]] at h7
      rw [h6]
      generalize cv j = z at h7
      cases h7; rfl
  rw [ha]
  have e0 : ([V.d (dI cell), V.d (dI rank)].getD 0 .undef) = .d (dI cell) := rfl
  have e1 : ([V.d (dI cell), V.d (dI rank)].getD 1 .undef) = .d (dI rank) := rfl
  rw [e0] at h0
  rw [e1] at h1
  generalize args.getD 0 undef = va at h0
  generalize args.getD 1 undef = vb at h1
  cases h0 with
  | d _ _ hd0 =>
  cases h1 with
  | d _ _ hd1 =>
  by_cases hc : cell = []
  · subst hc
    have hv : ∃ a' cap, va = .slice a' 0 cap := by
      unfold dI at hd0
      cases hd0 with
      | arr0 s a' cap => exact ⟨a', cap, rfl⟩
      | arr s _ b off cap cv => exact ⟨_, cap, rfl⟩
    obtain ⟨a', cap, rfl⟩ := hv
    refine (ranks_none a' cap vb w).mono ?_
    rintro e w' ⟨he, hg, hh⟩
    exact fin e w' #[] 0 (fun _ => 0) he hg ⟨hh, ⟨fun i j hi => by simp at hi, fun i hi => by simp at hi⟩, rfl, fun i hi => by simp [gsOf, keysOf] at hi, fun i hi => by simp [gsOf, keysOf] at hi, fun i j hi => by simp [gsOf, keysOf] at hi⟩
  · have hpos : 0 < cell.length := List.length_pos_iff.2 hc
    obtain ⟨b1, o1, cap1, rfl, l1, c1⟩ := read cell va hc hd0
    obtain ⟨b2, o2, cap2, rfl, l2, c2⟩ := read rank vb (fun e => by rw [e] at hle; simp at hle; exact hc (List.eq_nil_of_length_eq_zero (by simp [hle]))) hd1
    refine (ranks_walk (T := T) b1 o1 cap1 b2 o2 cap2 rank.length cell rank w hpos hle (by omega) (fun b o ht => hS.pins b o (hT b o ht)) l1 l2 c1 (fun j hj => c2 j (by omega))).mono ?_
    rintro e w' ⟨he, hg, es, clock, blk, hG⟩
    exact fin e w' es clock blk he hg hG
end Go.Ab
namespace Go.Ab
open Go Go.Proofs
set_option linter.unusedVariables false
set_option linter.unusedSimpArgs false
theorem nd_le {α:Type} [DecidableEq α] : ∀ {l l':List α},l.Nodup→(∀ x∈l,x∈l')→l.length≤l'.length
 | [],_,_,_=>Nat.zero_le _
 | x::t,l',h,hs=>by
  obtain ⟨h1,h2⟩:=List.nodup_cons.1 h
  have hx:=hs x (by simp)
  have:=nd_le (l:=t) (l':=l'.erase x) h2 fun y hy=>(List.mem_erase_of_ne (fun e=>h1 (by rw [← e];exact hy))).2 (hs y (List.mem_cons_of_mem _ hy))
  rw [List.length_erase_of_mem hx] at this
  have hp:=List.length_pos_of_mem hx
  simp only [List.length_cons];omega
theorem fin_mem {zs:List (BitVec 64)} {x:BitVec 64} : x∈finU zs↔x∈zs:=by
 rw [finU,dd_mem,← mem_get,(sort_mem swo_u64 zs.toArray).mem_iff]
theorem fin_nodup (zs:List (BitVec 64)):(finU zs).Nodup:=by
 obtain ⟨⟨h1,-,-⟩,h3⟩:=Sort.sort_sorts ltU swo_u64 zs.toArray
 have:=dd_pair (lt:=ltU) (d:=Sort.sort ltU zs.toArray) (fun i j hij hj=>h3 i j (Nat.zero_le _) hij (by rw [← h1];exact hj)) (fun x y a b=>by
  simp only [ltU,decide_eq_false_iff_not] at a b
  exact BitVec.eq_of_toNat_eq (by omega)) (Nat.le_refl _)
 exact this.imp fun h e=>by subst e;simp [ltU] at h
def rk (r:List (BitVec 64)) (w:Nat):Nat:=(finU (belowQ r w r.length)).length
theorem mem_below {r:List (BitVec 64)} {w n:Nat} {x:BitVec 64} : x∈belowQ r w n ↔ ∃ v,v < n∧rb r w v=true∧rb r v w=false∧uAt r v=x:=by
 unfold belowQ
 rw [List.mem_map]
 constructor
 ·rintro ⟨v,h,rfl⟩
  rw [List.mem_filter,List.mem_range] at h
  simp only [Bool.and_eq_true,Bool.not_eq_true'] at h
  exact ⟨v,h.1,h.2.1,h.2.2,rfl⟩
 ·rintro ⟨v,h1,h2,h3,rfl⟩
  exact ⟨v,List.mem_filter.2 ⟨List.mem_range.2 h1,by simp [h2,h3]⟩,rfl⟩
theorem rk_le {r:List (BitVec 64)} {w v:Nat} (h : ∀ x,x∈belowQ r w r.length→x∈belowQ r v r.length):rk r w≤rk r v :=
 nd_le (fin_nodup _) fun x hx=>fin_mem.2 (h x (fin_mem.1 hx))
theorem rkT_lt {r:List (BitVec 64)} {w v:Nat} {y:BitVec 64} (h : ∀ x,x∈belowQ r w r.length→x∈belowQ r v r.length) (h1:y∈belowQ r v r.length) (h2:y ∉ belowQ r w r.length):rk r w < rk r v:=by
 have:=nd_le (l:=y::finU (belowQ r w r.length)) (l':=finU (belowQ r v r.length)) (List.nodup_cons.2 ⟨fun h=>h2 (fin_mem.1 h),fin_nodup _⟩) fun x hx=>by
  rcases List.mem_cons.1 hx with rfl|hx
  ·exact fin_mem.2 h1
  ·exact fin_mem.2 (h x (fin_mem.1 hx))
 exact this
theorem rk_succ {r:List (BitVec 64)} {w v:Nat} {y:BitVec 64} (h : ∀ x,x∈belowQ r w r.length→x=y∨x∈belowQ r v r.length):rk r w≤rk r v+1:=by
 have:=nd_le (l:=finU (belowQ r w r.length)) (l':=y::finU (belowQ r v r.length)) (fin_nodup _) fun x hx=>by
  rcases h x (fin_mem.1 hx) with rfl|h
  ·simp
  ·exact List.mem_cons_of_mem _ (fin_mem.2 h)
 simpa [rk] using this
theorem most {α:Type} (f:α→Nat) : ∀ {l:List α},l≠[] → ∃ x∈l,∀ y∈l,f y≤f x
 | [],h=>absurd rfl h
 | [x],_=>⟨x,by simp,by simp⟩
 | x::y::t,_=>by
  obtain ⟨z,h1,h2⟩:=most f (l:=y::t) (by simp)
  by_cases hz:f x≤f z
  ·refine ⟨z,List.mem_cons_of_mem _ h1,fun u hu=>?_⟩
   rcases List.mem_cons.1 hu with rfl|hu
   ·exact hz
   ·exact h2 u hu
  ·refine ⟨x,by simp,fun u hu=>?_⟩
   rcases List.mem_cons.1 hu with rfl|hu
   ·exact Nat.le_refl _
   ·have:=h2 u hu;omega
def cmp (r:List (BitVec 64)) (w v:Nat):Bool:=rb r w v||rb r v w
structure PreO (r:List (BitVec 64)):Prop where
 len:r.length≤64
 ins : ∀ w v,rb r w v=true→v < r.length
 refl : ∀ w,w < r.length→rb r w w=true
 tr : ∀ w u v,rb r w u=true→rb r u v=true→rb r w v=true
 conn : ∀ w v i,cmp r w v=true→cmp r w i=true→cmp r v i=true
theorem rb_lt {r:List (BitVec 64)} {w v:Nat} (h:rb r w v=true):w < r.length:=by
 apply Classical.byContradiction
 intro hn
 rw [rb_out (by omega)] at h;cases h
theorem cmp_symm {r:List (BitVec 64)} {w v:Nat} : cmp r w v=cmp r v w:=by unfold cmp;exact Bool.or_comm _ _
theorem uAt_bit {r:List (BitVec 64)} {w i:Nat} : (uAt r w).getLsbD i=rb r w i:=rfl
theorem rowsEq {r:List (BitVec 64)} {w v:Nat} (h : ∀ i,rb r w i=rb r v i):uAt r w=uAt r v:=by
 apply BitVec.eq_of_getLsbD_eq
 intro i _
 exact h i
namespace PreO
variable {r:List (BitVec 64)} (h:PreO r)
include h
theorem cmp_refl {w:Nat} (hw:w < r.length):cmp r w w=true:=by simp [cmp,h.refl w hw]
theorem cmp_lt {w v:Nat} (hc:cmp r w v=true):w < r.length∧v < r.length:=by
 simp only [cmp,Bool.or_eq_true] at hc
 rcases hc with hc|hc
 ·exact ⟨rb_lt hc,h.ins _ _ hc⟩
 ·exact ⟨h.ins _ _ hc,rb_lt hc⟩
theorem cmp_tr {w v i:Nat} (h1:cmp r w v=true) (h2:cmp r v i=true):cmp r w i=true:=h.conn v w i (by rw [cmp_symm];exact h1) h2
theorem eq_rows {w v:Nat} (h1:rb r w v=true) (h2:rb r v w=true):uAt r w=uAt r v:=rowsEq fun i=>by
 rw [Bool.eq_iff_iff];exact ⟨h.tr _ _ _ h2,h.tr _ _ _ h1⟩
theorem below_sub {w v:Nat} (h1:rb r w v=true) : ∀ x,x∈belowQ r v r.length→x∈belowQ r w r.length:=by
 intro x hx
 obtain ⟨u,h2,h3,h4,rfl⟩:=mem_below.1 hx
 refine mem_below.2 ⟨u,h2,h.tr _ _ _ h1 h3,?_,rfl⟩
 cases hb:rb r u w with
 | false=>rfl
 | true=>rw [h.tr _ _ _ hb h1] at h4;cases h4
theorem rk_mono {w v:Nat} (h1:rb r w v=true):rk r v≤rk r w:=rk_le (h.below_sub h1)
theorem rk_strict {w v:Nat} (h1:rb r w v=true) (h2:rb r v w=false):rk r v < rk r w:=by
 refine rkT_lt (y:=uAt r v) (h.below_sub h1) (mem_below.2 ⟨v,h.ins _ _ h1,h1,h2,rfl⟩) fun hm=>?_
 obtain ⟨u,h3,h4,h5,h6⟩:=mem_below.1 hm
 have h7:rb r u v=true:=by rw [← uAt_bit,h6,uAt_bit];exact h.refl v (h.ins _ _ h1)
 rw [h7] at h5;cases h5
theorem rk_iff {w v:Nat} (hc:cmp r w v=true):rk r v≤rk r w↔rb r w v=true:=by
 constructor
 ·intro hk
  cases hb:rb r w v with
  | true=>rfl
  | false =>
   simp only [cmp,hb,Bool.false_or] at hc
   have:=h.rk_strict hc hb
   omega
 ·exact h.rk_mono
theorem rk_gap {w:Nat} (hw:w < r.length):rk r w=0 ∨ ∃ v,rb r w v=true∧rk r v+1=rk r w:=by
 by_cases he:((List.range r.length).filter fun v=>rb r w v && !rb r v w)=[]
 ·left
  have h0:belowQ r w r.length=[]:=by unfold belowQ;rw [he];rfl
  have h1:finU (belowQ r w r.length)=[]:=List.eq_nil_iff_forall_not_mem.2 fun x hx=>by
   rw [fin_mem,h0] at hx;cases hx
  unfold rk
  rw [h1];rfl
 ·right
  obtain ⟨v,h1,h2⟩:=most (rk r) he
  rw [List.mem_filter,List.mem_range] at h1
  simp only [Bool.and_eq_true,Bool.not_eq_true'] at h1
  obtain ⟨h3,h4,h5⟩:=h1
  refine ⟨v,h4,?_⟩
  have h6:=h.rk_strict h4 h5
  have h7:rk r w≤rk r v+1:=rk_succ (y:=uAt r v) fun x hx=>by
   obtain ⟨u,a1,a2,a3,rfl⟩:=mem_below.1 hx
   have hm:=h2 u (List.mem_filter.2 ⟨List.mem_range.2 a1,by simp [a2,a3]⟩)
   have hc:cmp r v u=true:=h.conn w v u (by simp [cmp,h4]) (by simp [cmp,a2])
   have hvu:=(h.rk_iff hc).1 hm
   cases hb:rb r u v with
   | true=>left;exact h.eq_rows hb hvu
   | false=>right;exact mem_below.2 ⟨u,a1,hvu,hb,rfl⟩
  omega
end PreO
end Go.Ab
namespace Go.Ab
open Go Go.Proofs
set_option linter.unusedVariables false
set_option linter.unusedSimpArgs false
theorem cmp2_eq {r:List (BitVec 64)} (hl:r.length≤64) (hi:Inside r) (w v:Nat):cmp2 r (revL r) w v=cmp r w v:=by
 unfold cmp2 cmp
 rw [revL_bit hl]
 cases hb:rb r v w with
 | false=>simp
 | true=>simp [rb_lt hb,hi v w hb]
theorem pre_of {r:List (BitVec 64)} (hr:relCheck r=0) (hc:connB r (revL r)=true):PreO r:=by
 obtain ⟨h1,h2⟩:=relCheck_ok.1 hr
 obtain ⟨h3,h4,h5⟩:=connB_iff.1 hc
 have g3 : ∀ w,w < r.length→rb r w w=true:=by
  rcases h3.2 with h|h|h|h|h
  ·exact absurd h.1 (by decide)
  ·exact h.2
  ·exact absurd h.1 (by decide)
  ·exact absurd h.1 (by decide)
  ·exact absurd h.1 (by decide)
 have g4 : ∀ w u v,rb r w u=true→rb r u v=true→rb r w v=true:=by
  rcases h4.2 with h|h|h|h|h
  ·exact absurd h.1 (by decide)
  ·exact absurd h.1 (by decide)
  ·exact absurd h.1 (by decide)
  ·exact h.2
  ·exact absurd h.1 (by decide)
 refine ⟨h1,h2,g3,g4,fun w v i ha hb=>?_⟩
 have hw:w < r.length∧v < r.length:=by
  simp only [cmp,Bool.or_eq_true] at ha
  rcases ha with ha|ha
  ·exact ⟨rb_lt ha,h2 _ _ ha⟩
  ·exact ⟨h2 _ _ ha,rb_lt ha⟩
 have:=h5 w hw.1 v hw.2 (by rw [cmp2_eq h1 h2];exact ha) i (by rw [cmp2_eq h1 h2];exact hb)
 rwa [cmp2_eq h1 h2] at this
def lowC (r:List (BitVec 64)) (w:Nat):Nat:=Lib.ctz 64 (uAt r w|||uAt (revL r) w).toNat
namespace PreO
variable {r:List (BitVec 64)} (h:PreO r)
include h
theorem low_spec {w:Nat} (hw:w < r.length):lowC r w < r.length∧cmp r w (lowC r w)=true ∧ ∀ i,cmp r w i=true→lowC r w≤i:=by
 have hb : ∀ i,(uAt r w|||uAt (revL r) w).getLsbD i=cmp r w i:=fun i=>by
  rw [BitVec.getLsbD_or,uAt_bit,uAt_bit]
  exact cmp2_eq h.len h.ins w i
 have hne:uAt r w|||uAt (revL r) w≠0#64:=fun e=>by
  have:=hb w
  rw [e,h.cmp_refl hw] at this
  simp at this
 obtain ⟨h1,h2,h3,-⟩:=low_bit _ hne
 have h4:cmp r w (lowC r w)=true:=(hb _).symm.trans h2
 refine ⟨(h.cmp_lt h4).2,h4,fun i hi=>?_⟩
 apply Classical.byContradiction
 intro hn
 have:=h3 i (by show i < lowC r w;omega)
 rw [hb,hi] at this;cases this
theorem low_eq {w v:Nat} (hw:w < r.length) (hv:v < r.length):lowC r w=lowC r v↔cmp r w v=true:=by
 obtain ⟨a1,a2,a3⟩:=h.low_spec hw
 obtain ⟨b1,b2,b3⟩:=h.low_spec hv
 constructor
 ·intro e
  rw [← e,cmp_symm] at b2
  exact h.cmp_tr a2 b2
 ·intro hc
  have h1:=b3 _ (h.cmp_tr (by rw [cmp_symm];exact hc) a2)
  have h2:=a3 _ (h.cmp_tr hc b2)
  omega
theorem low_le {w:Nat} (hw:w < r.length):lowC r w≤w:=(h.low_spec hw).2.2 w (h.cmp_refl hw)
theorem low_low {w:Nat} (hw:w < r.length):lowC r (lowC r w)=lowC r w:=by
 obtain ⟨a1,a2,a3⟩:=h.low_spec hw
 exact (h.low_eq a1 hw).2 (by rw [cmp_symm];exact a2)
end PreO
theorem cellR_len {r:List (BitVec 64)} : (cellR r).length=r.length:=by simp [cellR]
theorem rankR_len {r:List (BitVec 64)} : (rankR r).length=r.length:=by simp [rankR]
theorem at0_cellR {r:List (BitVec 64)} {w:Nat} (hw:w < r.length):at0 (cellR r) w=(lowC r w:Int):=at0_of (by simp [cellR,hw,lowC])
theorem at0_rankR {r:List (BitVec 64)} {w:Nat} (hw:w < r.length):at0 (rankR r) w=(rk r w:Int):=at0_of (by simp [rankR,hw,rk])
theorem cells_R {r:List (BitVec 64)} (h:PreO r):Cells (cellR r):=by
 intro w hw
 rw [cellR_len] at hw
 have h1:=h.low_le hw
 rw [at0_cellR hw]
 refine ⟨by omega,by omega,?_⟩
 rw [Int.toNat_natCast,at0_cellR (by omega),h.low_low hw]
theorem ranked_R {r:List (BitVec 64)} (h:PreO r):Ranked (cellR r) (rankR r):=by
 intro w hw
 rw [cellR_len] at hw
 rw [at0_rankR hw]
 refine ⟨by omega,?_⟩
 rcases h.rk_gap hw with h1|⟨v,h1,h2⟩
 ·left;omega
 ·right
  have hv:=h.ins _ _ h1
  refine ⟨v,by rw [cellR_len];exact hv,?_,?_⟩
  ·rw [at0_cellR hv,at0_cellR hw]
   exact congrArg Int.ofNat ((h.low_eq hv hw).2 (by simp [cmp,h1]))
  ·rw [at0_rankR hv];omega
theorem weak_len {p:PM} {a:Nat} : (weakL p a).length=p.W.toNat:=by simp [weakL]
theorem rb_weak {p:PM} {a:Nat} (hW:p.W≤64) {w v:Nat} : rb (weakL p a) w v=(decide (w < p.W.toNat)&&decide (v < p.W.toNat)&&(at0 (rowAt p.cell a) v==at0 (rowAt p.cell a) w)&&decide (at0 (rowAt p.rank a) v≤at0 (rowAt p.rank a) w)):=by
 by_cases hw:w < p.W.toNat
 ·have:(weakL p a)[w]? = some (weakRow (rowAt p.cell a) (rowAt p.rank a) w p.W.toNat):=by simp [weakL,hw]
  rw [rb_of this,weakRow,setTo_bit]
  by_cases hv:v < p.W.toNat
  ·simp [hw,hv,show v < 64 by omega]
  ·simp [hv]
 ·rw [rb_out (by rw [weak_len];omega)];simp [hw]
theorem rb_weak_iff {p:PM} {a:Nat} (hW:p.W≤64) {w v:Nat} : rb (weakL p a) w v=true↔w < p.W.toNat∧v < p.W.toNat∧at0 (rowAt p.cell a) v=at0 (rowAt p.cell a) w∧at0 (rowAt p.rank a) v≤at0 (rowAt p.rank a) w:=by
 rw [rb_weak hW]
 simp only [Bool.and_eq_true,decide_eq_true_eq,beq_iff_eq,and_assoc]
theorem newL_ok {W:Int} {val:List (BitVec 64)} {acc:List (List (BitVec 64))} {s:PM} (h:newL W val acc=(s,0)) :
  shapeL W acc.length val=0∧(∀ r∈acc,(r.length:Int)=W∧PreO r)∧s=⟨W,val,acc.map cellR,acc.map rankR⟩:=by
 unfold newL at h
 split at h
 ·rename_i h0;exact absurd (congrArg Prod.snd h) h0
 ·rename_i h0
  split at h
  ·exact absurd (congrArg Prod.snd h) (by show ¬(3:Int)=0;decide)
  ·split at h
   ·exact absurd (congrArg Prod.snd h) (by show ¬(12:Int)=0;decide)
   ·rename_i h1 h2
    refine ⟨Classical.not_not.1 h0,fun r hr=>?_,(congrArg Prod.fst h).symm⟩
    have h3:relN W r=0:=by
     apply Classical.byContradiction
     intro hn
     exact h1 (List.any_eq_true.2 ⟨r,hr,decide_eq_true hn⟩)
    obtain ⟨h4,h5⟩:=relN_ok h3
    refine ⟨h4,pre_of h5 ?_⟩
    apply Classical.byContradiction
    intro hn
    exact h2 (List.any_eq_true.2 ⟨r,hr,by simpa using hn⟩)
theorem rowAt_map {α:Type} {l:List α} {f:α→List Int} {a:Nat} {x:α} (h:l[a]? = some x):rowAt (l.map f) a=f x:=rowAt_of (by rw [List.getElem?_map,h];rfl)
theorem check_of {p:PM} (h0:shapeL p.W p.cell.length p.val=0) (h1:p.rank.length=p.cell.length) (h2:Lens p) (h3:AllCells p) (h4:AllRanked p):checkL p=0:=by
 unfold checkL
 rw [if_neg (not_not_intro h0),if_neg (not_not_intro h1),if_neg (not_not_intro h2),if_neg (not_not_intro h3),if_neg (not_not_intro h4)]
theorem new_valid {W:Int} {val:List (BitVec 64)} {acc:List (List (BitVec 64))} {s:PM} (h:newL W val acc=(s,0)):checkL s=0 ∧ ∀ a r,acc[a]? = some r→weakL s a=r:=by
 obtain ⟨h1,h2,rfl⟩:=newL_ok h
 obtain ⟨w1,w2,-⟩:=shapeL_ok h1
 refine ⟨check_of (by rw [List.length_map];exact h1) (by rw [List.length_map,List.length_map]) ?_ ?_ ?_,fun a r hr=>?_⟩
 ·intro a ha
  rw [List.length_map] at ha
  have hx:=List.getElem?_eq_getElem ha
  obtain ⟨h3,h4⟩:=h2 _ (List.mem_of_getElem? hx)
  rw [rowAt_map hx,rowAt_map hx,cellR_len,rankR_len]
  exact ⟨h3,h3⟩
 ·intro a ha
  rw [List.length_map] at ha
  have hx:=List.getElem?_eq_getElem ha
  rw [rowAt_map hx]
  exact cells_R (h2 _ (List.mem_of_getElem? hx)).2
 ·intro a ha
  rw [List.length_map] at ha
  have hx:=List.getElem?_eq_getElem ha
  rw [rowAt_map hx,rowAt_map hx]
  exact ranked_R (h2 _ (List.mem_of_getElem? hx)).2
 ·obtain ⟨h3,h4⟩:=h2 r (List.mem_of_getElem? hr)
  refine rel_ext (by rw [weak_len];show W.toNat=_;omega) fun w v hw=>?_
  rw [weak_len] at hw
  replace hw:w < W.toNat:=hw
  rw [Bool.eq_iff_iff,rb_weak_iff w2]
  show w < W.toNat∧v < W.toNat∧at0 (rowAt (acc.map cellR) a) v=at0 (rowAt (acc.map cellR) a) w∧at0 (rowAt (acc.map rankR) a) v≤at0 (rowAt (acc.map rankR) a) w↔_
  rw [rowAt_map hr,rowAt_map hr]
  constructor
  ·rintro ⟨-,hv,a1,a2⟩
   rw [at0_cellR (by omega),at0_cellR (by omega)] at a1
   rw [at0_rankR (by omega),at0_rankR (by omega)] at a2
   have hc:=(h4.low_eq (w:=w) (v:=v) (by omega) (by omega)).1 (by omega)
   exact (h4.rk_iff hc).1 (by omega)
  ·intro hb
   have hv:=h4.ins _ _ hb
   have hc:cmp r w v=true:=by simp [cmp,hb]
   refine ⟨hw,by omega,?_,?_⟩
   ·rw [at0_cellR hv,at0_cellR (by omega),(h4.low_eq (by omega) hv).2 hc]
   ·rw [at0_rankR hv,at0_rankR (by omega)]
    exact Int.ofNat_le.2 (h4.rk_mono hb)
end Go.Ab
namespace Go.Ab
open Go
set_option linter.unusedVariables false
set_option linter.unusedSimpArgs false
theorem or_pow_bit {x:BitVec 64} {k i:Nat} (hk:k < 64):(x|||1#64 <<< k).getLsbD i=true↔x.getLsbD i=true∨i=k:=by
 rw [BitVec.getLsbD_or,Bool.or_eq_true,bit_pow]
 constructor
 ·rintro (h|h)
  ·exact .inl h
  ·simp at h;exact .inr h.2
 ·rintro (h|rfl)
  ·exact .inl h
  ·exact .inr (by simp [hk])
theorem blkK_bit {q:Nat→Nat} {s:BitVec 64} {b:Nat} : ∀ k,(∀ w,w < k→q w < 64)→((blkK q s k).getLsbD b=true ↔ ∃ w,w < k∧s.getLsbD w=true∧q w=b)
 | 0,_=>by simp [blkK]
 | k+1,h=>by
  have ih:=blkK_bit (q:=q) (s:=s) (b:=b) k fun w hw=>h w (by omega)
  rw [blkK_succ]
  split
  ·rename_i hs
   rw [or_pow_bit (h k (by omega)),ih]
   constructor
   ·rintro (⟨w,h1,h2⟩|rfl)
    ·exact ⟨w,by omega,h2⟩
    ·exact ⟨k,by omega,hs,rfl⟩
   ·rintro ⟨w,h1,h2,h3⟩
    by_cases e:w=k
    ·subst e;exact .inr h3.symm
    ·exact .inl ⟨w,by omega,h2,h3⟩
  ·rename_i hs
   rw [ih]
   constructor
   ·rintro ⟨w,h1,h2⟩;exact ⟨w,by omega,h2⟩
   ·rintro ⟨w,h1,h2,h3⟩
    by_cases e:w=k
    ·subst e;exact absurd h2 hs
    ·exact ⟨w,by omega,h2,h3⟩
def factK (l:List (BitVec 64)) (w:Nat):Nat→Nat
 | 0=>0
 | k+1=>factK l w k+if (l.getD k 0#64).getLsbD w=true then 2 ^ k else 0
theorem factK_lt (l:List (BitVec 64)) (w:Nat) : ∀ k,factK l w k < 2 ^ k
 | 0=>by simp [factK]
 | k+1=>by
  have:=factK_lt l w k
  have h2:=Nat.two_pow_pos k
  rw [factK,Nat.pow_succ]
  split<;>omega
def factP (p:PM) (w:Nat):Nat:=factK p.val w p.val.length
def factQ (p:PM):Nat→Nat:=lowE (keyE (factP p))
def wkB (p:PM) (a w:Nat):BitVec 64:=uAt (weakL p a) w
def relsP (p:PM):List (Nat→BitVec 64):=(List.range p.cell.length).flatMap fun (a:Nat)=>[fun (w:Nat)=>cellL p (a:Int) (w:Int),fun w=>wkB p a w]
def rndB (p:PM) (k:Nat):Nat→Nat:=iterB p.W.toNat (relsP p) (factQ p) k
theorem factQ_canon (p:PM) (n:Nat):Cano n (factQ p):=lw_canon (keyE_eqv _) n
theorem mem_rels {p:PM} {r:Nat→BitVec 64} : r∈relsP p ↔ ∃ a:Nat,a < p.cell.length∧(r=(fun (w:Nat)=>cellL p (a:Int) (w:Int))∨r=fun w=>wkB p a w):=by
 unfold relsP
 rw [List.mem_flatMap]
 constructor
 ·rintro ⟨a,ha,h⟩
  simp only [List.mem_cons,List.not_mem_nil,or_false] at h
  exact ⟨a,List.mem_range.1 ha,h⟩
 ·rintro ⟨a,ha,h⟩
  exact ⟨a,List.mem_range.2 ha,by simpa using h⟩
structure Stab (p:PM) (q:Nat→Nat):Prop where
 canon:Cano p.W.toNat q
 fact : ∀ {v w},v < p.W.toNat→w < p.W.toNat→q v=q w→factP p v=factP p w
 rel : ∀ {v w},v < p.W.toNat→w < p.W.toNat→q v=q w → ∀ r∈relsP p,blkK q (r v) p.W.toNat=blkK q (r w) p.W.toNat
theorem rndB_canon (p:PM) (k:Nat):Cano p.W.toNat (rndB p k):=iterB_canon (factQ_canon p _) k
section
variable {p:PM} (hc0:checkL p=0) {q:Nat→Nat} (S:Stab p q)
include hc0 S
theorem Stab.q64 {w:Nat} (hw:w < p.W.toNat):q w < 64:=by
 have:=S.canon.le w hw
 have:=W64 hc0
 omega
theorem Stab.cell {a v w u:Nat} (ha:a < p.cell.length) (hv:v < p.W.toNat) (hw:w < p.W.toNat) (h:q v=q w) (hu:InC p a v u) : ∃ u',InC p a w u'∧q u'=q u:=by
 have hr:=S.rel hv hw h _ (mem_rels.2 ⟨a,ha,.inl rfl⟩)
 have h1:=(blkK_bit (s:=cellL p (a:Int) (v:Int)) (b:=q u) p.W.toNat fun w hw=>S.q64 hc0 hw).2 ⟨u,hu.1,(cell_bit hc0 ha hv).2 hu,rfl⟩
 rw [hr] at h1
 obtain ⟨u',h2,h3,h4⟩:=(blkK_bit p.W.toNat fun w hw=>S.q64 hc0 hw).1 h1
 exact ⟨u',(cell_bit hc0 ha hw).1 h3,h4⟩
end
def repsL (n:Nat) (q:Nat→Nat):List Nat:=(List.range n).filter fun w=>decide (q w=w)
def numB (q:Nat→Nat) (w:Nat):Nat:=cntB (q w) q
section
variable {n:Nat} {q:Nat→Nat} (hq:Cano n q)
include hq
end
def ordB (p:PM) (q:Nat→Nat) (a:Nat):List (BitVec 64):=(repsL p.W.toNat q).map fun u=>blkK (numB q) (wkB p a u) p.W.toNat
def valB (p:PM) (q:Nat→Nat):List (BitVec 64):=p.val.map fun s=>blkK (numB q) s p.W.toNat
noncomputable def quoL (p:PM) (q:Nat→Nat):PM×Int:=newL ((repsL p.W.toNat q).length:Int) (valB p q) ((List.range p.cell.length).map (ordB p q))
section
variable {p:PM} (hc0:checkL p=0) {q:Nat→Nat} (S:Stab p q)
include hc0 S
omit hc0 S in
theorem quo_spec {s:PM} (h:quoL p q=(s,0)):checkL s=0∧s.W=((repsL p.W.toNat q).length:Int)∧s.cell.length=p.cell.length∧s.val=valB p q ∧ ∀ a,a < p.cell.length→weakL s a=ordB p q a:=by
 obtain ⟨h1,h2⟩:=new_valid h
 obtain ⟨-,-,h3⟩:=newL_ok h
 refine ⟨h1,by rw [h3],by rw [h3];simp,by rw [h3],fun a ha=>h2 a _ ?_⟩
 rw [List.getElem?_map,List.getElem?_range ha];rfl
end
end Go.Ab
namespace Go.Ab
open Go Go.Proofs
set_option linter.unusedSimpArgs false
set_option linter.unusedVariables false
set_option maxRecDepth 10000
set_option maxHeartbeats 4000000
variable {T:Nat→Obj→Prop}
def factsL (p:PM):List Int:=ptL p.W.toNat (factP p)
theorem or_disj {x k:Nat} (h:x < 2 ^ k):x|||2 ^ k=x+2 ^ k:=by
 have:=Nat.two_pow_add_eq_or_of_lt (i:=k) h 1
 rw [Nat.or_comm,show 2 ^ k=2 ^ k * 1 by omega,← this];omega
theorem factK_or {l:List (BitVec 64)} {w k:Nat} {s:BitVec 64} (hs:l[k]? = some s) (hk:k < 8) :
  bitsI .i64 (fun p q=>p|||q) (factK l w k:Int) ((((s >>> w&&&1#64).toNat:Int)) * 2 ^ (min k IntKind.i64.bits))=(factK l w (k+1):Int):=by
 have h1:=factK_lt l w k
 have hp:2 ^ k≤2 ^ 7:=Nat.pow_le_pow_right (by decide) (by omega)
 have hb:min k IntKind.i64.bits=k:=by show min k 64=k;omega
 rw [hb,factK,show l.getD k 0#64=s by rw [List.getD,hs];rfl]
 by_cases h:s.getLsbD w=true
 ·have e:s >>> w&&&1#64=1#64:=(bit_one s w).2 h
  rw [e,if_pos h]
  have:=bits_or (a:=factK l w k) (b:=2 ^ k) (by omega) (by omega)
  rw [show ((1#64).toNat:Int) * 2 ^ k=((2 ^ k:Nat):Int) by simp,this,or_disj h1]
 ·have e:s >>> w&&&1#64=0#64:=(bit_zero s w).2 (by simpa using h)
  rw [e,if_neg h]
  have:=bits_or (a:=factK l w k) (b:=0) (by omega) (by omega)
  rw [show ((0#64).toNat:Int) * 2 ^ k=((0:Nat):Int) by simp,this];simp
theorem bit_small (s:BitVec 64) (w:Nat):(s >>> w&&&1#64).toNat≤1:=by
 cases h:s.getLsbD w with
 | true=>rw [(bit_one s w).2 h];decide
 | false=>rw [(bit_zero s w).2 h];decide
theorem shl_small {x k:Nat} (hx:x≤1) (hk:k < 8):0≤(x:Int) * 2 ^ (min (k:Int).toNat IntKind.i64.bits)∧(x:Int) * 2 ^ (min (k:Int).toNat IntKind.i64.bits)≤9223372036854775807:=by
 have hp:2 ^ k≤2 ^ 7:=Nat.pow_le_pow_right (by decide) (by omega)
 have hb:min (k:Int).toNat IntKind.i64.bits=k:=by show min k 64=k;omega
 rw [hb]
 match x,hx with
 | 0,_=>simp
 | 1,_ =>
  rw [show ((1:Nat):Int) * 2 ^ k=((2 ^ k:Nat):Int) by simp]
  have h7:(2:Nat) ^ 7=128:=rfl
  exact ⟨Int.natCast_nonneg _,Int.ofNat_le.2 (show 2 ^ k≤9223372036854775807 by omega)⟩
theorem fn_pfacts (p:PM) (hc0:checkL p=0):Fn Tryz.prog T f_plausbisim_facts [.d (dPM p)] [] (.d (dI (factsL p))) []:=by
 have hg:=checkL_good hc0
 have w1:=hg.w1
 have w2:=hg.w2
 have v8:=hg.v8
 refine fn_dataR hmix k_plausbisim_facts (by show 1≤39;decide) ?_
 (repeat' ((conv=>whnf);first|refine vA ?_|refine vB fun b hb=>?_|refine vC (fun hl=>?_) fun i kv vv hi=>?_|refine vE ?_|refine vG ?_|refine vH ?_|((first|refine vD ?_ ?_|refine vF ?_ ?_|refine vI ?_ ?_)<;>intro hc<;>try simp only [vL] at hc)|refine vJ fun hg=>?_|refine vK fun hg=>?_|refine vT ?_|refine vN ‹_› ?_|(refine vQ ?_ fun x hx=>?_;·first|omega|(simp only [vM] at *;omega))|((first|refine vO ?_ ?_|refine vR ?_ ‹_› ?_|refine vS ?_ fun x hx=>?_|refine vP ?_ ?_);·first|omega|(simp only [vM] at *;omega))|refine vW ⟨by omega,by omega⟩ ?_|(refine vU ?_ ?_;·kernel_rfl)|refine vX ?_|refine vY ?_|refine vZ ?_|refine FindS.mk _ ‹_› ?_|refine vP (show (_:BitVec 64)≠_ by decide) ?_));all_goals try conv=>whnf
 refine loop_mem (fun ((i,zs):Nat×List D)=>[(3,.own 0),(11,.d (dU p.val)),(12,.d (.int .i64 ((p.val.map D.u64).length:Int))),(13,.d (.int .i64 ((i:Int))))]) (fun ((i,zs):Nat×List D)=>[(0,some (.row 1 zs))]) 1 (fun ((i,zs):Nat×List D)=>i≤p.val.length∧zs=(List.range p.W.toNat).map fun w=>D.int .i64 (factK p.val w i:Int)) (fun ((i,zs):Nat×List D)=>p.val.length - i) ((0,List.replicate p.W.toNat (D.int .i64 0))) [(0,1)] [] (⟨by simp,by simp only [factK];exact replicate_range _ _⟩) (by (refine ⟨rfl,rfl,rfl,?_,?_⟩;repeat' first|exact trivial|exact rfl|exact ⟨_,rfl⟩|exact .inl rfl|exact .inr (.inl ⟨rfl,rfl⟩)|exact .inr (.inr ⟨rfl,rfl⟩)|refine And.intro ?_ ?_|refine ⟨_,rfl,?_⟩|decide|exact of_decide_eq_true rfl)) ?_
 rintro ⟨i,zs⟩ ⟨hi,rfl⟩
 by_cases hil:i < p.val.length
 ·obtain ⟨s,hs⟩ : ∃ s,p.val[i]? = some s:=⟨_,List.getElem?_eq_getElem hil⟩
  (repeat' ((conv=>whnf);first|refine vA ?_|refine vB fun b hb=>?_|refine vC (fun hl=>?_) fun i kv vv hi=>?_|refine vE ?_|refine vG ?_|refine vH ?_|((first|refine vD ?_ ?_|refine vF ?_ ?_|refine vI ?_ ?_)<;>intro hc<;>try simp only [vL] at hc)|refine vJ fun hg=>?_|refine vK fun hg=>?_|refine vT ?_|refine vN ‹_› ?_|(refine vQ ?_ fun x hx=>?_;·first|omega|(simp only [vM] at *;omega))|((first|refine vO ?_ ?_|refine vR ?_ ‹_› ?_|refine vS ?_ fun x hx=>?_|refine vP ?_ ?_);·first|omega|(simp only [vM] at *;omega))|refine vW ⟨by omega,by omega⟩ ?_|(refine vU ?_ ?_;·kernel_rfl)|refine vX ?_|refine vY ?_|refine vZ ?_|refine FindS.mk _ ‹_› ?_|refine vP (show (_:BitVec 64)≠_ by decide) ?_));all_goals try conv=>whnf
  ·refine loop_mem (fun ((w,zs):Nat×List D)=>[(3,.own 0),(4,.d (.int .i64 ((i:Int)))),(5,.d (.u64 (s))),(11,.d (dU p.val)),(12,.d (.int .i64 ((p.val.map D.u64).length:Int))),(13,.d (.int .i64 ((i:Int)))),(19,.d (.int .i64 (((List.range p.W.toNat).map fun w=>D.int .i64 (factK p.val w i:Int)).length:Int))),(20,.d (.int .i64 ((w:Int))))]) (fun ((w,zs):Nat×List D)=>[(0,some (.row 1 zs))]) 1 (fun ((w,zs):Nat×List D)=>w≤p.W.toNat∧zs=(List.range p.W.toNat).map fun u=>D.int .i64 (if u < w then (factK p.val u (i+1):Int) else (factK p.val u i:Int))) (fun ((w,zs):Nat×List D)=>p.W.toNat - w) ((0,_)) [(0,0)] [] (⟨by simp,by simp only [Nat.not_lt_zero,if_false]⟩) (by (refine ⟨rfl,rfl,rfl,?_,?_⟩;repeat' first|exact trivial|exact rfl|exact ⟨_,rfl⟩|exact .inl rfl|exact .inr (.inl ⟨rfl,rfl⟩)|exact .inr (.inr ⟨rfl,rfl⟩)|refine And.intro ?_ ?_|refine ⟨_,rfl,?_⟩|decide|exact of_decide_eq_true rfl)) ?_
   rintro ⟨w,zs⟩ ⟨hw,rfl⟩
   by_cases hwl:w < p.W.toNat
   ·have er:(List.range p.W.toNat)[w]? = some w:=List.getElem?_range hwl
    have bs:(s >>> (w:Int).toNat&&&(1:BitVec 64)).toNat≤1:=bit_small s _
    have hor:=factK_or (w:=w) hs (by omega)
    have hsh:0≤(((s >>> (w:Int).toNat&&&(1:BitVec 64)).toNat:Int)) * 2 ^ (min (i:Int).toNat IntKind.i64.bits)∧(((s >>> (w:Int).toNat&&&(1:BitVec 64)).toNat:Int)) * 2 ^ (min (i:Int).toNat IntKind.i64.bits)≤9223372036854775807:=shl_small bs (by omega)
    have e1 : ¬ w < w:=by omega
    (repeat' ((conv=>whnf);first|refine vA ?_|refine vB fun b hb=>?_|refine vC (fun hl=>?_) fun i kv vv hi=>?_|refine vE ?_|refine vG ?_|refine vH ?_|((first|refine vD ?_ ?_|refine vF ?_ ?_|refine vI ?_ ?_)<;>intro hc<;>try simp only [vL] at hc)|refine vJ fun hg=>?_|refine vK fun hg=>?_|refine vT ?_|refine vN ‹_› ?_|(refine vQ ?_ fun x hx=>?_;·first|omega|(simp only [vM] at *;omega))|((first|refine vO ?_ ?_|refine vR ?_ ‹_› ?_|refine vS ?_ fun x hx=>?_|refine vP ?_ ?_);·first|omega|(simp only [vM] at *;omega))|refine vW ⟨by omega,by omega⟩ ?_|(refine vU ?_ ?_;·kernel_rfl)|refine vX ?_|refine vY ?_|refine vZ ?_|refine FindS.mk _ ‹_› ?_|refine vP (show (_:BitVec 64)≠_ by decide) ?_));all_goals try conv=>whnf
    ·refine ⟨(w+1,_),[(0,0)],[],?_,?_,by (refine ⟨rfl,rfl,rfl,?_,?_⟩;repeat' first|exact trivial|exact rfl|exact ⟨_,rfl⟩|exact .inl rfl|exact .inr (.inl ⟨rfl,rfl⟩)|exact .inr (.inr ⟨rfl,rfl⟩)|refine And.intro ?_ ?_|refine ⟨_,rfl,?_⟩|decide|exact of_decide_eq_true rfl)⟩
     ·refine ⟨by (first|omega|(simp only [vM] at *;omega)),(set_range _).trans (map_range_congr fun u hu=>?_)⟩
      show (if u=w then _ else _)=_
      by_cases e:u=w
      ·subst e
       rw [if_pos rfl,if_pos (show u < u+1 by omega),if_neg e1]
       exact congrArg (D.int .i64) hor
      ·rw [if_neg e]
       by_cases e2:u < w
       ·rw [if_pos e2,if_pos (show u < w+1 by omega)]
       ·rw [if_neg e2,if_neg (show ¬ u < w+1 by omega)]
     ·(first|omega|(simp only [vM] at *;omega))
    ·omega
   ·(repeat' ((conv=>whnf);first|refine vA ?_|refine vB fun b hb=>?_|refine vC (fun hl=>?_) fun i kv vv hi=>?_|refine vE ?_|refine vG ?_|refine vH ?_|((first|refine vD ?_ ?_|refine vF ?_ ?_|refine vI ?_ ?_)<;>intro hc<;>try simp only [vL] at hc)|refine vJ fun hg=>?_|refine vK fun hg=>?_|refine vT ?_|refine vN ‹_› ?_|(refine vQ ?_ fun x hx=>?_;·first|omega|(simp only [vM] at *;omega))|((first|refine vO ?_ ?_|refine vR ?_ ‹_› ?_|refine vS ?_ fun x hx=>?_|refine vP ?_ ?_);·first|omega|(simp only [vM] at *;omega))|refine vW ⟨by omega,by omega⟩ ?_|(refine vU ?_ ?_;·kernel_rfl)|refine vX ?_|refine vY ?_|refine vZ ?_|refine FindS.mk _ ‹_› ?_|refine vP (show (_:BitVec 64)≠_ by decide) ?_));all_goals try conv=>whnf
    ·omega
    ·have e0:w=p.W.toNat:=by omega
     subst e0
     refine ⟨(i+1,_),[(0,0)],[],?_,?_,by (refine ⟨rfl,rfl,rfl,?_,?_⟩;repeat' first|exact trivial|exact rfl|exact ⟨_,rfl⟩|exact .inl rfl|exact .inr (.inl ⟨rfl,rfl⟩)|exact .inr (.inr ⟨rfl,rfl⟩)|refine And.intro ?_ ?_|refine ⟨_,rfl,?_⟩|decide|exact of_decide_eq_true rfl)⟩
     ·exact ⟨by (first|omega|(simp only [vM] at *;omega)),map_range_congr fun u hu=>by rw [if_pos hu]⟩
     ·(first|omega|(simp only [vM] at *;omega))
  all_goals omega
 ·(repeat' ((conv=>whnf);first|refine vA ?_|refine vB fun b hb=>?_|refine vC (fun hl=>?_) fun i kv vv hi=>?_|refine vE ?_|refine vG ?_|refine vH ?_|((first|refine vD ?_ ?_|refine vF ?_ ?_|refine vI ?_ ?_)<;>intro hc<;>try simp only [vL] at hc)|refine vJ fun hg=>?_|refine vK fun hg=>?_|refine vT ?_|refine vN ‹_› ?_|(refine vQ ?_ fun x hx=>?_;·first|omega|(simp only [vM] at *;omega))|((first|refine vO ?_ ?_|refine vR ?_ ‹_› ?_|refine vS ?_ fun x hx=>?_|refine vP ?_ ?_);·first|omega|(simp only [vM] at *;omega))|refine vW ⟨by omega,by omega⟩ ?_|(refine vU ?_ ?_;·kernel_rfl)|refine vX ?_|refine vY ?_|refine vZ ?_|refine FindS.mk _ ‹_› ?_|refine vP (show (_:BitVec 64)≠_ by decide) ?_));all_goals try conv=>whnf
  ·omega
  ·have e0:i=p.val.length:=by omega
   subst e0
   refine congrArg (fun l=>some (D.arr 1 l)) ?_
   unfold factsL ptL
   rw [List.map_map];rfl
end Go.Ab
namespace Go.Ab
open Go Go.Proofs
set_option linter.unusedSimpArgs false
set_option linter.unusedVariables false
set_option maxRecDepth 10000
set_option maxHeartbeats 4000000
variable {T:Nat→Obj→Prop}
def linkD (a:Nat) (b:Bool) (rows:List (BitVec 64)):List D:=[.agg [.int .i64 (a:Int),.bool b,dU rows]]
def cellsR (p:PM) (a:Nat):List (BitVec 64):=(List.range p.W.toNat).map fun (w:Nat)=>cellL p (a:Int) (w:Int)
def linksF (p:PM) (a:Nat):List (List D):=((List.range p.cell.length).drop a).flatMap fun a=>[linkD a false (cellsR p a),linkD a true (weakL p a)]
theorem linksF_step {p:PM} {a:Nat} (ha:a < p.cell.length):linksF p a=linkD a false (cellsR p a)::linkD a true (weakL p a)::linksF p (a+1):=by
 unfold linksF
 rw [List.drop_eq_getElem_cons (by simpa using ha),List.flatMap_cons]
 simp
theorem linksF_end {p:PM} {a:Nat} (ha:p.cell.length≤a):linksF p a=[]:=by
 unfold linksF
 rw [List.drop_eq_nil_of_le (by simpa using ha)];rfl
theorem it_links (hR:RanksOk T) (p:PM) (hp:IntsOk p.rank) (hc0:checkL p=0):It Tryz.prog T f_plausbisim_links_1 [.ptr 0 0] [boxPM p] (linksF p 0):=by
 have hg:=checkL_good hc0
 have w1:=hg.w1
 have w2:=hg.w2
 have n4:=hg.n4
 refine it_introR hmix k_plausbisim_links_1 rfl (by show 2≤51;decide) fun l=>?_
 (repeat' ((conv=>whnf);first|refine vA ?_|refine vB fun b hb=>?_|refine vC (fun hl=>?_) fun i kv vv hi=>?_|refine vE ?_|refine vG ?_|refine vH ?_|((first|refine vD ?_ ?_|refine vF ?_ ?_|refine vI ?_ ?_)<;>intro hc<;>try simp only [vL] at hc)|refine vJ fun hg=>?_|refine vK fun hg=>?_|refine vT ?_|refine vN ‹_› ?_|(refine vQ ?_ fun x hx=>?_;·first|omega|(simp only [vM] at *;omega))|((first|refine vO ?_ ?_|refine vR ?_ ‹_› ?_|refine vS ?_ fun x hx=>?_|refine vP ?_ ?_);·first|omega|(simp only [vM] at *;omega))|refine vW ⟨by omega,by omega⟩ ?_|(refine vU ?_ ?_;·kernel_rfl)|refine vX ?_|refine vY ?_|refine vZ ?_|refine FindS.mk _ ‹_› ?_|refine vP (show (_:BitVec 64)≠_ by decide) ?_));all_goals try conv=>whnf
 refine loop_mem (fun (a:Nat)=>[(0,.yld l),(1,.ptr 0 0),(10,.d (.int .i64 ((p.cell.map dI).length:Int))),(11,.d (.int .i64 ((a:Int))))]) (fun (a:Nat)=>[(0,some (boxPM p)),(1,some (.todo (some (linksF p a))))]) 2 (fun (a:Nat)=>a≤p.cell.length) (fun (a:Nat)=>p.cell.length - a) (0) [(0,0),(1,1)] [] (by simp) (by (refine ⟨rfl,rfl,rfl,?_,?_⟩;repeat' first|exact trivial|exact rfl|exact ⟨_,rfl⟩|exact .inl rfl|exact .inr (.inl ⟨rfl,rfl⟩)|exact .inr (.inr ⟨rfl,rfl⟩)|refine And.intro ?_ ?_|refine ⟨_,rfl,?_⟩|decide|exact of_decide_eq_true rfl)) ?_
 rintro a ha
 by_cases hal:a < p.cell.length
 ·have hd:=linksF_step hal
  have cw:=fn_Weaker (T:=T) hR p hp (a:Int)
  rw [show weakerL p (a:Int)=(weakL p a,0) by rw [weakerL,if_neg (not_not_intro hc0),if_neg (by omega)];rfl] at cw
  (repeat' ((conv=>whnf);first|refine vA ?_|refine vB fun b hb=>?_|refine vC (fun hl=>?_) fun i kv vv hi=>?_|refine vE ?_|refine vG ?_|refine vH ?_|((first|refine vD ?_ ?_|refine vF ?_ ?_|refine vI ?_ ?_)<;>intro hc<;>try simp only [vL] at hc)|refine vJ fun hg=>?_|refine vK fun hg=>?_|refine vT ?_|refine vN ‹_› ?_|(refine vQ ?_ fun x hx=>?_;·first|omega|(simp only [vM] at *;omega))|((first|refine vO ?_ ?_|refine vR ?_ ‹_› ?_|refine vS ?_ fun x hx=>?_|refine vP ?_ ?_);·first|omega|(simp only [vM] at *;omega))|refine vW ⟨by omega,by omega⟩ ?_|(refine vU ?_ ?_;·kernel_rfl)|refine vX ?_|refine vY ?_|refine vZ ?_|refine FindS.mk _ ‹_› ?_|refine vP (show (_:BitVec 64)≠_ by decide) ?_));all_goals try conv=>whnf
  ·refine loop_mem (fun ((w,zs):Nat×List D)=>[(0,.yld l),(1,.ptr 0 0),(3,.d (.int .i64 ((a:Int)))),(4,.own 2),(10,.d (.int .i64 ((p.cell.map dI).length:Int))),(11,.d (.int .i64 ((a:Int)))),(18,.d (.int .i64 ((List.replicate p.W.toNat (D.u64 (0:BitVec 64))).length:Int))),(19,.d (.int .i64 ((w:Int))))]) (fun ((w,zs):Nat×List D)=>[(0,some (boxPM p)),(1,some (.todo (some (linksF p a)))),(2,some (.row 1 zs))]) 3 (fun ((w,zs):Nat×List D)=>w≤p.W.toNat∧zs=(List.range p.W.toNat).map fun (u:Nat)=>D.u64 (if u < w then cellL p (a:Int) (u:Int) else 0)) (fun ((w,zs):Nat×List D)=>p.W.toNat - w) ((0,List.replicate p.W.toNat (D.u64 0))) [(0,0),(1,1),(2,2)] [] (⟨by simp,by simp only [Nat.not_lt_zero,if_false];exact replicate_range _ _⟩) (by (refine ⟨rfl,rfl,rfl,?_,?_⟩;repeat' first|exact trivial|exact rfl|exact ⟨_,rfl⟩|exact .inl rfl|exact .inr (.inl ⟨rfl,rfl⟩)|exact .inr (.inr ⟨rfl,rfl⟩)|refine And.intro ?_ ?_|refine ⟨_,rfl,?_⟩|decide|exact of_decide_eq_true rfl)) ?_
   rintro ⟨w,zs⟩ ⟨hw,hz⟩
   have hzl:zs.length=p.W.toNat:=by rw [hz];simp
   by_cases hwl:w < p.W.toNat
   ·(repeat' ((conv=>whnf);first|refine vA ?_|refine vB fun b hb=>?_|refine vC (fun hl=>?_) fun i kv vv hi=>?_|refine vE ?_|refine vG ?_|refine vH ?_|((first|refine vD ?_ ?_|refine vF ?_ ?_|refine vI ?_ ?_)<;>intro hc<;>try simp only [vL] at hc)|refine vJ fun hg=>?_|refine vK fun hg=>?_|refine vT ?_|refine vN ‹_› ?_|(refine vQ ?_ fun x hx=>?_;·first|omega|(simp only [vM] at *;omega))|((first|refine vO ?_ ?_|refine vR ?_ ‹_› ?_|refine vS ?_ fun x hx=>?_|refine vP ?_ ?_);·first|omega|(simp only [vM] at *;omega))|refine vW ⟨by omega,by omega⟩ ?_|(refine vU ?_ ?_;·kernel_rfl)|refine vX ?_|refine vY ?_|refine vZ ?_|refine yD (fn_Cell hR p hp (a:Int) (w:Int)) ⟨⟨rfl,rfl⟩,⟨rfl,rfl⟩,⟨rfl,rfl⟩,rfl⟩ rfl ?_|refine FindS.mk _ ‹_› ?_|refine vP (show (_:BitVec 64)≠_ by decide) ?_));all_goals try conv=>whnf
    ·refine ⟨(w+1,_),[(0,0),(1,1),(2,2)],[],?_,?_,by (refine ⟨rfl,rfl,rfl,?_,?_⟩;repeat' first|exact trivial|exact rfl|exact ⟨_,rfl⟩|exact .inl rfl|exact .inr (.inl ⟨rfl,rfl⟩)|exact .inr (.inr ⟨rfl,rfl⟩)|refine And.intro ?_ ?_|refine ⟨_,rfl,?_⟩|decide|exact of_decide_eq_true rfl)⟩
     ·refine ⟨by (first|omega|(simp only [vM] at *;omega)),?_⟩
      rw [hz]
      refine (set_range _).trans (map_range_congr fun u hu=>?_)
      show (if u=w then _ else _)=_
      by_cases e:u=w
      ·subst e
       rw [if_pos rfl,if_pos (show u < u+1 by omega)]
      ·rw [if_neg e]
       by_cases e2:u < w
       ·rw [if_pos e2,if_pos (show u < w+1 by omega)]
       ·rw [if_neg e2,if_neg (show ¬ u < w+1 by omega)]
     ·(first|omega|(simp only [vM] at *;omega))
    all_goals omega
   ·have e0:w=p.W.toNat:=by omega
    obtain rfl:zs=(cellsR p a).map D.u64:=by
     rw [hz];unfold cellsR;rw [List.map_map]
     exact map_range_congr fun u hu=>by rw [if_pos (by omega)];rfl
    (repeat' ((conv=>whnf);first|refine vA ?_|refine vB fun b hb=>?_|refine vC (fun hl=>?_) fun i kv vv hi=>?_|refine vE ?_|refine vG ?_|refine vH ?_|((first|refine vD ?_ ?_|refine vF ?_ ?_|refine vI ?_ ?_)<;>intro hc<;>try simp only [vL] at hc)|refine vJ fun hg=>?_|refine vK fun hg=>?_|refine vT ?_|refine vN ‹_› ?_|(refine vQ ?_ fun x hx=>?_;·first|omega|(simp only [vM] at *;omega))|((first|refine vO ?_ ?_|refine vR ?_ ‹_› ?_|refine vS ?_ fun x hx=>?_|refine vP ?_ ?_);·first|omega|(simp only [vM] at *;omega))|refine vW ⟨by omega,by omega⟩ ?_|(refine vU ?_ ?_;·kernel_rfl)|refine vX ?_|refine vY ?_|refine vZ ?_|refine yN cw ⟨⟨rfl,rfl⟩,⟨rfl,rfl⟩,rfl⟩ ?_|refine FindS.mk _ ‹_› ?_|refine vP (show (_:BitVec 64)≠_ by decide) ?_));all_goals try conv=>whnf
    ·omega
    ·refine ⟨rfl,linkD a false (cellsR p a),linkD a true (weakL p a)::linksF p (a+1),congrArg (fun l=>some (Ob.todo (some l))) hd,rfl,rfl,rfl,?_,?_⟩
     ·(repeat' ((conv=>whnf);first|refine vA ?_|refine vB fun b hb=>?_|refine vC (fun hl=>?_) fun i kv vv hi=>?_|refine vE ?_|refine vG ?_|refine vH ?_|((first|refine vD ?_ ?_|refine vF ?_ ?_|refine vI ?_ ?_)<;>intro hc<;>try simp only [vL] at hc)|refine vJ fun hg=>?_|refine vK fun hg=>?_|refine vT ?_|refine vN ‹_› ?_|(refine vQ ?_ fun x hx=>?_;·first|omega|(simp only [vM] at *;omega))|((first|refine vO ?_ ?_|refine vR ?_ ‹_› ?_|refine vS ?_ fun x hx=>?_|refine vP ?_ ?_);·first|omega|(simp only [vM] at *;omega))|refine vW ⟨by omega,by omega⟩ ?_|(refine vU ?_ ?_;·kernel_rfl)|refine vX ?_|refine vY ?_|refine vZ ?_|refine FindS.mk _ ‹_› ?_|refine vP (show (_:BitVec 64)≠_ by decide) ?_));all_goals try conv=>whnf
      refine ⟨rfl,linkD a true (weakL p a),linksF p (a+1),rfl,rfl,rfl,rfl,?_,?_⟩
      ·(repeat' ((conv=>whnf);first|refine vA ?_|refine vB fun b hb=>?_|refine vC (fun hl=>?_) fun i kv vv hi=>?_|refine vE ?_|refine vG ?_|refine vH ?_|((first|refine vD ?_ ?_|refine vF ?_ ?_|refine vI ?_ ?_)<;>intro hc<;>try simp only [vL] at hc)|refine vJ fun hg=>?_|refine vK fun hg=>?_|refine vT ?_|refine vN ‹_› ?_|(refine vQ ?_ fun x hx=>?_;·first|omega|(simp only [vM] at *;omega))|((first|refine vO ?_ ?_|refine vR ?_ ‹_› ?_|refine vS ?_ fun x hx=>?_|refine vP ?_ ?_);·first|omega|(simp only [vM] at *;omega))|refine vW ⟨by omega,by omega⟩ ?_|(refine vU ?_ ?_;·kernel_rfl)|refine vX ?_|refine vY ?_|refine vZ ?_|refine FindS.mk _ ‹_› ?_|refine vP (show (_:BitVec 64)≠_ by decide) ?_));all_goals try conv=>whnf
       exact ⟨a+1,[(0,0),(1,1)],[],by (first|omega|(simp only [vM] at *;omega)),by (first|omega|(simp only [vM] at *;omega)),by (refine ⟨rfl,rfl,rfl,?_,?_⟩;repeat' first|exact trivial|exact rfl|exact ⟨_,rfl⟩|exact .inl rfl|exact .inr (.inl ⟨rfl,rfl⟩)|exact .inr (.inr ⟨rfl,rfl⟩)|refine And.intro ?_ ?_|refine ⟨_,rfl,?_⟩|decide|exact of_decide_eq_true rfl)⟩
      ·(repeat' ((conv=>whnf);first|refine vA ?_|refine vB fun b hb=>?_|refine vC (fun hl=>?_) fun i kv vv hi=>?_|refine vE ?_|refine vG ?_|refine vH ?_|((first|refine vD ?_ ?_|refine vF ?_ ?_|refine vI ?_ ?_)<;>intro hc<;>try simp only [vL] at hc)|refine vJ fun hg=>?_|refine vK fun hg=>?_|refine vT ?_|refine vN ‹_› ?_|(refine vQ ?_ fun x hx=>?_;·first|omega|(simp only [vM] at *;omega))|((first|refine vO ?_ ?_|refine vR ?_ ‹_› ?_|refine vS ?_ fun x hx=>?_|refine vP ?_ ?_);·first|omega|(simp only [vM] at *;omega))|refine vW ⟨by omega,by omega⟩ ?_|(refine vU ?_ ?_;·kernel_rfl)|refine vX ?_|refine vY ?_|refine vZ ?_|refine FindS.mk _ ‹_› ?_|refine vP (show (_:BitVec 64)≠_ by decide) ?_));all_goals try conv=>whnf
       right;rfl
     ·(repeat' ((conv=>whnf);first|refine vA ?_|refine vB fun b hb=>?_|refine vC (fun hl=>?_) fun i kv vv hi=>?_|refine vE ?_|refine vG ?_|refine vH ?_|((first|refine vD ?_ ?_|refine vF ?_ ?_|refine vI ?_ ?_)<;>intro hc<;>try simp only [vL] at hc)|refine vJ fun hg=>?_|refine vK fun hg=>?_|refine vT ?_|refine vN ‹_› ?_|(refine vQ ?_ fun x hx=>?_;·first|omega|(simp only [vM] at *;omega))|((first|refine vO ?_ ?_|refine vR ?_ ‹_› ?_|refine vS ?_ fun x hx=>?_|refine vP ?_ ?_);·first|omega|(simp only [vM] at *;omega))|refine vW ⟨by omega,by omega⟩ ?_|(refine vU ?_ ?_;·kernel_rfl)|refine vX ?_|refine vY ?_|refine vZ ?_|refine FindS.mk _ ‹_› ?_|refine vP (show (_:BitVec 64)≠_ by decide) ?_));all_goals try conv=>whnf
      right;rfl
  ·omega
 ·(repeat' ((conv=>whnf);first|refine vA ?_|refine vB fun b hb=>?_|refine vC (fun hl=>?_) fun i kv vv hi=>?_|refine vE ?_|refine vG ?_|refine vH ?_|((first|refine vD ?_ ?_|refine vF ?_ ?_|refine vI ?_ ?_)<;>intro hc<;>try simp only [vL] at hc)|refine vJ fun hg=>?_|refine vK fun hg=>?_|refine vT ?_|refine vN ‹_› ?_|(refine vQ ?_ fun x hx=>?_;·first|omega|(simp only [vM] at *;omega))|((first|refine vO ?_ ?_|refine vR ?_ ‹_› ?_|refine vS ?_ fun x hx=>?_|refine vP ?_ ?_);·first|omega|(simp only [vM] at *;omega))|refine vW ⟨by omega,by omega⟩ ?_|(refine vU ?_ ?_;·kernel_rfl)|refine vX ?_|refine vY ?_|refine vZ ?_|refine FindS.mk _ ‹_› ?_|refine vP (show (_:BitVec 64)≠_ by decide) ?_));all_goals try conv=>whnf
  ·omega
  ·left;exact congrArg (fun l=>some (Ob.todo (some l))) (linksF_end (by omega))
theorem fn_plinks (p:PM):Fn Tryz.prog T f_plausbisim_links [.d (dPM p)] [] (.fn f_plausbisim_links_1 [.ptr 0 0]) [some (boxPM p)]:=by
 refine fn_introR hmix k_plausbisim_links (by show 1≤4;decide) _ (fun e env mem n h=>h) ?_
 (repeat' ((conv=>whnf);first|refine vA ?_|refine vB fun b hb=>?_|refine vC (fun hl=>?_) fun i kv vv hi=>?_|refine vE ?_|refine vG ?_|refine vH ?_|((first|refine vD ?_ ?_|refine vF ?_ ?_|refine vI ?_ ?_)<;>intro hc<;>try simp only [vL] at hc)|refine vJ fun hg=>?_|refine vK fun hg=>?_|refine vT ?_|refine vN ‹_› ?_|(refine vQ ?_ fun x hx=>?_;·first|omega|(simp only [vM] at *;omega))|((first|refine vO ?_ ?_|refine vR ?_ ‹_› ?_|refine vS ?_ fun x hx=>?_|refine vP ?_ ?_);·first|omega|(simp only [vM] at *;omega))|refine vW ⟨by omega,by omega⟩ ?_|(refine vU ?_ ?_;·kernel_rfl)|refine vX ?_|refine vY ?_|refine vZ ?_|refine FindS.mk _ ‹_› ?_|refine vP (show (_:BitVec 64)≠_ by decide) ?_));all_goals try conv=>whnf
 exact ⟨trivial,_,[(0,0)],[],rfl,.inl (by (repeat' first|exact trivial|exact rfl|exact ⟨_,rfl⟩|exact .inl rfl|exact .inr (.inl ⟨rfl,rfl⟩)|exact .inr (.inr ⟨rfl,rfl⟩)|refine And.intro ?_ ?_|refine ⟨_,rfl,?_⟩|decide|exact of_decide_eq_true rfl)),⟨rfl,rfl,rfl,trivial,by (repeat' first|exact trivial|exact rfl|exact ⟨_,rfl⟩|exact .inl rfl|exact .inr (.inl ⟨rfl,rfl⟩)|exact .inr (.inr ⟨rfl,rfl⟩)|refine And.intro ?_ ?_|refine ⟨_,rfl,?_⟩|decide|exact of_decide_eq_true rfl)⟩,trivial⟩
def numG:Nat→List (BitVec 64)→List (D×D)
 | _,[]=>[]
 | i,x::r=>(.u64 x,.int .i64 (i:Int))::numG (i+1) r
def addN (dl:List (BitVec 64)) (x:BitVec 64):List (BitVec 64):=if x∈dl then dl else dl++[x]
theorem numG_len : ∀ (dl:List (BitVec 64)) (i:Nat),(numG i dl).length=dl.length
 | [],_=>rfl
 | x::r,i=>by simp [numG,numG_len r (i+1)]
theorem numG_append (x:BitVec 64) : ∀ (dl:List (BitVec 64)) (i:Nat),numG i (dl++[x])=numG i dl++[(.u64 x,.int .i64 ((i+dl.length:Nat):Int))]
 | [],i=>by simp [numG]
 | y::r,i=>by
  rw [List.cons_append,numG,numG,numG_append x r (i+1),List.cons_append,List.length_cons,show i+1+r.length=i+(r.length+1) by omega]
theorem numG_find (x:BitVec 64) : ∀ (dl:List (BitVec 64)) (i:Nat),findD (numG i dl) (.u64 x)=some (if x∈dl then some (.int .i64 ((i+dl.idxOf x:Nat):Int)) else none)
 | [],i=>by simp [numG,findD]
 | y::r,i=>by
  have ih:=numG_find x r (i+1)
  show (match D.eqk (.u64 x) (.u64 y) with
   | some true=>some (some (D.int .i64 (i:Int)))
   | some false=>findD (numG (i+1) r) (.u64 x)
   | none=>none)=_
  show (match some (decide (x=y)) with
   | some true=>some (some (D.int .i64 (i:Int)))
   | some false=>findD (numG (i+1) r) (.u64 x)
   | none=>none)=_
  by_cases e:x=y
  ·subst e;simp
  ·rw [decide_eq_false e]
   show findD (numG (i+1) r) (.u64 x)=_
   rw [ih,List.idxOf_cons]
   have:(y==x)=false:=by simp [Ne.symm e]
   rw [this]
   by_cases hm:x∈r
   ·rw [if_pos hm,if_pos (List.mem_cons_of_mem _ hm)]
    show some (some (D.int .i64 _))=some (some (D.int .i64 _))
    congr 4
    simp only [cond_false]
    omega
   ·rw [if_neg hm,if_neg (by simp [e,hm])]
theorem bit_shl (s:BitVec 64) (k m:Nat):(s >>> k&&&(1:BitVec 64)) <<< m=if s.getLsbD k=true then 1#64 <<< m else 0#64:=by
 by_cases h:s.getLsbD k=true
 ·rw [if_pos h,show s >>> k&&&(1:BitVec 64)=1#64 from (bit_one s k).2 h]
 ·rw [if_neg h,show s >>> k&&&(1:BitVec 64)=0#64 from (bit_zero s k).2 (by simpa using h)];simp
theorem blk_step {q:Nat→Nat} {s:BitVec 64} {k:Nat} : blkK q s k|||(s >>> k&&&(1:BitVec 64)) <<< q k=blkK q s (k+1):=by
 rw [bit_shl,blkK_succ]
 split<;>simp
theorem fn_met {n:Nat} {q:Nat→Nat} (hq:Cano n q) (hn:n≤64) (s:BitVec 64) (dl:List (BitVec 64)) (hdl:dl.length≤64):Fn Tryz.prog T f_plausbisim_finer_1 [.d (.u64 s),.ptr 0 0,.ptr 1 0] [.box [.d (dI (ptL n q))],.box [.map 2],.map (numG 0 dl)]
  (.d (.int .i64 (((addN dl (blkK q s n)).idxOf (blkK q s n):Nat):Int))) [some (.box [.d (dI (ptL n q))]),some (.box [.map 2]),some (.map (numG 0 (addN dl (blkK q s n))))]:=by
 refine fn_introR hmix k_plausbisim_finer_1 (by show 3≤41;decide) _ (fun e env mem n h=>h) ?_
 (repeat' ((conv=>whnf);first|refine vA ?_|refine vB fun b hb=>?_|refine vC (fun hl=>?_) fun i kv vv hi=>?_|refine vE ?_|refine vG ?_|refine vH ?_|((first|refine vD ?_ ?_|refine vF ?_ ?_|refine vI ?_ ?_)<;>intro hc<;>try simp only [vL] at hc)|refine vJ fun hg=>?_|refine vK fun hg=>?_|refine vT ?_|refine vN ‹_› ?_|(refine vQ ?_ fun x hx=>?_;·first|omega|(simp only [vM] at *;omega))|((first|refine vO ?_ ?_|refine vR ?_ ‹_› ?_|refine vS ?_ fun x hx=>?_|refine vP ?_ ?_);·first|omega|(simp only [vM] at *;omega))|refine vW ⟨by omega,by omega⟩ ?_|(refine vU ?_ ?_;·kernel_rfl)|refine vX ?_|refine vY ?_|refine vZ ?_|refine FindS.mk _ ‹_› ?_|refine vP (show (_:BitVec 64)≠_ by decide) ?_));all_goals try conv=>whnf
 refine loop_mem (fun ((k,o):Nat×BitVec 64)=>[(0,.d (.u64 (s))),(1,.ptr 0 0),(2,.ptr 1 0),(5,.d (.u64 (o))),(10,.d (dI (ptL n q))),(11,.d (.int .i64 (((ptL n q).map (D.int .i64)).length:Int))),(12,.d (.int .i64 ((k:Int)))),(1000000,.ptr 0 0),(1000001,.ptr 1 0),(1000002,.map 2)]) (fun ((k,o):Nat×BitVec 64)=>[(0,some (.box [.d (dI (ptL n q))])),(1,some (.box [.map 2])),(2,some (.map (numG 0 dl)))]) 3 (fun ((k,o):Nat×BitVec 64)=>k≤n∧o=blkK q s k) (fun ((k,o):Nat×BitVec 64)=>n - k) ((0,0#64)) [(0,0),(1,1),(2,2)] [] (⟨by simp,rfl⟩) (by (refine ⟨rfl,rfl,rfl,?_,?_⟩;repeat' first|exact trivial|exact rfl|exact ⟨_,rfl⟩|exact .inl rfl|exact .inr (.inl ⟨rfl,rfl⟩)|exact .inr (.inr ⟨rfl,rfl⟩)|refine And.intro ?_ ?_|refine ⟨_,rfl,?_⟩|decide|exact of_decide_eq_true rfl)) ?_
 rintro ⟨k,o⟩ ⟨hk,hI⟩
 have hpl:=ptL_len (n:=n) (q:=q)
 by_cases hkl:k < n
 ·have e1:(ptL n q)[k]? = some ((q k:Nat):Int):=ptL_at hkl
  have b1:=hq.le k hkl
  (repeat' ((conv=>whnf);first|refine vA ?_|refine vB fun b hb=>?_|refine vC (fun hl=>?_) fun i kv vv hi=>?_|refine vE ?_|refine vG ?_|refine vH ?_|((first|refine vD ?_ ?_|refine vF ?_ ?_|refine vI ?_ ?_)<;>intro hc<;>try simp only [vL] at hc)|refine vJ fun hg=>?_|refine vK fun hg=>?_|refine vT ?_|refine vN ‹_› ?_|(refine vQ ?_ fun x hx=>?_;·first|omega|(simp only [vM] at *;omega))|((first|refine vO ?_ ?_|refine vR ?_ ‹_› ?_|refine vS ?_ fun x hx=>?_|refine vP ?_ ?_);·first|omega|(simp only [vM] at *;omega))|refine vW ⟨by omega,by omega⟩ ?_|(refine vU ?_ ?_;·kernel_rfl)|refine vX ?_|refine vY ?_|refine vZ ?_|refine FindS.mk _ ‹_› ?_|refine vP (show (_:BitVec 64)≠_ by decide) ?_));all_goals try conv=>whnf
  ·refine ⟨(k+1,_),[(0,0),(1,1),(2,2)],[],?_,?_,by (refine ⟨rfl,rfl,rfl,?_,?_⟩;repeat' first|exact trivial|exact rfl|exact ⟨_,rfl⟩|exact .inl rfl|exact .inr (.inl ⟨rfl,rfl⟩)|exact .inr (.inr ⟨rfl,rfl⟩)|refine And.intro ?_ ?_|refine ⟨_,rfl,?_⟩|decide|exact of_decide_eq_true rfl)⟩
   ·refine ⟨by (first|omega|(simp only [vM] at *;omega)),?_⟩
    rw [hI];exact blk_step
   ·(first|omega|(simp only [vM] at *;omega))
  ·omega
 ·have e0:k=n:=by omega
  subst e0
  subst hI
  have hfd:=numG_find (blkK q s k) dl 0
  by_cases hm:blkK q s k∈dl
  ·rw [if_pos hm,Nat.zero_add] at hfd
   have ea:addN dl (blkK q s k)=dl:=if_pos hm
   rw [ea]
   (repeat' ((conv=>whnf);first|refine vA ?_|refine vB fun b hb=>?_|refine vC (fun hl=>?_) fun i kv vv hi=>?_|refine vE ?_|refine vG ?_|refine vH ?_|((first|refine vD ?_ ?_|refine vF ?_ ?_|refine vI ?_ ?_)<;>intro hc<;>try simp only [vL] at hc)|refine vJ fun hg=>?_|refine vK fun hg=>?_|refine vT ?_|refine vN ‹_› ?_|(refine vQ ?_ fun x hx=>?_;·first|omega|(simp only [vM] at *;omega))|((first|refine vO ?_ ?_|refine vR ?_ ‹_› ?_|refine vS ?_ fun x hx=>?_|refine vP ?_ ?_);·first|omega|(simp only [vM] at *;omega))|refine vW ⟨by omega,by omega⟩ ?_|(refine vU ?_ ?_;·kernel_rfl)|refine vX ?_|refine vY ?_|refine vZ ?_|refine FindS.mk _ ‹_› ?_|refine vP (show (_:BitVec 64)≠_ by decide) ?_));all_goals try conv=>whnf
   ·omega
   ·refine ⟨trivial,_,[(0,0),(1,1),(2,2)],[],rfl,.inl (by (repeat' first|exact trivial|exact rfl|exact ⟨_,rfl⟩|exact .inl rfl|exact .inr (.inl ⟨rfl,rfl⟩)|exact .inr (.inr ⟨rfl,rfl⟩)|refine And.intro ?_ ?_|refine ⟨_,rfl,?_⟩|decide|exact of_decide_eq_true rfl)),⟨by rfl,by rfl,by rfl,trivial,by (repeat' first|exact trivial|exact rfl|exact ⟨_,rfl⟩|exact .inl rfl|exact .inr (.inl ⟨rfl,rfl⟩)|exact .inr (.inr ⟨rfl,rfl⟩)|refine And.intro ?_ ?_|refine ⟨_,rfl,?_⟩|decide|exact of_decide_eq_true rfl)⟩,by (repeat' first|exact trivial|exact rfl|exact ⟨_,rfl⟩|exact .inl rfl|exact .inr (.inl ⟨rfl,rfl⟩)|exact .inr (.inr ⟨rfl,rfl⟩)|refine And.intro ?_ ?_|refine ⟨_,rfl,?_⟩|decide|exact of_decide_eq_true rfl)⟩
  ·rw [if_neg hm] at hfd
   have ea:addN dl (blkK q s k)=dl++[blkK q s k]:=if_neg hm
   have eb:numG 0 (dl++[blkK q s k])=numG 0 dl++[(.u64 (blkK q s k),.int .i64 ((numG 0 dl).length:Int))]:=by rw [numG_append,numG_len,Nat.zero_add]
   have ec:(dl++[blkK q s k]).idxOf (blkK q s k)=(numG 0 dl).length:=by rw [numG_len,List.idxOf_append,if_neg hm];simp
   have hfn:findD (numG 0 dl++[(.u64 (blkK q s k),.int .i64 ((numG 0 dl).length:Int))]) (.u64 (blkK q s k))=some (some (.int .i64 ((numG 0 dl).length:Int))):=by rw [findD_append _ _ _ hfd];simp [findD,D.eqk,D.same]
   rw [ea,eb,ec]
   (repeat' ((conv=>whnf);first|refine vA ?_|refine vB fun b hb=>?_|refine vC (fun hl=>?_) fun i kv vv hi=>?_|refine vE ?_|refine vG ?_|refine vH ?_|((first|refine vD ?_ ?_|refine vF ?_ ?_|refine vI ?_ ?_)<;>intro hc<;>try simp only [vL] at hc)|refine vJ fun hg=>?_|refine vK fun hg=>?_|refine vT ?_|refine vN ‹_› ?_|(refine vQ ?_ fun x hx=>?_;·first|omega|(simp only [vM] at *;omega))|((first|refine vO ?_ ?_|refine vR ?_ ‹_› ?_|refine vS ?_ fun x hx=>?_|refine vP ?_ ?_);·first|omega|(simp only [vM] at *;omega))|refine vW ⟨by omega,by omega⟩ ?_|(refine vU ?_ ?_;·kernel_rfl)|refine vX ?_|refine vY ?_|refine vZ ?_|refine FindS.mk _ ‹_› ?_|refine vP (show (_:BitVec 64)≠_ by decide) ?_));all_goals try conv=>whnf
   ·omega
   ·refine ⟨trivial,_,[(0,0),(1,1),(2,2)],[],rfl,.inl (by (repeat' first|exact trivial|exact rfl|exact ⟨_,rfl⟩|exact .inl rfl|exact .inr (.inl ⟨rfl,rfl⟩)|exact .inr (.inr ⟨rfl,rfl⟩)|refine And.intro ?_ ?_|refine ⟨_,rfl,?_⟩|decide|exact of_decide_eq_true rfl)),⟨by rfl,by rfl,by rfl,trivial,by (repeat' first|exact trivial|exact rfl|exact ⟨_,rfl⟩|exact .inl rfl|exact .inr (.inl ⟨rfl,rfl⟩)|exact .inr (.inr ⟨rfl,rfl⟩)|refine And.intro ?_ ?_|refine ⟨_,rfl,?_⟩|decide|exact of_decide_eq_true rfl)⟩,by (repeat' first|exact trivial|exact rfl|exact ⟨_,rfl⟩|exact .inl rfl|exact .inr (.inl ⟨rfl,rfl⟩)|exact .inr (.inr ⟨rfl,rfl⟩)|refine And.intro ?_ ?_|refine ⟨_,rfl,?_⟩|decide|exact of_decide_eq_true rfl)⟩
end Go.Ab
namespace Go.Ab
open Go Go.Proofs
set_option linter.unusedSimpArgs false
set_option linter.unusedVariables false
set_option maxRecDepth 10000
set_option maxHeartbeats 4000000
variable {T:Nat→Obj→Prop}
def numL (bl:Nat→BitVec 64) (k:Nat):List (BitVec 64):=(List.range k).foldl (fun l w=>addN l (bl w)) []
theorem numL_succ (bl:Nat→BitVec 64) (k:Nat):numL bl (k+1)=addN (numL bl k) (bl k):=by
 unfold numL;rw [List.range_succ,List.foldl_append];rfl
theorem addN_pre (l:List (BitVec 64)) (x:BitVec 64):(∃ t,addN l x=l++t)∧x∈addN l x∧(addN l x).length≤l.length+1:=by
 unfold addN
 split
 ·rename_i h;exact ⟨⟨[],by simp⟩,h,by omega⟩
 ·exact ⟨⟨[x],rfl⟩,by simp,by simp⟩
theorem numL_len (bl:Nat→BitVec 64) : ∀ k,(numL bl k).length≤k
 | 0=>by simp [numL]
 | k+1=>by
  rw [numL_succ]
  have:=(addN_pre (numL bl k) (bl k)).2.2
  have:=numL_len bl k
  omega
theorem numL_pre (bl:Nat→BitVec 64) {k:Nat} : ∀ m,k≤m → ∃ t,numL bl m=numL bl k++t
 | 0,h=>⟨[],by have:k=0:=Nat.le_zero.1 h;subst this;simp⟩
 | m+1,h=>by
  by_cases e:k=m+1
  ·exact ⟨[],by rw [e];simp⟩
  ·obtain ⟨t,ht⟩:=numL_pre bl (k:=k) m (by omega)
   obtain ⟨⟨t',ht'⟩,-⟩:=addN_pre (numL bl m) (bl m)
   exact ⟨t++t',by rw [numL_succ,ht',ht];simp⟩
def keyN (bl:Nat→BitVec 64) (w:Nat):Nat:=(numL bl (w+1)).idxOf (bl w)
theorem keyN_eq (bl:Nat→BitVec 64) {w m:Nat} (h:w < m):keyN bl w=(numL bl m).idxOf (bl w)∧bl w∈numL bl m:=by
 obtain ⟨t,ht⟩:=numL_pre bl (k:=w+1) m (by omega)
 have hm:bl w∈numL bl (w+1):=by rw [numL_succ];exact (addN_pre _ _).2.1
 rw [ht]
 exact ⟨by rw [List.idxOf_append,if_pos hm];rfl,List.mem_append_left _ hm⟩
theorem keyN_iff (bl:Nat→BitVec 64) {v w n:Nat} (hv:v < n) (hw:w < n):keyN bl v=keyN bl w↔bl v=bl w:=by
 obtain ⟨h1,m1⟩:=keyN_eq bl hv
 obtain ⟨h2,m2⟩:=keyN_eq bl hw
 rw [h1,h2]
 constructor
 ·intro h
  have g1:=List.getElem_idxOf (List.idxOf_lt_length_of_mem m1)
  have g2:=List.getElem_idxOf (List.idxOf_lt_length_of_mem m2)
  rw [← g1,← g2]
  congr 1
 ·intro h;rw [h]
theorem sameB_nil (n:Nat) (q:Nat→Nat):sameB n [] q=keyE q:=by
 funext v w;simp [sameB,keyE]
theorem same_step {n i:Nat} {rels:List (Nat→BitVec 64)} {q:Nat→Nat} {r:Nat→BitVec 64} (hr:rels[i]? = some r) {w:Nat} (hw:w < n) :
  lowE (pairE (ptL n (lowE (sameB n (rels.take i) q))) (ptL n (keyN fun w=>blkK q (r w) n))) w=lowE (sameB n (rels.take (i+1)) q) w:=by
 refine lw_congr fun v hv=>?_
 have h1:at0 (ptL n (lowE (sameB n (rels.take i) q))) v=((lowE (sameB n (rels.take i) q) v:Nat):Int):=at0_of (ptL_at (by omega))
 have h2:at0 (ptL n (lowE (sameB n (rels.take i) q))) w=((lowE (sameB n (rels.take i) q) w:Nat):Int):=at0_of (ptL_at hw)
 have h3:at0 (ptL n (keyN fun w=>blkK q (r w) n)) v=((keyN (fun w=>blkK q (r w) n) v:Nat):Int):=at0_of (ptL_at (by omega))
 have h4:at0 (ptL n (keyN fun w=>blkK q (r w) n)) w=((keyN (fun w=>blkK q (r w) n) w:Nat):Int):=at0_of (ptL_at hw)
 unfold pairE
 rw [h1,h2,h3,h4]
 have e1:=lw_iff (sameB_eqv n (rels.take i) q) (v:=v) (w:=w)
 have e2:=keyN_iff (fun w=>blkK q (r w) n) (v:=v) (w:=w) (n:=n) (by omega) hw
 rw [Bool.eq_iff_iff,decide_eq_true_eq]
 rw [show (((lowE (sameB n (rels.take i) q) v:Nat):Int)=((lowE (sameB n (rels.take i) q) w:Nat):Int))↔sameB n (rels.take i) q v w=true from by rw [← e1];omega]
 rw [show (((keyN (fun w=>blkK q (r w) n) v:Nat):Int)=((keyN (fun w=>blkK q (r w) n) w:Nat):Int))↔blkK q (r v) n=blkK q (r w) n from by rw [← e2];omega]
 unfold sameB
 rw [List.take_add_one,hr]
 simp [and_assoc]
theorem weakL_rows (p:PM) (a:Nat):weakL p a=(List.range p.W.toNat).map (wkB p a):=by
 have e : ∀ w,w < p.W.toNat→wkB p a w=weakRow (rowAt p.cell a) (rowAt p.rank a) w p.W.toNat:=fun w hw=>by
  unfold wkB uAt weakL
  rw [List.getD,List.getElem?_map,List.getElem?_range hw];rfl
 exact (map_range_congr e).symm
def relsF (p:PM) (a:Nat):List (Nat→BitVec 64):=((List.range p.cell.length).drop a).flatMap fun (a:Nat)=>[fun (w:Nat)=>cellL p (a:Int) (w:Int),fun w=>wkB p a w]
theorem relsF_step {p:PM} {a:Nat} (ha:a < p.cell.length):relsF p a=(fun (w:Nat)=>cellL p (a:Int) (w:Int))::(fun w=>wkB p a w)::relsF p (a+1):=by
 unfold relsF
 rw [List.drop_eq_getElem_cons (by simpa using ha),List.flatMap_cons]
 simp
theorem relsF_end {p:PM} {a:Nat} (ha:p.cell.length≤a):relsF p a=[]:=by
 unfold relsF
 rw [List.drop_eq_nil_of_le (by simpa using ha)];rfl
theorem linkF_at {p:PM} : ∀ (k a:Nat),p.cell.length - a=k→(linksF p a).length=(relsF p a).length ∧ ∀ {i:Nat} {x:List D},(linksF p a)[i]? = some x → ∃ (ag:Nat) (b:Bool) (r:Nat→BitVec 64),x=linkD ag b ((List.range p.W.toNat).map r)∧(relsF p a)[i]? = some r
 | 0,a,h=>by
  rw [linksF_end (p:=p) (a:=a) (by omega),relsF_end (p:=p) (a:=a) (by omega)]
  exact ⟨rfl,fun {i x} h=>by simp at h⟩
 | k+1,a,h=>by
  obtain ⟨h1,h2⟩:=linkF_at (p:=p) k (a+1) (by omega)
  rw [linksF_step (p:=p) (a:=a) (by omega),relsF_step (p:=p) (a:=a) (by omega)]
  refine ⟨by simp [h1],fun {i x} hx=>?_⟩
  match i,hx with
  | 0,hx=>exact ⟨a,false,_,(Option.some.inj hx).symm,rfl⟩
  | 1,hx=>exact ⟨a,true,_,by rw [← weakL_rows];exact (Option.some.inj hx).symm,rfl⟩
  | i+2,hx=>exact h2 hx
theorem link_at {p:PM} {i:Nat} {x:List D} (h:(linksF p 0)[i]? = some x) : ∃ (a:Nat) (b:Bool) (r:Nat→BitVec 64),x=linkD a b ((List.range p.W.toNat).map r)∧(relsP p)[i]? = some r:=(linkF_at (p:=p) p.cell.length 0 (by omega)).2 h
theorem links_len (p:PM):(linksF p 0).length=(relsP p).length:=(linkF_at (p:=p) p.cell.length 0 (by omega)).1
theorem fn_finer (hR:RanksOk T) (p:PM) (hp:IntsOk p.rank) (hc0:checkL p=0) {q:Nat→Nat} (hq:Cano p.W.toNat q):Fn Tryz.prog T f_plausbisim_finer [.d (dPM p),.d (dI (ptL p.W.toNat q))] [] (.d (dI (ptL p.W.toNat (stepB p.W.toNat (relsP p) q)))) []:=by
 have hg:=checkL_good hc0
 have w1:=hg.w1
 have w2:=hg.w2
 have h64:=W64 hc0
 have hpl:=ptL_len (n:=p.W.toNat) (q:=q)
 refine fn_dataR hmix k_plausbisim_finer (by show 2≤43;decide) ?_
 (repeat' ((conv=>whnf);first|refine vA ?_|refine vB fun b hb=>?_|refine vC (fun hl=>?_) fun i kv vv hi=>?_|refine vE ?_|refine vG ?_|refine vH ?_|((first|refine vD ?_ ?_|refine vF ?_ ?_|refine vI ?_ ?_)<;>intro hc<;>try simp only [vL] at hc)|refine vJ fun hg=>?_|refine vK fun hg=>?_|refine vT ?_|refine vN ‹_› ?_|(refine vQ ?_ fun x hx=>?_;·first|omega|(simp only [vM] at *;omega))|((first|refine vO ?_ ?_|refine vR ?_ ‹_› ?_|refine vS ?_ fun x hx=>?_|refine vP ?_ ?_);·first|omega|(simp only [vM] at *;omega))|refine vW ⟨by omega,by omega⟩ ?_|(refine vU ?_ ?_;·kernel_rfl)|refine vX ?_|refine vY ?_|refine vZ ?_|refine FindS.mk _ ‹_› ?_|refine vP (show (_:BitVec 64)≠_ by decide) ?_));all_goals try conv=>whnf
 refine CallS.res (fn_plinks p) (by (repeat refine ⟨⟨rfl,rfl⟩,?_⟩);rfl) ?_
 (repeat' ((conv=>whnf);first|refine vA ?_|refine vB fun b hb=>?_|refine vC (fun hl=>?_) fun i kv vv hi=>?_|refine vE ?_|refine vG ?_|refine vH ?_|((first|refine vD ?_ ?_|refine vF ?_ ?_|refine vI ?_ ?_)<;>intro hc<;>try simp only [vL] at hc)|refine vJ fun hg=>?_|refine vK fun hg=>?_|refine vT ?_|refine vN ‹_› ?_|(refine vQ ?_ fun x hx=>?_;·first|omega|(simp only [vM] at *;omega))|((first|refine vO ?_ ?_|refine vR ?_ ‹_› ?_|refine vS ?_ fun x hx=>?_|refine vP ?_ ?_);·first|omega|(simp only [vM] at *;omega))|refine vW ⟨by omega,by omega⟩ ?_|(refine vU ?_ ?_;·kernel_rfl)|refine vX ?_|refine vY ?_|refine vZ ?_|refine FindS.mk _ ‹_› ?_|refine vP (show (_:BitVec 64)≠_ by decide) ?_));all_goals try conv=>whnf
 refine rng_intro (it_links hR p hp hc0) [3] [] (by first|((repeat refine ⟨⟨rfl,rfl⟩,?_⟩);rfl)|(repeat' first|exact trivial|exact rfl|exact ⟨_,rfl⟩|exact .inl rfl|exact .inr (.inl ⟨rfl,rfl⟩)|exact .inr (.inr ⟨rfl,rfl⟩)|refine And.intro ?_ ?_|refine ⟨_,rfl,?_⟩|decide|exact of_decide_eq_true rfl)) (by (repeat' first|exact trivial|exact rfl|exact ⟨_,rfl⟩|exact .inl rfl|exact .inr (.inl ⟨rfl,rfl⟩)|exact .inr (.inr ⟨rfl,rfl⟩)|refine And.intro ?_ ?_|refine ⟨_,rfl,?_⟩|decide|exact of_decide_eq_true rfl)) (by rfl) (by rfl) [(3,.ptr 0 0),(5,.ptr 1 0)] (fun (a:List Int)=>[(0,some (.box [.d (dI (ptL p.W.toNat q))])),(1,some (.box [.d (dI a)]))]) 2 (fun i (a:List Int)=>a=ptL p.W.toNat (lowE (sameB p.W.toNat ((relsP p).take i) q))) (ptL p.W.toNat q) [(0,1),(1,2)] [] (ptL_congr fun w hw=>by rw [List.take_zero,sameB_nil];exact (canon_lw hq hw).symm) (by (refine ⟨rfl,rfl,rfl,?_,?_⟩;repeat' first|exact trivial|exact rfl|exact ⟨_,rfl⟩|exact .inl rfl|exact .inr (.inl ⟨rfl,rfl⟩)|exact .inr (.inr ⟨rfl,rfl⟩)|refine And.intro ?_ ?_|refine ⟨_,rfl,?_⟩|decide|exact of_decide_eq_true rfl)) ?_ ?_
 ·intro i x a hx ha
  obtain ⟨ag,bo,r,rfl,hr⟩:=link_at hx
  subst ha
  refine ⟨rfl,?_⟩
  obtain ⟨bl,hbl⟩ : ∃ bl:Nat→BitVec 64,bl=fun w=>blkK q (r w) p.W.toNat:=⟨_,rfl⟩
  (repeat' ((conv=>whnf);first|refine vA ?_|refine vB fun b hb=>?_|refine vC (fun hl=>?_) fun i kv vv hi=>?_|refine vE ?_|refine vG ?_|refine vH ?_|((first|refine vD ?_ ?_|refine vF ?_ ?_|refine vI ?_ ?_)<;>intro hc<;>try simp only [vL] at hc)|refine vJ fun hg=>?_|refine vK fun hg=>?_|refine vT ?_|refine vN ‹_› ?_|(refine vQ ?_ fun x hx=>?_;·first|omega|(simp only [vM] at *;omega))|((first|refine vO ?_ ?_|refine vR ?_ ‹_› ?_|refine vS ?_ fun x hx=>?_|refine vP ?_ ?_);·first|omega|(simp only [vM] at *;omega))|refine vW ⟨by omega,by omega⟩ ?_|(refine vU ?_ ?_;·kernel_rfl)|refine vX ?_|refine vY ?_|refine vZ ?_|refine FindS.mk _ ‹_› ?_|refine vP (show (_:BitVec 64)≠_ by decide) ?_));all_goals try conv=>whnf
  refine loop_mem (fun ((w,dl,zs):Nat×List (BitVec 64)×List D)=>[(3,.ptr 0 0),(5,.ptr 1 0),(6,.ptr 2 0),(8,.fn f_plausbisim_finer_1 [.ptr 0 0,.ptr 4 0]),(9,.own 5),(21,.d (.int .i64 ((List.replicate (((ptL p.W.toNat q).map (D.int .i64)).length:Int).toNat (D.int .i64 0)).length:Int))),(22,.d (.int .i64 ((w:Int)))),(1000003,.ptr 0 0),(1000005,.ptr 1 0)]) (fun ((w,dl,zs):Nat×List (BitVec 64)×List D)=>[(0,some (.box [.d (dI (ptL p.W.toNat q))])),(1,some (.box [.d (dI (ptL p.W.toNat (lowE (sameB p.W.toNat ((relsP p).take i) q))))])),(2,some (.box [.d (.int .i64 (ag:Int)),.d (.bool bo),.d (dU ((List.range p.W.toNat).map r))])),(3,some (.map (numG 0 dl))),(4,some (.box [.map 3])),(5,some (.row 1 zs))]) 6 (fun ((w,dl,zs):Nat×List (BitVec 64)×List D)=>w≤p.W.toNat∧dl=numL bl w∧zs=(List.range p.W.toNat).map fun u=>D.int .i64 (if u < w then (keyN bl u:Int) else 0)) (fun ((w,dl,zs):Nat×List (BitVec 64)×List D)=>p.W.toNat - w) ((0,[],_)) [(0,0),(1,1),(2,2),(3,3),(4,4),(5,5)] [] (⟨by simp,rfl,by simp only [Nat.not_lt_zero,if_false];rw [List.length_map,Int.toNat_natCast,ptL_len];exact replicate_range _ _⟩) (by (refine ⟨rfl,rfl,rfl,?_,?_⟩;repeat' first|exact trivial|exact rfl|exact ⟨_,rfl⟩|exact .inl rfl|exact .inr (.inl ⟨rfl,rfl⟩)|exact .inr (.inr ⟨rfl,rfl⟩)|refine And.intro ?_ ?_|refine ⟨_,rfl,?_⟩|decide|exact of_decide_eq_true rfl)) ?_
  rintro ⟨w,dl,zs⟩ ⟨hw,hdl,hz⟩
  have hzl:zs.length=p.W.toNat:=by rw [hz];simp
  by_cases hwl:w < p.W.toNat
  ·have er:((List.range p.W.toNat).map r)[w]? = some (r w):=by rw [List.getElem?_map,List.getElem?_range hwl];rfl
   have hdl64:dl.length≤64:=by rw [hdl];have:=numL_len bl w;omega
   (repeat' ((conv=>whnf);first|refine vA ?_|refine vB fun b hb=>?_|refine vC (fun hl=>?_) fun i kv vv hi=>?_|refine vE ?_|refine vG ?_|refine vH ?_|((first|refine vD ?_ ?_|refine vF ?_ ?_|refine vI ?_ ?_)<;>intro hc<;>try simp only [vL] at hc)|refine vJ fun hg=>?_|refine vK fun hg=>?_|refine vT ?_|refine vN ‹_› ?_|(refine vQ ?_ fun x hx=>?_;·first|omega|(simp only [vM] at *;omega))|((first|refine vO ?_ ?_|refine vR ?_ ‹_› ?_|refine vS ?_ fun x hx=>?_|refine vP ?_ ?_);·first|omega|(simp only [vM] at *;omega))|refine vW ⟨by omega,by omega⟩ ?_|(refine vU ?_ ?_;·kernel_rfl)|refine vX ?_|refine vY ?_|refine vZ ?_|refine FindS.mk _ ‹_› ?_|refine vP (show (_:BitVec 64)≠_ by decide) ?_));all_goals try conv=>whnf
   ·refine CallS.objs [0,4,3] (fn_met hq h64 (r w) dl hdl64) (by (repeat' first|exact trivial|exact rfl|exact ⟨_,rfl⟩|exact .inl rfl|exact .inr (.inl ⟨rfl,rfl⟩)|exact .inr (.inr ⟨rfl,rfl⟩)|refine And.intro ?_ ?_|refine ⟨_,rfl,?_⟩|decide|exact of_decide_eq_true rfl)) (by (repeat' first|exact trivial|exact rfl|exact ⟨_,rfl⟩|exact .inl rfl|exact .inr (.inl ⟨rfl,rfl⟩)|exact .inr (.inr ⟨rfl,rfl⟩)|refine And.intro ?_ ?_|refine ⟨_,rfl,?_⟩|decide|exact of_decide_eq_true rfl)) (by rfl) (by rfl) (by simp) ?_
    (repeat' ((conv=>whnf);first|refine vA ?_|refine vB fun b hb=>?_|refine vC (fun hl=>?_) fun i kv vv hi=>?_|refine vE ?_|refine vG ?_|refine vH ?_|((first|refine vD ?_ ?_|refine vF ?_ ?_|refine vI ?_ ?_)<;>intro hc<;>try simp only [vL] at hc)|refine vJ fun hg=>?_|refine vK fun hg=>?_|refine vT ?_|refine vN ‹_› ?_|(refine vQ ?_ fun x hx=>?_;·first|omega|(simp only [vM] at *;omega))|((first|refine vO ?_ ?_|refine vR ?_ ‹_› ?_|refine vS ?_ fun x hx=>?_|refine vP ?_ ?_);·first|omega|(simp only [vM] at *;omega))|refine vW ⟨by omega,by omega⟩ ?_|(refine vU ?_ ?_;·kernel_rfl)|refine vX ?_|refine vY ?_|refine vZ ?_|refine FindS.mk _ ‹_› ?_|refine vP (show (_:BitVec 64)≠_ by decide) ?_));all_goals try conv=>whnf
    ·refine ⟨(w+1,addN dl (blkK q (r w) p.W.toNat),_),[(0,0),(1,1),(2,2),(3,3),(4,4),(5,5)],[],?_,?_,by (refine ⟨rfl,rfl,rfl,?_,?_⟩;repeat' first|exact trivial|exact rfl|exact ⟨_,rfl⟩|exact .inl rfl|exact .inr (.inl ⟨rfl,rfl⟩)|exact .inr (.inr ⟨rfl,rfl⟩)|refine And.intro ?_ ?_|refine ⟨_,rfl,?_⟩|decide|exact of_decide_eq_true rfl)⟩
     ·refine ⟨by (first|omega|(simp only [vM] at *;omega)),by rw [numL_succ,hdl,hbl],?_⟩
      rw [hz]
      refine (set_range _).trans (map_range_congr fun u hu=>?_)
      show (if u=w then _ else _)=_
      by_cases e:u=w
      ·subst e
       rw [if_pos rfl,if_pos (show u < u+1 by omega),keyN,numL_succ,hdl,hbl]
      ·rw [if_neg e]
       by_cases e2:u < w
       ·rw [if_pos e2,if_pos (show u < w+1 by omega)]
       ·rw [if_neg e2,if_neg (show ¬ u < w+1 by omega)]
     ·(first|omega|(simp only [vM] at *;omega))
    all_goals omega
   ·omega
  ·have e0:w=p.W.toNat:=by omega
   obtain rfl:zs=(ptL p.W.toNat (keyN bl)).map (D.int .i64):=by
    rw [hz];unfold ptL;rw [List.map_map]
    exact map_range_congr fun u hu=>by rw [if_pos (by omega)];rfl
   have cs:=fn_Split (T:=T) (lw_canon (sameB_eqv p.W.toNat ((relsP p).take i) q) p.W.toNat) h64 (ptL p.W.toNat (keyN bl)) ptL_len
   (repeat' ((conv=>whnf);first|refine vA ?_|refine vB fun b hb=>?_|refine vC (fun hl=>?_) fun i kv vv hi=>?_|refine vE ?_|refine vG ?_|refine vH ?_|((first|refine vD ?_ ?_|refine vF ?_ ?_|refine vI ?_ ?_)<;>intro hc<;>try simp only [vL] at hc)|refine vJ fun hg=>?_|refine vK fun hg=>?_|refine vT ?_|refine vN ‹_› ?_|(refine vQ ?_ fun x hx=>?_;·first|omega|(simp only [vM] at *;omega))|((first|refine vO ?_ ?_|refine vR ?_ ‹_› ?_|refine vS ?_ fun x hx=>?_|refine vP ?_ ?_);·first|omega|(simp only [vM] at *;omega))|refine vW ⟨by omega,by omega⟩ ?_|(refine vU ?_ ?_;·kernel_rfl)|refine vX ?_|refine vY ?_|refine vZ ?_|refine yN cs ⟨⟨rfl,rfl⟩,⟨rfl,rfl⟩,rfl⟩ ?_|refine FindS.mk _ ‹_› ?_|refine vP (show (_:BitVec 64)≠_ by decide) ?_));all_goals try conv=>whnf
   ·omega
   ·exact ⟨ptL p.W.toNat (lowE (pairE (ptL p.W.toNat (lowE (sameB p.W.toNat ((relsP p).take i) q))) (ptL p.W.toNat (keyN bl)))),[(0,0),(1,1)],[],ptL_congr fun u hu=>by rw [hbl];exact same_step hr hu,by (refine ⟨rfl,rfl,rfl,?_,?_⟩;repeat' first|exact trivial|exact rfl|exact ⟨_,rfl⟩|exact .inl rfl|exact .inr (.inl ⟨rfl,rfl⟩)|exact .inr (.inr ⟨rfl,rfl⟩)|refine And.intro ?_ ?_|refine ⟨_,rfl,?_⟩|decide|exact of_decide_eq_true rfl)⟩
 ·intro a ha
  (repeat' ((conv=>whnf);first|refine vA ?_|refine vB fun b hb=>?_|refine vC (fun hl=>?_) fun i kv vv hi=>?_|refine vE ?_|refine vG ?_|refine vH ?_|((first|refine vD ?_ ?_|refine vF ?_ ?_|refine vI ?_ ?_)<;>intro hc<;>try simp only [vL] at hc)|refine vJ fun hg=>?_|refine vK fun hg=>?_|refine vT ?_|refine vN ‹_› ?_|(refine vQ ?_ fun x hx=>?_;·first|omega|(simp only [vM] at *;omega))|((first|refine vO ?_ ?_|refine vR ?_ ‹_› ?_|refine vS ?_ fun x hx=>?_|refine vP ?_ ?_);·first|omega|(simp only [vM] at *;omega))|refine vW ⟨by omega,by omega⟩ ?_|(refine vU ?_ ?_;·kernel_rfl)|refine vX ?_|refine vY ?_|refine vZ ?_|refine FindS.mk _ ‹_› ?_|refine vP (show (_:BitVec 64)≠_ by decide) ?_));all_goals try conv=>whnf
  rw [links_len,List.take_length] at ha
  subst ha;rfl
end Go.Ab
namespace Go.Ab
open Go Go.Proofs
set_option linter.unusedSimpArgs false
set_option linter.unusedVariables false
set_option maxRecDepth 10000
set_option maxHeartbeats 4000000
variable {T:Nat→Obj→Prop}
theorem zero_cano (n:Nat):Cano n (fun _=>0):=⟨fun w _=>Nat.zero_le w,fun w _=>rfl⟩
theorem fact_split (p:PM) {w:Nat} (hw:w < p.W.toNat):lowE (pairE (ptL p.W.toNat fun _=>0) (factsL p)) w=factQ p w:=by
 refine lw_congr fun v hv=>?_
 have h1:at0 (ptL p.W.toNat fun _=>0) v=0:=at0_of (ptL_at (q:=fun _=>0) (by omega))
 have h2:at0 (ptL p.W.toNat fun _=>0) w=0:=at0_of (ptL_at (q:=fun _=>0) hw)
 have h3:at0 (factsL p) v=((factP p v:Nat):Int):=at0_of (ptL_at (by omega))
 have h4:at0 (factsL p) w=((factP p w:Nat):Int):=at0_of (ptL_at hw)
 unfold pairE keyE
 rw [h1,h2,h3,h4]
 rw [Bool.eq_iff_iff,decide_eq_true_eq,decide_eq_true_eq]
 omega
def StopP (p:PM) (j:Nat):Prop:=ptL p.W.toNat (rndB p (j+1))=ptL p.W.toNat (rndB p j)
instance (p:PM) (j:Nat):Decidable (StopP p j):=inferInstanceAs (Decidable (_=_))
def stopB (p:PM):Nat:=lowE (fun v _=>decide (StopP p v)) 65
theorem stopB_is {p:PM} {j:Nat} (hj:j < 65) (h:StopP p j) (hn : ∀ i,i < j → ¬StopP p i):stopB p=j:=by
 have h1:=lw_spec (fun v _=>decide (StopP p v)) 65
 rcases Nat.lt_trichotomy (stopB p) j with hl|hl|hl
 ·exfalso
  rcases h1.1 with ⟨h2,h3⟩|h2
  ·exact hn _ hl (of_decide_eq_true h3)
  ·unfold stopB at hl;omega
 ·exact hl
 ·have:=h1.2 j hl
  simp [h] at this
theorem stop_lt {p:PM} (hc0:checkL p=0) {j:Nat} (hn : ∀ i,i < j → ¬StopP p i):j≤64:=by
 have h64:=W64 hc0
 have h1:=iterB_grow (rels:=relsP p) (factQ_canon p p.W.toNat) (k:=j) (fun i hi=>by
  refine Classical.byContradiction fun hne=>hn i hi (ptL_congr fun w hw=>?_)
  exact Classical.byContradiction fun hw'=>hne ⟨w,hw,hw'⟩) j (Nat.le_refl _)
 have h2:=cntB_le p.W.toNat (iterB p.W.toNat (relsP p) (factQ p) j)
 omega
def roundsL (p:PM):List (List Int):=(List.range (stopB p+1)).map fun i=>ptL p.W.toNat (rndB p i)
theorem fn_prounds (hR:RanksOk T) (p:PM) (hp:IntsOk p.rank) (hc0:checkL p=0):Fn Tryz.prog T f_plausbisim_rounds [.d (dPM p)] [] (.d (dII (roundsL p))) []:=by
 have hg:=checkL_good hc0
 have w1:=hg.w1
 have w2:=hg.w2
 have h64:=W64 hc0
 have cs:=fn_Split (T:=T) (zero_cano p.W.toNat) h64 (factsL p) ptL_len
 rw [show dI (ptL p.W.toNat fun _=>0)=D.arr 1 (List.replicate p.W.toNat (D.int .i64 0)) by show D.arr 1 ((ptL p.W.toNat fun _=>0).map (D.int .i64))=_;unfold ptL;rw [List.map_map];exact congrArg _ (replicate_range _ _).symm,ptL_congr fun w hw=>fact_split p hw] at cs
 refine fn_dataR hmix k_plausbisim_rounds (by show 1≤30;decide) ?_
 (repeat' ((conv=>whnf);first|refine vA ?_|refine vT ?_|(refine vP ?_ ?_;·omega)|(refine vU ?_ ?_;·kernel_rfl)|refine yN (fn_pfacts p hc0) ⟨⟨rfl,rfl⟩,rfl⟩ ?_|refine yN cs ⟨⟨rfl,rfl⟩,⟨rfl,rfl⟩,rfl⟩ ?_));all_goals try conv=>whnf
 refine loop_mem (fun ((j,zs):Nat×List D)=>[(1,.ptr 0 0),(3,.d (dI (ptL p.W.toNat (rndB p j)))),(5,.own 1)]) (fun ((j,zs):Nat×List D)=>[(0,some (boxPM p)),(1,some (.row 1 zs))]) 2 (fun ((j,zs):Nat×List D)=>(∀ i,i < j → ¬StopP p i)∧zs=(List.range (j+1)).map fun i=>dI (ptL p.W.toNat (rndB p i))) (fun ((j,zs):Nat×List D)=>65 - j) ((0,[dI (ptL p.W.toNat (rndB p 0))])) [(0,0),(1,2)] [] (⟨fun i hi=>by omega,rfl⟩) (by (refine ⟨rfl,rfl,rfl,?_,?_⟩;repeat' first|exact trivial|exact rfl|refine And.intro ?_ ?_|refine ⟨_,rfl,?_⟩|decide)) ?_
 rintro ⟨j,zs⟩ ⟨hn,hz⟩
 have hj:=stop_lt hc0 hn
 have hzl:zs.length=j+1:=by rw [hz];simp
 have cf:Fn Tryz.prog T f_plausbisim_finer [.d (dPM p),.d (dI (ptL p.W.toNat (rndB p j)))] [] (.d (dI (ptL p.W.toNat (rndB p (j+1))))) []:=fn_finer hR p hp hc0 (rndB_canon p j)
 (repeat' ((conv=>whnf);refine vT ?_));all_goals try conv=>whnf
 refine CallS.dataN (cf) (by (repeat refine ⟨⟨rfl,rfl⟩,?_⟩);rfl) ?_
 (repeat' ((conv=>whnf);first|refine vA ?_|(refine vI ?_ ?_<;>intro hc)|refine vT ?_|(refine vP ?_ ?_;·(simp only [vM] at *;omega))|refine yD (fn_Equal_int _ _) ⟨⟨rfl,rfl⟩,⟨rfl,rfl⟩,rfl⟩ rfl ?_));all_goals try conv=>whnf
 ·have hs:=stopB_is (p:=p) (by omega) (by simpa [StopP] using hc) hn
  refine congrArg (fun l=>some (D.arr 1 l)) ?_
  rw [hz,roundsL,hs,List.map_map];rfl
 ·refine ⟨(j+1,_),[(0,0),(1,3)],[],?_,?_,by (refine ⟨rfl,rfl,rfl,?_,?_⟩;repeat' first|exact trivial|exact rfl|refine And.intro ?_ ?_|refine ⟨_,rfl,?_⟩|decide)⟩
  ·refine ⟨fun i hi=>?_,by rw [hz,List.range_succ (n:=j+1),List.map_append];rfl⟩
   by_cases e:i=j
   ·subst e;simpa [StopP] using hc
   ·exact hn i (by omega)
  ·((simp only [vM] at *;omega))
def RoundsL (p:PM) (n:Int):List Int×Int:=if checkL p≠0 then ([],checkL p) else if n < 0 then ([],2) else (ptL p.W.toNat (rndB p n.toNat),0)
abbrev dLI (x:List Int×Int):D := .tup [dI x.1,.int .i64 x.2]
theorem stop_ex {p:PM} (hc0:checkL p=0):stopB p≤64∧StopP p (stopB p):=by
 have h1:=lw_spec (fun v _=>decide (StopP p v)) 65
 have h2 : ∀ i,i < stopB p → ¬StopP p i:=fun i hi=>by have:=h1.2 i hi;simpa using this
 have h3:=stop_lt hc0 h2
 refine ⟨h3,?_⟩
 rcases h1.1 with ⟨h4,h5⟩|h4
 ·exact of_decide_eq_true h5
 ·unfold stopB at h3;omega
theorem rounds_at {p:PM} (hc0:checkL p=0) {n:Nat} : (roundsL p)[min n (stopB p)]? = some (ptL p.W.toNat (rndB p n)):=by
 obtain ⟨h1,h2⟩:=stop_ex hc0
 unfold roundsL
 rw [List.getElem?_map,List.getElem?_range (by omega)]
 show some (ptL p.W.toNat (rndB p (min n (stopB p))))=_
 congr 1
 by_cases h:n≤stopB p
 ·rw [show min n (stopB p)=n by omega]
 ·rw [show min n (stopB p)=stopB p by omega]
  exact (ptL_congr fun w hw=>iterB_stay (rels:=relsP p) (factQ_canon p p.W.toNat) (k:=stopB p) (fun w hw=>ptL_inj h2 hw) n (by omega) w hw).symm
theorem fn_pRounds (hR:RanksOk T) (p:PM) (hp:IntsOk p.rank) (n:Int):Fn Tryz.prog T f_plausbisim_Rounds [.d (dPM p),.d (.int .i64 n)] [] (.d (dLI (RoundsL p n))) []:=by
 refine fn_dataR hmix k_plausbisim_Rounds (by show 2≤25;decide) ?_
 by_cases hc0:checkL p=0
 ·have hlen:(roundsL p).length=stopB p+1:=by simp [roundsL]
  have hst:=(stop_ex hc0).1
  have hat:=rounds_at hc0 (n:=n.toNat)
  (repeat' ((conv=>whnf);first|refine vA ?_|((first|refine vD ?_ ?_|refine vF ?_ ?_)<;>intro hc<;>try simp only [vL] at hc)|refine vJ fun hg=>?_|refine vT ?_|((first|refine vO ?_ ?_|refine vS ?_ fun x hx=>?_);·(simp only [vM] at *;omega))|refine yD (fn_plaus_Check hR p hp) ⟨⟨rfl,rfl⟩,rfl⟩ rfl ?_|refine yN (fn_prounds hR p hp hc0) ⟨⟨rfl,rfl⟩,rfl⟩ ?_));all_goals try conv=>whnf
  ·exact absurd hc0 hc
  ·rw [RoundsL,if_neg (by omega),if_pos hc];rfl
  ·have hi:(min n (↑(List.map dI (roundsL p)).length - 1)).toNat=min n.toNat (stopB p):=by rw [List.length_map,hlen];omega
   rw [hi,hat] at hx
   injection hx with hx
   subst hx
   rw [RoundsL,if_neg (by omega),if_neg (by omega)];rfl
  all_goals skip
 ·(repeat' ((conv=>whnf);first|refine vA ?_|((first|refine vD ?_ ?_|refine vF ?_ ?_)<;>intro hc<;>try simp only [vL] at hc)|refine vT ?_|refine yD (fn_plaus_Check hR p hp) ⟨⟨rfl,rfl⟩,rfl⟩ rfl ?_));all_goals try conv=>whnf
  ·rw [RoundsL,if_pos hc];rfl
  ·exact absurd ‹checkL p=0› hc0
  ·exact absurd ‹checkL p=0› hc0
theorem fn_pCoarsest (hR:RanksOk T) (p:PM) (hp:IntsOk p.rank):Fn Tryz.prog T f_plausbisim_Coarsest [.d (dPM p)] [] (.d (dLI (RoundsL p 64))) []:=by
 refine fn_dataR hmix k_plausbisim_Coarsest (by show 1≤8;decide) ?_
 (repeat' ((conv=>whnf);first|refine vT ?_|refine yN (fn_pRounds hR p hp 64) ⟨⟨rfl,rfl⟩,⟨rfl,rfl⟩,rfl⟩ ?_));all_goals try conv=>whnf
 ·rfl
end Go.Ab
namespace Go.Ab
open Go
set_option linter.unusedVariables false
set_option linter.unusedSimpArgs false
inductive Rc (S:Nat→Prop) (R:Nat→Nat→Prop):Nat→Prop where
 | base {v:Nat} : S v→Rc S R v
 | step {v u:Nat} : Rc S R v→R v u→Rc S R u
def cnt (s:BitVec 64):Nat→Nat
 | 0=>0
 | k+1=>cnt s k+(if s.getLsbD k=true then 1 else 0)
theorem cnt_le (s:BitVec 64) : ∀ n,cnt s n≤n
 | 0=>Nat.le_refl _
 | k+1=>by
  have:=cnt_le s k
  unfold cnt;split<;>omega
theorem cnt_mono {s s':BitVec 64} (h : ∀ i,s.getLsbD i=true→s'.getLsbD i=true) : ∀ n,cnt s n≤cnt s' n
 | 0=>Nat.le_refl _
 | k+1=>by
  have h1:=cnt_mono h k
  unfold cnt
  by_cases e:s.getLsbD k=true
  ·rw [if_pos e,if_pos (h k e)];omega
  ·rw [if_neg e];split<;>omega
theorem cnt_lt {s s':BitVec 64} (h : ∀ i,s.getLsbD i=true→s'.getLsbD i=true) {u:Nat} (hu:s'.getLsbD u=true) (hn : ¬s.getLsbD u=true) : ∀ n,u < n→cnt s n < cnt s' n
 | 0,h0=>by omega
 | k+1,h0=>by
  unfold cnt
  by_cases e:u=k
  ·subst e
   have:=cnt_mono h u
   rw [if_neg hn,if_pos hu];omega
  ·have h1:=cnt_lt h hu hn k (by omega)
   by_cases e:s.getLsbD k=true
   ·rw [if_pos e,if_pos (h k e)];omega
   ·rw [if_neg e];split<;>omega
theorem cnt_full {s:BitVec 64} : ∀ n,n≤cnt s n → ∀ i,i < n→s.getLsbD i=true
 | 0,_,i,h=>by omega
 | k+1,h,i,hi=>by
  have h1:=cnt_le s k
  unfold cnt at h
  by_cases e:s.getLsbD k=true
  ·rw [if_pos e] at h
   by_cases ei:i=k
   ·subst ei;exact e
   ·exact cnt_full k (by omega) i (by omega)
  ·rw [if_neg e] at h;omega
def ClosedS (R:Nat→Nat→Prop) (s:BitVec 64):Prop := ∀ v u,s.getLsbD v=true→R v u→s.getLsbD u=true
structure RInv (S:Nat→Prop) (R:Nat→Nat→Prop) (n:Nat) (s:BitVec 64) (i:Nat):Prop where
 sound : ∀ v,s.getLsbD v=true→Rc S R v
 base : ∀ v,S v→s.getLsbD v=true
 prog:ClosedS R s∨i≤cnt s n
structure RMid (S:Nat→Prop) (R:Nat→Nat→Prop) (s0 s:BitVec 64) (v:Nat):Prop where
 sound : ∀ v,s.getLsbD v=true→Rc S R v
 old : ∀ i,s0.getLsbD i=true→s.getLsbD i=true
 done : ∀ w,w < v→s0.getLsbD w=true → ∀ u,R w u→s.getLsbD u=true
theorem RInv.mid {S:Nat→Prop} {R:Nat→Nat→Prop} {n:Nat} {s:BitVec 64} {i:Nat} (h:RInv S R n s i):RMid S R s s 0 :=
 ⟨h.sound,fun _ h=>h,fun w hw=>by omega⟩
theorem RMid.next {S:Nat→Prop} {R:Nat→Nat→Prop} {n:Nat} {s0 s:BitVec 64} {i:Nat} (hR : ∀ v u,R v u→v < n∧u < n) (h0:RInv S R n s0 i) (h:RMid S R s0 s n):RInv S R n s (i+1):=by
 refine ⟨h.sound,fun v hv=>h.old v (h0.base v hv),?_⟩
 by_cases hc:ClosedS R s0
 ·left
  have hall : ∀ v,Rc S R v→s0.getLsbD v=true:=fun v hv=>by
   induction hv with
   | base hb=>exact h0.base _ hb
   | step _ hr ih=>exact hc _ _ ih hr
  exact fun v u hv hr=>h.old u (hall u (.step (h.sound v hv) hr))
 ·right
  have : ∃ v u,s0.getLsbD v=true∧R v u ∧ ¬s0.getLsbD u=true:=Classical.byContradiction fun hn=>hc fun v u hv hr=>Classical.byContradiction fun hu=>hn ⟨v,u,hv,hr,hu⟩
  obtain ⟨v,u,hv,hr,hu⟩:=this
  have hlt:=hR v u hr
  have h1:=cnt_lt h.old (h.done v hlt.1 hv u hr) hu n hlt.2
  rcases h0.prog with h2|h2
  ·exact absurd h2 hc
  ·omega
theorem RInv.all {S:Nat→Prop} {R:Nat→Nat→Prop} {n:Nat} {s:BitVec 64} (hR : ∀ v u,R v u→v < n∧u < n) (h:RInv S R n s n) (v:Nat):s.getLsbD v=true↔Rc S R v:=by
 refine ⟨h.sound v,fun hv=>?_⟩
 have hc:ClosedS R s:=h.prog.elim id fun hp v u _ hr=>cnt_full n hp u (hR v u hr).2
 induction hv with
 | base hb=>exact h.base _ hb
 | step _ hr ih=>exact hc _ _ ih hr
end Go.Ab
namespace Go.Ab
open Go Go.Proofs
set_option linter.unusedSimpArgs false
set_option linter.unusedVariables false
set_option maxRecDepth 10000
set_option maxHeartbeats 4000000
variable {T:Nat→Obj→Prop}
theorem bit_mod (s:BitVec 64) (n:Nat):(s >>> n) % 2#64=1#64↔s.getLsbD n=true:=by
 rw [← BitVec.toNat_inj,BitVec.toNat_umod,BitVec.toNat_ushiftRight,← BitVec.testBit_toNat,Nat.shiftRight_eq_div_pow,Nat.testBit_eq_decide_div_mod_eq,decide_eq_true_eq]
 rfl
theorem fn_has (s:BitVec 64) (k:Nat):Fn Tryz.prog T f_wittingref13_Has [.d (.u64 s),.d (.int .i64 (k:Int))] [] (.d (.bool (s.getLsbD k))) []:=by
 refine fn_dataR hmix k_wittingref13_Has (by show 2≤18;decide) ?_
 (repeat' ((conv=>whnf);first|refine vA ?_|refine vG ?_|(refine vF ?_ ?_<;>intro hc<;>try simp only [vL] at hc)|refine vT ?_|(refine vP ?_ ?_;·omega)|refine vZ ?_|refine vP (show (_:BitVec 64)≠_ by decide) ?_));all_goals try conv=>whnf
 ·show decide (s >>> k % 2#64=1#64)=_
  rw [Bool.eq_iff_iff,decide_eq_true_eq];exact bit_mod s k
 ·rw [BitVec.getLsbD_of_ge _ _ (by omega)]
theorem bit0 {x:BitVec 64} {k:Nat} (h:1&&&x.toNat >>> k=0):x.getLsbD k=false:=by
 show (1&&&x.toNat >>> k != 0)=false
 simp [h]
theorem bit1 {x:BitVec 64} {k:Nat} (h : ¬1&&&x.toNat >>> k=0):x.getLsbD k=true:=by
 show (1&&&x.toNat >>> k != 0)=true
 rw [bne_iff_ne];exact h
theorem fn_All13 (n:Int) (h:0≤n):Fn Tryz.prog T f_wittingref13_All [.d (.int .i64 n)] [] (.d (.u64 (allL n))) []:=by
 refine fn_dataR hmix k_wittingref13_All (by show 1≤8;decide) ?_
 (repeat' ((conv=>whnf);first|refine vA ?_|(refine vF ?_ ?_<;>intro hc<;>try simp only [vL] at hc)|refine vT ?_|(refine vP ?_ ?_;·omega)|refine vY ?_));all_goals try conv=>whnf
 ·rw [allL,if_pos (by omega)];rfl
 ·rw [allL,if_neg (by omega)];rfl
def boxL (rel:List (BitVec 64)) (n:Nat) (s:BitVec 64):BitVec 64:=setTo (fun w=>decide (rel.getD w 0#64 &&& ~~~s=0#64)) n
theorem getD_of {α:Type} {l:List α} {i:Nat} {x d:α} (h:l[i]? = some x):l.getD i d=x:=by simp [List.getD,h]
def boolL (op:Int) (x y all:BitVec 64):BitVec 64:=if op=1 then all else if op=4 then all &&& ~~~x else if op=5 then x&&&y else if op=6 then x|||y else if op=7 then all &&& ~~~x|||y else if op=8 then all &&& ~~~(x ^^^ y) else 0#64
def StepR (rel:List (BitVec 64)) (n:Nat) (c:BitVec 64) (v u:Nat):Prop:=v < n∧(rel.getD v 0#64&&&c).getLsbD u=true
noncomputable def pathsL (rel:List (BitVec 64)) (n w:Nat) (c:BitVec 64):BitVec 64:=setTo (fun v => @decide (Rc (StepR rel n c w) (StepR rel n c) v) (Classical.propDecidable _)) n
abbrev StepsIn (rel:List (BitVec 64)) (n:Nat):Prop := ∀ v u,v < n→(rel.getD v 0#64).getLsbD u=true→u < n
theorem StepR.lt {rel:List (BitVec 64)} {n:Nat} {c:BitVec 64} {v u:Nat} (hB:StepsIn rel n) (h:StepR rel n c v u):v < n∧u < n:=⟨h.1,hB v u h.1 (by have:=h.2;rw [BitVec.getLsbD_and,Bool.and_eq_true] at this;exact this.1)⟩
noncomputable def comL (rel:List (BitVec 64)) (n:Nat) (c s:BitVec 64):BitVec 64:=setTo (fun w=>decide (pathsL rel n w c &&& ~~~s=0#64)) n
end Go.Ab
namespace Go.Ab
open Go Go.Proofs
set_option linter.unusedSimpArgs false
set_option linter.unusedVariables false
set_option maxRecDepth 10000
set_option maxHeartbeats 4000000
variable {T:Nat→Obj→Prop}
end Go.Ab
namespace Go.Ab
open Go Go.Proofs
set_option linter.unusedSimpArgs false
set_option linter.unusedVariables false
set_option maxRecDepth 10000
set_option maxHeartbeats 4000000
variable {T:Nat→Obj→Prop}
abbrev boxNd (n:Nd):Ob := .box [.d (.int .i64 n.op),.d (.int .i64 n.i),.d (.int .i64 n.e),.d (.int .i64 n.g),.d (.int .i64 n.x),.d (.int .i64 n.y)]
def rErrB (ok fa ev ux uy ag gr:Bool) (n:Nd) (at_:Int):Int :=
 if ok=false then 10 else
 if opdOk ux n.x at_=false∨opdOk uy n.y at_=false then 3 else
 if (!(fa||ag||ev)&&decide (n.i≠0)||(!ev&&decide (n.e≠0))||(!gr&&decide (n.g≠0)))=true then 3 else
 if (outside fa n.i 0 7||outside ag n.i 0 3||outside ev n.i 0 7||outside ev n.e 0 7||outside gr n.g 1 15)=true then 2 else 0
end Go.Ab
namespace Go.Ab
open Go Go.Proofs
set_option linter.unusedSimpArgs false
set_option linter.unusedVariables false
set_option maxRecDepth 10000
set_option maxHeartbeats 4000000
variable {T:Nat→Obj→Prop}
end Go.Ab
namespace Go.Ab
open Go Go.Proofs
set_option linter.unusedSimpArgs false
set_option linter.unusedVariables false
set_option maxRecDepth 10000
set_option maxHeartbeats 4000000
variable {T:Nat→Obj→Prop}
end Go.Ab
namespace Go.Ab
open Go Go.Proofs
set_option linter.unusedSimpArgs false
set_option linter.unusedVariables false
set_option maxRecDepth 10000
set_option maxHeartbeats 4000000
set_option maxHeartbeats 40000000
variable {T:Nat→Obj→Prop}
def dA (f:List Nd) (s:FSt):List Int:=(List.range f.length).map fun i=>match s.done.lookup i with
 | some r=>(r:Int)
 | none => -1
abbrev dRow (f:List Nd) (s:FSt):List D:=(dA f s).map (D.int .i64)
end Go.Ab
namespace Go.Ab
open Go Go.Proofs
set_option linter.unusedSimpArgs false
set_option linter.unusedVariables false
set_option maxRecDepth 10000
set_option maxHeartbeats 4000000
set_option maxHeartbeats 40000000
variable {T:Nat→Obj→Prop}
abbrev rUp (f:List Nd) (s:FSt):List (Option Ob):=[some (.box [.own 3,.own 1]),some (.row 1 (dRow f s)),none,some (.row 6 (s.out.map dNd))]
abbrev rUp0 (f:List Nd) (s:FSt):List (Option Ob):=[some (.box [.own 2,.own 1]),some (.row 1 (dRow f s)),some (.row 6 (s.out.map dNd))]
end Go.Ab
namespace Go.Ab
open Go Go.Proofs
set_option linter.unusedSimpArgs false
set_option linter.unusedVariables false
set_option maxRecDepth 10000
set_option maxHeartbeats 4000000
variable {T:Nat→Obj→Prop}
end Go.Ab
namespace Go.Ab
open Go Go.Proofs
set_option linter.unusedSimpArgs false
set_option linter.unusedVariables false
set_option maxRecDepth 10000
set_option maxHeartbeats 4000000
variable {T:Nat→Obj→Prop}
theorem fn_beyond (l:List (BitVec 64)) (n:Int) (h:0≤n):Fn Tryz.prog T f_wittingref13_beyond [.d (dU l),.d (.int .i64 n)] [] (.d (.bool (l.any (bad n)))) []:=by
 refine fn_dataR hmix k_wittingref13_beyond (by show 2≤20;decide) ?_
 (repeat' ((conv=>whnf);first|refine vA ?_|refine vT ?_));all_goals try conv=>whnf
 refine loop_intro (fun (k:Nat)=>[(0,.d (dU l)),(1,.d (.int .i64 (n))),(5,.d (.int .i64 ((k:Int))))]) (fun (k:Nat)=>k≤l.length∧l.any (bad n)=(l.drop k).any (bad n)) (fun (k:Nat)=>l.length - k) (0) (⟨by simp,rfl⟩) (by (repeat' first|exact trivial|exact rfl|refine And.intro ?_ ?_)) ?_
 rintro k ⟨hk,hI⟩
 (repeat' ((conv=>whnf);first|refine vA ?_|((first|refine vD ?_ ?_|refine vF ?_ ?_)<;>intro hc<;>try simp only [vL] at hc)|refine vJ fun hg=>?_|refine vT ?_|(refine vQ ?_ fun x hx=>?_;·omega)|(refine vO ?_ ?_;·omega)|(refine vU ?_ ?_;·kernel_rfl)|refine vZ ?_|refine yD (fn_All13 n h) ⟨⟨rfl,rfl⟩,rfl⟩ rfl ?_));all_goals try conv=>whnf
 ·rw [hI,drop_cons hx,List.any_cons,show bad n x=true from decide_eq_true ‹_›];rfl
 ·exact ⟨k+1,[],[],⟨by (omega),by rw [hI,drop_cons hx,List.any_cons,show bad n x=false from decide_eq_false (by simpa using ‹x &&& ~~~allL n=0#64›)];rfl⟩,by (omega),by (refine ⟨rfl,rfl,rfl,?_,?_⟩;repeat' first|exact trivial|exact rfl|refine And.intro ?_ ?_)⟩
 ·rw [hI,List.drop_eq_nil_of_le (by omega)];rfl
def kCheckL (m:KM):Int :=
 if m.W < 1∨64 < m.W then 2 else if 4 < m.rel.length∨8 < m.val.length then 8 else if m.rel.any (fun r=>decide ((r.length:Int)≠m.W)) then 3 else if m.val.any (bad m.W) then 2 else if m.rel.any (fun r=>r.any (bad m.W)) then 2 else 0
structure GoodM (m:KM):Prop where
 w1:1≤m.W
 w2:m.W≤64
 n4:m.rel.length≤4
 v8:m.val.length≤8
 len : ∀ r∈m.rel,(r.length:Int)=m.W
 val : ∀ s∈m.val,bad m.W s=false
 rel : ∀ r∈m.rel,∀ s∈r,bad m.W s=false
theorem fn_kCheck (m:KM):Fn Tryz.prog T f_wittingref13_Check [.d (dKM m)] [] (.d (.int .i64 (kCheckL m))) []:=by
 refine fn_dataR hmix k_wittingref13_Check (by show 1≤59;decide) ?_
 (repeat' ((conv=>whnf);first|refine vA ?_|(refine vF ?_ ?_<;>intro hc<;>try simp only [vL] at hc)|refine vJ fun hg=>?_|refine vT ?_|refine vX ?_));all_goals try conv=>whnf
 ·rw [kCheckL,if_pos (by omega)]
 ·rw [kCheckL,if_pos (by omega)]
 ·rw [kCheckL,if_neg (by omega),if_pos (by omega)]
 ·rw [kCheckL,if_neg (by omega),if_pos (by omega)]
 ·have e0:kCheckL m=if m.rel.any (fun r=>decide ((r.length:Int)≠m.W)) then 3 else if m.val.any (bad m.W) then 2 else if m.rel.any (fun r=>r.any (bad m.W)) then 2 else 0:=by rw [kCheckL,if_neg (by omega),if_neg (by omega)]
  refine loop_mem (fun (k:Nat)=>[(1,.ptr 0 0),(3,.d (.int .i64 ((k:Int))))]) (fun (k:Nat)=>[(0,some (boxKM m))]) 1 (fun (k:Nat)=>k≤m.rel.length∧m.rel.any (fun r=>decide ((r.length:Int)≠m.W))=(m.rel.drop k).any (fun r=>decide ((r.length:Int)≠m.W))) (fun (k:Nat)=>m.rel.length - k) (0) [(0,0)] [] (⟨by simp,rfl⟩) (by (refine ⟨rfl,rfl,rfl,?_,?_⟩;repeat' first|exact trivial|exact rfl|refine And.intro ?_ ?_|refine ⟨_,rfl,?_⟩|decide)) ?_
  rintro k ⟨hk,hI⟩
  (repeat' ((conv=>whnf);first|refine vA ?_|((first|refine vD ?_ ?_|refine vF ?_ ?_)<;>intro hc<;>try simp only [vL] at hc)|refine vJ fun hg=>?_|refine vT ?_|(refine vQ ?_ fun x hx=>?_;·omega)|(refine vO ?_ ?_;·omega)|(refine vU ?_ ?_;·kernel_rfl)|refine vX ?_));all_goals try conv=>whnf
  ·rw [e0,if_pos (by rw [hI,drop_cons hx,List.any_cons,decide_eq_true (by simpa using ‹_›)];rfl)]
  ·exact ⟨k+1,[(0,0)],[],⟨by (omega),by rw [hI,drop_cons hx,List.any_cons,decide_eq_false (by simpa using ‹_›)];rfl⟩,by (omega),by (refine ⟨rfl,rfl,rfl,?_,?_⟩;repeat' first|exact trivial|exact rfl|refine And.intro ?_ ?_|refine ⟨_,rfl,?_⟩|decide)⟩
  ·have h1:m.rel.any (fun r=>decide ((r.length:Int)≠m.W))=false:=by rw [hI,List.drop_eq_nil_of_le (by omega)];rfl
   rw [h1,if_neg (by decide)] at e0
   (repeat' ((conv=>whnf);first|refine vA ?_|(refine vI ?_ ?_<;>intro hc)|refine vT ?_|refine vX ?_|refine yD (fn_beyond _ m.W (by omega)) ⟨⟨rfl,rfl⟩,⟨rfl,rfl⟩,rfl⟩ rfl ?_));all_goals try conv=>whnf
   ·rw [e0,if_pos ‹_›]
   ·rw [show m.val.any (bad m.W)=false from ‹_›,if_neg (by decide)] at e0
    refine loop_mem (fun (k:Nat)=>[(1,.ptr 0 0),(4,.d (.int .i64 ((k:Int))))]) (fun (k:Nat)=>[(0,some (boxKM m))]) 1 (fun (k:Nat)=>k≤m.rel.length∧m.rel.any (fun r=>r.any (bad m.W))=(m.rel.drop k).any (fun r=>r.any (bad m.W))) (fun (k:Nat)=>m.rel.length - k) (0) [(0,0)] [] (⟨by simp,rfl⟩) (by (refine ⟨rfl,rfl,rfl,?_,?_⟩;repeat' first|exact trivial|exact rfl|refine And.intro ?_ ?_|refine ⟨_,rfl,?_⟩|decide)) ?_
    clear hI hk
    rintro k ⟨hk,hI⟩
    (repeat' ((conv=>whnf);first|refine vA ?_|((first|refine vF ?_ ?_|refine vI ?_ ?_)<;>intro hc<;>try simp only [vL] at hc)|refine vJ fun hg=>?_|refine vT ?_|(refine vQ ?_ fun x hx=>?_;·omega)|(refine vO ?_ ?_;·omega)|(refine vU ?_ ?_;·kernel_rfl)|refine vX ?_|refine yD (fn_beyond _ m.W (by omega)) ⟨⟨rfl,rfl⟩,⟨rfl,rfl⟩,rfl⟩ rfl ?_));all_goals try conv=>whnf
    ·rw [e0,if_pos (by rw [hI,drop_cons hx,List.any_cons,show x.any (bad m.W)=true from ‹_›];rfl)]
    ·exact ⟨k+1,[(0,0)],[],⟨by (omega),by rw [hI,drop_cons hx,List.any_cons,show x.any (bad m.W)=false from ‹_›];rfl⟩,by (omega),by (refine ⟨rfl,rfl,rfl,?_,?_⟩;repeat' first|exact trivial|exact rfl|refine And.intro ?_ ?_|refine ⟨_,rfl,?_⟩|decide)⟩
    ·rw [e0,if_neg]
     rw [hI,List.drop_eq_nil_of_le (by omega)];simp
def relAt (m:KM) (a w:Nat):BitVec 64:=(m.rel.getD a []).getD w 0#64
def grpK (m:KM) (g:Nat) (meet:Bool) (w k:Nat):BitVec 64:=(List.range k).foldl (fun s a=>if g.testBit a=true then (if meet=true then s&&&relAt m a w else s|||relAt m a w) else s) (if meet=true then allL m.W else 0#64)
def grpL (m:KM) (g:Nat) (meet:Bool):List (BitVec 64):=if kCheckL m≠0∨g < 1∨2 ^ m.rel.length≤g then [] else (List.range m.W.toNat).map fun w=>grpK m g meet w m.rel.length
end Go.Ab
namespace Go.Ab
open Go Go.Proofs
set_option linter.unusedSimpArgs false
set_option linter.unusedVariables false
set_option maxRecDepth 10000
set_option maxHeartbeats 4000000
variable {T:Nat→Obj→Prop}
theorem fn_rCheck03 {n:Nat} {q:Nat→Nat} (hq:Cano n q) (hn:n≤64):Fn Tryz.prog T f_wittingref03_Check [.d (dI (ptL n q))] [] (.d (.int .i64 0)) []:=by
 have hl:(ptL n q).length=n:=ptL_len
 refine fn_dataR hmix k_wittingref03_Check (by show 1≤31;decide) ?_
 (repeat' ((conv=>whnf);first|refine vA ?_|(refine vF ?_ ?_<;>intro hc<;>try simp only [vL] at hc)|refine vJ fun hg=>?_|refine vT ?_|refine vX ?_));all_goals try conv=>whnf
 ·omega
 ·refine loop_intro (fun (k:Nat)=>[(0,.d (dI (ptL n q))),(8,.d (dI (ptL n q))),(9,.d (.int .i64 (((ptL n q).map (D.int .i64)).length:Int))),(10,.d (.int .i64 ((k:Int))))]) (fun (k:Nat)=>k≤n) (fun (k:Nat)=>n - k) (0) (by simp) (by (repeat' first|exact trivial|exact rfl|refine And.intro ?_ ?_)) ?_
  rintro k hk
  by_cases hkl:k < n
  ·have e1:(ptL n q)[k]? = some ((q k:Nat):Int):=ptL_at hkl
   have b1:=hq.le k hkl
   have e2:(ptL n q)[q k]? = some ((q k:Nat):Int):=by rw [ptL_at (by omega),hq.idem k hkl]
   (repeat' ((conv=>whnf);first|refine vA ?_|refine vH ?_|((first|refine vD ?_ ?_|refine vF ?_ ?_)<;>intro hc<;>try simp only [vL] at hc)|refine vT ?_|refine vN ‹_› ?_|(refine vO ?_ ?_;·omega)|refine vX ?_));all_goals try conv=>whnf
   all_goals try omega
   exact ⟨k+1,[],[],by (omega),by (omega),by (refine ⟨rfl,rfl,rfl,?_,?_⟩;repeat' first|exact trivial|exact rfl|refine And.intro ?_ ?_)⟩
  ·(repeat' ((conv=>whnf);first|refine vA ?_|((first|refine vD ?_ ?_|refine vF ?_ ?_)<;>intro hc<;>try simp only [vL] at hc)|refine vT ?_|(refine vQ ?_ fun x hx=>?_;·omega)|((first|refine vO ?_ ?_|refine vS ?_ fun x hx=>?_);·omega)|refine vX ?_));all_goals try conv=>whnf
   all_goals omega
theorem at0_at {l:List Int} {i:Nat} (h:i < l.length):l[i]? = some (at0 l i):=by
 rw [List.getElem?_eq_getElem h];congr 1
 exact (at0_of (List.getElem?_eq_getElem h)).symm
def lowF (e:Nat→Nat→Bool) (w k:Nat):Nat:=((List.range' k (w - k)).find? fun v=>e v w).getD w
theorem lowF_top (e:Nat→Nat→Bool) (w:Nat):lowF e w (w+1)=w:=by simp [lowF]
theorem lowF_top' (e:Nat→Nat→Bool) (w:Nat):lowF e w w=w:=by simp [lowF]
theorem lowF_zero (e:Nat→Nat→Bool) (w:Nat):lowF e w 0=lowE e w:=by simp [lowF,lowE,List.range_eq_range']
theorem lowF_step (e:Nat→Nat→Bool) {w k:Nat} (h:k≤w):lowF e w k=if e k w=true then k else lowF e w (k+1):=by
 by_cases hw:k=w
 ·subst hw;rw [lowF_top];simp [lowF]
 ·unfold lowF
  rw [show w - k=(w - (k+1))+1 by omega,List.range'_succ,List.find?_cons]
  by_cases hk:e k w=true
  ·rw [hk,if_pos rfl];rfl
  ·rw [if_neg hk];simp only [Bool.not_eq_true] at hk;rw [hk]
theorem ptL_snoc {q:Nat→Nat} {k:Nat} : (ptL k q).map (D.int .i64)++[D.int .i64 ((q k:Nat):Int)]=(ptL (k+1) q).map (D.int .i64):=by
 unfold ptL;rw [List.range_succ,List.map_append,List.map_append];rfl
theorem fn_rCanon (a b:List Int) (hl:a.length=b.length) (h64:a.length≤64):Fn Tryz.prog T f_wittingref03_canonical [.d (dI a),.d (dI b)] [] (.d (dI (ptL a.length (lowE (pairE a b))))) []:=by
 refine fn_dataR hmix k_wittingref03_canonical (by show 2≤47;decide) ?_
 (repeat' ((conv=>whnf);first|refine vA ?_|refine vJ fun hg=>?_|refine vT ?_));all_goals try conv=>whnf
 refine loop_mem (fun ((i,zs):Nat×List D)=>[(0,.d (dI a)),(1,.d (dI b)),(5,.own 0),(10,.d (.int .i64 (((a.map (D.int .i64)).length:Int)))),(11,.d (.int .i64 ((i:Int))))]) (fun ((i,zs):Nat×List D)=>[(0,some (.row 1 zs))]) 1 (fun ((i,zs):Nat×List D)=>i≤a.length∧zs=(ptL i (lowE (pairE a b))).map (D.int .i64)) (fun ((i,zs):Nat×List D)=>a.length - i) ((0,[])) []   [0] (⟨by simp,rfl⟩) (by (refine ⟨rfl,rfl,rfl,?_,?_⟩;repeat' first|exact trivial|exact rfl|exact ⟨_,rfl⟩|refine And.intro ?_ ?_|decide)) ?_
 rintro ⟨i,zs⟩ ⟨hi,hz⟩
 have hzl:zs.length=i:=by rw [hz];simp [ptL]
 by_cases hil:i < a.length
 ·have a1:=at0_at hil
  have b1:b[i]? = some (at0 b i):=at0_at (by omega)
  (repeat' ((conv=>whnf);first|refine vA ?_|(refine vF ?_ ?_<;>intro hc<;>try simp only [vL] at hc)|refine vT ?_));all_goals try conv=>whnf
  ·refine loop_mem (fun ((d,j):Int×Nat)=>[(0,.d (dI a)),(1,.d (dI b)),(5,.own 0),(6,.d (.int .i64 ((i:Int)))),(7,.d (.int .i64 ((j:Int)))),(8,.d (.int .i64 (d))),(10,.d (.int .i64 (((a.map (D.int .i64)).length:Int)))),(11,.d (.int .i64 ((i:Int))))]) (fun ((d,j):Int×Nat)=>[(0,some (.row 1 zs))]) 1 (fun ((d,j):Int×Nat) => -1≤d∧d≤i∧j=lowF (pairE a b) i (d+1).toNat) (fun ((d,j):Int×Nat)=>(d+1).toNat) (((i:Int),i)) [(0,0)] [] (⟨by omega,by omega,by rw [show ((i:Int)+1).toNat=i+1 by omega,lowF_top]⟩) (by (refine ⟨rfl,rfl,rfl,?_,?_⟩;repeat' first|exact trivial|exact rfl|refine And.intro ?_ ?_|refine ⟨_,rfl,?_⟩|decide)) ?_
   rintro ⟨d,j⟩ ⟨hd1,hd2,hj⟩
   by_cases hd:0≤d
   ·obtain ⟨v,rfl⟩ : ∃ v:Nat,d=(v:Int):=⟨d.toNat,by omega⟩
    have a2:a[v]? = some (at0 a v):=at0_at (by omega)
    have b2:b[v]? = some (at0 b v):=at0_at (by omega)
    have hs:=lowF_step (pairE a b) (w:=i) (k:=v) (by omega)
    rw [show ((v:Int)+1).toNat=v+1 by omega] at hj
    (repeat' ((conv=>whnf);first|refine vA ?_|refine vG ?_|(refine vF ?_ ?_<;>intro hc)|refine vT ?_|refine vN ‹_› ?_|(refine vO ?_ ?_;·omega)|(refine vU ?_ ?_;·kernel_rfl)|fail));all_goals try conv=>whnf
    ·refine ⟨((v:Int) - 1,v),[(0,0)],[],?_,?_,by (refine ⟨rfl,rfl,rfl,?_,?_⟩;repeat' first|exact trivial|exact rfl|refine And.intro ?_ ?_|refine ⟨_,rfl,?_⟩|decide)⟩
     ·refine ⟨by omega,by omega,?_⟩
      rw [show ((v:Int) - 1+1).toNat=v by omega,hs,if_pos (by simp_all [pairE])]
     ·((simp only [vM] at *;omega))
    all_goals try (exact absurd ‹(v:Int) < 0› (by omega))
    all_goals
     refine ⟨((v:Int) - 1,j),[(0,0)],[],?_,?_,by (refine ⟨rfl,rfl,rfl,?_,?_⟩;repeat' first|exact trivial|exact rfl|refine And.intro ?_ ?_|refine ⟨_,rfl,?_⟩|decide)⟩
     ·refine ⟨by omega,by omega,?_⟩
      rw [show ((v:Int) - 1+1).toNat=v by omega,hs,if_neg (by simp_all [pairE]),hj]
     ·((simp only [vM] at *;omega))
   ·(repeat' ((conv=>whnf);first|refine vA ?_|(refine vF ?_ ?_<;>intro hc<;>try simp only [vL] at hc)|refine vT ?_|refine vN ‹_› ?_|((first|refine vO ?_ ?_|refine vS ?_ fun x hx=>?_|refine vP ?_ ?_);·first|omega|(simp only [vM] at *;omega))|(refine vU ?_ ?_;·kernel_rfl)|fail));all_goals try conv=>whnf
    all_goals try omega
    refine ⟨(i+1,_),[(0,2)],[],?_,?_,by (refine ⟨rfl,rfl,rfl,?_,?_⟩;repeat' first|exact trivial|exact rfl|refine And.intro ?_ ?_|refine ⟨_,rfl,?_⟩|decide)⟩
    ·refine ⟨by omega,?_⟩
     rw [← ptL_snoc,← hz,hj,show (d+1).toNat=0 by omega,lowF_zero];rfl
    ·((simp only [vM] at *;omega))
  all_goals omega
 ·(repeat' ((conv=>whnf);first|refine vA ?_|(refine vF ?_ ?_<;>intro hc<;>try simp only [vL] at hc)|refine vT ?_));all_goals try conv=>whnf
  ·omega
  ·have e0:i=a.length:=by omega
   subst e0
   rw [hz];rfl
theorem fn_rSplit {n:Nat} {q:Nat→Nat} (hq:Cano n q) (hn:n≤64) (ks:List Int) (hk:ks.length=n):Fn Tryz.prog T f_wittingref03_Split [.d (dI (ptL n q)),.d (dI ks)] [] (.d (.tup [dI (ptL n (lowE (pairE (ptL n q) ks))),.int .i64 0])) []:=by
 have hl:(ptL n q).length=n:=ptL_len
 have cc:=fn_rCanon (T:=T) (ptL n q) ks (by omega) (by omega)
 rw [hl] at cc
 refine fn_dataR hmix k_wittingref03_Split (by show 2≤20;decide) ?_
 (repeat' ((conv=>whnf);first|refine vA ?_|refine vH ?_|(refine vD ?_ ?_<;>intro hc<;>try simp only [vL] at hc)|refine vJ fun hg=>?_|refine vT ?_|refine yD (fn_rCheck03 hq hn) ⟨⟨rfl,rfl⟩,rfl⟩ rfl ?_|refine yN cc ⟨⟨rfl,rfl⟩,⟨rfl,rfl⟩,rfl⟩ ?_));all_goals try conv=>whnf
 ·omega
 ·rfl
theorem fn_rTrivial (n:Nat) (hn:n≤64):Fn Tryz.prog T f_wittingref03_Trivial [.d (.int .i64 (n:Int))] [] (.d (.tup [dI (ptL n fun _=>0),.int .i64 0])) []:=by
 refine fn_dataR hmix k_wittingref03_Trivial (by show 1≤12;decide) ?_
 (repeat' ((conv=>whnf);first|refine vA ?_|refine vH ?_|(refine vF ?_ ?_<;>intro hc<;>try simp only [vL] at hc)|refine vT ?_|(refine vP ?_ ?_;·omega)|fail));all_goals try conv=>whnf
 ·omega
 ·refine congrArg (fun l=>some (D.tup [D.arr 1 l,D.int .i64 0])) ?_
  rw [replicate_range];unfold ptL;rw [List.map_map];rfl
theorem fn_rFacts13 (p:PM) (hc0:checkL p=0) {w:Nat} (hw:w < p.W.toNat):Fn Tryz.prog T f_wittingref13_Facts [.d (dKM ⟨p.W,p.val,[]⟩),.d (.int .i64 (w:Int))] [] (.d (.int .i64 (factP p w:Int))) []:=by
 have hg:=checkL_good hc0
 have w1:=hg.w1
 have w2:=hg.w2
 have v8:=hg.v8
 have hk:kCheckL ⟨p.W,p.val,[]⟩=0:=by
  have h1:p.val.any (bad p.W)=false:=by simp only [List.any_eq_false];intro s hs;simp [hg.val s hs]
  unfold kCheckL
  simp only [h1,List.length_nil,List.any_nil]
  rw [if_neg (by omega),if_neg (by omega)];rfl
 have hcf:=fn_kCheck (T:=T) ⟨p.W,p.val,[]⟩
 rw [hk] at hcf
 refine fn_dataR hmix k_wittingref13_Facts (by show 2≤39;decide) ?_
 (repeat' ((conv=>whnf);first|refine vA ?_|refine vH ?_|(refine vF ?_ ?_<;>intro hc<;>try simp only [vL] at hc)|refine vT ?_|refine vX ?_|refine yD hcf ⟨⟨rfl,rfl⟩,rfl⟩ rfl ?_));all_goals try conv=>whnf
 ·omega
 ·refine loop_mem (fun ((i,x):Nat×Int)=>[(1,.d (.int .i64 ((w:Int)))),(2,.ptr 0 0),(5,.d (.int .i64 (x))),(6,.d (.int .i64 ((i:Int))))]) (fun ((i,x):Nat×Int)=>[(0,some (boxKM ⟨p.W,p.val,[]⟩))]) 1 (fun ((i,x):Nat×Int)=>i≤p.val.length∧x=(factK p.val w i:Int)) (fun ((i,x):Nat×Int)=>p.val.length - i) ((0,0)) [(0,0)] [] (⟨by simp,rfl⟩) (by (refine ⟨rfl,rfl,rfl,?_,?_⟩;repeat' first|exact trivial|exact rfl|refine And.intro ?_ ?_|refine ⟨_,rfl,?_⟩|decide)) ?_
  rintro ⟨i,x⟩ ⟨hi,hX⟩
  by_cases hil:i < p.val.length
  ·obtain ⟨s,hs⟩ : ∃ s,p.val[i]? = some s:=⟨_,List.getElem?_eq_getElem hil⟩
   obtain ⟨p1,p2⟩:=pow_small (i:=(i:Int)) (by omega) (by omega)
   have p2:((2 ^ i:Nat):Int)=(1:Int) * 2 ^ (min (i:Int).toNat IntKind.i64.bits):=p2
   have f1:=factK_lt p.val w i
   have f2:2 ^ i≤2 ^ 7:=Nat.pow_le_pow_right (by decide) (by omega)
   have f3:factK p.val w (i+1)=factK p.val w i+if s.getLsbD w=true then 2 ^ i else 0:=by rw [factK,show p.val.getD i 0#64=s by rw [List.getD,hs];rfl]
   (repeat' ((conv=>whnf);first|refine vA ?_|refine vE ?_|(refine vF ?_ ?_<;>intro hc<;>try simp only [vL] at hc)|refine vJ fun hg=>?_|refine vT ?_|refine vN ‹_› ?_|((first|refine vO ?_ ?_|refine vP ?_ ?_);·omega)|refine vX ?_|refine yD (fn_has s w) ⟨⟨rfl,rfl⟩,⟨rfl,rfl⟩,rfl⟩ rfl ?_));all_goals try conv=>whnf
   ·refine ⟨(i+1,x),[(0,0)],[],?_,?_,by (refine ⟨rfl,rfl,rfl,?_,?_⟩;repeat' first|exact trivial|exact rfl|refine And.intro ?_ ?_|refine ⟨_,rfl,?_⟩|decide)⟩
    ·exact ⟨by (omega),by rw [f3,bit0 ‹_›,hX];simp⟩
    ·((simp only [vM] at *;omega))
   ·refine ⟨(i+1,_),[(0,0)],[],?_,?_,by (refine ⟨rfl,rfl,rfl,?_,?_⟩;repeat' first|exact trivial|exact rfl|refine And.intro ?_ ?_|refine ⟨_,rfl,?_⟩|decide)⟩
    ·exact ⟨by (omega),by rw [f3,bit1 ‹_›,if_pos rfl,hX,Int.natCast_add,p2]⟩
    ·((simp only [vM] at *;omega))
   all_goals omega
  ·(repeat' ((conv=>whnf);first|refine vA ?_|(refine vF ?_ ?_<;>intro hc<;>try simp only [vL] at hc)|refine vJ fun hg=>?_|refine vT ?_|(refine vQ ?_ fun x hx=>?_;·omega)|refine vX ?_));all_goals try conv=>whnf
   ·omega
   ·rw [hX,show i=p.val.length by omega];rfl
theorem fn_rFacts19 (p:PM) (hc0:checkL p=0):Fn Tryz.prog T f_wittingref19_Facts [.d (dKM ⟨p.W,p.val,[]⟩)] [] (.d (dI (ptL p.W.toNat (factQ p)))) []:=by
 have hg:=checkL_good hc0
 have w1:=hg.w1
 have w2:=hg.w2
 have cs:=fn_rSplit (T:=T) (zero_cano p.W.toNat) (by omega) (factsL p) ptL_len
 rw [show ptL p.W.toNat (lowE (pairE (ptL p.W.toNat fun _=>0) (factsL p)))=ptL p.W.toNat (factQ p) from ptL_congr fun w hw=>fact_split p hw] at cs
 have ct:=fn_rTrivial (T:=T) p.W.toNat (by omega)
 rw [show ((p.W.toNat:Nat):Int)=p.W by omega] at ct
 refine fn_dataR hmix k_wittingref19_Facts (by show 1≤34;decide) ?_
 (repeat' ((conv=>whnf);first|refine vA ?_|refine vT ?_));all_goals try conv=>whnf
 refine loop_mem (fun ((k,zs):Nat×List D)=>[(1,.ptr 0 0),(3,.own 1),(4,.d (.int .i64 ((k:Int))))]) (fun ((k,zs):Nat×List D)=>[(0,some (boxKM ⟨p.W,p.val,[]⟩)),(1,some (.row 1 zs))]) 2 (fun ((k,zs):Nat×List D)=>k≤p.W.toNat∧zs=(ptL k (factP p)).map (D.int .i64)) (fun ((k,zs):Nat×List D)=>p.W.toNat - k) ((0,[])) [(0,0)]   [1] (⟨by simp,rfl⟩) (by (refine ⟨rfl,rfl,rfl,?_,?_⟩;repeat' first|exact trivial|exact rfl|exact ⟨_,rfl⟩|refine And.intro ?_ ?_|refine ⟨_,rfl,?_⟩|decide)) ?_
 rintro ⟨k,zs⟩ ⟨hk,hz⟩
 have hzl:zs.length=k:=by rw [hz];simp [ptL]
 by_cases hkl:k < p.W.toNat
 ·(repeat' ((conv=>whnf);first|refine vA ?_|(refine vF ?_ ?_<;>intro hc<;>try simp only [vL] at hc)|refine vT ?_|((first|refine vO ?_ ?_|refine vP ?_ ?_);·first|omega|(simp only [vM] at *;omega))|refine yD (fn_rFacts13 p hc0 hkl) ⟨⟨rfl,rfl⟩,⟨rfl,rfl⟩,rfl⟩ rfl ?_));all_goals try conv=>whnf
  ·refine ⟨(k+1,_),[(0,0),(1,3)],[],?_,?_,by (refine ⟨rfl,rfl,rfl,?_,?_⟩;repeat' first|exact trivial|exact rfl|refine And.intro ?_ ?_|refine ⟨_,rfl,?_⟩|decide)⟩
   ·exact ⟨by (omega),by rw [← ptL_snoc,hz];rfl⟩
   ·((simp only [vM] at *;omega))
  all_goals omega
 ·have e0:k=p.W.toNat:=by omega
  subst e0
  have hz:zs=(factsL p).map (D.int .i64):=hz
  subst hz
  (repeat' ((conv=>whnf);first|refine vA ?_|(refine vF ?_ ?_<;>intro hc<;>try simp only [vL] at hc)|refine vT ?_|refine yN ct ⟨⟨rfl,rfl⟩,rfl⟩ ?_|refine yN cs ⟨⟨rfl,rfl⟩,⟨rfl,rfl⟩,rfl⟩ ?_));all_goals try conv=>whnf
  ·omega
  ·rfl
theorem add_bit {x:BitVec 64} {m:Nat} (h:x.getLsbD m=false):x+1#64 <<< m=x|||1#64 <<< m:=by
 refine BitVec.add_eq_or_of_and_eq_zero _ _ (BitVec.eq_of_getLsbD_eq fun i hi=>?_)
 rw [BitVec.getLsbD_and,BitVec.getLsbD_shiftLeft,BitVec.getLsbD_zero]
 by_cases e:i=m
 ·subst e;rw [h];rfl
 ·by_cases e2:i < m
  ·simp [e2]
  ·rw [BitVec.getLsbD_one];simp;omega
theorem or_same {x:BitVec 64} {m:Nat} (h:x.getLsbD m=true):x|||1#64 <<< m=x:=by
 refine BitVec.eq_of_getLsbD_eq fun i hi=>?_
 rw [BitVec.getLsbD_or,BitVec.getLsbD_shiftLeft]
 by_cases e:i=m
 ·subst e;rw [h];rfl
 ·by_cases e2:i < m
  ·simp [e2]
  ·rw [BitVec.getLsbD_one];simp;omega
theorem fn_reached {n:Nat} {q:Nat→Nat} (hq:Cano n q) (hn:n≤64) (s:BitVec 64):Fn Tryz.prog T f_wittingref19_reached [.d (dI (ptL n q)),.d (.u64 s)] [] (.d (.u64 (blkK q s n))) []:=by
 have hpl:=ptL_len (n:=n) (q:=q)
 refine fn_dataR hmix k_wittingref19_reached (by show 2≤30;decide) ?_
 (repeat' ((conv=>whnf);first|refine vA ?_|refine vJ fun hg=>?_|refine vT ?_));all_goals try conv=>whnf
 refine loop_intro (fun ((k,o):Nat×BitVec 64)=>[(1,.d (.u64 (s))),(5,.d (.u64 (o))),(8,.d (dI (ptL n q))),(9,.d (.int .i64 ((((ptL n q).map (D.int .i64)).length:Int)))),(10,.d (.int .i64 ((k:Int))))]) (fun ((k,o):Nat×BitVec 64)=>k≤n∧o=blkK q s k) (fun ((k,o):Nat×BitVec 64)=>n - k) ((0,0#64)) (⟨by simp,rfl⟩) (by (repeat' first|exact trivial|exact rfl|refine And.intro ?_ ?_)) ?_
 rintro ⟨k,o⟩ ⟨hk,hI⟩
 by_cases hkl:k < n
 ·have e1:(ptL n q)[k]? = some ((q k:Nat):Int):=ptL_at hkl
  have b1:=hq.le k hkl
  (repeat' ((conv=>whnf);first|refine vA ?_|refine vE ?_|(refine vF ?_ ?_<;>intro hc<;>try simp only [vL] at hc)|refine vT ?_|refine vN ‹_› ?_|((first|refine vO ?_ ?_|refine vP ?_ ?_);·omega)|refine vY ?_|refine yD (fn_has _ _) ⟨⟨rfl,rfl⟩,⟨rfl,rfl⟩,rfl⟩ rfl ?_));all_goals try conv=>whnf
  ·refine ⟨(k+1,o),[],[],?_,?_,by (refine ⟨rfl,rfl,rfl,?_,?_⟩;repeat' first|exact trivial|exact rfl|refine And.intro ?_ ?_)⟩
   ·exact ⟨by (omega),by rw [blkK_succ,if_neg (by rw [bit0 ‹_›];decide),hI]⟩
   ·((simp only [vM] at *;omega))
  ·refine ⟨(k+1,_),[],[],?_,?_,by (refine ⟨rfl,rfl,rfl,?_,?_⟩;repeat' first|exact trivial|exact rfl|refine And.intro ?_ ?_)⟩
   ·exact ⟨by (omega),by rw [blkK_succ,if_pos (bit1 ‹_›),← hI,← add_bit (bit0 ‹_›)];rfl⟩
   ·((simp only [vM] at *;omega))
  ·refine ⟨(k+1,o),[],[],?_,?_,by (refine ⟨rfl,rfl,rfl,?_,?_⟩;repeat' first|exact trivial|exact rfl|refine And.intro ?_ ?_)⟩
   ·exact ⟨by (omega),by rw [blkK_succ,if_pos (bit1 ‹1&&&s.toNat >>> k≠0›),← hI,or_same (bit1 ‹_›)]⟩
   ·((simp only [vM] at *;omega))
  ·omega
 ·(repeat' ((conv=>whnf);first|refine vA ?_|(refine vF ?_ ?_<;>intro hc<;>try simp only [vL] at hc)|refine vT ?_|(refine vQ ?_ fun x hx=>?_;·omega)|refine vY ?_));all_goals try conv=>whnf
  ·omega
  ·rw [hI,show k=n by omega]
def relE (R:List (List (BitVec 64))):List (Nat→BitVec 64):=R.map fun r w=>r.getD w 0#64
def sameT (R:List (List (BitVec 64))) (q:Nat→Nat) (n i v a:Nat):Bool:=decide (q i=q v)&&(R.take a).all fun r=>decide (blkK q (r.getD i 0#64) n=blkK q (r.getD v 0#64) n)
theorem sameT_succ {R:List (List (BitVec 64))} {q:Nat→Nat} {n i v a:Nat} {r:List (BitVec 64)} (h:R[a]? = some r):sameT R q n i v (a+1)=(sameT R q n i v a&&decide (blkK q (r.getD i 0#64) n=blkK q (r.getD v 0#64) n)):=by
 unfold sameT
 rw [List.take_add_one,h,Option.toList_some,List.all_append];simp [Bool.and_assoc]
theorem sameT_all {R:List (List (BitVec 64))} {q:Nat→Nat} {n i v:Nat} : sameT R q n i v R.length=sameB n (relE R) q v i:=by
 unfold sameT sameB relE
 rw [List.take_length,Bool.eq_iff_iff]
 simp only [Bool.and_eq_true,decide_eq_true_eq,List.all_eq_true,List.mem_map,forall_exists_index,and_imp,forall_apply_eq_imp_iff₂]
 exact ⟨fun ⟨a,b⟩=>⟨a.symm,fun r hr=>(b r hr).symm⟩,fun ⟨a,b⟩=>⟨a.symm,fun r hr=>(b r hr).symm⟩⟩
theorem split_step {n:Nat} {rels:List (Nat→BitVec 64)} {q:Nat→Nat} (hq:Cano n q) {w:Nat} (hw:w < n):lowE (pairE (ptL n q) (ptL n (stepB n rels q))) w=stepB n rels q w:=by
 rw [← canon_lw (stepB_canon n rels q n) hw]
 refine lw_congr fun v hv=>?_
 have h1:at0 (ptL n q) v=((q v:Nat):Int):=at0_of (ptL_at (by omega))
 have h2:at0 (ptL n q) w=((q w:Nat):Int):=at0_of (ptL_at hw)
 have h3:at0 (ptL n (stepB n rels q)) v=((stepB n rels q v:Nat):Int):=at0_of (ptL_at (by omega))
 have h4:at0 (ptL n (stepB n rels q)) w=((stepB n rels q w:Nat):Int):=at0_of (ptL_at hw)
 have h5:=stepB_q (rels:=rels) hq hw
 have h6:=stepB_q (rels:=rels) hq (w:=v) (by omega)
 unfold pairE keyE
 rw [h1,h2,h3,h4,Bool.eq_iff_iff,decide_eq_true_eq,decide_eq_true_eq]
 constructor
 ·intro h;omega
 ·intro h;rw [h] at h6;omega
theorem fn_rRefine {n:Nat} {q:Nat→Nat} (hq:Cano n q) (hn:n≤64) (R:List (List (BitVec 64))) (hR : ∀ r∈R,r.length=n):Fn Tryz.prog T f_wittingref19_Refine [.d (dI (ptL n q)),.d (dUU R)] [] (.d (dI (ptL n (stepB n (relE R) q)))) []:=by
 have hpl:=ptL_len (n:=n) (q:=q)
 refine fn_dataR hmix k_wittingref19_Refine (by show 2≤72;decide) ?_
 (repeat' ((conv=>whnf);first|refine vA ?_|refine vJ fun hg=>?_|refine vT ?_));all_goals try conv=>whnf
 refine loop_mem (fun ((i,zs):Nat×List D)=>[(0,.d (dI (ptL n q))),(1,.d (dUU R)),(5,.own 0),(15,.d (.int .i64 ((((ptL n q).map (D.int .i64)).length:Int)))),(16,.d (.int .i64 ((i:Int))))]) (fun ((i,zs):Nat×List D)=>[(0,some (.row 1 zs))]) 1 (fun ((i,zs):Nat×List D)=>i≤n∧zs=(ptL i (stepB n (relE R) q)).map (D.int .i64)) (fun ((i,zs):Nat×List D)=>n - i) ((0,[])) []   [0] (⟨by simp,rfl⟩) (by (refine ⟨rfl,rfl,rfl,?_,?_⟩;repeat' first|exact trivial|exact rfl|exact ⟨_,rfl⟩|refine And.intro ?_ ?_|decide)) ?_
 rintro ⟨i,zs⟩ ⟨hi,hz⟩
 have hzl:zs.length=i:=by rw [hz];simp [ptL]
 by_cases hil:i < n
 ·have a1:(ptL n q)[i]? = some ((q i:Nat):Int):=ptL_at hil
  (repeat' ((conv=>whnf);first|refine vA ?_|(refine vF ?_ ?_<;>intro hc<;>try simp only [vL] at hc)|refine vT ?_|(refine vO ?_ ?_;·omega)|fail));all_goals try conv=>whnf
  ·refine loop_mem (fun ((d,j):Int×Nat)=>[(0,.d (dI (ptL n q))),(1,.d (dUU R)),(5,.own 0),(6,.d (.int .i64 ((i:Int)))),(7,.d (.int .i64 ((j:Int)))),(8,.d (.int .i64 (d))),(15,.d (.int .i64 ((((ptL n q).map (D.int .i64)).length:Int)))),(16,.d (.int .i64 ((i:Int))))]) (fun ((d,j):Int×Nat)=>[(0,some (.row 1 zs))]) 1 (fun ((d,j):Int×Nat) => -1≤d∧d < i∧j=lowF (sameB n (relE R) q) i (d+1).toNat) (fun ((d,j):Int×Nat)=>(d+1).toNat) (((i:Int) - 1,i)) [(0,0)] [] (⟨by omega,by omega,by rw [show ((i:Int) - 1+1).toNat=i by omega,lowF_top']⟩) (by (refine ⟨rfl,rfl,rfl,?_,?_⟩;repeat' first|exact trivial|exact rfl|refine And.intro ?_ ?_|refine ⟨_,rfl,?_⟩|decide)) ?_
   rintro ⟨d,j⟩ ⟨hd1,hd2,hj⟩
   by_cases hd:0≤d
   ·obtain ⟨v,rfl⟩ : ∃ v:Nat,d=(v:Int):=⟨d.toNat,by omega⟩
    have a2:(ptL n q)[v]? = some ((q v:Nat):Int):=ptL_at (by omega)
    have hs:=lowF_step (sameB n (relE R) q) (w:=i) (k:=v) (by omega)
    rw [show ((v:Int)+1).toNat=v+1 by omega] at hj
    (repeat' ((conv=>whnf);first|refine vA ?_|refine vG ?_|refine vJ fun hg=>?_|refine vT ?_|refine vN ‹_› ?_|(refine vU ?_ ?_;·kernel_rfl)|fail));all_goals try conv=>whnf
    ·refine loop_mem (fun ((a,b):Nat×Bool)=>[(0,.d (dI (ptL n q))),(1,.d (dUU R)),(5,.own 0),(6,.d (.int .i64 ((i:Int)))),(7,.d (.int .i64 ((j:Int)))),(8,.d (.int .i64 ((v:Int)))),(9,.d (.bool (b))),(15,.d (.int .i64 ((((ptL n q).map (D.int .i64)).length:Int)))),(16,.d (.int .i64 ((i:Int)))),(35,.d (dUU R)),(36,.d (.int .i64 (((R.map dU).length:Int)))),(37,.d (.int .i64 ((a:Int))))]) (fun ((a,b):Nat×Bool)=>[(0,some (.row 1 zs))]) 1 (fun ((a,b):Nat×Bool)=>a≤R.length∧b=sameT R q n i v a) (fun ((a,b):Nat×Bool)=>R.length - a) ((0,decide (((q i:Nat):Int)=((q v:Nat):Int)))) [(0,0)] [] (⟨by simp,by simp only [sameT,List.take_zero,List.all_nil,Bool.and_true];rw [Bool.eq_iff_iff,decide_eq_true_eq,decide_eq_true_eq];omega⟩) (by (refine ⟨rfl,rfl,rfl,?_,?_⟩;repeat' first|exact trivial|exact rfl|exact .inl rfl|refine And.intro ?_ ?_|refine ⟨_,rfl,?_⟩|decide)) ?_
     rintro ⟨a,b⟩ ⟨ha,hb⟩
     by_cases hal:a < R.length
     ·obtain ⟨r,hr⟩ : ∃ r,R[a]? = some r:=⟨_,List.getElem?_eq_getElem hal⟩
      have hrl:=hR r (List.mem_of_getElem? hr)
      obtain ⟨x,hx0⟩ : ∃ x,r[i]? = some x:=⟨_,List.getElem?_eq_getElem (by omega)⟩
      obtain ⟨y,hy0⟩ : ∃ y,r[v]? = some y:=⟨_,List.getElem?_eq_getElem (by omega)⟩
      have hsu:=sameT_succ (q:=q) (n:=n) (i:=i) (v:=v) hr
      rw [getD_of hx0,getD_of hy0] at hsu
      (repeat' ((conv=>whnf);first|refine vA ?_|((first|refine vF ?_ ?_|refine vI ?_ ?_)<;>intro hc<;>try simp only [vL] at hc)|refine vT ?_|refine vN ‹_› ?_|(refine vO ?_ ?_;·omega)|(refine vU ?_ ?_;·kernel_rfl)|refine yD (fn_reached hq hn _) ⟨⟨rfl,rfl⟩,⟨rfl,rfl⟩,rfl⟩ rfl ?_));all_goals try conv=>whnf
      ·refine ⟨(a+1,_),[(0,0)],[],?_,?_,by (refine ⟨rfl,rfl,rfl,?_,?_⟩;repeat' first|exact trivial|exact rfl|exact .inl rfl|refine And.intro ?_ ?_|refine ⟨_,rfl,?_⟩|decide)⟩
       ·exact ⟨by (omega),by rw [hsu,← hb,‹b=true›];simp⟩
       ·((simp only [vM] at *;omega))
      ·refine ⟨(a+1,_),[(0,0)],[],?_,?_,by (refine ⟨rfl,rfl,rfl,?_,?_⟩;repeat' first|exact trivial|exact rfl|exact .inr (.inr ⟨rfl,rfl⟩)|refine And.intro ?_ ?_|refine ⟨_,rfl,?_⟩|decide)⟩
       ·exact ⟨by (omega),by rw [hsu,← hb,‹b=false›];simp⟩
       ·((simp only [vM] at *;omega))
      all_goals omega
     ·have ea:a=R.length:=by omega
      subst ea
      rw [sameT_all] at hb
      rw [← hb] at hs
      (repeat' ((conv=>whnf);first|refine vA ?_|((first|refine vF ?_ ?_|refine vI ?_ ?_)<;>intro hc<;>try simp only [vL] at hc)|refine vT ?_|(refine vQ ?_ fun x hx=>?_;·omega)|(refine vO ?_ ?_;·omega)|(refine vU ?_ ?_;·kernel_rfl)|fail));all_goals try conv=>whnf
      ·omega
      ·omega
      ·refine ⟨((v:Int) - 1,v),[(0,0)],[],?_,?_,by (refine ⟨rfl,rfl,rfl,?_,?_⟩;repeat' first|exact trivial|exact rfl|refine And.intro ?_ ?_|refine ⟨_,rfl,?_⟩|decide)⟩
       ·refine ⟨by omega,by omega,?_⟩
        rw [show ((v:Int) - 1+1).toNat=v by omega,hs,if_pos ‹_›]
       ·((simp only [vM] at *;omega))
      ·refine ⟨((v:Int) - 1,j),[(0,0)],[],?_,?_,by (refine ⟨rfl,rfl,rfl,?_,?_⟩;repeat' first|exact trivial|exact rfl|refine And.intro ?_ ?_|refine ⟨_,rfl,?_⟩|decide)⟩
       ·refine ⟨by omega,by omega,?_⟩
        rw [show ((v:Int) - 1+1).toNat=v by omega,hs,if_neg (by rw [‹b=false›];decide),hj]
       ·((simp only [vM] at *;omega))
    all_goals omega
   ·(repeat' ((conv=>whnf);first|refine vA ?_|(refine vF ?_ ?_<;>intro hc<;>try simp only [vL] at hc)|refine vJ fun hg=>?_|refine vT ?_|refine vN ‹_› ?_|((first|refine vO ?_ ?_|refine vS ?_ fun x hx=>?_|refine vP ?_ ?_);·first|omega|(simp only [vM] at *;omega))|(refine vU ?_ ?_;·kernel_rfl)|fail));all_goals try conv=>whnf
    all_goals try omega
    refine ⟨(i+1,_),[(0,2)],[],?_,?_,by (refine ⟨rfl,rfl,rfl,?_,?_⟩;repeat' first|exact trivial|exact rfl|refine And.intro ?_ ?_|refine ⟨_,rfl,?_⟩|decide)⟩
    ·refine ⟨by omega,?_⟩
     rw [← ptL_snoc,← hz,hj,show (d+1).toNat=0 by omega,lowF_zero];rfl
    ·((simp only [vM] at *;omega))
  all_goals omega
 ·have e0:i=n:=by omega
  subst e0
  subst hz
  (repeat' ((conv=>whnf);first|refine vA ?_|(refine vF ?_ ?_<;>intro hc<;>try simp only [vL] at hc)|refine vT ?_|(refine vO ?_ ?_;·omega)|refine yN (fn_rSplit hq hn _ ptL_len) ⟨⟨rfl,rfl⟩,⟨rfl,rfl⟩,rfl⟩ ?_));all_goals try conv=>whnf
  ·omega
  ·rw [ptL_congr fun w hw=>split_step hq hw];rfl
theorem fn_rStart (p:PM) (hc0:checkL p=0):Fn Tryz.prog T f_wittingref35_start [.d (dPM p)] [] (.d (dI (ptL p.W.toNat (factQ p)))) []:=by
 refine fn_dataR hmix k_wittingref35_start (by show 1≤9;decide) ?_
 (repeat' ((conv=>whnf);first|refine vT ?_|refine yN (fn_rFacts19 p hc0) ⟨⟨rfl,rfl⟩,rfl⟩ ?_));all_goals try conv=>whnf
 ·rfl
def relR (p:PM) (a:Nat):List (List (BitVec 64)):=(List.range a).flatMap fun a=>[cellsR p a,weakL p a]
theorem relR_succ (p:PM) (a:Nat):relR p (a+1)=relR p a++[cellsR p a,weakL p a]:=by
 unfold relR;rw [List.range_succ,List.flatMap_append];simp
theorem relR_len (p:PM) (a:Nat):(relR p a).length=2 * a:=by
 induction a with
 | zero=>rfl
 | succ a ih=>rw [relR_succ,List.length_append,ih];simp;omega
theorem fn_rRelations (p:PM) (hp:IntsOk p.rank) (hc0:checkL p=0):Fn Tryz.prog T f_wittingref35_relations [.d (dPM p)] [] (.d (dUU (relR p p.cell.length))) []:=by
 have hg:=checkL_good hc0
 have w1:=hg.w1
 have w2:=hg.w2
 have n4:=hg.n4
 refine fn_dataR hmix k_wittingref35_relations (by show 1≤41;decide) ?_
 (repeat' ((conv=>whnf);first|refine vA ?_|refine vJ fun hg=>?_|refine vT ?_));all_goals try conv=>whnf
 refine loop_mem (fun ((a,zs):Nat×List D)=>[(1,.ptr 0 0),(3,.own 1),(11,.d (.int .i64 (((p.cell.map dI).length:Int)))),(12,.d (.int .i64 ((a:Int))))]) (fun ((a,zs):Nat×List D)=>[(0,some (boxPM p)),(1,some (.row 1 zs))]) 2 (fun ((a,zs):Nat×List D)=>a≤p.cell.length∧zs=(relR p a).map dU) (fun ((a,zs):Nat×List D)=>p.cell.length - a) ((0,[])) [(0,0)]   [1] (⟨by simp,rfl⟩) (by (refine ⟨rfl,rfl,rfl,?_,?_⟩;repeat' first|exact trivial|exact rfl|exact ⟨_,rfl⟩|refine And.intro ?_ ?_|refine ⟨_,rfl,?_⟩|decide)) ?_
 rintro ⟨a,zs⟩ ⟨ha,hz⟩
 have hzl:zs.length=2 * a:=by rw [hz,List.length_map,relR_len]
 by_cases hal:a < p.cell.length
 ·have cw:=fn_ref33_Weaker (T:=T) p hp (a:Int)
  rw [show weakerL p (a:Int)=(weakL p a,0) by rw [weakerL,if_neg (by omega),if_neg (by omega)];rfl] at cw
  (repeat' ((conv=>whnf);first|refine vA ?_|(refine vF ?_ ?_<;>intro hc<;>try simp only [vL] at hc)|refine vT ?_));all_goals try conv=>whnf
  ·refine loop_mem (fun ((w,ys):Nat×List D)=>[(1,.ptr 0 0),(3,.own 1),(4,.d (.int .i64 ((a:Int)))),(5,.own 2),(6,.d (.int .i64 ((w:Int)))),(11,.d (.int .i64 (((p.cell.map dI).length:Int)))),(12,.d (.int .i64 ((a:Int))))]) (fun ((w,ys):Nat×List D)=>[(0,some (boxPM p)),(1,some (.row 1 zs)),(2,some (.row 1 ys))]) 3 (fun ((w,ys):Nat×List D)=>w≤p.W.toNat∧ys=(List.range w).map fun (w:Nat)=>D.u64 (cellL p (a:Int) (w:Int))) (fun ((w,ys):Nat×List D)=>p.W.toNat - w) ((0,[])) [(0,0),(1,1)]   [2] (⟨by simp,rfl⟩) (by (refine ⟨rfl,rfl,rfl,?_,?_⟩;repeat' first|exact trivial|exact rfl|exact ⟨_,rfl⟩|refine And.intro ?_ ?_|refine ⟨_,rfl,?_⟩|decide)) ?_
   rintro ⟨w,ys⟩ ⟨hw,hy⟩
   have hyl:ys.length=w:=by rw [hy];simp
   by_cases hwl:w < p.W.toNat
   ·(repeat' ((conv=>whnf);first|refine vA ?_|(refine vF ?_ ?_<;>intro hc<;>try simp only [vL] at hc)|refine vT ?_|((first|refine vO ?_ ?_|refine vP ?_ ?_);·first|omega|(simp only [vM] at *;omega))|refine yD (fn_ref33_Cell p hp _ _) ⟨⟨rfl,rfl⟩,⟨rfl,rfl⟩,⟨rfl,rfl⟩,rfl⟩ rfl ?_));all_goals try conv=>whnf
    ·refine ⟨(w+1,_),[(0,0),(1,1),(2,4)],[],?_,?_,by (refine ⟨rfl,rfl,rfl,?_,?_⟩;repeat' first|exact trivial|exact rfl|refine And.intro ?_ ?_|refine ⟨_,rfl,?_⟩|decide)⟩
     ·exact ⟨by (omega),by rw [List.range_succ,List.map_append,← hy];rfl⟩
     ·((simp only [vM] at *;omega))
    ·omega
   ·have e1:w=p.W.toNat:=by omega
    subst e1
    have hy:ys=(cellsR p a).map D.u64:=by rw [hy,cellsR,List.map_map];rfl
    subst hy
    (repeat' ((conv=>whnf);first|refine vA ?_|(refine vF ?_ ?_<;>intro hc<;>try simp only [vL] at hc)|refine vT ?_|((first|refine vO ?_ ?_|refine vP ?_ ?_);·first|omega|(simp only [vM] at *;omega))|refine yN cw ⟨⟨rfl,rfl⟩,⟨rfl,rfl⟩,rfl⟩ ?_));all_goals try conv=>whnf
    ·omega
    ·refine ⟨(a+1,_),[(0,0),(1,4)],[],?_,?_,by (refine ⟨rfl,rfl,rfl,?_,?_⟩;repeat' first|exact trivial|exact rfl|refine And.intro ?_ ?_|refine ⟨_,rfl,?_⟩|decide)⟩
     ·refine ⟨by (omega),?_⟩
      rw [relR_succ,List.map_append,← hz];rfl
     ·((simp only [vM] at *;omega))
  all_goals omega
 ·(repeat' ((conv=>whnf);first|refine vA ?_|(refine vF ?_ ?_<;>intro hc<;>try simp only [vL] at hc)|refine vT ?_));all_goals try conv=>whnf
  ·omega
  ·rw [hz,show a=p.cell.length by omega];rfl
theorem relE_R {p:PM} : ∀ a,a≤p.cell.length → ∀ r∈relR p a,r.length=p.W.toNat:=by
 intro a ha r hr
 unfold relR at hr
 obtain ⟨i,hi,h⟩:=List.mem_flatMap.1 hr
 simp only [List.mem_cons,List.not_mem_nil,or_false] at h
 rcases h with rfl|rfl
 ·simp [cellsR]
 ·simp [weakL]
theorem stepB_rels {n:Nat} {q:Nat→Nat} {rels rels':List (Nat→BitVec 64)} (hl:rels.length=rels'.length) (h : ∀ (i:Nat) (r r':Nat→BitVec 64),rels[i]? = some r→rels'[i]? = some r' → ∀ w,w < n→r w=r' w) {w:Nat} (hw:w < n):stepB n rels q w=stepB n rels' q w:=by
 refine lw_congr fun v hv=>?_
 unfold sameB
 congr 1
 rw [Bool.eq_iff_iff,List.all_eq_true,List.all_eq_true]
 constructor
 ·intro H r' hr'
  obtain ⟨i,hi,rfl⟩:=List.mem_iff_getElem.1 hr'
  have e2:=List.getElem?_eq_getElem hi
  have e1:=List.getElem?_eq_getElem (l:=rels) (i:=i) (by omega)
  rw [← h i _ _ e1 e2 v (by omega),← h i _ _ e1 e2 w hw]
  exact H _ (List.getElem_mem _)
 ·intro H r hr
  obtain ⟨i,hi,rfl⟩:=List.mem_iff_getElem.1 hr
  have e1:=List.getElem?_eq_getElem hi
  have e2:=List.getElem?_eq_getElem (l:=rels') (i:=i) (by omega)
  rw [h i _ _ e1 e2 v (by omega),h i _ _ e1 e2 w hw]
  exact H _ (List.getElem_mem _)
theorem stepB_relE (p:PM) (q:Nat→Nat) {w:Nat} (hw:w < p.W.toNat):stepB p.W.toNat (relE (relR p p.cell.length)) q w=stepB p.W.toNat (relsP p) q w:=by
 have e:relE (relR p p.cell.length)=(List.range p.cell.length).flatMap fun (a:Nat)=>[fun w=>(cellsR p a).getD w 0#64,fun w=>(weakL p a).getD w 0#64]:=by
  unfold relE relR;rw [List.map_flatMap];rfl
 have hall : ∀ (l:List Nat) (i:Nat) (r r':Nat→BitVec 64),(l.flatMap fun (a:Nat)=>[fun w=>(cellsR p a).getD w 0#64,fun w=>(weakL p a).getD w 0#64])[i]? = some r→(l.flatMap fun (a:Nat)=>[fun (w:Nat)=>cellL p (a:Int) (w:Int),fun w=>wkB p a w])[i]? = some r' → ∀ w,w < p.W.toNat→r w=r' w:=by
  intro l
  induction l with
  | nil=>intro i r r' h;simp at h
  | cons a l ih =>
   intro i r r' h h' w hw
   rw [List.flatMap_cons] at h h'
   match i with
   | 0 =>
    have h:=Option.some.inj h
    have h':=Option.some.inj h'
    subst h;subst h'
    show (cellsR p a).getD w 0#64=_
    rw [getD_of (show (cellsR p a)[w]? = some (cellL p (a:Int) (w:Int)) by simp [cellsR,hw])]
   | 1 =>
    have h:=Option.some.inj h
    have h':=Option.some.inj h'
    subst h;subst h'
    rfl
   | i+2=>exact ih i r r' h h' w hw
 rw [e]
 exact stepB_rels (by simp [relsP]) (hall _) hw
theorem fn_rRounds35 (p:PM) (hp:IntsOk p.rank) (n:Int):Fn Tryz.prog T f_wittingref35_Rounds [.d (dPM p),.d (.int .i64 n)] [] (.d (dLI (RoundsL p n))) []:=by
 refine fn_dataR hmix k_wittingref35_Rounds (by show 2≤36;decide) ?_
 by_cases hc0:checkL p=0
 ·have hg:=checkL_good hc0
  have w1:=hg.w1
  have w2:=hg.w2
  (repeat' ((conv=>whnf);first|refine vA ?_|((first|refine vD ?_ ?_|refine vF ?_ ?_)<;>intro hc<;>try simp only [vL] at hc)|refine vT ?_|refine yD (fn_ref33_Check p hp) ⟨⟨rfl,rfl⟩,rfl⟩ rfl ?_|refine yN (fn_rStart p hc0) ⟨⟨rfl,rfl⟩,rfl⟩ ?_|refine yN (fn_rRelations p hp hc0) ⟨⟨rfl,rfl⟩,rfl⟩ ?_));all_goals try conv=>whnf
  ·exact absurd hc0 hc
  ·rw [RoundsL,if_neg (by omega),if_pos hc];rfl
  ·refine loop_mem (fun (k:Nat)=>[(1,.d (.int .i64 (n))),(2,.ptr 0 0),(7,.d (dI (ptL p.W.toNat (rndB p k)))),(8,.d (dUU (relR p p.cell.length))),(9,.d (.int .i64 ((k:Int))))]) (fun (k:Nat)=>[(0,some (boxPM p))]) 1 (fun (k:Nat)=>k≤n.toNat∧k≤p.W.toNat) (fun (k:Nat)=>n.toNat - k) (0) [(0,0)] [] (by simp) (by (refine ⟨rfl,rfl,rfl,?_,?_⟩;repeat' first|exact trivial|exact rfl|refine And.intro ?_ ?_|refine ⟨_,rfl,?_⟩|decide)) ?_
   rintro k ⟨hk1,hk2⟩
   have cr:=fn_rRefine (T:=T) (rndB_canon p k) (by omega) (relR p p.cell.length) (relE_R _ (Nat.le_refl _))
   rw [show ptL p.W.toNat (stepB p.W.toNat (relE (relR p p.cell.length)) (rndB p k))=ptL p.W.toNat (rndB p (k+1)) from ptL_congr fun w hw=>stepB_relE p _ hw] at cr
   (repeat' ((conv=>whnf);first|refine vA ?_|(refine vF ?_ ?_<;>intro hc<;>try simp only [vL] at hc)|refine vT ?_|(refine vO ?_ ?_;·omega)|refine yN cr ⟨⟨rfl,rfl⟩,⟨rfl,rfl⟩,rfl⟩ ?_));all_goals try conv=>whnf
   ·exact ⟨k+1,[(0,0)],[],by (omega),by (omega),by (refine ⟨rfl,rfl,rfl,?_,?_⟩;repeat' first|exact trivial|exact rfl|refine And.intro ?_ ?_|refine ⟨_,rfl,?_⟩|decide)⟩
   ·rw [RoundsL,if_neg (by omega),if_neg (by omega)]
    have e:ptL p.W.toNat (rndB p n.toNat)=ptL p.W.toNat (rndB p k):=ptL_congr fun w hw=>by
     rw [show k=p.W.toNat by omega];exact iterB_end (factQ_canon p _) (by omega) (by omega) hw
    rw [e];rfl
   ·rw [RoundsL,if_neg (by omega),if_neg (by omega),show n.toNat=k by omega];rfl
 ·(repeat' ((conv=>whnf);first|refine vA ?_|((first|refine vD ?_ ?_|refine vF ?_ ?_)<;>intro hc<;>try simp only [vL] at hc)|refine vT ?_|refine yD (fn_ref33_Check p hp) ⟨⟨rfl,rfl⟩,rfl⟩ rfl ?_));all_goals try conv=>whnf
  ·rw [RoundsL,if_pos hc];rfl
  ·exact absurd ‹checkL p=0› hc0
  ·exact absurd ‹checkL p=0› hc0
theorem fn_rCoarsest35 (p:PM) (hp:IntsOk p.rank):Fn Tryz.prog T f_wittingref35_Coarsest [.d (dPM p)] [] (.d (dLI (RoundsL p 64))) []:=by
 refine fn_dataR hmix k_wittingref35_Coarsest (by show 1≤8;decide) ?_
 (repeat' ((conv=>whnf);first|refine vT ?_|refine yN (fn_rRounds35 p hp 64) ⟨⟨rfl,rfl⟩,⟨rfl,rfl⟩,rfl⟩ ?_));all_goals try conv=>whnf
 ·rfl
end Go.Ab
namespace Go.Ab
open Go Go.Proofs Go.MapKept
set_option linter.unusedVariables false
theorem Sim.grown {B : Base} {ρ : Nat → V} {M : Nat → Option Ob} {F : Nat → Prop} {σ : Nat → Option Nat} {a : Act} {w w' : World} (h : Sim B ρ M F σ a w) (hg : w.grownBy w' none) : Sim B ρ M F σ a w' := by
  refine h.step ⟨fun id ob hid => .inr ⟨rfl, ob, hid, Shape.refl ob⟩, fun id h1 h2 => ⟨h1, h2⟩, hg.size, fun b _ hb => hg.block b hb (by simp), fun b _ hx => hx, fun id b c e _ _ hc => ⟨c, (hg.block b (lt_of_block hc) (by simp)).trans hc, rfl⟩⟩
    (fun id ob hid => .inl ⟨hid, rfl, fun b hb => ?_⟩) h.inj h.mine h.free ?_ (fun b hb => hg.block b (h.olt b hb) (by simp)) (fun _ _ h => h)
  · obtain ⟨o, ho⟩ := (h.mem id ob hid).block hb
    exact hg.block b (lt_of_block ho) (by simp)
  · refine ⟨hg.os.trans h.kept.os, hg.tape.trans h.kept.tape, hg.output.trans h.kept.output, Nat.le_trans h.kept.size hg.size, fun b hb hR => (hg.block b (Nat.lt_of_lt_of_le hb h.kept.size) (by simp)).trans (h.kept.block b hb hR), fun b c e hc => ?_⟩
    obtain ⟨c', h1, h2⟩ := h.kept.cells b c e hc
    exact ⟨c', (hg.block b (lt_of_block h1) (by simp)).trans h1, h2⟩
theorem ranks_map {w w' : World} {X : Nat → Prop} {cell rank : List Int} {es : Array MapEntry} {clock : Nat} {blk : Nat → Nat} (hX : ∀ b, w.heap.size ≤ b → ¬X b)
    (hG : Grp (O2 (w.heap.size + 1)) w' w.heap.size ((gsOf cell rank cell.length).map fun p => (p.1, finZ p.2)) es clock blk) : DSim X w' (.map (ranksD cell rank)) (.map (some w.heap.size)) := by
  have hgl : ((gsOf cell rank cell.length).map fun p => (p.1, finZ p.2)).length = (keysOf cell).length := by simp [gsOf]
  have hgd : ∀ i, i < (keysOf cell).length → ((gsOf cell rank cell.length).map fun p => (p.1, finZ p.2)).getD i default = ((keysOf cell).getD i 0, ranksOf cell rank ((keysOf cell).getD i 0)) := by
    intro i hi
    simp only [gsOf, List.take_length, List.map_map, List.getD, List.getElem?_map, List.getElem?_eq_getElem hi, Option.map_some, Option.getD_some, Function.comp, finZ_eq]
    rfl
  refine .map _ _ es clock (hX _ (Nat.le_refl _)) (lt_of_block hG.heap) hG.heap (by rw [hG.size, hgl]; simp) hG.st (fun i hi => ?_) (fun i hi => ?_)
  · rw [List.length_map] at hi
    rw [hG.key i (by rw [hgl]; exact hi), hgd i hi, show ((keysOf cell).map fun c => (D.int .i64 c, dI (ranksOf cell rank c))).getD i (.nil, .nil) = (D.int .i64 ((keysOf cell).getD i 0), dI (ranksOf cell rank ((keysOf cell).getD i 0))) by simp [List.getD, hi]]
    exact .int .i64 _ (by simp)
  · rw [List.length_map] at hi
    have hv := hG.val i (by rw [hgl]; exact hi)
    rw [hgd i hi] at hv
    rw [show ((keysOf cell).map fun c => (D.int .i64 c, dI (ranksOf cell rank c))).getD i (.nil, .nil) = (D.int .i64 ((keysOf cell).getD i 0), dI (ranksOf cell rank ((keysOf cell).getD i 0))) by simp [List.getD, hi]]
    simp only
    generalize ranksOf cell rank ((keysOf cell).getD i 0) = zs at hv
    replace hv : O2 (w.heap.size + 1) w' (es.getD i default).val (blk i) zs := hv
    obtain ⟨cap, c, e, q1, q2, q3, q4, q5, q6, q7⟩ := hv
    rw [q1]
    have hl : (zs.map (D.int .i64)).length = zs.length := List.length_map _
    rw [← hl]
    refine .arr 1 (zs.map (D.int .i64)) (blk i) 0 cap (fun j => c.getD j undef) (hX _ (by omega)) (lt_of_block q3) (fun x hx => ?_) (by omega) (by omega) (fun j hj => ?_) (fun j k hj hk => ?_)
    · obtain ⟨y, -, rfl⟩ := List.mem_map.1 hx; rfl
    · have hjc : j < c.size := by omega
      simp [World.cell?, q3, Array.getD_eq_getD_getElem?, hjc]
    · have : k = 0 := by omega
      subst this
      rw [hl] at hj
      rw [Nat.mul_one, Nat.add_zero]
      rw [q7 j hj, show (zs.map (D.int .i64)).getD j .nil = .int .i64 (zs.getD j 0) by simp [List.getD, hj]]
      exact .int .i64 _ (by simp)
end Go.Ab
namespace Go.Ab
open Go Go.Proofs Go.MapKept
set_option linter.unusedVariables false
variable {T : Nat → Obj → Prop}
theorem ranks_own {cell rank : List Int} (hle : cell.length ≤ rank.length) (h64 : rank.length ≤ 64) : Fn Tryz.prog T f_plaus_ranks [.own 0, .own 1] [rowI cell, rowI rank] (.d (.map (ranksD cell rank))) [some (rowI cell), some (rowI rank)] := by
  refine fn_of_calls ⟨_, Tryz.func70, by decide, rfl⟩ fun B σ a w args hT hS hsz hargs => ?_
  have ha : args = #[args.getD 0 undef, args.getD 1 undef] := by
    apply Array.ext
    · simpa using hsz
    · intro i h1 h2
      match i, h2 with
      | 0, _ => simp [Array.getD, show 0 < args.size by omega]
      | 1, _ => simp [Array.getD, show 1 < args.size by omega]
  have h0 := hargs 0 (by simp)
  have h1 := hargs 1 (by simp)
  have fin : ∀ (e : Ending) (w' : World) (es : Array MapEntry) (clock : Nat) (blk : Nat → Nat), e = .returned (.map (some w.heap.size)) → w.grownBy w' none → Grp (O2 (w.heap.size + 1)) w' w.heap.size ((gsOf cell rank cell.length).map fun p => (p.1, finZ p.2)) es clock blk →
      ∃ v' σ', e = .returned v' ∧ Sim B (fun _ => .undef) (memG [some (rowI cell), some (rowI rank)]) (fun i => 2 ≤ i) σ' a w' ∧ VSim σ' (memG [some (rowI cell), some (rowI rank)]) (fun i => 2 ≤ i) (B.X σ' (memG [some (rowI cell), some (rowI rank)])) w' (.d (.map (ranksD cell rank))) v' ∧
        ∀ i ob, [rowI cell, rowI rank][i]? = some ob → memG [some (rowI cell), some (rowI rank)] i = none ∨ (σ' i = σ i ∧ ∃ ob', memG [some (rowI cell), some (rowI rank)] i = some ob' ∧ Shape ob ob') := by
    intro e w' es clock blk he hg hG
    refine ⟨_, σ, he, hS.grown hg, .d _ _ (ranks_map (fun b hb => ?_) hG), fun i ob hi => .inr ⟨rfl, ob, ?_, Shape.refl ob⟩⟩
    · rintro (h | ⟨id, h, h2⟩)
      · have := hS.olt b h; omega
      · obtain ⟨ob, hob⟩ := Option.ne_none_iff_exists'.1 h
        obtain ⟨o, ho⟩ := (hS.mem id ob hob).block h2
        have := lt_of_block ho; omega
    · match i, hi with
      | 0, hi => simpa [memG] using hi
      | 1, hi => simpa [memG] using hi
  rw [ha]
  have m0 : memG ([rowI cell, rowI rank].map some) 0 = some (rowI cell) := rfl
  have m1 : memG ([rowI cell, rowI rank].map some) 1 = some (rowI rank) := rfl
  change VSim _ _ _ _ _ (.own 0) _ at h0
  change VSim _ _ _ _ _ (.own 1) _ at h1
  generalize args.getD 0 undef = va at h0
  generalize args.getD 1 undef = vb at h1
  have rd : ∀ {g : Nat} {v : Value} {xs : List Int}, O2 0 w v g xs → ∃ cap, v = .slice (some ⟨g, 0, none⟩) xs.length cap ∧ g < w.heap.size ∧ ∀ j, j < xs.length → w.cell? ⟨g, 0 + j, none⟩ = some (.int .i64 (at0 xs j)) := by
    rintro g v xs ⟨cap, c, e, q1, -, q3, q4, q5, -, q7⟩
    refine ⟨cap, q1, lt_of_block q3, fun j hj => ?_⟩
    have hjc : j < c.size := by omega
    have := q7 j hj
    rw [Array.getD_eq_getD_getElem?, Array.getElem?_eq_getElem hjc] at this
    simp only [Option.getD_some] at this
    simp [World.cell?, q3, hjc, this, at0]
  by_cases hc : cell = []
  · subst hc
    have hv : ∃ a' cap, va = .slice a' 0 cap := by
      cases h0 with
      | ownDead _ ad l c g1 => rw [m0] at g1; cases g1
      | ownNil => exact ⟨none, 0, rfl⟩
      | own _ s xs b cap c e g1 g2 g3 g4 g5 =>
        rw [m0] at g1
        simp only [rowI, Option.some.injEq, Ob.row.injEq] at g1
        obtain ⟨-, rfl⟩ := g1
        exact ⟨_, cap, rfl⟩
    obtain ⟨a', cap, rfl⟩ := hv
    refine (ranks_none a' cap vb w).mono ?_
    rintro e w' ⟨he, hg, hh⟩
    exact fin e w' #[] 0 (fun _ => 0) he hg ⟨hh, ⟨fun i j hi => by simp at hi, fun i hi => by simp at hi⟩, rfl, fun i hi => by simp [gsOf, keysOf] at hi, fun i hi => by simp [gsOf, keysOf] at hi, fun i j hi => by simp [gsOf, keysOf] at hi⟩
  · have hpos : 0 < cell.length := List.length_pos_iff.2 hc
    obtain ⟨g1, -, o1⟩ := row_out h0 (hS.mem 0 _ m0) m0 (by omega) hc
    obtain ⟨g2, -, o2⟩ := row_out h1 (hS.mem 1 _ m1) m1 (by omega) (fun e => by rw [e] at hle; simp at hle; exact hc hle)
    obtain ⟨cap1, rfl, l1, c1⟩ := rd o1
    obtain ⟨cap2, rfl, l2, c2⟩ := rd o2
    refine (ranks_walk (T := T) g1 0 cap1 g2 0 cap2 rank.length cell rank w hpos hle (by omega) (fun b o ht => hS.pins b o (hT b o ht)) l1 l2 c1 (fun j hj => c2 j (by omega))).mono ?_
    rintro e w' ⟨he, hg, es, clock, blk, hG⟩
    exact fin e w' es clock blk he hg hG
end Go.Ab
namespace Go.Ab
open Go Go.Proofs
set_option linter.unusedSimpArgs false
set_option linter.unusedVariables false
set_option maxRecDepth 10000
set_option maxHeartbeats 4000000
def intsO:List D→Option (List Int)
 | []=>some []
 | .int .i64 n::r=>match intsO r with
  | some l=>some (n::l)
  | none=>none
 | _=>none
theorem intsO_ok : ∀ {ds:List D} {l:List Int},intsO ds=some l→ds=l.map (D.int .i64)
 | [],l,h=>by cases h;rfl
 | .int .i64 n::r,l,h=>by
  unfold intsO at h
  split at h
  ·rename_i l' h';cases h;rw [intsO_ok h'];rfl
  ·cases h
def wordsO:List D→Option (List (BitVec 64))
 | []=>some []
 | .u64 n::r=>match wordsO r with
  | some l=>some (n::l)
  | none=>none
 | _=>none
theorem wordsO_ok : ∀ {ds:List D} {l:List (BitVec 64)},wordsO ds=some l→ds=l.map D.u64
 | [],l,h=>by cases h;rfl
 | .u64 n::r,l,h=>by
  unfold wordsO at h
  split at h
  ·rename_i l' h';cases h;rw [wordsO_ok h'];rfl
  ·cases h
def listsO:List D→Option (List (List Int))
 | []=>some []
 | .arr 1 x::r=>match intsO x with
  | some a=>match listsO r with
   | some l=>some (a::l)
   | none=>none
  | none=>none
 | _=>none
theorem listsO_ok : ∀ {ds:List D} {l:List (List Int)},listsO ds=some l→ds=l.map dI
 | [],l,h=>by cases h;rfl
 | .arr 1 x::r,l,h=>by
  replace h:(match intsO x with
   | some a=>match listsO r with
    | some l=>some (a::l)
    | none=>none
   | none=>none)=some l:=h
  cases h1:intsO x with
  | none=>rw [h1] at h;cases h
  | some a =>
   cases h2:listsO r with
   | none=>rw [h1,h2] at h;cases h
   | some l'=>rw [h1,h2] at h;cases h;rw [listsO_ok h2,intsO_ok h1];rfl
def okI (l:List Int):Bool:=l.all fun x=>decide (-9223372036854775808≤x)&&decide (x≤9223372036854775807)
def itsP:Nat→List V→List Ob→Option (List (List D)):=fun g vs obs =>
 cond (Nat.beq g f_relation_points_1) (match vs,obs with
  | [.ptr 0 0],[.box [.d (.u64 s)]]=>some (dBits s)
  | _,_=>none)
 (cond (Nat.beq g f_plausbisim_links_1) (match vs,obs with
  | [.ptr 0 0],[.box [.d (.int .i64 W),.d (.arr 1 vl),.d (.arr 1 cs),.d (.arr 1 rs)]]=>match wordsO vl,listsO cs,listsO rs with
   | some vl,some cs,some rs=>cond (rs.all okI&&decide (checkL ⟨W,vl,cs,rs⟩=0)) (some (linksF ⟨W,vl,cs,rs⟩ 0)) none
   | _,_,_=>none
  | _,_=>none) none)
def knownP:Fs:=fun f vs obs =>
 cond (Nat.beq f f_plaus_ranks) (match vs,obs with
  | [.d (.arr 1 a),.d (.arr 1 b)],[]=>match intsO a,intsO b with
   | some a,some b=>cond (Nat.ble a.length b.length&&Nat.ble a.length 64) (some (.d (.map (ranksD a b)),[])) none
   | _,_=>none
  | [.own 0,.own 1],[.row 1 a,.row 1 b]=>match intsO a,intsO b with
   | some a,some b=>cond (Nat.ble a.length b.length&&Nat.ble b.length 64) (some (.d (.map (ranksD a b)),[some (.row 1 (a.map (D.int .i64))),some (.row 1 (b.map (D.int .i64)))])) none
   | _,_=>none
  | _,_=>none)
 (cond (Nat.beq f f_math_bits_TrailingZeros64) (match vs,obs with
  | [.d (.u64 w)],[]=>some (.d (.int .i64 (Lib.ctz 64 w.toNat)),[])
  | _,_=>none)
 (cond (Nat.beq f f_math_bits_Len64) (match vs,obs with
  | [.d (.u64 w)],[]=>some (.d (.int .i64 (Sort.bitsLen w.toNat:Int)),[])
  | _,_=>none)
 (cond (Nat.beq f f_math_bits_Len) (match vs,obs with
  | [.d (.u64 w)],[]=>some (.d (.int .i64 (Sort.bitsLen w.toNat:Int)),[])
  | _,_=>none) none)))
def ownP (f:Nat):Bool:=Nat.beq f f_plausbisim_links||(Nat.beq f f_relation_points||Nat.beq f f_plausbisim_makerFor)
noncomputable def cfgP:Cfg:=⟨compFn Tryz.prog,knownP,itsP,ownP,fun f=>Nat.beq f f_wittinglaw35_awake,150⟩
theorem okI_ok {rs:List (List Int)} (h:rs.all okI=true):IntsOk rs:=by
 intro r hr x hx
 have h1:=List.all_eq_true.1 (List.all_eq_true.1 h r hr) x hx
 rw [Bool.and_eq_true,decide_eq_true_eq,decide_eq_true_eq] at h1
 exact h1
variable {T:Nat→Obj→Prop}
theorem its_ok (hT:TzOk T) : ∀ g vs obs xs,itsP g vs obs=some xs→It Tryz.prog T g vs obs xs:=by
 intro g vs obs xs h
 unfold itsP at h
 cases hg:Nat.beq g f_relation_points_1 with
 | true =>
  rw [hg,cond_true] at h
  rw [Nat.eq_of_beq_eq_true hg]
  split at h
  ·cases h;exact it_points_1 hT _
  ·cases h
 | false =>
  rw [hg,cond_false] at h
  cases hg2:Nat.beq g f_plausbisim_links_1 with
  | true =>
   rw [hg2,cond_true] at h
   rw [Nat.eq_of_beq_eq_true hg2]
   split at h
   ·split at h
    ·rename_i vl' cs' rs' h1 h2 h3
     rename_i vl cs rs _ _ _
     rw [wordsO_ok h1,listsO_ok h2,listsO_ok h3]
     cases hb:rs'.all okI&&decide (checkL ⟨_,vl',cs',rs'⟩=0) with
     | true =>
      rw [hb] at h
      rw [Bool.and_eq_true,decide_eq_true_eq] at hb
      cases h
      exact it_links ranks_ok _ (okI_ok hb.1) hb.2
     | false=>rw [hb] at h;cases h
    ·cases h
   ·cases h
  | false=>rw [hg2] at h;cases h
theorem known_ok (hT:TzOk T):FsOk Tryz.prog T knownP:=by
 intro f vs obs v obs' h
 unfold knownP at h
 cases h1:Nat.beq f f_plaus_ranks with
 | true =>
  rw [h1,cond_true] at h
  rw [Nat.eq_of_beq_eq_true h1]
  split at h
  ·split at h
   ·rename_i a b ha hb
    rw [intsO_ok ha,intsO_ok hb]
    cases hc:Nat.ble a.length b.length&&Nat.ble a.length 64 with
    | true =>
     rw [hc] at h
     rw [Bool.and_eq_true,Nat.ble_eq,Nat.ble_eq] at hc
     cases h
     exact ranks_ok _ _ hc.1 hc.2
    | false=>rw [hc] at h;cases h
   ·cases h
  ·split at h
   ·rename_i a b ha hb
    rw [intsO_ok ha,intsO_ok hb]
    cases hc:Nat.ble a.length b.length&&Nat.ble b.length 64 with
    | true =>
     rw [hc] at h
     rw [Bool.and_eq_true,Nat.ble_eq,Nat.ble_eq] at hc
     cases h
     exact ranks_own hc.1 hc.2
    | false=>rw [hc] at h;cases h
   ·cases h
  ·cases h
 | false =>
  rw [h1,cond_false] at h
  cases h2:Nat.beq f f_math_bits_TrailingZeros64 with
  | true =>
   rw [h2,cond_true] at h
   rw [Nat.eq_of_beq_eq_true h2]
   split at h
   ·cases h;exact hT _
   ·cases h
  | false =>
   rw [h2,cond_false] at h
   cases h3:Nat.beq f f_math_bits_Len64 with
   | true =>
    rw [h3,cond_true] at h
    rw [Nat.eq_of_beq_eq_true h3]
    split at h
    ·cases h;exact fn_Len64 _
    ·cases h
   | false =>
    rw [h3,cond_false] at h
    cases h4:Nat.beq f f_math_bits_Len with
    | true =>
     rw [h4,cond_true] at h
     rw [Nat.eq_of_beq_eq_true h4]
     split at h
     ·cases h;exact fn_Len _
     ·cases h
    | false=>rw [h4] at h;cases h
theorem cfg_ok (hT:TzOk T):CfgOk Tryz.prog T cfgP:=⟨fun f c h=>h,known_ok hT,its_ok hT⟩
end Go.Ab
