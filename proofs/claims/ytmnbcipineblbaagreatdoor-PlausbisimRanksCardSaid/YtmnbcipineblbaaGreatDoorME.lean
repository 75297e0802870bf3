/- A part of the proofs of this seat: functions and their contracts. -/
import Derived.Test.YtmnbcipineblbaaGreatDoorMD
import Derived.Shelf.Sort.Plain
import Derived.Sort.OwnSortedInts
import Derived.Sort.AssemblyPlain
import Derived.Deep.RegionLaw
import Derived.Deep.AppendLies
import Derived.Deep.DrawnRows
set_option linter.unusedVariables false
set_option linter.unusedSimpArgs false
set_option linter.unusedSectionVars false
namespace Go.Ab
open Go Go.Proofs Go.MapKept
variable {T : Nat → Obj → Prop}
def O2 (base : Nat) (w : World) (v : Value) (g : Nat) (zs : List Int) : Prop := ∃ cap c e, v = .slice (some ⟨g, 0, none⟩) zs.length cap ∧ base ≤ g ∧ w.heap[g]? = some (.cells c e (0, 0)) ∧ zs.length ≤ cap ∧ cap ≤ c.size ∧ zs.length ≤ 536870912 ∧
  ∀ j, j < zs.length → c.getD j undef = .int .i64 (zs.getD j 0)
def zak (zs : List Int) : Ob := .row 1 (zs.map (D.int .i64))
theorem O2.kept {base : Nat} {w w' : World} {v : Value} {g : Nat} {zs : List Int} (h : O2 base w v g zs) (hg : w'.heap[g]? = w.heap[g]?) : O2 base w' v g zs := by
  obtain ⟨cap, c, e, h1, h2, h3, h4⟩ := h
  exact ⟨cap, c, e, h1, h2, hg.trans h3, h4⟩
def zoS (T : Nat → Obj → Prop) (w : World) (g : Nat) : zn where
  w0 := w
  O := fun b => b < w.heap.size ∧ b ≠ g
  R := fun b => b = g
  nt := 0
  pin := fun b o => T b o ∧ w.heap[b]? = some o ∧ b ≠ g
  pinO := fun b o h => ⟨zf h.2.1, h.2.2⟩
  ghost := fun _ => undef
  small := Nat.zero_le _
  dfr := []
  inv := fun _ _ _ _ => True
  stab := fun _ _ _ _ _ _ _ _ _ _ _ _ => trivial
  mono := fun _ _ _ _ _ _ _ => trivial
theorem zxa {base : Nat} {w : World} {v : Value} {g : Nat} {zs : List Int} (h : O2 base w v g zs) :
    Sim (zoS T w g) (fun _ => .undef) (zk [some (zak zs)]) (fun i => 1 ≤ i) (fun _ => some g) ⟨#[], []⟩ w ∧
    VSim (fun _ => some g) (zk [some (zak zs)]) (fun i => 1 ≤ i) ((zoS T w g).X (fun _ => some g) (zk [some (zak zs)])) w (.own 0) v := by
  obtain ⟨cap, c, e, rfl, h2, h3, h4, h5, h6, h7⟩ := h
  have hm : ∀ i, zk [some (zak zs)] i = if i = 0 then some (zak zs) else none := fun i => by
    match i with
    | 0 => rfl
    | i + 1 => rfl
  have e0 : ∀ i, zk [some (zak zs)] i ≠ none → i = 0 := fun i hi => by
    rw [hm] at hi
    by_cases h : i = 0
    · exact h
    · rw [if_neg h] at hi; exact absurd rfl hi
  refine ⟨⟨fun t => .undef _, fun id ob hid => ?_, fun i j b hi hj _ _ => by rw [e0 i hi, e0 j hj], fun id b hi hb => ?_, fun id hid => by rw [hm, if_neg (by omega)], ⟨rfl, rfl, rfl, Nat.le_refl _, fun _ _ _ => rfl, fun b c e h => ⟨c, h, rfl⟩⟩, ⟨rfl, rfl⟩, fun b hb => hb.1, fun b o h => h.2.1, fun _ _ _ => trivial⟩, ?_⟩
  · rw [hm] at hid
    by_cases h : id = 0
    · rw [if_pos h] at hid
      cases hid
      refine .row 1 (zs.map (D.int .i64)) g c e rfl h3 (by rw [List.length_map]; omega) (by rw [List.length_map]; omega) (fun x hx => ?_) (fun i j hi hj => ?_)
      · obtain ⟨y, -, rfl⟩ := List.mem_map.1 hx
        rfl
      · rw [List.length_map] at hi
        have : j = 0 := by omega
        subst this
        rw [Nat.mul_one, Nat.add_zero, h7 i hi]
        rw [show (zs.map (D.int .i64)).getD i .nil = .int .i64 (zs.getD i 0) by simp [List.getD, hi]]
        exact .int .i64 _ (by simp)
    · rw [if_neg h] at hid; cases hid
  · cases hb
    exact ⟨fun h => h.2 rfl, .inl rfl⟩
  · have := VSim.own (σ := fun _ => some g) (M := zk [some (zak zs)]) (F := fun i => 1 ≤ i) (X := (zoS T w g).X (fun _ => some g) (zk [some (zak zs)])) (w := w) 0 1 (zs.map (D.int .i64)) g cap c e rfl rfl h3 (by rw [List.length_map]; omega) (by omega)
    rwa [List.length_map] at this
theorem zsf {w w' : World} {g : Nat} (h : zrM (fun b => b = g) w w') : w.grownBy w' (some g) :=
  ⟨h.os, h.tape, h.output, h.size, fun b hb hne => h.block b hb (fun e => hne (by rw [e]))⟩
theorem znE {σ : Nat → Option Nat} {M : Nat → Option Ob} {F X : Nat → Prop} {w : World} {id : Nat} {ys : List Int} {v : Value} (hV : VSim σ M F X w (.own id) v) (hO : zaL σ M F X w id (zak ys)) (hm : M id = some (zak ys)) (hl : ys.length ≤ 536870912) (h0 : ys ≠ []) :
    ∃ g, σ id = some g ∧ O2 0 w v g ys := by
  have hlen : (ys.map (D.int .i64)).length = ys.length := List.length_map _
  unfold zak at hm hO
  have pos : 0 < ys.length := List.length_pos_iff.2 h0
  cases hV with
  | ownDead _ ad l c h1 => rw [hm] at h1; cases h1
  | ownNil _ s h1 => rw [hm] at h1; simp at h1; exact absurd h1.2 h0
  | own _ s xs b cap c e h1 h2 h3 h4 h5 =>
    rw [hm] at h1
    simp only [Option.some.injEq, Ob.row.injEq] at h1
    obtain ⟨rfl, rfl⟩ := h1
    refine ⟨b, h2, cap, c, e, by rw [hlen], Nat.zero_le _, h3, by omega, by omega, hl, fun j hj => ?_⟩
    generalize hxs : ys.map (D.int .i64) = xs at hO hlen
    cases hO with
    | nilrow s h => rw [List.length_nil] at hlen; omega
    | row s xs' b' c' e' g1 g2 g3 g4 g5 g6 =>
      rw [h2] at g1; cases g1
      rw [h3] at g2; cases g2
      have := g6 j 0 (by omega) (by omega)
      rw [Nat.mul_one, Nat.add_zero, ← hxs, show (ys.map (D.int .i64)).getD j .nil = .int .i64 (ys.getD j 0) by simp [List.getD, hj]] at this
      generalize c.getD j undef = z at this ⊢
      cases this; rfl
theorem zpl {f : Nat} {zs ys : List Int} {id : Nat} {obs' : List (Option Ob)} (hf : Fn Tryz.prog T f [.own 0] [zak zs] (.own id) obs') (hid : zk obs' id = some (zak ys)) (hl : ys.length ≤ 536870912) (h0 : ys ≠ [])
    {base : Nat} {w : World} {v : Value} {g : Nat} (h : O2 base w v g zs) (hT : ∀ b o, T b o → w.heap[b]? = some o ∧ b ≠ g) (hb : base ≤ w.heap.size) :
    Calls Tryz.prog f #[v] w fun e w' => ∃ v' g', e = .returned v' ∧ O2 base w' v' g' ys ∧ (g' = g ∨ w.heap.size ≤ g') ∧ w.grownBy w' (some g) := by
  obtain ⟨hS, hV⟩ := zxa (T := T) h
  have hbg : base ≤ g := by obtain ⟨_, _, _, _, h2, _⟩ := h; exact h2
  intro cs
  obtain ⟨v', w', σ', ⟨fr, hc, hfn, hlk⟩, hS', hV', -⟩ := hf.2 (zoS T w g) (fun _ => some g) ⟨#[], []⟩ w #[v] (fun b o ht => ⟨ht, hT b o ht⟩) (fun _ _ _ _ => trivial) hS rfl (fun i hi => by
    match i, hi with
    | 0, _ => exact hV) cs
  obtain ⟨g', hg', cap, c, e, q1, -, q2⟩ := znE hV' (hS'.mem id _ hid) hid hl h0
  have hmine := (hS'.mine id g' (by rw [hid]; simp) hg').2
  refine ⟨.returned v', w', fr, ⟨v', g', rfl, ⟨cap, c, e, q1, ?_, q2⟩, hmine, zsf hS'.kept⟩, hc, hfn, hlk⟩
  rcases hmine with rfl | h
  · exact hbg
  · exact Nat.le_trans hb h
end Go.Ab
namespace Go.Ab
open Go Go.Proofs Go.MapKept
def inC (rank cell : List Int) (k : Nat) (c : Int) : List Int := ((List.range k).filter fun w => at0 cell w == c).map (at0 rank)
def zB (cell rank : List Int) (k : Nat) : GI := (zw (cell.take k)).map fun c => (c, inC rank cell k c)
theorem ziv {cell rank : List Int} {k : Nat} {c : Int} : inC rank cell (k + 1) c = inC rank cell k c ++ (if at0 cell k = c then [at0 rank k] else []) := by
  unfold inC
  rw [List.range_succ, List.filter_append, List.map_append]
  congr 1
  by_cases h : at0 cell k = c
  · simp [h]
  · simp [h]
theorem zrp {cell rank : List Int} {k : Nat} {c : Int} : (inC rank cell k c).length ≤ k := by
  unfold inC
  rw [List.length_map]
  have := List.length_filter_le (fun w => at0 cell w == c) (List.range k)
  rwa [List.length_range] at this
theorem zln {l : List Int} {c : Int} : zw (l ++ [c]) = if c ∈ zw l then zw l else zw l ++ [c] := by
  simp only [zw, List.foldl_append, List.foldl_cons, List.foldl_nil]
  by_cases h : c ∈ List.foldl (fun l c => if c ∈ l then l else l ++ [c]) [] l
  · exact (if_pos h).trans (if_pos h).symm
  · exact (if_neg h).trans (if_neg h).symm
theorem zmS : ∀ {l acc : List Int}, acc.Nodup → (l.foldl (fun l c => if c ∈ l then l else l ++ [c]) acc).Nodup
  | [], acc, h => h
  | x :: l, acc, h => by
    rw [List.foldl_cons]
    refine zmS ?_
    split
    · exact h
    · rename_i hx
      exact List.nodup_append.2 ⟨h, by simp, fun a ha b hb => by simp at hb; subst hb; intro e; subst e; exact hx ha⟩
theorem zka {l : List Int} : (zw l).Nodup := zmS List.nodup_nil
theorem zqz {cell : List Int} {k : Nat} (h : k < cell.length) : cell.take (k + 1) = cell.take k ++ [at0 cell k] := by
  rw [List.take_add_one, zhC h]; rfl
theorem zn5 {cell rank : List Int} {k : Nat} : (zB cell rank k).map Prod.fst = zw (cell.take k) := by
  rw [zB, List.map_map]
  exact (List.map_congr_left fun _ _ => rfl).trans (List.map_id _)
theorem zww {cell rank : List Int} {k : Nat} (hk : k < cell.length) (h : at0 cell k ∉ (zB cell rank k).map Prod.fst) : zB cell rank (k + 1) = zB cell rank k ++ [(at0 cell k, [at0 rank k])] := by
  rw [zn5] at h
  have h0 : inC rank cell k (at0 cell k) = [] := by
    rw [inC, List.map_eq_nil_iff, List.filter_eq_nil_iff]
    intro w hw he
    rw [List.mem_range] at hw
    refine h (ziG.2 ?_)
    rw [← (show at0 cell w = at0 cell k by simpa using he)]
    exact List.mem_of_getElem? (i := w) (by rw [List.getElem?_take, if_pos hw, zhC (by omega)])
  rw [zB, zqz hk, zln, if_neg h, List.map_append]
  congr 1
  · refine List.map_congr_left fun c hc => ?_
    rw [ziv, if_neg (fun e => h (by rw [e]; exact hc)), List.append_nil]
  · simp [ziv, h0]
theorem zwx {cell rank : List Int} {k i : Nat} (hk : k < cell.length) (hi : i < (zB cell rank k).length) (hc : ((zB cell rank k).getD i default).1 = at0 cell k) :
    zB cell rank (k + 1) = (zB cell rank k).set i (at0 cell k, ((zB cell rank k).getD i default).2 ++ [at0 rank k]) := by
  have hl : i < (zw (cell.take k)).length := by simpa [zB] using hi
  have hg : ∀ j (hj : j < (zw (cell.take k)).length), (zB cell rank k)[j]'(by simpa [zB] using hj) = ((zw (cell.take k))[j], inC rank cell k (zw (cell.take k))[j]) := fun j hj => by simp [zB]
  have hci : (zw (cell.take k))[i] = at0 cell k := by
    rw [← hc]; simp [List.getD, hi, hg i hl]
  have hm : at0 cell k ∈ zw (cell.take k) := by rw [← hci]; exact List.getElem_mem _
  have hn : zB cell rank (k + 1) = (zw (cell.take k)).map fun c => (c, inC rank cell (k + 1) c) := by rw [zB, zqz hk, zln, if_pos hm]
  rw [hn]
  refine List.ext_getElem (by simp [zB]) fun j h1 h2 => ?_
  have hj : j < (zw (cell.take k)).length := by simpa using h1
  rw [List.getElem_map, List.getElem_set]
  by_cases e : i = j
  · subst e
    rw [if_pos rfl, hci, ziv, if_pos rfl]
    simp [List.getD, hi, hg i hl, hci]
  · rw [if_neg e, hg j hj, ziv, if_neg, List.append_nil]
    intro h
    exact e ((List.getElem_inj zka).1 (hci.trans h))
def O1 (base : Nat) (w : World) (v : Value) (g : Nat) (zs : List Int) : Prop := w.ownsRow base 3 1 v zs.length (zs.map (Value.int .i64)) ∧ v.ownBlock = some g
theorem O1.kept {base : Nat} {w w' : World} {v : Value} {g : Nat} {zs : List Int} {row : Option Nat} (h : O1 base w v g zs) (hg : w.grownBy w' row) (hne : some g ≠ row) : O1 base w' v g zs := ⟨h.1.kept hg (.inr (by rw [h.2]; exact hne)), h.2⟩
theorem O1.lt {base : Nat} {w : World} {v : Value} {g : Nat} {zs : List Int} (h : O1 base w v g zs) : base ≤ g ∧ g < w.heap.size := h.1.lt g h.2
theorem O1.O2 {base : Nat} {w : World} {v : Value} {g : Nat} {zs : List Int} (h : O1 base w v g zs) (hl : zs.length ≤ 536870912) : O2 base w v g zs := by
  obtain ⟨⟨h1, h2⟩, h3⟩ := h
  rcases h2 with ⟨rfl, h2⟩ | ⟨g', cap, cur, rfl, h4, h5, h6, h7, h8, h9⟩
  · cases h3
  · cases h3
    refine ⟨cap, cur, 3, rfl, h4, h5, h6, by omega, hl, fun j hj => ?_⟩
    have : (cur.toList.take (zs.length * 1))[j]? = some (Value.int .i64 (zs.getD j 0)) := by rw [h9]; simp [hj, List.getD]
    rw [List.getElem?_take, if_pos (by omega)] at this
    rw [Array.getD_eq_getD_getElem?, ← Array.getElem?_toList, this]; rfl
theorem zdS (w : World) (m : Nat) (o : Obj) : w.grownBy { w with heap := w.heap.setIfInBounds m o } (some m) :=
  ⟨rfl, rfl, rfl, by simp, fun k _ hk => by simp [Array.getElem?_setIfInBounds_ne (fun e : m = k => hk (by rw [e]))]⟩
section
variable {w : World} {base m : Nat} {gs : GI} {es : Array MapEntry} {clock : Nat} {blk : Nat → Nat}
theorem Grp.look1 (h : Grp (O1 base) w m gs es clock blk) (hmb : m < base) (c : Int) : ∃ v zs, ∃ tgt : List Int → GI, (v.ownBlock ≠ some m) ∧ (∀ w', w'.heap[m]? = w.heap[m]? → (Instr.lookup 90 (.map (some m)) (.int .i64 c) false).run Tryz.prog w' = .ok v w') ∧ w.ownsRow base 3 1 v zs.length (zs.map (Value.int .i64)) ∧
    ((∃ i, i < gs.length ∧ (gs.getD i default).1 = c ∧ zs = (gs.getD i default).2 ∧ tgt = fun ys => gs.set i (c, ys)) ∨ (c ∉ gs.map Prod.fst ∧ zs = [] ∧ tgt = fun ys => gs ++ [(c, ys)])) ∧
    ∀ w1 v' x, w.grownBy w1 v.ownBlock → w1.ownsRow base 3 1 v' (zs.length + 1) (zs.map (Value.int .i64) ++ [.int .i64 x]) → (v'.ownBlock = v.ownBlock ∨ v'.ownBlock = some w.heap.size ∨ ∃ g, v'.ownBlock = some g ∧ w.heap.size ≤ g) →
      ∃ w2 es' clock' blk', (Instr.mapUpdate 90 (.map (some m)) (.int .i64 c) v').run Tryz.prog w1 = .ok () w2 ∧ Grp (O1 base) w2 m (tgt (zs ++ [x])) es' clock' blk' ∧ w1.grownBy w2 (some m) := by
  have hmw : m < w.heap.size := zf h.heap
  have nn : ∀ {w1 : World} {v' : Value} {zs : List Int} {x : Int}, w1.ownsRow base 3 1 v' (zs.length + 1) (zs.map (Value.int .i64) ++ [.int .i64 x]) → ∃ g, O1 base w1 v' g (zs ++ [x]) := by
    intro w1 v' zs x ho
    have ho' : w1.ownsRow base 3 1 v' (zs ++ [x]).length ((zs ++ [x]).map (Value.int .i64)) := by simpa using ho
    rcases ho.2 with ⟨_, h0⟩ | ⟨g, cap, cur, rfl, _⟩
    · omega
    · exact ⟨g, ho', rfl⟩
  rcases h.find c with ⟨hn, hf⟩ | ⟨i, hi, hc, hf⟩
  · refine ⟨_, [], _, by simp [Value.ownBlock], fun w' hw' => zsh (hw'.trans h.heap) hf, World.ownsRow_nil _ _ _ _, .inr ⟨hn, rfl, rfl⟩, fun w1 v' x hg ho hl => ?_⟩
    obtain ⟨g, hv⟩ := nn ho
    have hgw : w.heap.size ≤ g := by
      rcases hl with h1 | h1 | ⟨g', h1, h2⟩
      · rw [hv.2] at h1; cases h1
      · rw [hv.2] at h1; cases h1; exact Nat.le_refl _
      · rw [hv.2] at h1; cases h1; exact h2
    have hm1 : w1.heap[m]? = some (.map es clock) := (hg.block m hmw (by simp [Value.ownBlock])).trans h.heap
    obtain ⟨es', h1, h2⟩ := h.add (w1 := w1) (c := c) (v := v') (g := g) (zs := [] ++ [x]) hf hm1
      (fun o => hv.kept (zdS w1 m o) (by simp; have := hv.lt; omega))
      (fun o j hj => ((h.val j hj).kept hg (by simp [Value.ownBlock])).kept (zdS w1 m o) (by have := (h.val j hj).lt; simp; omega))
      (fun j hj => by have := (h.val j hj).lt; omega)
    exact ⟨_, es', _, _, h1, h2, zdS _ _ _⟩
  · have hvi := h.val i hi
    refine ⟨_, (gs.getD i default).2, _, by rw [hvi.2]; have := hvi.lt; simp; omega, fun w' hw' => zsi (hw'.trans h.heap) hf, hvi.1, .inl ⟨i, hi, hc, rfl, rfl⟩, fun w1 v' x hg ho hl => ?_⟩
    rw [hvi.2] at hg hl
    obtain ⟨g, hv⟩ := nn ho
    have hgw : g = blk i ∨ w.heap.size ≤ g := by
      rcases hl with h1 | h1 | ⟨g', h1, h2⟩
      · rw [hv.2] at h1; cases h1; exact .inl rfl
      · rw [hv.2] at h1; cases h1; exact .inr (Nat.le_refl _)
      · rw [hv.2] at h1; cases h1; exact .inr h2
    have hmi : m ≠ blk i := by have := hvi.lt; omega
    have hm1 : w1.heap[m]? = some (.map es clock) := (hg.block m hmw (by simpa using hmi)).trans h.heap
    have hne : ∀ j, j < gs.length → j ≠ i → blk j ≠ blk i := fun j hj hji e => hji (h.apart j i hj hi e)
    obtain ⟨es', h1, h2, -⟩ := h.set (w1 := w1) (c := c) (u := (es.getD i default).val) (v := v') (g := g) (zs := (gs.getD i default).2 ++ [x]) hi hc hf hm1
      (fun o => hv.kept (zdS w1 m o) (by simp; have := hv.lt; omega))
      (fun o j hj hji => ((h.val j hj).kept hg (by simpa using hne j hj hji)).kept (zdS w1 m o) (by have := (h.val j hj).lt; simp; omega))
      (fun j hj hji => by
        have := (h.val j hj).lt
        rcases hgw with rfl | h3
        · exact hne j hj hji
        · omega)
    exact ⟨_, es', _, _, h1, h2, zdS _ _ _⟩
end
end Go.Ab
namespace Go.Proofs
def Tryz.lays189_ren : Go.Shelf.Ren := ⟨fun | 189 => 110 | 125 => 124 | 257 => 143 | 128 => 158 | 129 => 159 | 294 => 166 | 295 => 167 | 296 => 168 | 297 => 169 | 298 => 170 | 299 => 171 | 216 => 172 | 300 => 173 | 301 => 174 | 328 => 192 | 329 => 179 | 330 => 180 | 331 => 193 | 332 => 194 | 215 => 195 | 343 => 201 | n => n, fun | 28 => 28 | 3 => 3 | 46 => 101 | 0 => 0 | 51 => 158 | 53 => 44 | 4 => 4 | 183 => 151 | 182 => 150 | 131 => 122 | 5 => 5 | 9 => 9 | 218 => 172 | 222 => 176 | 228 => 188 | 229 => 37 | n => n, fun | n => n⟩
theorem Tryz.lays189 : Go.Proofs.Lays.n189 Tryz.prog Tryz.lays189_ren := {
  mixed := by kernel_rfl
  f125 := Tryz.func124.trans (congrArg some (by kernel_rfl))
  f128 := Tryz.func158.trans (congrArg some (by kernel_rfl))
  f129 := Tryz.func159.trans (congrArg some (by kernel_rfl))
  f189 := Tryz.func110.trans (congrArg some (by kernel_rfl))
  f215 := Tryz.func195.trans (congrArg some (by kernel_rfl))
  f216 := Tryz.func172.trans (congrArg some (by kernel_rfl))
  f257 := Tryz.func143.trans (congrArg some (by kernel_rfl))
  f294 := Tryz.func166.trans (congrArg some (by kernel_rfl))
  f295 := Tryz.func167.trans (congrArg some (by kernel_rfl))
  f296 := Tryz.func168.trans (congrArg some (by kernel_rfl))
  f297 := Tryz.func169.trans (congrArg some (by kernel_rfl))
  f298 := Tryz.func170.trans (congrArg some (by kernel_rfl))
  f299 := Tryz.func171.trans (congrArg some (by kernel_rfl))
  f300 := Tryz.func173.trans (congrArg some (by kernel_rfl))
  f301 := Tryz.func174.trans (congrArg some (by kernel_rfl))
  f328 := Tryz.func192.trans (congrArg some (by kernel_rfl))
  f329 := Tryz.func179.trans (congrArg some (by kernel_rfl))
  f330 := Tryz.func180.trans (congrArg some (by kernel_rfl))
  f331 := Tryz.func193.trans (congrArg some (by kernel_rfl))
  f332 := Tryz.func194.trans (congrArg some (by kernel_rfl))
  f343 := Tryz.func201.trans (congrArg some (by kernel_rfl))
  t0 := Tryz.underlying0
  a0 := Tryz.isAgg0
  z0 := Tryz.sizeOf0
  v0 := Tryz.zeroValue0
  t3 := Tryz.underlying3
  a3 := Tryz.isAgg3
  z3 := Tryz.sizeOf3
  v3 := Tryz.zeroValue3
  t4 := Tryz.underlying4
  a4 := Tryz.isAgg4
  z4 := Tryz.sizeOf4
  v4 := Tryz.zeroValue4
  t5 := Tryz.underlying5
  a5 := Tryz.isAgg5
  z5 := Tryz.sizeOf5
  v5 := Tryz.zeroValue5
  t9 := Tryz.underlying9
  a9 := Tryz.isAgg9
  z9 := Tryz.sizeOf9
  v9 := Tryz.zeroValue9
  t28 := Tryz.underlying28
  a28 := Tryz.isAgg28
  z28 := Tryz.sizeOf28
  v28 := Tryz.zeroValue28
  t46 := Tryz.underlying101
  a46 := Tryz.isAgg101
  z46 := Tryz.sizeOf101
  v46 := Tryz.zeroValue101
  t51 := Tryz.underlying158
  a51 := Tryz.isAgg158
  z51 := Tryz.sizeOf158
  v51 := Tryz.zeroValue158
  t53 := Tryz.underlying44
  a53 := Tryz.isAgg44
  z53 := Tryz.sizeOf44
  v53 := Tryz.zeroValue44
  t131 := Tryz.underlying122
  a131 := Tryz.isAgg122
  z131 := Tryz.sizeOf122
  v131 := Tryz.zeroValue122
  t182 := Tryz.underlying150
  a182 := Tryz.isAgg150
  z182 := Tryz.sizeOf150
  v182 := Tryz.zeroValue150
  t183 := Tryz.underlying151
  a183 := Tryz.isAgg151
  z183 := Tryz.sizeOf151
  v183 := Tryz.zeroValue151
  t218 := Tryz.underlying172
  a218 := Tryz.isAgg172
  z218 := Tryz.sizeOf172
  v218 := Tryz.zeroValue172
  t222 := Tryz.underlying176
  a222 := Tryz.isAgg176
  z222 := Tryz.sizeOf176
  v222 := Tryz.zeroValue176
  t228 := Tryz.underlying188
  a228 := Tryz.isAgg188
  z228 := Tryz.sizeOf188
  v228 := Tryz.zeroValue188
  t229 := Tryz.underlying37
  a229 := Tryz.isAgg37
  z229 := Tryz.sizeOf37
  v229 := Tryz.zeroValue37 }
end Go.Proofs
namespace Go.Ab
open Go Go.Proofs Go.MapKept
open Go.ChangeMaps (setBlock)
variable {T : Nat → Obj → Prop}
def zdF (zs : List Int) : List Int := ddA (Sort.sort Sort.ltInt zs.toArray) (Sort.sort Sort.ltInt zs.toArray).size
theorem zr2 {d : Array Int} : ∀ {n : Nat}, 0 < n → ddA d n ≠ []
  | 1, _ => by simp [ddA]
  | n + 2, _ => by
    rw [ddA]
    split
    · exact zr2 (Nat.succ_pos n)
    · simp
theorem zpp {α : Type} [Inhabited α] [DecidableEq α] {d : Array α} : ∀ {n : Nat}, (ddA d n).length ≤ n
  | 0 => Nat.le_refl 0
  | n + 1 => by
    have := zpp (d := d) (n := n)
    rw [ddA]
    split
    · omega
    · simp; omega
theorem zou (d : Array Int) : (Sort.sort Sort.ltInt d).size = d.size := zuZ Sort.swo_ltInt d.size d 0 d.size _ true true (by omega) (Nat.zero_le _) (Nat.le_refl _)
theorem zpk {d : Array Int} (hl : d.size ≤ 536870912) (h0 : 0 < d.size) {base : Nat} {w : World} {v : Value} {g : Nat} (h : O2 base w v g d.toList) (hT : ∀ b o, T b o → w.heap[b]? = some o ∧ b ≠ g) (hb : base ≤ w.heap.size) :
    Calls Tryz.prog 111 #[v] w fun e w' => ∃ v' g', e = .returned v' ∧ O2 base w' v' g' (ddA d d.size) ∧ (g' = g ∨ w.heap.size ≤ g') ∧ w.grownBy w' (some g) := by
  by_cases hs : Steps d
  · have hd : ddA d d.size = d.toList := by
      rw [zkD (Nat.le_refl _) (fun j h1 h2 => hs j h1 h2), List.take_of_length_le (by simp)]
    exact zpl (T := T) (f := 111) (id := 0) (zkU d hl hs) (by rw [hd]; rfl) (Nat.le_trans zpp hl) (zr2 h0) h hT hb
  · exact zpl (T := T) (f := 111) (id := 1) (zjM d hl hs) rfl (Nat.le_trans zpp hl) (zr2 h0) h hT hb
theorem zrW {zs : List Int} (hl : zs.length ≤ 536870912) (h0 : zs ≠ []) {base : Nat} {w : World} {v : Value} {g : Nat} (h : O2 base w v g zs) (hT : ∀ b o, T b o → w.heap[b]? = some o ∧ b ≠ g) :
    Calls Tryz.prog 110 #[v] w fun e w' => e = .returned (.tuple #[]) ∧ O2 base w' v g (Sort.sort Sort.ltInt zs.toArray).toList ∧ w.grownBy w' (some g) := by
  have hz : (Sort.sort Sort.ltInt zs.toArray).toList.length = zs.length := by rw [Array.length_toList, zou]; simp
  obtain ⟨cap, c, e, rfl, h2, h3, h4, h5, h6, h7⟩ := h
  have hH := holds_of_blockI (ss := zs) h3 (by
    refine List.ext_getElem (by simp; omega) fun i h1 h8 => ?_
    have h8 : i < zs.length := by simpa using h8
    have := h7 i h8
    simp [List.getD, h8, show i < c.size by omega] at this
    simp [this])
  refine (Any.slices_Sort_int Tryz.lays189 g 0 cap zs w hH (zf h3) (by omega)).mono fun x w' => ?_
  rintro ⟨rfl, n, os, rfl⟩
  have hq : (zs.mergeSort fun x y => decide (x ≤ y)) = (Sort.sort Sort.ltInt zs.toArray).toList := (Go.Sort.sortInt zs).symm
  rw [hq]
  generalize (Sort.sort Sort.ltInt zs.toArray).toList = ys at hz
  refine ⟨rfl, ⟨cap, _, e, by rw [hz], h2, heap_sortedI _ h3, by omega, by simp [Sort.putCells]; omega, by omega, fun j hj => ?_⟩, grownBy_sortedI _⟩
  have ht := take_putCellsI c ys (by omega)
  have := congrArg (fun l : List Value => l.getD j undef) ht
  simp [List.getD, List.getElem?_take, hj] at this
  simpa [List.getD, hj] using this
def gAt (gs : GI) (born : Nat → Nat) (seen : Array Nat) : GI := (List.range gs.length).map fun j => ((gs.getD j default).1, if seen.contains (born j) then zdF (gs.getD j default).2 else (gs.getD j default).2)
def zgz (n : Nat) (born : Nat → Nat) (seen : Array Nat) : Nat := ((List.range n).filter fun j => !seen.contains (born j)).length
structure Mid (w : World) (m base r clock : Nat) (gs : GI) (born : Nat → Nat) (seen : Array Nat) (wr : World) : Prop where
  ex : ∃ es blk, Grp (O2 base) wr m (gAt gs born seen) es clock blk ∧ (∀ j, j < gs.length → (es.getD j default).born = born j) ∧ ∀ j, j < gs.length → blk j ≠ r ∧ blk j < wr.heap.size
  iter : wr.heap[r]? = some (.mapIter (some m) clock seen clock)
  grown : w.grownBy wr none
  mr : m < base ∧ base ≤ r ∧ w.heap.size ≤ m
theorem zdf {gs : GI} {born : Nat → Nat} {seen : Array Nat} : (gAt gs born seen).length = gs.length := by simp [gAt]
theorem zrn {gs : GI} {born : Nat → Nat} {seen : Array Nat} {j : Nat} (hj : j < gs.length) : (gAt gs born seen).getD j default = ((gs.getD j default).1, if seen.contains (born j) then zdF (gs.getD j default).2 else (gs.getD j default).2) := by
  simp [gAt, List.getD, hj]
theorem zuA {gs : GI} {born : Nat → Nat} {seen : Array Nat} {i : Nat} (hi : i < gs.length) (hb : ∀ j, j < gs.length → born j = born i → j = i) :
    gAt gs born (seen.push (born i)) = (gAt gs born seen).set i ((gs.getD i default).1, zdF (gs.getD i default).2) := by
  refine List.ext_getElem (by simp [gAt]) fun j h1 h2 => ?_
  have hj : j < gs.length := by simpa [gAt] using h1
  rw [List.getElem_set]
  simp only [gAt, List.getElem_map, List.getElem_range, Array.contains_push]
  by_cases e : i = j
  · subst e; simp
  · rw [if_neg e]
    have : (born j == born i) = false := by simpa using fun h => e (hb j hj h).symm
    simp [this]
theorem zq7 {n : Nat} {born : Nat → Nat} {seen : Array Nat} {i : Nat} (hi : i < n) (hs : seen.contains (born i) = false) : zgz n born (seen.push (born i)) < zgz n born seen := by
  unfold zgz
  have hsub : ((List.range n).filter fun j => !(seen.push (born i)).contains (born j)) = ((List.range n).filter fun j => !seen.contains (born j)).filter fun j => !(born j == born i) := by
    rw [List.filter_filter]
    refine List.filter_congr fun j _ => ?_
    rw [Array.contains_push]
    cases seen.contains (born j) <;> cases (born j == born i) <;> rfl
  rw [hsub]
  refine Nat.lt_of_le_of_ne (List.length_filter_le _ _) fun h => ?_
  have := (List.filter_eq_self.1 (List.length_filter_eq_length_iff.1 h |> fun hh => List.filter_eq_self.2 hh)) i (List.mem_filter.2 ⟨List.mem_range.2 hi, by simpa using hs⟩)
  simp at this
end Go.Ab
namespace Go.Ab
open Go Go.Proofs Go.MapKept
open Go.ChangeMaps (setBlock)
variable {T : Nat → Obj → Prop}
theorem Mid.round {w wr : World} {m base r clock : Nat} {gs : GI} {born : Nat → Nat} {seen : Array Nat} (h : Mid w m base r clock gs born seen wr) (ty : TypeId) (hT : ∀ b o, T b o → w.heap[b]? = some o)
    (hk : ∀ i j, i < gs.length → j < gs.length → (gs.getD i default).1 = (gs.getD j default).1 → i = j) (hz : ∀ j, j < gs.length → (gs.getD j default).2 ≠ [] ∧ (gs.getD j default).2.length ≤ 536870912) :
    ((Instr.next (.pointer (some ⟨r, 0, none⟩)) false ty).run Tryz.prog wr = .ok (.tuple #[.bool false]) wr ∧ ∀ j, j < gs.length → seen.contains (born j) = true) ∨
    ∃ (c : Int) (v : Value) (wn : World), (Instr.next (.pointer (some ⟨r, 0, none⟩)) false ty).run Tryz.prog wr = .ok (.tuple #[.bool true, .int .i64 c, v]) wn ∧ (Instr.entry (.pointer (some ⟨r, 0, none⟩))).run Tryz.prog wn = .ok (.tuple #[.int .i64 c, v]) wn ∧
      Calls Tryz.prog 110 #[v] wn fun e w' => e = .returned (.tuple #[]) ∧ Calls Tryz.prog 111 #[v] w' fun e w'' => ∃ v', e = .returned v' ∧ ∃ wz seen', (Instr.mapUpdate 90 (.map (some m)) (.int .i64 c) v').run Tryz.prog w'' = .ok () wz ∧
        Mid w m base r clock gs born seen' wz ∧ zgz gs.length born seen' < zgz gs.length born seen := by
  obtain ⟨es, blk, hG, hborn, hblk⟩ := h.ex
  obtain ⟨hmb, hbr, hwm⟩ := h.mr
  have hsz : es.size = gs.length := hG.size.trans zdf
  have idx : ∀ x ∈ es.toList, ∃ j, j < gs.length ∧ es.getD j default = x := fun x hx => by
    obtain ⟨j, hj, rfl⟩ := List.getElem_of_mem hx
    rw [Array.length_toList] at hj
    exact ⟨j, by omega, by simp [Array.getD_eq_getD_getElem?, hj]⟩
  have hold : ∀ x ∈ es.toList, x.born < clock := fun x hx => by
    obtain ⟨j, hj, rfl⟩ := idx x hx
    exact hG.st.lt j (by omega)
  have hbi : ∀ i j, i < gs.length → j < gs.length → born i = born j → i = j := fun i j hi hj e => hG.st.inj i j (by omega) (by omega) (by rw [hborn i hi, hborn j hj, e])
  rcases run_next_at (P := Tryz.prog) wr ty r m clock clock seen es clock h.iter hG.heap hold (Nat.le_refl _) with ⟨h0, hrun⟩ | ⟨e, he, w1, hw1, hrun⟩
  · refine .inl ⟨hrun, fun j hj => ?_⟩
    by_cases hc : seen.contains (born j) = true
    · exact hc
    · have hm : es.getD j default ∈ (leftOf es seen) := by
        unfold leftOf
        refine Array.mem_filter.2 ⟨?_, ?_⟩
        · rw [show es.getD j default = es[j]'(by omega) by simp [Array.getD_eq_getD_getElem?, show j < es.size by omega]]
          exact Array.getElem_mem _
        · rw [hborn j hj]; simpa using hc
      have : leftOf es seen = #[] := Array.eq_empty_of_size_eq_zero h0
      rw [this] at hm
      simp at hm
  · right
    have he' : e ∈ es ∧ seen.contains e.born = false := by
      have : e ∈ leftOf es seen := by simpa using he
      unfold leftOf at this
      obtain ⟨h1, h2⟩ := Array.mem_filter.1 this
      exact ⟨h1, by simpa using h2⟩
    obtain ⟨j, hj, rfl⟩ := idx e (by simpa using he'.1)
    have hs := he'.2
    rw [hborn j hj] at hs hrun
    have hjl : j < (gAt gs born seen).length := by rw [zdf]; exact hj
    have hkey := hG.key j hjl
    have hval := hG.val j hjl
    have hgj := zrn (born := born) (seen := seen) hj
    rw [hs] at hgj
    simp only [Bool.false_eq_true, if_false] at hgj
    rw [hgj] at hkey hval
    simp only at hkey hval
    rw [hkey] at hrun
    have hw1h : w1.heap = wr.heap ∧ w1.os = wr.os ∧ w1.tape = wr.tape ∧ w1.output = wr.output := by rcases hw1 with rfl | rfl <;> exact ⟨rfl, rfl, rfl, rfl⟩
    have hrlt : r < wr.heap.size := zf h.iter
    generalize hwn : setBlock w1 r (.mapIter (some m) clock (seen.push (born j)) clock) = wn at hrun
    have nr : wn.heap[r]? = some (.mapIter (some m) clock (seen.push (born j)) clock) := by rw [← hwn]; simp [setBlock, hw1h.1, hrlt]
    have no : ∀ b, b ≠ r → wn.heap[b]? = wr.heap[b]? := fun b hb => by rw [← hwn]; simp [setBlock, hw1h.1, Array.getElem?_setIfInBounds_ne (Ne.symm hb)]
    have ns : wn.heap.size = wr.heap.size := by rw [← hwn]; simp [setBlock, hw1h.1]
    have nx : wn.os = wr.os ∧ wn.tape = wr.tape ∧ wn.output = wr.output := by rw [← hwn]; exact hw1h.2
    clear hwn
    obtain ⟨hbj1, hbj2⟩ := hblk j hj
    have hbase : ∀ i, i < gs.length → base ≤ blk i := fun i hi => by
      obtain ⟨_, _, _, _, h2, _⟩ := hG.val i (by rw [zdf]; exact hi); exact h2
    have hgn : w.grownBy wn none := ⟨nx.1.trans h.grown.os, nx.2.1.trans h.grown.tape, nx.2.2.trans h.grown.output, by rw [ns]; exact h.grown.size, fun b hb _ => (no b (by omega)).trans (h.grown.block b hb (by simp))⟩
    have hTn : ∀ (x : World), wn.grownBy x (some (blk j)) → ∀ b o, T b o → x.heap[b]? = some o ∧ b ≠ blk j := fun x hx b o ht => by
      have h1 := hT b o ht
      have h2 := zf h1
      have h3 := hbase j hj
      exact ⟨(hx.block b (Nat.lt_of_lt_of_le h2 hgn.size) (by simp; omega)).trans ((hgn.block b h2 (by simp)).trans h1), by omega⟩
    have hself : wn.grownBy wn (some (blk j)) := ⟨rfl, rfl, rfl, Nat.le_refl _, fun _ _ _ => rfl⟩
    refine ⟨(gs.getD j default).1, (es.getD j default).val, wn, hrun, ?_, ?_⟩
    · have := run_entry_at (P := Tryz.prog) wn r m clock seen es clock (es.getD j default) (by rw [hborn j hj]; exact nr) ((no m (by omega)).trans hG.heap) (by simpa using he'.1) (by
        refine List.pairwise_iff_getElem.2 fun p q hp hq hpq e => ?_
        simp only [List.length_map, Array.length_toList] at hp hq
        have := hG.st.inj p q hp hq (by simpa [Array.getD_eq_getD_getElem?, hp, hq] using e)
        omega)
      rw [hkey] at this
      exact this
    · refine (zrW (T := T) (hz j hj).2 (hz j hj).1 (hval.kept (no _ hbj1)) (hTn wn hself)).mono ?_
      rintro e1 w' ⟨rfl, hO1, hg1⟩
      refine ⟨rfl, ?_⟩
      have hds : (Sort.sort Sort.ltInt (gs.getD j default).2.toArray).size = (gs.getD j default).2.length := by rw [zou]; simp
      refine (zpk (T := T) (d := Sort.sort Sort.ltInt (gs.getD j default).2.toArray) (by rw [hds]; exact (hz j hj).2) (by rw [hds]; exact List.length_pos_iff.2 (hz j hj).1) hO1 (hTn w' hg1) (by have := hbase j hj; have := hg1.size; omega)).mono ?_
      rintro e2 w'' ⟨v', g', rfl, hO2, hg', hg2⟩
      refine ⟨v', rfl, ?_⟩
      have hg12 : wn.grownBy w'' (some (blk j)) := ⟨hg2.os.trans hg1.os, hg2.tape.trans hg1.tape, hg2.output.trans hg1.output, Nat.le_trans hg1.size hg2.size, fun b hb hne => (hg2.block b (Nat.lt_of_lt_of_le hb hg1.size) hne).trans (hg1.block b hb hne)⟩
      have hmj : m ≠ blk j := by have := hbase j hj; omega
      have hm2 : w''.heap[m]? = some (.map es clock) := (hg12.block m (by rw [ns]; omega) (by simpa using hmj)).trans ((no m (by omega)).trans hG.heap)
      have hg'b : base ≤ g' := by obtain ⟨_, _, _, _, h2, _⟩ := hO2; exact h2
      have hg'l : g' < w''.heap.size := by obtain ⟨_, _, _, _, _, h3, _⟩ := hO2; exact zf h3
      have hg'r : g' ≠ r := by
        rcases hg' with rfl | h3
        · exact hbj1
        · have := hg1.size; omega
      have hf : Instr.findNow (.int .i64) (.int .i64 (gs.getD j default).1) es.toList 0 = some (some (j, (es.getD j default).val)) := by
        rcases hG.find (gs.getD j default).1 with ⟨hn, -⟩ | ⟨i, hi, hi2, hf⟩
        · refine absurd ?_ hn
          refine List.mem_map.2 ⟨(gAt gs born seen).getD j default, ?_, by rw [hgj]⟩
          simp [List.getD, hjl]
        · rw [zdf] at hi
          rw [zrn hi] at hi2
          have := hk i j hi hj hi2
          subst this
          exact hf
      obtain ⟨es', hup, hG', hbn⟩ := hG.set (w1 := w'') (c := (gs.getD j default).1) (i := j) (u := (es.getD j default).val) (v := v') (g := g') (zs := zdF (gs.getD j default).2) hjl (by rw [hgj]) hf hm2
        (fun o => hO2.kept (by simp [Array.getElem?_setIfInBounds_ne (show m ≠ g' by omega)]))
        (fun o i hi hij => (hG.val i hi).kept (by
          rw [zdf] at hi
          have h1 := hbase i hi
          have h2 : blk i ≠ blk j := fun e => hij (hG.apart i j (by rw [zdf]; exact hi) hjl e)
          obtain ⟨h3, h4⟩ := hblk i hi
          show (w''.heap.setIfInBounds m o)[blk i]? = _
          rw [Array.getElem?_setIfInBounds_ne (show m ≠ blk i by omega), hg12.block (blk i) (by rw [ns]; exact h4) (by simpa using h2), no _ h3]))
        (fun i hi hij => by
          rw [zdf] at hi
          have h2 : blk i ≠ blk j := fun e => hij (hG.apart i j (by rw [zdf]; exact hi) hjl e)
          have h4 := (hblk i hi).2
          rcases hg' with rfl | h3
          · exact h2
          · have := hg1.size; omega)
      refine ⟨_, seen.push (born j), hup, ⟨⟨es', fun i => if i = j then g' else blk i, ?_, fun i hi => (hbn i (by rw [zdf]; exact hi)).trans (hborn i hi), fun i hi => ?_⟩, ?_, ?_, hmb, hbr, hwm⟩, zq7 hj hs⟩
      · rw [zuA hj (fun i hi e => hbi i j hi hj e)]
        exact hG'
      · show (if i = j then g' else blk i) ≠ r ∧ (if i = j then g' else blk i) < _
        by_cases e : i = j
        · rw [if_pos e]; exact ⟨hg'r, by simpa using hg'l⟩
        · rw [if_neg e]
          refine ⟨(hblk i hi).1, ?_⟩
          have := (hblk i hi).2; have := hg12.size; simp; omega
      · show (w''.heap.setIfInBounds m _)[r]? = _
        rw [Array.getElem?_setIfInBounds_ne (show m ≠ r by omega), hg12.block r (by rw [ns]; exact hrlt) (by simpa using Ne.symm hbj1), nr]
      · refine ⟨hg12.os.trans hgn.os, hg12.tape.trans hgn.tape, hg12.output.trans hgn.output, by simp; exact Nat.le_trans hgn.size hg12.size, fun b hb _ => ?_⟩
        show (w''.heap.setIfInBounds m _)[b]? = _
        have := hbase j hj
        rw [Array.getElem?_setIfInBounds_ne (show m ≠ b by omega), hg12.block b (Nat.lt_of_lt_of_le hb hgn.size) (by simp; omega), hgn.block b hb (by simp)]
def zuK (r n : Nat) (born : Nat → Nat) (w : World) : Nat := match w.heap[r]? with
  | some (.mapIter _ _ seen _) => zgz n born seen
  | _ => 0
theorem Mid.mu {w wr : World} {m base r clock n : Nat} {gs : GI} {born : Nat → Nat} {seen : Array Nat} (h : Mid w m base r clock gs born seen wr) : zuK r n born wr = zgz n born seen := by
  rw [zuK, h.iter]
theorem zvS {gs : GI} {born : Nat → Nat} : gAt gs born #[] = gs := by
  refine List.ext_getElem (by simp [gAt]) fun j h1 h2 => ?_
  simp [gAt, List.getD, h2]
theorem zvR {gs : GI} {born : Nat → Nat} {seen : Array Nat} (h : ∀ j, j < gs.length → seen.contains (born j) = true) : gAt gs born seen = gs.map fun p => (p.1, zdF p.2) := by
  refine List.ext_getElem (by simp [gAt]) fun j h1 h2 => ?_
  have hj : j < gs.length := by simpa using h2
  have := h j hj
  simp only [gAt, List.getElem_map, List.getElem_range, this, if_true]
  simp [List.getD, hj]
theorem Mid.start {w wr : World} {m base clock : Nat} {gs : GI} {es : Array MapEntry} {blk : Nat → Nat} (hG : Grp (O1 base) wr m gs es clock blk) (hz : ∀ j, j < gs.length → (gs.getD j default).2.length ≤ 536870912)
    (hgr : w.grownBy wr none) (hmb : m < base) (hb : base ≤ wr.heap.size) (hwm : w.heap.size ≤ m) :
    Mid w m base wr.heap.size clock gs (fun j => (es.getD j default).born) #[] (wr.alloc (.mapIter (some m) clock #[] clock)) := by
  refine ⟨⟨es, blk, ?_, fun j hj => rfl, fun j hj => ?_⟩, heap_alloc_new _ _, hgr.trans (World.grownBy_alloc _ _ _), hmb, hb, hwm⟩
  · rw [zvS]
    exact ⟨(heap_alloc_old _ _ (zf hG.heap)).trans hG.heap, hG.st, hG.size, hG.key, fun i hi => ((hG.val i hi).O2 (hz i hi)).kept (heap_alloc_old _ _ (hG.val i hi).lt.2), hG.apart⟩
  · have := (hG.val j hj).lt
    exact ⟨by omega, by simp; omega⟩
end Go.Ab
namespace Go.Ab
open Go Go.Proofs Go.MapKept Go.RowKit Go.WideMaps Go.Maps
section
variable {P : Program} (w : World) {ops : Array Oper} {rest : List Oper} {o : Oper} {a : Act} {Q : Exit → Act → World → Prop}
end
theorem zu7 : (Tryz.prog.info? 3).map (fun i => (i.zero, i.size, i.bytes)) = some (some (.int .i64 0), 1, 8) := by kernel_rfl
variable {T : Nat → Obj → Prop}
theorem zwZ {cell rank : List Int} (hl : cell.length ≤ 536870912) : ∀ j, j < (zB cell rank cell.length).length → ((zB cell rank cell.length).getD j default).2 ≠ [] ∧ ((zB cell rank cell.length).getD j default).2.length ≤ 536870912 := by
  intro j hj
  have hm : (zB cell rank cell.length).getD j default ∈ zB cell rank cell.length := by simp [List.getD, hj]
  obtain ⟨c, hc, e⟩ := List.mem_map.1 hm
  rw [← e]
  refine ⟨fun h => ?_, Nat.le_trans zrp hl⟩
  rw [List.take_length] at hc
  obtain ⟨i, hi, h2⟩ := zeS.1 (ziG.1 hc)
  have : at0 rank i ∈ inC rank cell cell.length c := List.mem_map.2 ⟨i, List.mem_filter.2 ⟨List.mem_range.2 hi, by simpa using h2⟩, rfl⟩
  rw [show inC rank cell cell.length c = [] from h] at this
  cases this
theorem zvT {cell rank : List Int} : ∀ i j, i < (zB cell rank cell.length).length → j < (zB cell rank cell.length).length → ((zB cell rank cell.length).getD i default).1 = ((zB cell rank cell.length).getD j default).1 → i = j := by
  intro i j hi hj e
  have hn : ((zB cell rank cell.length).map Prod.fst).Nodup := by rw [zn5]; exact zka
  have hi' : i < ((zB cell rank cell.length).map Prod.fst).length := by simpa using hi
  have hj' : j < ((zB cell rank cell.length).map Prod.fst).length := by simpa using hj
  refine (List.getElem_inj (h₀ := hi') (h₁ := hj') hn).1 ?_
  simpa [List.getD, hi, hj] using e
set_option maxHeartbeats 4000000 in
set_option maxRecDepth 100000 in
theorem zmZ (b1 o1 cap1 b2 o2 cap2 n2 : Nat) (cell rank : List Int) (w : World) (hn : 0 < cell.length) (hn2 : cell.length ≤ n2) (hl : cell.length ≤ 536870912)
    (hT : ∀ b o, T b o → w.heap[b]? = some o) (hb1 : b1 < w.heap.size) (hb2 : b2 < w.heap.size)
    (hc1 : ∀ j, j < cell.length → w.cell? ⟨b1, o1 + j, none⟩ = some (.int .i64 (at0 cell j))) (hc2 : ∀ j, j < cell.length → w.cell? ⟨b2, o2 + j, none⟩ = some (.int .i64 (at0 rank j))) :
    Calls Tryz.prog 70 #[.slice (some ⟨b1, o1, none⟩) cell.length cap1, .slice (some ⟨b2, o2, none⟩) n2 cap2] w fun e w' => e = .returned (.map (some w.heap.size)) ∧ w.grownBy w' none ∧ ∃ es clock blk, Grp (O2 (w.heap.size + 1)) w' w.heap.size ((zB cell rank cell.length).map fun p => (p.1, zdF p.2)) es clock blk := by
  have hmm := @run_makeMap Tryz.prog
  obtain ⟨i0, hi, hz0, hz1, hz2⟩ := info_parts zu7
  go_enter Tryz.func70, Tryz.ntmps70
  go_wp2
  go_loopw [13] (fun i wr => ∃ k : Nat, k ≤ cell.length ∧ i = .int .i64 k ∧ ∃ es clock blk, Grp (O1 (w.heap.size + 1)) wr w.heap.size (zB cell rank k) es clock blk ∧ w.grownBy wr none ∧ w.heap.size + 1 ≤ wr.heap.size)
    (fun i _ => cell.length - (RowKit.intOf i).toNat)
  case atStart =>
    refine ⟨0, Nat.zero_le _, rfl, #[], 0, fun _ => 0, ?_, World.grownBy_alloc _ _ _, by simp⟩
    exact ⟨heap_alloc_new _ _, ⟨fun i j hi => by simp at hi, fun i hi => by simp at hi⟩, rfl, fun i hi => by simp [zB, zw] at hi, fun i hi => by simp [zB, zw] at hi, fun i j hi => by simp [zB, zw] at hi⟩
  case round =>
    obtain ⟨k, hk, rfl, es, clock, blk, hG, hgr, hsz⟩ := hrel
    have hcx1 : k < cell.length → wr.cell? ⟨b1, o1 + k, none⟩ = some (.int .i64 (at0 cell k)) := fun hlt => (zcU (hgr.block b1 hb1 (by simp))).trans (hc1 k hlt)
    have hcx2 : k < cell.length → wr.cell? ⟨b2, o2 + k, none⟩ = some (.int .i64 (at0 rank k)) := fun hlt => (zcU (hgr.block b2 hb2 (by simp))).trans (hc2 k hlt)
    obtain ⟨v, zs, tgt, hvm, hlook, hown, hcase, hback⟩ := hG.look1 (Nat.lt_succ_self _) (at0 cell k)
    have hmw : w.heap.size < wr.heap.size := by omega
    have hzl : zs.length ≤ k := by
      rcases hcase with ⟨i, hi1, -, rfl, -⟩ | ⟨-, rfl, -⟩
      · have : (zB cell rank k).getD i default ∈ zB cell rank k := by simp [List.getD, hi1]
        obtain ⟨c, -, hc⟩ := List.mem_map.1 this
        rw [← hc]; exact zrp
      · simp
    have hvb : ∀ b, b < w.heap.size → some b ≠ v.ownBlock := fun b hb e => by have := (hown.lt b e.symm).1; omega
    have hik0 : (0 : Int) ≤ (k : Int) := Int.natCast_nonneg _
    have hik1 : k < cell.length → (k : Int) < (n2 : Int) := fun h => by omega
    have hbk : k < cell.length → ∀ w1 gg cap o, (wr.drew.alloc o).grownBy w1 v.ownBlock → w1.ownsRow (w.heap.size + 1) 3 1 (.slice (some ⟨gg, 0, none⟩) (zs.length + 1) cap) (zs.length + 1) (zs.map (Value.int .i64) ++ [.int .i64 (at0 rank k)]) → (v.ownBlock = some gg ∨ gg = wr.heap.size + 1) →
        ∃ w2 es' clock' blk', (Instr.mapUpdate 90 (.map (some w.heap.size)) (.int .i64 (at0 cell k)) (.slice (some ⟨gg, 0, none⟩) (zs.length + 1) cap)).run Tryz.prog w1 = .ok () w2 ∧ Grp (O1 (w.heap.size + 1)) w2 w.heap.size (zB cell rank (k + 1)) es' clock' blk' ∧ w.grownBy w2 none ∧ w.heap.size + 1 ≤ w2.heap.size := by
      intro hlt w1 gg cap o hgrow hown1 hat
      have h1 : wr.drew.grownBy w1 v.ownBlock := (World.grownBy_alloc wr.drew _ _).trans hgrow
      obtain ⟨w2, es', clock', blk', q1, q2, q3⟩ := hback w1 _ _ ⟨h1.os, h1.tape, h1.output, h1.size, h1.block⟩ hown1 (hat.elim (fun h => .inl h.symm) (fun h => .inr (.inr ⟨gg, rfl, by omega⟩)))
      have hs1 : wr.heap.size ≤ w1.heap.size := h1.size
      have hs2 := q3.size
      refine ⟨w2, es', clock', blk', q1, ?_, ⟨q3.os.trans (h1.os.trans hgr.os), q3.tape.trans (h1.tape.trans hgr.tape), q3.output.trans (h1.output.trans hgr.output), by omega, fun b hb _ => ?_⟩, by omega⟩
      · rcases hcase with ⟨i, hi1, hi2, rfl, rfl⟩ | ⟨hn1, rfl, rfl⟩
        · rw [zwx hlt hi1 hi2]; exact q2
        · rw [zww hlt hn1]; exact q2
      · exact (q3.block b (by omega) (by simp; omega)).trans ((h1.block b (show b < wr.heap.size by omega) (hvb b hb)).trans (hgr.block b hb (by simp)))
    have hrange := run_range_map (P := Tryz.prog) wr 90 3 28 w.heap.size es clock Tryz.underlying90 hG.heap
    go_wp2_with fail
    · clear hrange
      have hlt : k < cell.length := by assumption
      have hik1 := hik1 hlt
      have hl0 : (Instr.lookup 90 (.map (some w.heap.size)) (.int .i64 (at0 cell k)) false).run Tryz.prog wr.drew = .ok v wr.drew := hlook _ rfl
      have hl1 : ∀ o, (Instr.lookup 90 (.map (some w.heap.size)) (.int .i64 (at0 cell k)) false).run Tryz.prog (wr.drew.alloc o) = .ok v (wr.drew.alloc o) := fun o => hlook _ (heap_alloc_old _ _ hmw)
      have hb2r : b2 < wr.heap.size := by omega
      have hl2 : ∀ o, (Instr.lookup 90 (.map (some w.heap.size)) (.int .i64 (at0 cell k)) false).run Tryz.prog (wr.alloc o).drew = .ok v (wr.alloc o).drew := fun o => hlook _ (heap_alloc_old _ _ hmw)
      have hc2k := hcx2 hlt
      go_region_law
        ((refine step_append_lies _ (by rfl) _ _ _ (by rfl) (w.heap.size + 1) 3 i0 _ 1 8 Tryz.underlying28 hi hz0 hz1 hz2 rfl (by omega) v zs.length (zs.map (Value.int .i64)) (by rfl) (hown.drew.alloc _)
            ⟨wr.heap.size, 0, none⟩ 1 1 [.int .i64 (at0 rank k)] (by rfl) (by rfl) (World.news_of_block (cs := #[.int .i64 (at0 rank k)]) (t := 3) (fr := (0, 0)) (heap_alloc_new _ _)) (by simp [Value.oneCell'])
            (by omega) (by unfold maxLen; omega) (by omega) (by simp; omega) (wr.heap.size + 1) (by simp) ?_; intro gg cap w1 hown1 hgrow hat hlt1; obtain ⟨w2, es', clock', blk', hup, hG2, hgr2, hsz2⟩ := hbk hlt w1 gg cap _ hgrow hown1 hat))
      all_goals
        clear hup hl0 hl1 hl2
        go_wp2
        go_roundw
        case rel =>
          exact ⟨k + 1, by omega, by go_num, es', clock', blk', hG2, hgr2, hsz2⟩
        case measure => simp [RowKit.intOf]; omega
    · have hke : k = cell.length := by omega
      subst hke
      have hz : ∀ j, j < (zB cell rank cell.length).length → ((zB cell rank cell.length).getD j default).2 ≠ [] ∧ ((zB cell rank cell.length).getD j default).2.length ≤ 536870912 := zwZ hl
      have hk : ∀ i j, i < (zB cell rank cell.length).length → j < (zB cell rank cell.length).length → ((zB cell rank cell.length).getD i default).1 = ((zB cell rank cell.length).getD j default).1 → i = j := zvT
      have hM := Mid.start hG (fun j hj => (hz j hj).2) hgr (Nat.lt_succ_self _) hsz (Nat.le_refl _)
      generalize hborn : (fun j => (es.getD j default).born) = born at hM
      generalize hrr : wr.heap.size = r at hM
      clear hback hbk hlook hcase hrange hG
      rw [show decide (cell.length < cell.length) = false by simp]
      go_loopw [8] (fun _ wr2 => ∃ seen, Mid w w.heap.size (w.heap.size + 1) r clock (zB cell rank cell.length) born seen wr2) (fun _ wr2 => zuK r (zB cell rank cell.length).length born wr2)
      case atStart => exact ⟨#[], hM⟩
      case round =>
        obtain ⟨seen, hM2⟩ := hrel
        rcases hM2.round (T := T) 0 hT hk hz with ⟨hnext, hall⟩ | ⟨c, v, wn, hnext, hentry, hcalls⟩
        · go_wp2
          go_ret
          refine ⟨rfl, hM2.grown, ?_⟩
          obtain ⟨es2, blk2, h1, -⟩ := hM2.ex
          rw [zvR hall] at h1
          exact ⟨es2, _, blk2, h1⟩
        · go_wp2_with (first
            | (go_at_call 110; refine hcalls.mono ?_; rintro e w' ⟨rfl, hcomp⟩)
            | (go_at_call 111; refine hcomp.mono ?_; rintro e w'' ⟨v', rfl, wz, seen', hup, hMz, hlt⟩))
          go_roundw
          case rel => exact ⟨seen', hMz⟩
          case measure => rw [hMz.mu, hM2.mu]; exact hlt
end Go.Ab
namespace Go.Ab
open Go Go.Proofs Go.MapKept
section
variable {α : Type} [Inhabited α] [DecidableEq α]
theorem zfk {d : Array α} {x : α} : ∀ {n : Nat}, x ∈ ddA d n ↔ ∃ i, i < n ∧ d[i]! = x
  | 0 => by simp [ddA]
  | n + 1 => by
    rw [ddA]
    constructor
    · intro h
      split at h
      · obtain ⟨i, h1, h2⟩ := zfk.1 h
        exact ⟨i, by omega, h2⟩
      · rcases List.mem_append.1 h with h | h
        · obtain ⟨i, h1, h2⟩ := zfk.1 h
          exact ⟨i, by omega, h2⟩
        · exact ⟨n, by omega, by simp at h; exact h.symm⟩
    · rintro ⟨i, h1, h2⟩
      split
      · rename_i hc
        by_cases e : i = n
        · subst e
          exact zfk.2 ⟨i - 1, by omega, by rw [← hc.2]; exact h2⟩
        · exact zfk.2 ⟨i, by omega, h2⟩
      · by_cases e : i = n
        · subst e; exact List.mem_append.2 (.inr (by simp [h2]))
        · exact List.mem_append.2 (.inl (zfk.2 ⟨i, by omega, h2⟩))
theorem zkC {lt : α → α → Bool} {d : Array α} (hs : ∀ i j, i < j → j < d.size → lt d[j]! d[i]! = false) (tri : ∀ x y, lt x y = false → lt y x = false → x = y) : ∀ {n : Nat}, n ≤ d.size → (ddA d n).Pairwise fun x y => lt x y = true
  | 0, _ => List.Pairwise.nil
  | n + 1, h => by
    rw [ddA]
    split
    · exact zkC hs tri (by omega)
    · rename_i hc
      refine List.pairwise_append.2 ⟨zkC hs tri (by omega), List.pairwise_singleton _ _, fun x hx y hy => ?_⟩
      obtain ⟨i, hi, rfl⟩ := zfk.1 hx
      have hy : y = d[n]! := by simpa using hy
      subst hy
      cases hb : lt d[i]! d[n]! with
      | true => rfl
      | false =>
        have e1 := tri _ _ hb (hs i n hi (by omega))
        refine absurd ⟨by omega, ?_⟩ hc
        by_cases e : i = n - 1
        · rw [← e]; exact e1.symm
        · refine (tri _ _ ?_ ?_)
          · exact hs (n - 1) n (by omega) (by omega)
          · rw [← e1]; exact hs i (n - 1) (by omega) (by omega)
theorem zqd {R : α → α → Prop} (irr : ∀ x, ¬R x x) (tr : ∀ x y z, R x y → R y z → R x z) : ∀ {l l' : List α}, l.Pairwise R → l'.Pairwise R → (∀ x, x ∈ l ↔ x ∈ l') → l = l'
  | [], [], _, _, _ => rfl
  | [], y :: l', _, _, h => by have := (h y).2 (by simp); cases this
  | x :: l, [], _, _, h => by have := (h x).1 (by simp); cases this
  | x :: l, y :: l', h1, h2, h => by
    obtain ⟨a1, a2⟩ := List.pairwise_cons.1 h1
    obtain ⟨b1, b2⟩ := List.pairwise_cons.1 h2
    have hxy : x = y := by
      rcases List.mem_cons.1 ((h x).1 (by simp)) with e | hx
      · exact e
      · rcases List.mem_cons.1 ((h y).2 (by simp)) with e | hy
        · exact e.symm
        · exact absurd (tr _ _ _ (a1 y hy) (b1 x hx)) (irr x)
    subst hxy
    rw [zqd irr tr a2 b2 fun z => ?_]
    constructor
    · intro hz
      rcases List.mem_cons.1 ((h z).1 (List.mem_cons_of_mem _ hz)) with rfl | h3
      · exact absurd (a1 z hz) (irr z)
      · exact h3
    · intro hz
      rcases List.mem_cons.1 ((h z).2 (List.mem_cons_of_mem _ hz)) with rfl | h3
      · exact absurd (b1 z hz) (irr z)
      · exact h3
end
theorem zqy {α : Type} [Inhabited α] {lt : α → α → Bool} (hS : Sort.SWO lt) (d : Array α) : (Sort.sort lt d).toList.Perm d.toList := by
  obtain ⟨⟨h1, -, h2⟩, -⟩ := Sort.sort_sorts lt hS d
  have e1 : (Sort.sort lt d).extract 0 d.size = Sort.sort lt d := by rw [← h1]; simp
  have e2 : d.extract 0 d.size = d := by simp
  rwa [e1, e2] at h2
theorem zrt {α : Type} [Inhabited α] {d : Array α} {x : α} : x ∈ d.toList ↔ ∃ i, i < d.size ∧ d[i]! = x := by
  constructor
  · intro h
    obtain ⟨i, hi, rfl⟩ := List.getElem_of_mem h
    rw [Array.length_toList] at hi
    exact ⟨i, hi, by simp [hi]⟩
  · rintro ⟨i, hi, rfl⟩
    rw [show d[i]! = d.toList[i]'(by simpa using hi) by simp [hi]]
    exact List.getElem_mem _
theorem zrl (zs : List Int) : zdF zs = ziS zs := by
  have hS := Sort.swo_ltInt
  obtain ⟨⟨h1, -, -⟩, h3⟩ := Sort.sort_sorts Sort.ltInt hS zs.toArray
  refine zqd (R := (· < ·)) (fun x => Int.lt_irrefl x) (fun x y z => Int.lt_trans) ?_ zet fun x => ?_
  · have := zkC (lt := Sort.ltInt) (d := Sort.sort Sort.ltInt zs.toArray) (fun i j hij hj => h3 i j (Nat.zero_le _) hij (by rw [← h1]; exact hj)) (fun x y a b => by simp only [Sort.ltInt, decide_eq_false_iff_not] at a b; omega) (Nat.le_refl _)
    exact this.imp fun h => by simpa [Sort.ltInt] using h
  · rw [zj7, zdF, zfk, ← zrt, (zqy hS zs.toArray).mem_iff]
end Go.Ab
namespace Go.Ab
open Go Go.Proofs Go.MapKept Go.RowKit Go.WideMaps Go.Maps
variable {T : Nat → Obj → Prop}
set_option maxRecDepth 100000 in
theorem zmX (a : Option Addr) (cap : Nat) (vb : Value) (w : World) :
    Calls Tryz.prog 70 #[.slice a 0 cap, vb] w fun e w' => e = .returned (.map (some w.heap.size)) ∧ w.grownBy w' none ∧ w'.heap[w.heap.size]? = some (.map #[] 0) := by
  have hmm := @run_makeMap Tryz.prog
  have hrange := run_range_map (P := Tryz.prog) (w.alloc (.map #[] 0)) 90 3 28 w.heap.size #[] 0 Tryz.underlying90 (heap_alloc_new _ _)
  have hnext : (Instr.next (.pointer (some ⟨w.heap.size + 1, 0, none⟩)) false 0).run Tryz.prog ((w.alloc (.map #[] 0)).alloc (.mapIter (some w.heap.size) 0 #[] 0)) = .ok (.tuple #[.bool false]) ((w.alloc (.map #[] 0)).alloc (.mapIter (some w.heap.size) 0 #[] 0)) := by
    rcases run_next_at (P := Tryz.prog) ((w.alloc (.map #[] 0)).alloc (.mapIter (some w.heap.size) 0 #[] 0)) 0 (w.heap.size + 1) w.heap.size 0 0 #[] #[] 0 (by have := heap_alloc_new (w.alloc (.map #[] 0)) (.mapIter (some w.heap.size) 0 #[] 0); simpa using this)
      ((heap_alloc_old _ _ (by simp)).trans (heap_alloc_new _ _)) (by simp) (Nat.le_refl _) with ⟨-, h⟩ | ⟨e, he, -⟩
    · exact h
    · simp [leftOf] at he
  simp only [show (w.alloc (.map #[] 0)).heap.size = w.heap.size + 1 by simp] at hrange
  go_enter Tryz.func70, Tryz.ntmps70
  go_wp2
  refine wp_loop_rounds 1 ?_
  rw [rounds_succ]
  go_wp2
  refine wp_loop_rounds 1 ?_
  rw [rounds_succ]
  go_wp2
  go_ret
  exact ⟨rfl, (World.grownBy_alloc _ _ _).trans (World.grownBy_alloc _ _ _), (heap_alloc_old _ _ (by simp)).trans (heap_alloc_new _ _)⟩
theorem zl7 : zch T := by
  intro cell rank hle h64
  refine zg1 ⟨_, Tryz.func70, by decide, rfl⟩ fun B σ a w args hT hS hsz hargs => ?_
  have ha : args = #[args.getD 0 undef, args.getD 1 undef] := by
    apply Array.ext
    · simpa using hsz
    · intro i h1 h2
      match i, h2 with
      | 0, _ => simp [Array.getD, show 0 < args.size by omega]
      | 1, _ => simp [Array.getD, show 1 < args.size by omega]
  have h0 := hargs 0 (by simp)
  have h1 := hargs 1 (by simp)
  have fin : ∀ (e : Ending) (w' : World) (es : Array MapEntry) (clock : Nat) (blk : Nat → Nat), e = .returned (.map (some w.heap.size)) → w.grownBy w' none → Grp (O2 (w.heap.size + 1)) w' w.heap.size ((zB cell rank cell.length).map fun p => (p.1, zdF p.2)) es clock blk →
      ∃ v' σ', e = .returned v' ∧ Sim B (fun _ => .undef) (zk []) (fun i => ([] : List (Option Ob)).length ≤ i) σ' a w' ∧ VSim σ' (zk []) (fun i => ([] : List (Option Ob)).length ≤ i) (B.X σ' (zk [])) w' (.d (.map (zfz cell rank))) v' ∧
        ∀ i ob, ([] : List Ob)[i]? = some ob → zk [] i = none ∨ (σ' i = σ i ∧ ∃ ob', zk [] i = some ob' ∧ za4 ob ob') := by
    intro e w' es clock blk he hg hG
    have hX : ∀ b, w.heap.size ≤ b → ¬B.X σ (zk []) b := by
      rintro b hb (h | ⟨id, h, -⟩)
      · have := hS.olt b h; omega
      · exact h (by simp [zk])
    have hgl : ((zB cell rank cell.length).map fun p => (p.1, zdF p.2)).length = (zw cell).length := by simp [zB]
    have hgd : ∀ i, i < (zw cell).length → ((zB cell rank cell.length).map fun p => (p.1, zdF p.2)).getD i default = ((zw cell).getD i 0, zW cell rank ((zw cell).getD i 0)) := by
      intro i hi
      simp only [zB, List.take_length, List.map_map, List.getD, List.getElem?_map, List.getElem?_eq_getElem hi, Option.map_some, Option.getD_some, Function.comp, zrl]
      rfl
    refine ⟨_, σ, he, ⟨fun t => .undef _, fun id ob h => by simp [zk] at h, fun i j b h => absurd (by simp [zk]) h, fun id b h => absurd (by simp [zk]) h, fun _ _ => by simp [zk], ?_, hS.nt, fun b hb => Nat.lt_of_lt_of_le (hS.olt b hb) hg.size, fun b o hp => (hg.block b (zf (hS.pins b o hp)) (by simp)).trans (hS.pins b o hp), fun id l h => by simp [zk] at h⟩, .d _ _ ?_, fun i ob h => by simp at h⟩
    · refine ⟨hg.os.trans hS.kept.os, hg.tape.trans hS.kept.tape, hg.output.trans hS.kept.output, Nat.le_trans hS.kept.size hg.size, fun b hb hR => (hg.block b (Nat.lt_of_lt_of_le hb hS.kept.size) (by simp)).trans (hS.kept.block b hb hR), fun b c e h => ?_⟩
      obtain ⟨c', h1, h2⟩ := hS.kept.cells b c e h
      exact ⟨c', (hg.block b (zf h1) (by simp)).trans h1, h2⟩
    · refine .map _ _ es clock (hX _ (Nat.le_refl _)) (zf hG.heap) hG.heap (by rw [hG.size, hgl]; simp) hG.st (fun i hi => ?_) (fun i hi => ?_)
      · rw [List.length_map] at hi
        rw [hG.key i (by rw [hgl]; exact hi), hgd i hi, show ((zw cell).map fun c => (D.int .i64 c, dI (zW cell rank c))).getD i (.nil, .nil) = (D.int .i64 ((zw cell).getD i 0), dI (zW cell rank ((zw cell).getD i 0))) by simp [List.getD, hi]]
        exact .int .i64 _ (by simp)
      · rw [List.length_map] at hi
        have hv := hG.val i (by rw [hgl]; exact hi)
        rw [hgd i hi] at hv
        rw [show ((zw cell).map fun c => (D.int .i64 c, dI (zW cell rank c))).getD i (.nil, .nil) = (D.int .i64 ((zw cell).getD i 0), dI (zW cell rank ((zw cell).getD i 0))) by simp [List.getD, hi]]
        simp only
        generalize zW cell rank ((zw cell).getD i 0) = zs at hv
        replace hv : O2 (w.heap.size + 1) w' (es.getD i default).val (blk i) zs := hv
        obtain ⟨cap, c, e, q1, q2, q3, q4, q5, q6, q7⟩ := hv
        rw [q1]
        have hl : (zs.map (D.int .i64)).length = zs.length := List.length_map _
        rw [← hl]
        refine .arr 1 (zs.map (D.int .i64)) (blk i) 0 cap (fun j => c.getD j undef) (hX _ (by omega)) (zf q3) (fun x hx => ?_) (by omega) (by omega) (fun j hj => ?_) (fun j k hj hk => ?_)
        · obtain ⟨y, -, rfl⟩ := List.mem_map.1 hx; rfl
        · have hjc : j < c.size := by omega
          simp [World.cell?, q3, Array.getD_eq_getD_getElem?, hjc]
        · have : k = 0 := by omega
          subst this
          rw [hl] at hj
          rw [Nat.mul_one, Nat.add_zero]
          rw [q7 j hj, show (zs.map (D.int .i64)).getD j .nil = .int .i64 (zs.getD j 0) by simp [List.getD, hj]]
          exact .int .i64 _ (by simp)
  have read : ∀ (xs : List Int) (v : Value), xs ≠ [] → zg (B.X σ (zk [])) w (dI xs) v → ∃ b off cap, v = .slice (some ⟨b, off, none⟩) xs.length cap ∧ b < w.heap.size ∧ ∀ j, j < xs.length → w.cell? ⟨b, off + j, none⟩ = some (.int .i64 (at0 xs j)) := by
    intro xs v hne hd
    unfold dI at hd
    have hl : (xs.map (D.int .i64)).length = xs.length := List.length_map _
    generalize hys : xs.map (D.int .i64) = ys at hd hl
    cases hd with
    | arr0 s a cap => exact absurd (List.eq_nil_of_length_eq_zero (by simpa using hl.symm)) hne
    | arr s _ b off cap cv g1 g2 g3 g4 g5 g6 g7 =>
      refine ⟨b, off, cap, by rw [hl], g2, fun j hj => ?_⟩
      have h6 := g6 j (by omega)
      have h7 := g7 j 0 (by omega) (by omega)
      rw [Nat.mul_one, Nat.add_zero, ← hys, show (xs.map (D.int .i64)).getD j .nil = .int .i64 (at0 xs j) by simp [List.getD, at0, hj]] at h7
      rw [h6]
      generalize cv j = z at h7
      cases h7; rfl
  rw [ha]
  have e0 : ([V.d (dI cell), V.d (dI rank)].getD 0 .undef) = .d (dI cell) := rfl
  have e1 : ([V.d (dI cell), V.d (dI rank)].getD 1 .undef) = .d (dI rank) := rfl
  rw [e0] at h0
  rw [e1] at h1
  generalize args.getD 0 undef = va at h0
  generalize args.getD 1 undef = vb at h1
  cases h0 with
  | d _ _ hd0 =>
  cases h1 with
  | d _ _ hd1 =>
  by_cases hc : cell = []
  · subst hc
    have hv : ∃ a' cap, va = .slice a' 0 cap := by
      unfold dI at hd0
      cases hd0 with
      | arr0 s a' cap => exact ⟨a', cap, rfl⟩
      | arr s _ b off cap cv => exact ⟨_, cap, rfl⟩
    obtain ⟨a', cap, rfl⟩ := hv
    refine (zmX a' cap vb w).mono ?_
    rintro e w' ⟨he, hg, hh⟩
    exact fin e w' #[] 0 (fun _ => 0) he hg ⟨hh, ⟨fun i j hi => by simp at hi, fun i hi => by simp at hi⟩, rfl, fun i hi => by simp [zB, zw] at hi, fun i hi => by simp [zB, zw] at hi, fun i j hi => by simp [zB, zw] at hi⟩
  · have hpos : 0 < cell.length := List.length_pos_iff.2 hc
    obtain ⟨b1, o1, cap1, rfl, l1, c1⟩ := read cell va hc hd0
    obtain ⟨b2, o2, cap2, rfl, l2, c2⟩ := read rank vb (fun e => by rw [e] at hle; simp at hle; exact hc (List.eq_nil_of_length_eq_zero (by simp [hle]))) hd1
    refine (zmZ (T := T) b1 o1 cap1 b2 o2 cap2 rank.length cell rank w hpos hle (by omega) (fun b o ht => hS.pins b o (hT b o ht)) l1 l2 c1 (fun j hj => c2 j (by omega))).mono ?_
    rintro e w' ⟨he, hg, es, clock, blk, hG⟩
    exact fin e w' es clock blk he hg hG
end Go.Ab
namespace Go.Ab
open Go Go.Proofs
theorem zoY {α:Type} [DecidableEq α] : ∀ {l l':List α},l.Nodup→(∀ x∈l,x∈l')→l.length≤l'.length
 | [],_,_,_=>Nat.zero_le _
 | x::t,l',h,hs=>by
  obtain ⟨h1,h2⟩:=List.nodup_cons.1 h
  have hx:=hs x (by simp)
  have:=zoY (l:=t) (l':=l'.erase x) h2 fun y hy=>(List.mem_erase_of_ne (fun e=>h1 (by rw [← e];exact hy))).2 (hs y (List.mem_cons_of_mem _ hy))
  rw [List.length_erase_of_mem hx] at this
  have hp:=List.length_pos_of_mem hx
  simp only [List.length_cons];omega
theorem zdd {zs:List (BitVec 64)} {x:BitVec 64} : x∈zeg zs↔x∈zs:=by
 rw [zeg,zfk,← zrt,(zqy zrI zs.toArray).mem_iff]
theorem zjK (zs:List (BitVec 64)):(zeg zs).Nodup:=by
 obtain ⟨⟨h1,-,-⟩,h3⟩:=Sort.sort_sorts ltU zrI zs.toArray
 have:=zkC (lt:=ltU) (d:=Sort.sort ltU zs.toArray) (fun i j hij hj=>h3 i j (Nat.zero_le _) hij (by rw [← h1];exact hj)) (fun x y a b=>by
  simp only [ltU,decide_eq_false_iff_not] at a b
  exact BitVec.eq_of_toNat_eq (by omega)) (Nat.le_refl _)
 exact this.imp fun h e=>by subst e;simp [ltU] at h
def rk (r:List (BitVec 64)) (w:Nat):Nat:=(zeg (zL r w r.length)).length
theorem zdT {r:List (BitVec 64)} {w n:Nat} {x:BitVec 64} : x∈zL r w n ↔ ∃ v,v < n∧rb r w v=true∧rb r v w=false∧uAt r v=x:=by
 unfold zL
 rw [List.mem_map]
 constructor
 ·rintro ⟨v,h,rfl⟩
  rw [List.mem_filter,List.mem_range] at h
  simp only [Bool.and_eq_true,Bool.not_eq_true'] at h
  exact ⟨v,h.1,h.2.1,h.2.2,rfl⟩
 ·rintro ⟨v,h1,h2,h3,rfl⟩
  exact ⟨v,List.mem_filter.2 ⟨List.mem_range.2 h1,by simp [h2,h3]⟩,rfl⟩
theorem zw5 {r:List (BitVec 64)} {w v:Nat} (h : ∀ x,x∈zL r w r.length→x∈zL r v r.length):rk r w≤rk r v :=
 zoY (zjK _) fun x hx=>zdd.2 (h x (zdd.1 hx))
theorem zwI {r:List (BitVec 64)} {w v:Nat} {y:BitVec 64} (h : ∀ x,x∈zL r w r.length→x∈zL r v r.length) (h1:y∈zL r v r.length) (h2:y ∉ zL r w r.length):rk r w < rk r v:=by
 have:=zoY (l:=y::zeg (zL r w r.length)) (l':=zeg (zL r v r.length)) (List.nodup_cons.2 ⟨fun h=>h2 (zdd.1 h),zjK _⟩) fun x hx=>by
  rcases List.mem_cons.1 hx with rfl|hx
  ·exact zdd.2 h1
  ·exact zdd.2 (h x (zdd.1 hx))
 exact this
theorem zv5 {r:List (BitVec 64)} {w v:Nat} {y:BitVec 64} (h : ∀ x,x∈zL r w r.length→x=y∨x∈zL r v r.length):rk r w≤rk r v+1:=by
 have:=zoY (l:=zeg (zL r w r.length)) (l':=y::zeg (zL r v r.length)) (zjK _) fun x hx=>by
  rcases h x (zdd.1 hx) with rfl|h
  ·simp
  ·exact List.mem_cons_of_mem _ (zdd.2 h)
 simpa [rk] using this
theorem zwA {α:Type} (f:α→Nat) : ∀ {l:List α},l≠[] → ∃ x∈l,∀ y∈l,f y≤f x
 | [],h=>absurd rfl h
 | [x],_=>⟨x,by simp,by simp⟩
 | x::y::t,_=>by
  obtain ⟨z,h1,h2⟩:=zwA f (l:=y::t) (by simp)
  by_cases hz:f x≤f z
  ·refine ⟨z,List.mem_cons_of_mem _ h1,fun u hu=>?_⟩
   rcases List.mem_cons.1 hu with rfl|hu
   ·exact hz
   ·exact h2 u hu
  ·refine ⟨x,by simp,fun u hu=>?_⟩
   rcases List.mem_cons.1 hu with rfl|hu
   ·exact Nat.le_refl _
   ·have:=h2 u hu;omega
def cmp (r:List (BitVec 64)) (w v:Nat):Bool:=rb r w v||rb r v w
structure zd2 (r:List (BitVec 64)):Prop where
 len:r.length≤64
 ins : ∀ w v,rb r w v=true→v < r.length
 refl : ∀ w,w < r.length→rb r w w=true
 tr : ∀ w u v,rb r w u=true→rb r u v=true→rb r w v=true
 conn : ∀ w v i,cmp r w v=true→cmp r w i=true→cmp r v i=true
theorem zm0 {r:List (BitVec 64)} {w v:Nat} (h:rb r w v=true):w < r.length:=by
 apply Classical.byContradiction
 intro hn
 rw [zhU (by omega)] at h;cases h
theorem zik {r:List (BitVec 64)} {w v:Nat} : cmp r w v=cmp r v w:=by unfold cmp;exact Bool.or_comm _ _
theorem zkO {r:List (BitVec 64)} {w i:Nat} : (uAt r w).getLsbD i=rb r w i:=rfl
theorem zwK {r:List (BitVec 64)} {w v:Nat} (h : ∀ i,rb r w i=rb r v i):uAt r w=uAt r v:=by
 apply BitVec.eq_of_getLsbD_eq
 intro i _
 exact h i
namespace zd2
variable {r:List (BitVec 64)} (h:zd2 r)
include h
theorem cmp_refl {w:Nat} (hw:w < r.length):cmp r w w=true:=by simp [cmp,h.refl w hw]
theorem cmp_lt {w v:Nat} (hc:cmp r w v=true):w < r.length∧v < r.length:=by
 simp only [cmp,Bool.or_eq_true] at hc
 rcases hc with hc|hc
 ·exact ⟨zm0 hc,h.ins _ _ hc⟩
 ·exact ⟨h.ins _ _ hc,zm0 hc⟩
theorem cmp_tr {w v i:Nat} (h1:cmp r w v=true) (h2:cmp r v i=true):cmp r w i=true:=h.conn v w i (by rw [zik];exact h1) h2
theorem eq_rows {w v:Nat} (h1:rb r w v=true) (h2:rb r v w=true):uAt r w=uAt r v:=zwK fun i=>by
 rw [Bool.eq_iff_iff];exact ⟨h.tr _ _ _ h2,h.tr _ _ _ h1⟩
theorem below_sub {w v:Nat} (h1:rb r w v=true) : ∀ x,x∈zL r v r.length→x∈zL r w r.length:=by
 intro x hx
 obtain ⟨u,h2,h3,h4,rfl⟩:=zdT.1 hx
 refine zdT.2 ⟨u,h2,h.tr _ _ _ h1 h3,?_,rfl⟩
 cases hb:rb r u w with
 | false=>rfl
 | true=>rw [h.tr _ _ _ hb h1] at h4;cases h4
theorem rk_mono {w v:Nat} (h1:rb r w v=true):rk r v≤rk r w:=zw5 (h.below_sub h1)
theorem rk_strict {w v:Nat} (h1:rb r w v=true) (h2:rb r v w=false):rk r v < rk r w:=by
 refine zwI (y:=uAt r v) (h.below_sub h1) (zdT.2 ⟨v,h.ins _ _ h1,h1,h2,rfl⟩) fun hm=>?_
 obtain ⟨u,h3,h4,h5,h6⟩:=zdT.1 hm
 have h7:rb r u v=true:=by rw [← zkO,h6,zkO];exact h.refl v (h.ins _ _ h1)
 rw [h7] at h5;cases h5
theorem rk_iff {w v:Nat} (hc:cmp r w v=true):rk r v≤rk r w↔rb r w v=true:=by
 constructor
 ·intro hk
  cases hb:rb r w v with
  | true=>rfl
  | false =>
   simp only [cmp,hb,Bool.false_or] at hc
   have:=h.rk_strict hc hb
   omega
 ·exact h.rk_mono
theorem rk_gap {w:Nat} (hw:w < r.length):rk r w=0 ∨ ∃ v,rb r w v=true∧rk r v+1=rk r w:=by
 by_cases he:((List.range r.length).filter fun v=>rb r w v && !rb r v w)=[]
 ·left
  have h0:zL r w r.length=[]:=by unfold zL;rw [he];rfl
  have h1:zeg (zL r w r.length)=[]:=List.eq_nil_iff_forall_not_mem.2 fun x hx=>by
   rw [zdd,h0] at hx;cases hx
  unfold rk
  rw [h1];rfl
 ·right
  obtain ⟨v,h1,h2⟩:=zwA (rk r) he
  rw [List.mem_filter,List.mem_range] at h1
  simp only [Bool.and_eq_true,Bool.not_eq_true'] at h1
  obtain ⟨h3,h4,h5⟩:=h1
  refine ⟨v,h4,?_⟩
  have h6:=h.rk_strict h4 h5
  have h7:rk r w≤rk r v+1:=zv5 (y:=uAt r v) fun x hx=>by
   obtain ⟨u,a1,a2,a3,rfl⟩:=zdT.1 hx
   have hm:=h2 u (List.mem_filter.2 ⟨List.mem_range.2 a1,by simp [a2,a3]⟩)
   have hc:cmp r v u=true:=h.conn w v u (by simp [cmp,h4]) (by simp [cmp,a2])
   have hvu:=(h.rk_iff hc).1 hm
   cases hb:rb r u v with
   | true=>left;exact h.eq_rows hb hvu
   | false=>right;exact zdT.2 ⟨u,a1,hvu,hb,rfl⟩
  omega
end zd2
end Go.Ab
namespace Go.Ab
open Go Go.Proofs
theorem zhj {r:List (BitVec 64)} (hl:r.length≤64) (hi:zgg r) (w v:Nat):zeM r (za2 r) w v=cmp r w v:=by
 unfold zeM cmp
 rw [zl9 hl]
 cases hb:rb r v w with
 | false=>simp
 | true=>simp [zm0 hb,hi v w hb]
theorem zwE {r:List (BitVec 64)} (hr:zac r=0) (hc:zd9 r (za2 r)=true):zd2 r:=by
 obtain ⟨h1,h2⟩:=za7.1 hr
 obtain ⟨h3,h4,h5⟩:=zjw.1 hc
 have g3 : ∀ w,w < r.length→rb r w w=true:=by
  rcases h3.2 with h|h|h|h|h
  ·exact absurd h.1 (by decide)
  ·exact h.2
  ·exact absurd h.1 (by decide)
  ·exact absurd h.1 (by decide)
  ·exact absurd h.1 (by decide)
 have g4 : ∀ w u v,rb r w u=true→rb r u v=true→rb r w v=true:=by
  rcases h4.2 with h|h|h|h|h
  ·exact absurd h.1 (by decide)
  ·exact absurd h.1 (by decide)
  ·exact absurd h.1 (by decide)
  ·exact h.2
  ·exact absurd h.1 (by decide)
 refine ⟨h1,h2,g3,g4,fun w v i ha hb=>?_⟩
 have hw:w < r.length∧v < r.length:=by
  simp only [cmp,Bool.or_eq_true] at ha
  rcases ha with ha|ha
  ·exact ⟨zm0 ha,h2 _ _ ha⟩
  ·exact ⟨h2 _ _ ha,zm0 ha⟩
 have:=h5 w hw.1 v hw.2 (by rw [zhj h1 h2];exact ha) i (by rw [zhj h1 h2];exact hb)
 rwa [zhj h1 h2] at this
theorem zri {r:List (BitVec 64)} (h:zd2 r):zd9 r (za2 r)=true:=by
 have hr:=za7.2 ⟨h.len,h.ins⟩
 refine zjw.2 ⟨⟨hr,.inr (.inl ⟨rfl,h.refl⟩)⟩,⟨hr,.inr (.inr (.inr (.inl ⟨rfl,h.tr⟩)))⟩,fun w hw v hv ha i hb=>?_⟩
 rw [zhj h.len h.ins] at ha hb ⊢
 exact h.conn w v i ha hb
def zeo (r:List (BitVec 64)) (w:Nat):Nat:=Lib.ctz 64 (uAt r w|||uAt (za2 r) w).toNat
namespace zd2
variable {r:List (BitVec 64)} (h:zd2 r)
include h
theorem low_spec {w:Nat} (hw:w < r.length):zeo r w < r.length∧cmp r w (zeo r w)=true ∧ ∀ i,cmp r w i=true→zeo r w≤i:=by
 have hb : ∀ i,(uAt r w|||uAt (za2 r) w).getLsbD i=cmp r w i:=fun i=>by
  rw [BitVec.getLsbD_or,zkO,zkO]
  exact zhj h.len h.ins w i
 have hne:uAt r w|||uAt (za2 r) w≠0#64:=fun e=>by
  have:=hb w
  rw [e,h.cmp_refl hw] at this
  simp at this
 obtain ⟨h1,h2,h3,-⟩:=zrs _ hne
 have h4:cmp r w (zeo r w)=true:=(hb _).symm.trans h2
 refine ⟨(h.cmp_lt h4).2,h4,fun i hi=>?_⟩
 apply Classical.byContradiction
 intro hn
 have:=h3 i (by show i < zeo r w;omega)
 rw [hb,hi] at this;cases this
theorem low_eq {w v:Nat} (hw:w < r.length) (hv:v < r.length):zeo r w=zeo r v↔cmp r w v=true:=by
 obtain ⟨a1,a2,a3⟩:=h.low_spec hw
 obtain ⟨b1,b2,b3⟩:=h.low_spec hv
 constructor
 ·intro e
  rw [← e,zik] at b2
  exact h.cmp_tr a2 b2
 ·intro hc
  have h1:=b3 _ (h.cmp_tr (by rw [zik];exact hc) a2)
  have h2:=a3 _ (h.cmp_tr hc b2)
  omega
theorem low_le {w:Nat} (hw:w < r.length):zeo r w≤w:=(h.low_spec hw).2.2 w (h.cmp_refl hw)
theorem low_low {w:Nat} (hw:w < r.length):zeo r (zeo r w)=zeo r w:=by
 obtain ⟨a1,a2,a3⟩:=h.low_spec hw
 exact (h.low_eq a1 hw).2 (by rw [zik];exact a2)
end zd2
theorem zdM {r:List (BitVec 64)} : (zcd r).length=r.length:=by simp [zcd]
theorem zkg {r:List (BitVec 64)} : (zcz r).length=r.length:=by simp [zcz]
theorem zbQ {r:List (BitVec 64)} {w:Nat} (hw:w < r.length):at0 (zcd r) w=(zeo r w:Int):=zx (by simp [zcd,hw,zeo])
theorem zcS {r:List (BitVec 64)} {w:Nat} (hw:w < r.length):at0 (zcz r) w=(rk r w:Int):=zx (by simp [zcz,hw,rk])
theorem zvJ {r:List (BitVec 64)} (h:zd2 r):zmj (zcd r):=by
 intro w hw
 rw [zdM] at hw
 have h1:=h.low_le hw
 rw [zbQ hw]
 refine ⟨by omega,by omega,?_⟩
 rw [Int.toNat_natCast,zbQ (by omega),h.low_low hw]
theorem zu2 {r:List (BitVec 64)} (h:zd2 r):zg9 (zcd r) (zcz r):=by
 intro w hw
 rw [zdM] at hw
 rw [zcS hw]
 refine ⟨by omega,?_⟩
 rcases h.rk_gap hw with h1|⟨v,h1,h2⟩
 ·left;omega
 ·right
  have hv:=h.ins _ _ h1
  refine ⟨v,by rw [zdM];exact hv,?_,?_⟩
  ·rw [zbQ hv,zbQ hw]
   exact congrArg Int.ofNat ((h.low_eq hv hw).2 (by simp [cmp,h1]))
  ·rw [zcS hv];omega
theorem za3 {p:PM} {a:Nat} : (zQ p a).length=p.W.toNat:=by simp [zQ]
theorem zv4 {p:PM} {a:Nat} (hW:p.W≤64) {w v:Nat} : rb (zQ p a) w v=(decide (w < p.W.toNat)&&decide (v < p.W.toNat)&&(at0 (za p.cell a) v==at0 (za p.cell a) w)&&decide (at0 (za p.rank a) v≤at0 (za p.rank a) w)):=by
 by_cases hw:w < p.W.toNat
 ·have:(zQ p a)[w]? = some (zby (za p.cell a) (za p.rank a) w p.W.toNat):=by simp [zQ,hw]
  rw [zao this,zby,zfB]
  by_cases hv:v < p.W.toNat
  ·simp [hw,hv,show v < 64 by omega]
  ·simp [hv]
 ·rw [zhU (by rw [za3];omega)];simp [hw]
theorem zaK {p:PM} {a:Nat} (hW:p.W≤64) {w v:Nat} : rb (zQ p a) w v=true↔w < p.W.toNat∧v < p.W.toNat∧at0 (za p.cell a) v=at0 (za p.cell a) w∧at0 (za p.rank a) v≤at0 (za p.rank a) w:=by
 rw [zv4 hW]
 simp only [Bool.and_eq_true,decide_eq_true_eq,beq_iff_eq,and_assoc]
theorem zgo {p:PM} {a:Nat} (hW:p.W≤64) {w v:Nat} : cmp (zQ p a) w v=true↔w < p.W.toNat∧v < p.W.toNat∧at0 (za p.cell a) v=at0 (za p.cell a) w:=by
 unfold cmp
 rw [Bool.or_eq_true,zaK hW,zaK hW]
 constructor
 ·rintro (⟨h1,h2,h3,-⟩|⟨h1,h2,h3,-⟩)
  ·exact ⟨h1,h2,h3⟩
  ·exact ⟨h2,h1,h3.symm⟩
 ·rintro ⟨h1,h2,h3⟩
  rcases Int.le_total (at0 (za p.rank a) v) (at0 (za p.rank a) w) with h|h
  ·exact .inl ⟨h1,h2,h3,h⟩
  ·exact .inr ⟨h2,h1,h3.symm,h⟩
theorem ziK {p:PM} {a:Nat} (hW:p.W≤64):zd2 (zQ p a) where
 len:=by rw [za3];omega
 ins w v h:=by rw [za3];exact ((zaK hW).1 h).2.1
 refl w h:=(zaK hW).2 ⟨by rwa [za3] at h,by rwa [za3] at h,rfl,Int.le_refl _⟩
 tr w u v h1 h2:=by
  rw [zaK hW] at h1 h2 ⊢
  exact ⟨h1.1,h2.2.1,h2.2.2.1.trans h1.2.2.1,Int.le_trans h2.2.2.2 h1.2.2.2⟩
 conn w v i h1 h2:=by
  rw [zgo hW] at h1 h2 ⊢
  exact ⟨h1.2.1,h2.2.1,h2.2.2.trans h1.2.2.symm⟩
theorem zmY {K:Nat→Prop} {f g:Nat→Int} (f0 : ∀ w,K w→0≤f w) (g0 : ∀ w,K w→0≤g w) (hf : ∀ w,K w→f w=0 ∨ ∃ v,K v∧f v=f w - 1) (hg : ∀ w,K w→g w=0 ∨ ∃ v,K v∧g v=g w - 1)
  (ho : ∀ w v,K w→K v→(f v≤f w↔g v≤g w)) : ∀ (n:Nat) (w:Nat),K w→(f w).toNat=n→f w=g w
 | 0,w,hw,hn=>by
  have h1:=f0 w hw
  have h2:=g0 w hw
  rcases hg w hw with h|⟨v,hv,h⟩
  ·omega
  ·have h3:=f0 v hv
   have h4:=(ho v w hv hw).1 (by omega)
   omega
 | n+1,w,hw,hn=>by
  have h2:=g0 w hw
  rcases hf w hw with h|⟨v,hv,h⟩
  ·omega
  ·have ih:=zmY f0 g0 hf hg ho n v hv (by omega)
   have h3 : ¬ g w≤g v:=fun hh=>by
    have:=(ho v w hv hw).2 hh
    omega
   rcases hg w hw with h4|⟨u,hu,h4⟩
   ·have:=g0 v hv;omega
   ·have h5 : ¬ f w≤f u:=fun hh=>by
     have:=(ho u w hu hw).1 hh
     omega
    have h6:=(ho v u hv hu).1 (by omega)
    omega
theorem zpY {l l':List Int} (hl:l.length=l'.length) (h : ∀ i,i < l.length→at0 l i=at0 l' i):l=l':=by
 refine List.ext_getElem hl fun i h1 h2=>?_
 have:=h i h1
 simp only [at0,List.getD,List.getElem?_eq_getElem h1,List.getElem?_eq_getElem h2,Option.getD_some] at this
 exact this
theorem zsS {p:PM} (hg:zo5 p) {a:Nat} (ha:a < p.cell.length):zcd (zQ p a)=za p.cell a:=by
 obtain ⟨hl,hl'⟩:=hg.lens a ha
 have hW:=hg.w2
 have hP:=ziK (a:=a) hW
 have hc:=hg.cells a ha
 refine zpY (by rw [zdM,za3];omega) fun w hw=>?_
 rw [zdM] at hw
 rw [zbQ hw]
 obtain ⟨h1,h2,h3⟩:=hP.low_spec hw
 rw [za3] at hw h1
 rw [zgo hW] at h2
 obtain ⟨c1,c2,c3⟩:=hc w (by omega)
 have h4:=h3 (at0 (za p.cell a) w).toNat ((zgo hW).2 ⟨hw,by omega,c3⟩)
 obtain ⟨d1,d2,d3⟩:=hc _ (show zeo (zQ p a) w < (za p.cell a).length by omega)
 rw [h2.2.2] at d2
 omega
theorem ztw {p:PM} (hg:zo5 p) {a:Nat} (ha:a < p.cell.length):zcz (zQ p a)=za p.rank a:=by
 obtain ⟨hl,hl'⟩:=hg.lens a ha
 have hW:=hg.w2
 have hP:=ziK (a:=a) hW
 have hc:=hg.ranked a ha
 refine zpY (by rw [zkg,za3];omega) fun w hw=>?_
 rw [zkg] at hw
 rw [zcS hw]
 have hw':=hw
 rw [za3] at hw'
 refine zmY (K:=fun v=>v < p.W.toNat∧at0 (za p.cell a) v=at0 (za p.cell a) w) (f:=fun v=>(rk (zQ p a) v:Int)) (g:=fun v=>at0 (za p.rank a) v) ?_ ?_ ?_ ?_ ?_ _ w ⟨hw',rfl⟩ rfl
 ·intro v hv;exact Int.natCast_nonneg _
 ·intro v hv;exact (hc v (by omega)).1
 ·intro v hv
  rcases hP.rk_gap (w:=v) (by rw [za3];exact hv.1) with h|⟨u,h1,h2⟩
  ·left;show (rk (zQ p a) v:Int)=0;omega
  ·right
   rw [zaK hW] at h1
   exact ⟨u,⟨h1.2.1,h1.2.2.1.trans hv.2⟩,by show (rk (zQ p a) u:Int)=rk (zQ p a) v - 1;omega⟩
 ·intro v hv
  obtain ⟨-,h⟩:=hc v (by omega)
  refine h.imp_right fun ⟨u,h1,h2,h3⟩=>⟨u,⟨by omega,h2.trans hv.2⟩,h3⟩
 ·intro v u hv hu
  show (rk (zQ p a) u:Int)≤rk (zQ p a) v↔_
  rw [Int.ofNat_le,hP.rk_iff ((zgo hW).2 ⟨hv.1,hu.1,hu.2.trans hv.2.symm⟩),zaK hW]
  exact ⟨fun h=>h.2.2.2,fun h=>⟨hv.1,hu.1,hu.2.trans hv.2.symm,h⟩⟩
theorem zqm {n:Int} {r:List (BitVec 64)} : zg5 n r=0↔0≤n∧n≤64∧(r.length:Int)=n∧zgg r:=by
 constructor
 ·intro h
  obtain ⟨h1,h2⟩:=znD h
  obtain ⟨h3,h4⟩:=za7.1 h2
  exact ⟨by omega,by omega,h1,h4⟩
 ·rintro ⟨h1,h2,h3,h4⟩
  have:=za7.2 ⟨by omega,h4⟩
  unfold zac at this
  rw [if_neg (by omega)] at this
  unfold zg5
  rw [if_neg (by omega),if_neg (by omega),← h3]
  exact this
theorem zmW {α:Type} {l:List α} {f:Nat→α} {z:α} (h : ∀ a,a < l.length→f a=l.getD a z):(List.range l.length).map f=l:=by
 refine List.ext_getElem (by simp) fun i h1 h2=>?_
 have:=h i h2
 simp only [List.getElem_map,List.getElem_range,this,List.getD,List.getElem?_eq_getElem h2,Option.getD_some]
theorem zuS {p:PM} (hg:zo5 p) (hs:zR p.W p.cell.length p.val=0):zeV p.W p.val ((List.range p.cell.length).map (zQ p))=(p,0):=by
 have h1:=hg.w1
 have h2:=hg.w2
 have hr : ∀ a,zg5 p.W (zQ p a)=0:=fun a=>zqm.2 ⟨by omega,h2,by rw [za3];omega,(ziK h2).ins⟩
 unfold zeV
 rw [List.length_map,List.length_range,if_neg (not_not_intro hs),if_neg,if_neg]
 ·rw [List.map_map,List.map_map]
  have e1:(List.range p.cell.length).map (zcd∘zQ p)=p.cell:=zmW (z:=[]) fun a ha=>zsS hg ha
  have e2:(List.range p.cell.length).map (zcz∘zQ p)=p.rank:=by
   rw [← hg.len];exact zmW (z:=[]) fun a ha=>ztw hg (by rw [← hg.len];exact ha)
  rw [e1,e2]
 ·rw [List.any_map,List.any_eq_true]
  rintro ⟨a,-,ha⟩
  simp [zri (ziK (p:=p) (a:=a) h2)] at ha
 ·rw [List.any_map,List.any_eq_true]
  rintro ⟨a,-,ha⟩
  simp [hr a] at ha
theorem zsy {p:PM} (h:zq p=0):zR p.W p.cell.length p.val=0:=by
 unfold zq at h
 split at h
 ·rename_i h0;exact absurd h h0
 ·rename_i h0;exact Classical.not_not.1 h0
theorem zru {W:Int} {val:List (BitVec 64)} {acc:List (List (BitVec 64))} {s:PM} (h:zeV W val acc=(s,0)) :
  zR W acc.length val=0∧(∀ r∈acc,(r.length:Int)=W∧zd2 r)∧s=⟨W,val,acc.map zcd,acc.map zcz⟩:=by
 unfold zeV at h
 split at h
 ·rename_i h0;exact absurd (congrArg Prod.snd h) h0
 ·rename_i h0
  split at h
  ·exact absurd (congrArg Prod.snd h) (by show ¬(3:Int)=0;decide)
  ·split at h
   ·exact absurd (congrArg Prod.snd h) (by show ¬(12:Int)=0;decide)
   ·rename_i h1 h2
    refine ⟨Classical.not_not.1 h0,fun r hr=>?_,(congrArg Prod.fst h).symm⟩
    have h3:zg5 W r=0:=by
     apply Classical.byContradiction
     intro hn
     exact h1 (List.any_eq_true.2 ⟨r,hr,decide_eq_true hn⟩)
    obtain ⟨h4,h5⟩:=znD h3
    refine ⟨h4,zwE h5 ?_⟩
    apply Classical.byContradiction
    intro hn
    exact h2 (List.any_eq_true.2 ⟨r,hr,by simpa using hn⟩)
theorem zc6 {α:Type} {l:List α} {f:α→List Int} {a:Nat} {x:α} (h:l[a]? = some x):za (l.map f) a=f x:=z2 (by rw [List.getElem?_map,h];rfl)
theorem zur {p:PM} (h0:zR p.W p.cell.length p.val=0) (h1:p.rank.length=p.cell.length) (h2:zh4 p) (h3:zcP p) (h4:zfh p):zq p=0:=by
 unfold zq
 rw [if_neg (not_not_intro h0),if_neg (not_not_intro h1),if_neg (not_not_intro h2),if_neg (not_not_intro h3),if_neg (not_not_intro h4)]
theorem ztq {W:Int} {val:List (BitVec 64)} {acc:List (List (BitVec 64))} {s:PM} (h:zeV W val acc=(s,0)):zq s=0 ∧ ∀ a r,acc[a]? = some r→zQ s a=r:=by
 obtain ⟨h1,h2,rfl⟩:=zru h
 obtain ⟨w1,w2,-⟩:=zgX h1
 refine ⟨zur (by rw [List.length_map];exact h1) (by rw [List.length_map,List.length_map]) ?_ ?_ ?_,fun a r hr=>?_⟩
 ·intro a ha
  rw [List.length_map] at ha
  have hx:=List.getElem?_eq_getElem ha
  obtain ⟨h3,h4⟩:=h2 _ (List.mem_of_getElem? hx)
  rw [zc6 hx,zc6 hx,zdM,zkg]
  exact ⟨h3,h3⟩
 ·intro a ha
  rw [List.length_map] at ha
  have hx:=List.getElem?_eq_getElem ha
  rw [zc6 hx]
  exact zvJ (h2 _ (List.mem_of_getElem? hx)).2
 ·intro a ha
  rw [List.length_map] at ha
  have hx:=List.getElem?_eq_getElem ha
  rw [zc6 hx,zc6 hx]
  exact zu2 (h2 _ (List.mem_of_getElem? hx)).2
 ·obtain ⟨h3,h4⟩:=h2 r (List.mem_of_getElem? hr)
  refine zrx (by rw [za3];show W.toNat=_;omega) fun w v hw=>?_
  rw [za3] at hw
  replace hw:w < W.toNat:=hw
  rw [Bool.eq_iff_iff,zaK w2]
  show w < W.toNat∧v < W.toNat∧at0 (za (acc.map zcd) a) v=at0 (za (acc.map zcd) a) w∧at0 (za (acc.map zcz) a) v≤at0 (za (acc.map zcz) a) w↔_
  rw [zc6 hr,zc6 hr]
  constructor
  ·rintro ⟨-,hv,a1,a2⟩
   rw [zbQ (by omega),zbQ (by omega)] at a1
   rw [zcS (by omega),zcS (by omega)] at a2
   have hc:=(h4.low_eq (w:=w) (v:=v) (by omega) (by omega)).1 (by omega)
   exact (h4.rk_iff hc).1 (by omega)
  ·intro hb
   have hv:=h4.ins _ _ hb
   have hc:cmp r w v=true:=by simp [cmp,hb]
   refine ⟨hw,by omega,?_,?_⟩
   ·rw [zbQ hv,zbQ (by omega),(h4.low_eq (by omega) hv).2 hc]
   ·rw [zcS hv,zcS (by omega)]
    exact Int.ofNat_le.2 (h4.rk_mono hb)
end Go.Ab
namespace Go.Ab
open Go
theorem zsp {x:BitVec 64} {k i:Nat} (hk:k < 64):(x|||1#64 <<< k).getLsbD i=true↔x.getLsbD i=true∨i=k:=by
 rw [BitVec.getLsbD_or,Bool.or_eq_true,zkA]
 constructor
 ·rintro (h|h)
  ·exact .inl h
  ·simp at h;exact .inr h.2
 ·rintro (h|rfl)
  ·exact .inl h
  ·exact .inr (by simp [hk])
theorem zaM {q:Nat→Nat} {s:BitVec 64} {b:Nat} : ∀ k,(∀ w,w < k→q w < 64)→((zM q s k).getLsbD b=true ↔ ∃ w,w < k∧s.getLsbD w=true∧q w=b)
 | 0,_=>by simp [zM]
 | k+1,h=>by
  have ih:=zaM (q:=q) (s:=s) (b:=b) k fun w hw=>h w (by omega)
  rw [zgK]
  split
  ·rename_i hs
   rw [zsp (h k (by omega)),ih]
   constructor
   ·rintro (⟨w,h1,h2⟩|rfl)
    ·exact ⟨w,by omega,h2⟩
    ·exact ⟨k,by omega,hs,rfl⟩
   ·rintro ⟨w,h1,h2,h3⟩
    by_cases e:w=k
    ·subst e;exact .inr h3.symm
    ·exact .inl ⟨w,by omega,h2,h3⟩
  ·rename_i hs
   rw [ih]
   constructor
   ·rintro ⟨w,h1,h2⟩;exact ⟨w,by omega,h2⟩
   ·rintro ⟨w,h1,h2,h3⟩
    by_cases e:w=k
    ·subst e;exact absurd h2 hs
    ·exact ⟨w,by omega,h2,h3⟩
def zaX (l:List (BitVec 64)) (w:Nat):Nat→Nat
 | 0=>0
 | k+1=>zaX l w k+if (l.getD k 0#64).getLsbD w=true then 2 ^ k else 0
theorem zlN (l:List (BitVec 64)) (w:Nat) : ∀ k,zaX l w k < 2 ^ k
 | 0=>by simp [zaX]
 | k+1=>by
  have:=zlN l w k
  have h2:=Nat.two_pow_pos k
  rw [zaX,Nat.pow_succ]
  split<;>omega
theorem zft (l:List (BitVec 64)) (w:Nat) {i:Nat} : ∀ k,(zaX l w k).testBit i=true↔i < k∧(l.getD i 0#64).getLsbD w=true
 | 0=>by simp [zaX]
 | k+1=>by
  have hlt:=zlN l w k
  have ih:=zft l w (i:=i) k
  have e:zaX l w (k+1)=2 ^ k * (if (l.getD k 0#64).getLsbD w=true then 1 else 0)+zaX l w k:=by
   rw [zaX];split<;>omega
  rw [e,Nat.testBit_two_pow_mul_add _ hlt]
  by_cases h:i < k
  ·rw [if_pos h,ih]
   exact ⟨fun ⟨a,b⟩=>⟨by omega,b⟩,fun ⟨a,b⟩=>⟨h,b⟩⟩
  ·rw [if_neg h]
   by_cases h2:i=k
   ·subst h2
    rw [Nat.sub_self]
    split
    ·rename_i hb;exact ⟨fun _=>⟨by omega,hb⟩,fun _=>by decide⟩
    ·rename_i hb;exact ⟨fun h=>by simp at h,fun h=>absurd h.2 hb⟩
   ·constructor
    ·intro h3
     exfalso
     obtain ⟨m,hm⟩ : ∃ m,i - k=m+1:=⟨i - k - 1,by omega⟩
     rw [hm,Nat.testBit_succ] at h3
     split at h3<;>simp at h3
    ·rintro ⟨a,-⟩;omega
def zdc (p:PM) (w:Nat):Nat:=zaX p.val w p.val.length
theorem zlO {p:PM} {v w:Nat} : zdc p v=zdc p w ↔ ∀ i,(p.val.getD i 0#64).getLsbD v=true↔(p.val.getD i 0#64).getLsbD w=true:=by
 constructor
 ·intro h i
  by_cases hi:i < p.val.length
  ·have a:=zft p.val v (i:=i) p.val.length
   have b:=zft p.val w (i:=i) p.val.length
   rw [show zaX p.val v p.val.length=zaX p.val w p.val.length from h] at a
   exact ⟨fun hv=>(b.1 (a.2 ⟨hi,hv⟩)).2,fun hw=>(a.1 (b.2 ⟨hi,hw⟩)).2⟩
  ·have:p.val.getD i 0#64=0#64:=by rw [List.getD,List.getElem?_eq_none (by omega)];rfl
   rw [this];simp
 ·intro h
  refine Nat.eq_of_testBit_eq fun i=>?_
  rw [Bool.eq_iff_iff]
  unfold zdc
  rw [zft,zft,h i]
def zoW (p:PM):Nat→Nat:=zN (zdp (zdc p))
def wkB (p:PM) (a w:Nat):BitVec 64:=uAt (zQ p a) w
def za8 (p:PM):List (Nat→BitVec 64):=(List.range p.cell.length).flatMap fun (a:Nat)=>[fun (w:Nat)=>zbj p (a:Int) (w:Int),fun w=>wkB p a w]
def zal (p:PM) (k:Nat):Nat→Nat:=zaR p.W.toNat (za8 p) (zoW p) k
theorem zcF (p:PM) (n:Nat):zcQ n (zoW p):=zlX (ziF _) n
theorem zev {p:PM} (hc0:zq p=0) {a w i:Nat} (hw:w < p.W.toNat):(wkB p a w).getLsbD i=true↔InC p a w i∧rkA p a i≤rkA p a w:=by
 have h2:=(zV hc0).w2
 show rb (zQ p a) w i=true↔_
 rw [zaK h2]
 exact ⟨fun ⟨_,a,b,c⟩=>⟨⟨a,b⟩,c⟩,fun ⟨⟨a,b⟩,c⟩=>⟨hw,a,b,c⟩⟩
theorem zl1 {p:PM} {r:Nat→BitVec 64} : r∈za8 p ↔ ∃ a:Nat,a < p.cell.length∧(r=(fun (w:Nat)=>zbj p (a:Int) (w:Int))∨r=fun w=>wkB p a w):=by
 unfold za8
 rw [List.mem_flatMap]
 constructor
 ·rintro ⟨a,ha,h⟩
  simp only [List.mem_cons,List.not_mem_nil,or_false] at h
  exact ⟨a,List.mem_range.1 ha,h⟩
 ·rintro ⟨a,ha,h⟩
  exact ⟨a,List.mem_range.2 ha,by simpa using h⟩
structure zgi (p:PM) (q:Nat→Nat):Prop where
 canon:zcQ p.W.toNat q
 fact : ∀ {v w},v < p.W.toNat→w < p.W.toNat→q v=q w→zdc p v=zdc p w
 rel : ∀ {v w},v < p.W.toNat→w < p.W.toNat→q v=q w → ∀ r∈za8 p,zM q (r v) p.W.toNat=zM q (r w) p.W.toNat
theorem zm7 (p:PM) : ∀ (k:Nat) {v w:Nat},v < p.W.toNat→w < p.W.toNat→zal p k v=zal p k w→zdc p v=zdc p w
 | 0,v,w,hv,hw,h=>by
  have:=(zhL (ziF (zdc p))).1 h
  simpa [zdp] using this
 | k+1,v,w,hv,hw,h=>by
  have h1:=zkL (rels:=za8 p) (zfe (rels:=za8 p) (zcF p p.W.toNat) k) hv
  have h2:=zkL (rels:=za8 p) (zfe (rels:=za8 p) (zcF p p.W.toNat) k) hw
  refine zm7 p k hv hw ?_
  show zaR _ _ _ k v=zaR _ _ _ k w
  rw [← h1,← h2]
  exact congrArg _ h
theorem zf0 (p:PM) (k:Nat):zcQ p.W.toNat (zal p k):=zfe (zcF p _) k
theorem zqo {p:PM} (hc0:zq p=0) {j:Nat} (hj:p.W.toNat≤j) {w:Nat} (hw:w < p.W.toNat):zal p j w=zal p p.W.toNat w :=
 ztf (zcF p _) (by omega) hj hw
theorem zme {p:PM} (hc0:zq p=0) {j:Nat} (hj:p.W.toNat≤j):zgi p (zal p j) where
 canon:=zf0 p j
 fact:=fun hv hw h=>zm7 p j hv hw h
 rel:=fun {v w} hv hw h r hr=>by
  have hs : ∀ {w},w < p.W.toNat→zbm p.W.toNat (za8 p) (zal p j) w=zal p j w:=fun {w} hw=>by
   have h1:zal p (j+1) w=zal p p.W.toNat w:=zqo hc0 (by omega) hw
   have h2:=zqo hc0 hj hw
   rw [h2,← h1];rfl
  rw [← hs hv,← hs hw] at h
  have h1:=(zhL (zdV p.W.toNat (za8 p) (zal p j))).1 h
  simp only [zaB,Bool.and_eq_true,decide_eq_true_eq,List.all_eq_true] at h1
  exact h1.2 r hr
section
variable {p:PM} (hc0:zq p=0) {q:Nat→Nat} (S:zgi p q)
include hc0 S
theorem zgi.q64 {w:Nat} (hw:w < p.W.toNat):q w < 64:=by
 have:=S.canon.le w hw
 have:=W64 hc0
 omega
theorem zgi.cell {a v w u:Nat} (ha:a < p.cell.length) (hv:v < p.W.toNat) (hw:w < p.W.toNat) (h:q v=q w) (hu:InC p a v u) : ∃ u',InC p a w u'∧q u'=q u:=by
 have hr:=S.rel hv hw h _ (zl1.2 ⟨a,ha,.inl rfl⟩)
 have h1:=(zaM (s:=zbj p (a:Int) (v:Int)) (b:=q u) p.W.toNat fun w hw=>S.q64 hc0 hw).2 ⟨u,hu.1,(zaO hc0 ha hv).2 hu,rfl⟩
 rw [hr] at h1
 obtain ⟨u',h2,h3,h4⟩:=(zaM p.W.toNat fun w hw=>S.q64 hc0 hw).1 h1
 exact ⟨u',(zaO hc0 ha hw).1 h3,h4⟩
theorem zgi.weak {a v w u:Nat} (ha:a < p.cell.length) (hv:v < p.W.toNat) (hw:w < p.W.toNat) (h:q v=q w) (hu:InC p a v u) (hr':rkA p a u≤rkA p a v) : ∃ u',InC p a w u'∧rkA p a u'≤rkA p a w∧q u'=q u:=by
 have hr:=S.rel hv hw h _ (zl1.2 ⟨a,ha,.inr rfl⟩)
 have h1:=(zaM (s:=wkB p a v) (b:=q u) p.W.toNat fun w hw=>S.q64 hc0 hw).2 ⟨u,hu.1,(zev hc0 hv).2 ⟨hu,hr'⟩,rfl⟩
 rw [hr] at h1
 obtain ⟨u',h2,h3,h4⟩:=(zaM p.W.toNat fun w hw=>S.q64 hc0 hw).1 h1
 obtain ⟨h5,h6⟩:=(zev hc0 hw).1 h3
 exact ⟨u',h5,h6,h4⟩
theorem zgi.bis:zge p p (fun v w=>v < p.W.toNat∧w < p.W.toNat∧q v=q w) where
 n:=rfl
 lt h:=⟨h.1,h.2.1⟩
 fact h i:=zlO.1 (S.fact h.1 h.2.1 h.2.2) i
 cf ha h hu:=by
  obtain ⟨u',h1,h2⟩:=S.cell hc0 ha h.1 h.2.1 h.2.2 hu
  exact ⟨u',h1,hu.1,h1.1,h2.symm⟩
 cb ha h hu:=by
  obtain ⟨u',h1,h2⟩:=S.cell hc0 ha h.2.1 h.1 h.2.2.symm hu
  exact ⟨u',h1,h1.1,hu.1,h2⟩
 sf ha h hu hr:=by
  obtain ⟨u',h1,h2,h3⟩:=S.weak hc0 ha h.1 h.2.1 h.2.2 hu hr
  exact ⟨u',h1,h2,hu.1,h1.1,h3.symm⟩
 sb ha h hu hr:=by
  obtain ⟨u',h1,h2,h3⟩:=S.weak hc0 ha h.2.1 h.1 h.2.2.symm hu hr
  exact ⟨u',h1,h2,h1.1,hu.1,h3⟩
end
def zF (n:Nat) (q:Nat→Nat):List Nat:=(List.range n).filter fun w=>decide (q w=w)
theorem zgV (n:Nat) (q:Nat→Nat):(zF n q).length=zcV n q:=rfl
def zO (q:Nat→Nat) (w:Nat):Nat:=zcV (q w) q
theorem zqn {q:Nat→Nat} {u:Nat} (hu:q u=u) : ∀ n,u < n→(zF n q)[zcV u q]? = some u
 | 0,h=>by omega
 | n+1,h=>by
  unfold zF
  rw [List.range_succ,List.filter_append]
  by_cases e:u=n
  ·subst e
   rw [List.getElem?_append_right (by show _≤zcV u q;exact Nat.le_refl _)]
   show (List.filter _ [u])[zcV u q - zcV u q]? = _
   rw [Nat.sub_self]
   simp [hu]
  ·have ih:=zqn hu n (by omega)
   have hlt:=(List.getElem?_eq_some_iff.1 ih).1
   rw [List.getElem?_append_left (by exact hlt)]
   exact ih
section
variable {n:Nat} {q:Nat→Nat} (hq:zcQ n q)
include hq
theorem zfx {w:Nat} (hw:w < n):(zF n q)[zO q w]? = some (q w) :=
 zqn (hq.idem w hw) n (by have:=hq.le w hw;omega)
theorem zgu {w:Nat} (hw:w < n):zO q w < (zF n q).length:=(List.getElem?_eq_some_iff.1 (zfx hq hw)).1
theorem zco {v w:Nat} (hv:v < n) (hw:w < n):zO q v=zO q w↔q v=q w:=by
 constructor
 ·intro h
  have h1:=zfx hq hv
  rw [h,zfx hq hw] at h1
  exact (Option.some.inj h1).symm
 ·intro h;unfold zO;rw [h]
omit hq in
theorem zu3 {u:Nat} : u∈zF n q↔u < n∧q u=u:=by
 unfold zF;rw [List.mem_filter,List.mem_range];simp
theorem zeW {i u:Nat} (h:(zF n q)[i]? = some u):u < n∧q u=u∧zO q u=i:=by
 obtain ⟨h1,h2⟩:=zu3.1 (List.mem_of_getElem? h)
 refine ⟨h1,h2,?_⟩
 have h3:=zfx hq h1
 rw [h2] at h3
 have hnd:(zF n q).Pairwise (· ≠ ·):=List.Pairwise.filter _ List.nodup_range
 obtain ⟨hi,ei⟩:=List.getElem?_eq_some_iff.1 h
 obtain ⟨hj,ej⟩:=List.getElem?_eq_some_iff.1 h3
 rw [List.pairwise_iff_getElem] at hnd
 rcases Nat.lt_trichotomy (zO q u) i with hl|hl|hl
 ·exact absurd (ej.trans ei.symm) (hnd _ _ hj hi hl)
 ·exact hl
 ·exact absurd (ei.trans ej.symm) (hnd _ _ hi hj hl)
end
def zbe (p:PM) (q:Nat→Nat) (a:Nat):List (BitVec 64):=(zF p.W.toNat q).map fun u=>zM (zO q) (wkB p a u) p.W.toNat
def zc8 (p:PM) (q:Nat→Nat):List (BitVec 64):=p.val.map fun s=>zM (zO q) s p.W.toNat
noncomputable def zfL (p:PM) (q:Nat→Nat):PM×Int:=zeV ((zF p.W.toNat q).length:Int) (zc8 p q) ((List.range p.cell.length).map (zbe p q))
section
variable {p:PM} (hc0:zq p=0) {q:Nat→Nat} (S:zgi p q)
include hc0 S
theorem zgi.num64 {w:Nat} (hw:w < p.W.toNat):zO q w < 64:=by
 have h1:=zgu S.canon hw
 have h2:=zda p.W.toNat q
 have:=W64 hc0
 rw [zgV] at h1
 omega
theorem zdU {a b c:Nat} : rb (zbe p q a) b c=true ↔ ∃ u w,(zF p.W.toNat q)[b]? = some u∧w < p.W.toNat∧InC p a u w∧rkA p a w≤rkA p a u∧zO q w=c:=by
 unfold rb zbe
 rw [List.getD,List.getElem?_map]
 cases hb:(zF p.W.toNat q)[b]? with
 | none=>simp
 | some u =>
  have hu:=(zeW S.canon hb).1
  show (zM (zO q) (wkB p a u) p.W.toNat).getLsbD c=true↔_
  rw [zaM p.W.toNat fun w hw=>S.num64 hc0 hw]
  constructor
  ·rintro ⟨w,h1,h2,h3⟩
   obtain ⟨h4,h5⟩:=(zev hc0 hu).1 h2
   exact ⟨u,w,rfl,h1,h4,h5,h3⟩
  ·rintro ⟨u',w,h0,h1,h2,h3,h4⟩
   cases h0
   exact ⟨w,h1,(zev hc0 hu).2 ⟨h2,h3⟩,h4⟩
theorem zkK {a b c:Nat} (ha:a < p.cell.length):cmp (zbe p q a) b c=true ↔ ∃ u w,(zF p.W.toNat q)[b]? = some u∧w < p.W.toNat∧InC p a u w∧zO q w=c:=by
 unfold cmp
 rw [Bool.or_eq_true,zdU hc0 S,zdU hc0 S]
 constructor
 ·rintro (⟨u,w,h1,h2,h3,h4,h5⟩|⟨u,w,h1,h2,h3,h4,h5⟩)
  ·exact ⟨u,w,h1,h2,h3,h5⟩
  ·
   obtain ⟨hu,hqu,hnu⟩:=zeW S.canon h1
   have hbw:=zfx S.canon h2
   rw [h5] at hbw
   have hqw:=S.canon.le w h2
   have hsym:InC p a w u:=⟨hu,h3.2.symm⟩
   obtain ⟨u',h6,h7⟩:=S.cell hc0 ha h2 (show q w < p.W.toNat by omega) (S.canon.idem w h2).symm hsym
   exact ⟨q w,u',hbw,h6.1,h6,by rw [(zco S.canon h6.1 hu).2 h7,hnu]⟩
 ·rintro ⟨u,w,h1,h2,h3,h5⟩
  obtain ⟨hu,hqu,hnu⟩:=zeW S.canon h1
  rcases Int.le_total (rkA p a w) (rkA p a u) with hle|hle
  ·exact .inl ⟨u,w,h1,h2,h3,hle,h5⟩
  ·have hcw:=zfx S.canon h2
   rw [h5] at hcw
   have hqw:=S.canon.le w h2
   have hsym:InC p a w u:=⟨hu,h3.2.symm⟩
   obtain ⟨u',h6,h7,h8⟩:=S.weak hc0 ha h2 (show q w < p.W.toNat by omega) (S.canon.idem w h2).symm hsym hle
   exact .inr ⟨q w,u',hcw,h6.1,h6,h7,by rw [(zco S.canon h6.1 hu).2 h8,hnu]⟩
theorem zv2 {a:Nat} (ha:a < p.cell.length):zd2 (zbe p q a):=by
 have hlen:(zbe p q a).length=(zF p.W.toNat q).length:=by simp [zbe]
 have h64:=W64 hc0
 have hcnt:=zda p.W.toNat q
 have hrep : ∀ b,b < (zbe p q a).length → ∃ u,(zF p.W.toNat q)[b]? = some u:=fun b hb=>⟨_,List.getElem?_eq_getElem (by omega)⟩
 refine ⟨by rw [hlen,zgV];omega,fun b c h=>?_,fun b hb=>?_,fun b c d h1 h2=>?_,fun b c d h1 h2=>?_⟩
 ·obtain ⟨u,w,h1,h2,h3,h4,h5⟩:=(zdU hc0 S).1 h
  rw [hlen,← h5];exact zgu S.canon h2
 ·obtain ⟨u,hu⟩:=hrep b hb
  obtain ⟨h1,h2,h3⟩:=zeW S.canon hu
  exact (zdU hc0 S).2 ⟨u,u,hu,h1,⟨h1,rfl⟩,Int.le_refl _,h3⟩
 ·obtain ⟨u,w,a1,a2,a3,a4,a5⟩:=(zdU hc0 S).1 h1
  obtain ⟨x,y,b1,b2,b3,b4,b5⟩:=(zdU hc0 S).1 h2
  obtain ⟨hx,hqx,hnx⟩:=zeW S.canon b1
  have hqw:q x=q w:=(zco S.canon hx a2).1 (by rw [hnx,a5])
  obtain ⟨z,c1,c2,c3⟩:=S.weak hc0 ha hx a2 hqw b3 b4
  refine (zdU hc0 S).2 ⟨u,z,a1,c1.1,⟨c1.1,by have:=c1.2;have:=a3.2;omega⟩,by omega,?_⟩
  rw [(zco S.canon c1.1 b2).2 c3,b5]
 ·obtain ⟨u,w,a1,a2,a3,a5⟩:=(zkK hc0 S ha).1 h1
  obtain ⟨u',y,b1,b2,b3,b5⟩:=(zkK hc0 S ha).1 h2
  rw [a1] at b1;cases b1
  have hcw:=zfx S.canon a2
  rw [a5] at hcw
  have hqw:=S.canon.le w a2
  have hwy:InC p a w y:=⟨b2,by have:=b3.2;have:=a3.2;omega⟩
  obtain ⟨z,c1,c2⟩:=S.cell hc0 ha a2 (show q w < p.W.toNat by omega) (S.canon.idem w a2).symm hwy
  exact (zkK hc0 S ha).2 ⟨q w,z,hcw,c1.1,c1,by rw [(zco S.canon c1.1 b2).2 c2,b5]⟩
theorem zu4:0 < (zF p.W.toNat q).length:=by
 have h1:=(zV hc0).w1
 exact Nat.lt_of_le_of_lt (Nat.zero_le _) (zgu S.canon (w:=0) (by omega))
theorem zwF : ∃ s:PM,zfL p q=(s,0)∧s=⟨((zF p.W.toNat q).length:Int),zc8 p q,((List.range p.cell.length).map (zbe p q)).map zcd,((List.range p.cell.length).map (zbe p q)).map zcz⟩:=by
 have hg:=zV hc0
 have h64:=W64 hc0
 have hcnt:=zda p.W.toNat q
 have hpos:=zu4 hc0 S
 have n4:=hg.n4
 have v8:=hg.v8
 refine ⟨_,?_,rfl⟩
 unfold zfL zeV
 have hs:zR ((zF p.W.toNat q).length:Int) ((List.range p.cell.length).map (zbe p q)).length (zc8 p q)=0:=by
  unfold zR
  have hl:(zF p.W.toNat q).length≤64:=by rw [zgV];omega
  rw [if_neg (by omega),if_neg (by simp [zc8];omega),if_neg]
  rw [List.any_eq_true]
  rintro ⟨s,hs,hb⟩
  obtain ⟨t,-,rfl⟩:=List.mem_map.1 hs
  have hb : ¬(zM (zO q) t p.W.toNat &&& ~~~(zdC ((zF p.W.toNat q).length:Int))=0):=by simpa [bad] using hb
  refine hb (zrH.2 fun i hi=>?_)
  obtain ⟨w,h1,h2,h3⟩:=(zaM p.W.toNat fun w hw=>S.num64 hc0 hw).1 hi
  rw [zh8 (by omega) (BitVec.lt_of_getLsbD hi),decide_eq_true_eq]
  have:=zgu S.canon h1
  omega
 have hpre : ∀ r∈(List.range p.cell.length).map (zbe p q),(r.length:Int)=((zF p.W.toNat q).length:Int)∧zd2 r:=by
  intro r hr
  obtain ⟨a,ha,rfl⟩:=List.mem_map.1 hr
  exact ⟨by simp [zbe],zv2 hc0 S (List.mem_range.1 ha)⟩
 rw [if_neg (not_not_intro hs),if_neg,if_neg]
 ·rw [List.any_eq_true]
  rintro ⟨r,hr,h⟩
  simp [zri (hpre r hr).2] at h
 ·rw [List.any_eq_true]
  rintro ⟨r,hr,h⟩
  have:=hpre r hr
  rw [decide_eq_true_eq] at h
  exact h (zqm.2 ⟨by omega,by rw [zgV];omega,this.1,this.2.ins⟩)
omit hc0 S in
theorem zeZ {s:PM} (h:zfL p q=(s,0)):zq s=0∧s.W=((zF p.W.toNat q).length:Int)∧s.cell.length=p.cell.length∧s.val=zc8 p q ∧ ∀ a,a < p.cell.length→zQ s a=zbe p q a:=by
 obtain ⟨h1,h2⟩:=ztq h
 obtain ⟨-,-,h3⟩:=zru h
 refine ⟨h1,by rw [h3],by rw [h3];simp,by rw [h3],fun a ha=>h2 a _ ?_⟩
 rw [List.getElem?_map,List.getElem?_range ha];rfl
theorem zqk {s:PM} (h:zfL p q=(s,0)) {a b c:Nat} (ha:a < p.cell.length) (hb:b < s.W.toNat):InC s a b c ↔ ∃ u w,(zF p.W.toNat q)[b]? = some u∧w < p.W.toNat∧InC p a u w∧zO q w=c:=by
 obtain ⟨h1,h2,h3,h4,h5⟩:=zeZ h
 have hw2:=(zV h1).w2
 rw [← zkK hc0 S ha,← h5 a ha,zgo hw2]
 exact ⟨fun ⟨x,y⟩=>⟨hb,x,y⟩,fun ⟨_,x,y⟩=>⟨x,y⟩⟩
theorem zql {s:PM} (h:zfL p q=(s,0)) {a b c:Nat} (ha:a < p.cell.length) (hb:b < s.W.toNat):(InC s a b c∧rkA s a c≤rkA s a b) ↔ ∃ u w,(zF p.W.toNat q)[b]? = some u∧w < p.W.toNat∧InC p a u w∧rkA p a w≤rkA p a u∧zO q w=c:=by
 obtain ⟨h1,h2,h3,h4,h5⟩:=zeZ h
 have hw2:=(zV h1).w2
 rw [← zdU hc0 S,← h5 a ha,zaK hw2]
 exact ⟨fun ⟨⟨x,y⟩,z⟩=>⟨hb,x,y,z⟩,fun ⟨_,x,y,z⟩=>⟨⟨x,y⟩,z⟩⟩
theorem znC {s:PM} (h:zfL p q=(s,0)):zge p s (fun w b=>w < p.W.toNat∧b=zO q w):=by
 obtain ⟨h1,h2,h3,h4,h5⟩:=zeZ h
 have hlt : ∀ {w},w < p.W.toNat→zO q w < s.W.toNat:=fun {w} hw=>by
  have:=zgu S.canon hw;rw [h2];omega
 have hrep : ∀ {w},w < p.W.toNat→(zF p.W.toNat q)[zO q w]? = some (q w)∧q w < p.W.toNat∧q (q w)=q w:=fun {w} hw =>
  ⟨zfx S.canon hw,by have:=S.canon.le w hw;omega,S.canon.idem w hw⟩
 refine ⟨h3.symm,fun hz=>⟨hz.1,by rw [hz.2];exact hlt hz.1⟩,fun {v v'} hz i=>?_,fun {a v v' u} ha hz hu=>?_,fun {a v v' u'} ha hz hu=>?_,fun {a v v' u} ha hz hu hr=>?_,fun {a v v' u'} ha hz hu hr=>?_⟩
 ·obtain ⟨hv,rfl⟩:=hz
  rw [h4]
  have e:(zc8 p q).getD i 0#64=zM (zO q) (p.val.getD i 0#64) p.W.toNat:=by
   unfold zc8
   rw [List.getD,List.getD,List.getElem?_map]
   cases p.val[i]? with
   | some x=>rfl
   | none =>
    show 0#64=zM (zO q) 0#64 _
    refine znc fun j=>?_
    rw [zaM p.W.toNat fun w hw=>S.num64 hc0 hw]
    simp
  rw [e,zaM p.W.toNat fun w hw=>S.num64 hc0 hw]
  constructor
  ·intro hb;exact ⟨v,hv,hb,rfl⟩
  ·rintro ⟨w,hw,hb,he⟩
   exact (zlO.1 (S.fact hw hv ((zco S.canon hw hv).1 he)) i).1 hb
 ·obtain ⟨hv,rfl⟩:=hz
  obtain ⟨r1,r2,r3⟩:=hrep hv
  obtain ⟨u',h6,h7⟩:=S.cell hc0 ha hv r2 r3.symm hu
  exact ⟨zO q u,(zqk hc0 S h ha (hlt hv)).2 ⟨q v,u',r1,h6.1,h6,(zco S.canon h6.1 hu.1).2 h7⟩,hu.1,rfl⟩
 ·obtain ⟨hv,rfl⟩:=hz
  obtain ⟨r1,r2,r3⟩:=hrep hv
  obtain ⟨u,w,h6,h7,h8,h9⟩:=(zqk hc0 S h ha (hlt hv)).1 hu
  rw [r1] at h6;cases h6
  obtain ⟨w',h10,h11⟩:=S.cell hc0 ha r2 hv r3 h8
  exact ⟨w',h10,h10.1,by rw [(zco S.canon h10.1 h7).2 h11,h9]⟩
 ·obtain ⟨hv,rfl⟩:=hz
  obtain ⟨r1,r2,r3⟩:=hrep hv
  obtain ⟨u',h6,h7,h8⟩:=S.weak hc0 ha hv r2 r3.symm hu hr
  obtain ⟨h9,h10⟩:=(zql hc0 S h ha (hlt hv)).2 ⟨q v,u',r1,h6.1,h6,h7,(zco S.canon h6.1 hu.1).2 h8⟩
  exact ⟨zO q u,h9,h10,hu.1,rfl⟩
 ·obtain ⟨hv,rfl⟩:=hz
  obtain ⟨r1,r2,r3⟩:=hrep hv
  obtain ⟨u,w,h6,h7,h8,h9,h10⟩:=(zql hc0 S h ha (hlt hv)).1 ⟨hu,hr⟩
  rw [r1] at h6;cases h6
  obtain ⟨w',h11,h12,h13⟩:=S.weak hc0 ha r2 hv r3 h8 h9
  exact ⟨w',h11,h12,h11.1,by rw [(zco S.canon h11.1 h7).2 h13,h10]⟩
end
end Go.Ab
namespace Go.Ab
open Go Go.Proofs
set_option maxRecDepth 10000
set_option maxHeartbeats 4000000
variable {T:Nat→Obj→Prop}
def zhv (p:PM):List Int:=ptL p.W.toNat (zdc p)
theorem zv1 {x k:Nat} (h:x < 2 ^ k):x|||2 ^ k=x+2 ^ k:=by
 have:=Nat.two_pow_add_eq_or_of_lt (i:=k) h 1
 rw [Nat.or_comm,show 2 ^ k=2 ^ k * 1 by omega,← this];omega
theorem zuv {l:List (BitVec 64)} {w k:Nat} {s:BitVec 64} (hs:l[k]? = some s) (hk:k < 8) :
  zcx .i64 (fun p q=>p|||q) (zaX l w k:Int) ((((s >>> w&&&1#64).toNat:Int)) * 2 ^ (min k IntKind.i64.bits))=(zaX l w (k+1):Int):=by
 have h1:=zlN l w k
 have hp:2 ^ k≤2 ^ 7:=Nat.pow_le_pow_right (by decide) (by omega)
 have hb:min k IntKind.i64.bits=k:=by show min k 64=k;omega
 rw [hb,zaX,show l.getD k 0#64=s by rw [List.getD,hs];rfl]
 by_cases h:s.getLsbD w=true
 ·have e:s >>> w&&&1#64=1#64:=(zeI s w).2 h
  rw [e,if_pos h]
  have:=zre (a:=zaX l w k) (b:=2 ^ k) (by omega) (by omega)
  rw [show ((1#64).toNat:Int) * 2 ^ k=((2 ^ k:Nat):Int) by simp,this,zv1 h1]
 ·have e:s >>> w&&&1#64=0#64:=(zeK s w).2 (by simpa using h)
  rw [e,if_neg h]
  have:=zre (a:=zaX l w k) (b:=0) (by omega) (by omega)
  rw [show ((0#64).toNat:Int) * 2 ^ k=((0:Nat):Int) by simp,this];simp
theorem zsP (s:BitVec 64) (w:Nat):(s >>> w&&&1#64).toNat≤1:=by
 cases h:s.getLsbD w with
 | true=>rw [(zeI s w).2 h];decide
 | false=>rw [(zeK s w).2 h];decide
theorem ztK {x k:Nat} (hx:x≤1) (hk:k < 8):0≤(x:Int) * 2 ^ (min (k:Int).toNat IntKind.i64.bits)∧(x:Int) * 2 ^ (min (k:Int).toNat IntKind.i64.bits)≤9223372036854775807:=by
 have hp:2 ^ k≤2 ^ 7:=Nat.pow_le_pow_right (by decide) (by omega)
 have hb:min (k:Int).toNat IntKind.i64.bits=k:=by show min k 64=k;omega
 rw [hb]
 match x,hx with
 | 0,_=>simp
 | 1,_ =>
  rw [show ((1:Nat):Int) * 2 ^ k=((2 ^ k:Nat):Int) by simp]
  have h7:(2:Nat) ^ 7=128:=rfl
  exact ⟨Int.natCast_nonneg _,Int.ofNat_le.2 (show 2 ^ k≤9223372036854775807 by omega)⟩
theorem zs7 (p:PM) (hc0:zq p=0):Fn Tryz.prog T zfp [.d (dPM p)] [] (.d (dI (zhv p))) []:=by
 have hg:=zV hc0
 have w1:=hg.w1
 have w2:=hg.w2
 have v8:=hg.v8
 refine zu zJ zjZ (by show 1≤39;decide) ?_
 (repeat' ((conv=>whnf);first|refine vA ?_|refine vJ fun hg=>?_|refine vT ?_|(refine vP ?_ ?_;·omega)|fail));all_goals try conv=>whnf
 refine zt (fun ((i,zs):Nat×List D)=>[(3,.own 0),(11,.d (dU p.val)),(12,.d (.int .i64 ((p.val.map D.u64).length:Int))),(13,.d (.int .i64 ((i:Int))))]) (fun ((i,zs):Nat×List D)=>[(0,some (.row 1 zs))]) 1 (fun ((i,zs):Nat×List D)=>i≤p.val.length∧zs=(List.range p.W.toNat).map fun w=>D.int .i64 (zaX p.val w i:Int)) (fun ((i,zs):Nat×List D)=>p.val.length - i) ((0,List.replicate p.W.toNat (D.int .i64 0))) [(0,1)] [] (⟨by simp,by simp only [zaX];exact zaw _ _⟩) (by (refine ⟨rfl,rfl,rfl,?_,?_⟩;repeat' first|exact trivial|exact rfl|refine And.intro ?_ ?_|refine ⟨_,rfl,?_⟩|decide)) ?_
 rintro ⟨i,zs⟩ ⟨hi,rfl⟩
 by_cases hil:i < p.val.length
 ·obtain ⟨s,hs⟩ : ∃ s,p.val[i]? = some s:=⟨_,List.getElem?_eq_getElem hil⟩
  (repeat' ((conv=>whnf);first|refine vA ?_|(refine vF ?_ ?_<;>intro hc<;>try simp only [vL] at hc)|refine vJ fun hg=>?_|refine vT ?_|refine vN ‹_› ?_));all_goals try conv=>whnf
  ·refine zt (fun ((w,zs):Nat×List D)=>[(3,.own 0),(4,.d (.int .i64 ((i:Int)))),(5,.d (.u64 (s))),(11,.d (dU p.val)),(12,.d (.int .i64 ((p.val.map D.u64).length:Int))),(13,.d (.int .i64 ((i:Int)))),(19,.d (.int .i64 (((List.range p.W.toNat).map fun w=>D.int .i64 (zaX p.val w i:Int)).length:Int))),(20,.d (.int .i64 ((w:Int))))]) (fun ((w,zs):Nat×List D)=>[(0,some (.row 1 zs))]) 1 (fun ((w,zs):Nat×List D)=>w≤p.W.toNat∧zs=(List.range p.W.toNat).map fun u=>D.int .i64 (if u < w then (zaX p.val u (i+1):Int) else (zaX p.val u i:Int))) (fun ((w,zs):Nat×List D)=>p.W.toNat - w) ((0,_)) [(0,0)] [] (⟨by simp,by simp only [Nat.not_lt_zero,if_false]⟩) (by (refine ⟨rfl,rfl,rfl,?_,?_⟩;repeat' first|exact trivial|exact rfl|refine And.intro ?_ ?_|refine ⟨_,rfl,?_⟩|decide)) ?_
   rintro ⟨w,zs⟩ ⟨hw,rfl⟩
   by_cases hwl:w < p.W.toNat
   ·have er:(List.range p.W.toNat)[w]? = some w:=List.getElem?_range hwl
    have bs:(s >>> (w:Int).toNat&&&(1:BitVec 64)).toNat≤1:=zsP s _
    have hor:=zuv (w:=w) hs (by omega)
    have hsh:0≤(((s >>> (w:Int).toNat&&&(1:BitVec 64)).toNat:Int)) * 2 ^ (min (i:Int).toNat IntKind.i64.bits)∧(((s >>> (w:Int).toNat&&&(1:BitVec 64)).toNat:Int)) * 2 ^ (min (i:Int).toNat IntKind.i64.bits)≤9223372036854775807:=ztK bs (by omega)
    have e1 : ¬ w < w:=by omega
    (repeat' ((conv=>whnf);first|refine vA ?_|(refine vF ?_ ?_<;>intro hc<;>try simp only [vL] at hc)|refine vT ?_|refine vN ‹_› ?_|((first|refine vO ?_ ?_|refine vP ?_ ?_);·first|omega|(simp only [vM] at *;omega))|(refine vU ?_ ?_;·kernel_rfl)|fail));all_goals try conv=>whnf
    ·refine ⟨(w+1,_),[(0,0)],[],?_,?_,by (refine ⟨rfl,rfl,rfl,?_,?_⟩;repeat' first|exact trivial|exact rfl|refine And.intro ?_ ?_|refine ⟨_,rfl,?_⟩|decide)⟩
     ·refine ⟨by (omega),(zaW _).trans (zm fun u hu=>?_)⟩
      show (if u=w then _ else _)=_
      by_cases e:u=w
      ·subst e
       rw [if_pos rfl,if_pos (show u < u+1 by omega),if_neg e1]
       exact congrArg (D.int .i64) hor
      ·rw [if_neg e]
       by_cases e2:u < w
       ·rw [if_pos e2,if_pos (show u < w+1 by omega)]
       ·rw [if_neg e2,if_neg (show ¬ u < w+1 by omega)]
     ·((simp only [vM] at *;omega))
    ·omega
   ·(repeat' ((conv=>whnf);first|refine vA ?_|(refine vF ?_ ?_<;>intro hc<;>try simp only [vL] at hc)|refine vT ?_|(refine vQ ?_ fun x hx=>?_;·omega)|((first|refine vO ?_ ?_|refine vP ?_ ?_);·omega)|(refine vU ?_ ?_;·kernel_rfl)|fail));all_goals try conv=>whnf
    ·omega
    ·have e0:w=p.W.toNat:=by omega
     subst e0
     refine ⟨(i+1,_),[(0,0)],[],?_,?_,by (refine ⟨rfl,rfl,rfl,?_,?_⟩;repeat' first|exact trivial|exact rfl|refine And.intro ?_ ?_|refine ⟨_,rfl,?_⟩|decide)⟩
     ·exact ⟨by (omega),zm fun u hu=>by rw [if_pos hu]⟩
     ·((simp only [vM] at *;omega))
  all_goals omega
 ·(repeat' ((conv=>whnf);first|refine vA ?_|(refine vF ?_ ?_<;>intro hc<;>try simp only [vL] at hc)|refine vJ fun hg=>?_|refine vT ?_|(refine vQ ?_ fun x hx=>?_;·omega)|fail));all_goals try conv=>whnf
  ·omega
  ·have e0:i=p.val.length:=by omega
   subst e0
   refine congrArg (fun l=>some (D.arr 1 l)) ?_
   unfold zhv ptL
   rw [List.map_map];rfl
end Go.Ab
namespace Go.Ab
open Go Go.Proofs
set_option maxRecDepth 10000
set_option maxHeartbeats 4000000
variable {T:Nat→Obj→Prop}
def zen (a:Nat) (b:Bool) (rows:List (BitVec 64)):List D:=[.agg [.int .i64 (a:Int),.bool b,dU rows]]
def zhh (p:PM) (a:Nat):List (BitVec 64):=(List.range p.W.toNat).map fun (w:Nat)=>zbj p (a:Int) (w:Int)
def zaq (p:PM) (a:Nat):List (List D):=((List.range p.cell.length).drop a).flatMap fun a=>[zen a false (zhh p a),zen a true (zQ p a)]
theorem zlo {p:PM} {a:Nat} (ha:a < p.cell.length):zaq p a=zen a false (zhh p a)::zen a true (zQ p a)::zaq p (a+1):=by
 unfold zaq
 rw [List.drop_eq_getElem_cons (by simpa using ha),List.flatMap_cons]
 simp
theorem zmQ {p:PM} {a:Nat} (ha:p.cell.length≤a):zaq p a=[]:=by
 unfold zaq
 rw [List.drop_eq_nil_of_le (by simpa using ha)];rfl
theorem zlT (hR:zch T) (p:PM) (hp:zba p.rank) (hc0:zq p=0):It Tryz.prog T zan [.ptr 0 0] [zbh p] (zaq p 0):=by
 have hg:=zV hc0
 have w1:=hg.w1
 have w2:=hg.w2
 have n4:=hg.n4
 refine zn7 zJ ziB rfl (by show 2≤51;decide) fun l=>?_
 (repeat' ((conv=>whnf);first|refine vJ fun hg=>?_|refine vT ?_));all_goals try conv=>whnf
 refine zt (fun (a:Nat)=>[(0,.yld l),(1,.ptr 0 0),(10,.d (.int .i64 ((p.cell.map dI).length:Int))),(11,.d (.int .i64 ((a:Int))))]) (fun (a:Nat)=>[(0,some (zbh p)),(1,some (.todo (some (zaq p a))))]) 2 (fun (a:Nat)=>a≤p.cell.length) (fun (a:Nat)=>p.cell.length - a) (0) [(0,0),(1,1)] [] (by simp) (by (refine ⟨rfl,rfl,rfl,?_,?_⟩;repeat' first|exact trivial|exact rfl|refine And.intro ?_ ?_|refine ⟨_,rfl,?_⟩|decide)) ?_
 rintro a ha
 by_cases hal:a < p.cell.length
 ·have hd:=zlo hal
  have cw:=zs1 (T:=T) hR p hp (a:Int)
  rw [show ze3 p (a:Int)=(zQ p a,0) by rw [ze3,if_neg (not_not_intro hc0),if_neg (by omega)];rfl] at cw
  (repeat' ((conv=>whnf);first|refine vA ?_|(refine vF ?_ ?_<;>intro hc<;>try simp only [vL] at hc)|refine vK fun hg=>?_|refine vT ?_|(refine vP ?_ ?_;·omega)|fail));all_goals try conv=>whnf
  ·refine zt (fun ((w,zs):Nat×List D)=>[(0,.yld l),(1,.ptr 0 0),(3,.d (.int .i64 ((a:Int)))),(4,.own 2),(10,.d (.int .i64 ((p.cell.map dI).length:Int))),(11,.d (.int .i64 ((a:Int)))),(18,.d (.int .i64 ((List.replicate p.W.toNat (D.u64 (0:BitVec 64))).length:Int))),(19,.d (.int .i64 ((w:Int))))]) (fun ((w,zs):Nat×List D)=>[(0,some (zbh p)),(1,some (.todo (some (zaq p a)))),(2,some (.row 1 zs))]) 3 (fun ((w,zs):Nat×List D)=>w≤p.W.toNat∧zs=(List.range p.W.toNat).map fun (u:Nat)=>D.u64 (if u < w then zbj p (a:Int) (u:Int) else 0)) (fun ((w,zs):Nat×List D)=>p.W.toNat - w) ((0,List.replicate p.W.toNat (D.u64 0))) [(0,0),(1,1),(2,2)] [] (⟨by simp,by simp only [Nat.not_lt_zero,if_false];exact zaw _ _⟩) (by (refine ⟨rfl,rfl,rfl,?_,?_⟩;repeat' first|exact trivial|exact rfl|refine And.intro ?_ ?_|refine ⟨_,rfl,?_⟩|decide)) ?_
   rintro ⟨w,zs⟩ ⟨hw,hz⟩
   have hzl:zs.length=p.W.toNat:=by rw [hz];simp
   by_cases hwl:w < p.W.toNat
   ·(repeat' ((conv=>whnf);first|refine vA ?_|(refine vF ?_ ?_<;>intro hc<;>try simp only [vL] at hc)|refine vT ?_|((first|refine vO ?_ ?_|refine vP ?_ ?_);·omega)|refine yD (zvN hR p hp (a:Int) (w:Int)) ⟨⟨rfl,rfl⟩,⟨rfl,rfl⟩,⟨rfl,rfl⟩,rfl⟩ rfl ?_));all_goals try conv=>whnf
    ·refine ⟨(w+1,_),[(0,0),(1,1),(2,2)],[],?_,?_,by (refine ⟨rfl,rfl,rfl,?_,?_⟩;repeat' first|exact trivial|exact rfl|refine And.intro ?_ ?_|refine ⟨_,rfl,?_⟩|decide)⟩
     ·refine ⟨by (omega),?_⟩
      rw [hz]
      refine (zaW _).trans (zm fun u hu=>?_)
      show (if u=w then _ else _)=_
      by_cases e:u=w
      ·subst e
       rw [if_pos rfl,if_pos (show u < u+1 by omega)]
      ·rw [if_neg e]
       by_cases e2:u < w
       ·rw [if_pos e2,if_pos (show u < w+1 by omega)]
       ·rw [if_neg e2,if_neg (show ¬ u < w+1 by omega)]
     ·((simp only [vM] at *;omega))
    all_goals omega
   ·have e0:w=p.W.toNat:=by omega
    obtain rfl:zs=(zhh p a).map D.u64:=by
     rw [hz];unfold zhh;rw [List.map_map]
     exact zm fun u hu=>by rw [if_pos (by omega)];rfl
    (repeat' ((conv=>whnf);first|refine vA ?_|(refine vF ?_ ?_<;>intro hc<;>try simp only [vL] at hc)|refine vT ?_|refine yN cw ⟨⟨rfl,rfl⟩,⟨rfl,rfl⟩,rfl⟩ ?_));all_goals try conv=>whnf
    ·omega
    ·refine ⟨rfl,zen a false (zhh p a),zen a true (zQ p a)::zaq p (a+1),congrArg (fun l=>some (Ob.todo (some l))) hd,rfl,rfl,rfl,?_,?_⟩
     ·(repeat' ((conv=>whnf);first|refine vE ?_|refine vG ?_|refine vT ?_));all_goals try conv=>whnf
      refine ⟨rfl,zen a true (zQ p a),zaq p (a+1),rfl,rfl,rfl,rfl,?_,?_⟩
      ·(repeat' ((conv=>whnf);first|refine vE ?_|refine vG ?_|refine vT ?_|(refine vO ?_ ?_;·omega)|fail));all_goals try conv=>whnf
       exact ⟨a+1,[(0,0),(1,1)],[],by (omega),by (omega),by (refine ⟨rfl,rfl,rfl,?_,?_⟩;repeat' first|exact trivial|exact rfl|refine And.intro ?_ ?_|refine ⟨_,rfl,?_⟩|decide)⟩
      ·(repeat' ((conv=>whnf);first|refine vE ?_|refine vH ?_|refine vT ?_));all_goals try conv=>whnf
       right;rfl
     ·(repeat' ((conv=>whnf);first|refine vE ?_|refine vH ?_|refine vT ?_));all_goals try conv=>whnf
      right;rfl
  ·omega
 ·(repeat' ((conv=>whnf);first|refine vA ?_|(refine vF ?_ ?_<;>intro hc<;>try simp only [vL] at hc)|refine vK fun hg=>?_|refine vT ?_|(refine vP ?_ ?_;·omega)|fail));all_goals try conv=>whnf
  ·omega
  ·left;exact congrArg (fun l=>some (Ob.todo (some l))) (zmQ (by omega))
theorem zn0 (p:PM):Fn Tryz.prog T zc0 [.d (dPM p)] [] (.fn zan [.ptr 0 0]) [some (zbh p)]:=by
 refine zbc zJ zj1 (by show 1≤4;decide) _ (fun e env mem n h=>h) ?_
 (repeat' ((conv=>whnf);refine vT ?_));all_goals try conv=>whnf
 exact ⟨trivial,_,[(0,0)],[],rfl,.inl (by (repeat' first|exact rfl|refine And.intro ?_ ?_|refine ⟨_,rfl,?_⟩)),⟨rfl,rfl,rfl,trivial,by (repeat' first|exact trivial|exact rfl|refine And.intro ?_ ?_|refine ⟨_,rfl,?_⟩|exact of_decide_eq_true rfl)⟩,trivial⟩
def zbt:Nat→List (BitVec 64)→List (D×D)
 | _,[]=>[]
 | i,x::r=>(.u64 x,.int .i64 (i:Int))::zbt (i+1) r
def zgj (dl:List (BitVec 64)) (x:BitVec 64):List (BitVec 64):=if x∈dl then dl else dl++[x]
theorem zl3 : ∀ (dl:List (BitVec 64)) (i:Nat),(zbt i dl).length=dl.length
 | [],_=>rfl
 | x::r,i=>by simp [zbt,zl3 r (i+1)]
theorem zlq (x:BitVec 64) : ∀ (dl:List (BitVec 64)) (i:Nat),zbt i (dl++[x])=zbt i dl++[(.u64 x,.int .i64 ((i+dl.length:Nat):Int))]
 | [],i=>by simp [zbt]
 | y::r,i=>by
  rw [List.cons_append,zbt,zbt,zlq x r (i+1),List.cons_append,List.length_cons,show i+1+r.length=i+(r.length+1) by omega]
theorem zoh (x:BitVec 64) : ∀ (dl:List (BitVec 64)) (i:Nat),zS (zbt i dl) (.u64 x)=some (if x∈dl then some (.int .i64 ((i+dl.idxOf x:Nat):Int)) else none)
 | [],i=>by simp [zbt,zS]
 | y::r,i=>by
  have ih:=zoh x r (i+1)
  show (match D.eqk (.u64 x) (.u64 y) with
   | some true=>some (some (D.int .i64 (i:Int)))
   | some false=>zS (zbt (i+1) r) (.u64 x)
   | none=>none)=_
  show (match some (decide (x=y)) with
   | some true=>some (some (D.int .i64 (i:Int)))
   | some false=>zS (zbt (i+1) r) (.u64 x)
   | none=>none)=_
  by_cases e:x=y
  ·subst e;simp
  ·rw [decide_eq_false e]
   show zS (zbt (i+1) r) (.u64 x)=_
   rw [ih,List.idxOf_cons]
   have:(y==x)=false:=by simp [Ne.symm e]
   rw [this]
   by_cases hm:x∈r
   ·rw [if_pos hm,if_pos (List.mem_cons_of_mem _ hm)]
    show some (some (D.int .i64 _))=some (some (D.int .i64 _))
    congr 4
    simp only [cond_false]
    omega
   ·rw [if_neg hm,if_neg (by simp [e,hm])]
theorem zvI (s:BitVec 64) (k m:Nat):(s >>> k&&&(1:BitVec 64)) <<< m=if s.getLsbD k=true then 1#64 <<< m else 0#64:=by
 by_cases h:s.getLsbD k=true
 ·rw [if_pos h,show s >>> k&&&(1:BitVec 64)=1#64 from (zeI s k).2 h]
 ·rw [if_neg h,show s >>> k&&&(1:BitVec 64)=0#64 from (zeK s k).2 (by simpa using h)];simp
theorem zpf {q:Nat→Nat} {s:BitVec 64} {k:Nat} : zM q s k|||(s >>> k&&&(1:BitVec 64)) <<< q k=zM q s (k+1):=by
 rw [zvI,zgK]
 split<;>simp
theorem zwv {n:Nat} {q:Nat→Nat} (hq:zcQ n q) (hn:n≤64) (s:BitVec 64) (dl:List (BitVec 64)) (hdl:dl.length≤64):Fn Tryz.prog T zbr [.d (.u64 s),.ptr 0 0,.ptr 1 0] [.box [.d (dI (ptL n q))],.box [.map 2],.map (zbt 0 dl)]
  (.d (.int .i64 (((zgj dl (zM q s n)).idxOf (zM q s n):Nat):Int))) [some (.box [.d (dI (ptL n q))]),some (.box [.map 2]),some (.map (zbt 0 (zgj dl (zM q s n))))]:=by
 refine zbc zJ ziA (by show 3≤41;decide) _ (fun e env mem n h=>h) ?_
 (repeat' ((conv=>whnf);first|refine vA ?_|refine vJ fun hg=>?_|refine vT ?_));all_goals try conv=>whnf
 refine zt (fun ((k,o):Nat×BitVec 64)=>[(0,.d (.u64 (s))),(1,.ptr 0 0),(2,.ptr 1 0),(5,.d (.u64 (o))),(10,.d (dI (ptL n q))),(11,.d (.int .i64 (((ptL n q).map (D.int .i64)).length:Int))),(12,.d (.int .i64 ((k:Int)))),(1000000,.ptr 0 0),(1000001,.ptr 1 0),(1000002,.map 2)]) (fun ((k,o):Nat×BitVec 64)=>[(0,some (.box [.d (dI (ptL n q))])),(1,some (.box [.map 2])),(2,some (.map (zbt 0 dl)))]) 3 (fun ((k,o):Nat×BitVec 64)=>k≤n∧o=zM q s k) (fun ((k,o):Nat×BitVec 64)=>n - k) ((0,0#64)) [(0,0),(1,1),(2,2)] [] (⟨by simp,rfl⟩) (by (refine ⟨rfl,rfl,rfl,?_,?_⟩;repeat' first|exact trivial|exact rfl|refine And.intro ?_ ?_|refine ⟨_,rfl,?_⟩|decide)) ?_
 rintro ⟨k,o⟩ ⟨hk,hI⟩
 have hpl:=zcq (n:=n) (q:=q)
 by_cases hkl:k < n
 ·have e1:(ptL n q)[k]? = some ((q k:Nat):Int):=zbF hkl
  have b1:=hq.le k hkl
  (repeat' ((conv=>whnf);first|refine vA ?_|(refine vF ?_ ?_<;>intro hc<;>try simp only [vL] at hc)|refine vT ?_|refine vN ‹_› ?_|((first|refine vO ?_ ?_|refine vP ?_ ?_);·omega)|fail));all_goals try conv=>whnf
  ·refine ⟨(k+1,_),[(0,0),(1,1),(2,2)],[],?_,?_,by (refine ⟨rfl,rfl,rfl,?_,?_⟩;repeat' first|exact trivial|exact rfl|refine And.intro ?_ ?_|refine ⟨_,rfl,?_⟩|decide)⟩
   ·refine ⟨by (omega),?_⟩
    rw [hI];exact zpf
   ·((simp only [vM] at *;omega))
  ·omega
 ·have e0:k=n:=by omega
  subst e0
  subst hI
  have hfd:=zoh (zM q s k) dl 0
  by_cases hm:zM q s k∈dl
  ·rw [if_pos hm,Nat.zero_add] at hfd
   have ea:zgj dl (zM q s k)=dl:=if_pos hm
   rw [ea]
   (repeat' ((conv=>whnf);first|refine vA ?_|refine vE ?_|refine vG ?_|(refine vF ?_ ?_<;>intro hc<;>try simp only [vL] at hc)|refine vT ?_|(refine vQ ?_ fun x hx=>?_;·omega)|((first|refine vO ?_ ?_|refine vP ?_ ?_);·omega)|refine zkx.mk _ ‹_› ?_));all_goals try conv=>whnf
   ·omega
   ·refine ⟨trivial,_,[(0,0),(1,1),(2,2)],[],rfl,.inl (by (repeat' exact rfl)),⟨by rfl,by rfl,by rfl,trivial,by (repeat' first|exact trivial|exact rfl|refine And.intro ?_ ?_|refine ⟨_,rfl,?_⟩|exact of_decide_eq_true rfl)⟩,by (repeat' first|exact trivial|exact rfl|refine And.intro ?_ ?_|refine ⟨_,rfl,?_⟩)⟩
  ·rw [if_neg hm] at hfd
   have ea:zgj dl (zM q s k)=dl++[zM q s k]:=if_neg hm
   have eb:zbt 0 (dl++[zM q s k])=zbt 0 dl++[(.u64 (zM q s k),.int .i64 ((zbt 0 dl).length:Int))]:=by rw [zlq,zl3,Nat.zero_add]
   have ec:(dl++[zM q s k]).idxOf (zM q s k)=(zbt 0 dl).length:=by rw [zl3,List.idxOf_append,if_neg hm];simp
   have hfn:zS (zbt 0 dl++[(.u64 (zM q s k),.int .i64 ((zbt 0 dl).length:Int))]) (.u64 (zM q s k))=some (some (.int .i64 ((zbt 0 dl).length:Int))):=by rw [zeh _ _ _ hfd];simp [zS,D.eqk,D.same]
   rw [ea,eb,ec]
   (repeat' ((conv=>whnf);first|refine vA ?_|(refine vF ?_ ?_<;>intro hc<;>try simp only [vL] at hc)|refine vT ?_|(refine vQ ?_ fun x hx=>?_;·omega)|((first|refine vO ?_ ?_|refine vP ?_ ?_);·omega)|refine zkx.mk _ ‹_› ?_));all_goals try conv=>whnf
   ·omega
   ·refine ⟨trivial,_,[(0,0),(1,1),(2,2)],[],rfl,.inl (by (repeat' exact rfl)),⟨by rfl,by rfl,by rfl,trivial,by (repeat' first|exact trivial|exact rfl|refine And.intro ?_ ?_|refine ⟨_,rfl,?_⟩|exact of_decide_eq_true rfl)⟩,by (repeat' first|exact trivial|exact rfl|refine And.intro ?_ ?_|refine ⟨_,rfl,?_⟩)⟩
end Go.Ab
namespace Go.Ab
open Go Go.Proofs
set_option maxRecDepth 10000
set_option maxHeartbeats 4000000
variable {T:Nat→Obj→Prop}
def zeq (bl:Nat→BitVec 64) (k:Nat):List (BitVec 64):=(List.range k).foldl (fun l w=>zgj l (bl w)) []
theorem zfw (bl:Nat→BitVec 64) (k:Nat):zeq bl (k+1)=zgj (zeq bl k) (bl k):=by
 unfold zeq;rw [List.range_succ,List.foldl_append];rfl
theorem zlC (l:List (BitVec 64)) (x:BitVec 64):(∃ t,zgj l x=l++t)∧x∈zgj l x∧(zgj l x).length≤l.length+1:=by
 unfold zgj
 split
 ·rename_i h;exact ⟨⟨[],by simp⟩,h,by omega⟩
 ·exact ⟨⟨[x],rfl⟩,by simp,by simp⟩
theorem zp8 (bl:Nat→BitVec 64) : ∀ k,(zeq bl k).length≤k
 | 0=>by simp [zeq]
 | k+1=>by
  rw [zfw]
  have:=(zlC (zeq bl k) (bl k)).2.2
  have:=zp8 bl k
  omega
theorem zp9 (bl:Nat→BitVec 64) {k:Nat} : ∀ m,k≤m → ∃ t,zeq bl m=zeq bl k++t
 | 0,h=>⟨[],by have:k=0:=Nat.le_zero.1 h;subst this;simp⟩
 | m+1,h=>by
  by_cases e:k=m+1
  ·exact ⟨[],by rw [e];simp⟩
  ·obtain ⟨t,ht⟩:=zp9 bl (k:=k) m (by omega)
   obtain ⟨⟨t',ht'⟩,-⟩:=zlC (zeq bl m) (bl m)
   exact ⟨t++t',by rw [zfw,ht',ht];simp⟩
def zdI (bl:Nat→BitVec 64) (w:Nat):Nat:=(zeq bl (w+1)).idxOf (bl w)
theorem zrr (bl:Nat→BitVec 64) {w m:Nat} (h:w < m):zdI bl w=(zeq bl m).idxOf (bl w)∧bl w∈zeq bl m:=by
 obtain ⟨t,ht⟩:=zp9 bl (k:=w+1) m (by omega)
 have hm:bl w∈zeq bl (w+1):=by rw [zfw];exact (zlC _ _).2.1
 rw [ht]
 exact ⟨by rw [List.idxOf_append,if_pos hm];rfl,List.mem_append_left _ hm⟩
theorem zuE (bl:Nat→BitVec 64) {v w n:Nat} (hv:v < n) (hw:w < n):zdI bl v=zdI bl w↔bl v=bl w:=by
 obtain ⟨h1,m1⟩:=zrr bl hv
 obtain ⟨h2,m2⟩:=zrr bl hw
 rw [h1,h2]
 constructor
 ·intro h
  have g1:=List.getElem_idxOf (List.idxOf_lt_length_of_mem m1)
  have g2:=List.getElem_idxOf (List.idxOf_lt_length_of_mem m2)
  rw [← g1,← g2]
  congr 1
 ·intro h;rw [h]
theorem ztH (n:Nat) (q:Nat→Nat):zaB n [] q=zdp q:=by
 funext v w;simp [zaB,zdp]
theorem ztI {n i:Nat} {rels:List (Nat→BitVec 64)} {q:Nat→Nat} {r:Nat→BitVec 64} (hr:rels[i]? = some r) {w:Nat} (hw:w < n) :
  zN (zer (ptL n (zN (zaB n (rels.take i) q))) (ptL n (zdI fun w=>zM q (r w) n))) w=zN (zaB n (rels.take (i+1)) q) w:=by
 refine zlY fun v hv=>?_
 have h1:at0 (ptL n (zN (zaB n (rels.take i) q))) v=((zN (zaB n (rels.take i) q) v:Nat):Int):=zx (zbF (by omega))
 have h2:at0 (ptL n (zN (zaB n (rels.take i) q))) w=((zN (zaB n (rels.take i) q) w:Nat):Int):=zx (zbF hw)
 have h3:at0 (ptL n (zdI fun w=>zM q (r w) n)) v=((zdI (fun w=>zM q (r w) n) v:Nat):Int):=zx (zbF (by omega))
 have h4:at0 (ptL n (zdI fun w=>zM q (r w) n)) w=((zdI (fun w=>zM q (r w) n) w:Nat):Int):=zx (zbF hw)
 unfold zer
 rw [h1,h2,h3,h4]
 have e1:=zhL (zdV n (rels.take i) q) (v:=v) (w:=w)
 have e2:=zuE (fun w=>zM q (r w) n) (v:=v) (w:=w) (n:=n) (by omega) hw
 rw [Bool.eq_iff_iff,decide_eq_true_eq]
 rw [show (((zN (zaB n (rels.take i) q) v:Nat):Int)=((zN (zaB n (rels.take i) q) w:Nat):Int))↔zaB n (rels.take i) q v w=true from by rw [← e1];omega]
 rw [show (((zdI (fun w=>zM q (r w) n) v:Nat):Int)=((zdI (fun w=>zM q (r w) n) w:Nat):Int))↔zM q (r v) n=zM q (r w) n from by rw [← e2];omega]
 unfold zaB
 rw [List.take_add_one,hr]
 simp [and_assoc]
theorem znd (p:PM) (a:Nat):zQ p a=(List.range p.W.toNat).map (wkB p a):=by
 have e : ∀ w,w < p.W.toNat→wkB p a w=zby (za p.cell a) (za p.rank a) w p.W.toNat:=fun w hw=>by
  unfold wkB uAt zQ
  rw [List.getD,List.getElem?_map,List.getElem?_range hw];rfl
 exact (zm e).symm
def ziL (p:PM) (a:Nat):List (Nat→BitVec 64):=((List.range p.cell.length).drop a).flatMap fun (a:Nat)=>[fun (w:Nat)=>zbj p (a:Int) (w:Int),fun w=>wkB p a w]
theorem zsu {p:PM} {a:Nat} (ha:a < p.cell.length):ziL p a=(fun (w:Nat)=>zbj p (a:Int) (w:Int))::(fun w=>wkB p a w)::ziL p (a+1):=by
 unfold ziL
 rw [List.drop_eq_getElem_cons (by simpa using ha),List.flatMap_cons]
 simp
theorem ztz {p:PM} {a:Nat} (ha:p.cell.length≤a):ziL p a=[]:=by
 unfold ziL
 rw [List.drop_eq_nil_of_le (by simpa using ha)];rfl
theorem zlW {p:PM} : ∀ (k a:Nat),p.cell.length - a=k→(zaq p a).length=(ziL p a).length ∧ ∀ {i:Nat} {x:List D},(zaq p a)[i]? = some x → ∃ (ag:Nat) (b:Bool) (r:Nat→BitVec 64),x=zen ag b ((List.range p.W.toNat).map r)∧(ziL p a)[i]? = some r
 | 0,a,h=>by
  rw [zmQ (p:=p) (a:=a) (by omega),ztz (p:=p) (a:=a) (by omega)]
  exact ⟨rfl,fun {i x} h=>by simp at h⟩
 | k+1,a,h=>by
  obtain ⟨h1,h2⟩:=zlW (p:=p) k (a+1) (by omega)
  rw [zlo (p:=p) (a:=a) (by omega),zsu (p:=p) (a:=a) (by omega)]
  refine ⟨by simp [h1],fun {i x} hx=>?_⟩
  match i,hx with
  | 0,hx=>exact ⟨a,false,_,(Option.some.inj hx).symm,rfl⟩
  | 1,hx=>exact ⟨a,true,_,by rw [← znd];exact (Option.some.inj hx).symm,rfl⟩
  | i+2,hx=>exact h2 hx
theorem zvV {p:PM} {i:Nat} {x:List D} (h:(zaq p 0)[i]? = some x) : ∃ (a:Nat) (b:Bool) (r:Nat→BitVec 64),x=zen a b ((List.range p.W.toNat).map r)∧(za8 p)[i]? = some r:=(zlW (p:=p) p.cell.length 0 (by omega)).2 h
theorem ztj (p:PM):(zaq p 0).length=(za8 p).length:=(zlW (p:=p) p.cell.length 0 (by omega)).1
theorem zux (hR:zch T) (p:PM) (hp:zba p.rank) (hc0:zq p=0) {q:Nat→Nat} (hq:zcQ p.W.toNat q):Fn Tryz.prog T zcZ [.d (dPM p),.d (dI (ptL p.W.toNat q))] [] (.d (dI (ptL p.W.toNat (zbm p.W.toNat (za8 p) q)))) []:=by
 have hg:=zV hc0
 have w1:=hg.w1
 have w2:=hg.w2
 have h64:=W64 hc0
 have hpl:=zcq (n:=p.W.toNat) (q:=q)
 refine zu zJ zj0 (by show 2≤43;decide) ?_
 (repeat' ((conv=>whnf);first|refine vA ?_|refine vT ?_));all_goals try conv=>whnf
 refine zX.res (zn0 p) (by (repeat refine ⟨⟨rfl,rfl⟩,?_⟩);rfl) ?_
 (repeat' ((conv=>whnf);refine vT ?_));all_goals try conv=>whnf
 refine zfA (zlT hR p hp hc0) [3] [] (by first|((repeat refine ⟨⟨rfl,rfl⟩,?_⟩);rfl)|(repeat' first|exact rfl|refine And.intro ?_ ?_|refine ⟨_,rfl,?_⟩)) (by (repeat' first|exact rfl|refine And.intro ?_ ?_|refine ⟨_,rfl,?_⟩)) (by rfl) (by rfl) [(3,.ptr 0 0),(5,.ptr 1 0)] (fun (a:List Int)=>[(0,some (.box [.d (dI (ptL p.W.toNat q))])),(1,some (.box [.d (dI a)]))]) 2 (fun i (a:List Int)=>a=ptL p.W.toNat (zN (zaB p.W.toNat ((za8 p).take i) q))) (ptL p.W.toNat q) [(0,1),(1,2)] [] (zfy fun w hw=>by rw [List.take_zero,ztH];exact (zup hq hw).symm) (by (refine ⟨rfl,rfl,rfl,?_,?_⟩;repeat' first|exact trivial|exact rfl|refine And.intro ?_ ?_|refine ⟨_,rfl,?_⟩|decide)) ?_ ?_
 ·intro i x a hx ha
  obtain ⟨ag,bo,r,rfl,hr⟩:=zvV hx
  subst ha
  refine ⟨rfl,?_⟩
  obtain ⟨bl,hbl⟩ : ∃ bl:Nat→BitVec 64,bl=fun w=>zM q (r w) p.W.toNat:=⟨_,rfl⟩
  (repeat' ((conv=>whnf);first|refine vA ?_|refine vJ fun hg=>?_|refine vK fun hg=>?_|refine vT ?_|(refine vP ?_ ?_;·(simp only [vM] at *;omega))|fail));all_goals try conv=>whnf
  refine zt (fun ((w,dl,zs):Nat×List (BitVec 64)×List D)=>[(3,.ptr 0 0),(5,.ptr 1 0),(6,.ptr 2 0),(8,.fn zbr [.ptr 0 0,.ptr 4 0]),(9,.own 5),(21,.d (.int .i64 ((List.replicate (((ptL p.W.toNat q).map (D.int .i64)).length:Int).toNat (D.int .i64 0)).length:Int))),(22,.d (.int .i64 ((w:Int)))),(1000003,.ptr 0 0),(1000005,.ptr 1 0)]) (fun ((w,dl,zs):Nat×List (BitVec 64)×List D)=>[(0,some (.box [.d (dI (ptL p.W.toNat q))])),(1,some (.box [.d (dI (ptL p.W.toNat (zN (zaB p.W.toNat ((za8 p).take i) q))))])),(2,some (.box [.d (.int .i64 (ag:Int)),.d (.bool bo),.d (dU ((List.range p.W.toNat).map r))])),(3,some (.map (zbt 0 dl))),(4,some (.box [.map 3])),(5,some (.row 1 zs))]) 6 (fun ((w,dl,zs):Nat×List (BitVec 64)×List D)=>w≤p.W.toNat∧dl=zeq bl w∧zs=(List.range p.W.toNat).map fun u=>D.int .i64 (if u < w then (zdI bl u:Int) else 0)) (fun ((w,dl,zs):Nat×List (BitVec 64)×List D)=>p.W.toNat - w) ((0,[],_)) [(0,0),(1,1),(2,2),(3,3),(4,4),(5,5)] [] (⟨by simp,rfl,by simp only [Nat.not_lt_zero,if_false];rw [List.length_map,Int.toNat_natCast,zcq];exact zaw _ _⟩) (by (refine ⟨rfl,rfl,rfl,?_,?_⟩;repeat' first|exact trivial|exact rfl|exact .inl rfl|refine And.intro ?_ ?_|refine ⟨_,rfl,?_⟩|decide)) ?_
  rintro ⟨w,dl,zs⟩ ⟨hw,hdl,hz⟩
  have hzl:zs.length=p.W.toNat:=by rw [hz];simp
  by_cases hwl:w < p.W.toNat
  ·have er:((List.range p.W.toNat).map r)[w]? = some (r w):=by rw [List.getElem?_map,List.getElem?_range hwl];rfl
   have hdl64:dl.length≤64:=by rw [hdl];have:=zp8 bl w;omega
   (repeat' ((conv=>whnf);first|refine vA ?_|(refine vF ?_ ?_<;>intro hc<;>try simp only [vL] at hc)|refine vT ?_|refine vN ‹_› ?_));all_goals try conv=>whnf
   ·refine zX.objs [0,4,3] (zwv hq h64 (r w) dl hdl64) (by (repeat' first|exact rfl|refine And.intro ?_ ?_|refine ⟨_,rfl,?_⟩)) (by (repeat' first|exact rfl|refine And.intro ?_ ?_|refine ⟨_,rfl,?_⟩)) (by rfl) (by rfl) (by simp) ?_
    (repeat' ((conv=>whnf);first|refine vT ?_|((first|refine vO ?_ ?_|refine vP ?_ ?_);·omega)|fail));all_goals try conv=>whnf
    ·refine ⟨(w+1,zgj dl (zM q (r w) p.W.toNat),_),[(0,0),(1,1),(2,2),(3,3),(4,4),(5,5)],[],?_,?_,by (refine ⟨rfl,rfl,rfl,?_,?_⟩;repeat' first|exact trivial|exact rfl|exact .inl rfl|refine And.intro ?_ ?_|refine ⟨_,rfl,?_⟩|decide)⟩
     ·refine ⟨by (omega),by rw [zfw,hdl,hbl],?_⟩
      rw [hz]
      refine (zaW _).trans (zm fun u hu=>?_)
      show (if u=w then _ else _)=_
      by_cases e:u=w
      ·subst e
       rw [if_pos rfl,if_pos (show u < u+1 by omega),zdI,zfw,hdl,hbl]
      ·rw [if_neg e]
       by_cases e2:u < w
       ·rw [if_pos e2,if_pos (show u < w+1 by omega)]
       ·rw [if_neg e2,if_neg (show ¬ u < w+1 by omega)]
     ·((simp only [vM] at *;omega))
    all_goals omega
   ·omega
  ·have e0:w=p.W.toNat:=by omega
   obtain rfl:zs=(ptL p.W.toNat (zdI bl)).map (D.int .i64):=by
    rw [hz];unfold ptL;rw [List.map_map]
    exact zm fun u hu=>by rw [if_pos (by omega)];rfl
   have cs:=zpL (T:=T) (zlX (zdV p.W.toNat ((za8 p).take i) q) p.W.toNat) h64 (ptL p.W.toNat (zdI bl)) zcq
   (repeat' ((conv=>whnf);first|refine vA ?_|(refine vF ?_ ?_<;>intro hc<;>try simp only [vL] at hc)|refine vT ?_|(refine vQ ?_ fun x hx=>?_;·omega)|refine yN cs ⟨⟨rfl,rfl⟩,⟨rfl,rfl⟩,rfl⟩ ?_));all_goals try conv=>whnf
   ·omega
   ·exact ⟨ptL p.W.toNat (zN (zer (ptL p.W.toNat (zN (zaB p.W.toNat ((za8 p).take i) q))) (ptL p.W.toNat (zdI bl)))),[(0,0),(1,1)],[],zfy fun u hu=>by rw [hbl];exact ztI hr hu,by (refine ⟨rfl,rfl,rfl,?_,?_⟩;repeat' first|exact trivial|exact rfl|refine And.intro ?_ ?_|refine ⟨_,rfl,?_⟩|decide)⟩
 ·intro a ha
  (repeat' ((conv=>whnf);refine vT ?_));all_goals try conv=>whnf
  rw [ztj,List.take_length] at ha
  subst ha;rfl
end Go.Ab
namespace Go.Ab
open Go Go.Proofs
set_option maxRecDepth 10000
set_option maxHeartbeats 4000000
variable {T:Nat→Obj→Prop}
theorem zt9 (n:Nat):zcQ n (fun _=>0):=⟨fun w _=>Nat.zero_le w,fun w _=>rfl⟩
theorem zr7 (p:PM) {w:Nat} (hw:w < p.W.toNat):zN (zer (ptL p.W.toNat fun _=>0) (zhv p)) w=zoW p w:=by
 refine zlY fun v hv=>?_
 have h1:at0 (ptL p.W.toNat fun _=>0) v=0:=zx (zbF (q:=fun _=>0) (by omega))
 have h2:at0 (ptL p.W.toNat fun _=>0) w=0:=zx (zbF (q:=fun _=>0) hw)
 have h3:at0 (zhv p) v=((zdc p v:Nat):Int):=zx (zbF (by omega))
 have h4:at0 (zhv p) w=((zdc p w:Nat):Int):=zx (zbF hw)
 unfold zer zdp
 rw [h1,h2,h3,h4]
 rw [Bool.eq_iff_iff,decide_eq_true_eq,decide_eq_true_eq]
 omega
def zdz (p:PM) (j:Nat):Prop:=ptL p.W.toNat (zal p (j+1))=ptL p.W.toNat (zal p j)
instance (p:PM) (j:Nat):Decidable (zdz p j):=inferInstanceAs (Decidable (_=_))
def zb2 (p:PM):Nat:=zN (fun v _=>decide (zdz p v)) 65
theorem zvn {p:PM} {j:Nat} (hj:j < 65) (h:zdz p j) (hn : ∀ i,i < j → ¬zdz p i):zb2 p=j:=by
 have h1:=zf9 (fun v _=>decide (zdz p v)) 65
 rcases Nat.lt_trichotomy (zb2 p) j with hl|hl|hl
 ·exfalso
  rcases h1.1 with ⟨h2,h3⟩|h2
  ·exact hn _ hl (of_decide_eq_true h3)
  ·unfold zb2 at hl;omega
 ·exact hl
 ·have:=h1.2 j hl
  simp [h] at this
theorem zrG {p:PM} (hc0:zq p=0) {j:Nat} (hn : ∀ i,i < j → ¬zdz p i):j≤64:=by
 have h64:=W64 hc0
 have h1:=zix (rels:=za8 p) (zcF p p.W.toNat) (k:=j) (fun i hi=>by
  refine Classical.byContradiction fun hne=>hn i hi (zfy fun w hw=>?_)
  exact Classical.byContradiction fun hw'=>hne ⟨w,hw,hw'⟩) j (Nat.le_refl _)
 have h2:=zda p.W.toNat (zaR p.W.toNat (za8 p) (zoW p) j)
 omega
def ze0 (p:PM):List (List Int):=(List.range (zb2 p+1)).map fun i=>ptL p.W.toNat (zal p i)
theorem zse (hR:zch T) (p:PM) (hp:zba p.rank) (hc0:zq p=0):Fn Tryz.prog T zeC [.d (dPM p)] [] (.d (dII (ze0 p))) []:=by
 have hg:=zV hc0
 have w1:=hg.w1
 have w2:=hg.w2
 have h64:=W64 hc0
 have cs:=zpL (T:=T) (zt9 p.W.toNat) h64 (zhv p) zcq
 rw [show dI (ptL p.W.toNat fun _=>0)=D.arr 1 (List.replicate p.W.toNat (D.int .i64 0)) by show D.arr 1 ((ptL p.W.toNat fun _=>0).map (D.int .i64))=_;unfold ptL;rw [List.map_map];exact congrArg _ (zaw _ _).symm,zfy fun w hw=>zr7 p hw] at cs
 refine zu zJ zjc (by show 1≤30;decide) ?_
 (repeat' ((conv=>whnf);first|refine vA ?_|refine vT ?_|(refine vP ?_ ?_;·omega)|(refine vU ?_ ?_;·kernel_rfl)|refine yN (zs7 p hc0) ⟨⟨rfl,rfl⟩,rfl⟩ ?_|refine yN cs ⟨⟨rfl,rfl⟩,⟨rfl,rfl⟩,rfl⟩ ?_));all_goals try conv=>whnf
 refine zt (fun ((j,zs):Nat×List D)=>[(1,.ptr 0 0),(3,.d (dI (ptL p.W.toNat (zal p j)))),(5,.own 1)]) (fun ((j,zs):Nat×List D)=>[(0,some (zbh p)),(1,some (.row 1 zs))]) 2 (fun ((j,zs):Nat×List D)=>(∀ i,i < j → ¬zdz p i)∧zs=(List.range (j+1)).map fun i=>dI (ptL p.W.toNat (zal p i))) (fun ((j,zs):Nat×List D)=>65 - j) ((0,[dI (ptL p.W.toNat (zal p 0))])) [(0,0),(1,2)] [] (⟨fun i hi=>by omega,rfl⟩) (by (refine ⟨rfl,rfl,rfl,?_,?_⟩;repeat' first|exact trivial|exact rfl|refine And.intro ?_ ?_|refine ⟨_,rfl,?_⟩|decide)) ?_
 rintro ⟨j,zs⟩ ⟨hn,hz⟩
 have hj:=zrG hc0 hn
 have hzl:zs.length=j+1:=by rw [hz];simp
 have cf:Fn Tryz.prog T zcZ [.d (dPM p),.d (dI (ptL p.W.toNat (zal p j)))] [] (.d (dI (ptL p.W.toNat (zal p (j+1))))) []:=zux hR p hp hc0 (zf0 p j)
 (repeat' ((conv=>whnf);refine vT ?_));all_goals try conv=>whnf
 refine zX.dataN (cf) (by (repeat refine ⟨⟨rfl,rfl⟩,?_⟩);rfl) ?_
 (repeat' ((conv=>whnf);first|refine vA ?_|(refine vI ?_ ?_<;>intro hc)|refine vT ?_|(refine vP ?_ ?_;·(simp only [vM] at *;omega))|refine yD (zpH _ _) ⟨⟨rfl,rfl⟩,⟨rfl,rfl⟩,rfl⟩ rfl ?_));all_goals try conv=>whnf
 ·have hs:=zvn (p:=p) (by omega) (by simpa [zdz] using hc) hn
  refine congrArg (fun l=>some (D.arr 1 l)) ?_
  rw [hz,ze0,hs,List.map_map];rfl
 ·refine ⟨(j+1,_),[(0,0),(1,3)],[],?_,?_,by (refine ⟨rfl,rfl,rfl,?_,?_⟩;repeat' first|exact trivial|exact rfl|refine And.intro ?_ ?_|refine ⟨_,rfl,?_⟩|decide)⟩
  ·refine ⟨fun i hi=>?_,by rw [hz,List.range_succ (n:=j+1),List.map_append];rfl⟩
   by_cases e:i=j
   ·subst e;simpa [zdz] using hc
   ·exact hn i (by omega)
  ·((simp only [vM] at *;omega))
def zc9 (p:PM) (n:Int):List Int×Int:=if zq p≠0 then ([],zq p) else if n < 0 then ([],2) else (ptL p.W.toNat (zal p n.toNat),0)
abbrev dLI (x:List Int×Int):D := .tup [dI x.1,.int .i64 x.2]
theorem zrF {p:PM} (hc0:zq p=0):zb2 p≤64∧zdz p (zb2 p):=by
 have h1:=zf9 (fun v _=>decide (zdz p v)) 65
 have h2 : ∀ i,i < zb2 p → ¬zdz p i:=fun i hi=>by have:=h1.2 i hi;simpa using this
 have h3:=zrG hc0 h2
 refine ⟨h3,?_⟩
 rcases h1.1 with ⟨h4,h5⟩|h4
 ·exact of_decide_eq_true h5
 ·unfold zb2 at h3;omega
theorem ztF {p:PM} (hc0:zq p=0) {n:Nat} : (ze0 p)[min n (zb2 p)]? = some (ptL p.W.toNat (zal p n)):=by
 obtain ⟨h1,h2⟩:=zrF hc0
 unfold ze0
 rw [List.getElem?_map,List.getElem?_range (by omega)]
 show some (ptL p.W.toNat (zal p (min n (zb2 p))))=_
 congr 1
 by_cases h:n≤zb2 p
 ·rw [show min n (zb2 p)=n by omega]
 ·rw [show min n (zb2 p)=zb2 p by omega]
  exact (zfy fun w hw=>ziy (rels:=za8 p) (zcF p p.W.toNat) (k:=zb2 p) (fun w hw=>zv3 h2 hw) n (by omega) w hw).symm
theorem zsc (hR:zch T) (p:PM) (hp:zba p.rank) (n:Int):Fn Tryz.prog T zeB [.d (dPM p),.d (.int .i64 n)] [] (.d (dLI (zc9 p n))) []:=by
 refine zu zJ zjb (by show 2≤25;decide) ?_
 by_cases hc0:zq p=0
 ·have hlen:(ze0 p).length=zb2 p+1:=by simp [ze0]
  have hst:=(zrF hc0).1
  have hat:=ztF hc0 (n:=n.toNat)
  (repeat' ((conv=>whnf);first|refine vA ?_|((first|refine vD ?_ ?_|refine vF ?_ ?_)<;>intro hc<;>try simp only [vL] at hc)|refine vJ fun hg=>?_|refine vT ?_|((first|refine vO ?_ ?_|refine vS ?_ fun x hx=>?_);·(simp only [vM] at *;omega))|refine yD (zde hR p hp) ⟨⟨rfl,rfl⟩,rfl⟩ rfl ?_|refine yN (zse hR p hp hc0) ⟨⟨rfl,rfl⟩,rfl⟩ ?_));all_goals try conv=>whnf
  ·exact absurd hc0 hc
  ·rw [zc9,if_neg (by omega),if_pos hc];rfl
  ·have hi:(min n (↑(List.map dI (ze0 p)).length - 1)).toNat=min n.toNat (zb2 p):=by rw [List.length_map,hlen];omega
   rw [hi,hat] at hx
   injection hx with hx
   subst hx
   rw [zc9,if_neg (by omega),if_neg (by omega)];rfl
  all_goals skip
 ·(repeat' ((conv=>whnf);first|refine vA ?_|((first|refine vD ?_ ?_|refine vF ?_ ?_)<;>intro hc<;>try simp only [vL] at hc)|refine vT ?_|refine yD (zde hR p hp) ⟨⟨rfl,rfl⟩,rfl⟩ rfl ?_));all_goals try conv=>whnf
  ·rw [zc9,if_pos hc];rfl
  ·exact absurd ‹zq p=0› hc0
  ·exact absurd ‹zq p=0› hc0
theorem zpN (hR:zch T) (p:PM) (hp:zba p.rank):Fn Tryz.prog T zdO [.d (dPM p)] [] (.d (dLI (zc9 p 64))) []:=by
 refine zu zJ zhE (by show 1≤8;decide) ?_
 (repeat' ((conv=>whnf);first|refine vT ?_|refine yN (zsc hR p hp 64) ⟨⟨rfl,rfl⟩,⟨rfl,rfl⟩,rfl⟩ ?_));all_goals try conv=>whnf
 ·rfl
end Go.Ab
namespace Go.Ab
open Go Go.Proofs
set_option maxRecDepth 10000
set_option maxHeartbeats 4000000
variable {T:Nat→Obj→Prop}
abbrev zc5 (n:Nat) (q:Nat→Nat):List D:=(ptL n (zO q)).map (D.int .i64)
theorem zs4 {n:Nat} {q:Nat→Nat} (hn:n≤64) (hb : ∀ w,w < n→zO q w < 64) (s:BitVec 64):Fn Tryz.prog T zaa [.d (.u64 s),.ptr 0 0] [.box [.own 1],.row 1 (zc5 n q)]
  (.d (.u64 (zM (zO q) s n))) [some (.box [.own 1]),some (.row 1 (zc5 n q))]:=by
 refine zbc zJ zgF (by show 2≤24;decide) _ (fun e env mem n h=>h) ?_
 have hpl:(zc5 n q).length=n:=by simp [zc5,ptL]
 (repeat' ((conv=>whnf);first|refine vA ?_|refine vJ fun hg=>?_|refine vT ?_));all_goals try conv=>whnf
 refine zt (fun ((k,o):Nat×BitVec 64)=>[(0,.d (.u64 (s))),(4,.d (.u64 (o))),(7,.own 1),(8,.d (.int .i64 (((zc5 n q).length:Int)))),(9,.d (.int .i64 ((k:Int)))),(1000000,.ptr 0 0),(1000001,.own 1)]) (fun ((k,o):Nat×BitVec 64)=>[(0,some (.box [.own 1])),(1,some (.row 1 (zc5 n q)))]) 2 (fun ((k,o):Nat×BitVec 64)=>k≤n∧o=zM (zO q) s k) (fun ((k,o):Nat×BitVec 64)=>n - k) ((0,0#64)) [(0,0),(1,1)] [] (⟨by simp,rfl⟩) (by (refine ⟨rfl,rfl,rfl,?_,?_⟩;repeat' first|exact trivial|exact rfl|refine And.intro ?_ ?_|refine ⟨_,rfl,?_⟩|decide)) ?_
 rintro ⟨k,o⟩ ⟨hk,hI⟩
 by_cases hkl:k < n
 ·have e1:(ptL n (zO q))[(k:Int).toNat]? = some ((zO q k:Nat):Int):=zbF hkl
  have b1:=hb k hkl
  (repeat' ((conv=>whnf);first|refine vA ?_|(refine vF ?_ ?_<;>intro hc<;>try simp only [vL] at hc)|refine vT ?_|refine vN ‹_› ?_|((first|refine vO ?_ ?_|refine vP ?_ ?_);·omega)|fail));all_goals try conv=>whnf
  ·refine ⟨(k+1,_),[(0,0),(1,1)],[],?_,?_,by (refine ⟨rfl,rfl,rfl,?_,?_⟩;repeat' first|exact trivial|exact rfl|refine And.intro ?_ ?_|refine ⟨_,rfl,?_⟩|decide)⟩
   ·refine ⟨by (omega),?_⟩
    rw [hI];exact zpf
   ·((simp only [vM] at *;omega))
  ·have:=zcq (n:=n) (q:=zO q);omega
 ·(repeat' ((conv=>whnf);first|refine vA ?_|(refine vF ?_ ?_<;>intro hc<;>try simp only [vL] at hc)|refine vT ?_|(refine vQ ?_ fun x hx=>?_;·omega)|((first|refine vO ?_ ?_|refine vP ?_ ?_);·first|omega|(simp only [vM] at *;omega))|fail));all_goals try conv=>whnf
  ·have:=zcq (n:=n) (q:=zO q);omega
  ·have e0:k=n:=by omega
   subst e0
   subst hI
   refine ⟨trivial,_,[(0,0),(1,1)],[],rfl,.inl (by (repeat' exact rfl)),⟨by rfl,by rfl,by rfl,trivial,by (repeat' first|exact trivial|exact rfl|refine And.intro ?_ ?_|refine ⟨_,rfl,?_⟩|exact of_decide_eq_true rfl)⟩,by (repeat' first|exact trivial|exact rfl|refine And.intro ?_ ?_|refine ⟨_,rfl,?_⟩)⟩
theorem zgU {α:Type} (f g:Nat→α) : ∀ n:Nat,((List.range n).flatMap fun a=>[f a,g a]).length=2 * n
 | 0=>rfl
 | n+1=>by rw [List.range_succ,List.flatMap_append,List.length_append,zgU f g n];simp;omega
theorem zqe {α:Type} (f g:Nat→α) : ∀ (n i:Nat),i < 2 * n→((List.range n).flatMap fun a=>[f a,g a])[i]? = some (if i % 2=0 then f (i / 2) else g (i / 2))
 | 0,i,h=>by omega
 | n+1,i,h=>by
  have hl:=zgU f g n
  rw [List.range_succ,List.flatMap_append]
  by_cases hi:i < 2 * n
  ·rw [List.getElem?_append_left (by omega)];exact zqe f g n i hi
  ·rw [List.getElem?_append_right (by omega),hl]
   have:i=2 * n∨i=2 * n+1:=by omega
   rcases this with rfl|rfl
   ·rw [if_pos (by omega),show 2 * n / 2=n by omega];simp
   ·rw [if_neg (by omega),show (2 * n+1) / 2=n by omega,show 2 * n+1 - 2 * n=1 by omega];simp
theorem zti {p:PM} {i:Nat} {x:List D} (h:(zaq p 0)[i]? = some x):i < 2 * p.cell.length∧x=if i % 2=0 then zen (i / 2) false (zhh p (i / 2)) else zen (i / 2) true (zQ p (i / 2)):=by
 have hl:(zaq p 0).length=2 * p.cell.length:=by unfold zaq;rw [List.drop_zero];exact zgU _ _ _
 have hi:i < (zaq p 0).length:=(List.getElem?_eq_some_iff.1 h).1
 refine ⟨by omega,?_⟩
 unfold zaq at h
 rw [List.drop_zero,zqe _ _ _ _ (by omega)] at h
 exact (Option.some.inj h).symm
noncomputable def zub (p:PM):PM×List Int×Int:=if zq p≠0 then (⟨0,[],[],[]⟩,[],zq p) else ((zfL p (zal p 64)).1,ptL p.W.toNat (zO (zal p 64)),0)
abbrev zxb (x:PM×List Int×Int):D := .tup [dPM x.1,dI x.2.1,.int .i64 x.2.2]
theorem zm4 (n:Nat) (q:Nat→Nat):zF (n+1) q=zF n q++if q n=n then [n] else []:=by
 unfold zF
 rw [List.range_succ,List.filter_append]
 congr 1
 by_cases h:q n=n
 ·rw [if_pos h];simp [h]
 ·rw [if_neg h];simp [h]
theorem zuU {q:Nat→Nat} {w:Nat} (h:q w=w):zO q w=(zF w q).length:=by unfold zO;rw [h];rfl
theorem zwB {n:Nat} {q:Nat→Nat} (hq:zcQ n q) {w:Nat} (hw:w < n):zO q (q w)=zO q w:=by unfold zO;rw [hq.idem w hw]
def zdB (n:Nat) (q:Nat→Nat):List Int:=(zF n q).map fun (u:Nat)=>(u:Int)
theorem zwP (hT:zd4 T) (p:PM) (hp:zba p.rank) (h12:p.W≤12):Fn Tryz.prog T zdP [.d (dPM p)] [] (.d (zxb (zub p))) []:=by
 have hR:=zl7 (T:=T)
 have cc:=zpN hR p hp
 refine zu zJ zhF (by show 1≤116;decide) ?_
 by_cases hc0:zq p=0
 ·obtain ⟨q,hq⟩ : ∃ q,q=zal p 64:=⟨_,rfl⟩
  have hg:=zV hc0
  have w1:=hg.w1
  have w2:=hg.w2
  have v8:=hg.v8
  have n4:=hg.n4
  have S:zgi p q:=by rw [hq];exact zme hc0 (by omega)
  have hcan:=S.canon
  have hpl:=zcq (n:=p.W.toNat) (q:=q)
  have h64:=W64 hc0
  rw [show zc9 p 64=(ptL p.W.toNat q,0) by rw [zc9,if_neg (by omega),if_neg (by omega),hq];rfl] at cc
  (repeat' ((conv=>whnf);first|refine vA ?_|refine vH ?_|refine vJ fun hg=>?_|refine vT ?_|(refine vP ?_ ?_;·(simp only [vM] at *;omega))|refine yN cc ⟨⟨rfl,rfl⟩,rfl⟩ ?_));all_goals try conv=>whnf
  refine zt (fun ((k,zs,ys):Nat×List D×List D)=>[(1,.ptr 0 0),(2,.ptr 1 0),(7,.ptr 2 0),(8,.ptr 3 0),(33,.d (dI (ptL p.W.toNat q))),(34,.d (.int .i64 ((((ptL p.W.toNat q).map (D.int .i64)).length:Int)))),(35,.d (.int .i64 ((k:Int))))]) (fun ((k,zs,ys):Nat×List D×List D)=>[(0,some (zbh p)),(1,some zlG),(2,some (.box [.own 4])),(3,some (.box [.own 5])),(4,some (.row 1 zs)),(5,some (.row 1 ys))]) 6 (fun ((k,zs,ys):Nat×List D×List D)=>k≤p.W.toNat∧zs=(List.range p.W.toNat).map (fun u=>D.int .i64 (if u < k then (zO q u:Int) else 0))∧ys=(zF k q).map fun (u:Nat)=>D.int .i64 (u:Int)) (fun ((k,zs,ys):Nat×List D×List D)=>p.W.toNat - k) ((0,_,[])) [(0,0),(1,1),(2,3),(3,4),(4,2)]   [5] (⟨by simp,by simp only [Nat.not_lt_zero,if_false];rw [List.length_map,Int.toNat_natCast,zcq];exact zaw _ _,rfl⟩) (by (refine ⟨rfl,rfl,rfl,?_,?_⟩;repeat' first|exact trivial|exact rfl|exact ⟨_,rfl⟩|refine And.intro ?_ ?_|refine ⟨_,rfl,?_⟩|decide)) ?_
  rintro ⟨k,zs,ys⟩ ⟨hk,hz,hy⟩
  have hzl:zs.length=p.W.toNat:=by rw [hz];simp
  have hyl:ys.length≤k:=by rw [hy,List.length_map];exact zda k q
  by_cases hkl:k < p.W.toNat
  ·have e1:(ptL p.W.toNat q)[k]? = some ((q k:Nat):Int):=zbF hkl
   have b1:=hcan.le k hkl
   have e2:zs[((q k:Nat):Int).toNat]? = some (D.int .i64 (if q k < k then (zO q (q k):Int) else 0)):=by rw [hz,List.getElem?_map,Int.toNat_natCast,List.getElem?_range (by omega)];rfl
   (repeat' ((conv=>whnf);first|refine vA ?_|(refine vF ?_ ?_<;>intro hc<;>try simp only [vL] at hc)|refine vJ fun hg=>?_|refine vK fun hg=>?_|refine vT ?_|refine vN ‹_› ?_|((first|refine vO ?_ ?_|refine vP ?_ ?_);·first|omega|(simp only [vM] at *;omega))|fail));all_goals try conv=>whnf
   ·have hqk:q k=k:=by omega
    refine ⟨(k+1,_,_),[(0,0),(1,1),(2,2),(3,3),(4,4),(5,7)],[],?_,?_,by (refine ⟨rfl,rfl,rfl,?_,?_⟩;repeat' first|exact trivial|exact rfl|refine And.intro ?_ ?_|refine ⟨_,rfl,?_⟩|decide)⟩
    ·refine ⟨by (omega),?_,?_⟩
     ·rw [hz]
      refine (zaW _).trans (zm fun u hu=>?_)
      show (if u=k then _ else _)=_
      by_cases e:u=k
      ·subst e
       rw [if_pos rfl,if_pos (show u < u+1 by omega),zuU hqk,hy,List.length_map]
      ·rw [if_neg e]
       by_cases e2:u < k
       ·rw [if_pos e2,if_pos (show u < k+1 by omega)]
       ·rw [if_neg e2,if_neg (show ¬ u < k+1 by omega)]
     ·rw [zm4,if_pos hqk,List.map_append,← hy];rfl
    ·((simp only [vM] at *;omega))
   ·have hqk:q k≠k:=by omega
    refine zcu.mk _ ⟨by omega,e2⟩ ?_
    (repeat' ((conv=>whnf);first|refine vT ?_|((first|refine vO ?_ ?_|refine vP ?_ ?_);·omega)|(refine vU ?_ ?_;·kernel_rfl)|fail));all_goals try conv=>whnf
    refine ⟨(k+1,_,_),[(0,0),(1,1),(2,2),(3,3),(4,4),(5,5)],[],?_,?_,by (refine ⟨rfl,rfl,rfl,?_,?_⟩;repeat' first|exact trivial|exact rfl|refine And.intro ?_ ?_|refine ⟨_,rfl,?_⟩|decide)⟩
    ·refine ⟨by (omega),?_,?_⟩
     ·rw [hz]
      refine (zaW _).trans (zm fun u hu=>?_)
      show (if u=k then _ else _)=_
      by_cases e:u=k
      ·subst e
       rw [if_pos rfl,if_pos (show u < u+1 by omega),if_pos (show q u < u by omega),zwB hcan hkl]
      ·rw [if_neg e]
       by_cases e2:u < k
       ·rw [if_pos e2,if_pos (show u < k+1 by omega)]
       ·rw [if_neg e2,if_neg (show ¬ u < k+1 by omega)]
     ·rw [zm4,if_neg hqk,List.append_nil,← hy]
    ·((simp only [vM] at *;omega))
   ·omega
  ·have e0:k=p.W.toNat:=by omega
   subst e0
   obtain rfl:zs=zc5 p.W.toNat q:=by
    rw [hz,zc5,ptL,List.map_map]
    exact zm fun u hu=>by rw [if_pos (by omega)];rfl
   obtain rfl:ys=(zdB p.W.toNat q).map (D.int .i64):=by rw [hy,zdB,List.map_map];rfl
   have hrl:(zdB p.W.toNat q).length=(zF p.W.toNat q).length:=by simp [zdB]
   clear hz hzl hy hyl
   have hcnt:=zda p.W.toNat q
   (repeat' ((conv=>whnf);first|refine vA ?_|(refine vF ?_ ?_<;>intro hc<;>try simp only [vL] at hc)|refine vJ fun hg=>?_|refine vT ?_|(refine vQ ?_ fun x hx=>?_;·omega)|((first|refine vO ?_ ?_|refine vP ?_ ?_);·omega)|(refine vU ?_ ?_;·kernel_rfl)|fail));all_goals try conv=>whnf
   ·omega
   ·omega
   ·refine zt (fun ((i,vs):Nat×List D)=>[(1,.ptr 0 0),(2,.ptr 1 0),(7,.ptr 2 0),(8,.ptr 3 0),(11,.ptr 6 0),(12,.own 7),(62,.d (dU p.val)),(63,.d (.int .i64 (((p.val.map D.u64).length:Int)))),(64,.d (.int .i64 ((i:Int))))]) (fun ((i,vs):Nat×List D)=>[(0,some (zbh p)),(1,some zlG),(2,some (.box [.own 4])),(3,some (.box [.own 5])),(4,some (.row 1 (zc5 p.W.toNat q))),(5,some (.row 1 ((zdB p.W.toNat q).map (D.int .i64)))),(6,some (.box [.fn zaa [.ptr 2 0]])),(7,some (.row 1 vs))]) 8 (fun ((i,vs):Nat×List D)=>i≤p.val.length∧vs=(p.val.take i).map fun s=>D.u64 (zM (zO q) s p.W.toNat)) (fun ((i,vs):Nat×List D)=>p.val.length - i) ((0,[])) [(0,0),(1,1),(2,2),(3,3),(4,4),(5,5),(6,6)]   [7] (⟨by simp,rfl⟩) (by (refine ⟨rfl,rfl,rfl,?_,?_⟩;repeat' first|exact trivial|exact rfl|exact ⟨_,rfl⟩|refine And.intro ?_ ?_|refine ⟨_,rfl,?_⟩|decide)) ?_
    rintro ⟨i,vs⟩ ⟨hi,hv⟩
    have hvl:vs.length=i:=by rw [hv,List.length_map,List.length_take];omega
    by_cases hil:i < p.val.length
    ·obtain ⟨s,hs⟩ : ∃ s,p.val[i]? = some s:=⟨_,List.getElem?_eq_getElem hil⟩
     (repeat' ((conv=>whnf);first|refine vA ?_|(refine vF ?_ ?_<;>intro hc<;>try simp only [vL] at hc)|refine vT ?_|refine vN ‹_› ?_));all_goals try conv=>whnf
     ·refine zX.objs [2,4] (zs4 h64 (fun w hw=>S.num64 hc0 hw) s) (by (repeat' first|exact rfl|refine And.intro ?_ ?_|refine ⟨_,rfl,?_⟩)) (by (repeat' first|exact rfl|refine And.intro ?_ ?_|refine ⟨_,rfl,?_⟩)) (by rfl) (by rfl) (by simp) ?_
      (repeat' ((conv=>whnf);first|refine vT ?_|((first|refine vO ?_ ?_|refine vP ?_ ?_);·first|omega|(simp only [vM] at *;omega))|fail));all_goals try conv=>whnf
      ·refine ⟨(i+1,_),[(0,0),(1,1),(2,2),(3,3),(4,4),(5,5),(6,6),(7,9)],[],?_,?_,by (refine ⟨rfl,rfl,rfl,?_,?_⟩;repeat' first|exact trivial|exact rfl|refine And.intro ?_ ?_|refine ⟨_,rfl,?_⟩|decide)⟩
       ·refine ⟨by (omega),?_⟩
        rw [zdX hs,List.map_append,← hv];rfl
       ·((simp only [vM] at *;omega))
     ·omega
    ·obtain rfl:i=p.val.length:=by omega
     obtain rfl:vs=(zc8 p q).map D.u64:=by rw [hv,List.take_length,zc8,List.map_map];rfl
     clear hv
     have hvL:(zc8 p q).length=p.val.length:=by simp [zc8]
     (repeat' ((conv=>whnf);first|refine vA ?_|(refine vF ?_ ?_<;>intro hc<;>try simp only [vL] at hc)|refine vT ?_|(refine vQ ?_ fun x hx=>?_;·omega)|fail));all_goals try conv=>whnf
     ·omega
     ·refine zX.res (zn0 p) (by (repeat refine ⟨⟨rfl,rfl⟩,?_⟩);rfl) ?_
      (repeat' ((conv=>whnf);refine vT ?_));all_goals try conv=>whnf
      refine zfA (zlT hR p hp hc0) [9] [] (by first|((repeat refine ⟨⟨rfl,rfl⟩,?_⟩);rfl)|(repeat' first|exact rfl|refine And.intro ?_ ?_|refine ⟨_,rfl,?_⟩)) (by (repeat' first|exact rfl|refine And.intro ?_ ?_|refine ⟨_,rfl,?_⟩)) (by rfl) (by rfl) [(2,.ptr 0 0),(7,.ptr 1 0),(8,.ptr 2 0),(11,.ptr 5 0),(12,.own 6),(15,.ptr 7 0)] (fun (os:List D)=>[(0,some zlG),(1,some (.box [.own 3])),(2,some (.box [.own 4])),(3,some (.row 1 (zc5 p.W.toNat q))),(4,some (.row 1 ((zdB p.W.toNat q).map (D.int .i64)))),(5,some (.box [.fn zaa [.ptr 1 0]])),(6,some (.row 1 ((zc8 p q).map D.u64))),(7,some (.box [.own 8])),(8,some (.row 1 os))]) 9 (fun i (os:List D)=>os=((List.range (i / 2)).map (zbe p q)).map dU) ([]) [(0,1),(1,2),(2,3),(3,4),(4,5),(5,6),(6,7),(7,8)]   [8] (rfl) (by (refine ⟨rfl,rfl,rfl,?_,?_⟩;repeat' first|exact trivial|exact rfl|exact ⟨_,rfl⟩|refine And.intro ?_ ?_|refine ⟨_,rfl,?_⟩|decide)) ?_ ?_
      ·intro i x os hx ho
       obtain ⟨hi2,rfl⟩:=zti hx
       subst ho
       by_cases hi:i % 2=0
       ·rw [if_pos hi]
        refine ⟨rfl,?_⟩
        (repeat' ((conv=>whnf);first|refine vA ?_|refine vE ?_|refine vH ?_|refine vT ?_));all_goals try conv=>whnf
        refine ⟨((List.range (i / 2)).map (zbe p q)).map dU,[(0,0),(1,1),(2,2),(3,3),(4,4),(5,5),(6,6),(7,7),(8,8)],[],?_,by (refine ⟨rfl,rfl,rfl,?_,?_⟩;repeat' first|exact trivial|exact rfl|refine And.intro ?_ ?_|refine ⟨_,rfl,?_⟩|decide)⟩
        rw [show (i+1) / 2=i / 2 by omega]
       ·rw [if_neg hi]
        refine ⟨rfl,?_⟩
        (repeat' ((conv=>whnf);first|refine vA ?_|refine vE ?_|refine vG ?_|refine vJ fun hg=>?_|refine vT ?_));all_goals try conv=>whnf
        refine zt (fun ((k,rs):Nat×List D)=>[(2,.ptr 0 0),(7,.ptr 1 0),(8,.ptr 2 0),(11,.ptr 5 0),(12,.own 6),(15,.ptr 7 0),(16,.ptr 9 0),(17,.own 10),(81,.own 4),(82,.d (.int .i64 ((((zdB p.W.toNat q).map (D.int .i64)).length:Int)))),(83,.d (.int .i64 ((k:Int)))),(1000002,.ptr 0 0),(1000007,.ptr 1 0),(1000008,.ptr 2 0),(1000011,.ptr 5 0),(1000012,.own 6),(1000015,.ptr 7 0)]) (fun ((k,rs):Nat×List D)=>[(0,some zlG),(1,some (.box [.own 3])),(2,some (.box [.own 4])),(3,some (.row 1 (zc5 p.W.toNat q))),(4,some (.row 1 ((zdB p.W.toNat q).map (D.int .i64)))),(5,some (.box [.fn zaa [.ptr 1 0]])),(6,some (.row 1 ((zc8 p q).map D.u64))),(7,some (.box [.own 8])),(8,some (.row 1 (((List.range (i / 2)).map (zbe p q)).map dU))),(9,some (.box [.d (.int .i64 ((i / 2:Nat):Int)),.d (.bool true),.d (dU (zQ p (i / 2)))])),(10,some (.row 1 rs))]) 11 (fun ((k,rs):Nat×List D)=>k≤(zF p.W.toNat q).length∧rs=((zF p.W.toNat q).take k).map fun u=>D.u64 (zM (zO q) (wkB p (i / 2) u) p.W.toNat)) (fun ((k,rs):Nat×List D)=>(zF p.W.toNat q).length - k) ((0,[])) [(0,0),(1,1),(2,2),(3,3),(4,4),(5,5),(6,6),(7,7),(8,8),(9,9)]   [10] (⟨by simp,rfl⟩) (by (refine ⟨rfl,rfl,rfl,?_,?_⟩;repeat' first|exact trivial|exact rfl|exact ⟨_,rfl⟩|exact .inl rfl|refine And.intro ?_ ?_|refine ⟨_,rfl,?_⟩|decide)) ?_
        rintro ⟨k,rs⟩ ⟨hk,hr⟩
        have hcl:(zF p.W.toNat q).length≤p.W.toNat:=zda _ _
        have hrsl:rs.length=k:=by rw [hr,List.length_map,List.length_take];omega
        by_cases hkl:k < (zF p.W.toNat q).length
        ·obtain ⟨u,hu⟩ : ∃ u,(zF p.W.toNat q)[k]? = some u:=⟨_,List.getElem?_eq_getElem hkl⟩
         have huW:u < p.W.toNat:=by have:=List.mem_of_getElem? hu;unfold zF at this;exact List.mem_range.1 (List.mem_filter.1 this).1
         have e4:(zdB p.W.toNat q)[(k:Int).toNat]? = some (u:Int):=by rw [zdB,List.getElem?_map,Int.toNat_natCast,hu];rfl
         have e5:(zQ p (i / 2))[u]? = some (wkB p (i / 2) u):=by rw [znd,List.getElem?_map,List.getElem?_range huW];rfl
         (repeat' ((conv=>whnf);first|refine vA ?_|(refine vF ?_ ?_<;>intro hc<;>try simp only [vL] at hc)|refine vT ?_|refine vN ‹_› ?_|(refine vP ?_ ?_;·first|omega|(simp only [vM] at *;omega))|fail));all_goals try conv=>whnf
         ·refine zX.objs [1,3] (zs4 h64 (fun w hw=>S.num64 hc0 hw) (wkB p (i / 2) u)) (by (repeat' first|exact rfl|refine And.intro ?_ ?_|refine ⟨_,rfl,?_⟩)) (by (repeat' first|exact rfl|refine And.intro ?_ ?_|refine ⟨_,rfl,?_⟩)) (by rfl) (by rfl) (by simp) ?_
          (repeat' ((conv=>whnf);first|refine vT ?_|((first|refine vO ?_ ?_|refine vP ?_ ?_);·first|omega|(simp only [vM] at *;omega))|(refine vU ?_ ?_;·kernel_rfl)|fail));all_goals try conv=>whnf
          ·refine ⟨(k+1,_),[(0,0),(1,1),(2,2),(3,3),(4,4),(5,5),(6,6),(7,7),(8,8),(9,9),(10,12)],[],?_,?_,by (refine ⟨rfl,rfl,rfl,?_,?_⟩;repeat' first|exact trivial|exact rfl|exact .inl rfl|refine And.intro ?_ ?_|refine ⟨_,rfl,?_⟩|decide)⟩
           ·refine ⟨by (omega),?_⟩
            rw [zdX hu,List.map_append,← hr];rfl
           ·((simp only [vM] at *;omega))
         ·omega
        ·(repeat' ((conv=>whnf);first|refine vA ?_|(refine vF ?_ ?_<;>intro hc<;>try simp only [vL] at hc)|refine vT ?_|(refine vQ ?_ fun x hx=>?_;·omega)|((first|refine vS ?_ fun x hx=>?_|refine vP ?_ ?_);·first|omega|(simp only [vM] at *;omega))|fail));all_goals try conv=>whnf
         ·omega
         ·obtain rfl:k=(zF p.W.toNat q).length:=by omega
          rw [List.take_length] at hr
          obtain rfl:rs=(zbe p q (i / 2)).map D.u64:=by rw [hr,zbe,List.map_map];rfl
          refine ⟨((List.range (i / 2)).map (zbe p q)).map dU++[dU (zbe p q (i / 2))],[(0,0),(1,1),(2,2),(3,3),(4,4),(5,5),(6,6),(7,7),(8,12)],[],?_,by (refine ⟨rfl,rfl,rfl,?_,?_⟩;repeat' first|exact trivial|exact rfl|refine And.intro ?_ ?_|refine ⟨_,rfl,?_⟩|decide)⟩
          rw [show (i+1) / 2=i / 2+1 by omega,List.range_succ,List.map_append,List.map_append];rfl
      ·intro os ho
       obtain ⟨s,hs,-⟩:=zwF hc0 S
       have cn:=zwu hT ((zF p.W.toNat q).length:Int) (by have:=zda p.W.toNat q;have:(zF p.W.toNat q).length≤p.W.toNat:=this;omega) (zc8 p q) ((List.range p.cell.length).map (zbe p q))
       rw [show zeV ((zF p.W.toNat q).length:Int) (zc8 p q) ((List.range p.cell.length).map (zbe p q))=(s,0) from hs] at cn
       obtain rfl:os=((List.range p.cell.length).map (zbe p q)).map dU:=by rw [ho,show (zaq p 0).length=2 * p.cell.length by unfold zaq;rw [List.drop_zero];exact zgU _ _ _,show 2 * p.cell.length / 2=p.cell.length by omega]
       rw [← hrl,show ((zdB p.W.toNat q).length:Int)=(((zdB p.W.toNat q).map (D.int .i64)).length:Int) by rw [List.length_map]] at cn
       (repeat' ((conv=>whnf);first|refine vA ?_|refine vH ?_|refine vJ fun hg=>?_|refine vT ?_|(refine vU ?_ ?_;·kernel_rfl)|refine yN cn ⟨⟨rfl,rfl⟩,⟨rfl,rfl⟩,⟨rfl,rfl⟩,rfl⟩ ?_));all_goals try conv=>whnf
       rw [zub,if_neg (by omega),← hq,show (zfL p q).1=s by rw [hs]];rfl
 ·rw [show zc9 p 64=([],zq p) by rw [zc9,if_pos hc0]] at cc
  (repeat' ((conv=>whnf);first|refine vA ?_|(refine vD ?_ ?_<;>intro hc<;>try simp only [vL] at hc)|refine vJ fun hg=>?_|refine vT ?_|(refine vP ?_ ?_;·omega)|refine yN cc ⟨⟨rfl,rfl⟩,rfl⟩ ?_));all_goals try conv=>whnf
  ·rw [zub,if_pos hc0];rfl
  ·exact absurd ‹zq p=0› hc0
end Go.Ab
namespace Go.Ab
open Go
theorem zge.trans {p p' p2:PM} {Z Z':Nat→Nat→Prop} (B:zge p p' Z) (B':zge p' p2 Z'):zge p p2 (fun v w => ∃ u,Z v u∧Z' u w) where
 n:=B.n.trans B'.n
 lt:=fun ⟨u,h,h'⟩=>⟨(B.lt h).1,(B'.lt h').2⟩
 fact:=fun ⟨u,h,h'⟩ i=>(B.fact h i).trans (B'.fact h' i)
 cf ha:=fun ⟨u,h,h'⟩ hu=>by
  obtain ⟨x,h1,h2⟩:=B.cf ha h hu
  obtain ⟨y,h3,h4⟩:=B'.cf (by have:=B.n;omega) h' h1
  exact ⟨y,h3,x,h2,h4⟩
 cb ha:=fun ⟨u,h,h'⟩ hu=>by
  obtain ⟨x,h1,h2⟩:=B'.cb (by have:=B.n;omega) h' hu
  obtain ⟨y,h3,h4⟩:=B.cb ha h h1
  exact ⟨y,h3,x,h4,h2⟩
 sf ha:=fun ⟨u,h,h'⟩ hu hr=>by
  obtain ⟨x,h1,h1r,h2⟩:=B.sf ha h hu hr
  obtain ⟨y,h3,h3r,h4⟩:=B'.sf (by have:=B.n;omega) h' h1 h1r
  exact ⟨y,h3,h3r,x,h2,h4⟩
 sb ha:=fun ⟨u,h,h'⟩ hu hr=>by
  obtain ⟨x,h1,h1r,h2⟩:=B'.sb (by have:=B.n;omega) h' hu hr
  obtain ⟨y,h3,h3r,h4⟩:=B.sb ha h h1 h1r
  exact ⟨y,h3,h3r,x,h4,h2⟩
section
variable {p:PM} (hc0:zq p=0)
include hc0
theorem zw6 {k w:Nat} (hw:w < p.W.toNat):zal p k w < 64:=by
 have:=(zf0 p k).le w hw
 have:=W64 hc0
 omega
theorem zf4 {Z:Nat→Nat→Prop} (B:zge p p Z) : ∀ (k:Nat) {v w:Nat},Z v w→zal p k v=zal p k w
 | 0,v,w,h=>(zhL (ziF (zdc p))).2 (by simp only [zdp,decide_eq_true_eq];exact zlO.2 (B.fact h))
 | k+1,v,w,h=>by
  refine (zhL (zdV p.W.toNat (za8 p) (zal p k))).2 ?_
  obtain ⟨hv,hw⟩:=B.lt h
  simp only [zaB,Bool.and_eq_true,decide_eq_true_eq,List.all_eq_true]
  refine ⟨zf4 B k h,fun r hr=>?_⟩
  have hq : ∀ u,u < p.W.toNat→zal p k u < 64:=fun u hu=>zw6 hc0 hu
  refine znc fun b=>?_
  rw [zaM _ hq,zaM _ hq]
  obtain ⟨a,ha,rfl|rfl⟩:=zl1.1 hr
  ·constructor
   ·rintro ⟨u,h1,h2,h3⟩
    obtain ⟨u',h4,h5⟩:=B.cf ha h ((zaO hc0 ha hv).1 h2)
    exact ⟨u',h4.1,(zaO hc0 ha hw).2 h4,by rw [← h3];exact (zf4 B k h5).symm⟩
   ·rintro ⟨u,h1,h2,h3⟩
    obtain ⟨u',h4,h5⟩:=B.cb ha h ((zaO hc0 ha hw).1 h2)
    exact ⟨u',h4.1,(zaO hc0 ha hv).2 h4,by rw [← h3];exact zf4 B k h5⟩
  ·constructor
   ·rintro ⟨u,h1,h2,h3⟩
    obtain ⟨h6,h7⟩:=(zev hc0 hv).1 h2
    obtain ⟨u',h4,h4r,h5⟩:=B.sf ha h h6 h7
    exact ⟨u',h4.1,(zev hc0 hw).2 ⟨h4,h4r⟩,by rw [← h3];exact (zf4 B k h5).symm⟩
   ·rintro ⟨u,h1,h2,h3⟩
    obtain ⟨h6,h7⟩:=(zev hc0 hw).1 h2
    obtain ⟨u',h4,h4r,h5⟩:=B.sb ha h h6 h7
    exact ⟨u',h4.1,(zev hc0 hv).2 ⟨h4,h4r⟩,by rw [← h3];exact zf4 B k h5⟩
end
abbrev zr1 (p:PM):Nat→Nat:=zal p 64
section
variable {p:PM} (hc0:zq p=0)
include hc0
theorem zuu:zgi p (zr1 p):=zme hc0 (W64 hc0)
theorem zxg {s:PM} (h:zfL p (zr1 p)=(s,0)) {k:Nat} (hk:s.W.toNat≤k) {b:Nat} (hb:b < s.W.toNat):zal s k b=b:=by
 have S:=zuu hc0
 obtain ⟨h1,h2,h3,h4,h5⟩:=zeZ h
 have S':=zme h1 hk
 have B1:=znC hc0 S h
 have B2:=S'.bis h1
 have B:=(B1.trans B2).trans B1.symm
 have key : ∀ b c,b < s.W.toNat→c < s.W.toNat→zal s k b=zal s k c→b=c:=by
  intro b c hb hc he
  obtain ⟨u,hu⟩ : ∃ u,(zF p.W.toNat (zr1 p))[b]? = some u:=⟨_,List.getElem?_eq_getElem (by rw [h2] at hb;omega)⟩
  obtain ⟨w,hw⟩ : ∃ w,(zF p.W.toNat (zr1 p))[c]? = some w:=⟨_,List.getElem?_eq_getElem (by rw [h2] at hc;omega)⟩
  obtain ⟨u1,u2,u3⟩:=zeW S.canon hu
  obtain ⟨w1,w2,w3⟩:=zeW S.canon hw
  have:=zf4 hc0 B 64 (v:=u) (w:=w) ⟨c,⟨b,⟨u1,u3.symm⟩,hb,hc,he⟩,w1,w3.symm⟩
  rw [← u3,← w3]
  exact (zco S.canon u1 w1).2 this
 have hc:=zf0 s k
 exact (key b (zal s k b) hb (by have:=hc.le b hb;omega) (hc.idem b hb).symm).symm
end
theorem zxh {s:PM} (h1:zq s=0) {q:Nat→Nat} (hq : ∀ b,b < s.W.toNat→q b=b):zfL s q=(s,0)∧(∀ b,b < s.W.toNat→zO q b=b)∧(zF s.W.toNat q).length=s.W.toNat:=by
 have hg:=zV h1
 have h64:=W64 h1
 have hw1:=hg.w1
 have hr : ∀ n,n≤s.W.toNat→zF n q=List.range n:=by
  intro n hn
  unfold zF
  rw [List.filter_eq_self]
  intro b hb
  have:=List.mem_range.1 hb
  exact decide_eq_true (hq b (by omega))
 have hnum : ∀ b,b < s.W.toNat→zO q b=b:=by
  intro b hb
  unfold zO
  rw [hq b hb]
  show (zF b q).length=b
  rw [hr b (by omega),List.length_range]
 refine ⟨?_,hnum,by rw [hr _ (Nat.le_refl _),List.length_range]⟩
 have hb : ∀ (x:BitVec 64),(∀ i,x.getLsbD i=true→i < s.W.toNat)→zM (zO q) x s.W.toNat=x:=by
  intro x hx
  refine znc fun i=>?_
  rw [zaM _ fun w hw=>by rw [hnum w hw];omega]
  constructor
  ·rintro ⟨w,h2,h3,h4⟩;rw [hnum w h2] at h4;rw [← h4];exact h3
  ·intro h2;exact ⟨i,hx i h2,h2,hnum i (hx i h2)⟩
 have hv:zc8 s q=s.val:=by
  unfold zc8
  refine (List.map_congr_left fun x hx=>hb x fun i hi=>?_).trans (List.map_id _)
  have h5:=hg.val x hx
  have h6:x &&& ~~~(zdC s.W)=0:=by simpa [bad] using h5
  have h7:=(zrH.1 h6) i hi
  exact (zvE h1).1 h7
 have ho : ∀ a,zbe s q a=zQ s a:=by
  intro a
  unfold zbe
  rw [hr _ (Nat.le_refl _)]
  unfold zQ
  refine List.map_congr_left fun u hu=>?_
  have hu':=List.mem_range.1 hu
  have e:wkB s a u=zby (za s.cell a) (za s.rank a) u s.W.toNat:=by
   unfold wkB uAt zQ
   rw [List.getD,List.getElem?_map,List.getElem?_range hu'];rfl
  rw [hb _ fun i hi=>((zev h1 hu').1 hi).1.1,e]
 unfold zfL
 rw [hr _ (Nat.le_refl _),List.length_range,hv,List.map_congr_left fun a _=>ho a]
 rw [show ((s.W.toNat:Nat):Int)=s.W by omega]
 exact zuS hg (zsy h1)
section
variable {p:PM} (hc0:zq p=0) {q:Nat→Nat} (S:zgi p q) {s:PM} (h:zfL p q=(s,0))
include hc0 S h
theorem zxe {a w:Nat} (ha:a < p.cell.length) (hw:w < p.W.toNat):zM (zO q) (zbj p (a:Int) (w:Int)) p.W.toNat=zbj s (a:Int) (zO q w:Int):=by
 obtain ⟨h1,h2,h3,h4,h5⟩:=zeZ h
 have B:=znC hc0 S h
 have hlt:zO q w < s.W.toNat:=by have:=zgu S.canon hw;rw [h2];omega
 refine znc fun b=>?_
 rw [zaM _ fun w hw=>S.num64 hc0 hw,zaO h1 (by omega) hlt]
 constructor
 ·rintro ⟨u,hu,h6,rfl⟩
  obtain ⟨u',h7,h8,h9⟩:=B.cf ha ⟨hw,rfl⟩ ((zaO hc0 ha hw).1 h6)
  rw [← h9];exact h7
 ·intro h6
  obtain ⟨u,h7,h8,h9⟩:=B.cb ha ⟨hw,rfl⟩ h6
  exact ⟨u,h8,(zaO hc0 ha hw).2 h7,h9.symm⟩
theorem zxd {a w:Nat} (ha:a < p.cell.length) (hw:w < p.W.toNat):zM (zO q) (zgI p (a:Int) (w:Int) (BitVec.allOnes 64)) p.W.toNat=zgI s (a:Int) (zO q w:Int) (BitVec.allOnes 64):=by
 obtain ⟨h1,h2,h3,h4,h5⟩:=zeZ h
 have B:=znC hc0 S h
 have hlt:zO q w < s.W.toNat:=by have:=zgu S.canon hw;rw [h2];omega
 have h64:=W64 hc0
 have h64':=W64 h1
 have hones : ∀ {i:Nat},i < 64→(BitVec.allOnes 64).getLsbD i=true:=fun hi=>by rw [BitVec.getLsbD_allOnes];exact decide_eq_true hi
 have hA:zmh (fun w b=>w < p.W.toNat∧b=zO q w) (BitVec.allOnes 64) (BitVec.allOnes 64):=fun v v' hz=>by
  have:=B.lt hz
  rw [hones (by omega),hones (by omega)]
 refine znc fun b=>?_
 rw [zaM _ fun w hw=>S.num64 hc0 hw,zlF h1 (by omega) hlt]
 constructor
 ·rintro ⟨u,hu,h6,rfl⟩
  obtain ⟨h7,h8,h9⟩:=(zlF hc0 ha hw).1 h6
  obtain ⟨u',⟨a1,a2,a3⟩,a4,a5⟩:=znQ h1 B.symm (show a < s.cell.length by omega) hA.symm (v:=zO q w) (v':=w) ⟨hw,rfl⟩ ⟨h7,h8,h9⟩
  rw [← a5];exact ⟨a1,a2,a3⟩
 ·rintro ⟨h6,h7,h8⟩
  obtain ⟨u,⟨a1,a2,a3⟩,a4,a5⟩:=znQ hc0 B ha hA (v:=w) (v':=zO q w) ⟨hw,rfl⟩ ⟨h6,h7,h8⟩
  exact ⟨u,a4,(zlF hc0 ha hw).2 ⟨a1,a2,a3⟩,a5.symm⟩
end
end Go.Ab
namespace Go.Ab
open Go Go.Proofs Go.MapKept
theorem Sim.grown {B : zn} {ρ : Nat → V} {M : Nat → Option Ob} {F : Nat → Prop} {σ : Nat → Option Nat} {a : Act} {w w' : World} (h : Sim B ρ M F σ a w) (hg : w.grownBy w' none) : Sim B ρ M F σ a w' := by
  refine h.step ⟨fun id ob hid => .inr ⟨rfl, ob, hid, za4.refl ob⟩, fun id h1 h2 => ⟨h1, h2⟩, hg.size, fun b _ hb => hg.block b hb (by simp), fun b _ hx => hx, fun id b c e _ _ hc => ⟨c, (hg.block b (zf hc) (by simp)).trans hc, rfl⟩⟩
    (fun id ob hid => .inl ⟨hid, rfl, fun b hb => ?_⟩) h.inj h.mine h.free ?_ (fun b hb => hg.block b (h.olt b hb) (by simp)) (fun _ _ h => h)
  · obtain ⟨o, ho⟩ := (h.mem id ob hid).block hb
    exact hg.block b (zf ho) (by simp)
  · refine ⟨hg.os.trans h.kept.os, hg.tape.trans h.kept.tape, hg.output.trans h.kept.output, Nat.le_trans h.kept.size hg.size, fun b hb hR => (hg.block b (Nat.lt_of_lt_of_le hb h.kept.size) (by simp)).trans (h.kept.block b hb hR), fun b c e hc => ?_⟩
    obtain ⟨c', h1, h2⟩ := h.kept.cells b c e hc
    exact ⟨c', (hg.block b (zf h1) (by simp)).trans h1, h2⟩
theorem ztx {w w' : World} {X : Nat → Prop} {cell rank : List Int} {es : Array MapEntry} {clock : Nat} {blk : Nat → Nat} (hX : ∀ b, w.heap.size ≤ b → ¬X b)
    (hG : Grp (O2 (w.heap.size + 1)) w' w.heap.size ((zB cell rank cell.length).map fun p => (p.1, zdF p.2)) es clock blk) : zg X w' (.map (zfz cell rank)) (.map (some w.heap.size)) := by
  have hgl : ((zB cell rank cell.length).map fun p => (p.1, zdF p.2)).length = (zw cell).length := by simp [zB]
  have hgd : ∀ i, i < (zw cell).length → ((zB cell rank cell.length).map fun p => (p.1, zdF p.2)).getD i default = ((zw cell).getD i 0, zW cell rank ((zw cell).getD i 0)) := by
    intro i hi
    simp only [zB, List.take_length, List.map_map, List.getD, List.getElem?_map, List.getElem?_eq_getElem hi, Option.map_some, Option.getD_some, Function.comp, zrl]
    rfl
  refine .map _ _ es clock (hX _ (Nat.le_refl _)) (zf hG.heap) hG.heap (by rw [hG.size, hgl]; simp) hG.st (fun i hi => ?_) (fun i hi => ?_)
  · rw [List.length_map] at hi
    rw [hG.key i (by rw [hgl]; exact hi), hgd i hi, show ((zw cell).map fun c => (D.int .i64 c, dI (zW cell rank c))).getD i (.nil, .nil) = (D.int .i64 ((zw cell).getD i 0), dI (zW cell rank ((zw cell).getD i 0))) by simp [List.getD, hi]]
    exact .int .i64 _ (by simp)
  · rw [List.length_map] at hi
    have hv := hG.val i (by rw [hgl]; exact hi)
    rw [hgd i hi] at hv
    rw [show ((zw cell).map fun c => (D.int .i64 c, dI (zW cell rank c))).getD i (.nil, .nil) = (D.int .i64 ((zw cell).getD i 0), dI (zW cell rank ((zw cell).getD i 0))) by simp [List.getD, hi]]
    simp only
    generalize zW cell rank ((zw cell).getD i 0) = zs at hv
    replace hv : O2 (w.heap.size + 1) w' (es.getD i default).val (blk i) zs := hv
    obtain ⟨cap, c, e, q1, q2, q3, q4, q5, q6, q7⟩ := hv
    rw [q1]
    have hl : (zs.map (D.int .i64)).length = zs.length := List.length_map _
    rw [← hl]
    refine .arr 1 (zs.map (D.int .i64)) (blk i) 0 cap (fun j => c.getD j undef) (hX _ (by omega)) (zf q3) (fun x hx => ?_) (by omega) (by omega) (fun j hj => ?_) (fun j k hj hk => ?_)
    · obtain ⟨y, -, rfl⟩ := List.mem_map.1 hx; rfl
    · have hjc : j < c.size := by omega
      simp [World.cell?, q3, Array.getD_eq_getD_getElem?, hjc]
    · have : k = 0 := by omega
      subst this
      rw [hl] at hj
      rw [Nat.mul_one, Nat.add_zero]
      rw [q7 j hj, show (zs.map (D.int .i64)).getD j .nil = .int .i64 (zs.getD j 0) by simp [List.getD, hj]]
      exact .int .i64 _ (by simp)
end Go.Ab
namespace Go.Ab
open Go Go.Proofs Go.MapKept
variable {T : Nat → Obj → Prop}
theorem zty {cell rank : List Int} (hle : cell.length ≤ rank.length) (h64 : rank.length ≤ 64) : Fn Tryz.prog T zdA [.own 0, .own 1] [zak cell, zak rank] (.d (.map (zfz cell rank))) [some (zak cell), some (zak rank)] := by
  refine zg1 ⟨_, Tryz.func70, by decide, rfl⟩ fun B σ a w args hT hS hsz hargs => ?_
  have ha : args = #[args.getD 0 undef, args.getD 1 undef] := by
    apply Array.ext
    · simpa using hsz
    · intro i h1 h2
      match i, h2 with
      | 0, _ => simp [Array.getD, show 0 < args.size by omega]
      | 1, _ => simp [Array.getD, show 1 < args.size by omega]
  have h0 := hargs 0 (by simp)
  have h1 := hargs 1 (by simp)
  have fin : ∀ (e : Ending) (w' : World) (es : Array MapEntry) (clock : Nat) (blk : Nat → Nat), e = .returned (.map (some w.heap.size)) → w.grownBy w' none → Grp (O2 (w.heap.size + 1)) w' w.heap.size ((zB cell rank cell.length).map fun p => (p.1, zdF p.2)) es clock blk →
      ∃ v' σ', e = .returned v' ∧ Sim B (fun _ => .undef) (zk [some (zak cell), some (zak rank)]) (fun i => 2 ≤ i) σ' a w' ∧ VSim σ' (zk [some (zak cell), some (zak rank)]) (fun i => 2 ≤ i) (B.X σ' (zk [some (zak cell), some (zak rank)])) w' (.d (.map (zfz cell rank))) v' ∧
        ∀ i ob, [zak cell, zak rank][i]? = some ob → zk [some (zak cell), some (zak rank)] i = none ∨ (σ' i = σ i ∧ ∃ ob', zk [some (zak cell), some (zak rank)] i = some ob' ∧ za4 ob ob') := by
    intro e w' es clock blk he hg hG
    refine ⟨_, σ, he, hS.grown hg, .d _ _ (ztx (fun b hb => ?_) hG), fun i ob hi => .inr ⟨rfl, ob, ?_, za4.refl ob⟩⟩
    · rintro (h | ⟨id, h, h2⟩)
      · have := hS.olt b h; omega
      · obtain ⟨ob, hob⟩ := Option.ne_none_iff_exists'.1 h
        obtain ⟨o, ho⟩ := (hS.mem id ob hob).block h2
        have := zf ho; omega
    · match i, hi with
      | 0, hi => simpa [zk] using hi
      | 1, hi => simpa [zk] using hi
  rw [ha]
  have m0 : zk ([zak cell, zak rank].map some) 0 = some (zak cell) := rfl
  have m1 : zk ([zak cell, zak rank].map some) 1 = some (zak rank) := rfl
  change VSim _ _ _ _ _ (.own 0) _ at h0
  change VSim _ _ _ _ _ (.own 1) _ at h1
  generalize args.getD 0 undef = va at h0
  generalize args.getD 1 undef = vb at h1
  have rd : ∀ {g : Nat} {v : Value} {xs : List Int}, O2 0 w v g xs → ∃ cap, v = .slice (some ⟨g, 0, none⟩) xs.length cap ∧ g < w.heap.size ∧ ∀ j, j < xs.length → w.cell? ⟨g, 0 + j, none⟩ = some (.int .i64 (at0 xs j)) := by
    rintro g v xs ⟨cap, c, e, q1, -, q3, q4, q5, -, q7⟩
    refine ⟨cap, q1, zf q3, fun j hj => ?_⟩
    have hjc : j < c.size := by omega
    have := q7 j hj
    rw [Array.getD_eq_getD_getElem?, Array.getElem?_eq_getElem hjc] at this
    simp only [Option.getD_some] at this
    simp [World.cell?, q3, hjc, this, at0]
  by_cases hc : cell = []
  · subst hc
    have hv : ∃ a' cap, va = .slice a' 0 cap := by
      cases h0 with
      | ownDead _ ad l c g1 => rw [m0] at g1; cases g1
      | ownNil => exact ⟨none, 0, rfl⟩
      | own _ s xs b cap c e g1 g2 g3 g4 g5 =>
        rw [m0] at g1
        simp only [zak, Option.some.injEq, Ob.row.injEq] at g1
        obtain ⟨-, rfl⟩ := g1
        exact ⟨_, cap, rfl⟩
    obtain ⟨a', cap, rfl⟩ := hv
    refine (zmX a' cap vb w).mono ?_
    rintro e w' ⟨he, hg, hh⟩
    exact fin e w' #[] 0 (fun _ => 0) he hg ⟨hh, ⟨fun i j hi => by simp at hi, fun i hi => by simp at hi⟩, rfl, fun i hi => by simp [zB, zw] at hi, fun i hi => by simp [zB, zw] at hi, fun i j hi => by simp [zB, zw] at hi⟩
  · have hpos : 0 < cell.length := List.length_pos_iff.2 hc
    obtain ⟨g1, -, o1⟩ := znE h0 (hS.mem 0 _ m0) m0 (by omega) hc
    obtain ⟨g2, -, o2⟩ := znE h1 (hS.mem 1 _ m1) m1 (by omega) (fun e => by rw [e] at hle; simp at hle; exact hc hle)
    obtain ⟨cap1, rfl, l1, c1⟩ := rd o1
    obtain ⟨cap2, rfl, l2, c2⟩ := rd o2
    refine (zmZ (T := T) g1 0 cap1 g2 0 cap2 rank.length cell rank w hpos hle (by omega) (fun b o ht => hS.pins b o (hT b o ht)) l1 l2 c1 (fun j hj => c2 j (by omega))).mono ?_
    rintro e w' ⟨he, hg, es, clock, blk, hG⟩
    exact fin e w' es clock blk he hg hG
end Go.Ab
namespace Go.Ab
open Go Go.Proofs
set_option maxRecDepth 10000
set_option maxHeartbeats 4000000
def zfc:List D→Option (List Int)
 | []=>some []
 | .int .i64 n::r=>match zfc r with
  | some l=>some (n::l)
  | none=>none
 | _=>none
theorem zeP : ∀ {ds:List D} {l:List Int},zfc ds=some l→ds=l.map (D.int .i64)
 | [],l,h=>by cases h;rfl
 | .int .i64 n::r,l,h=>by
  unfold zfc at h
  split at h
  ·rename_i l' h';cases h;rw [zeP h'];rfl
  ·cases h
def zne:List D→Option (List (BitVec 64))
 | []=>some []
 | .u64 n::r=>match zne r with
  | some l=>some (n::l)
  | none=>none
 | _=>none
theorem zow : ∀ {ds:List D} {l:List (BitVec 64)},zne ds=some l→ds=l.map D.u64
 | [],l,h=>by cases h;rfl
 | .u64 n::r,l,h=>by
  unfold zne at h
  split at h
  ·rename_i l' h';cases h;rw [zow h'];rfl
  ·cases h
def zhJ:List D→Option (List (List Int))
 | []=>some []
 | .arr 1 x::r=>match zfc x with
  | some a=>match zhJ r with
   | some l=>some (a::l)
   | none=>none
  | none=>none
 | _=>none
theorem zj5 : ∀ {ds:List D} {l:List (List Int)},zhJ ds=some l→ds=l.map dI
 | [],l,h=>by cases h;rfl
 | .arr 1 x::r,l,h=>by
  replace h:(match zfc x with
   | some a=>match zhJ r with
    | some l=>some (a::l)
    | none=>none
   | none=>none)=some l:=h
  cases h1:zfc x with
  | none=>rw [h1] at h;cases h
  | some a =>
   cases h2:zhJ r with
   | none=>rw [h1,h2] at h;cases h
   | some l'=>rw [h1,h2] at h;cases h;rw [zj5 h2,zeP h1];rfl
def okI (l:List Int):Bool:=l.all fun x=>decide (-9223372036854775808≤x)&&decide (x≤9223372036854775807)
def zuD:Nat→List V→List Ob→Option (List (List D)):=fun g vs obs =>
 cond (Nat.beq g zax) (match vs,obs with
  | [.ptr 0 0],[.box [.d (.u64 s)]]=>some (zgM s)
  | _,_=>none)
 (cond (Nat.beq g zan) (match vs,obs with
  | [.ptr 0 0],[.box [.d (.int .i64 W),.d (.arr 1 vl),.d (.arr 1 cs),.d (.arr 1 rs)]]=>match zne vl,zhJ cs,zhJ rs with
   | some vl,some cs,some rs=>cond (rs.all okI&&decide (zq ⟨W,vl,cs,rs⟩=0)) (some (zaq ⟨W,vl,cs,rs⟩ 0)) none
   | _,_,_=>none
  | _,_=>none) none)
def zpX:Fs:=fun f vs obs =>
 cond (Nat.beq f zdA) (match vs,obs with
  | [.d (.arr 1 a),.d (.arr 1 b)],[]=>match zfc a,zfc b with
   | some a,some b=>cond (Nat.ble a.length b.length&&Nat.ble a.length 64) (some (.d (.map (zfz a b)),[])) none
   | _,_=>none
  | [.own 0,.own 1],[.row 1 a,.row 1 b]=>match zfc a,zfc b with
   | some a,some b=>cond (Nat.ble a.length b.length&&Nat.ble b.length 64) (some (.d (.map (zfz a b)),[some (.row 1 (a.map (D.int .i64))),some (.row 1 (b.map (D.int .i64)))])) none
   | _,_=>none
  | _,_=>none)
 (cond (Nat.beq f zau) (match vs,obs with
  | [.d (.u64 w)],[]=>some (.d (.int .i64 (Lib.ctz 64 w.toNat)),[])
  | _,_=>none)
 (cond (Nat.beq f zce) (match vs,obs with
  | [.d (.u64 w)],[]=>some (.d (.int .i64 (Sort.bitsLen w.toNat:Int)),[])
  | _,_=>none)
 (cond (Nat.beq f zcL) (match vs,obs with
  | [.d (.u64 w)],[]=>some (.d (.int .i64 (Sort.bitsLen w.toNat:Int)),[])
  | _,_=>none) none)))
def zxf (f:Nat):Bool:=Nat.beq f zc0||(Nat.beq f zdo||Nat.beq f zhs)
noncomputable def zwq:Cfg:=⟨zo Tryz.prog,zpX,zuD,zxf,fun f=>Nat.beq f zcy,150⟩
theorem zwC {rs:List (List Int)} (h:rs.all okI=true):zba rs:=by
 intro r hr x hx
 have h1:=List.all_eq_true.1 (List.all_eq_true.1 h r hr) x hx
 rw [Bool.and_eq_true,decide_eq_true_eq,decide_eq_true_eq] at h1
 exact h1
variable {T:Nat→Obj→Prop}
theorem zwz (hT:zd4 T) : ∀ g vs obs xs,zuD g vs obs=some xs→It Tryz.prog T g vs obs xs:=by
 intro g vs obs xs h
 unfold zuD at h
 cases hg:Nat.beq g zax with
 | true =>
  rw [hg,cond_true] at h
  rw [Nat.eq_of_beq_eq_true hg]
  split at h
  ·cases h;exact zfd hT _
  ·cases h
 | false =>
  rw [hg,cond_false] at h
  cases hg2:Nat.beq g zan with
  | true =>
   rw [hg2,cond_true] at h
   rw [Nat.eq_of_beq_eq_true hg2]
   split at h
   ·split at h
    ·rename_i vl' cs' rs' h1 h2 h3
     rename_i vl cs rs _ _ _
     rw [zow h1,zj5 h2,zj5 h3]
     cases hb:rs'.all okI&&decide (zq ⟨_,vl',cs',rs'⟩=0) with
     | true =>
      rw [hb] at h
      rw [Bool.and_eq_true,decide_eq_true_eq] at hb
      cases h
      exact zlT zl7 _ (zwC hb.1) hb.2
     | false=>rw [hb] at h;cases h
    ·cases h
   ·cases h
  | false=>rw [hg2] at h;cases h
theorem zuF (hT:zd4 T):zrL Tryz.prog T zpX:=by
 intro f vs obs v obs' h
 unfold zpX at h
 cases h1:Nat.beq f zdA with
 | true =>
  rw [h1,cond_true] at h
  rw [Nat.eq_of_beq_eq_true h1]
  split at h
  ·split at h
   ·rename_i a b ha hb
    rw [zeP ha,zeP hb]
    cases hc:Nat.ble a.length b.length&&Nat.ble a.length 64 with
    | true =>
     rw [hc] at h
     rw [Bool.and_eq_true,Nat.ble_eq,Nat.ble_eq] at hc
     cases h
     exact zl7 _ _ hc.1 hc.2
    | false=>rw [hc] at h;cases h
   ·cases h
  ·split at h
   ·rename_i a b ha hb
    rw [zeP ha,zeP hb]
    cases hc:Nat.ble a.length b.length&&Nat.ble b.length 64 with
    | true =>
     rw [hc] at h
     rw [Bool.and_eq_true,Nat.ble_eq,Nat.ble_eq] at hc
     cases h
     exact zty hc.1 hc.2
    | false=>rw [hc] at h;cases h
   ·cases h
  ·cases h
 | false =>
  rw [h1,cond_false] at h
  cases h2:Nat.beq f zau with
  | true =>
   rw [h2,cond_true] at h
   rw [Nat.eq_of_beq_eq_true h2]
   split at h
   ·cases h;exact hT _
   ·cases h
  | false =>
   rw [h2,cond_false] at h
   cases h3:Nat.beq f zce with
   | true =>
    rw [h3,cond_true] at h
    rw [Nat.eq_of_beq_eq_true h3]
    split at h
    ·cases h;exact zpK _
    ·cases h
   | false =>
    rw [h3,cond_false] at h
    cases h4:Nat.beq f zcL with
    | true =>
     rw [h4,cond_true] at h
     rw [Nat.eq_of_beq_eq_true h4]
     split at h
     ·cases h;exact zs0 _
     ·cases h
    | false=>rw [h4] at h;cases h
theorem zwr (hT:zd4 T):zrJ Tryz.prog T zwq:=⟨fun f c h=>h,zuF hT,zwz hT⟩
end Go.Ab
namespace Go.Ab
open Go Go.Proofs
set_option maxRecDepth 10000
set_option maxHeartbeats 4000000
variable {T:Nat→Obj→Prop}
def znr (p:PM) (n:Int):Bool:=decide (p.W≤n)&&(decide (p.val.length≤10)&&(decide (p.cell.length≤6)&&(decide (p.rank.length≤6)&&decide (p.val.length≤20∧p.cell.length≤8∧p.rank.length≤8∧(∀ a,a < p.cell.length→(za p.cell a).length≤20) ∧ ∀ a,a < p.rank.length→(za p.rank a).length≤20))))
theorem zxc (p:PM) (n:Int):Fn Tryz.prog T zfq [.d (dPM p),.d (.int .i64 n)] [] (.d (.bool (znr p n))) []:=by
 refine zu zJ zj2 (by show 2≤31;decide) ?_
 (repeat' ((conv=>whnf);first|refine vA ?_|(refine vF ?_ ?_<;>intro hc<;>try simp only [vL] at hc)|refine vJ fun hg=>?_|refine vT ?_|refine vZ ?_|refine yD (zws p) ⟨⟨rfl,rfl⟩,rfl⟩ rfl ?_));all_goals try conv=>whnf
 ·rw [znr,decide_eq_true ‹p.W≤n›,decide_eq_true (show p.val.length≤10 by omega),decide_eq_true (show p.cell.length≤6 by omega),decide_eq_true (show p.rank.length≤6 by omega)];rfl
 ·rw [znr,decide_eq_true ‹p.W≤n›,decide_eq_true (show p.val.length≤10 by omega),decide_eq_true (show p.cell.length≤6 by omega),decide_eq_false (show ¬ p.rank.length≤6 by omega)];rfl
 ·rw [znr,decide_eq_true ‹p.W≤n›,decide_eq_true (show p.val.length≤10 by omega),decide_eq_false (show ¬ p.cell.length≤6 by omega)];rfl
 ·rw [znr,decide_eq_true ‹p.W≤n›,decide_eq_false (show ¬ p.val.length≤10 by omega)];rfl
 ·rw [znr,decide_eq_false (show ¬ p.W≤n by omega)];rfl
end Go.Ab
