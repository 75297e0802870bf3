/- A part of the proofs of this seat: functions and their contracts. -/
import Derived.Test.YtmaiaomgcpbccaaGreatMD
import Derived.WalkKit
import Derived.Maps.OwnRows
import Derived.Maps.RangeRun
import Derived.Sort.LotD4
set_option linter.unusedVariables false
set_option linter.unusedSimpArgs false
set_option linter.unusedSectionVars false
namespace Go.Ab
open Go Go.Proofs
set_option linter.unusedSimpArgs false
set_option linter.unusedVariables false
set_option maxRecDepth 10000
set_option maxHeartbeats 4000000
variable {T : Nat → Obj → Prop}
variable {τ : Type} [Inhabited τ] {vf : τ → Int} {cf : τ → τ → Int} {fid : Nat} {y1 y2 y3 : D} (hcf : ∀ x y : τ, Fn Tryz.prog T fid [.d (.int .i64 (vf x)), .d (.int .i64 (vf y)), .d y1, .d y2, .d y3] [] (.d (.int .i64 (cf x y))) []) (hO : Sort.SWO (ltC cf))
include hcf hO
set_option maxHeartbeats 2000000 in
theorem fn_pareq_cmp (d : Array τ) {a b p : Nat} {ai bi pi : Int} (ea : ai = a) (eb : bi = b) (ep : pi = p) (hap : a ≤ p) (hpb : p < b) (hb : b ≤ d.size) (hs : d.size ≤ 536870912) :
    Fn Tryz.prog T f_slices_partitionEqualCmpFunc_int_ [.own 0, .d (.int .i64 ai), .d (.int .i64 bi), .d (.int .i64 pi), .d (.fn fid [y1, y2, y3])] [rowC vf d] (.d (.int .i64 ((Sort.partitionEqual (ltC cf) d a b p).1 : Int))) [some (rowC vf (Sort.partitionEqual (ltC cf) d a b p).2)] := by
  subst ea; subst eb; subst ep
  rw [Sort.partitionEqual]
  generalize hR : Sort.partEqLoop (ltC cf) a (a + 1) (b - 1) (Sort.swp d a p) = R
  refine fn_introR hmix k_slices_partitionEqualCmpFunc_int_ (by show 5 ≤ 90; decide) _ (fun e env mem n h => h) ?_
  have hdl : d.toList.length = d.size := by rw [Array.length_toList]
  (repeat' ((conv=>whnf);first|refine vA ?_|(refine vQ ?_ fun x hx=>?_;·omega)|((first|refine vO ?_ ?_|refine vP ?_ ?_);·first|omega|(simp only [vM] at *;omega))|(refine vU ?_ ?_;·kernel_rfl)|fail));all_goals try conv=>whnf
  refine loop_mem (fun ((ii, jj, xs) : Int × Int × List D) => [(0, .own 0), (1, .d (.int .i64 ((a : Int)))), (11, .d (.int .i64 (ii))), (12, .d (.int .i64 (jj))), (4, .d (.fn fid [y1, y2, y3])), (ghostAt, .own 0)]) (fun ((ii, jj, xs) : Int × Int × List D) => [(0, some (.row 1 xs))]) 1 (fun ((ii, jj, xs) : Int × Int × List D) => ∃ (i j : Nat) (e : Array τ), ii = i ∧ jj = j ∧ xs = e.toList.map (eC vf) ∧ a < i ∧ i ≤ j + 2 ∧ j < b ∧ e.size = d.size ∧ Sort.partEqLoop (ltC cf) a i j e = R) (fun ((ii, jj, xs) : Int × Int × List D) => (jj + 1 - ii).toNat) (((a : Int) + 1, (b : Int) - 1, _)) [(0, 0)] [] (⟨a + 1, b - 1, Sort.swp d a p, by omega, by omega, swp_rowI _ _ ‹d.toList[(a : Int).toNat]? = some _› ‹d.toList[(p : Int).toNat]? = some _› rfl rfl, by omega, by omega, by omega, by rw [swp_size], hR⟩) (by (refine ⟨rfl,rfl,rfl,?_,?_⟩;repeat' first|exact trivial|exact rfl|refine And.intro ?_ ?_|refine ⟨_,rfl,?_⟩|decide)) ?_
  rintro ⟨_, _, _⟩ ⟨i, j, e, rfl, rfl, rfl, hi, hij, hjb, he, hI⟩
  have hel : e.toList.length = d.size := by rw [Array.length_toList]; exact he
  rw [Sort.partEqLoop_eq] at hI
  (repeat' ((conv=>whnf);refine vA ?_));all_goals try conv=>whnf
  refine loop_mem (fun (kk : Int) => [(0, .own 0), (1, .d (.int .i64 ((a : Int)))), (11, .d (.int .i64 (kk))), (12, .d (.int .i64 ((j : Int)))), (4, .d (.fn fid [y1, y2, y3])), (ghostAt, .own 0)]) (fun (kk : Int) => [(0, some (rowC vf e))]) 1 (fun (kk : Int) => ∃ k : Nat, kk = k ∧ i ≤ k ∧ k ≤ j + 2 ∧ Sort.scanUp (fun x => !(ltC cf) e[a]! x) e j k = Sort.scanUp (fun x => !(ltC cf) e[a]! x) e j i) (fun (kk : Int) => ((j : Int) + 1 - kk).toNat) ((i : Int)) [(0, 0)] [] (⟨i, by omega, by omega, by omega, rfl⟩) (by (refine ⟨rfl,rfl,rfl,?_,?_⟩;repeat' first|exact trivial|exact rfl|refine And.intro ?_ ?_|refine ⟨_,rfl,?_⟩|decide)) ?_
  rintro _ ⟨k, rfl, hik, hkj, hK⟩
  (repeat' ((conv=>whnf);first|refine vA ?_|refine vE ?_|(refine vF ?_ ?_<;>intro hc<;>try simp only [vL] at hc)|(refine vQ ?_ fun x hx=>?_;·omega)|((first|refine vO ?_ ?_|refine vP ?_ ?_);·first|omega|(simp only [vM] at *;omega))|(refine vU ?_ ?_;·kernel_rfl)|refine yD (hcf _ _) (by (repeat refine ⟨⟨rfl,rfl⟩,?_⟩);rfl) rfl ?_));all_goals try conv=>whnf
  all_goals first
  | (have g1 := arr_at a ‹e.toList[(a : Int).toNat]? = some _› rfl
     have g2 := arr_at k ‹e.toList[(k : Int).toNat]? = some _› rfl
     refine ⟨_, [(0, 0)], [], ?_, ?_, by (refine ⟨rfl,rfl,rfl,?_,?_⟩;repeat' first|exact trivial|exact rfl|refine And.intro ?_ ?_|refine ⟨_,rfl,?_⟩|decide)⟩
     · exact ⟨k + 1, by omega, by omega, by omega, (su_next (by omega) (by show (!(ltC cf) e[a]! e[k]!) = true; rw [lt_at (lt := (ltC cf)) g1 g2]; simp only [Bool.not_eq_true']; exact decide_eq_false (by omega))).trans hK⟩
     · (omega))
  | skip
  all_goals
    have hk : Sort.scanUp (fun x => !(ltC cf) e[a]! x) e j i = k := hK.symm.trans (su_stop fun h => by
      first
      | omega
      | (have g1 := arr_at a ‹e.toList[(a : Int).toNat]? = some _› rfl
         have g2 := arr_at k ‹e.toList[(k : Int).toNat]? = some _› rfl
         have h2 : (!(ltC cf) e[a]! e[k]!) = true := h.2
         rw [lt_at (lt := (ltC cf)) g1 g2] at h2
         simp only [Bool.not_eq_true'] at h2
         have := of_decide_eq_false h2
         omega))
    clear hK
    rw [hk] at hI
    refine loop_mem (fun (kk : Int) => [(0, .own 0), (1, .d (.int .i64 ((a : Int)))), (11, .d (.int .i64 ((k : Int)))), (12, .d (.int .i64 (kk))), (4, .d (.fn fid [y1, y2, y3])), (ghostAt, .own 0)]) (fun (kk : Int) => [(0, some (rowC vf e))]) 1 (fun (kk : Int) => ∃ m : Nat, kk = m ∧ m ≤ j ∧ k ≤ m + 2 ∧ Sort.scanDown (fun x => (ltC cf) e[a]! x) e k m = Sort.scanDown (fun x => (ltC cf) e[a]! x) e k j) (fun (kk : Int) => (kk + 1).toNat) ((j : Int)) [(0, 0)] [] (⟨j, by omega, by omega, by omega, rfl⟩) (by (refine ⟨rfl,rfl,rfl,?_,?_⟩;repeat' first|exact trivial|exact rfl|refine And.intro ?_ ?_|refine ⟨_,rfl,?_⟩|decide)) ?_
    rintro _ ⟨m, rfl, hmj, hkm, hM⟩
    (repeat' ((conv=>whnf);first|refine vA ?_|(refine vF ?_ ?_<;>intro hc<;>try simp only [vL] at hc)|refine vN ‹_› ?_|(refine vQ ?_ fun x hx=>?_;·omega)|((first|refine vO ?_ ?_|refine vP ?_ ?_);·first|omega|(simp only [vM] at *;omega))|(refine vU ?_ ?_;·kernel_rfl)|refine yD (hcf _ _) (by (repeat refine ⟨⟨rfl,rfl⟩,?_⟩);rfl) rfl ?_));all_goals try conv=>whnf
    all_goals first
    | (have g1 := arr_at a ‹e.toList[(a : Int).toNat]? = some _› rfl
       have g2 := arr_at m ‹e.toList[(m : Int).toNat]? = some _› rfl
       refine ⟨_, [(0, 0)], [], ?_, ?_, by (refine ⟨rfl,rfl,rfl,?_,?_⟩;repeat' first|exact trivial|exact rfl|refine And.intro ?_ ?_|refine ⟨_,rfl,?_⟩|decide)⟩
       · exact ⟨m - 1, by omega, by omega, by omega, (sd_next (by omega) (by omega) (by show (ltC cf) e[a]! e[m]! = true; rw [lt_at (lt := (ltC cf)) g1 g2]; exact decide_eq_true (by omega))).trans hM⟩
       · (omega))
    | skip
    all_goals
      have hm : Sort.scanDown (fun x => (ltC cf) e[a]! x) e k j = m := hM.symm.trans (sd_stop fun h => by
        first
        | omega
        | (have g1 := arr_at a ‹e.toList[(a : Int).toNat]? = some _› rfl
           have g2 := arr_at m ‹e.toList[(m : Int).toNat]? = some _› rfl
           have h2 : (ltC cf) e[a]! e[m]! = true := h.2
           rw [lt_at (lt := (ltC cf)) g1 g2] at h2
           skip
           have := of_decide_eq_true h2
           omega))
      clear hM
      rw [hm] at hI
      first
      | (exfalso; omega)
      | (rw [if_pos (by omega)] at hI
         subst hI
         refine ⟨trivial, _, [(0, 0)], [], rfl, .inl (by (repeat' exact rfl)), ⟨by rfl, by rfl, by rfl, trivial, by (repeat' first|exact trivial|exact rfl|refine And.intro ?_ ?_|refine ⟨_,rfl,?_⟩|exact of_decide_eq_true rfl)⟩, by (repeat' first|exact trivial|exact rfl|refine And.intro ?_ ?_)⟩
         done)
      | (rw [if_neg (by omega)] at hI
         refine ⟨(_, _, _), [(0, 0)], [], ?_, ?_, by (refine ⟨rfl,rfl,rfl,?_,?_⟩;repeat' first|exact trivial|exact rfl|refine And.intro ?_ ?_|refine ⟨_,rfl,?_⟩|decide)⟩
         · exact ⟨k + 1, m - 1, Sort.swp e k m, by omega, by omega, swp_rowI _ _ ‹e.toList[(k : Int).toNat]? = some _› ‹e.toList[(m : Int).toNat]? = some _› rfl rfl, by omega, by omega, by omega, by rw [swp_size, he], hI⟩
         · ((simp only [vM] at *;omega)))
theorem part_eq_cmp {d e : Array τ} {a b p : Nat} (he : Sort.swp d a p = e) : Sort.partition (ltC cf) d a b p =
    if Sort.scanUp (fun x => (ltC cf) x e[a]!) e (b - 1) (a + 1) > Sort.scanDown (fun x => !(ltC cf) x e[a]!) e (Sort.scanUp (fun x => (ltC cf) x e[a]!) e (b - 1) (a + 1)) (b - 1) then
      (Sort.scanDown (fun x => !(ltC cf) x e[a]!) e (Sort.scanUp (fun x => (ltC cf) x e[a]!) e (b - 1) (a + 1)) (b - 1), true, Sort.swp e (Sort.scanDown (fun x => !(ltC cf) x e[a]!) e (Sort.scanUp (fun x => (ltC cf) x e[a]!) e (b - 1) (a + 1)) (b - 1)) a)
    else ((Sort.partLoop (ltC cf) a (Sort.scanUp (fun x => (ltC cf) x e[a]!) e (b - 1) (a + 1) + 1) (Sort.scanDown (fun x => !(ltC cf) x e[a]!) e (Sort.scanUp (fun x => (ltC cf) x e[a]!) e (b - 1) (a + 1)) (b - 1) - 1) (Sort.swp e (Sort.scanUp (fun x => (ltC cf) x e[a]!) e (b - 1) (a + 1)) (Sort.scanDown (fun x => !(ltC cf) x e[a]!) e (Sort.scanUp (fun x => (ltC cf) x e[a]!) e (b - 1) (a + 1)) (b - 1)))).1, false,
      Sort.swp (Sort.partLoop (ltC cf) a (Sort.scanUp (fun x => (ltC cf) x e[a]!) e (b - 1) (a + 1) + 1) (Sort.scanDown (fun x => !(ltC cf) x e[a]!) e (Sort.scanUp (fun x => (ltC cf) x e[a]!) e (b - 1) (a + 1)) (b - 1) - 1) (Sort.swp e (Sort.scanUp (fun x => (ltC cf) x e[a]!) e (b - 1) (a + 1)) (Sort.scanDown (fun x => !(ltC cf) x e[a]!) e (Sort.scanUp (fun x => (ltC cf) x e[a]!) e (b - 1) (a + 1)) (b - 1)))).2
        (Sort.partLoop (ltC cf) a (Sort.scanUp (fun x => (ltC cf) x e[a]!) e (b - 1) (a + 1) + 1) (Sort.scanDown (fun x => !(ltC cf) x e[a]!) e (Sort.scanUp (fun x => (ltC cf) x e[a]!) e (b - 1) (a + 1)) (b - 1) - 1) (Sort.swp e (Sort.scanUp (fun x => (ltC cf) x e[a]!) e (b - 1) (a + 1)) (Sort.scanDown (fun x => !(ltC cf) x e[a]!) e (Sort.scanUp (fun x => (ltC cf) x e[a]!) e (b - 1) (a + 1)) (b - 1)))).1 a) := by
  subst he; rfl
set_option maxHeartbeats 4000000 in
theorem fn_par_cmp (d : Array τ) {a b p : Nat} {ai bi pi : Int} (ea : ai = a) (eb : bi = b) (ep : pi = p) (hap : a ≤ p) (hpb : p < b) (hb : b ≤ d.size) (hs : d.size ≤ 536870912) :
    Fn Tryz.prog T f_slices_partitionCmpFunc_int_ [.own 0, .d (.int .i64 ai), .d (.int .i64 bi), .d (.int .i64 pi), .d (.fn fid [y1, y2, y3])] [rowC vf d] (.tup [.d (.int .i64 ((Sort.partition (ltC cf) d a b p).1 : Int)), .d (.bool (Sort.partition (ltC cf) d a b p).2.1)]) [some (rowC vf (Sort.partition (ltC cf) d a b p).2.2)] := by
  subst ea; subst eb; subst ep
  generalize hI : Sort.partition (ltC cf) d a b p = R
  refine fn_introR hmix k_slices_partitionCmpFunc_int_ (by show 5 ≤ 178; decide) _ (fun e env mem n h => h) ?_
  have hdl : d.toList.length = d.size := by rw [Array.length_toList]
  (repeat' ((conv=>whnf);first|refine vA ?_|(refine vQ ?_ fun x hx=>?_;·omega)|((first|refine vO ?_ ?_|refine vP ?_ ?_);·first|omega|(simp only [vM] at *;omega))|(refine vU ?_ ?_;·kernel_rfl)|fail));all_goals try conv=>whnf
  have hsw := swp_rowI (enc := (eC vf)) a p ‹d.toList[(a : Int).toNat]? = some _› ‹d.toList[(p : Int).toNat]? = some _› rfl rfl
  generalize he0 : Sort.swp d a p = e at hsw
  rw [part_eq_cmp hcf hO he0] at hI
  have he : e.size = d.size := by rw [← he0, swp_size]
  have hel : e.toList.length = d.size := by rw [Array.length_toList]; exact he
  generalize hjd : b - 1 = j at hI
  obtain ⟨i, hid⟩ : ∃ i, i = a + 1 := ⟨_, rfl⟩
  rw [← hid] at hI
  refine loop_mem (fun ((kk, xs) : Int × List D) => [(0, .own 0), (1, .d (.int .i64 ((a : Int)))), (12, .d (.int .i64 (kk))), (13, .d (.int .i64 (((b : Int) - 1)))), (4, .d (.fn fid [y1, y2, y3])), (ghostAt, .own 0)]) (fun ((kk, xs) : Int × List D) => [(0, some (.row 1 xs))]) 1 (fun ((kk, xs) : Int × List D) => ∃ k : Nat, kk = k ∧ xs = e.toList.map (eC vf) ∧ i ≤ k ∧ k ≤ j + 2 ∧ Sort.scanUp (fun x => (ltC cf) x e[a]!) e j k = Sort.scanUp (fun x => (ltC cf) x e[a]!) e j i) (fun ((kk, xs) : Int × List D) => ((j : Int) + 1 - kk).toNat) (((a : Int) + 1, _)) [(0, 0)] [] (⟨i, by omega, hsw, by omega, by omega, rfl⟩) (by (refine ⟨rfl,rfl,rfl,?_,?_⟩;repeat' first|exact trivial|exact rfl|refine And.intro ?_ ?_|refine ⟨_,rfl,?_⟩|decide)) ?_
  rintro ⟨_, _⟩ ⟨k, rfl, rfl, hik, hkj, hK⟩
  have hja : (b : Int) - 1 = j := by omega
  (repeat' ((conv=>whnf);first|refine vA ?_|(refine vF ?_ ?_<;>intro hc<;>try simp only [vL] at hc)|(refine vQ ?_ fun x hx=>?_;·omega)|((first|refine vO ?_ ?_|refine vP ?_ ?_);·first|omega|(simp only [vM] at *;omega))|(refine vU ?_ ?_;·kernel_rfl)|refine yD (hcf _ _) (by (repeat refine ⟨⟨rfl,rfl⟩,?_⟩);rfl) rfl ?_));all_goals try conv=>whnf
  all_goals first
  | (have g1 := arr_at a ‹e.toList[(a : Int).toNat]? = some _› rfl
     have g2 := arr_at k ‹e.toList[(k : Int).toNat]? = some _› rfl
     refine ⟨(_, _), [(0, 0)], [], ?_, ?_, by (refine ⟨rfl,rfl,rfl,?_,?_⟩;repeat' first|exact trivial|exact rfl|refine And.intro ?_ ?_|refine ⟨_,rfl,?_⟩|decide)⟩
     · exact ⟨k + 1, by omega, rfl, by omega, by omega, (su_next (by omega) (by show (ltC cf) e[k]! e[a]! = true; rw [lt_at (lt := (ltC cf)) g2 g1]; exact decide_eq_true (by omega))).trans hK⟩
     · ((simp only [vM] at *;omega)))
  | skip
  all_goals
    have hk : Sort.scanUp (fun x => (ltC cf) x e[a]!) e j i = k := hK.symm.trans (su_stop fun h => by
      first
      | omega
      | (have g1 := arr_at a ‹e.toList[(a : Int).toNat]? = some _› rfl
         have g2 := arr_at k ‹e.toList[(k : Int).toNat]? = some _› rfl
         have h2 : (ltC cf) e[k]! e[a]! = true := h.2
         rw [lt_at (lt := (ltC cf)) g2 g1] at h2
         skip
         have := of_decide_eq_true h2
         omega))
    clear hK
    rw [hk] at hI
    refine loop_mem (fun (kk : Int) => [(0, .own 0), (1, .d (.int .i64 ((a : Int)))), (12, .d (.int .i64 ((k : Int)))), (13, .d (.int .i64 (kk))), (4, .d (.fn fid [y1, y2, y3])), (ghostAt, .own 0)]) (fun (kk : Int) => [(0, some (rowC vf e))]) 1 (fun (kk : Int) => ∃ m : Nat, kk = m ∧ m ≤ j ∧ k ≤ m + 2 ∧ Sort.scanDown (fun x => !(ltC cf) x e[a]!) e k m = Sort.scanDown (fun x => !(ltC cf) x e[a]!) e k j) (fun (kk : Int) => (kk + 1).toNat) (((b : Int) - 1)) [(0, 0)] [] (⟨j, by omega, by omega, by omega, rfl⟩) (by (refine ⟨rfl,rfl,rfl,?_,?_⟩;repeat' first|exact trivial|exact rfl|refine And.intro ?_ ?_|refine ⟨_,rfl,?_⟩|decide)) ?_
    rintro _ ⟨m, rfl, hmj, hkm, hM⟩
    (repeat' ((conv=>whnf);first|refine vA ?_|refine vE ?_|(refine vF ?_ ?_<;>intro hc<;>try simp only [vL] at hc)|refine vN ‹_› ?_|(refine vQ ?_ fun x hx=>?_;·omega)|((first|refine vO ?_ ?_|refine vP ?_ ?_);·first|omega|(simp only [vM] at *;omega))|(refine vU ?_ ?_;·kernel_rfl)|refine yD (hcf _ _) (by (repeat refine ⟨⟨rfl,rfl⟩,?_⟩);rfl) rfl ?_));all_goals try conv=>whnf
    all_goals first
    | (have g1 := arr_at a ‹e.toList[(a : Int).toNat]? = some _› rfl
       have g2 := arr_at m ‹e.toList[(m : Int).toNat]? = some _› rfl
       refine ⟨_, [(0, 0)], [], ?_, ?_, by (refine ⟨rfl,rfl,rfl,?_,?_⟩;repeat' first|exact trivial|exact rfl|refine And.intro ?_ ?_|refine ⟨_,rfl,?_⟩|decide)⟩
       · exact ⟨m - 1, by omega, by omega, by omega, (sd_next (by omega) (by omega) (by show (!(ltC cf) e[m]! e[a]!) = true; rw [lt_at (lt := (ltC cf)) g2 g1]; simp only [Bool.not_eq_true']; exact decide_eq_false (by omega))).trans hM⟩
       · (omega))
    | skip
    all_goals
      have hm : Sort.scanDown (fun x => !(ltC cf) x e[a]!) e k j = m := hM.symm.trans (sd_stop fun h => by
        first
        | omega
        | (have g1 := arr_at a ‹e.toList[(a : Int).toNat]? = some _› rfl
           have g2 := arr_at m ‹e.toList[(m : Int).toNat]? = some _› rfl
           have h2 : (!(ltC cf) e[m]! e[a]!) = true := h.2
           rw [lt_at (lt := (ltC cf)) g2 g1] at h2
           simp only [Bool.not_eq_true'] at h2
           have := of_decide_eq_false h2
           omega))
      clear hM
      rw [hm] at hI
      first
      | (exfalso; omega)
      | (rw [if_pos (by omega)] at hI
         subst hI
         rw [show rowC vf (Sort.swp e m a) = Ob.row 1 _ from congrArg (Ob.row 1) (swp_rowI _ _ ‹e.toList[(m : Int).toNat]? = some _› ‹e.toList[(a : Int).toNat]? = some _› rfl rfl).symm]
         refine ⟨trivial, _, [(0, 0)], [], rfl, .inl (by (repeat' first|exact rfl|exact .inr (.inl ⟨rfl,rfl⟩)|refine And.intro ?_ ?_|refine ⟨_,rfl,?_⟩)), ⟨by rfl, by rfl, by rfl, trivial, by (repeat' first|exact trivial|exact rfl|refine And.intro ?_ ?_|refine ⟨_,rfl,?_⟩|exact of_decide_eq_true rfl)⟩, by (repeat' first|exact trivial|exact rfl|refine And.intro ?_ ?_)⟩
         done)
      | (rw [if_neg (by omega)] at hI
         generalize hQ : Sort.partLoop (ltC cf) a (k + 1) (m - 1) (Sort.swp e k m) = Q at hI
         have hsq := swp_rowI (enc := (eC vf)) k m ‹e.toList[(k : Int).toNat]? = some _› ‹e.toList[(m : Int).toNat]? = some _› rfl rfl
         generalize he1 : Sort.swp e k m = e1 at hsq hQ
         have hes : e1.size = d.size := by rw [← he1, swp_size, he]
         refine loop_mem (fun ((ii, jj, xs) : Int × Int × List D) => [(0, .own 0), (1, .d (.int .i64 ((a : Int)))), (12, .d (.int .i64 (ii))), (13, .d (.int .i64 (jj))), (4, .d (.fn fid [y1, y2, y3])), (ghostAt, .own 0)]) (fun ((ii, jj, xs) : Int × Int × List D) => [(0, some (.row 1 xs))]) 1 (fun ((ii, jj, xs) : Int × Int × List D) => ∃ (i j : Nat) (e : Array τ), ii = i ∧ jj = j ∧ xs = e.toList.map (eC vf) ∧ a < i ∧ i ≤ j + 2 ∧ j < b ∧ e.size = d.size ∧ Sort.partLoop (ltC cf) a i j e = Q) (fun ((ii, jj, xs) : Int × Int × List D) => (jj + 1 - ii).toNat) (((k : Int) + 1, (m : Int) - 1, _)) [(0, 0)] [] (⟨k + 1, m - 1, e1, by omega, by omega, hsq, by omega, by omega, by omega, hes, hQ⟩) (by (refine ⟨rfl,rfl,rfl,?_,?_⟩;repeat' first|exact trivial|exact rfl|refine And.intro ?_ ?_|refine ⟨_,rfl,?_⟩|decide)) ?_
         clear hel he hk hm hik hkj hmj hkm hid hjd he0 hQ
         rintro ⟨_, _, _⟩ ⟨i, j, e, rfl, rfl, rfl, hi, hij, hjb, he, hJ⟩
         have hel : e.toList.length = d.size := by rw [Array.length_toList]; exact he
         rw [Sort.partLoop_eq] at hJ
         (repeat' ((conv=>whnf);refine vA ?_));all_goals try conv=>whnf
         refine loop_mem (fun (kk : Int) => [(0, .own 0), (1, .d (.int .i64 ((a : Int)))), (12, .d (.int .i64 (kk))), (13, .d (.int .i64 ((j : Int)))), (4, .d (.fn fid [y1, y2, y3])), (ghostAt, .own 0)]) (fun (kk : Int) => [(0, some (rowC vf e))]) 1 (fun (kk : Int) => ∃ k : Nat, kk = k ∧ i ≤ k ∧ k ≤ j + 2 ∧ Sort.scanUp (fun x => (ltC cf) x e[a]!) e j k = Sort.scanUp (fun x => (ltC cf) x e[a]!) e j i) (fun (kk : Int) => ((j : Int) + 1 - kk).toNat) ((i : Int)) [(0, 0)] [] (⟨i, by omega, by omega, by omega, rfl⟩) (by (refine ⟨rfl,rfl,rfl,?_,?_⟩;repeat' first|exact trivial|exact rfl|refine And.intro ?_ ?_|refine ⟨_,rfl,?_⟩|decide)) ?_
         rintro _ ⟨k, rfl, hik, hkj, hK⟩
         (repeat' ((conv=>whnf);first|refine vA ?_|(refine vF ?_ ?_<;>intro hc<;>try simp only [vL] at hc)|(refine vQ ?_ fun x hx=>?_;·omega)|((first|refine vO ?_ ?_|refine vP ?_ ?_);·first|omega|(simp only [vM] at *;omega))|(refine vU ?_ ?_;·kernel_rfl)|refine yD (hcf _ _) (by (repeat refine ⟨⟨rfl,rfl⟩,?_⟩);rfl) rfl ?_));all_goals try conv=>whnf
         all_goals first
         | (have g1 := arr_at a ‹e.toList[(a : Int).toNat]? = some _› rfl
            have g2 := arr_at k ‹e.toList[(k : Int).toNat]? = some _› rfl
            refine ⟨_, [(0, 0)], [], ?_, ?_, by (refine ⟨rfl,rfl,rfl,?_,?_⟩;repeat' first|exact trivial|exact rfl|refine And.intro ?_ ?_|refine ⟨_,rfl,?_⟩|decide)⟩
            · exact ⟨k + 1, by omega, by omega, by omega, (su_next (by omega) (by show (ltC cf) e[k]! e[a]! = true; rw [lt_at (lt := (ltC cf)) g2 g1]; exact decide_eq_true (by omega))).trans hK⟩
            · (omega))
         | skip
         all_goals
           have hk : Sort.scanUp (fun x => (ltC cf) x e[a]!) e j i = k := hK.symm.trans (su_stop fun h => by
             first
             | omega
             | (have g1 := arr_at a ‹e.toList[(a : Int).toNat]? = some _› rfl
                have g2 := arr_at k ‹e.toList[(k : Int).toNat]? = some _› rfl
                have h2 : (ltC cf) e[k]! e[a]! = true := h.2
                rw [lt_at (lt := (ltC cf)) g2 g1] at h2
                skip
                have := of_decide_eq_true h2
                omega))
           clear hK
           rw [hk] at hJ
           refine loop_mem (fun (kk : Int) => [(0, .own 0), (1, .d (.int .i64 ((a : Int)))), (12, .d (.int .i64 ((k : Int)))), (13, .d (.int .i64 (kk))), (4, .d (.fn fid [y1, y2, y3])), (ghostAt, .own 0)]) (fun (kk : Int) => [(0, some (rowC vf e))]) 1 (fun (kk : Int) => ∃ m : Nat, kk = m ∧ m ≤ j ∧ k ≤ m + 2 ∧ Sort.scanDown (fun x => !(ltC cf) x e[a]!) e k m = Sort.scanDown (fun x => !(ltC cf) x e[a]!) e k j) (fun (kk : Int) => (kk + 1).toNat) ((j : Int)) [(0, 0)] [] (⟨j, by omega, by omega, by omega, rfl⟩) (by (refine ⟨rfl,rfl,rfl,?_,?_⟩;repeat' first|exact trivial|exact rfl|refine And.intro ?_ ?_|refine ⟨_,rfl,?_⟩|decide)) ?_
           rintro _ ⟨m, rfl, hmj, hkm, hM⟩
           (repeat' ((conv=>whnf);first|refine vA ?_|refine vE ?_|(refine vF ?_ ?_<;>intro hc<;>try simp only [vL] at hc)|refine vN ‹_› ?_|(refine vQ ?_ fun x hx=>?_;·omega)|((first|refine vO ?_ ?_|refine vP ?_ ?_);·first|omega|(simp only [vM] at *;omega))|(refine vU ?_ ?_;·kernel_rfl)|refine yD (hcf _ _) (by (repeat refine ⟨⟨rfl,rfl⟩,?_⟩);rfl) rfl ?_));all_goals try conv=>whnf
           all_goals first
           | (have g1 := arr_at a ‹e.toList[(a : Int).toNat]? = some _› rfl
              have g2 := arr_at m ‹e.toList[(m : Int).toNat]? = some _› rfl
              refine ⟨_, [(0, 0)], [], ?_, ?_, by (refine ⟨rfl,rfl,rfl,?_,?_⟩;repeat' first|exact trivial|exact rfl|refine And.intro ?_ ?_|refine ⟨_,rfl,?_⟩|decide)⟩
              · exact ⟨m - 1, by omega, by omega, by omega, (sd_next (by omega) (by omega) (by show (!(ltC cf) e[m]! e[a]!) = true; rw [lt_at (lt := (ltC cf)) g2 g1]; simp only [Bool.not_eq_true']; exact decide_eq_false (by omega))).trans hM⟩
              · (omega))
           | skip
           all_goals
             have hm : Sort.scanDown (fun x => !(ltC cf) x e[a]!) e k j = m := hM.symm.trans (sd_stop fun h => by
               first
               | omega
               | (have g1 := arr_at a ‹e.toList[(a : Int).toNat]? = some _› rfl
                  have g2 := arr_at m ‹e.toList[(m : Int).toNat]? = some _› rfl
                  have h2 : (!(ltC cf) e[m]! e[a]!) = true := h.2
                  rw [lt_at (lt := (ltC cf)) g2 g1] at h2
                  simp only [Bool.not_eq_true'] at h2
                  have := of_decide_eq_false h2
                  omega))
             clear hM
             rw [hm] at hJ
             first
             | (exfalso; omega)
             | (rw [if_pos (by omega)] at hJ
                subst hJ
                subst hI
                rw [show rowC vf (Sort.swp e m a) = Ob.row 1 _ from congrArg (Ob.row 1) (swp_rowI _ _ ‹e.toList[(m : Int).toNat]? = some _› ‹e.toList[(a : Int).toNat]? = some _› rfl rfl).symm]
                refine ⟨trivial, _, [(0, 0)], [], rfl, .inl (by (repeat' first|exact rfl|exact .inr (.inr ⟨rfl,rfl⟩)|refine And.intro ?_ ?_|refine ⟨_,rfl,?_⟩)), ⟨by rfl, by rfl, by rfl, trivial, by (repeat' first|exact trivial|exact rfl|refine And.intro ?_ ?_|refine ⟨_,rfl,?_⟩|exact of_decide_eq_true rfl)⟩, by (repeat' first|exact trivial|exact rfl|refine And.intro ?_ ?_)⟩
                done)
             | (rw [if_neg (by omega)] at hJ
                refine ⟨(_, _, _), [(0, 0)], [], ?_, ?_, by (refine ⟨rfl,rfl,rfl,?_,?_⟩;repeat' first|exact trivial|exact rfl|refine And.intro ?_ ?_|refine ⟨_,rfl,?_⟩|decide)⟩
                · exact ⟨k + 1, m - 1, Sort.swp e k m, by omega, by omega, swp_rowI _ _ ‹e.toList[(k : Int).toNat]? = some _› ‹e.toList[(m : Int).toNat]? = some _› rfl rfl, by omega, by omega, by omega, by rw [swp_size, he], hJ⟩
                · ((simp only [vM] at *;omega))))
end Go.Ab
namespace Go.Ab
open Go Go.Proofs
set_option linter.unusedSimpArgs false
set_option linter.unusedVariables false
set_option maxRecDepth 10000
set_option maxHeartbeats 4000000
variable {T:Nat→Obj→Prop}
variable {τ:Type} [Inhabited τ] {vf:τ→Int} {cf:τ→τ→Int} {fid:Nat} {y1 y2 y3:D} (hcf : ∀ x y:τ,Fn Tryz.prog T fid [.d (.int .i64 (vf x)),.d (.int .i64 (vf y)),.d y1,.d y2,.d y3] [] (.d (.int .i64 (cf x y))) []) (hO:Sort.SWO (ltC cf))
include hcf hO
set_option maxHeartbeats 4000000 in
theorem fn_pdq_cmp : ∀ (N:Nat) (d:Array τ) {a b l:Nat} {ai bi li:Int} (ea:ai=a) (eb:bi=b) (el:li=l) (hN:b - a≤N) (hab:a≤b) (hb:b≤d.size) (hs:d.size≤536870912) (hl:l≤1000),
  Fn Tryz.prog T f_slices_pdqsortCmpFunc_int_ [.own 0,.d (.int .i64 ai),.d (.int .i64 bi),.d (.int .i64 li),.d (.fn fid [y1,y2,y3])] [rowC vf d] (.tup []) [some (rowC vf (Sort.pdq (ltC cf) d a b l true true))]:=by
 intro N
 induction N using Nat.strongRecOn with
 | _ N ih =>
 intro d a b l ai bi li ea eb el hN hab hb hs hl
 subst ea;subst eb;subst el
 generalize hR:Sort.pdq (ltC cf) d a b l true true=R
 refine fn_introR hmix k_slices_pdqsortCmpFunc_int_ (by show 5≤148;decide) _ (fun e env mem n h=>h) ?_
 (repeat' ((conv=>whnf);fail));all_goals try conv=>whnf
 refine loop_mem (fun ((ai,bi,li,wb,wp,xs):Int×Int×Int×Bool×Bool×List D)=>[(0,.own 0),(1,.d (.int .i64 (ai))),(2,.d (.int .i64 (bi))),(3,.d (.int .i64 (li))),(10,.d (.bool (wb))),(11,.d (.bool (wp))),(4,.d (.fn fid [y1,y2,y3])),(ghostAt,.own 0)]) (fun ((ai,bi,li,wb,wp,xs):Int×Int×Int×Bool×Bool×List D)=>[(0,some (.row 1 xs))]) 1 (fun ((ai,bi,li,wb,wp,xs):Int×Int×Int×Bool×Bool×List D) => ∃ (i j l:Nat) (e:Array τ),ai=i∧bi=j∧li=l∧xs=e.toList.map (eC vf)∧a≤i∧i≤j∧j≤b∧l≤1000∧e.size=d.size∧Sort.pdq (ltC cf) e i j l wb wp=R) (fun ((ai,bi,li,wb,wp,xs):Int×Int×Int×Bool×Bool×List D)=>(bi - ai).toNat) (((a:Int),(b:Int),(l:Int),true,true,d.toList.map (eC vf))) [(0,0)] [] (⟨a,b,l,d,rfl,rfl,rfl,rfl,Nat.le_refl _,hab,Nat.le_refl _,hl,rfl,hR⟩) (by (refine ⟨rfl,rfl,rfl,?_,?_⟩;repeat' first|exact trivial|exact rfl|exact .inr (.inl ⟨rfl,rfl⟩)|refine And.intro ?_ ?_|refine ⟨_,rfl,?_⟩|decide)) ?_
 rintro ⟨_,_,_,wb,wp,_⟩ ⟨i,j,l,e,rfl,rfl,rfl,rfl,hi,hij,hj,hl,he,hI⟩
 have hq:((j:Int) - (i:Int)).tdiv 8=((j - i) / 8:Nat):=by rw [Int.tdiv_eq_ediv_of_nonneg (by omega)];omega
 (repeat' ((conv=>whnf);first|refine SeqS.but 39 rfl ?_|(refine vF ?_ ?_<;>intro hc<;>try simp only [vL] at hc)|(refine vO ?_ ?_;·omega)|fail));all_goals try conv=>whnf
 ·have hI:Sort.insertionSort (ltC cf) e i j=R:=by rw [Sort.pdq,if_pos (by omega)] at hI;exact hI
  subst hI
  refine CallS.objs [0] (fn_ins_cmp' hcf hO e (a:=i) (b:=j) rfl rfl (by omega) (by omega) (by omega)) (by (repeat' first|exact rfl|refine And.intro ?_ ?_|refine ⟨_,rfl,?_⟩)) (by (repeat' first|exact rfl|refine And.intro ?_ ?_)) (by rfl) (by rfl) (by simp) ?_
  (repeat' ((conv=>whnf);fail));all_goals try conv=>whnf
  refine ⟨trivial,_,[(0,0)],[],rfl,.inl (by (repeat' first|exact rfl|refine ⟨_,rfl,?_⟩)),⟨by rfl,by rfl,by rfl,trivial,by (repeat' first|exact trivial|exact rfl|refine And.intro ?_ ?_|refine ⟨_,rfl,?_⟩|exact of_decide_eq_true rfl)⟩,by (repeat' first|exact trivial|exact rfl|refine And.intro ?_ ?_)⟩
 ·have hI:Sort.heapSort (ltC cf) e i j=R:=by rw [Sort.pdq,if_neg (by omega),if_pos (by omega)] at hI;exact hI
  subst hI
  refine CallS.objs [0] (fn_heap_cmp hcf hO e (a:=i) (b:=j) rfl rfl (by omega) (by omega) (by omega)) (by (repeat' first|exact rfl|refine And.intro ?_ ?_|refine ⟨_,rfl,?_⟩)) (by (repeat' first|exact rfl|refine And.intro ?_ ?_)) (by rfl) (by rfl) (by simp) ?_
  (repeat' ((conv=>whnf);fail));all_goals try conv=>whnf
  refine ⟨trivial,_,[(0,0)],[],rfl,.inl (by (repeat' first|exact rfl|refine ⟨_,rfl,?_⟩)),⟨by rfl,by rfl,by rfl,trivial,by (repeat' first|exact trivial|exact rfl|refine And.intro ?_ ?_|refine ⟨_,rfl,?_⟩|exact of_decide_eq_true rfl)⟩,by (repeat' first|exact trivial|exact rfl|refine And.intro ?_ ?_)⟩
 have h12 : ¬j - i≤12:=by omega
 rw [pdq_go hO h12 (by omega) (by omega)] at hI
 refine SeqS.cut (fun ((li,xs):Int×List D)=>[(0,.own 0),(1,.d (.int .i64 ((i:Int)))),(2,.d (.int .i64 ((j:Int)))),(3,.d (.int .i64 (li))),(10,.d (.bool (wb))),(11,.d (.bool (wp))),(12,.d (.int .i64 (((j:Int) - (i:Int))))),(4,.d (.fn fid [y1,y2,y3])),(ghostAt,.own 0)]) (fun ((li,xs):Int×List D)=>[(0,some (.row 1 xs))]) 1 (fun ((li,xs):Int×List D) => ∃ (m:Nat) (u:Array τ),li=m∧xs=u.toList.map (eC vf)∧m≤1000∧u.size=d.size∧pdqC (ltC cf) u i j m wb wp=R) ?_ ?_
 ·(repeat' ((conv=>whnf);first|refine vE ?_|(refine vI ?_ ?_<;>intro hc)));all_goals try conv=>whnf
  ·refine ⟨(_,_),[(0,0)],[],?_,by (refine ⟨rfl,rfl,rfl,?_,?_⟩;repeat' first|exact trivial|exact rfl|exact .inl rfl|refine And.intro ?_ ?_|refine ⟨_,rfl,?_⟩|decide)⟩
   exact ⟨l,e,rfl,rfl,hl,he,by rw [if_pos ‹_›] at hI;exact hI⟩
  ·have hbs:=Sort.breakPatterns_holds e i j (by omega) (by omega)
   refine CallS.objs [0] (fn_brk_cmp hcf hO e (a:=i) (b:=j) rfl rfl (by omega) (by omega) (by omega)) (by (repeat' first|exact rfl|refine And.intro ?_ ?_|refine ⟨_,rfl,?_⟩)) (by (repeat' first|exact rfl|refine And.intro ?_ ?_)) (by rfl) (by rfl) (by simp) ?_
   (repeat' ((conv=>whnf);first|(refine vO ?_ ?_;·omega)|fail));all_goals try conv=>whnf
   refine ⟨(_,_),[(0,0)],[],?_,by (refine ⟨rfl,rfl,rfl,?_,?_⟩;repeat' first|exact trivial|exact rfl|exact .inl rfl|refine And.intro ?_ ?_|refine ⟨_,rfl,?_⟩|decide)⟩
   exact ⟨l - 1,_,by omega,rfl,by omega,hbs.1.trans he,by rw [if_neg (by simp [‹wb=false›])] at hI;exact hI⟩
 clear hI hl he
 rintro ⟨_,_⟩ ⟨m,u,rfl,rfl,hm,hu,hI⟩
 have hc0:=Sort.choosePivot_holds (ltC cf) u i j (by omega)
 (repeat' ((conv=>whnf);fail));all_goals try conv=>whnf
 refine CallS.objs [0] (fn_pivot_cmp hcf hO u (a:=i) (b:=j) rfl rfl (by omega) (by omega) (by omega)) (by (repeat' first|exact rfl|refine And.intro ?_ ?_|refine ⟨_,rfl,?_⟩)) (by (repeat' first|exact rfl|refine And.intro ?_ ?_)) (by rfl) (by rfl) (by simp) ?_
 rw [pdqC] at hI
 generalize Sort.choosePivot (ltC cf) u i j=c at hI hc0
 obtain ⟨p,h⟩:=c
 have hp1:i≤p:=hc0.1
 have hp2:p < j:=hc0.2
 clear hc0
 (repeat' ((conv=>whnf);fail));all_goals try conv=>whnf
 refine SeqS.cut (fun ((pe,h,xs):Int×Sort.Hint×List D)=>[(0,.own 0),(1,.d (.int .i64 ((i:Int)))),(2,.d (.int .i64 ((j:Int)))),(3,.d (.int .i64 ((m:Int)))),(10,.d (.bool (wb))),(11,.d (.bool (wp))),(12,.d (.int .i64 (((j:Int) - (i:Int))))),(13,.d (.int .i64 (pe))),(14,.d (.int .i64 ((Sort.hintCode h)))),(4,.d (.fn fid [y1,y2,y3])),(ghostAt,.own 0)]) (fun ((pe,h,xs):Int×Sort.Hint×List D)=>[(0,some (.row 1 xs))]) 1 (fun ((pe,h,xs):Int×Sort.Hint×List D) => ∃ (p:Nat) (w:Array τ),pe=p∧xs=w.toList.map (eC vf)∧i≤p∧p < j∧w.size=d.size∧pdqD (ltC cf) w i j p m wb wp h=R) ?_ ?_
 ·have hcode:(Sort.hintCode h=2)↔h = .decreasing:=by cases h<;>simp [Sort.hintCode]
  (repeat' ((conv=>whnf);(refine vF ?_ ?_<;>intro hc<;>try simp only [vL] at hc)));all_goals try conv=>whnf
  ·have hd:=hcode.1 hc
   rw [if_pos hd] at hI
   have hrs:=(Sort.reverseRange_holds u i j (by omega) (by omega)).1.trans hu
   refine CallS.objs [0] (fn_rev_cmp hcf hO u (a:=i) (b:=j) rfl rfl (by omega) (by omega) (by omega)) (by (repeat' first|exact rfl|refine And.intro ?_ ?_|refine ⟨_,rfl,?_⟩)) (by (repeat' first|exact rfl|refine And.intro ?_ ?_)) (by rfl) (by rfl) (by simp) ?_
   (repeat' ((conv=>whnf);first|(refine vO ?_ ?_;·omega)|fail));all_goals try conv=>whnf
   refine ⟨(_,Sort.Hint.increasing,_),[(0,0)],[],?_,by (refine ⟨rfl,rfl,rfl,?_,?_⟩;repeat' first|exact trivial|exact rfl|exact .inl rfl|refine And.intro ?_ ?_|refine ⟨_,rfl,?_⟩|decide)⟩
   exact ⟨j - 1 - (p - i),_,by omega,rfl,by omega,by omega,hrs,hI⟩
  ·have hd:=mt hcode.2 hc
   rw [if_neg hd] at hI
   refine ⟨(_,h,_),[(0,0)],[],?_,by (refine ⟨rfl,rfl,rfl,?_,?_⟩;repeat' first|exact trivial|exact rfl|exact .inl rfl|refine And.intro ?_ ?_|refine ⟨_,rfl,?_⟩|decide)⟩
   exact ⟨p,u,rfl,rfl,hp1,hp2,hu,hI⟩
 clear hp1 hp2
 clear hI hu
 rintro ⟨_,h,_⟩ ⟨p,w,rfl,rfl,hp1,hp2,hw,hI⟩
 have hcode:(Sort.hintCode h=1)↔h = .increasing:=by cases h<;>simp [Sort.hintCode]
 rw [pdqD] at hI
 (repeat' ((conv=>whnf);fail));all_goals try conv=>whnf
 refine SeqS.cut (fun (xs:List D)=>[(0,.own 0),(1,.d (.int .i64 ((i:Int)))),(2,.d (.int .i64 ((j:Int)))),(3,.d (.int .i64 ((m:Int)))),(10,.d (.bool (wb))),(11,.d (.bool (wp))),(12,.d (.int .i64 (((j:Int) - (i:Int))))),(13,.d (.int .i64 ((p:Int)))),(4,.d (.fn fid [y1,y2,y3])),(ghostAt,.own 0)]) (fun (xs:List D)=>[(0,some (.row 1 xs))]) 1 (fun (xs:List D) => ∃ v:Array τ,xs=v.toList.map (eC vf)∧v.size=d.size∧pdqTail (ltC cf) v i j p m wb wp=R) ?_ ?_
 ·(repeat' ((conv=>whnf);fail));all_goals try conv=>whnf
  refine SeqS.cut (fun (t:Bool)=>[(0,.own 0),(1,.d (.int .i64 ((i:Int)))),(2,.d (.int .i64 ((j:Int)))),(3,.d (.int .i64 ((m:Int)))),(10,.d (.bool (wb))),(11,.d (.bool (wp))),(12,.d (.int .i64 (((j:Int) - (i:Int))))),(13,.d (.int .i64 ((p:Int)))),(75,.d (.bool (t))),(4,.d (.fn fid [y1,y2,y3])),(ghostAt,.own 0)]) (fun (t:Bool)=>[(0,some (rowC vf w))]) 1 (fun (t:Bool)=>t=true↔(wb=true∧wp=true∧h = .increasing)) ?_ ?_
  ·(repeat' ((conv=>whnf);(refine vI ?_ ?_<;>intro hc)));all_goals try conv=>whnf
   ·refine ⟨decide (Sort.hintCode h=1),[(0,0)],[],?_,by (refine ⟨rfl,rfl,rfl,?_,?_⟩;repeat' first|exact trivial|exact rfl|exact .inl rfl|refine And.intro ?_ ?_|refine ⟨_,rfl,?_⟩|decide)⟩
    rw [decide_eq_true_iff,hcode];simp [*]
   ·refine ⟨false,[(0,0)],[],?_,by (refine ⟨rfl,rfl,rfl,?_,?_⟩;repeat' first|exact trivial|exact rfl|exact .inl rfl|exact .inr (.inr ⟨rfl,rfl⟩)|refine And.intro ?_ ?_|refine ⟨_,rfl,?_⟩|decide)⟩
    simp [*]
   ·refine ⟨false,[(0,0)],[],?_,by (refine ⟨rfl,rfl,rfl,?_,?_⟩;repeat' first|exact trivial|exact rfl|exact .inl rfl|exact .inr (.inr ⟨rfl,rfl⟩)|refine And.intro ?_ ?_|refine ⟨_,rfl,?_⟩|decide)⟩
    simp [*]
  rintro t ht
  (repeat' ((conv=>whnf);(refine vI ?_ ?_<;>intro hc)));all_goals try conv=>whnf
  ·rw [if_pos (ht.1 ‹_›)] at hI
   have hps:=pins_size (lt:=(ltC cf)) (d:=w) (a:=i) (b:=j)
   refine CallS.objs [0] (fn_part_cmp hcf hO w (a:=i) (b:=j) rfl rfl (by omega) (by omega) (by omega)) (by (repeat' first|exact rfl|refine And.intro ?_ ?_|refine ⟨_,rfl,?_⟩)) (by (repeat' first|exact rfl|refine And.intro ?_ ?_)) (by rfl) (by rfl) (by simp) ?_
   generalize Sort.partialInsertionSort (ltC cf) w i j=r at hI hps
   obtain ⟨v,fin⟩:=r
   have hv:v.size=d.size:=hps.trans hw
   (repeat' ((conv=>whnf);(refine vI ?_ ?_<;>intro hc<;>try simp only [vL] at hc)));all_goals try conv=>whnf
   ·rw [if_pos ‹_›] at hI
    have hI:v=R:=hI
    subst hI
    refine ⟨trivial,_,[(0,0)],[],rfl,.inl (by (repeat' first|exact rfl|refine ⟨_,rfl,?_⟩)),⟨by rfl,by rfl,by rfl,trivial,by (repeat' first|exact trivial|exact rfl|refine And.intro ?_ ?_|refine ⟨_,rfl,?_⟩|exact of_decide_eq_true rfl)⟩,by (repeat' first|exact trivial|exact rfl|refine And.intro ?_ ?_)⟩
   ·rw [if_neg (by simp [‹fin=false›])] at hI
    refine ⟨_,[(0,0)],[],?_,by (refine ⟨rfl,rfl,rfl,?_,?_⟩;repeat' first|exact trivial|exact rfl|exact .inl rfl|refine And.intro ?_ ?_|refine ⟨_,rfl,?_⟩|decide)⟩
    exact ⟨v,rfl,hv,hI⟩
  ·rw [if_neg (fun h=>by have:=ht.2 h;simp_all)] at hI
   refine ⟨_,[(0,0)],[],?_,by (refine ⟨rfl,rfl,rfl,?_,?_⟩;repeat' first|exact trivial|exact rfl|exact .inl rfl|refine And.intro ?_ ?_|refine ⟨_,rfl,?_⟩|decide)⟩
   exact ⟨w,rfl,hw,hI⟩
 clear hI hw
 rintro _ ⟨v,rfl,hv,hI⟩
 have hvl:v.toList.length=d.size:=by rw [Array.length_toList];exact hv
 rw [pdqTail] at hI
 (repeat' ((conv=>whnf);refine SeqS.but 100097 rfl ?_));all_goals try conv=>whnf
 refine SeqS.cut (fun (t:Bool)=>[(0,.own 0),(1,.d (.int .i64 ((i:Int)))),(2,.d (.int .i64 ((j:Int)))),(3,.d (.int .i64 ((m:Int)))),(10,.d (.bool (wb))),(11,.d (.bool (wp))),(12,.d (.int .i64 (((j:Int) - (i:Int))))),(13,.d (.int .i64 ((p:Int)))),(97,.d (.bool (t))),(4,.d (.fn fid [y1,y2,y3])),(ghostAt,.own 0)]) (fun (t:Bool)=>[(0,some (rowC vf v))]) 1 (fun (t:Bool)=>t=true↔(i > 0∧(ltC cf) v[i - 1]! v[p]! = false)) ?_ ?_
 ·(repeat' ((conv=>whnf);first|(refine vF ?_ ?_<;>intro hc<;>try simp only [vL] at hc)|(refine vQ ?_ fun x hx=>?_;·omega)|((first|refine vO ?_ ?_|refine vP ?_ ?_);·first|omega|(simp only [vM] at *;omega))|(refine vU ?_ ?_;·kernel_rfl)|refine yD (hcf _ _) (by (repeat refine ⟨⟨rfl,rfl⟩,?_⟩);rfl) rfl ?_));all_goals try conv=>whnf
  ·have g1:=arr_at (i - 1) ‹v.toList[((i:Int) - 1).toNat]? = some _› (by omega)
   have g2:=arr_at p ‹v.toList[(p:Int).toNat]? = some _› (by omega)
   refine ⟨_,[(0,0)],[],?_,by (refine ⟨rfl,rfl,rfl,?_,?_⟩;repeat' first|exact trivial|exact rfl|exact .inl rfl|refine And.intro ?_ ?_|refine ⟨_,rfl,?_⟩|decide)⟩
   rw [lt_at (lt:=(ltC cf)) g1 g2]
   have:i > 0:=by omega
   simp [this,ltC]
  ·refine ⟨false,[(0,0)],[],?_,by (refine ⟨rfl,rfl,rfl,?_,?_⟩;repeat' first|exact trivial|exact rfl|exact .inl rfl|exact .inr (.inr ⟨rfl,rfl⟩)|refine And.intro ?_ ?_|refine ⟨_,rfl,?_⟩|decide)⟩
   simp;omega
 rintro t ht
 (repeat' ((conv=>whnf);(refine vI ?_ ?_<;>intro hc)));all_goals try conv=>whnf
 ·rw [if_pos (ht.1 ‹_›)] at hI
  have hq1:=pareq_range (lt:=(ltC cf)) (d:=v) (a:=i) (b:=j) (p:=p) (by omega) (by omega)
  refine CallS.objs [0] (fn_pareq_cmp hcf hO v (a:=i) (b:=j) (p:=p) rfl rfl rfl (by omega) (by omega) (by omega) (by omega)) (by (repeat' first|exact rfl|refine And.intro ?_ ?_|refine ⟨_,rfl,?_⟩)) (by (repeat' first|exact rfl|refine And.intro ?_ ?_)) (by rfl) (by rfl) (by simp) ?_
  (repeat' ((conv=>whnf);fail));all_goals try conv=>whnf
  refine ⟨(_,_,_,_,_,_),[(0,0)],[],?_,?_,by (refine ⟨rfl,rfl,rfl,?_,?_⟩;repeat' first|exact trivial|exact rfl|exact .inl rfl|refine And.intro ?_ ?_|refine ⟨_,rfl,?_⟩|decide)⟩
  ·exact ⟨(Sort.partitionEqual (ltC cf) v i j p).1,j,m,(Sort.partitionEqual (ltC cf) v i j p).2,rfl,rfl,rfl,rfl,by omega,by omega,by omega,by omega,by omega,hI⟩
  ·((simp only [vM] at *;omega))
 ·rw [if_neg (fun h=>by have:=ht.2 h;simp_all)] at hI
  have hq1:=Sort.partition_holds (ltC cf) hO v i j p (by omega) (by omega) (by omega)
  refine CallS.objs [0] (fn_par_cmp hcf hO v (a:=i) (b:=j) (p:=p) rfl rfl rfl (by omega) (by omega) (by omega) (by omega)) (by (repeat' first|exact rfl|refine And.intro ?_ ?_|refine ⟨_,rfl,?_⟩)) (by (repeat' first|exact rfl|refine And.intro ?_ ?_)) (by rfl) (by rfl) (by simp) ?_
  generalize Sort.partition (ltC cf) v i j p=r at hq1 hI
  obtain ⟨mid,ap,d4⟩:=r
  obtain ⟨q1,q2,q3,-⟩:=hq1
  have q1:i≤mid:=q1
  have q2:mid < j:=q2
  have q3:d4.size=d.size:=q3.1.trans hv
  (repeat' ((conv=>whnf);first|(refine vF ?_ ?_<;>intro hc<;>try simp only [vL] at hc)|((first|refine vO ?_ ?_|refine vP ?_ ?_);·omega)|fail));all_goals try conv=>whnf
  ·rw [if_pos (by omega)] at hI
   have hsz:=pdq_size hO (mid - i) d4 i mid m true true (Nat.le_refl _) q1 (by omega)
   refine CallS.objs [0] (ih (mid - i) (by omega) d4 (a:=i) (b:=mid) (l:=m) (ai:=(i:Int)) (bi:=(mid:Int)) (li:=(m:Int)) rfl rfl rfl (Nat.le_refl _) (by omega) (by omega) (by omega) (by omega)) (by (repeat' first|exact rfl|refine And.intro ?_ ?_|refine ⟨_,rfl,?_⟩)) (by (repeat' first|exact rfl|refine And.intro ?_ ?_)) (by rfl) (by rfl) (by simp) ?_
   (repeat' ((conv=>whnf);first|(refine vO ?_ ?_;·omega)|fail));all_goals try conv=>whnf
   refine ⟨(_,_,_,_,_,_),[(0,0)],[],?_,?_,by (refine ⟨rfl,rfl,rfl,?_,?_⟩;repeat' first|exact trivial|exact rfl|exact .inl rfl|refine And.intro ?_ ?_|refine ⟨_,rfl,?_⟩|decide)⟩
   ·exact ⟨mid+1,j,m,_,by omega,rfl,rfl,rfl,by omega,by omega,by omega,by omega,by omega,(congrArg (fun z=>Sort.pdq (ltC cf) (Sort.pdq (ltC cf) d4 i mid m true true) (mid+1) j m z ap) (decide_eq_decide.2 (by omega))).trans hI⟩
   ·((simp only [vM] at *;omega))
  ·rw [if_neg (by omega)] at hI
   have hsz:=pdq_size hO (j - (mid+1)) d4 (mid+1) j m true true (Nat.le_refl _) (by omega) (by omega)
   refine CallS.objs [0] (ih (j - (mid+1)) (by omega) d4 (a:=mid+1) (b:=j) (l:=m) (ai:=(mid:Int)+1) (bi:=(j:Int)) (li:=(m:Int)) (by omega) rfl rfl (Nat.le_refl _) (by omega) (by omega) (by omega) (by omega)) (by (repeat' first|exact rfl|refine And.intro ?_ ?_|refine ⟨_,rfl,?_⟩)) (by (repeat' first|exact rfl|refine And.intro ?_ ?_)) (by rfl) (by rfl) (by simp) ?_
   (repeat' ((conv=>whnf);fail));all_goals try conv=>whnf
   refine ⟨(_,_,_,_,_,_),[(0,0)],[],?_,?_,by (refine ⟨rfl,rfl,rfl,?_,?_⟩;repeat' first|exact trivial|exact rfl|exact .inl rfl|refine And.intro ?_ ?_|refine ⟨_,rfl,?_⟩|decide)⟩
   ·exact ⟨i,mid,m,_,rfl,rfl,rfl,rfl,by omega,by omega,by omega,by omega,by omega,(congrArg (fun z=>Sort.pdq (ltC cf) (Sort.pdq (ltC cf) d4 (mid+1) j m true true) i mid m z ap) (decide_eq_decide.2 (by omega))).trans hI⟩
   ·((simp only [vM] at *;omega))
end Go.Ab
namespace Go.Ab
open Go Go.Proofs
set_option linter.unusedSimpArgs false
set_option linter.unusedVariables false
set_option maxRecDepth 10000
set_option maxHeartbeats 4000000
section
variable {α:Type} [Inhabited α] [DecidableEq α]
def ddA (d:Array α):Nat→List α
 | 0=>[]
 | n+1=>if 0 < n∧d[n]! = d[n - 1]! then ddA d n else ddA d n++[d[n]!]
def Steps (d:Array α):Prop := ∀ j,0 < j→j < d.size→d[j]! ≠ d[j - 1]!
theorem take_next {d:Array α} {n:Nat} (h:n < d.size):d.toList.take (n+1)=d.toList.take n++[d[n]!]:=by
 rw [List.take_add_one,arr_get h];rfl
theorem dd_take {d:Array α} : ∀ {n:Nat},n≤d.size→(∀ j,0 < j→j < n→d[j]! ≠ d[j - 1]!)→ddA d n=d.toList.take n
 | 0,_,_=>rfl
 | n+1,h,hs=>by
  rw [ddA,if_neg (fun hh=>hs n hh.1 (by omega) hh.2),dd_take (by omega) (fun j h0 h1=>hs j h0 (by omega)),take_next (by omega)]
theorem dd_start {d:Array α} {k:Nat} (h0:0 < k) (h1:k < d.size) (hk : ∀ j,0 < j→j < k→d[j]! ≠ d[j - 1]!) (he:d[k]! = d[k - 1]!):d.toList.take k=ddA d (k+1):=by
 rw [ddA,if_pos ⟨h0,he⟩,dd_take (by omega) hk]
theorem set_take {e:Array α} {a:Nat} {x:α} (h:a < e.size):(e.setIfInBounds a x).toList.take (a+1)=e.toList.take a++[x]:=by
 have hl:a < e.toList.length:=by simpa using h
 rw [Array.toList_setIfInBounds,List.take_add_one,List.getElem?_set_self hl,List.take_set_of_le (Nat.le_refl a)];rfl
theorem set_get {e:Array α} {a j:Nat} {x:α} (h:a≠j):(e.setIfInBounds a x)[j]! = e[j]! := by
 simp [getElem!_def,Array.getElem?_setIfInBounds_ne h]
theorem dd_keep {d:Array α} {n:Nat} (h:0 < n) (he:d[n]! = d[n - 1]!):ddA d (n+1)=ddA d n:=by rw [ddA,if_pos ⟨h,he⟩]
theorem dd_add {d:Array α} {n:Nat} (he:d[n]! ≠ d[n - 1]!):ddA d (n+1)=ddA d n++[d[n]!]:=by rw [ddA,if_neg (fun h=>he h.2)]
theorem cut_row {enc:α→D} {e:Array α} {z:D} {a n:Nat} (h:a≤e.size):((List.take a (e.toList.map enc))++(List.replicate n z++List.drop (a+n) (e.toList.map enc))).take a=(e.toList.take a).map enc:=by
 rw [List.take_append_of_le_length (by simp;omega),List.take_take,Nat.min_self,List.map_take]
end
end Go.Ab
namespace Go.Ab
open Go Go.Proofs
set_option linter.unusedSimpArgs false
set_option linter.unusedVariables false
set_option maxRecDepth 10000
set_option maxHeartbeats 4000000
variable {T:Nat→Obj→Prop}
variable {τ:Type} [Inhabited τ] {vf:τ→Int} {cf:τ→τ→Int} {fid:Nat} {y1 y2 y3:D} (hcf : ∀ x y:τ,Fn Tryz.prog T fid [.d (.int .i64 (vf x)),.d (.int .i64 (vf y)),.d y1,.d y2,.d y3] [] (.d (.int .i64 (cf x y))) []) (hO:Sort.SWO (ltC cf))
include hcf hO
set_option maxHeartbeats 1000000 in
theorem fn_Sort_cmp (d:Array τ) (hs:d.size≤536870912):Fn Tryz.prog T f_slices_SortFunc_Lint_int_ [.own 0,.d (.fn fid [y1,y2,y3])] [rowC vf d] (.tup []) [some (rowC vf (Sort.sort (ltC cf) d))]:=by
 have hn:((BitVec.ofInt 64 (d.size:Int)).toNat)=d.size:=by simp;omega
 have hl:Sort.bitsLen d.size≤30:=(Sort.bitsLen_le_iff d.size 30).2 (Nat.lt_of_le_of_lt hs (by decide))
 refine fn_introR hmix k_slices_SortFunc_Lint_int_ (by show 2≤14;decide) _ (fun e env mem n h=>h) ?_
 (repeat' ((conv=>whnf);first|refine vJ fun hg=>?_|refine yD (fn_Len _) ⟨⟨rfl,rfl⟩,rfl⟩ rfl ?_));all_goals try conv=>whnf
 refine CallS.objs [0] (fn_pdq_cmp hcf hO d.size d (a:=0) (b:=d.size) (l:=Sort.bitsLen d.size) (ai:=0) (bi:=((d.toList.map (eC vf)).length:Int)) (li:=((Sort.bitsLen (BitVec.ofInt 64 ((d.toList.map (eC vf)).length:Int)).toNat:Nat):Int)) rfl (by simp) (by rw [List.length_map,Array.length_toList,hn]) (by omega) (by omega) (by omega) hs (by omega)) (by (repeat' first|exact rfl|refine And.intro ?_ ?_|refine ⟨_,rfl,?_⟩)) (by (repeat' first|exact rfl|refine And.intro ?_ ?_)) (by rfl) (by rfl) (by simp) ?_
 (repeat' ((conv=>whnf);fail));all_goals try conv=>whnf
 refine ⟨trivial,_,[(0,0)],[],rfl,.inl (by (repeat' first|exact rfl|refine ⟨_,rfl,?_⟩)),⟨by rfl,by rfl,by rfl,trivial,by (repeat' first|exact trivial|exact rfl|refine And.intro ?_ ?_|refine ⟨_,rfl,?_⟩|exact of_decide_eq_true rfl)⟩,by (repeat' first|exact trivial|exact rfl|refine And.intro ?_ ?_)⟩
end Go.Ab
namespace Go.Ab
set_option linter.unusedVariables false
def dense (W B:Nat) (cl kN:Nat→Int) (w:Nat):Nat:=((List.range B).filter fun (r:Nat)=>(List.range W).any fun v=>decide (cl v=cl w∧kN v=r∧(r:Int) < kN w)).length
theorem filter_one {l:List Nat} (hn:l.Nodup) {k:Nat} (hk:k∈l) (p q:Nat→Bool) (hp:p k=false) (hq:q k=true) (h : ∀ r∈l,r≠k→q r=p r):(l.filter q).length=(l.filter p).length+1:=by
 induction l with
 | nil=>cases hk
 | cons x l ih =>
  rw [List.nodup_cons] at hn
  by_cases e:x=k
  ·subst e
   have:l.filter q=l.filter p:=List.filter_congr fun r hr=>h r (List.mem_cons_of_mem _ hr) fun e=>hn.1 (e▸hr)
   simp [hp,hq,this]
  ·have hk':k∈l:=(List.mem_cons.1 hk).resolve_left fun e'=>e e'.symm
   have:=ih hn.2 hk' fun r hr=>h r (List.mem_cons_of_mem _ hr)
   have hx:=h x (List.mem_cons_self ..) e
   simp only [List.filter_cons,hx]
   split<;>simp [this]
def ltK (cl kN:Nat→Int) (x y:Nat):Prop:=cl x < cl y∨cl x=cl y∧kN x < kN y
structure Ordered (W:Nat) (cl kN:Nat→Int) (ws:List Nat):Prop where
 len:ws.length=W
 all : ∀ v,v < W → ∃ j:Nat,ws[j]? = some v
 lt : ∀ (j v:Nat),ws[j]? = some v→v < W
 inj : ∀ (i j v:Nat),ws[i]? = some v→ws[j]? = some v→i=j
 srt : ∀ (i j x y:Nat),i < j→ws[i]? = some x→ws[j]? = some y → ¬ltK cl kN y x
section
variable {W B:Nat} {cl kN:Nat→Int} {ws:List Nat} (h:Ordered W cl kN ws)
include h
theorem Ordered.first {y:Nat} (hy:ws[0]? = some y):dense W B cl kN y=0:=by
 refine List.length_eq_zero_iff.2 (List.filter_eq_nil_iff.2 fun r _ hr=>?_)
 obtain ⟨v,hv,e⟩:=List.any_eq_true.1 hr
 obtain ⟨e1,e2,e3⟩:=of_decide_eq_true e
 obtain ⟨j,hj⟩:=h.all v (List.mem_range.1 hv)
 by_cases hj0:j=0
 ·subst hj0;rw [hy] at hj;cases hj;omega
 ·exact h.srt 0 j y v (by omega) hy hj (.inr ⟨e1,by omega⟩)
theorem Ordered.back {i x y v:Nat} (hx:ws[i]? = some x) (hy:ws[i+1]? = some y) (hv:v < W) (h1:cl v=cl y) (h2:kN v < kN y):cl x=cl y∧kN v≤kN x:=by
 obtain ⟨j,hj⟩:=h.all v hv
 have hji:j≤i:=by
  refine Classical.byContradiction fun hn=>?_
  by_cases e:j=i+1
  ·subst e;rw [hy] at hj;cases hj;omega
  ·exact h.srt (i+1) j y v (by omega) hy hj (.inr ⟨h1,h2⟩)
 have hyx : ¬ltK cl kN y x:=h.srt i (i+1) x y (by omega) hx hy
 have hxv : ¬ltK cl kN x v:=by
  by_cases e:j=i
  ·subst e;rw [hx] at hj;cases hj;unfold ltK;omega
  ·exact h.srt j i v x (by omega) hj hx
 unfold ltK at hyx hxv
 omega
theorem Ordered.other {i x y:Nat} (hx:ws[i]? = some x) (hy:ws[i+1]? = some y) (hc:cl x≠cl y):dense W B cl kN y=0:=by
 refine List.length_eq_zero_iff.2 (List.filter_eq_nil_iff.2 fun r _ hr=>?_)
 obtain ⟨v,hv,e⟩:=List.any_eq_true.1 hr
 obtain ⟨e1,e2,e3⟩:=of_decide_eq_true e
 exact hc (h.back hx hy (List.mem_range.1 hv) e1 (by omega)).1
theorem Ordered.same {x y:Nat} (hc:cl x=cl y) (hk:kN x=kN y):dense W B cl kN y=dense W B cl kN x:=by
 unfold dense;rw [hc,hk]
theorem Ordered.next {i x y:Nat} (hx:ws[i]? = some x) (hy:ws[i+1]? = some y) (hc:cl x=cl y) (hk:kN x≠kN y) (h0:0≤kN x) (hB:kN x < B):dense W B cl kN y=dense W B cl kN x+1:=by
 have hyx : ¬ltK cl kN y x:=h.srt i (i+1) x y (by omega) hx hy
 have hlt:kN x < kN y:=by unfold ltK at hyx;omega
 refine filter_one List.nodup_range (k:=(kN x).toNat) (List.mem_range.2 (by omega)) _ _ ?_ ?_ ?_
 ·refine List.any_eq_false.2 fun v hv=>?_
  rw [decide_eq_true_eq];omega
 ·exact List.any_eq_true.2 ⟨x,List.mem_range.2 (h.lt i x hx),decide_eq_true ⟨hc,by omega,by omega⟩⟩
 ·intro r hr hne
  refine Bool.eq_iff_iff.2 ?_
  rw [List.any_eq_true,List.any_eq_true]
  constructor
  ·rintro ⟨v,hv,e⟩
   obtain ⟨e1,e2,e3⟩:=of_decide_eq_true e
   have:=(h.back hx hy (List.mem_range.1 hv) e1 (by omega)).2
   exact ⟨v,hv,decide_eq_true ⟨by omega,e2,by omega⟩⟩
  ·rintro ⟨v,hv,e⟩
   obtain ⟨e1,e2,e3⟩:=of_decide_eq_true e
   exact ⟨v,hv,decide_eq_true ⟨by omega,e2,by omega⟩⟩
end
end Go.Ab
namespace Go.Ab
set_option linter.unusedVariables false
theorem filter_lt {k:Nat} (p q:Nat→Bool) (hp:p k=false) (hq:q k=true) : ∀ {l:List Nat},(∀ r,p r=true→q r=true)→k∈l→(l.filter p).length < (l.filter q).length
 | [],_,h=>by cases h
 | x::l,hpq,h=>by
  have mono : ∀ l:List Nat,(l.filter p).length≤(l.filter q).length:=by
   intro l
   induction l with
   | nil=>simp
   | cons y l ih =>
    simp only [List.filter_cons]
    cases hy:p y
    ·cases q y<;>simp<;>omega
    ·rw [hpq y hy];simpa using ih
  by_cases e:x=k
  ·subst e
   have:=mono l
   simp [hp,hq];omega
  ·have ih:=filter_lt p q hp hq hpq ((List.mem_cons.1 h).resolve_left fun e'=>e e'.symm)
   simp only [List.filter_cons]
   cases hx:p x
   ·cases q x<;>simp<;>omega
   ·rw [hpq x hx];simpa using ih
theorem max_ex {K:Nat→Prop} {f:Nat→Int} : ∀ W,(∃ u,u < W∧K u) → ∃ u,u < W∧K u ∧ ∀ v,v < W→K v→f v≤f u
 | 0,⟨u,h,_⟩=>by omega
 | W+1,⟨u,h,hk⟩=>by
  by_cases hW : ∃ u,u < W∧K u
  ·obtain ⟨m,h1,h2,h3⟩:=max_ex (f:=f) W hW
   by_cases hl:K W∧f m < f W
   ·refine ⟨W,by omega,hl.1,fun v hv hkv=>?_⟩
    by_cases e:v=W
    ·subst e;exact Int.le_refl _
    ·have:=h3 v (by omega) hkv;omega
   ·refine ⟨m,by omega,h2,fun v hv hkv=>?_⟩
    by_cases e:v=W
    ·subst e
     refine Classical.byContradiction fun hn=>hl ⟨hkv,by omega⟩
    ·exact h3 v (by omega) hkv
  ·have e:u=W:=Classical.byContradiction fun hn=>hW ⟨u,by omega,hk⟩
   subst e
   refine ⟨u,by omega,hk,fun v hv hkv=>?_⟩
   have e:v=u:=Classical.byContradiction fun hn=>hW ⟨v,by omega,hkv⟩
   subst e;exact Int.le_refl _
section
variable {W B:Nat} {cl kN:Nat→Int}
theorem dense_mono {w v:Nat} (hc:cl w=cl v) (hk:kN w < kN v) (hw:w < W) (h0:0≤kN w) (hB:kN w < B):dense W B cl kN w < dense W B cl kN v:=by
 refine filter_lt (k:=(kN w).toNat) _ _ ?_ ?_ ?_ (List.mem_range.2 (by omega))
 ·refine List.any_eq_false.2 fun x hx=>?_
  rw [decide_eq_true_eq];omega
 ·exact List.any_eq_true.2 ⟨w,List.mem_range.2 hw,decide_eq_true ⟨hc,by omega,by omega⟩⟩
 ·intro r hr
  obtain ⟨x,hx,e⟩:=List.any_eq_true.1 hr
  obtain ⟨e1,e2,e3⟩:=of_decide_eq_true e
  exact List.any_eq_true.2 ⟨x,hx,decide_eq_true ⟨by omega,e2,by omega⟩⟩
theorem dense_eq {w v:Nat} (hc:cl w=cl v) (hk:kN w=kN v):dense W B cl kN w=dense W B cl kN v:=by
 unfold dense;rw [hc,hk]
theorem dense_le {w v:Nat} (hc:cl w=cl v) (hw:w < W) (hv:v < W) (hB : ∀ v,v < W→0≤kN v∧kN v < B):dense W B cl kN w≤dense W B cl kN v↔kN w≤kN v:=by
 rcases Int.lt_trichotomy (kN w) (kN v) with h|h|h
 ·have:=dense_mono (B:=B) hc h hw (hB w hw).1 (hB w hw).2;omega
 ·have:=dense_eq (W:=W) (B:=B) hc h;omega
 ·have:=dense_mono (B:=B) hc.symm h hv (hB v hv).1 (hB v hv).2;omega
theorem dense_pred {w:Nat} (hw:w < W) (h:dense W B cl kN w≠0) (hB : ∀ v,v < W→0≤kN v∧kN v < B) : ∃ v,v < W∧cl v=cl w∧dense W B cl kN v+1=dense W B cl kN w:=by
 have hex : ∃ u,u < W∧(cl u=cl w∧kN u < kN w):=by
  refine Classical.byContradiction fun hn=>h (List.length_eq_zero_iff.2 (List.filter_eq_nil_iff.2 fun r _ hr=>hn ?_))
  obtain ⟨x,hx,e⟩:=List.any_eq_true.1 hr
  obtain ⟨e1,e2,e3⟩:=of_decide_eq_true e
  exact ⟨x,List.mem_range.1 hx,e1,by omega⟩
 obtain ⟨u,h1,⟨h2,h3⟩,h4⟩:=max_ex (f:=kN) W hex
 refine ⟨u,h1,h2,(filter_one List.nodup_range (k:=(kN u).toNat) (List.mem_range.2 (by have:=hB u h1;omega)) _ _ ?_ ?_ ?_).symm⟩
 ·refine List.any_eq_false.2 fun x hx=>?_
  have:=hB u h1
  rw [decide_eq_true_eq];omega
 ·have:=hB u h1
  exact List.any_eq_true.2 ⟨u,List.mem_range.2 h1,decide_eq_true ⟨h2,by omega,by omega⟩⟩
 ·intro r hr hne
  refine Bool.eq_iff_iff.2 ?_
  rw [List.any_eq_true,List.any_eq_true]
  constructor
  ·rintro ⟨v,hv,e⟩
   obtain ⟨e1,e2,e3⟩:=of_decide_eq_true e
   have:=h4 v (List.mem_range.1 hv) ⟨e1,by omega⟩
   exact ⟨v,hv,decide_eq_true ⟨by omega,e2,by omega⟩⟩
  ·rintro ⟨v,hv,e⟩
   obtain ⟨e1,e2,e3⟩:=of_decide_eq_true e
   exact ⟨v,hv,decide_eq_true ⟨by omega,e2,by omega⟩⟩
theorem dense_bound {w:Nat} : dense W B cl kN w≤B:=by
 refine Nat.le_trans (List.length_filter_le _ _) ?_
 simp
end
end Go.Ab
namespace Go.Ab
open Go Go.Proofs
set_option linter.unusedVariables false
set_option linter.unusedSimpArgs false
theorem least_ex {K:Nat→Prop} {R:Nat→Int} (h0 : ∀ i,K i→0≤R i) : ∀ (n:Nat) (i:Nat),K i→(R i).toNat≤n → ∃ j,K j ∧ ∀ u,K u→R j≤R u:=by
 intro n
 induction n with
 | zero=>intro i hi hn;exact ⟨i,hi,fun u hu=>by have:=h0 i hi;have:=h0 u hu;omega⟩
 | succ n ih =>
  intro i hi hn
  by_cases h : ∃ u,K u∧R u < R i
  ·obtain ⟨u,h1,h2⟩:=h
   exact ih u h1 (by have:=h0 u h1;have:=h0 i hi;omega)
  ·exact ⟨i,hi,fun u hu=>by
    apply Classical.byContradiction
    intro hn
    exact h ⟨u,hu,by omega⟩⟩
section
variable {p:PM} {a w:Int} (hat:At p a w)
include hat
theorem cellL_bit {i:Nat} : (cellL p a w).getLsbD i=true↔i < p.W.toNat∧at0 (rowAt p.cell a.toNat) i=at0 (rowAt p.cell a.toNat) w.toNat:=by
 obtain ⟨-,-,h1,-,h3,-⟩:=hat.rows
 rw [cellL,if_pos hat,cellSet,setTo_bit]
 simp only [Bool.and_eq_true,decide_eq_true_eq,beq_iff_eq]
 constructor
 ·rintro ⟨⟨-,h4⟩,h5⟩;exact ⟨by omega,h5⟩
 ·rintro ⟨h4,h5⟩;exact ⟨⟨by omega,by omega⟩,h5⟩
theorem bestL_bit {s:BitVec 64} {i:Nat} : (bestL p a w s).getLsbD i=true↔(s.getLsbD i=true∧(cellL p a w).getLsbD i=true) ∧ ∀ u,s.getLsbD u=true→(cellL p a w).getLsbD u=true→at0 (rowAt p.rank a.toNat) i≤at0 (rowAt p.rank a.toNat) u:=by
 obtain ⟨-,-,h1,h2,h3,-⟩:=hat.rows
 have hc : ∀ i,(cellSet (rowAt p.cell a.toNat) w.toNat).getLsbD i=(cellL p a w).getLsbD i:=fun i=>by rw [cellL,if_pos hat]
 rw [bestL,if_pos hat,bestSet,best_bit]
 simp only [BitVec.getLsbD_and,Bool.and_eq_true,hc]
 constructor
 ·rintro ⟨h4,h5,h6⟩
  exact ⟨h5,fun u hu hu'=>h6 u (by have:=(cellL_bit hat).1 hu';omega) ⟨hu,hu'⟩⟩
 ·rintro ⟨h4,h5⟩
  exact ⟨by have:=(cellL_bit hat).1 h4.2;omega,h4,fun u _ hu=>h5 u hu.1 hu.2⟩
theorem rank_nonneg {i:Nat} (h:(cellL p a w).getLsbD i=true):0≤at0 (rowAt p.rank a.toNat) i:=by
 obtain ⟨-,-,h1,h2,h3,-⟩:=hat.rows
 have hg:=checkL_good hat.ok
 have h4:=(cellL_bit hat).1 h
 have ha:=hat.a0
 have ha':=hat.a1
 exact ((hg.ranked a.toNat (by omega)) i (by omega)).1
end
end Go.Ab
namespace Go.Ab
open Go Go.Proofs
set_option linter.unusedSimpArgs false
set_option linter.unusedVariables false
set_option maxRecDepth 10000
set_option maxHeartbeats 4000000
variable {T:Nat→Obj→Prop}
abbrev bI (x:Int):D := .box [.int .i64 x]
abbrev bU (x:BitVec 64):D := .box [.u64 x]
abbrev bP (p:PM):D := .box [.int .i64 p.W,dU p.val,dII p.cell,dII p.rank]
theorem fn_where2 (p:PM) (hW:p.W≤64) (g:Nat) (x0 x1:D) (c:Nat→Bool) (hcl : ∀ w:Nat,w < p.W.toNat→Fn Tryz.prog T g [.d (.int .i64 (w:Int)),.d x0,.d x1] [] (.d (.bool (c w))) []) :
  Fn Tryz.prog T f_doxastic_where [.d (dPM p),.d (.fn g [x0,x1])] [] (.d (.u64 (setTo c p.W.toNat))) []:=by
 refine fn_dataR hmix k_doxastic_where (by show 2≤21;decide) ?_
 (repeat' ((conv=>whnf);refine vA ?_));all_goals try conv=>whnf
 refine loop_intro (fun ((k,s):Nat×BitVec 64)=>[(1,.d (.fn g [x0,x1])),(8,.d (.int .i64 (p.W))),(5,.d (.u64 (s))),(9,.d (.int .i64 ((k:Int))))]) (fun ((k,s):Nat×BitVec 64)=>k≤p.W.toNat∧s=setTo c k) (fun ((k,s):Nat×BitVec 64)=>p.W.toNat - k) ((0,0#64)) (⟨by simp,rfl⟩) (by (repeat' first|exact trivial|exact rfl|refine And.intro ?_ ?_)) ?_
 rintro ⟨k,s⟩ ⟨hk,hI⟩
 (repeat' ((conv=>whnf);first|refine vA ?_|(refine vF ?_ ?_<;>intro hc<;>try simp only [vL] at hc)|refine vY ?_));all_goals try conv=>whnf
 ·have h1:=hcl k (by omega)
  cases hck:c k with
  | true =>
   rw [hck] at h1
   (repeat' ((conv=>whnf);first|refine vG ?_|((first|refine vO ?_ ?_|refine vP ?_ ?_);·omega)|refine yD h1 (by (repeat refine ⟨⟨rfl,rfl⟩,?_⟩);rfl) rfl ?_));all_goals try conv=>whnf
   refine ⟨(k+1,_),[],[],?_,?_,by (refine ⟨rfl,rfl,rfl,?_,?_⟩;repeat' first|exact trivial|exact rfl|refine And.intro ?_ ?_)⟩
   ·exact ⟨by (omega),by rw [setTo,if_pos hck,hI];rfl⟩
   ·((simp only [vM] at *;omega))
  | false =>
   rw [hck] at h1
   (repeat' ((conv=>whnf);first|refine vH ?_|(refine vO ?_ ?_;·omega)|refine yD h1 (by (repeat refine ⟨⟨rfl,rfl⟩,?_⟩);rfl) rfl ?_));all_goals try conv=>whnf
   exact ⟨(k+1,s),[],[],⟨by (omega),by rw [setTo,if_neg (by simp [hck]),hI]⟩,by ((simp only [vM] at *;omega)),by (refine ⟨rfl,rfl,rfl,?_,?_⟩;repeat' first|exact trivial|exact rfl|refine And.intro ?_ ?_)⟩
 ·rw [hI,show k=p.W.toNat by omega]
theorem fn_where3 (p:PM) (hW:p.W≤64) (g:Nat) (x0 x1 x2:D) (c:Nat→Bool) (hcl : ∀ w:Nat,w < p.W.toNat→Fn Tryz.prog T g [.d (.int .i64 (w:Int)),.d x0,.d x1,.d x2] [] (.d (.bool (c w))) []) :
  Fn Tryz.prog T f_doxastic_where [.d (dPM p),.d (.fn g [x0,x1,x2])] [] (.d (.u64 (setTo c p.W.toNat))) []:=by
 refine fn_dataR hmix k_doxastic_where (by show 2≤21;decide) ?_
 (repeat' ((conv=>whnf);refine vA ?_));all_goals try conv=>whnf
 refine loop_intro (fun ((k,s):Nat×BitVec 64)=>[(1,.d (.fn g [x0,x1,x2])),(8,.d (.int .i64 (p.W))),(5,.d (.u64 (s))),(9,.d (.int .i64 ((k:Int))))]) (fun ((k,s):Nat×BitVec 64)=>k≤p.W.toNat∧s=setTo c k) (fun ((k,s):Nat×BitVec 64)=>p.W.toNat - k) ((0,0#64)) (⟨by simp,rfl⟩) (by (repeat' first|exact trivial|exact rfl|refine And.intro ?_ ?_)) ?_
 rintro ⟨k,s⟩ ⟨hk,hI⟩
 (repeat' ((conv=>whnf);first|refine vA ?_|(refine vF ?_ ?_<;>intro hc<;>try simp only [vL] at hc)|refine vY ?_));all_goals try conv=>whnf
 ·have h1:=hcl k (by omega)
  cases hck:c k with
  | true =>
   rw [hck] at h1
   (repeat' ((conv=>whnf);first|refine vG ?_|((first|refine vO ?_ ?_|refine vP ?_ ?_);·omega)|refine yD h1 (by (repeat refine ⟨⟨rfl,rfl⟩,?_⟩);rfl) rfl ?_));all_goals try conv=>whnf
   refine ⟨(k+1,_),[],[],?_,?_,by (refine ⟨rfl,rfl,rfl,?_,?_⟩;repeat' first|exact trivial|exact rfl|refine And.intro ?_ ?_)⟩
   ·exact ⟨by (omega),by rw [setTo,if_pos hck,hI];rfl⟩
   ·((simp only [vM] at *;omega))
  | false =>
   rw [hck] at h1
   (repeat' ((conv=>whnf);first|refine vH ?_|(refine vO ?_ ?_;·omega)|refine yD h1 (by (repeat refine ⟨⟨rfl,rfl⟩,?_⟩);rfl) rfl ?_));all_goals try conv=>whnf
   exact ⟨(k+1,s),[],[],⟨by (omega),by rw [setTo,if_neg (by simp [hck]),hI]⟩,by ((simp only [vM] at *;omega)),by (refine ⟨rfl,rfl,rfl,?_,?_⟩;repeat' first|exact trivial|exact rfl|refine And.intro ?_ ?_)⟩
 ·rw [hI,show k=p.W.toNat by omega]
theorem fn_where4 (p:PM) (hW:p.W≤64) (g:Nat) (x0 x1 x2 x3:D) (c:Nat→Bool) (hcl : ∀ w:Nat,w < p.W.toNat→Fn Tryz.prog T g [.d (.int .i64 (w:Int)),.d x0,.d x1,.d x2,.d x3] [] (.d (.bool (c w))) []) :
  Fn Tryz.prog T f_doxastic_where [.d (dPM p),.d (.fn g [x0,x1,x2,x3])] [] (.d (.u64 (setTo c p.W.toNat))) []:=by
 refine fn_dataR hmix k_doxastic_where (by show 2≤21;decide) ?_
 (repeat' ((conv=>whnf);refine vA ?_));all_goals try conv=>whnf
 refine loop_intro (fun ((k,s):Nat×BitVec 64)=>[(1,.d (.fn g [x0,x1,x2,x3])),(8,.d (.int .i64 (p.W))),(5,.d (.u64 (s))),(9,.d (.int .i64 ((k:Int))))]) (fun ((k,s):Nat×BitVec 64)=>k≤p.W.toNat∧s=setTo c k) (fun ((k,s):Nat×BitVec 64)=>p.W.toNat - k) ((0,0#64)) (⟨by simp,rfl⟩) (by (repeat' first|exact trivial|exact rfl|refine And.intro ?_ ?_)) ?_
 rintro ⟨k,s⟩ ⟨hk,hI⟩
 (repeat' ((conv=>whnf);first|refine vA ?_|(refine vF ?_ ?_<;>intro hc<;>try simp only [vL] at hc)|refine vY ?_));all_goals try conv=>whnf
 ·have h1:=hcl k (by omega)
  cases hck:c k with
  | true =>
   rw [hck] at h1
   (repeat' ((conv=>whnf);first|refine vG ?_|((first|refine vO ?_ ?_|refine vP ?_ ?_);·omega)|refine yD h1 (by (repeat refine ⟨⟨rfl,rfl⟩,?_⟩);rfl) rfl ?_));all_goals try conv=>whnf
   refine ⟨(k+1,_),[],[],?_,?_,by (refine ⟨rfl,rfl,rfl,?_,?_⟩;repeat' first|exact trivial|exact rfl|refine And.intro ?_ ?_)⟩
   ·exact ⟨by (omega),by rw [setTo,if_pos hck,hI];rfl⟩
   ·((simp only [vM] at *;omega))
  | false =>
   rw [hck] at h1
   (repeat' ((conv=>whnf);first|refine vH ?_|(refine vO ?_ ?_;·omega)|refine yD h1 (by (repeat refine ⟨⟨rfl,rfl⟩,?_⟩);rfl) rfl ?_));all_goals try conv=>whnf
   exact ⟨(k+1,s),[],[],⟨by (omega),by rw [setTo,if_neg (by simp [hck]),hI]⟩,by ((simp only [vM] at *;omega)),by (refine ⟨rfl,rfl,rfl,?_,?_⟩;repeat' first|exact trivial|exact rfl|refine And.intro ?_ ?_)⟩
 ·rw [hI,show k=p.W.toNat by omega]
def knowsL (p:PM) (a:Int) (s:BitVec 64):BitVec 64:=setTo (fun w=>decide (cellL p a w &&& ~~~s=0#64)) p.W.toNat
def believesL (p:PM) (a:Int) (c s:BitVec 64):BitVec 64:=setTo (fun w=>decide (bestL p a w c &&& ~~~s=0#64)) p.W.toNat
def safelyL (p:PM) (a:Int) (s:BitVec 64):BitVec 64:=setTo (fun w=>decide ((weakerL p a).1.getD w 0#64 &&& ~~~s=0#64)) p.W.toNat
theorem fn_dox_all (p:PM) (h:1≤p.W) (h':p.W≤64):Fn Tryz.prog T f_doxastic_all [.d (dPM p)] [] (.d (.u64 (allL p.W))) []:=by
 refine fn_dataR hmix k_doxastic_all (by show 1≤7;decide) ?_
 (repeat' ((conv=>whnf);first|((first|refine vO ?_ ?_|refine vP ?_ ?_);·omega)|refine vY ?_));all_goals try conv=>whnf
 apply BitVec.eq_of_getLsbD_eq
 intro i hi
 rw [allL_bit (by omega) hi]
 show ((18446744073709551615#64) >>> (64 - p.W).toNat).getLsbD i=_
 rw [BitVec.getLsbD_ushiftRight,show (18446744073709551615#64)=BitVec.allOnes 64 from rfl,BitVec.getLsbD_allOnes,Bool.eq_iff_iff]
 simp only [Bool.and_eq_true,decide_eq_true_eq]
 omega
theorem fn_knows (hR:RanksOk T) (p:PM) (hp:IntsOk p.rank) (hW:p.W≤64) (a:Int) (s:BitVec 64):Fn Tryz.prog T f_doxastic_knows [.d (dPM p),.d (.int .i64 a),.d (.u64 s)] [] (.d (.u64 (knowsL p a s))) []:=by
 have h1 : ∀ w:Nat,w < p.W.toNat→Fn Tryz.prog T f_doxastic_knows_1 [.d (.int .i64 (w:Int)),.d (bP p),.d (bI a),.d (bU s)] [] (.d (.bool (decide (cellL p a w &&& ~~~s=0#64)))) []:=fun w hw=>by
  refine fn_dataR hmix k_doxastic_knows_1 (by show 4≤13;decide) ?_
  (repeat' ((conv=>whnf);first|refine vA ?_|(refine vU ?_ ?_;·kernel_rfl)|refine vZ ?_|refine yD (fn_Cell hR _ hp _ _) ⟨⟨rfl,rfl⟩,⟨rfl,rfl⟩,⟨rfl,rfl⟩,rfl⟩ rfl ?_));all_goals try conv=>whnf
  all_goals rfl
 have h2:=fn_where3 p hW f_doxastic_knows_1 (bP p) (bI a) (bU s) _ h1
 refine fn_dataR hmix k_doxastic_knows (by show 3≤10;decide) ?_
 (repeat' ((conv=>whnf);first|refine vY ?_|refine yD h2 ⟨⟨rfl,rfl⟩,⟨rfl,rfl⟩,rfl⟩ rfl ?_));all_goals try conv=>whnf
 all_goals rfl
theorem fn_believes (hR:RanksOk T) (p:PM) (hp:IntsOk p.rank) (hW:p.W≤64) (a:Int) (c s:BitVec 64):Fn Tryz.prog T f_doxastic_believes [.d (dPM p),.d (.int .i64 a),.d (.u64 c),.d (.u64 s)] [] (.d (.u64 (believesL p a c s))) []:=by
 have h1 : ∀ w:Nat,w < p.W.toNat→Fn Tryz.prog T f_doxastic_believes_1 [.d (.int .i64 (w:Int)),.d (bP p),.d (bI a),.d (bU c),.d (bU s)] [] (.d (.bool (decide (bestL p a w c &&& ~~~s=0#64)))) []:=fun w hw=>by
  refine fn_dataR hmix k_doxastic_believes_1 (by show 5≤15;decide) ?_
  (repeat' ((conv=>whnf);first|refine vA ?_|(refine vU ?_ ?_;·kernel_rfl)|refine vZ ?_|refine yD (fn_Best hR _ hp _ _ _) (by (repeat refine ⟨⟨rfl,rfl⟩,?_⟩);rfl) rfl ?_));all_goals try conv=>whnf
  all_goals rfl
 have h2:=fn_where4 p hW f_doxastic_believes_1 (bP p) (bI a) (bU c) (bU s) _ h1
 refine fn_dataR hmix k_doxastic_believes (by show 4≤12;decide) ?_
 (repeat' ((conv=>whnf);first|refine vY ?_|refine yD h2 ⟨⟨rfl,rfl⟩,⟨rfl,rfl⟩,rfl⟩ rfl ?_));all_goals try conv=>whnf
 all_goals rfl
theorem fn_safely (hR:RanksOk T) (p:PM) (hp:IntsOk p.rank) (hc0:checkL p=0) (a:Int) (ha:0≤a) (ha':a < p.cell.length) (s:BitVec 64):Fn Tryz.prog T f_doxastic_safely [.d (dPM p),.d (.int .i64 a),.d (.u64 s)] [] (.d (.u64 (safelyL p a s))) []:=by
 have hg:=checkL_good hc0
 have e:weakerL p a=(weakL p a.toNat,0):=by rw [weakerL,if_neg (by omega),if_neg (by omega)]
 have hl:(weakL p a.toNat).length=p.W.toNat:=by simp [weakL]
 have h1 : ∀ w:Nat,w < p.W.toNat→Fn Tryz.prog T f_doxastic_safely_1 [.d (.int .i64 (w:Int)),.d (.box [dU (weakL p a.toNat)]),.d (bU s)] [] (.d (.bool (decide ((weakL p a.toNat).getD w 0#64 &&& ~~~s=0#64)))) []:=fun w hw=>by
  refine fn_dataR hmix k_doxastic_safely_1 (by show 3≤12;decide) ?_
  have hx:(weakL p a.toNat)[w]? = some ((weakL p a.toNat).getD w 0#64):=by simp [List.getD,hl,hw]
  (repeat' ((conv=>whnf);first|refine vA ?_|refine vN ‹_› ?_|(refine vU ?_ ?_;·kernel_rfl)|refine vZ ?_));all_goals try conv=>whnf
  all_goals rfl
 have h2:=fn_where2 p hg.w2 f_doxastic_safely_1 (.box [dU (weakL p a.toNat)]) (bU s) _ h1
 have h3:=fn_Weaker (T:=T) hR p hp a
 rw [e] at h3
 rw [safelyL,e]
 refine fn_dataR hmix k_doxastic_safely (by show 3≤18;decide) ?_
 (repeat' ((conv=>whnf);first|refine vY ?_|refine yN h3 ⟨⟨rfl,rfl⟩,⟨rfl,rfl⟩,rfl⟩ ?_|refine yD h2 ⟨⟨rfl,rfl⟩,⟨rfl,rfl⟩,rfl⟩ rfl ?_));all_goals try conv=>whnf
 all_goals rfl
end Go.Ab
namespace Go.Ab
set_option linter.unusedVariables false
set_option linter.unusedSimpArgs false
structure Nd where
 op:Int
 i:Int
 e:Int
 g:Int
 x:Int
 y:Int
 deriving DecidableEq,Inhabited
structure Hd where
 op:Int
 i:Int
 e:Int
 g:Int
 deriving DecidableEq,Inhabited
def Nd.hd (n:Nd):Hd:=⟨n.op,n.i,n.e,n.g⟩
def isOp (op:Int):Bool:=decide (1≤op∧op≤21)
def useX (op:Int):Bool:=decide (4≤op∧op≤21)
def useY (op:Int):Bool:=decide (5≤op∧op≤8∨op=13∨op=14∨op=16∨op=19∨op=21)
def useFact (op:Int):Bool:=decide (op=3)
def useAgent (op:Int):Bool:=decide (op=9∨op=10∨op=14∨op=15)
def useEvent (op:Int):Bool:=decide (op=17)
def useGroup (op:Int):Bool:=decide (11≤op∧op≤13)
def fragOf (op:Int):Int :=
 if op=9∨op=10 then 1 else if op=11 then 2 else if op=12 then 4 else if op=13 then 8 else if op=14 then 16 else if op=15 then 32 else if op=16 then 64 else if op=17 then 128 else
 if 18≤op∧op≤21 then 256 else 0
theorem useX_of_useY {op:Int} (h:useY op=true):useX op=true:=by
 simp only [useX,useY,decide_eq_true_eq] at h ⊢;omega
def opdOk (used:Bool) (f at_:Int):Bool:=used&&decide (0≤f)&&decide (f < at_) || !used&&decide (f=0)
def outside (used:Bool) (v lo hi:Int):Bool:=used&&(decide (v < lo)||decide (hi < v))
def nErr (n:Nd) (at_:Int):Int :=
 if isOp n.op=false then 10 else
 if opdOk (useX n.op) n.x at_=false∨opdOk (useY n.op) n.y at_=false then 3 else
 if (!(useFact n.op||useAgent n.op||useEvent n.op)&&decide (n.i≠0)||(!useEvent n.op&&decide (n.e≠0))||(!useGroup n.op&&decide (n.g≠0)))=true then 3 else
 if (outside (useFact n.op) n.i 0 7||outside (useAgent n.op) n.i 0 3||outside (useEvent n.op) n.i 0 7||outside (useEvent n.op) n.e 0 7||outside (useGroup n.op) n.g 1 15)=true then 2 else 0
def fErrGo:List Nd→Nat→Int
 | [],_=>0
 | n::r,k=>if nErr n k≠0 then nErr n k else fErrGo r (k+1)
def fErr (f:List Nd):Int:=if f.length=0 then 3 else if 200 < f.length then 8 else fErrGo f 0
def Okay (f:List Nd):Prop := ∀ (k:Nat) n,f[k]? = some n→nErr n k=0
theorem fErrGo_ok : ∀ (f:List Nd) (k:Nat),fErrGo f k=0 ↔ ∀ (j:Nat) n,f[j]? = some n→nErr n (k+j:Nat)=0
 | [],k=>by simp [fErrGo]
 | n::r,k=>by
  unfold fErrGo
  constructor
  ·intro h
   split at h
   ·contradiction
   ·rename_i h0
    intro j m hj
    cases j with
    | zero=>simp at hj;subst hj;simpa using h0
    | succ j =>
     have:=(fErrGo_ok r (k+1)).1 h j m (by simpa using hj)
     rwa [show k+1+j=k+(j+1) by omega] at this
  ·intro h
   have h0:=h 0 n (by simp)
   rw [if_neg (by simpa using h0)]
   refine (fErrGo_ok r (k+1)).2 fun j m hj=>?_
   have:=h (j+1) m (by simpa using hj)
   rwa [show k+(j+1)=k+1+j by omega] at this
theorem fErr_ok {f:List Nd} : fErr f=0↔0 < f.length∧f.length≤200∧Okay f:=by
 unfold fErr Okay
 have:=fErrGo_ok f 0
 simp only [Nat.zero_add] at this
 by_cases h1:f.length=0
 ·rw [if_pos h1];omega
 ·rw [if_neg h1]
  by_cases h2:200 < f.length
  ·rw [if_pos h2];omega
  ·rw [if_neg h2,this]
   exact ⟨fun h=>⟨by omega,by omega,h⟩,fun h=>h.2.2⟩
theorem nErr_ok {n:Nd} {a:Int} (h:nErr n a=0):isOp n.op=true∧(useX n.op=true→0≤n.x∧n.x < a)∧(useX n.op=false→n.x=0)∧(useY n.op=true→0≤n.y∧n.y < a)∧(useY n.op=false→n.y=0) ∧
  (useFact n.op=true→0≤n.i∧n.i≤7)∧(useAgent n.op=true→0≤n.i∧n.i≤3)∧(useEvent n.op=true→0≤n.i∧n.i≤7∧0≤n.e∧n.e≤7)∧(useGroup n.op=true→1≤n.g∧n.g≤15) ∧
  (useFact n.op=false→useAgent n.op=false→useEvent n.op=false→n.i=0)∧(useEvent n.op=false→n.e=0)∧(useGroup n.op=false→n.g=0):=by
 unfold nErr at h
 split at h
 ·cases h
 ·rename_i h1
  split at h
  ·cases h
  ·rename_i h2
   split at h
   ·cases h
   ·rename_i h3
    split at h
    ·cases h
    ·rename_i h4
     generalize useX n.op=a1 at *
     generalize useY n.op=a2 at *
     generalize useFact n.op=a3 at *
     generalize useAgent n.op=a4 at *
     generalize useEvent n.op=a5 at *
     generalize useGroup n.op=a6 at *
     refine ⟨by simpa using h1,?_⟩
     simp only [opdOk,outside] at h2 h3 h4
     cases a1<;>cases a2<;>cases a3<;>cases a4<;>cases a5<;>cases a6<;>simp at h2 h3 h4 ⊢ <;> omega
theorem nErr_of {n:Nd} {a:Int} (h:isOp n.op=true∧(useX n.op=true→0≤n.x∧n.x < a)∧(useX n.op=false→n.x=0)∧(useY n.op=true→0≤n.y∧n.y < a)∧(useY n.op=false→n.y=0) ∧
  (useFact n.op=true→0≤n.i∧n.i≤7)∧(useAgent n.op=true→0≤n.i∧n.i≤3)∧(useEvent n.op=true→0≤n.i∧n.i≤7∧0≤n.e∧n.e≤7)∧(useGroup n.op=true→1≤n.g∧n.g≤15) ∧
  (useFact n.op=false→useAgent n.op=false→useEvent n.op=false→n.i=0)∧(useEvent n.op=false→n.e=0)∧(useGroup n.op=false→n.g=0)):nErr n a=0:=by
 unfold nErr
 generalize useX n.op=a1 at *
 generalize useY n.op=a2 at *
 generalize useFact n.op=a3 at *
 generalize useAgent n.op=a4 at *
 generalize useEvent n.op=a5 at *
 generalize useGroup n.op=a6 at *
 rw [if_neg (by simp [h.1]),if_neg,if_neg,if_neg]
 all_goals
  try simp only [opdOk,outside]
  cases a1<;>cases a2<;>cases a3<;>cases a4<;>cases a5<;>cases a6<;>simp at h ⊢ <;> omega
structure FSt where
 out:List Nd
 done:List (Nat×Nat)
def put (l:List Nd) (x:Nd):Nat×List Nd:=match l.idxOf? x with
 | some k=>(k,l)
 | none=>(l.length,l++[x])
def fin (f:List Nd):Nat→Nat→FSt→Nat×FSt
 | 0,_,s=>(0,s)
 | k+1,i,s=>match s.done.lookup i with
  | some r=>(r,s)
  | none =>
   let n:=f.getD i default
   let a:=cond (useX n.op) (fin f k n.x.toNat s) (n.x.toNat,s)
   let b:=cond (useY n.op) (fin f k n.y.toNat a.2) (n.y.toNat,a.2)
   let p:=put b.2.out { n with x:=a.1,y:=b.1 }
   (p.1,⟨p.2,b.2.done++[(i,p.1)]⟩)
def compactL (f:List Nd) (root:Nat):List Nd:=(fin f (root+1) root ⟨[],[]⟩).2.out
inductive Tm where
 | z (h:Hd)
 | u (h:Hd) (x:Tm)
 | b (h:Hd) (x y:Tm)
def tm (f:List Nd):Nat→Nat→Tm
 | 0,_ => .z default
 | k+1,i =>
  let n:=f.getD i default
  cond (useY n.op) (.b n.hd (tm f k n.x.toNat) (tm f k n.y.toNat)) (cond (useX n.op) (.u n.hd (tm f k n.x.toNat)) (.z n.hd))
def tmOf (f:List Nd) (i:Nat):Tm:=tm f (i+1) i
theorem okay_at {f:List Nd} (hf:Okay f) {i:Nat} (hi:i < f.length):nErr (f.getD i default) i=0:=hf i _ (by simp [hi])
theorem okay_x {f:List Nd} (hf:Okay f) {i:Nat} (hi:i < f.length) (h:useX (f.getD i default).op=true):0≤(f.getD i default).x∧(f.getD i default).x.toNat < i:=by
 have:=(nErr_ok (okay_at hf hi)).2.1 h;omega
theorem okay_y {f:List Nd} (hf:Okay f) {i:Nat} (hi:i < f.length) (h:useY (f.getD i default).op=true):0≤(f.getD i default).y∧(f.getD i default).y.toNat < i:=by
 have:=(nErr_ok (okay_at hf hi)).2.2.2.1 h;omega
theorem tm_fuel {f:List Nd} (hf:Okay f) : ∀ (k k' i:Nat),i < f.length→i < k→i < k'→tm f k i=tm f k' i
 | 0,_,_,_,h,_=>by omega
 | _+1,0,_,_,_,h=>by omega
 | k+1,k'+1,i,hi,h1,h2=>by
  unfold tm
  simp only
  cases hy:useY (f.getD i default).op with
  | true =>
   have e1:=okay_x hf hi (useX_of_useY hy)
   have e2:=okay_y hf hi hy
   simp only [cond_true]
   rw [tm_fuel hf k k' _ (by omega) (by omega) (by omega),tm_fuel hf k k' (f.getD i default).y.toNat (by omega) (by omega) (by omega)]
  | false =>
   simp only [cond_false]
   cases hx:useX (f.getD i default).op with
   | true =>
    have e1:=okay_x hf hi hx
    simp only [cond_true]
    rw [tm_fuel hf k k' _ (by omega) (by omega) (by omega)]
   | false=>rfl
theorem tmOf_eq {f:List Nd} (hf:Okay f) {i:Nat} (hi:i < f.length):tmOf f i=cond (useY (f.getD i default).op) (.b (f.getD i default).hd (tmOf f (f.getD i default).x.toNat) (tmOf f (f.getD i default).y.toNat)) (cond (useX (f.getD i default).op) (.u (f.getD i default).hd (tmOf f (f.getD i default).x.toNat)) (.z (f.getD i default).hd)):=by
 unfold tmOf
 rw [tm]
 try simp only
 cases hy:useY (f.getD i default).op with
 | true =>
  have e1:=okay_x hf hi (useX_of_useY hy)
  have e2:=okay_y hf hi hy
  simp only [cond_true]
  rw [tm_fuel hf i _ _ (by omega) (by omega) (Nat.lt_succ_self _),tm_fuel hf i _ (f.getD i default).y.toNat (by omega) (by omega) (Nat.lt_succ_self _)]
 | false =>
  simp only [cond_false]
  cases hx:useX (f.getD i default).op with
  | true =>
   have e1:=okay_x hf hi hx
   simp only [cond_true]
   rw [tm_fuel hf i _ _ (by omega) (by omega) (Nat.lt_succ_self _)]
  | false=>rfl
theorem tm_append {f g:List Nd} (hf:Okay f) : ∀ (k i:Nat),i < f.length→tm (f++g) k i=tm f k i
 | 0,_,_=>rfl
 | k+1,i,hi=>by
  unfold tm
  simp only
  have e:(f++g).getD i default=f.getD i default:=by simp [List.getD,List.getElem?_append_left hi]
  rw [e]
  cases hy:useY (f.getD i default).op with
  | true =>
   have e1:=okay_x hf hi (useX_of_useY hy)
   have e2:=okay_y hf hi hy
   simp only [cond_true]
   rw [tm_append hf k _ (by omega),tm_append hf k (f.getD i default).y.toNat (by omega)]
  | false =>
   simp only [cond_false]
   cases hx:useX (f.getD i default).op with
   | true =>
    have e1:=okay_x hf hi hx
    simp only [cond_true]
    rw [tm_append hf k _ (by omega)]
   | false=>rfl
theorem tmOf_append {f g:List Nd} (hf:Okay f) {i:Nat} (hi:i < f.length):tmOf (f++g) i=tmOf f i:=tm_append hf _ _ hi
def Tm.all (p:Hd→Prop):Tm→Prop
 | .z h=>p h
 | .u h x=>p h∧x.all p
 | .b h x y=>p h∧x.all p∧y.all p
def Tm.size:Tm→Nat
 | .z _=>1
 | .u _ x=>x.size+1
 | .b _ x y=>x.size+y.size+1
structure HdOk (h:Hd):Prop where
 op:isOp h.op=true
 fact:useFact h.op=true→0≤h.i∧h.i≤7
 agent:useAgent h.op=true→0≤h.i∧h.i≤3
 event:useEvent h.op=true→0≤h.i∧h.i≤7∧0≤h.e∧h.e≤7
 group:useGroup h.op=true→1≤h.g∧h.g≤15
 i0:useFact h.op=false→useAgent h.op=false→useEvent h.op=false→h.i=0
 e0:useEvent h.op=false→h.e=0
 g0:useGroup h.op=false→h.g=0
theorem nErr_iff {n:Nd} {a:Int} : nErr n a=0↔HdOk n.hd∧(useX n.op=true→0≤n.x∧n.x < a)∧(useX n.op=false→n.x=0)∧(useY n.op=true→0≤n.y∧n.y < a)∧(useY n.op=false→n.y=0):=by
 constructor
 ·intro h
  obtain ⟨h1,h2,h3,h4,h5,h6,h7,h8,h9,h10,h11,h12⟩:=nErr_ok h
  exact ⟨⟨h1,h6,h7,h8,h9,h10,h11,h12⟩,h2,h3,h4,h5⟩
 ·rintro ⟨⟨h1,h6,h7,h8,h9,h10,h11,h12⟩,h2,h3,h4,h5⟩
  exact nErr_of ⟨h1,h2,h3,h4,h5,h6,h7,h8,h9,h10,h11,h12⟩
def Tm.ok:Tm→Prop
 | .z h=>HdOk h∧useX h.op=false∧useY h.op=false
 | .u h x=>HdOk h∧useX h.op=true∧useY h.op=false∧x.ok
 | .b h x y=>HdOk h∧useX h.op=true∧useY h.op=true∧x.ok∧y.ok
theorem tmOf_ok {f:List Nd} (hf:Okay f) : ∀ (n i:Nat),i < n→i < f.length→(tmOf f i).ok
 | 0,_,h,_=>by omega
 | n+1,i,h,hi=>by
  rw [tmOf_eq hf hi]
  have h0:=(nErr_iff.1 (okay_at hf hi)).1
  cases hy:useY (f.getD i default).op with
  | true =>
   have e1:=okay_x hf hi (useX_of_useY hy)
   have e2:=okay_y hf hi hy
   exact ⟨h0,useX_of_useY hy,hy,tmOf_ok hf n _ (by omega) (by omega),tmOf_ok hf n _ (by omega) (by omega)⟩
  | false =>
   cases hx:useX (f.getD i default).op with
   | true =>
    have e1:=okay_x hf hi hx
    exact ⟨h0,hx,hy,tmOf_ok hf n _ (by omega) (by omega)⟩
   | false=>exact ⟨h0,hx,hy⟩
def nd (h:Hd) (x y:Nat):Nd:=⟨h.op,h.i,h.e,h.g,x,y⟩
def finT:Tm→List Nd→Nat×List Nd
 | .z h,l=>put l (nd h 0 0)
 | .u h x,l=>put (finT x l).2 (nd h (finT x l).1 0)
 | .b h x y,l=>put (finT y (finT x l).2).2 (nd h (finT x l).1 (finT y (finT x l).2).1)
theorem put_found {l:List Nd} {x:Nd} {k:Nat} (h:l.idxOf? x=some k):put l x=(k,l):=by unfold put;rw [h]
theorem put_new {l:List Nd} {x:Nd} (h:l.idxOf? x=none):put l x=(l.length,l++[x]):=by unfold put;rw [h]
theorem idx_append {l m:List Nd} {x:Nd} {k:Nat} (h:l.idxOf? x=some k):(l++m).idxOf? x=some k:=by
 simp only [List.idxOf?] at h ⊢
 rw [List.findIdx?_append,h];rfl
theorem idx_get {l:List Nd} {x:Nd} {k:Nat} (h:l.idxOf? x=some k):l[k]? = some x:=by
 simp only [List.idxOf?] at h
 obtain ⟨h1,h2,h3⟩:=List.findIdx?_eq_some_iff_getElem.1 h
 simp at h2
 simp [h1,h2]
theorem idx_self {l:List Nd} {x:Nd} (h:l.idxOf? x=none):(l++[x]).idxOf? x=some l.length:=by
 simp only [List.idxOf?] at h ⊢
 rw [List.findIdx?_append,h]
 simp
theorem put_ext (l:List Nd) (x:Nd):(∃ m,(put l x).2=l++m)∧(put l x).2.idxOf? x=some (put l x).1:=by
 cases h:l.idxOf? x with
 | some k=>rw [put_found h];exact ⟨⟨[],by simp⟩,h⟩
 | none=>rw [put_new h];exact ⟨⟨[x],rfl⟩,idx_self h⟩
theorem finT_ext : ∀ (t:Tm) (l:List Nd),∃ m,(finT t l).2=l++m
 | .z h,l=>(put_ext _ _).1
 | .u h x,l=>by
  obtain ⟨m,hm⟩:=finT_ext x l
  obtain ⟨m',hm'⟩:=(put_ext (finT x l).2 (nd h (finT x l).1 0)).1
  exact ⟨m++m',by rw [finT,hm',hm,List.append_assoc]⟩
 | .b h x y,l=>by
  obtain ⟨m,hm⟩:=finT_ext x l
  obtain ⟨m2,hm2⟩:=finT_ext y (finT x l).2
  obtain ⟨m',hm'⟩:=(put_ext (finT y (finT x l).2).2 (nd h (finT x l).1 (finT y (finT x l).2).1)).1
  exact ⟨m++m2++m',by rw [finT,hm',hm2,hm,List.append_assoc,List.append_assoc,List.append_assoc]⟩
def HasT (t:Tm) (l:List Nd) (r:Nat):Prop:=finT t l=(r,l)
theorem HasT.mono : ∀ {t:Tm} {l:List Nd} {r:Nat} (m:List Nd),HasT t l r→HasT t (l++m) r
 | .z h,l,r,m,hh=>by
  unfold HasT finT at *
  cases hi:l.idxOf? (nd h 0 0) with
  | some k=>rw [put_found hi] at hh;cases hh;rw [put_found (idx_append hi)]
  | none=>rw [put_new hi] at hh;have:=congrArg (fun p=>p.2.length) hh;simp at this
 | .u h x,l,r,m,hh=>by
  unfold HasT at *
  obtain ⟨a,ha⟩:=finT_ext x l
  obtain ⟨b,hb⟩:=(put_ext (finT x l).2 (nd h (finT x l).1 0)).1
  have e:a=[]∧b=[]:=by
   have:(finT (.u h x) l).2=l++a++b:=by rw [finT,hb,ha]
   rw [hh] at this
   have:=congrArg List.length this
   simp only [List.length_append] at this
   exact ⟨List.length_eq_zero_iff.1 (by omega),List.length_eq_zero_iff.1 (by omega)⟩
  obtain ⟨rfl,rfl⟩:=e
  rw [List.append_nil] at ha
  have hx:HasT x l (finT x l).1:=Prod.ext rfl ha
  have hx':=HasT.mono m hx
  unfold HasT at hx'
  rw [finT,ha] at hh
  rw [finT,hx']
  cases hi:l.idxOf? (nd h (finT x l).1 0) with
  | some k=>rw [put_found hi] at hh;cases hh;exact put_found (idx_append hi)
  | none=>rw [put_new hi] at hh;have:=congrArg (fun p=>p.2.length) hh;simp at this
 | .b h x y,l,r,m,hh=>by
  unfold HasT at *
  obtain ⟨a,ha⟩:=finT_ext x l
  obtain ⟨c,hc⟩:=finT_ext y (finT x l).2
  obtain ⟨b,hb⟩:=(put_ext (finT y (finT x l).2).2 (nd h (finT x l).1 (finT y (finT x l).2).1)).1
  have e:a=[]∧c=[]∧b=[]:=by
   have:(finT (.b h x y) l).2=l++a++c++b:=by rw [finT,hb,hc,ha]
   rw [hh] at this
   have:=congrArg List.length this
   simp only [List.length_append] at this
   exact ⟨List.length_eq_zero_iff.1 (by omega),List.length_eq_zero_iff.1 (by omega),List.length_eq_zero_iff.1 (by omega)⟩
  obtain ⟨rfl,rfl,rfl⟩:=e
  rw [List.append_nil] at ha hc
  rw [ha] at hc
  have hx:HasT x l (finT x l).1:=Prod.ext rfl ha
  have hy:HasT y l (finT y l).1:=Prod.ext rfl hc
  have hx':=HasT.mono m hx
  have hy':=HasT.mono m hy
  unfold HasT at hx' hy'
  rw [finT,ha,hc] at hh
  rw [finT,hx']
  simp only
  rw [hy']
  cases hi:l.idxOf? (nd h (finT x l).1 (finT y l).1) with
  | some k=>rw [put_found hi] at hh;cases hh;exact put_found (idx_append hi)
  | none=>rw [put_new hi] at hh;have:=congrArg (fun p=>p.2.length) hh;simp at this
theorem finT_has : ∀ (t:Tm) (l:List Nd),HasT t (finT t l).2 (finT t l).1
 | .z h,l=>by
  unfold HasT finT
  exact put_found (put_ext _ _).2
 | .u h x,l=>by
  obtain ⟨m,hm⟩:=(put_ext (finT x l).2 (nd h (finT x l).1 0)).1
  have h1:=(finT_has x l).mono m
  rw [← hm] at h1
  unfold HasT at *
  rw [finT,finT,h1]
  exact put_found (put_ext _ _).2
 | .b h x y,l=>by
  obtain ⟨m,hm⟩:=(put_ext (finT y (finT x l).2).2 (nd h (finT x l).1 (finT y (finT x l).2).1)).1
  obtain ⟨m2,hm2⟩:=finT_ext y (finT x l).2
  have h1:=((finT_has x l).mono m2).mono m
  rw [← hm2] at h1
  have h2:=(finT_has y (finT x l).2).mono m
  rw [← hm] at h1 h2
  unfold HasT at *
  rw [finT,finT,h1]
  simp only
  rw [h2]
  exact put_found (put_ext _ _).2
theorem put_lt (l:List Nd) (x:Nd):(put l x).1 < (put l x).2.length:=by
 have:=idx_get (put_ext l x).2
 exact (List.getElem?_eq_some_iff.1 this).1
theorem finT_lt : ∀ (t:Tm) (l:List Nd),(finT t l).1 < (finT t l).2.length
 | .z _,_=>put_lt _ _
 | .u _ _,_=>put_lt _ _
 | .b _ _ _,_=>put_lt _ _
theorem put_okay {l:List Nd} {x:Nd} (hl:Okay l) (h:nErr x l.length=0):Okay (put l x).2:=by
 cases hi:l.idxOf? x with
 | some k=>rw [put_found hi];exact hl
 | none =>
  rw [put_new hi]
  intro k n hk
  simp only [List.getElem?_append] at hk
  split at hk
  ·exact hl k n hk
  ·rename_i h1
   have:k=l.length:=by
    have:=(List.getElem?_eq_some_iff.1 hk).1;simp at this;omega
   subst this
   simp at hk;subst hk;exact h
theorem put_tree {l:List Nd} {x:Nd} (hl:Okay l) (h:nErr x l.length=0):(put l x).2.getD (put l x).1 default=x:=by
 have:=idx_get (put_ext l x).2
 simp [List.getD,this]
theorem nat_of {k:Nat} : ((k:Nat):Int).toNat=k:=by omega
theorem finT_okay : ∀ (t:Tm) (l:List Nd),t.ok→Okay l→Okay (finT t l).2∧tmOf (finT t l).2 (finT t l).1=t
 | .z h,l,ht,hl=>by
  have hn:nErr (nd h 0 0) l.length=0:=nErr_iff.2 ⟨ht.1,fun e=>by have:=ht.2.1;simp [nd] at e;simp [this] at e,fun _=>rfl,fun e=>by have:=ht.2.2;simp [nd] at e;simp [this] at e,fun _=>rfl⟩
  have h1:=put_okay hl hn
  refine ⟨h1,?_⟩
  have h2:=tmOf_eq h1 (put_lt l (nd h 0 0))
  rw [put_tree hl hn] at h2
  rw [finT,h2]
  simp only [nd,ht.2.1,ht.2.2,cond_false,Nd.hd]
 | .u h x,l,ht,hl=>by
  obtain ⟨a1,a2⟩:=finT_okay x l ht.2.2.2 hl
  have a3:=finT_lt x l
  have hn:nErr (nd h (finT x l).1 0) (finT x l).2.length=0:=nErr_iff.2 ⟨ht.1,fun e=>⟨by simp [nd],by simp only [nd];omega⟩,fun e=>by have:=ht.2.1;simp [nd] at e;simp [this] at e,fun e=>by have:=ht.2.2.1;simp [nd] at e;simp [this] at e,fun _=>rfl⟩
  have h1:=put_okay a1 hn
  refine ⟨h1,?_⟩
  have h2:=tmOf_eq h1 (put_lt (finT x l).2 (nd h (finT x l).1 0))
  rw [put_tree a1 hn] at h2
  obtain ⟨m,hm⟩:=(put_ext (finT x l).2 (nd h (finT x l).1 0)).1
  rw [finT,h2]
  simp only [nd,ht.2.1,ht.2.2.1,cond_false,cond_true,Nd.hd,nat_of]
  have h3:tmOf (put (finT x l).2 (nd h (finT x l).1 0)).2 (finT x l).1=x:=by rw [hm,tmOf_append a1 a3,a2]
  simp only [nd] at h3
  rw [h3]
 | .b h x y,l,ht,hl=>by
  obtain ⟨a1,a2⟩:=finT_okay x l ht.2.2.2.1 hl
  have a3:=finT_lt x l
  obtain ⟨b1,b2⟩:=finT_okay y (finT x l).2 ht.2.2.2.2 a1
  have b3:=finT_lt y (finT x l).2
  obtain ⟨m2,hm2⟩:=finT_ext y (finT x l).2
  have hn:nErr (nd h (finT x l).1 (finT y (finT x l).2).1) (finT y (finT x l).2).2.length=0:=nErr_iff.2 ⟨ht.1,fun e=>⟨by simp [nd],by simp only [nd];rw [hm2,List.length_append];omega⟩,
   fun e=>by have:=ht.2.1;simp [nd] at e;simp [this] at e,fun e=>⟨by simp [nd],by simp only [nd];omega⟩,fun e=>by have:=ht.2.2.1;simp [nd] at e;simp [this] at e⟩
  have h1:=put_okay b1 hn
  refine ⟨h1,?_⟩
  have h2:=tmOf_eq h1 (put_lt (finT y (finT x l).2).2 (nd h (finT x l).1 (finT y (finT x l).2).1))
  rw [put_tree b1 hn] at h2
  obtain ⟨m,hm⟩:=(put_ext (finT y (finT x l).2).2 (nd h (finT x l).1 (finT y (finT x l).2).1)).1
  rw [finT,h2]
  simp only [nd,ht.2.1,ht.2.2.1,cond_false,cond_true,Nd.hd,nat_of]
  have h3:tmOf (put (finT y (finT x l).2).2 (nd h (finT x l).1 (finT y (finT x l).2).1)).2 (finT x l).1=x:=by
   rw [hm,tmOf_append b1 (by rw [hm2,List.length_append];omega),hm2,tmOf_append a1 a3,a2]
  have h4:tmOf (put (finT y (finT x l).2).2 (nd h (finT x l).1 (finT y (finT x l).2).1)).2 (finT y (finT x l).2).1=y:=by
   rw [hm,tmOf_append b1 b3,b2]
  simp only [nd] at h3 h4
  rw [h3,h4]
theorem put_all (p:Hd→Prop) (l:List Nd) (x:Nd):(∀ n∈(put l x).2,p n.hd)↔(∀ n∈l,p n.hd)∧p x.hd:=by
 cases hi:l.idxOf? x with
 | some k =>
  rw [put_found hi]
  have:=List.mem_of_getElem? (idx_get hi)
  exact ⟨fun h=>⟨h,h x this⟩,fun h=>h.1⟩
 | none =>
  rw [put_new hi]
  simp only [List.mem_append,List.mem_singleton]
  exact ⟨fun h=>⟨fun n hn=>h n (.inl hn),h x (.inr rfl)⟩,fun h n hn=>hn.elim (h.1 n) (fun e=>e▸h.2)⟩
theorem finT_all (p:Hd→Prop) : ∀ (t:Tm) (l:List Nd),(∀ n∈(finT t l).2,p n.hd)↔(∀ n∈l,p n.hd)∧t.all p
 | .z h,l=>put_all p l _
 | .u h x,l=>by
  rw [finT,put_all,finT_all p x l,Tm.all]
  exact ⟨fun ⟨⟨a,b⟩,c⟩=>⟨a,c,b⟩,fun ⟨a,c,b⟩=>⟨⟨a,b⟩,c⟩⟩
 | .b h x y,l=>by
  rw [finT,put_all,finT_all p y _,finT_all p x l,Tm.all]
  exact ⟨fun ⟨⟨⟨a,b⟩,d⟩,c⟩=>⟨a,c,b,d⟩,fun ⟨a,c,b,d⟩=>⟨⟨⟨a,b⟩,d⟩,c⟩⟩
theorem all_size : ∀ (t:Tm) (l:List Nd) (r:Nat),t.ok→Okay l→l.length≤r→r < (finT t l).2.length→(tmOf (finT t l).2 r).size≤t.size∧(r+1 < (finT t l).2.length→(tmOf (finT t l).2 r).size < t.size)
 | .z h,l,r,ht,hl,h1,h2=>by
  obtain ⟨o1,o2⟩:=finT_okay (.z h) l ht hl
  have:(finT (.z h) l).1=r ∧ ¬ r+1 < (finT (.z h) l).2.length:=by
   unfold finT at h2 ⊢
   cases hi:l.idxOf? (nd h 0 0) with
   | some k=>rw [put_found hi] at h2;simp at h2;omega
   | none=>rw [put_new hi] at h2 ⊢;simp at h2 ⊢;omega
  rw [← this.1,o2]
  rw [this.1]
  exact ⟨Nat.le_refl _,fun h=>absurd h this.2⟩
 | .u h x,l,r,ht,hl,h1,h2=>by
  obtain ⟨o1,o2⟩:=finT_okay (.u h x) l ht hl
  obtain ⟨a1,a2⟩:=finT_okay x l ht.2.2.2 hl
  have ih:=all_size x l r ht.2.2.2 hl h1
  by_cases hr:r < (finT x l).2.length
  ·obtain ⟨m,hm⟩:=(put_ext (finT x l).2 (nd h (finT x l).1 0)).1
   have e:tmOf (finT (.u h x) l).2 r=tmOf (finT x l).2 r:=by rw [finT,hm,tmOf_append a1 hr]
   rw [e]
   have:=(ih hr).1
   simp only [Tm.size]
   omega
  ·have:(finT (.u h x) l).1=r ∧ ¬ r+1 < (finT (.u h x) l).2.length:=by
    unfold finT at h2 ⊢
    cases hi:(finT x l).2.idxOf? (nd h (finT x l).1 0) with
    | some k=>rw [put_found hi] at h2;simp at h2;omega
    | none=>rw [put_new hi] at h2 ⊢;simp at h2 ⊢;omega
   rw [← this.1,o2,this.1]
   exact ⟨Nat.le_refl _,fun h=>absurd h this.2⟩
 | .b h x y,l,r,ht,hl,h1,h2=>by
  obtain ⟨o1,o2⟩:=finT_okay (.b h x y) l ht hl
  obtain ⟨a1,a2⟩:=finT_okay x l ht.2.2.2.1 hl
  obtain ⟨b1,b2⟩:=finT_okay y (finT x l).2 ht.2.2.2.2 a1
  have ih:=all_size x l r ht.2.2.2.1 hl h1
  obtain ⟨m2,hm2⟩:=finT_ext y (finT x l).2
  obtain ⟨m,hm⟩:=(put_ext (finT y (finT x l).2).2 (nd h (finT x l).1 (finT y (finT x l).2).1)).1
  by_cases hr:r < (finT x l).2.length
  ·have e:tmOf (finT (.b h x y) l).2 r=tmOf (finT x l).2 r:=by
    rw [finT,hm,tmOf_append b1 (by rw [hm2,List.length_append];omega),hm2,tmOf_append a1 hr]
   rw [e]
   have:=(ih hr).1
   simp only [Tm.size]
   omega
  ·have ih2:=all_size y (finT x l).2 r ht.2.2.2.2 a1 (by omega)
   by_cases hr2:r < (finT y (finT x l).2).2.length
   ·have e:tmOf (finT (.b h x y) l).2 r=tmOf (finT y (finT x l).2).2 r:=by
     rw [finT,hm,tmOf_append b1 hr2]
    rw [e]
    have:=(ih2 hr2).1
    simp only [Tm.size]
    omega
   ·have:(finT (.b h x y) l).1=r ∧ ¬ r+1 < (finT (.b h x y) l).2.length:=by
     unfold finT at h2 ⊢
     cases hi:(finT y (finT x l).2).2.idxOf? (nd h (finT x l).1 (finT y (finT x l).2).1) with
     | some k=>rw [put_found hi] at h2;simp at h2;omega
     | none=>rw [put_new hi] at h2 ⊢;simp at h2 ⊢;omega
    rw [← this.1,o2,this.1]
    exact ⟨Nat.le_refl _,fun h=>absurd h this.2⟩
theorem okay_nil:Okay []:=fun k n h=>by simp at h
theorem finT_last {t:Tm} (ht:t.ok):(finT t []).1+1=(finT t []).2.length:=by
 have h1:=finT_lt t []
 have h2:=(finT_okay t [] ht okay_nil).2
 by_cases h:(finT t []).1+1 < (finT t []).2.length
 ·have:=(all_size t [] (finT t []).1 ht okay_nil (by simp) h1).2 h
  rw [h2] at this;omega
 ·omega
end Go.Ab
namespace Go.Ab
set_option linter.unusedVariables false
set_option linter.unusedSimpArgs false
structure FInv (f:List Nd) (s:FSt):Prop where
 has : ∀ i r,s.done.lookup i=some r→HasT (tmOf f i) s.out r
 rng : ∀ p∈s.done,p.1 < f.length
 keys:(s.done.map Prod.fst).Nodup
 len:s.out.length≤s.done.length
theorem lookup_none {d:List (Nat×Nat)} {i:Nat} (h : ∀ p∈d,p.1≠i):d.lookup i=none:=by
 induction d with
 | nil=>rfl
 | cons p d ih =>
  obtain ⟨a,b⟩:=p
  have h0:=h (a,b) (by simp)
  have:(i==a)=false:=by simpa using fun e=>h0 e.symm
  simp only [List.lookup,this]
  exact ih fun q hq=>h q (by simp [hq])
theorem lookup_not {d:List (Nat×Nat)} {i:Nat} (h:d.lookup i=none) : ∀ p∈d,p.1≠i:=by
 induction d with
 | nil=>simp
 | cons p d ih =>
  obtain ⟨a,b⟩:=p
  simp only [List.lookup] at h
  split at h
  ·cases h
  ·rename_i e
   intro q hq
   rcases List.mem_cons.1 hq with rfl|hq
   ·intro h';subst h';simp at e
   ·exact ih h q hq
theorem lookup_append {d:List (Nat×Nat)} {i j r q:Nat} (h:(d++[(i,r)]).lookup j=some q):d.lookup j=some q∨(j=i∧q=r∧d.lookup j=none):=by
 induction d with
 | nil =>
  simp only [List.nil_append,List.lookup] at h
  split at h
  ·rename_i e;simp at e;cases h;exact .inr ⟨e,rfl,rfl⟩
  ·cases h
 | cons p d ih =>
  obtain ⟨a,b⟩:=p
  simp only [List.cons_append,List.lookup] at h ⊢
  split at h
  ·exact .inl h
  ·exact ih h
theorem fin_spec {f:List Nd} (hf:Okay f) : ∀ (k i:Nat) (s:FSt),i < k→i < f.length→FInv f s →
  FInv f (fin f k i s).2∧(fin f k i s).1=(finT (tmOf f i) s.out).1∧(fin f k i s).2.out=(finT (tmOf f i) s.out).2∧(∃ l,(fin f k i s).2.done=s.done++l ∧ ∀ p∈l,p.1≤i)
 | 0,i,s,h,_,_=>by omega
 | k+1,i,s,hk,hi,hs=>by
  unfold fin
  cases hd:s.done.lookup i with
  | some r =>
   have:=hs.has i r hd
   unfold HasT at this
   refine ⟨hs,?_,?_,[],by simp,by simp⟩
   ·rw [this]
   ·rw [this]
  | none =>
   simp only
   have key : ∀ (a b:Nat) (s2:FSt),FInv f s2→(∃ l,s2.done=s.done++l ∧ ∀ p∈l,p.1 < i)→finT (tmOf f i) s.out=put s2.out (nd (f.getD i default).hd a b) →
     (∃ m,s2.out=s.out++m) →
     FInv f ⟨(put s2.out (nd (f.getD i default).hd a b)).2,s2.done++[(i,(put s2.out (nd (f.getD i default).hd a b)).1)]⟩∧(put s2.out (nd (f.getD i default).hd a b)).1=(finT (tmOf f i) s.out).1 ∧
     (put s2.out (nd (f.getD i default).hd a b)).2=(finT (tmOf f i) s.out).2∧(∃ l,s2.done++[(i,(put s2.out (nd (f.getD i default).hd a b)).1)]=s.done++l ∧ ∀ p∈l,p.1≤i):=by
    intro a b s2 h2 hl hT hm
    obtain ⟨l,hl1,hl2⟩:=hl
    obtain ⟨m,hm⟩:=(put_ext s2.out (nd (f.getD i default).hd a b)).1
    have hni : ∀ p∈s2.done,p.1≠i:=by
     intro p hp
     rw [hl1,List.mem_append] at hp
     rcases hp with hp|hp
     ·exact lookup_not hd p hp
     ·have:=hl2 p hp;omega
    refine ⟨⟨fun j r hj=>?_,fun p hp=>?_,?_,?_⟩,by rw [hT],by rw [hT],l++[(i,(put s2.out (nd (f.getD i default).hd a b)).1)],by rw [hl1,List.append_assoc],fun p hp=>?_⟩
    ·rcases lookup_append hj with h|⟨rfl,rfl,-⟩
     ·have:=(h2.has j r h).mono m
      rw [← hm] at this;exact this
     ·rw [← hT];exact finT_has _ _
    ·rcases List.mem_append.1 hp with hp|hp
     ·exact h2.rng p hp
     ·simp at hp;subst hp;exact hi
    ·simp only [List.map_append,List.map_cons,List.map_nil]
     rw [List.nodup_append]
     refine ⟨h2.keys,by simp,fun x hx y hy=>?_⟩
     simp at hy;subst hy
     obtain ⟨p,hp,rfl⟩:=List.mem_map.1 hx
     exact hni p hp
    ·have:=h2.len
     simp only [List.length_append,List.length_cons,List.length_nil]
     cases hx:s2.out.idxOf? (nd (f.getD i default).hd a b) with
     | some k=>rw [put_found hx];simp only;omega
     | none=>rw [put_new hx];simp only [List.length_append,List.length_cons,List.length_nil];omega
    ·rcases List.mem_append.1 hp with hp|hp
     ·have:=hl2 p hp;omega
     ·simp at hp;subst hp;exact Nat.le_refl _
   have hT:=tmOf_eq hf hi
   have hn:=nErr_iff.1 (okay_at hf hi)
   cases hy:useY (f.getD i default).op with
   | true =>
    have hx:=useX_of_useY hy
    have e1:=okay_x hf hi hx
    have e2:=okay_y hf hi hy
    simp only [hy,hx,cond_true] at hT ⊢
    obtain ⟨a1,a2,a3,la,a4,a5⟩:=fin_spec hf k (f.getD i default).x.toNat s (by omega) (by omega) hs
    obtain ⟨b1,b2,b3,lb,b4,b5⟩:=fin_spec hf k (f.getD i default).y.toNat (fin f k (f.getD i default).x.toNat s).2 (by omega) (by omega) a1
    obtain ⟨m1,hm1⟩:=finT_ext (tmOf f (f.getD i default).x.toNat) s.out
    obtain ⟨m2,hm2⟩:=finT_ext (tmOf f (f.getD i default).y.toNat) (fin f k (f.getD i default).x.toNat s).2.out
    refine key _ _ _ b1 ⟨la++lb,by rw [b4,a4,List.append_assoc],fun p hp=>?_⟩ ?_ ⟨m1++m2,by rw [b3,hm2,a3,hm1,List.append_assoc]⟩
    ·rcases List.mem_append.1 hp with hp|hp
     ·have:=a5 p hp;omega
     ·have:=b5 p hp;omega
    ·rw [hT,finT,b3,b2,a3,a2]
   | false =>
    cases hx:useX (f.getD i default).op with
    | true =>
     have e1:=okay_x hf hi hx
     simp only [hy,hx,cond_true,cond_false] at hT ⊢
     obtain ⟨a1,a2,a3,la,a4,a5⟩:=fin_spec hf k (f.getD i default).x.toNat s (by omega) (by omega) hs
     obtain ⟨m1,hm1⟩:=finT_ext (tmOf f (f.getD i default).x.toNat) s.out
     have e0:(f.getD i default).y.toNat=0:=by rw [hn.2.2.2.2 hy];rfl
     refine key _ _ _ a1 ⟨la,a4,fun p hp=>by have:=a5 p hp;omega⟩ ?_ ⟨m1,by rw [a3,hm1]⟩
     rw [hT,finT,a2,a3,e0]
    | false =>
     simp only [hy,hx,cond_true,cond_false] at hT ⊢
     have e0:(f.getD i default).y.toNat=0:=by rw [hn.2.2.2.2 hy];rfl
     have e1:(f.getD i default).x.toNat=0:=by rw [hn.2.2.1 hx];rfl
     refine key _ _ _ hs ⟨[],by simp,by simp⟩ ?_ ⟨[],by simp⟩
     rw [hT,finT,e0,e1]
theorem fin_fuel {f:List Nd} (hf:Okay f) : ∀ (k k' i:Nat) (s:FSt),i < k→i < k'→i < f.length→fin f k i s=fin f k' i s
 | 0,_,_,_,h,_,_=>by omega
 | _+1,0,_,_,_,h,_=>by omega
 | k+1,k'+1,i,s,h1,h2,hi=>by
  unfold fin
  cases hd:s.done.lookup i with
  | some r=>rfl
  | none =>
   simp only
   cases hy:useY (f.getD i default).op with
   | true =>
    have hx:=useX_of_useY hy
    have e1:=okay_x hf hi hx
    have e2:=okay_y hf hi hy
    simp only [hx,cond_true]
    rw [fin_fuel hf k k' (f.getD i default).x.toNat s (by omega) (by omega) (by omega),fin_fuel hf k k' (f.getD i default).y.toNat _ (by omega) (by omega) (by omega)]
   | false =>
    cases hx:useX (f.getD i default).op with
    | true =>
     have e1:=okay_x hf hi hx
     simp only [cond_true,cond_false]
     rw [fin_fuel hf k k' (f.getD i default).x.toNat s (by omega) (by omega) (by omega)]
    | false=>rfl
theorem inv_nil (f:List Nd):FInv f ⟨[],[]⟩:=⟨fun i r h=>by simp at h,by simp,by simp,by simp⟩
theorem fnodup_le {l:List Nat} {n:Nat} (h:l.Nodup) (hn : ∀ x∈l,x < n):l.length≤n:=by
 have h2:l ⊆ List.range n:=fun x hx=>List.mem_range.2 (hn x hx)
 have:=List.Nodup.length_le_of_subset h h2
 simpa using this
structure Canon (t:Tm) (c:List Nd):Prop where
 ok:Okay c
 pos:0 < c.length
 tree:tmOf c (c.length - 1)=t
 all : ∀ p:Hd→Prop,(∀ n∈c,p n.hd)↔t.all p
theorem canonT {t:Tm} (ht:t.ok):Canon t (finT t []).2:=by
 have h1:=finT_last ht
 obtain ⟨h2,h3⟩:=finT_okay t [] ht okay_nil
 refine ⟨h2,by omega,by rw [← h1,Nat.add_sub_cancel];exact h3,fun p=>?_⟩
 rw [finT_all p t []];simp
theorem compactL_eq {f:List Nd} (hf:Okay f) {i:Nat} (hi:i < f.length):compactL f i=(finT (tmOf f i) []).2∧(compactL f i).length≤f.length∧(fin f (i+1) i ⟨[],[]⟩).1+1=(compactL f i).length:=by
 obtain ⟨a1,a2,a3,a4⟩:=fin_spec hf (i+1) i ⟨[],[]⟩ (by omega) hi (inv_nil f)
 refine ⟨a3,?_,?_⟩
 ·have h1:=a1.len
  have h2:=fnodup_le a1.keys (n:=f.length) (fun x hx=>by obtain ⟨p,hp,rfl⟩:=List.mem_map.1 hx;exact a1.rng p hp)
  rw [List.length_map] at h2
  unfold compactL;omega
 ·unfold compactL
  rw [a2,a3]
  exact finT_last (tmOf_ok hf (i+1) i (by omega) hi)
theorem compactL_canon {f:List Nd} (hf:Okay f) {i:Nat} (hi:i < f.length):Canon (tmOf f i) (compactL f i):=by
 rw [(compactL_eq hf hi).1];exact canonT (tmOf_ok hf (i+1) i (by omega) hi)
def sets {β:Type} (v:Hd→β→β→β) (d:β):List Nd→List β→List β
 | [],acc=>acc
 | n::r,acc=>sets v d r (acc++[v n.hd (acc.getD n.x.toNat d) (acc.getD n.y.toNat d)])
def ev {β:Type} (v:Hd→β→β→β) (d:β):Tm→β
 | .z h=>v h d d
 | .u h x=>v h (ev v d x) d
 | .b h x y=>v h (ev v d x) (ev v d y)
structure Uses {β:Type} (v:Hd→β→β→β):Prop where
 x : ∀ h a b c,useX h.op=false→v h a c=v h b c
 y : ∀ h a b c,useY h.op=false→v h c a=v h c b
theorem sets_len {β:Type} (v:Hd→β→β→β) (d:β) : ∀ (l:List Nd) (acc:List β),(sets v d l acc).length=acc.length+l.length
 | [],acc=>by simp [sets]
 | n::r,acc=>by rw [sets,sets_len v d r];simp;omega
theorem sets_go {β:Type} {v:Hd→β→β→β} {d:β} (hv:Uses v) {f:List Nd} (hf:Okay f) : ∀ (l:List Nd) (acc:List β),f.drop acc.length=l→acc.length≤f.length→(∀ i,i < acc.length→acc.getD i d=ev v d (tmOf f i)) →
  ∀ i,i < f.length→(sets v d l acc).getD i d=ev v d (tmOf f i)
 | [],acc,h1,h2,h3,i,hi=>by
  have:acc.length=f.length:=by
   have:=congrArg List.length h1;simp at this;omega
  exact h3 i (by omega)
 | n::r,acc,h1,h2,h3,i,hi=>by
  have hlt:acc.length < f.length:=by
   have:=congrArg List.length h1;simp at this;omega
  have hn:f.getD acc.length default=n:=by
   have:=congrArg (fun l=>l[0]?) h1
   simp at this
   simp [List.getD,this]
  rw [sets]
  refine sets_go hv hf r _ ?_ (by simp;omega) (fun j hj=>?_) i hi
  ·simp only [List.length_append,List.length_cons,List.length_nil]
   have:=congrArg List.tail h1
   simpa using this
  ·by_cases hj2:j < acc.length
   ·rw [show (acc++[v n.hd (acc.getD n.x.toNat d) (acc.getD n.y.toNat d)]).getD j d=acc.getD j d by simp [List.getD,List.getElem?_append_left hj2]]
    exact h3 j hj2
   ·simp at hj
    have e:j=acc.length:=by omega
    subst e
    rw [show (acc++[v n.hd (acc.getD n.x.toNat d) (acc.getD n.y.toNat d)]).getD acc.length d=v n.hd (acc.getD n.x.toNat d) (acc.getD n.y.toNat d) by simp [List.getD]]
    rw [tmOf_eq hf hlt,hn]
    cases hy:useY n.op with
    | true =>
     have hx:=useX_of_useY hy
     have e1:=okay_x hf hlt (by rw [hn];exact hx)
     have e2:=okay_y hf hlt (by rw [hn];exact hy)
     rw [hn] at e1 e2
     simp only [cond_true,ev]
     rw [h3 _ e1.2,h3 _ e2.2]
    | false =>
     cases hx:useX n.op with
     | true =>
      have e1:=okay_x hf hlt (by rw [hn];exact hx)
      rw [hn] at e1
      simp only [cond_true,cond_false,ev]
      rw [h3 _ e1.2]
      exact hv.y _ _ _ _ hy
     | false =>
      simp only [cond_false,ev]
      rw [hv.x _ _ d _ hx,hv.y _ _ d _ hy]
theorem sets_last {β:Type} {v:Hd→β→β→β} {d:β} (hv:Uses v) {t:Tm} {c:List Nd} (hc:Canon t c):(sets v d c []).getD (c.length - 1) d=ev v d t:=by
 have hp:=hc.pos
 rw [sets_go hv hc.ok c [] (by simp) (by simp) (fun i hi=>by simp at hi) (c.length - 1) (by omega),hc.tree]
end Go.Ab
namespace Go.Ab
open Go Go.Proofs
set_option linter.unusedSimpArgs false
set_option linter.unusedVariables false
set_option maxRecDepth 10000
set_option maxHeartbeats 4000000
variable {T:Nat→Obj→Prop}
theorem TestS.yes {b:Bool} {p q:Prop} (hb:b=true) (h:p):TestS b p q:=⟨fun _=>h,fun e=>by rw [hb] at e;cases e⟩
theorem TestS.no {b:Bool} {p q:Prop} (hb:b=false) (h:q):TestS b p q:=⟨fun e=>(by rw [hb] at e;cases e),fun _=>h⟩
theorem TestS.decY {x:Prop} [Decidable x] {p q:Prop} (hx:x) (h:p):TestS (decide x) p q := .yes (decide_eq_true hx) h
theorem TestS.decN {x:Prop} [Decidable x] {p q:Prop} (hx : ¬x) (h:q):TestS (decide x) p q := .no (decide_eq_false hx) h
abbrev dNd (n:Nd):D := .agg [.int .i64 n.op,.int .i64 n.i,.int .i64 n.e,.int .i64 n.g,.int .i64 n.x,.int .i64 n.y]
abbrev dF (f:List Nd):D := .arr 6 (f.map dNd)
abbrev dUse (op:Int):D := .agg [.bool (useX op),.bool (useY op),.bool (useFact op),.bool (useAgent op),.bool (useGroup op),.bool (useEvent op),.int .i64 (fragOf op)]
theorem fn_uses (op:Int):Fn Tryz.prog T f_formula_uses [.d (.int .i64 op)] [] (.d (.tup [dUse op,.bool (isOp op)])) []:=by
 by_cases h:1≤op∧op≤21
 ·have:op=1∨op=2∨op=3∨op=4∨op=5∨op=6∨op=7∨op=8∨op=9∨op=10∨op=11∨op=12∨op=13∨op=14∨op=15∨op=16∨op=17∨op=18∨op=19∨op=20∨op=21:=by omega
  clear h
  rcases this with rfl|rfl|rfl|rfl|rfl|rfl|rfl|rfl|rfl|rfl|rfl|rfl|rfl|rfl|rfl|rfl|rfl|rfl|rfl|rfl|rfl
  all_goals refine fn_dataR hmix k_formula_uses (by show 1≤55;decide) ?_
  all_goals (repeat' ((conv=>whnf);first|refine TestS.decN (by omega) ?_|refine TestS.decY (by omega) ?_|refine vA ?_));all_goals try conv=>whnf
  all_goals first|rfl|kernel_rfl|skip
 ·refine fn_dataR hmix k_formula_uses (by show 1≤55;decide) ?_
  (repeat' ((conv=>whnf);first|refine TestS.decN (by omega) ?_|refine vA ?_));all_goals try conv=>whnf
  have e1:isOp op=false:=by simp only [isOp,decide_eq_false_iff_not];omega
  have e2:useX op=false:=by simp only [useX,decide_eq_false_iff_not];omega
  have e3:useY op=false:=by simp only [useY,decide_eq_false_iff_not];omega
  have e4:useFact op=false:=by simp only [useFact,decide_eq_false_iff_not];omega
  have e5:useAgent op=false:=by simp only [useAgent,decide_eq_false_iff_not];omega
  have e6:useGroup op=false:=by simp only [useGroup,decide_eq_false_iff_not];omega
  have e7:useEvent op=false:=by simp only [useEvent,decide_eq_false_iff_not];omega
  have e8:fragOf op=0:=by unfold fragOf; (repeat' rw [if_neg (by omega)])
  rw [e1,dUse,e2,e3,e4,e5,e6,e7,e8]
  first|rfl|skip
theorem fn_operand (u:Bool) (f a:Int):Fn Tryz.prog T f_formula_operand [.d (.bool u),.d (.int .i64 f),.d (.int .i64 a)] [] (.d (.bool (opdOk u f a))) []:=by
 refine fn_dataR hmix k_formula_operand (by show 3≤25;decide) ?_
 (repeat' ((conv=>whnf);first|refine vA ?_|refine vE ?_|((first|refine vF ?_ ?_|refine vI ?_ ?_)<;>intro hc<;>try simp only [vL] at hc)|refine vZ ?_));all_goals try conv=>whnf
 all_goals (cases u<;>simp_all [opdOk]<;>omega)
theorem fn_outside (u:Bool) (v lo hi:Int):Fn Tryz.prog T f_formula_nodeError_1 [.d (.bool u),.d (.int .i64 v),.d (.int .i64 lo),.d (.int .i64 hi)] [] (.d (.bool (outside u v lo hi))) []:=by
 refine fn_dataR hmix k_formula_nodeError_1 (by show 4≤20;decide) ?_
 (repeat' ((conv=>whnf);first|refine vA ?_|((first|refine vF ?_ ?_|refine vI ?_ ?_)<;>intro hc<;>try simp only [vL] at hc)|refine vZ ?_));all_goals try conv=>whnf
 all_goals (cases u<;>simp_all [outside]<;>omega)
def nErrB (ok ux uy fa ag ev gr:Bool) (n:Nd) (at_:Int):Int :=
 if ok=false then 10 else
 if opdOk ux n.x at_=false∨opdOk uy n.y at_=false then 3 else
 if (!(fa||ag||ev)&&decide (n.i≠0)||(!ev&&decide (n.e≠0))||(!gr&&decide (n.g≠0)))=true then 3 else
 if (outside fa n.i 0 7||outside ag n.i 0 3||outside ev n.i 0 7||outside ev n.e 0 7||outside gr n.g 1 15)=true then 2 else 0
set_option maxHeartbeats 40000000 in
theorem fn_nodeErrB (ok ux uy fa ag ev gr:Bool) (fr:Int) (n:Nd) (a:Int) (hu:Fn Tryz.prog T f_formula_uses [.d (.int .i64 n.op)] [] (.d (.tup [.agg [.bool ux,.bool uy,.bool fa,.bool ag,.bool gr,.bool ev,.int .i64 fr],.bool ok])) []) :
  Fn Tryz.prog T f_formula_nodeError [.d (dNd n),.d (.int .i64 a)] [] (.d (.int .i64 (nErrB ok ux uy fa ag ev gr n a))) []:=by
 refine fn_dataR hmix k_formula_nodeError (by show 2≤106;decide) ?_
 (repeat' ((conv=>whnf);first|refine vA ?_|refine vE ?_|((first|refine vD ?_ ?_|refine vI ?_ ?_)<;>intro hc)|refine vX ?_|refine yD hu (by (repeat refine ⟨⟨rfl,rfl⟩,?_⟩);rfl) rfl ?_|refine yD (fn_operand _ _ _) ⟨⟨rfl,rfl⟩,⟨rfl,rfl⟩,⟨rfl,rfl⟩,rfl⟩ rfl ?_|refine yD (fn_outside _ _ _ _) (by (repeat refine ⟨⟨rfl,rfl⟩,?_⟩);rfl) rfl ?_));all_goals try conv=>whnf
 all_goals (clear hu;simp_all [nErrB])
theorem fn_nodeError (n:Nd) (a:Int):Fn Tryz.prog T f_formula_nodeError [.d (dNd n),.d (.int .i64 a)] [] (.d (.int .i64 (nErr n a))) []:=by
 exact fn_nodeErrB _ _ _ _ _ _ _ _ n a (fn_uses n.op)
theorem fn_fCheck (f:List Nd):Fn Tryz.prog T f_formula_Check [.d (dF f)] [] (.d (.int .i64 (fErr f))) []:=by
 refine fn_dataR hmix k_formula_Check (by show 1≤26;decide) ?_
 (repeat' ((conv=>whnf);first|refine vA ?_|(refine vF ?_ ?_<;>intro hc<;>try simp only [vL] at hc)|refine vJ fun hg=>?_|refine vX ?_));all_goals try conv=>whnf
 ·simp_all [fErr]
 ·rw [fErr,if_neg (by omega),if_pos (by omega)]
 ·have h0 : ¬f.length=0:=by omega
  refine loop_intro (fun (k:Nat)=>[(12,.d (dF f)),(13,.d (.int .i64 ((f.map dNd).length:Int))),(14,.d (.int .i64 ((k:Int))))]) (fun (k:Nat)=>k≤f.length∧fErr f=fErrGo (f.drop k) k) (fun (k:Nat)=>f.length - k) (0) (⟨by simp,by rw [fErr,if_neg (by omega),if_neg (by omega)];rfl⟩) (by (repeat' first|exact trivial|exact rfl|refine And.intro ?_ ?_)) ?_
  rintro k ⟨hk,hI⟩
  (repeat' ((conv=>whnf);first|refine vA ?_|((first|refine vD ?_ ?_|refine vF ?_ ?_)<;>intro hc<;>try simp only [vL] at hc)|(refine vQ ?_ fun x hx=>?_;·omega)|(refine vO ?_ ?_;·omega)|refine vX ?_|refine yD (fn_nodeError _ _) ⟨⟨rfl,rfl⟩,⟨rfl,rfl⟩,rfl⟩ rfl ?_));all_goals try conv=>whnf
  ·rw [hI,drop_cons hx,fErrGo,if_pos hc]
  ·exact ⟨k+1,[],[],⟨by (omega),by rw [hI,drop_cons hx,fErrGo,if_neg (by simpa using hc)]⟩,by (omega),by (refine ⟨rfl,rfl,rfl,?_,?_⟩;repeat' first|exact trivial|exact rfl|refine And.intro ?_ ?_)⟩
  ·rw [hI,List.drop_eq_nil_of_le (by omega)];rfl
end Go.Ab
namespace Go.Ab
open Go Go.Proofs
set_option linter.unusedSimpArgs false
set_option linter.unusedVariables false
set_option maxRecDepth 10000
set_option maxHeartbeats 4000000
variable {T:Nat→Obj→Prop}
abbrev dDone (d:List (Nat×Nat)):List (D×D):=d.map fun p=>(D.int .i64 (p.1:Int),D.int .i64 (p.2:Int))
def dNum (l:List Nd) (k:Nat):List (D×D):=match l with
 | []=>[]
 | n::r=>(dNd n,.int .i64 (k:Int))::dNum r (k+1)
theorem same_nd (a b:Nd):D.eqk (dNd a) (dNd b)=some (decide (a=b)):=by
 obtain ⟨a1,a2,a3,a4,a5,a6⟩:=a
 obtain ⟨b1,b2,b3,b4,b5,b6⟩:=b
 show some (decide (a1=b1)&&(decide (a2=b2)&&(decide (a3=b3)&&(decide (a4=b4)&&(decide (a5=b5)&&(decide (a6=b6)&&true))))))=_
 simp only [Nd.mk.injEq,Bool.decide_and,Bool.and_true]
theorem find_done (d:List (Nat×Nat)) (i:Nat):findD (dDone d) (.int .i64 (i:Int))=some ((d.lookup i).map fun r=>D.int .i64 (r:Int)):=by
 induction d with
 | nil=>rfl
 | cons p d ih =>
  obtain ⟨a,b⟩:=p
  show (match some (decide ((i:Int)=(a:Int))) with
   | some true=>some (some (D.int .i64 (b:Int)))
   | some false=>findD (dDone d) (.int .i64 (i:Int))
   | none=>none)=_
  by_cases h:i=a
  ·subst h;simp [List.lookup]
  ·have h1:decide ((i:Int)=(a:Int))=false:=by simp only [decide_eq_false_iff_not];omega
   have h2:(i==a)=false:=by simpa using h
   rw [h1]
   simp only [List.lookup,h2]
   exact ih
theorem find_num (x:Nd) : ∀ (l:List Nd) (k:Nat),findD (dNum l k) (dNd x)=some ((l.idxOf? x).map fun r=>D.int .i64 ((k+r:Nat):Int))
 | [],k=>rfl
 | n::r,k=>by
  have ih:=find_num x r (k+1)
  show (match D.eqk (dNd x) (dNd n) with
   | some true=>some (some (D.int .i64 (k:Int)))
   | some false=>findD (dNum r (k+1)) (dNd x)
   | none=>none)=_
  rw [same_nd]
  by_cases h:x=n
  ·subst h;simp [List.idxOf?,List.findIdx?_cons]
  ·have h2:(n==x)=false:=by simpa using fun e=>h e.symm
   simp only [h,decide_false,ih,List.idxOf?,List.findIdx?_cons,h2]
   cases r.findIdx? (· == x) with
   | none=>rfl
   | some j=>simp;omega
theorem dNum_append (x:Nd) : ∀ (l:List Nd) (k:Nat),dNum (l++[x]) k=dNum l k++[(dNd x,.int .i64 ((k+l.length:Nat):Int))]
 | [],k=>rfl
 | n::r,k=>by
  show (dNd n,D.int .i64 (k:Int))::dNum (r++[x]) (k+1)=_
  rw [dNum_append x r (k+1),show k+1+r.length=k+(n::r).length by simp;omega]
  rfl
theorem dNum_append' (x:Nd) (l:List Nd):dNum (l++[x]) 0=dNum l 0++[(dNd x,.int .i64 (((l.map dNd).length:Nat):Int))]:=by
 rw [dNum_append,List.length_map,Nat.zero_add]
abbrev finFn:V := .fn f_formula_compact_1 [.ptr 0 0,.ptr 1 0,.ptr 2 0,.ptr 3 0,.ptr 4 0]
abbrev finOb (f:List Nd) (out:V) (s:FSt):List Ob:=[.box [.map 5],.box [.d (dF f)],.box [finFn],.box [.map 6],.box [out],.map (dDone s.done),.map (dNum s.out 0)]
abbrev finVs (i:Int):List V:=[.d (.int .i64 i),.ptr 0 0,.ptr 1 0,.ptr 2 0,.ptr 3 0,.ptr 4 0]
abbrev finUp (f:List Nd) (s:FSt):List (Option Ob):=[some (.box [.map 5]),some (.box [.d (dF f)]),some (.box [finFn]),some (.box [.map 6]),some (.box [.own 8]),some (.map (dDone s.done)),some (.map (dNum s.out 0)),none,some (.row 6 (s.out.map dNd))]
abbrev finUp0 (f:List Nd) (s:FSt):List (Option Ob):=[some (.box [.map 5]),some (.box [.d (dF f)]),some (.box [finFn]),some (.box [.map 6]),some (.box [.own 7]),some (.map (dDone s.done)),some (.map (dNum s.out 0)),some (.row 6 (s.out.map dNd))]
theorem uses_of {op:Int} {x y:Bool} (hx:useX op=x) (hy:useY op=y):Fn Tryz.prog T f_formula_uses [.d (.int .i64 op)] [] (.d (.tup [.agg [.bool x,.bool y,.bool (useFact op),.bool (useAgent op),.bool (useGroup op),.bool (useEvent op),.int .i64 (fragOf op)],.bool (isOp op)])) []:=by
 subst hx;subst hy
 exact fn_uses op
theorem dDone_append (d:List (Nat×Nat)) (i r:Nat):dDone (d++[(i,r)])=dDone d++[(.int .i64 (i:Int),.int .i64 (r:Int))]:=by simp
theorem find_num_some {x:Nd} {l:List Nd} {j:Nat} (h:l.idxOf? x=some j):findD (dNum l 0) (dNd x)=some (some (.int .i64 (j:Int))):=by
 rw [find_num,h];simp
theorem find_num_none {x:Nd} {l:List Nd} (h:l.idxOf? x=none):findD (dNum l 0) (dNd x)=some none:=by
 rw [find_num,h];rfl
theorem find_done_none {d:List (Nat×Nat)} {i:Nat} (h:d.lookup i=none):findD (dDone d) (.int .i64 (i:Int))=some none:=by
 rw [find_done,h];rfl
theorem fin_ff {f:List Nd} (hf:Okay f) {k:Nat} {s:FSt} (hk:k < f.length) (hd:s.done.lookup k=none) (hx:useX (f.getD k default).op=false) (hy:useY (f.getD k default).op=false) :
  fin f (k+1) k s=((put s.out (f.getD k default)).1,⟨(put s.out (f.getD k default)).2,s.done++[(k,(put s.out (f.getD k default)).1)]⟩):=by
 have hn:=nErr_iff.1 (okay_at hf hk)
 rw [fin,hd]
 simp only [hx,hy,cond_false]
 have e0:(((f.getD k default).y.toNat:Nat):Int)=(f.getD k default).y:=by rw [hn.2.2.2.2 hy];rfl
 have e1:(((f.getD k default).x.toNat:Nat):Int)=(f.getD k default).x:=by rw [hn.2.2.1 hx];rfl
 rw [e0,e1]
theorem fin_tf {f:List Nd} (hf:Okay f) {k:Nat} {s:FSt} (hk:k < f.length) (hd:s.done.lookup k=none) {n:Nd} (hn:f.getD k default=n) (hx:useX n.op=true) (hy:useY n.op=false) {r:Nat} {s1:FSt} (h1:fin f (n.x.toNat+1) n.x.toNat s=(r,s1)) :
  fin f (k+1) k s=((put s1.out ⟨n.op,n.i,n.e,n.g,(r:Int),n.y⟩).1,⟨(put s1.out ⟨n.op,n.i,n.e,n.g,(r:Int),n.y⟩).2,s1.done++[(k,(put s1.out ⟨n.op,n.i,n.e,n.g,(r:Int),n.y⟩).1)]⟩):=by
 subst hn
 have hn:=nErr_iff.1 (okay_at hf hk)
 have e1:=okay_x hf hk hx
 rw [fin,hd]
 simp only [hx,hy,cond_false,cond_true]
 rw [fin_fuel hf k ((f.getD k default).x.toNat+1) _ _ (by omega) (by omega) (by omega),h1]
 have e0:(((f.getD k default).y.toNat:Nat):Int)=(f.getD k default).y:=by rw [hn.2.2.2.2 hy];rfl
 simp only [e0]
theorem fin_tt {f:List Nd} (hf:Okay f) {k:Nat} {s:FSt} (hk:k < f.length) (hd:s.done.lookup k=none) {n:Nd} (hn:f.getD k default=n) (hx:useX n.op=true) (hy:useY n.op=true) {r r2:Nat} {s1 s2:FSt} (h1:fin f (n.x.toNat+1) n.x.toNat s=(r,s1)) (h2:fin f (n.y.toNat+1) n.y.toNat s1=(r2,s2)) :
  fin f (k+1) k s=((put s2.out ⟨n.op,n.i,n.e,n.g,(r:Int),(r2:Int)⟩).1,⟨(put s2.out ⟨n.op,n.i,n.e,n.g,(r:Int),(r2:Int)⟩).2,s2.done++[(k,(put s2.out ⟨n.op,n.i,n.e,n.g,(r:Int),(r2:Int)⟩).1)]⟩):=by
 subst hn
 have e1:=okay_x hf hk hx
 have e2:=okay_y hf hk hy
 rw [fin,hd]
 simp only [hx,hy,cond_true]
 rw [fin_fuel hf k ((f.getD k default).x.toNat+1) (f.getD k default).x.toNat s (by omega) (by omega) (by omega),h1]
 simp only
 rw [fin_fuel hf k ((f.getD k default).y.toNat+1) (f.getD k default).y.toNat s1 (by omega) (by omega) (by omega),h2]
theorem fin_lookup {f:List Nd} (hf:Okay f) {j k:Nat} {s:FSt} (hj:j < k) (hjf:j < f.length) (hs:FInv f s) (hd:s.done.lookup k=none):FInv f (fin f (j+1) j s).2∧(fin f (j+1) j s).2.done.lookup k=none:=by
 obtain ⟨h1,h2,h3,l,h4,h5⟩:=fin_spec hf (j+1) j s (by omega) hjf hs
 refine ⟨h1,?_⟩
 rw [h4]
 exact lookup_none fun p hp=>by
  rcases List.mem_append.1 hp with hp|hp
  ·exact lookup_not hd p hp
  ·have:=h5 p hp;omega
theorem fin_len {f:List Nd} {s:FSt} (hs:FInv f s):s.out.length≤f.length:=by
 have h1:=hs.len
 have h2:=fnodup_le hs.keys (n:=f.length) (fun x hx=>by obtain ⟨p,hp,rfl⟩:=List.mem_map.1 hx;exact hs.rng p hp)
 rw [List.length_map] at h2
 omega
theorem CallS.objsE {P:Program} {M:Nat→Option Ob} {n f:Nat} {vs lvs:List V} {obs:List Ob} {y:D} {obs':List (Option Ob)} {K:V→Upd→Nat→Prop} (js:List Nat) (hf:Fn P T f lvs obs (.d y) obs') (ha:VPasses M js [] 20 lvs vs)
  (ho:ObPasses M js [] obs js) (hnd:nodup js=true) (hsj:subl js (valReach M vs)=true) (hle:js.length≤obs'.length) (u:Upd) (hu:callU js [] n obs' false=u)
  (hK:K (.d y) u (obs'.length - js.length)):CallS (CallC P T) M n f vs K := .objs js hf ha ho hnd hsj hle (by rw [hu];exact hK)
end Go.Ab
namespace Go.Ab
set_option linter.unusedVariables false
set_option linter.unusedSimpArgs false
def uni (m:Hd→Nat) (c:List Nd):Nat:=c.foldl (fun s n=>s|||m n.hd) 0
theorem uni_go (m:Hd→Nat) : ∀ (c:List Nd) (s:Nat) (i:Nat),(c.foldl (fun s n=>s|||m n.hd) s).testBit i=(s.testBit i||c.any fun n=>(m n.hd).testBit i)
 | [],s,i=>by simp
 | n::r,s,i=>by simp only [List.foldl_cons,uni_go m r,Nat.testBit_or,List.any_cons,Bool.or_assoc]
theorem uni_bit (m:Hd→Nat) (c:List Nd) (i:Nat):(uni m c).testBit i=c.any fun n=>(m n.hd).testBit i:=by
 unfold uni;rw [uni_go];simp
theorem uni_step (m:Hd→Nat) {c:List Nd} {k:Nat} {n:Nd} (h:c[k]? = some n):uni m (c.take (k+1))=uni m (c.take k)|||m n.hd:=by
 unfold uni
 rw [List.take_add_one,h]
 simp
theorem uni_lt (m:Hd→Nat) {b:Nat} : ∀ {c:List Nd},uni m c < 2 ^ b ↔ ∀ n∈c,m n.hd < 2 ^ b:=by
 intro c
 constructor
 ·intro h n hn
  refine Nat.lt_pow_two_of_testBit _ fun i hi=>?_
  have h1:=Nat.testBit_lt_two_pow (Nat.lt_of_lt_of_le h (Nat.pow_le_pow_right (by omega) hi))
  rw [uni_bit] at h1
  exact Bool.eq_false_iff.2 fun h2=>by
   have:(c.any fun n=>(m n.hd).testBit i)=true:=List.any_eq_true.2 ⟨n,hn,h2⟩
   rw [this] at h1;cases h1
 ·intro h
  refine Nat.lt_pow_two_of_testBit _ fun i hi=>?_
  rw [uni_bit]
  refine List.any_eq_false.2 fun n hn=>?_
  have:=Nat.testBit_lt_two_pow (Nat.lt_of_lt_of_le (h n hn) (Nat.pow_le_pow_right (by omega) hi))
  simp [this]
theorem ofIntK {k:IntKind} {a:Nat} (h:a < 2 ^ k.bits):(BitVec.ofInt k.bits (a:Int)).toNat=a:=by
 rw [BitVec.toNat_ofInt,Int.emod_eq_of_lt (Int.natCast_nonneg a) (show (a:Int) < ((2 ^ k.bits:Nat):Int) from Int.ofNat_lt.2 h)]
 rfl
theorem wrap_nat {a:Nat} (h:a < 2 ^ 63):IntKind.wrap .i64 (a:Int)=a:=wrap_inR ⟨by omega,by omega⟩
theorem bits_or {a b:Nat} (ha:a < 2 ^ 63) (hb:b < 2 ^ 63):bitsI .i64 (fun p q=>p|||q) (a:Int) (b:Int)=((a|||b:Nat):Int):=by
 unfold bitsI
 rw [BitVec.toNat_or,ofIntK (k := .i64) (by simp [IntKind.bits];omega),ofIntK (k := .i64) (by simp [IntKind.bits];omega)]
 exact wrap_nat (Nat.or_lt_two_pow ha hb)
theorem bits_and {a b:Nat} (ha:a < 2 ^ 63) (hb:b < 2 ^ 63):bitsI .i64 (fun p q=>p&&&q) (a:Int) (b:Int)=((a&&&b:Nat):Int):=by
 unfold bitsI
 rw [BitVec.toNat_and,ofIntK (k := .i64) (by simp [IntKind.bits];omega),ofIntK (k := .i64) (by simp [IntKind.bits];omega)]
 exact wrap_nat (Nat.and_lt_two_pow _ hb)
theorem bits_andNot {a b:Nat} (ha:a < 2 ^ 63) (hb:b < 2 ^ 63):bitsI .i64 (fun p q=>p &&& ~~~q) (a:Int) (b:Int)=0 ↔ ∀ i,a.testBit i=true→b.testBit i=true:=by
 unfold bitsI
 have h64 : ∀ {a:Nat},a < 2 ^ 63→a < 2 ^ 64:=fun h=>by omega
 have e:(BitVec.ofInt IntKind.i64.bits (a:Int) &&& ~~~BitVec.ofInt IntKind.i64.bits (b:Int)).toNat < 2 ^ 63:=by
  rw [BitVec.toNat_and,ofIntK (k := .i64) (h64 ha)]
  exact Nat.lt_of_le_of_lt Nat.and_le_left ha
 rw [wrap_nat e]
 have e2:(((BitVec.ofInt IntKind.i64.bits (a:Int) &&& ~~~BitVec.ofInt IntKind.i64.bits (b:Int)).toNat:Nat):Int)=0↔(BitVec.ofInt IntKind.i64.bits (a:Int) &&& ~~~BitVec.ofInt IntKind.i64.bits (b:Int))=0#_:=by
  constructor
  ·intro h;exact BitVec.eq_of_toNat_eq (by simpa using (show (BitVec.ofInt IntKind.i64.bits (a:Int) &&& ~~~BitVec.ofInt IntKind.i64.bits (b:Int)).toNat=0 by omega))
  ·intro h;rw [h];simp
 rw [e2]
 have bit : ∀ {c:Nat},c < 2 ^ 63 → ∀ i,(BitVec.ofInt IntKind.i64.bits (c:Int)).getLsbD i=c.testBit i:=fun {c} hc i=>by
  rw [← BitVec.testBit_toNat,ofIntK (k := .i64) (h64 hc)]
 constructor
 ·intro h i hi
  have h2:=congrArg (fun x=>x.getLsbD i) h
  have hlt:i < 64:=by
   refine Nat.lt_of_not_le fun hle=>?_
   have:=Nat.testBit_lt_two_pow (Nat.lt_of_lt_of_le (h64 ha) (Nat.pow_le_pow_right (by omega) hle))
   rw [this] at hi;cases hi
  simp only [BitVec.getLsbD_and,BitVec.getLsbD_not,bit ha,bit hb,hi,Bool.true_and,BitVec.getLsbD_zero] at h2
  have:decide (i < IntKind.i64.bits)=true:=decide_eq_true hlt
  rw [this] at h2
  simpa using h2
 ·intro h
  apply BitVec.eq_of_getLsbD_eq
  intro i hi
  simp only [BitVec.getLsbD_and,BitVec.getLsbD_not,bit ha,bit hb,BitVec.getLsbD_zero]
  cases ha':a.testBit i with
  | false=>simp
  | true=>simp [h i ha']
theorem shr_nat {a n:Nat} : (a:Int).fdiv (2 ^ n)=((a >>> n:Nat):Int):=by
 have e:((2:Int) ^ n)=((2 ^ n:Nat):Int):=by simp
 rw [e,Nat.shiftRight_eq_div_pow,Int.fdiv_eq_ediv_of_nonneg _ (Int.natCast_nonneg _)];rfl
def fragN (h:Hd):Nat:=(fragOf h.op).toNat
def factN (h:Hd):Nat:=if useFact h.op=true then 2 ^ h.i.toNat else 0
def agentN (h:Hd):Nat:=if useAgent h.op=true then 2 ^ h.i.toNat else h.g.toNat
theorem fragN_cast (h:Hd):((fragN h:Nat):Int)=fragOf h.op:=by
 unfold fragN fragOf
 repeat' split
 all_goals rfl
theorem fragN_lt (h:Hd):fragN h < 2 ^ 9:=by
 unfold fragN fragOf
 repeat' split
 all_goals decide
theorem factN_lt {h:Hd} (hh:HdOk h):factN h < 2 ^ 8:=by
 unfold factN
 split
 ·rename_i h1
  have:=hh.fact h1
  exact Nat.pow_lt_pow_right (by omega) (by omega)
 ·decide
theorem agentN_lt {h:Hd} (hh:HdOk h):agentN h < 2 ^ 4:=by
 unfold agentN
 split
 ·rename_i h1
  have:=hh.agent h1
  exact Nat.pow_lt_pow_right (by omega) (by omega)
 ·cases hg:useGroup h.op with
  | true=>have:=hh.group hg;omega
  | false=>have:=hh.g0 hg;omega
end Go.Ab
namespace Go.Ab
open Go Go.Proofs
set_option linter.unusedSimpArgs false
set_option linter.unusedVariables false
set_option maxRecDepth 10000
set_option maxHeartbeats 4000000
variable {T:Nat→Obj→Prop}
theorem gbit {g k:Nat} (hg:g < 2 ^ 63) (hk:k≤64):bitsI .i64 (fun p q=>p&&&q) ((g:Int).fdiv (2 ^ (min ((k:Nat):Int).toNat IntKind.i64.bits))) 1=1↔g.testBit k=true:=by
 have e1:min ((k:Nat):Int).toNat IntKind.i64.bits=k:=Nat.min_eq_left (show k≤64 from hk)
 have h1:g >>> k < 2 ^ 63:=Nat.lt_of_le_of_lt (by rw [Nat.shiftRight_eq_div_pow];exact Nat.div_le_self _ _) hg
 rw [e1,shr_nat,show (1:Int)=((1:Nat):Int) from rfl,bits_and h1 (by decide)]
 rw [Nat.testBit,Nat.and_one_is_mod,Nat.one_and_eq_mod_two,bne_iff_ne]
 omega
def everyK (p:PM) (g:Nat) (s:BitVec 64) (k:Nat):BitVec 64:=(List.range k).foldl (fun o (a:Nat)=>if g.testBit a=true then o&&&knowsL p (a:Int) s else o) (allL p.W)
def everyL (p:PM) (g:Nat) (s:BitVec 64):BitVec 64:=everyK p g s p.cell.length
theorem everyK_succ (p:PM) (g:Nat) (s:BitVec 64) (k:Nat):everyK p g s (k+1)=if g.testBit k=true then everyK p g s k&&&knowsL p (k:Int) s else everyK p g s k:=by
 rw [everyK,List.range_succ,List.foldl_append];rfl
theorem fn_every (hR:RanksOk T) (p:PM) (hp:IntsOk p.rank) (hc0:checkL p=0) (g:Nat) (hgl:g < 2 ^ 63) (s:BitVec 64):Fn Tryz.prog T f_doxastic_every [.d (dPM p),.d (.int .i64 (g:Int)),.d (.u64 s)] [] (.d (.u64 (everyL p g s))) []:=by
 have hgd:=checkL_good hc0
 have h1:=hgd.w1
 have h2:=hgd.w2
 have h3:=hgd.n4
 refine fn_dataR hmix k_doxastic_every (by show 3≤30;decide) ?_
 (repeat' ((conv=>whnf);first|refine vA ?_|refine vJ fun hg=>?_|refine yD (fn_dox_all p h1 h2) ⟨⟨rfl,rfl⟩,rfl⟩ rfl ?_));all_goals try conv=>whnf
 refine loop_mem (fun ((k,o):Nat×BitVec 64)=>[(1,.d (.int .i64 ((g:Int)))),(2,.d (.u64 (s))),(3,.ptr 0 0),(13,.d (.int .i64 ((p.cell.map dI).length:Int))),(7,.d (.u64 (o))),(14,.d (.int .i64 ((k:Int))))]) (fun ((k,o):Nat×BitVec 64)=>[(0,some (boxPM p))]) 1 (fun ((k,o):Nat×BitVec 64)=>k≤p.cell.length∧o=everyK p g s k) (fun ((k,o):Nat×BitVec 64)=>p.cell.length - k) ((0,allL p.W)) [(0,0)] [] (⟨by simp,rfl⟩) (by (refine ⟨rfl,rfl,rfl,?_,?_⟩;repeat' first|exact trivial|exact rfl|refine And.intro ?_ ?_|refine ⟨_,rfl,?_⟩|decide)) ?_
 rintro ⟨k,o⟩ ⟨hk,hI⟩
 (repeat' ((conv=>whnf);first|refine vA ?_|(refine vF ?_ ?_<;>intro hc<;>try simp only [vL] at hc)|((first|refine vO ?_ ?_|refine vP ?_ ?_);·omega)|refine vY ?_|refine yD (fn_knows hR p hp h2 _ _) ⟨⟨rfl,rfl⟩,⟨rfl,rfl⟩,⟨rfl,rfl⟩,rfl⟩ rfl ?_));all_goals try conv=>whnf
 ·have hb:=(gbit (k:=k) hgl (by omega)).1 hc
  refine ⟨(k+1,_),[(0,0)],[],?_,?_,by (refine ⟨rfl,rfl,rfl,?_,?_⟩;repeat' first|exact trivial|exact rfl|refine And.intro ?_ ?_|refine ⟨_,rfl,?_⟩|decide)⟩
  ·exact ⟨by (omega),by rw [everyK_succ,if_pos hb,hI]⟩
  ·((simp only [vM] at *;omega))
 ·have hb : ¬ g.testBit k=true:=fun h=>hc ((gbit (k:=k) hgl (by omega)).2 h)
  exact ⟨(k+1,o),[(0,0)],[],⟨by (omega),by rw [everyK_succ,if_neg hb,hI]⟩,by ((simp only [vM] at *;omega)),by (refine ⟨rfl,rfl,rfl,?_,?_⟩;repeat' first|exact trivial|exact rfl|refine And.intro ?_ ?_|refine ⟨_,rfl,?_⟩|decide)⟩
 ·rw [hI,show k=p.cell.length by omega];rfl
end Go.Ab
namespace Go.Ab
open Go Go.Proofs
set_option linter.unusedSimpArgs false
set_option linter.unusedVariables false
set_option maxRecDepth 10000
set_option maxHeartbeats 4000000
variable {T:Nat→Obj→Prop}
theorem sub_iff {x s:BitVec 64} : x &&& ~~~s=0#64 ↔ ∀ i,x.getLsbD i=true→s.getLsbD i=true:=by
 rw [zero_iff]
 constructor
 ·intro h i hi
  have h1:=h i
  rw [BitVec.getLsbD_and,BitVec.getLsbD_not,hi,Bool.true_and] at h1
  have:i < 64:=BitVec.lt_of_getLsbD hi
  simpa [this] using h1
 ·intro h i
  rw [BitVec.getLsbD_and,BitVec.getLsbD_not]
  cases hx:x.getLsbD i with
  | false=>simp
  | true=>simp [h i hx]
theorem u_ext {x y:BitVec 64} (h : ∀ i,x.getLsbD i=true↔y.getLsbD i=true):x=y :=
 BitVec.eq_of_getLsbD_eq fun i _=>Bool.eq_iff_iff.2 (h i)
theorem sub_lt {x y:BitVec 64} (h : ∀ i,x.getLsbD i=true→y.getLsbD i=true) (hne:x≠y):x.toNat < y.toNat:=by
 have e:y&&&x=x:=u_ext fun i=>by
  rw [BitVec.getLsbD_and,Bool.and_eq_true]
  exact ⟨fun h=>h.2,fun hx=>⟨h i hx,hx⟩⟩
 have h1:x.toNat≤y.toNat:=by rw [← e,BitVec.toNat_and];exact Nat.and_le_left
 have h2:x.toNat≠y.toNat:=fun e=>hne (BitVec.eq_of_toNat_eq e)
 omega
theorem set_bit {n:Nat} (hn:n≤64) {f:Nat→Bool} {w:Nat} : (setTo f n).getLsbD w=true↔w < n∧f w=true:=by
 rw [setTo_bit]
 simp only [Bool.and_eq_true,decide_eq_true_eq]
 exact ⟨fun h=>⟨h.1.2,h.2⟩,fun h=>⟨⟨by omega,h.1⟩,h.2⟩⟩
theorem set_is {n:Nat} (hn:n≤64) {P:Nat→Prop} [DecidablePred P] {w:Nat} : (setTo (fun w=>decide (P w)) n).getLsbD w=true↔w < n∧P w:=by
 rw [set_bit hn,decide_eq_true_eq]
def InC (p:PM) (a w v:Nat):Prop:=v < p.W.toNat∧at0 (rowAt p.cell a) v=at0 (rowAt p.cell a) w
def rkA (p:PM) (a w:Nat):Int:=at0 (rowAt p.rank a) w
section
variable {p:PM} (hg:Good p) (hc0:checkL p=0)
include hc0
theorem at_of {a w:Nat} (ha:a < p.cell.length) (hw:w < p.W.toNat):At p a w:=⟨hc0,by omega,by omega,by omega,by omega⟩
theorem W64:p.W.toNat≤64:=by have:=(checkL_good hc0).w2;omega
theorem all_bit {i:Nat} : (allL p.W).getLsbD i=true↔i < p.W.toNat:=by
 have h1:=(checkL_good hc0).w1
 have h2:=W64 hc0
 by_cases h:i < 64
 ·rw [allL_bit (by omega) h,decide_eq_true_eq];omega
 ·exact ⟨fun h'=>absurd (BitVec.lt_of_getLsbD h') h,fun h'=>by omega⟩
theorem cell_bit {a w i:Nat} (ha:a < p.cell.length) (hw:w < p.W.toNat):(cellL p a w).getLsbD i=true↔InC p a w i:=cellL_bit (at_of hc0 ha hw)
theorem knows_bit {a:Nat} (ha:a < p.cell.length) {s:BitVec 64} {w:Nat} : (knowsL p a s).getLsbD w=true↔w < p.W.toNat ∧ ∀ v,InC p a w v→s.getLsbD v=true:=by
 unfold knowsL
 rw [set_is (W64 hc0)]
 refine and_congr_right fun hw=>?_
 rw [sub_iff]
 exact ⟨fun h v hv=>h v ((cell_bit hc0 ha hw).2 hv),fun h v hv=>h v ((cell_bit hc0 ha hw).1 hv)⟩
theorem best_iff {a w:Nat} (ha:a < p.cell.length) (hw:w < p.W.toNat) {c:BitVec 64} {i:Nat} : (bestL p a w c).getLsbD i=true↔InC p a w i∧c.getLsbD i=true ∧ ∀ u,InC p a w u→c.getLsbD u=true→rkA p a i≤rkA p a u:=by
 have hat:=at_of hc0 ha hw
 rw [bestL_bit hat]
 constructor
 ·rintro ⟨⟨h1,h2⟩,h3⟩
  exact ⟨(cell_bit hc0 ha hw).1 h2,h1,fun u hu hu'=>h3 u hu' ((cell_bit hc0 ha hw).2 hu)⟩
 ·rintro ⟨h2,h1,h3⟩
  exact ⟨⟨h1,(cell_bit hc0 ha hw).2 h2⟩,fun u hu hu'=>h3 u ((cell_bit hc0 ha hw).1 hu') hu⟩
theorem believes_bit {a:Nat} (ha:a < p.cell.length) {c s:BitVec 64} {w:Nat} : (believesL p a c s).getLsbD w=true↔w < p.W.toNat ∧ ∀ v,InC p a w v→c.getLsbD v=true→(∀ u,InC p a w u→c.getLsbD u=true→rkA p a v≤rkA p a u)→s.getLsbD v=true:=by
 unfold believesL
 rw [set_is (W64 hc0)]
 refine and_congr_right fun hw=>?_
 rw [sub_iff]
 exact ⟨fun h v h1 h2 h3=>h v ((best_iff hc0 ha hw).2 ⟨h1,h2,h3⟩),fun h v hv=>by
  obtain ⟨h1,h2,h3⟩:=(best_iff hc0 ha hw).1 hv
  exact h v h1 h2 h3⟩
def Suc (p:PM) (g w v:Nat):Prop:=w < p.W.toNat ∧ ∃ a,a < p.cell.length∧g.testBit a=true∧InC p a w v
omit hc0 in
theorem Suc.lt {g w v:Nat} (h:Suc p g w v):v < p.W.toNat:=by obtain ⟨_,a,_,_,h⟩:=h;exact h.1
theorem everyK_bit {g:Nat} {s:BitVec 64} {w:Nat} : ∀ k,k≤p.cell.length→((everyK p g s k).getLsbD w=true↔w < p.W.toNat ∧ ∀ a,a < k→g.testBit a=true → ∀ v,InC p a w v→s.getLsbD v=true)
 | 0,_=>by
  show (allL p.W).getLsbD w=true↔_
  rw [all_bit hc0]
  exact ⟨fun h=>⟨h,fun a h=>by omega⟩,fun h=>h.1⟩
 | k+1,hk=>by
  have ih:=everyK_bit (g:=g) (s:=s) (w:=w) k (by omega)
  rw [everyK_succ]
  split
  ·rename_i hb
   rw [BitVec.getLsbD_and,Bool.and_eq_true,ih,knows_bit hc0 (by omega)]
   constructor
   ·rintro ⟨⟨h1,h2⟩,-,h3⟩
    refine ⟨h1,fun a ha hga v hv=>?_⟩
    by_cases e:a=k
    ·subst e;exact h3 v hv
    ·exact h2 a (by omega) hga v hv
   ·rintro ⟨h1,h2⟩
    exact ⟨⟨h1,fun a ha=>h2 a (by omega)⟩,h1,h2 k (by omega) hb⟩
  ·rename_i hb
   rw [ih]
   constructor
   ·rintro ⟨h1,h2⟩
    refine ⟨h1,fun a ha hga v hv=>?_⟩
    by_cases e:a=k
    ·subst e;exact absurd hga hb
    ·exact h2 a (by omega) hga v hv
   ·rintro ⟨h1,h2⟩
    exact ⟨h1,fun a ha=>h2 a (by omega)⟩
theorem every_bit {g:Nat} {s:BitVec 64} {w:Nat} : (everyL p g s).getLsbD w=true↔w < p.W.toNat ∧ ∀ v,Suc p g w v→s.getLsbD v=true:=by
 rw [everyL,everyK_bit hc0 _ (Nat.le_refl _)]
 refine and_congr_right fun hw=>?_
 exact ⟨fun h v ⟨_,a,h1,h2,h3⟩=>h a h1 h2 v h3,fun h a h1 h2 v h3=>h v ⟨hw,a,h1,h2,h3⟩⟩
end
inductive CP (p:PM) (g:Nat) (c:BitVec 64):Nat→Nat→Prop where
 | base {w v:Nat} : Suc p g w v→c.getLsbD v=true→CP p g c w v
 | step {w u v:Nat} : CP p g c w u→Suc p g u v→c.getLsbD v=true→CP p g c w v
theorem CP.pre {p:PM} {g:Nat} {c:BitVec 64} {w u v:Nat} (h:Suc p g w u) (hu:c.getLsbD u=true) (hp:CP p g c u v):CP p g c w v:=by
 induction hp with
 | base h1 h2=>exact .step (.base h hu) h1 h2
 | step _ h1 h2 ih=>exact .step ih h1 h2
noncomputable def commonL (p:PM) (g:Nat) (c s:BitVec 64):BitVec 64:=setTo (fun w => @decide (∀ v,CP p g c w v→s.getLsbD v=true) (Classical.propDecidable _)) p.W.toNat
theorem common_bit {p:PM} (hc0:checkL p=0) {g:Nat} {c s:BitVec 64} {w:Nat} : (commonL p g c s).getLsbD w=true↔w < p.W.toNat ∧ ∀ v,CP p g c w v→s.getLsbD v=true:=by
 unfold commonL
 rw [set_bit (W64 hc0),@decide_eq_true_eq _ (Classical.propDecidable _)]
def stepL (p:PM) (g:Nat) (c s out:BitVec 64):BitVec 64:=everyL p g (allL p.W &&& ~~~c|||s&&&out)
theorem step_bit {p:PM} (hc0:checkL p=0) {g:Nat} {c s out:BitVec 64} {w:Nat} : (stepL p g c s out).getLsbD w=true↔w < p.W.toNat ∧ ∀ v,Suc p g w v→c.getLsbD v=true→s.getLsbD v=true∧out.getLsbD v=true:=by
 unfold stepL
 rw [every_bit hc0]
 refine and_congr_right fun hw=>forall_congr' fun v=>?_
 constructor
 ·intro h h1 h2
  have h3:=h h1
  rw [BitVec.getLsbD_or,BitVec.getLsbD_and,BitVec.getLsbD_and,BitVec.getLsbD_not,h2] at h3
  simpa using h3
 ·intro h h1
  have hv:=h1.lt
  have h64:=W64 hc0
  rw [BitVec.getLsbD_or,BitVec.getLsbD_and,BitVec.getLsbD_and,BitVec.getLsbD_not,(all_bit hc0).2 hv]
  cases hcv:c.getLsbD v with
  | false=>simp;omega
  | true=>simp [h h1 hcv]
structure Com (p:PM) (g:Nat) (c s out:BitVec 64):Prop where
 lo : ∀ w,(commonL p g c s).getLsbD w=true→out.getLsbD w=true
 dec : ∀ w,(stepL p g c s out).getLsbD w=true→out.getLsbD w=true
 all : ∀ w,out.getLsbD w=true→w < p.W.toNat
theorem Com.start {p:PM} (hc0:checkL p=0) (g:Nat) (c s:BitVec 64):Com p g c s (allL p.W) :=
 ⟨fun w h=>(all_bit hc0).2 ((common_bit hc0).1 h).1,fun w h=>(all_bit hc0).2 ((step_bit hc0).1 h).1,fun w h=>(all_bit hc0).1 h⟩
theorem Com.next {p:PM} (hc0:checkL p=0) {g:Nat} {c s out:BitVec 64} (h:Com p g c s out):Com p g c s (stepL p g c s out) where
 lo w hw:=by
  obtain ⟨h1,h2⟩:=(common_bit hc0).1 hw
  refine (step_bit hc0).2 ⟨h1,fun v hv hcv=>⟨h2 v (.base hv hcv),h.lo v ((common_bit hc0).2 ⟨hv.lt,fun u hu=>h2 u (hu.pre hv hcv)⟩)⟩⟩
 dec w hw:=by
  obtain ⟨h1,h2⟩:=(step_bit hc0).1 hw
  exact (step_bit hc0).2 ⟨h1,fun v hv hcv=>⟨(h2 v hv hcv).1,h.dec v (h2 v hv hcv).2⟩⟩
 all w hw:=((step_bit hc0).1 hw).1
theorem Com.done {p:PM} (hc0:checkL p=0) {g:Nat} {c s out:BitVec 64} (h:Com p g c s out) (e:stepL p g c s out=out):out=commonL p g c s:=by
 refine u_ext fun w=>⟨fun hw=>(common_bit hc0).2 ⟨h.all w hw,fun v hv=>?_⟩,h.lo w⟩
 have key : ∀ v,CP p g c w v→s.getLsbD v=true∧out.getLsbD v=true:=fun v hv=>by
  induction hv with
  | base h1 h2=>rw [← e] at hw;exact ((step_bit hc0).1 hw).2 _ h1 h2
  | step _ h1 h2 ih =>
   have ih:=ih.2
   rw [← e] at ih
   exact ((step_bit hc0).1 ih).2 _ h1 h2
 exact (key v hv).1
theorem fn_dcommon (hR:RanksOk T) (p:PM) (hp:IntsOk p.rank) (hc0:checkL p=0) (g:Nat) (hgl:g < 2 ^ 63) (c s:BitVec 64):Fn Tryz.prog T f_doxastic_common [.d (dPM p),.d (.int .i64 (g:Int)),.d (.u64 c),.d (.u64 s)] [] (.d (.u64 (commonL p g c s))) []:=by
 have hgd:=checkL_good hc0
 have h1:=hgd.w1
 have h2:=hgd.w2
 refine fn_dataR hmix k_doxastic_common (by show 4≤29;decide) ?_
 (repeat' ((conv=>whnf);refine yD (fn_dox_all p h1 h2) ⟨⟨rfl,rfl⟩,rfl⟩ rfl ?_));all_goals try conv=>whnf
 refine loop_mem (fun (o:BitVec 64)=>[(1,.d (.int .i64 ((g:Int)))),(2,.d (.u64 (c))),(3,.d (.u64 (s))),(4,.ptr 0 0),(9,.d (.u64 (o)))]) (fun (o:BitVec 64)=>[(0,some (boxPM p))]) 1 (fun (o:BitVec 64)=>Com p g c s o) (fun (o:BitVec 64)=>o.toNat) (allL p.W) [(0,0)] [] (Com.start hc0 g c s) (by (refine ⟨rfl,rfl,rfl,?_,?_⟩;repeat' first|exact trivial|exact rfl|refine And.intro ?_ ?_|refine ⟨_,rfl,?_⟩|decide)) ?_
 rintro o hI
 (repeat' ((conv=>whnf);first|refine vA ?_|(refine vF ?_ ?_<;>intro hc)|(refine vU ?_ ?_;·kernel_rfl)|refine vY ?_|refine yD (fn_dox_all p h1 h2) ⟨⟨rfl,rfl⟩,rfl⟩ rfl ?_|refine yD (fn_every hR p hp hc0 g hgl _) ⟨⟨rfl,rfl⟩,⟨rfl,rfl⟩,⟨rfl,rfl⟩,rfl⟩ rfl ?_));all_goals try conv=>whnf
 ·exact Com.done hc0 hI hc
 ·refine ⟨_,[(0,0)],[],?_,?_,by (refine ⟨rfl,rfl,rfl,?_,?_⟩;repeat' first|exact trivial|exact rfl|refine And.intro ?_ ?_|refine ⟨_,rfl,?_⟩|decide)⟩
  ·exact hI.next hc0
  ·exact sub_lt hI.dec hc
end Go.Ab
namespace Go.Ab
open Go Go.Proofs
set_option linter.unusedSimpArgs false
set_option linter.unusedVariables false
set_option maxRecDepth 10000
set_option maxHeartbeats 4000000
variable {T:Nat→Obj→Prop}
noncomputable def valL (p:PM) (h:Hd) (x y:BitVec 64):BitVec 64 :=
 if h.op=1 then allL p.W else if h.op=3 then p.val.getD h.i.toNat 0#64 else if h.op=4 then allL p.W &&& ~~~x else if h.op=5 then x&&&y else if h.op=6 then x|||y else if h.op=7 then allL p.W &&& ~~~x|||y else
 if h.op=8 then allL p.W &&& ~~~(x ^^^ y) else if h.op=9 then knowsL p h.i x else if h.op=10 then allL p.W &&& ~~~knowsL p h.i (allL p.W &&& ~~~x) else if h.op=11 then everyL p h.g.toNat x else
 if h.op=13 then commonL p h.g.toNat x y else if h.op=14 then believesL p h.i x y else if h.op=15 then safelyL p h.i x else 0#64
theorem fn_value (hR:RanksOk T) (p:PM) (hp:IntsOk p.rank) (hc0:checkL p=0) (op i e:Int) (g:Nat) (hgl:g < 2 ^ 63) (nx ny:Int) (x y:BitVec 64) (h3:op=3→0≤i∧i < p.val.length) (h15:op=15→0≤i∧i < p.cell.length) :
  Fn Tryz.prog T f_doxastic_value [.d (dPM p),.d (.agg [.int .i64 op,.int .i64 i,.int .i64 e,.int .i64 g,.int .i64 nx,.int .i64 ny]),.d (.u64 x),.d (.u64 y)] [] (.d (.u64 (valL p ⟨op,i,e,g⟩ x y))) []:=by
 have hgd:=checkL_good hc0
 have h1:=hgd.w1
 have h2:=hgd.w2
 refine fn_dataR hmix k_doxastic_value (by show 4≤105;decide) ?_
 (repeat' ((conv=>whnf);first|refine vA ?_|(refine vF ?_ ?_<;>intro hc)|(refine vS ?_ fun x hx=>?_;·omega)|(refine vU ?_ ?_;·kernel_rfl)|refine vY ?_|refine yD (fn_dox_all p h1 h2) ⟨⟨rfl,rfl⟩,rfl⟩ rfl ?_|refine yD (fn_knows hR p hp h2 _ _) ⟨⟨rfl,rfl⟩,⟨rfl,rfl⟩,⟨rfl,rfl⟩,rfl⟩ rfl ?_|refine yD (fn_every hR p hp hc0 g hgl _) ⟨⟨rfl,rfl⟩,⟨rfl,rfl⟩,⟨rfl,rfl⟩,rfl⟩ rfl ?_|refine yD (fn_dcommon hR p hp hc0 g hgl _ _) (by (repeat refine ⟨⟨rfl,rfl⟩,?_⟩);rfl) rfl ?_|refine yD (fn_believes hR p hp h2 _ _ _) (by (repeat refine ⟨⟨rfl,rfl⟩,?_⟩);rfl) rfl ?_|(refine yD (fn_safely hR p hp hc0 _ ?_ ?_ _) ⟨⟨rfl,rfl⟩,⟨rfl,rfl⟩,⟨rfl,rfl⟩,rfl⟩ rfl ?_;(·omega);(·omega))|fail));all_goals try conv=>whnf
 all_goals (simp only [valL, *,if_true,if_false];first|rfl|(simp [List.getD, *];done)|skip)
end Go.Ab
namespace Go.Ab
open Go Go.Proofs
set_option linter.unusedSimpArgs false
set_option linter.unusedVariables false
set_option maxRecDepth 10000
set_option maxHeartbeats 4000000
set_option maxHeartbeats 40000000
variable {T:Nat→Obj→Prop}
theorem finA0f {f:List Nd} (hL:f.length≤1000) {k:Nat} {n:Nd} (hn:f[k]? = some n) {s:FSt} (hl:s.out.length≤1000) (hfd:findD (dDone (FSt.done s)) (.int .i64 (k:Int))=some none) (hu:Fn Tryz.prog T f_formula_uses [.d (.int .i64 n.op)] [] (.d (.tup [.agg [.bool false,.bool false,.bool (useFact n.op),.bool (useAgent n.op),.bool (useGroup n.op),.bool (useEvent n.op),.int .i64 (fragOf n.op)],.bool (isOp n.op)])) []) {j:Nat} (hfn:findD (dNum (FSt.out s) 0) (dNd n)=some (some (.int .i64 (j:Int)))) :
  Fn Tryz.prog T f_formula_compact_1 (finVs (k:Int)) (finOb f (.own 7) s++[.row 6 (s.out.map dNd)]) (.d (.int .i64 (j:Int))) [some (.box [.map 5]),some (.box [.d (dF f)]),some (.box [finFn]),some (.box [.map 6]),some (.box [.own 8]),some (.map (dDone (FSt.done s)++[(.int .i64 (k:Int),.int .i64 (j:Int))])),some (.map (dNum (FSt.out s) 0)),none,some (.row 6 ((FSt.out s).map dNd))]:=by
 refine fn_introR hmix k_formula_compact_1 (by show 6≤68;decide) _ (fun e env mem n h=>h) ?_
 (repeat' ((conv=>whnf);first|refine vA ?_|refine vE ?_|refine vG ?_|refine vH ?_|refine vN ‹_› ?_|refine yD hu (by (repeat refine ⟨⟨rfl,rfl⟩,?_⟩);rfl) rfl ?_|refine FindS.mk _ ‹_› ?_));all_goals try conv=>whnf
 refine ⟨trivial,_,[(0,0),(1,1),(2,2),(3,3),(4,4),(5,5),(6,6),(8,7)],[],rfl,.inl (by (repeat' exact rfl)),⟨by rfl,by rfl,by rfl,trivial,by (repeat' first|exact trivial|exact rfl|refine And.intro ?_ ?_|refine ⟨_,rfl,?_⟩|exact of_decide_eq_true rfl)⟩,by (repeat' first|exact trivial|exact rfl|refine And.intro ?_ ?_|refine ⟨_,rfl,?_⟩)⟩
theorem finA0n {f:List Nd} (hL:f.length≤1000) {k:Nat} {n:Nd} (hn:f[k]? = some n) {s:FSt} (hl:s.out.length≤1000) (hfd:findD (dDone (FSt.done s)) (.int .i64 (k:Int))=some none) (hu:Fn Tryz.prog T f_formula_uses [.d (.int .i64 n.op)] [] (.d (.tup [.agg [.bool false,.bool false,.bool (useFact n.op),.bool (useAgent n.op),.bool (useGroup n.op),.bool (useEvent n.op),.int .i64 (fragOf n.op)],.bool (isOp n.op)])) []) (hfn:findD (dNum (FSt.out s) 0) (dNd n)=some none) :
  Fn Tryz.prog T f_formula_compact_1 (finVs (k:Int)) (finOb f (.own 7) s++[.row 6 (s.out.map dNd)]) (.d (.int .i64 ((((FSt.out s).map dNd).length:Nat):Int))) [some (.box [.map 5]),some (.box [.d (dF f)]),some (.box [finFn]),some (.box [.map 6]),some (.box [.own 8]),some (.map (dDone (FSt.done s)++[(.int .i64 (k:Int),.int .i64 ((((FSt.out s).map dNd).length:Nat):Int))])),some (.map (dNum (FSt.out s) 0++[(dNd n,.int .i64 ((((FSt.out s).map dNd).length:Nat):Int))])),none,some (.row 6 ((FSt.out s).map dNd++[dNd n]))]:=by
 refine fn_introR hmix k_formula_compact_1 (by show 6≤68;decide) _ (fun e env mem n h=>h) ?_
 (repeat' ((conv=>whnf);first|refine vA ?_|refine vH ?_|refine vJ fun hg=>?_|refine vN ‹_› ?_|(refine vP ?_ ?_;·(simp only [vM] at *;omega))|refine yD hu (by (repeat refine ⟨⟨rfl,rfl⟩,?_⟩);rfl) rfl ?_|refine FindS.mk _ ‹_› ?_));all_goals try conv=>whnf
 refine ⟨trivial,_,[(0,0),(1,1),(2,2),(3,3),(4,4),(5,5),(6,6),(8,11)],[],rfl,.inl (by (repeat' exact rfl)),⟨by rfl,by rfl,by rfl,trivial,by (repeat' first|exact trivial|exact rfl|refine And.intro ?_ ?_|refine ⟨_,rfl,?_⟩|exact of_decide_eq_true rfl)⟩,by (repeat' first|exact trivial|exact rfl|refine And.intro ?_ ?_|refine ⟨_,rfl,?_⟩)⟩
end Go.Ab
namespace Go.Ab
open Go Go.Proofs
set_option linter.unusedSimpArgs false
set_option linter.unusedVariables false
set_option maxRecDepth 10000
set_option maxHeartbeats 4000000
set_option maxHeartbeats 40000000
variable {T:Nat→Obj→Prop}
theorem finA1f {f:List Nd} (hL:f.length≤1000) {k:Nat} {n:Nd} (hn:f[k]? = some n) {s:FSt} (hl:s.out.length≤1000) (hfd:findD (dDone (FSt.done s)) (.int .i64 (k:Int))=some none) (hu:Fn Tryz.prog T f_formula_uses [.d (.int .i64 n.op)] [] (.d (.tup [.agg [.bool true,.bool false,.bool (useFact n.op),.bool (useAgent n.op),.bool (useGroup n.op),.bool (useEvent n.op),.int .i64 (fragOf n.op)],.bool (isOp n.op)])) []) {r1:Nat} {s1:FSt} (hl1:s1.out.length≤1000) (c1:Fn Tryz.prog T f_formula_compact_1 (finVs n.x) (finOb f (.own 7) s++[.row 6 (s.out.map dNd)]) (.d (.int .i64 (r1:Int))) (finUp f s1)) (hfd1:findD (dDone s1.done) (.int .i64 (k:Int))=some none) {j:Nat} (hfn:findD (dNum s1.out 0) (dNd ⟨n.op,n.i,n.e,n.g,(r1:Int),n.y⟩)=some (some (.int .i64 (j:Int)))) :
  Fn Tryz.prog T f_formula_compact_1 (finVs (k:Int)) (finOb f (.own 7) s++[.row 6 (s.out.map dNd)]) (.d (.int .i64 (j:Int))) [some (.box [.map 5]),some (.box [.d (dF f)]),some (.box [finFn]),some (.box [.map 6]),some (.box [.own 8]),some (.map (dDone s1.done++[(.int .i64 (k:Int),.int .i64 (j:Int))])),some (.map (dNum s1.out 0)),none,some (.row 6 (s1.out.map dNd))]:=by
 refine fn_introR hmix k_formula_compact_1 (by show 6≤68;decide) _ (fun e env mem n h=>h) ?_
 (repeat' ((conv=>whnf);first|refine vA ?_|refine vG ?_|refine vN ‹_› ?_|refine yD hu (by (repeat refine ⟨⟨rfl,rfl⟩,?_⟩);rfl) rfl ?_|refine FindS.mk _ ‹_› ?_));all_goals try conv=>whnf
 refine CallS.objsE [0,1,2,3,4,5,6,7] (c1) (by (repeat' first|exact rfl|refine And.intro ?_ ?_|refine ⟨_,rfl,?_⟩)) (by (repeat' first|exact rfl|refine And.intro ?_ ?_|refine ⟨_,rfl,?_⟩)) (by rfl) (by kernel_rfl) (by simp) [(0,some (.box [.map 5])),(1,some (.box [.d (dF f)])),(2,some (.box [finFn])),(3,some (.box [.map 6])),(4,some (.box [.own 10])),(5,some (.map (dDone s1.done))),(6,some (.map (dNum s1.out 0))),(7,none),(10,some (.row 6 (s1.out.map dNd)))] rfl ?_
 (repeat' ((conv=>whnf);first|refine vA ?_|refine vE ?_|refine vG ?_|refine vH ?_|refine FindS.mk _ ‹_› ?_));all_goals try conv=>whnf
 refine ⟨trivial,_,[(0,0),(1,1),(2,2),(3,3),(4,4),(5,5),(6,6),(8,10)],[],rfl,.inl (by (repeat' exact rfl)),⟨by rfl,by rfl,by rfl,trivial,by (repeat' first|exact trivial|exact rfl|refine And.intro ?_ ?_|refine ⟨_,rfl,?_⟩|exact of_decide_eq_true rfl)⟩,by (repeat' first|exact trivial|exact rfl|refine And.intro ?_ ?_|refine ⟨_,rfl,?_⟩)⟩
theorem finA1n {f:List Nd} (hL:f.length≤1000) {k:Nat} {n:Nd} (hn:f[k]? = some n) {s:FSt} (hl:s.out.length≤1000) (hfd:findD (dDone (FSt.done s)) (.int .i64 (k:Int))=some none) (hu:Fn Tryz.prog T f_formula_uses [.d (.int .i64 n.op)] [] (.d (.tup [.agg [.bool true,.bool false,.bool (useFact n.op),.bool (useAgent n.op),.bool (useGroup n.op),.bool (useEvent n.op),.int .i64 (fragOf n.op)],.bool (isOp n.op)])) []) {r1:Nat} {s1:FSt} (hl1:s1.out.length≤1000) (c1:Fn Tryz.prog T f_formula_compact_1 (finVs n.x) (finOb f (.own 7) s++[.row 6 (s.out.map dNd)]) (.d (.int .i64 (r1:Int))) (finUp f s1)) (hfd1:findD (dDone s1.done) (.int .i64 (k:Int))=some none) (hfn:findD (dNum s1.out 0) (dNd ⟨n.op,n.i,n.e,n.g,(r1:Int),n.y⟩)=some none) :
  Fn Tryz.prog T f_formula_compact_1 (finVs (k:Int)) (finOb f (.own 7) s++[.row 6 (s.out.map dNd)]) (.d (.int .i64 (((s1.out.map dNd).length:Nat):Int))) [some (.box [.map 5]),some (.box [.d (dF f)]),some (.box [finFn]),some (.box [.map 6]),some (.box [.own 8]),some (.map (dDone s1.done++[(.int .i64 (k:Int),.int .i64 (((s1.out.map dNd).length:Nat):Int))])),some (.map (dNum s1.out 0++[(dNd ⟨n.op,n.i,n.e,n.g,(r1:Int),n.y⟩,.int .i64 (((s1.out.map dNd).length:Nat):Int))])),none,some (.row 6 (s1.out.map dNd++[dNd ⟨n.op,n.i,n.e,n.g,(r1:Int),n.y⟩]))]:=by
 refine fn_introR hmix k_formula_compact_1 (by show 6≤68;decide) _ (fun e env mem n h=>h) ?_
 (repeat' ((conv=>whnf);first|refine vA ?_|refine vG ?_|refine vN ‹_› ?_|refine yD hu (by (repeat refine ⟨⟨rfl,rfl⟩,?_⟩);rfl) rfl ?_|refine FindS.mk _ ‹_› ?_));all_goals try conv=>whnf
 refine CallS.objsE [0,1,2,3,4,5,6,7] (c1) (by (repeat' first|exact rfl|refine And.intro ?_ ?_|refine ⟨_,rfl,?_⟩)) (by (repeat' first|exact rfl|refine And.intro ?_ ?_|refine ⟨_,rfl,?_⟩)) (by rfl) (by kernel_rfl) (by simp) [(0,some (.box [.map 5])),(1,some (.box [.d (dF f)])),(2,some (.box [finFn])),(3,some (.box [.map 6])),(4,some (.box [.own 10])),(5,some (.map (dDone s1.done))),(6,some (.map (dNum s1.out 0))),(7,none),(10,some (.row 6 (s1.out.map dNd)))] rfl ?_
 (repeat' ((conv=>whnf);first|refine vA ?_|refine vH ?_|refine vJ fun hg=>?_|(refine vP ?_ ?_;·(simp only [vM] at *;omega))|refine FindS.mk _ ‹_› ?_));all_goals try conv=>whnf
 refine ⟨trivial,_,[(0,0),(1,1),(2,2),(3,3),(4,4),(5,5),(6,6),(8,12)],[],rfl,.inl (by (repeat' exact rfl)),⟨by rfl,by rfl,by rfl,trivial,by (repeat' first|exact trivial|exact rfl|refine And.intro ?_ ?_|refine ⟨_,rfl,?_⟩|exact of_decide_eq_true rfl)⟩,by (repeat' first|exact trivial|exact rfl|refine And.intro ?_ ?_|refine ⟨_,rfl,?_⟩)⟩
end Go.Ab
namespace Go.Ab
open Go Go.Proofs
set_option linter.unusedSimpArgs false
set_option linter.unusedVariables false
set_option maxRecDepth 10000
set_option maxHeartbeats 4000000
set_option maxHeartbeats 40000000
variable {T:Nat→Obj→Prop}
theorem finA2f {f:List Nd} (hL:f.length≤1000) {k:Nat} {n:Nd} (hn:f[k]? = some n) {s:FSt} (hl:s.out.length≤1000) (hfd:findD (dDone (FSt.done s)) (.int .i64 (k:Int))=some none) (hu:Fn Tryz.prog T f_formula_uses [.d (.int .i64 n.op)] [] (.d (.tup [.agg [.bool true,.bool true,.bool (useFact n.op),.bool (useAgent n.op),.bool (useGroup n.op),.bool (useEvent n.op),.int .i64 (fragOf n.op)],.bool (isOp n.op)])) []) {r1:Nat} {s1:FSt} (hl1:s1.out.length≤1000) (c1:Fn Tryz.prog T f_formula_compact_1 (finVs n.x) (finOb f (.own 7) s++[.row 6 (s.out.map dNd)]) (.d (.int .i64 (r1:Int))) (finUp f s1)) (hfd1:findD (dDone s1.done) (.int .i64 (k:Int))=some none) {r2:Nat} {s2:FSt} (hl2:s2.out.length≤1000) (c2:Fn Tryz.prog T f_formula_compact_1 (finVs n.y) (finOb f (.own 7) s1++[.row 6 (s1.out.map dNd)]) (.d (.int .i64 (r2:Int))) (finUp f s2)) (hfd2:findD (dDone s2.done) (.int .i64 (k:Int))=some none) {j:Nat} (hfn:findD (dNum s2.out 0) (dNd ⟨n.op,n.i,n.e,n.g,(r1:Int),(r2:Int)⟩)=some (some (.int .i64 (j:Int)))) :
  Fn Tryz.prog T f_formula_compact_1 (finVs (k:Int)) (finOb f (.own 7) s++[.row 6 (s.out.map dNd)]) (.d (.int .i64 (j:Int))) [some (.box [.map 5]),some (.box [.d (dF f)]),some (.box [finFn]),some (.box [.map 6]),some (.box [.own 8]),some (.map (dDone s2.done++[(.int .i64 (k:Int),.int .i64 (j:Int))])),some (.map (dNum s2.out 0)),none,some (.row 6 (s2.out.map dNd))]:=by
 refine fn_introR hmix k_formula_compact_1 (by show 6≤68;decide) _ (fun e env mem n h=>h) ?_
 (repeat' ((conv=>whnf);first|refine vA ?_|refine vG ?_|refine vN ‹_› ?_|refine yD hu (by (repeat refine ⟨⟨rfl,rfl⟩,?_⟩);rfl) rfl ?_|refine FindS.mk _ ‹_› ?_));all_goals try conv=>whnf
 refine CallS.objsE [0,1,2,3,4,5,6,7] (c1) (by (repeat' first|exact rfl|refine And.intro ?_ ?_|refine ⟨_,rfl,?_⟩)) (by (repeat' first|exact rfl|refine And.intro ?_ ?_|refine ⟨_,rfl,?_⟩)) (by rfl) (by kernel_rfl) (by simp) [(0,some (.box [.map 5])),(1,some (.box [.d (dF f)])),(2,some (.box [finFn])),(3,some (.box [.map 6])),(4,some (.box [.own 10])),(5,some (.map (dDone s1.done))),(6,some (.map (dNum s1.out 0))),(7,none),(10,some (.row 6 (s1.out.map dNd)))] rfl ?_
 (repeat' ((conv=>whnf);first|refine vA ?_|refine vG ?_));all_goals try conv=>whnf
 refine CallS.objsE [0,1,2,3,4,5,6,10] (c2) (by (repeat' first|exact rfl|refine And.intro ?_ ?_|refine ⟨_,rfl,?_⟩)) (by (repeat' first|exact rfl|refine And.intro ?_ ?_|refine ⟨_,rfl,?_⟩)) (by rfl) (by kernel_rfl) (by simp) [(0,some (.box [.map 5])),(1,some (.box [.d (dF f)])),(2,some (.box [finFn])),(3,some (.box [.map 6])),(4,some (.box [.own 11])),(5,some (.map (dDone s2.done))),(6,some (.map (dNum s2.out 0))),(10,none),(11,some (.row 6 (s2.out.map dNd)))] rfl ?_
 (repeat' ((conv=>whnf);first|refine vA ?_|refine vE ?_|refine vG ?_|refine FindS.mk _ ‹_› ?_));all_goals try conv=>whnf
 refine ⟨trivial,_,[(0,0),(1,1),(2,2),(3,3),(4,4),(5,5),(6,6),(8,11)],[],rfl,.inl (by (repeat' exact rfl)),⟨by rfl,by rfl,by rfl,trivial,by (repeat' first|exact trivial|exact rfl|refine And.intro ?_ ?_|refine ⟨_,rfl,?_⟩|exact of_decide_eq_true rfl)⟩,by (repeat' first|exact trivial|exact rfl|refine And.intro ?_ ?_|refine ⟨_,rfl,?_⟩)⟩
theorem finA2n {f:List Nd} (hL:f.length≤1000) {k:Nat} {n:Nd} (hn:f[k]? = some n) {s:FSt} (hl:s.out.length≤1000) (hfd:findD (dDone (FSt.done s)) (.int .i64 (k:Int))=some none) (hu:Fn Tryz.prog T f_formula_uses [.d (.int .i64 n.op)] [] (.d (.tup [.agg [.bool true,.bool true,.bool (useFact n.op),.bool (useAgent n.op),.bool (useGroup n.op),.bool (useEvent n.op),.int .i64 (fragOf n.op)],.bool (isOp n.op)])) []) {r1:Nat} {s1:FSt} (hl1:s1.out.length≤1000) (c1:Fn Tryz.prog T f_formula_compact_1 (finVs n.x) (finOb f (.own 7) s++[.row 6 (s.out.map dNd)]) (.d (.int .i64 (r1:Int))) (finUp f s1)) (hfd1:findD (dDone s1.done) (.int .i64 (k:Int))=some none) {r2:Nat} {s2:FSt} (hl2:s2.out.length≤1000) (c2:Fn Tryz.prog T f_formula_compact_1 (finVs n.y) (finOb f (.own 7) s1++[.row 6 (s1.out.map dNd)]) (.d (.int .i64 (r2:Int))) (finUp f s2)) (hfd2:findD (dDone s2.done) (.int .i64 (k:Int))=some none) (hfn:findD (dNum s2.out 0) (dNd ⟨n.op,n.i,n.e,n.g,(r1:Int),(r2:Int)⟩)=some none) :
  Fn Tryz.prog T f_formula_compact_1 (finVs (k:Int)) (finOb f (.own 7) s++[.row 6 (s.out.map dNd)]) (.d (.int .i64 (((s2.out.map dNd).length:Nat):Int))) [some (.box [.map 5]),some (.box [.d (dF f)]),some (.box [finFn]),some (.box [.map 6]),some (.box [.own 8]),some (.map (dDone s2.done++[(.int .i64 (k:Int),.int .i64 (((s2.out.map dNd).length:Nat):Int))])),some (.map (dNum s2.out 0++[(dNd ⟨n.op,n.i,n.e,n.g,(r1:Int),(r2:Int)⟩,.int .i64 (((s2.out.map dNd).length:Nat):Int))])),none,some (.row 6 (s2.out.map dNd++[dNd ⟨n.op,n.i,n.e,n.g,(r1:Int),(r2:Int)⟩]))]:=by
 refine fn_introR hmix k_formula_compact_1 (by show 6≤68;decide) _ (fun e env mem n h=>h) ?_
 (repeat' ((conv=>whnf);first|refine vA ?_|refine vG ?_|refine vN ‹_› ?_|refine yD hu (by (repeat refine ⟨⟨rfl,rfl⟩,?_⟩);rfl) rfl ?_|refine FindS.mk _ ‹_› ?_));all_goals try conv=>whnf
 refine CallS.objsE [0,1,2,3,4,5,6,7] (c1) (by (repeat' first|exact rfl|refine And.intro ?_ ?_|refine ⟨_,rfl,?_⟩)) (by (repeat' first|exact rfl|refine And.intro ?_ ?_|refine ⟨_,rfl,?_⟩)) (by rfl) (by kernel_rfl) (by simp) [(0,some (.box [.map 5])),(1,some (.box [.d (dF f)])),(2,some (.box [finFn])),(3,some (.box [.map 6])),(4,some (.box [.own 10])),(5,some (.map (dDone s1.done))),(6,some (.map (dNum s1.out 0))),(7,none),(10,some (.row 6 (s1.out.map dNd)))] rfl ?_
 (repeat' ((conv=>whnf);first|refine vA ?_|refine vG ?_));all_goals try conv=>whnf
 refine CallS.objsE [0,1,2,3,4,5,6,10] (c2) (by (repeat' first|exact rfl|refine And.intro ?_ ?_|refine ⟨_,rfl,?_⟩)) (by (repeat' first|exact rfl|refine And.intro ?_ ?_|refine ⟨_,rfl,?_⟩)) (by rfl) (by kernel_rfl) (by simp) [(0,some (.box [.map 5])),(1,some (.box [.d (dF f)])),(2,some (.box [finFn])),(3,some (.box [.map 6])),(4,some (.box [.own 11])),(5,some (.map (dDone s2.done))),(6,some (.map (dNum s2.out 0))),(10,none),(11,some (.row 6 (s2.out.map dNd)))] rfl ?_
 (repeat' ((conv=>whnf);first|refine vA ?_|refine vJ fun hg=>?_|(refine vP ?_ ?_;·(simp only [vM] at *;omega))|refine FindS.mk _ ‹_› ?_));all_goals try conv=>whnf
 refine ⟨trivial,_,[(0,0),(1,1),(2,2),(3,3),(4,4),(5,5),(6,6),(8,13)],[],rfl,.inl (by (repeat' exact rfl)),⟨by rfl,by rfl,by rfl,trivial,by (repeat' first|exact trivial|exact rfl|refine And.intro ?_ ?_|refine ⟨_,rfl,?_⟩|exact of_decide_eq_true rfl)⟩,by (repeat' first|exact trivial|exact rfl|refine And.intro ?_ ?_|refine ⟨_,rfl,?_⟩)⟩
end Go.Ab
namespace Go.Ab
open Go Go.Proofs
set_option linter.unusedSimpArgs false
set_option linter.unusedVariables false
set_option maxRecDepth 10000
set_option maxHeartbeats 4000000
set_option maxHeartbeats 40000000
variable {T:Nat→Obj→Prop}
theorem finB0n {f:List Nd} (hL:f.length≤1000) {k:Nat} {n:Nd} (hn:f[k]? = some n) (hfd:findD (dDone (FSt.done ⟨[],[]⟩)) (.int .i64 (k:Int))=some none) (hu:Fn Tryz.prog T f_formula_uses [.d (.int .i64 n.op)] [] (.d (.tup [.agg [.bool false,.bool false,.bool (useFact n.op),.bool (useAgent n.op),.bool (useGroup n.op),.bool (useEvent n.op),.int .i64 (fragOf n.op)],.bool (isOp n.op)])) []) (hfn:findD (dNum (FSt.out ⟨[],[]⟩) 0) (dNd n)=some none) :
  Fn Tryz.prog T f_formula_compact_1 (finVs (k:Int)) (finOb f (.nils 6) ⟨[],[]⟩) (.d (.int .i64 ((((FSt.out ⟨[],[]⟩).map dNd).length:Nat):Int))) [some (.box [.map 5]),some (.box [.d (dF f)]),some (.box [finFn]),some (.box [.map 6]),some (.box [.own 7]),some (.map (dDone (FSt.done ⟨[],[]⟩)++[(.int .i64 (k:Int),.int .i64 ((((FSt.out ⟨[],[]⟩).map dNd).length:Nat):Int))])),some (.map (dNum (FSt.out ⟨[],[]⟩) 0++[(dNd n,.int .i64 ((((FSt.out ⟨[],[]⟩).map dNd).length:Nat):Int))])),some (.row 6 ((FSt.out ⟨[],[]⟩).map dNd++[dNd n]))]:=by
 refine fn_introR hmix k_formula_compact_1 (by show 6≤68;decide) _ (fun e env mem n h=>h) ?_
 (repeat' ((conv=>whnf);first|refine vA ?_|refine vH ?_|refine vN ‹_› ?_|(refine vP ?_ ?_;·(simp only [vM] at *;omega))|refine yD hu (by (repeat refine ⟨⟨rfl,rfl⟩,?_⟩);rfl) rfl ?_|refine FindS.mk _ ‹_› ?_));all_goals try conv=>whnf
 refine ⟨trivial,_,[(0,0),(1,1),(2,2),(3,3),(4,4),(5,5),(6,6),(7,10)],[],rfl,.inl (by (repeat' exact rfl)),⟨by rfl,by rfl,by rfl,trivial,by (repeat' first|exact trivial|exact rfl|refine And.intro ?_ ?_|refine ⟨_,rfl,?_⟩|exact of_decide_eq_true rfl)⟩,by (repeat' first|exact trivial|exact rfl|refine And.intro ?_ ?_|refine ⟨_,rfl,?_⟩)⟩
end Go.Ab
namespace Go.Ab
open Go Go.Proofs
set_option linter.unusedSimpArgs false
set_option linter.unusedVariables false
set_option maxRecDepth 10000
set_option maxHeartbeats 4000000
set_option maxHeartbeats 40000000
variable {T:Nat→Obj→Prop}
theorem finB1f {f:List Nd} (hL:f.length≤1000) {k:Nat} {n:Nd} (hn:f[k]? = some n) (hfd:findD (dDone (FSt.done ⟨[],[]⟩)) (.int .i64 (k:Int))=some none) (hu:Fn Tryz.prog T f_formula_uses [.d (.int .i64 n.op)] [] (.d (.tup [.agg [.bool true,.bool false,.bool (useFact n.op),.bool (useAgent n.op),.bool (useGroup n.op),.bool (useEvent n.op),.int .i64 (fragOf n.op)],.bool (isOp n.op)])) []) {r1:Nat} {s1:FSt} (hl1:s1.out.length≤1000) (c1:Fn Tryz.prog T f_formula_compact_1 (finVs n.x) (finOb f (.nils 6) ⟨[],[]⟩) (.d (.int .i64 (r1:Int))) (finUp0 f s1)) (hfd1:findD (dDone s1.done) (.int .i64 (k:Int))=some none) {j:Nat} (hfn:findD (dNum s1.out 0) (dNd ⟨n.op,n.i,n.e,n.g,(r1:Int),n.y⟩)=some (some (.int .i64 (j:Int)))) :
  Fn Tryz.prog T f_formula_compact_1 (finVs (k:Int)) (finOb f (.nils 6) ⟨[],[]⟩) (.d (.int .i64 (j:Int))) [some (.box [.map 5]),some (.box [.d (dF f)]),some (.box [finFn]),some (.box [.map 6]),some (.box [.own 7]),some (.map (dDone s1.done++[(.int .i64 (k:Int),.int .i64 (j:Int))])),some (.map (dNum s1.out 0)),some (.row 6 (s1.out.map dNd))]:=by
 refine fn_introR hmix k_formula_compact_1 (by show 6≤68;decide) _ (fun e env mem n h=>h) ?_
 (repeat' ((conv=>whnf);first|refine vA ?_|refine vG ?_|refine vN ‹_› ?_|refine yD hu (by (repeat refine ⟨⟨rfl,rfl⟩,?_⟩);rfl) rfl ?_|refine FindS.mk _ ‹_› ?_));all_goals try conv=>whnf
 refine CallS.objsE [0,1,2,3,4,5,6] (c1) (by (repeat' first|exact rfl|refine And.intro ?_ ?_|refine ⟨_,rfl,?_⟩)) (by (repeat' first|exact rfl|refine And.intro ?_ ?_|refine ⟨_,rfl,?_⟩)) (by rfl) (by kernel_rfl) (by simp) [(0,some (.box [.map 5])),(1,some (.box [.d (dF f)])),(2,some (.box [finFn])),(3,some (.box [.map 6])),(4,some (.box [.own 9])),(5,some (.map (dDone s1.done))),(6,some (.map (dNum s1.out 0))),(9,some (.row 6 (s1.out.map dNd)))] rfl ?_
 (repeat' ((conv=>whnf);first|refine vA ?_|refine vE ?_|refine vG ?_|refine vH ?_|refine FindS.mk _ ‹_› ?_));all_goals try conv=>whnf
 refine ⟨trivial,_,[(0,0),(1,1),(2,2),(3,3),(4,4),(5,5),(6,6),(7,9)],[],rfl,.inl (by (repeat' exact rfl)),⟨by rfl,by rfl,by rfl,trivial,by (repeat' first|exact trivial|exact rfl|refine And.intro ?_ ?_|refine ⟨_,rfl,?_⟩|exact of_decide_eq_true rfl)⟩,by (repeat' first|exact trivial|exact rfl|refine And.intro ?_ ?_|refine ⟨_,rfl,?_⟩)⟩
theorem finB1n {f:List Nd} (hL:f.length≤1000) {k:Nat} {n:Nd} (hn:f[k]? = some n) (hfd:findD (dDone (FSt.done ⟨[],[]⟩)) (.int .i64 (k:Int))=some none) (hu:Fn Tryz.prog T f_formula_uses [.d (.int .i64 n.op)] [] (.d (.tup [.agg [.bool true,.bool false,.bool (useFact n.op),.bool (useAgent n.op),.bool (useGroup n.op),.bool (useEvent n.op),.int .i64 (fragOf n.op)],.bool (isOp n.op)])) []) {r1:Nat} {s1:FSt} (hl1:s1.out.length≤1000) (c1:Fn Tryz.prog T f_formula_compact_1 (finVs n.x) (finOb f (.nils 6) ⟨[],[]⟩) (.d (.int .i64 (r1:Int))) (finUp0 f s1)) (hfd1:findD (dDone s1.done) (.int .i64 (k:Int))=some none) (hfn:findD (dNum s1.out 0) (dNd ⟨n.op,n.i,n.e,n.g,(r1:Int),n.y⟩)=some none) :
  Fn Tryz.prog T f_formula_compact_1 (finVs (k:Int)) (finOb f (.nils 6) ⟨[],[]⟩) (.d (.int .i64 (((s1.out.map dNd).length:Nat):Int))) [some (.box [.map 5]),some (.box [.d (dF f)]),some (.box [finFn]),some (.box [.map 6]),some (.box [.own 7]),some (.map (dDone s1.done++[(.int .i64 (k:Int),.int .i64 (((s1.out.map dNd).length:Nat):Int))])),some (.map (dNum s1.out 0++[(dNd ⟨n.op,n.i,n.e,n.g,(r1:Int),n.y⟩,.int .i64 (((s1.out.map dNd).length:Nat):Int))])),some (.row 6 (s1.out.map dNd++[dNd ⟨n.op,n.i,n.e,n.g,(r1:Int),n.y⟩]))]:=by
 refine fn_introR hmix k_formula_compact_1 (by show 6≤68;decide) _ (fun e env mem n h=>h) ?_
 (repeat' ((conv=>whnf);first|refine vA ?_|refine vG ?_|refine vN ‹_› ?_|refine yD hu (by (repeat refine ⟨⟨rfl,rfl⟩,?_⟩);rfl) rfl ?_|refine FindS.mk _ ‹_› ?_));all_goals try conv=>whnf
 refine CallS.objsE [0,1,2,3,4,5,6] (c1) (by (repeat' first|exact rfl|refine And.intro ?_ ?_|refine ⟨_,rfl,?_⟩)) (by (repeat' first|exact rfl|refine And.intro ?_ ?_|refine ⟨_,rfl,?_⟩)) (by rfl) (by kernel_rfl) (by simp) [(0,some (.box [.map 5])),(1,some (.box [.d (dF f)])),(2,some (.box [finFn])),(3,some (.box [.map 6])),(4,some (.box [.own 9])),(5,some (.map (dDone s1.done))),(6,some (.map (dNum s1.out 0))),(9,some (.row 6 (s1.out.map dNd)))] rfl ?_
 (repeat' ((conv=>whnf);first|refine vA ?_|refine vH ?_|refine vJ fun hg=>?_|(refine vP ?_ ?_;·(simp only [vM] at *;omega))|refine FindS.mk _ ‹_› ?_));all_goals try conv=>whnf
 refine ⟨trivial,_,[(0,0),(1,1),(2,2),(3,3),(4,4),(5,5),(6,6),(7,11)],[],rfl,.inl (by (repeat' exact rfl)),⟨by rfl,by rfl,by rfl,trivial,by (repeat' first|exact trivial|exact rfl|refine And.intro ?_ ?_|refine ⟨_,rfl,?_⟩|exact of_decide_eq_true rfl)⟩,by (repeat' first|exact trivial|exact rfl|refine And.intro ?_ ?_|refine ⟨_,rfl,?_⟩)⟩
end Go.Ab
namespace Go.Ab
open Go Go.Proofs
set_option linter.unusedSimpArgs false
set_option linter.unusedVariables false
set_option maxRecDepth 10000
set_option maxHeartbeats 4000000
set_option maxHeartbeats 40000000
variable {T:Nat→Obj→Prop}
theorem finB2f {f:List Nd} (hL:f.length≤1000) {k:Nat} {n:Nd} (hn:f[k]? = some n) (hfd:findD (dDone (FSt.done ⟨[],[]⟩)) (.int .i64 (k:Int))=some none) (hu:Fn Tryz.prog T f_formula_uses [.d (.int .i64 n.op)] [] (.d (.tup [.agg [.bool true,.bool true,.bool (useFact n.op),.bool (useAgent n.op),.bool (useGroup n.op),.bool (useEvent n.op),.int .i64 (fragOf n.op)],.bool (isOp n.op)])) []) {r1:Nat} {s1:FSt} (hl1:s1.out.length≤1000) (c1:Fn Tryz.prog T f_formula_compact_1 (finVs n.x) (finOb f (.nils 6) ⟨[],[]⟩) (.d (.int .i64 (r1:Int))) (finUp0 f s1)) (hfd1:findD (dDone s1.done) (.int .i64 (k:Int))=some none) {r2:Nat} {s2:FSt} (hl2:s2.out.length≤1000) (c2:Fn Tryz.prog T f_formula_compact_1 (finVs n.y) (finOb f (.own 7) s1++[.row 6 (s1.out.map dNd)]) (.d (.int .i64 (r2:Int))) (finUp f s2)) (hfd2:findD (dDone s2.done) (.int .i64 (k:Int))=some none) {j:Nat} (hfn:findD (dNum s2.out 0) (dNd ⟨n.op,n.i,n.e,n.g,(r1:Int),(r2:Int)⟩)=some (some (.int .i64 (j:Int)))) :
  Fn Tryz.prog T f_formula_compact_1 (finVs (k:Int)) (finOb f (.nils 6) ⟨[],[]⟩) (.d (.int .i64 (j:Int))) [some (.box [.map 5]),some (.box [.d (dF f)]),some (.box [finFn]),some (.box [.map 6]),some (.box [.own 7]),some (.map (dDone s2.done++[(.int .i64 (k:Int),.int .i64 (j:Int))])),some (.map (dNum s2.out 0)),some (.row 6 (s2.out.map dNd))]:=by
 refine fn_introR hmix k_formula_compact_1 (by show 6≤68;decide) _ (fun e env mem n h=>h) ?_
 (repeat' ((conv=>whnf);first|refine vA ?_|refine vG ?_|refine vN ‹_› ?_|refine yD hu (by (repeat refine ⟨⟨rfl,rfl⟩,?_⟩);rfl) rfl ?_|refine FindS.mk _ ‹_› ?_));all_goals try conv=>whnf
 refine CallS.objsE [0,1,2,3,4,5,6] (c1) (by (repeat' first|exact rfl|refine And.intro ?_ ?_|refine ⟨_,rfl,?_⟩)) (by (repeat' first|exact rfl|refine And.intro ?_ ?_|refine ⟨_,rfl,?_⟩)) (by rfl) (by kernel_rfl) (by simp) [(0,some (.box [.map 5])),(1,some (.box [.d (dF f)])),(2,some (.box [finFn])),(3,some (.box [.map 6])),(4,some (.box [.own 9])),(5,some (.map (dDone s1.done))),(6,some (.map (dNum s1.out 0))),(9,some (.row 6 (s1.out.map dNd)))] rfl ?_
 (repeat' ((conv=>whnf);first|refine vA ?_|refine vG ?_));all_goals try conv=>whnf
 refine CallS.objsE [0,1,2,3,4,5,6,9] (c2) (by (repeat' first|exact rfl|refine And.intro ?_ ?_|refine ⟨_,rfl,?_⟩)) (by (repeat' first|exact rfl|refine And.intro ?_ ?_|refine ⟨_,rfl,?_⟩)) (by rfl) (by kernel_rfl) (by simp) [(0,some (.box [.map 5])),(1,some (.box [.d (dF f)])),(2,some (.box [finFn])),(3,some (.box [.map 6])),(4,some (.box [.own 10])),(5,some (.map (dDone s2.done))),(6,some (.map (dNum s2.out 0))),(9,none),(10,some (.row 6 (s2.out.map dNd)))] rfl ?_
 (repeat' ((conv=>whnf);first|refine vA ?_|refine vE ?_|refine vG ?_|refine FindS.mk _ ‹_› ?_));all_goals try conv=>whnf
 refine ⟨trivial,_,[(0,0),(1,1),(2,2),(3,3),(4,4),(5,5),(6,6),(7,10)],[],rfl,.inl (by (repeat' exact rfl)),⟨by rfl,by rfl,by rfl,trivial,by (repeat' first|exact trivial|exact rfl|refine And.intro ?_ ?_|refine ⟨_,rfl,?_⟩|exact of_decide_eq_true rfl)⟩,by (repeat' first|exact trivial|exact rfl|refine And.intro ?_ ?_|refine ⟨_,rfl,?_⟩)⟩
theorem finB2n {f:List Nd} (hL:f.length≤1000) {k:Nat} {n:Nd} (hn:f[k]? = some n) (hfd:findD (dDone (FSt.done ⟨[],[]⟩)) (.int .i64 (k:Int))=some none) (hu:Fn Tryz.prog T f_formula_uses [.d (.int .i64 n.op)] [] (.d (.tup [.agg [.bool true,.bool true,.bool (useFact n.op),.bool (useAgent n.op),.bool (useGroup n.op),.bool (useEvent n.op),.int .i64 (fragOf n.op)],.bool (isOp n.op)])) []) {r1:Nat} {s1:FSt} (hl1:s1.out.length≤1000) (c1:Fn Tryz.prog T f_formula_compact_1 (finVs n.x) (finOb f (.nils 6) ⟨[],[]⟩) (.d (.int .i64 (r1:Int))) (finUp0 f s1)) (hfd1:findD (dDone s1.done) (.int .i64 (k:Int))=some none) {r2:Nat} {s2:FSt} (hl2:s2.out.length≤1000) (c2:Fn Tryz.prog T f_formula_compact_1 (finVs n.y) (finOb f (.own 7) s1++[.row 6 (s1.out.map dNd)]) (.d (.int .i64 (r2:Int))) (finUp f s2)) (hfd2:findD (dDone s2.done) (.int .i64 (k:Int))=some none) (hfn:findD (dNum s2.out 0) (dNd ⟨n.op,n.i,n.e,n.g,(r1:Int),(r2:Int)⟩)=some none) :
  Fn Tryz.prog T f_formula_compact_1 (finVs (k:Int)) (finOb f (.nils 6) ⟨[],[]⟩) (.d (.int .i64 (((s2.out.map dNd).length:Nat):Int))) [some (.box [.map 5]),some (.box [.d (dF f)]),some (.box [finFn]),some (.box [.map 6]),some (.box [.own 7]),some (.map (dDone s2.done++[(.int .i64 (k:Int),.int .i64 (((s2.out.map dNd).length:Nat):Int))])),some (.map (dNum s2.out 0++[(dNd ⟨n.op,n.i,n.e,n.g,(r1:Int),(r2:Int)⟩,.int .i64 (((s2.out.map dNd).length:Nat):Int))])),some (.row 6 (s2.out.map dNd++[dNd ⟨n.op,n.i,n.e,n.g,(r1:Int),(r2:Int)⟩]))]:=by
 refine fn_introR hmix k_formula_compact_1 (by show 6≤68;decide) _ (fun e env mem n h=>h) ?_
 (repeat' ((conv=>whnf);first|refine vA ?_|refine vG ?_|refine vN ‹_› ?_|refine yD hu (by (repeat refine ⟨⟨rfl,rfl⟩,?_⟩);rfl) rfl ?_|refine FindS.mk _ ‹_› ?_));all_goals try conv=>whnf
 refine CallS.objsE [0,1,2,3,4,5,6] (c1) (by (repeat' first|exact rfl|refine And.intro ?_ ?_|refine ⟨_,rfl,?_⟩)) (by (repeat' first|exact rfl|refine And.intro ?_ ?_|refine ⟨_,rfl,?_⟩)) (by rfl) (by kernel_rfl) (by simp) [(0,some (.box [.map 5])),(1,some (.box [.d (dF f)])),(2,some (.box [finFn])),(3,some (.box [.map 6])),(4,some (.box [.own 9])),(5,some (.map (dDone s1.done))),(6,some (.map (dNum s1.out 0))),(9,some (.row 6 (s1.out.map dNd)))] rfl ?_
 (repeat' ((conv=>whnf);first|refine vA ?_|refine vG ?_));all_goals try conv=>whnf
 refine CallS.objsE [0,1,2,3,4,5,6,9] (c2) (by (repeat' first|exact rfl|refine And.intro ?_ ?_|refine ⟨_,rfl,?_⟩)) (by (repeat' first|exact rfl|refine And.intro ?_ ?_|refine ⟨_,rfl,?_⟩)) (by rfl) (by kernel_rfl) (by simp) [(0,some (.box [.map 5])),(1,some (.box [.d (dF f)])),(2,some (.box [finFn])),(3,some (.box [.map 6])),(4,some (.box [.own 10])),(5,some (.map (dDone s2.done))),(6,some (.map (dNum s2.out 0))),(9,none),(10,some (.row 6 (s2.out.map dNd)))] rfl ?_
 (repeat' ((conv=>whnf);first|refine vA ?_|refine vJ fun hg=>?_|(refine vP ?_ ?_;·(simp only [vM] at *;omega))|refine FindS.mk _ ‹_› ?_));all_goals try conv=>whnf
 refine ⟨trivial,_,[(0,0),(1,1),(2,2),(3,3),(4,4),(5,5),(6,6),(7,12)],[],rfl,.inl (by (repeat' exact rfl)),⟨by rfl,by rfl,by rfl,trivial,by (repeat' first|exact trivial|exact rfl|refine And.intro ?_ ?_|refine ⟨_,rfl,?_⟩|exact of_decide_eq_true rfl)⟩,by (repeat' first|exact trivial|exact rfl|refine And.intro ?_ ?_|refine ⟨_,rfl,?_⟩)⟩
end Go.Ab
namespace Go.Ab
open Go Go.Proofs
set_option linter.unusedSimpArgs false
set_option linter.unusedVariables false
set_option maxRecDepth 10000
set_option maxHeartbeats 4000000
variable {T:Nat→Obj→Prop}
theorem fn_fin {f:List Nd} (hf:Okay f) (hL:f.length≤1000) : ∀ (m k:Nat) (i:Int) (s:FSt),k < m→i=k→k < f.length→FInv f s →
  Fn Tryz.prog T f_formula_compact_1 (finVs i) (finOb f (.own 7) s++[.row 6 (s.out.map dNd)]) (.d (.int .i64 ((fin f (k+1) k s).1:Int))) (finUp f (fin f (k+1) k s).2):=by
 intro m
 induction m with
 | zero=>intro k i s h;omega
 | succ m ih =>
  intro k i s hk hi hkf hs
  subst hi
  have hl:s.out.length≤1000:=Nat.le_trans (fin_len hs) hL
  cases hd:s.done.lookup k with
  | some r =>
   have e:fin f (k+1) k s=(r,s):=by rw [fin,hd]
   have hfd:findD (dDone s.done) (.int .i64 (k:Int))=some (some (D.int .i64 (r:Int))):=by rw [find_done,hd];rfl
   rw [e]
   refine fn_introR hmix k_formula_compact_1 (by show 6≤68;decide) _ (fun e env mem n h=>h) ?_
   (repeat' ((conv=>whnf);first|refine vA ?_|refine vG ?_|refine FindS.mk _ ‹_› ?_));all_goals try conv=>whnf
   refine ⟨trivial,_,[(0,0),(1,1),(2,2),(3,3),(4,4),(5,5),(6,6),(8,7)],[],rfl,.inl (by (repeat' exact rfl)),⟨by rfl,by rfl,by rfl,trivial,by (repeat' first|exact trivial|exact rfl|refine And.intro ?_ ?_|refine ⟨_,rfl,?_⟩|exact of_decide_eq_true rfl)⟩,by (repeat' first|exact trivial|exact rfl|refine And.intro ?_ ?_|refine ⟨_,rfl,?_⟩)⟩
  | none =>
   obtain ⟨n,hn⟩ : ∃ n,f[k]? = some n:=⟨f[k],by simp [hkf]⟩
   have hn':f.getD k default=n:=by simp [List.getD,hn]
   cases hx:useX n.op with
   | false =>
    have hy:useY n.op=false:=by
     cases hy:useY n.op with
     | true=>rw [useX_of_useY hy] at hx;cases hx
     | false=>rfl
    have hu:=uses_of (T:=T) hx hy
    have e:=fin_ff hf hkf hd (by rw [hn'];exact hx) (by rw [hn'];exact hy)
    rw [hn'] at e
    cases hp:s.out.idxOf? n with
    | some j =>
     rw [put_found hp] at e
     rw [e]
     simp only [finUp,dDone_append]
     exact finA0f hL hn hl (find_done_none hd) hu (find_num_some hp)
    | none =>
     rw [put_new hp,← List.length_map (f:=dNd)] at e
     rw [e]
     simp only [finUp,dDone_append,dNum_append',List.map_append,List.map_cons,List.map_nil]
     exact finA0n hL hn hl (find_done_none hd) hu (find_num_none hp)
   | true =>
    have hxk:=okay_x hf hkf (by rw [hn'];exact hx)
    rw [hn'] at hxk
    obtain ⟨i1,d1⟩:=fin_lookup hf hxk.2 (by omega) hs hd
    have c1:=ih n.x.toNat n.x s (by omega) (by omega) (by omega) hs
    cases h1:fin f (n.x.toNat+1) n.x.toNat s with
    | mk r1 s1 =>
    rw [h1] at i1 d1 c1
    simp only at i1 d1 c1
    have l1:s1.out.length≤1000:=Nat.le_trans (fin_len i1) hL
    cases hy:useY n.op with
    | false =>
     have hu:=uses_of (T:=T) hx hy
     have e:=fin_tf hf hkf hd hn' hx hy h1
     cases hp:s1.out.idxOf? ⟨n.op,n.i,n.e,n.g,(r1:Int),n.y⟩ with
     | some j =>
      rw [put_found hp] at e
      rw [e]
      simp only [finUp,dDone_append]
      exact finA1f hL hn hl (find_done_none hd) hu l1 c1 (find_done_none d1) (find_num_some hp)
     | none =>
      rw [put_new hp,← List.length_map (f:=dNd)] at e
      rw [e]
      simp only [finUp,dDone_append,dNum_append',List.map_append,List.map_cons,List.map_nil]
      exact finA1n hL hn hl (find_done_none hd) hu l1 c1 (find_done_none d1) (find_num_none hp)
    | true =>
     have hyk:=okay_y hf hkf (by rw [hn'];exact hy)
     rw [hn'] at hyk
     obtain ⟨i2,d2⟩:=fin_lookup hf hyk.2 (by omega) i1 d1
     have c2:=ih n.y.toNat n.y s1 (by omega) (by omega) (by omega) i1
     cases h2:fin f (n.y.toNat+1) n.y.toNat s1 with
     | mk r2 s2 =>
     rw [h2] at i2 d2 c2
     simp only at i2 d2 c2
     have l2:s2.out.length≤1000:=Nat.le_trans (fin_len i2) hL
     have hu:=uses_of (T:=T) hx hy
     have e:=fin_tt hf hkf hd hn' hx hy h1 h2
     cases hp:s2.out.idxOf? ⟨n.op,n.i,n.e,n.g,(r1:Int),(r2:Int)⟩ with
     | some j =>
      rw [put_found hp] at e
      rw [e]
      simp only [finUp,dDone_append]
      exact finA2f hL hn hl (find_done_none hd) hu l1 c1 (find_done_none d1) l2 c2 (find_done_none d2) (find_num_some hp)
     | none =>
      rw [put_new hp,← List.length_map (f:=dNd)] at e
      rw [e]
      simp only [finUp,dDone_append,dNum_append',List.map_append,List.map_cons,List.map_nil]
      exact finA2n hL hn hl (find_done_none hd) hu l1 c1 (find_done_none d1) l2 c2 (find_done_none d2) (find_num_none hp)
theorem fn_fin0 {f:List Nd} (hf:Okay f) (hL:f.length≤1000) : ∀ (m k:Nat) (i:Int),k < m→i=k→k < f.length →
  Fn Tryz.prog T f_formula_compact_1 (finVs i) (finOb f (.nils 6) ⟨[],[]⟩) (.d (.int .i64 ((fin f (k+1) k ⟨[],[]⟩).1:Int))) (finUp0 f (fin f (k+1) k ⟨[],[]⟩).2):=by
 intro m
 induction m with
 | zero=>intro k i h;omega
 | succ m ih =>
  intro k i hk hi hkf
  subst hi
  have hs:=inv_nil f
  have hd:(FSt.mk [] []).done.lookup k=none:=rfl
  have hx0:True:=trivial
  cases hx0 with
  | intro =>
   obtain ⟨n,hn⟩ : ∃ n,f[k]? = some n:=⟨f[k],by simp [hkf]⟩
   have hn':f.getD k default=n:=by simp [List.getD,hn]
   cases hx:useX n.op with
   | false =>
    have hy:useY n.op=false:=by
     cases hy:useY n.op with
     | true=>rw [useX_of_useY hy] at hx;cases hx
     | false=>rfl
    have hu:=uses_of (T:=T) hx hy
    have e:=fin_ff hf hkf hd (by rw [hn'];exact hx) (by rw [hn'];exact hy)
    rw [hn'] at e
    have hp:([]:List Nd).idxOf? n=none:=rfl
    rw [put_new hp,← List.length_map (f:=dNd)] at e
    rw [e]
    simp only [finUp0,dDone_append,dNum_append',List.map_append,List.map_cons,List.map_nil]
    exact finB0n hL hn (find_done_none hd) hu (find_num_none hp)
   | true =>
    have hxk:=okay_x hf hkf (by rw [hn'];exact hx)
    rw [hn'] at hxk
    obtain ⟨i1,d1⟩:=fin_lookup hf hxk.2 (by omega) hs hd
    have c1:=ih n.x.toNat n.x (by omega) (by omega) (by omega)
    cases h1:fin f (n.x.toNat+1) n.x.toNat (FSt.mk [] []) with
    | mk r1 s1 =>
    rw [h1] at i1 d1 c1
    simp only at i1 d1 c1
    have l1:s1.out.length≤1000:=Nat.le_trans (fin_len i1) hL
    cases hy:useY n.op with
    | false =>
     have hu:=uses_of (T:=T) hx hy
     have e:=fin_tf hf hkf hd hn' hx hy h1
     cases hp:s1.out.idxOf? ⟨n.op,n.i,n.e,n.g,(r1:Int),n.y⟩ with
     | some j =>
      rw [put_found hp] at e
      rw [e]
      simp only [finUp0,dDone_append]
      exact finB1f hL hn (find_done_none hd) hu l1 c1 (find_done_none d1) (find_num_some hp)
     | none =>
      rw [put_new hp,← List.length_map (f:=dNd)] at e
      rw [e]
      simp only [finUp0,dDone_append,dNum_append',List.map_append,List.map_cons,List.map_nil]
      exact finB1n hL hn (find_done_none hd) hu l1 c1 (find_done_none d1) (find_num_none hp)
    | true =>
     have hyk:=okay_y hf hkf (by rw [hn'];exact hy)
     rw [hn'] at hyk
     obtain ⟨i2,d2⟩:=fin_lookup hf hyk.2 (by omega) i1 d1
     have c2:=fn_fin (T:=T) hf hL (n.y.toNat+1) n.y.toNat n.y s1 (by omega) (by omega) (by omega) i1
     cases h2:fin f (n.y.toNat+1) n.y.toNat s1 with
     | mk r2 s2 =>
     rw [h2] at i2 d2 c2
     simp only at i2 d2 c2
     have l2:s2.out.length≤1000:=Nat.le_trans (fin_len i2) hL
     have hu:=uses_of (T:=T) hx hy
     have e:=fin_tt hf hkf hd hn' hx hy h1 h2
     cases hp:s2.out.idxOf? ⟨n.op,n.i,n.e,n.g,(r1:Int),(r2:Int)⟩ with
     | some j =>
      rw [put_found hp] at e
      rw [e]
      simp only [finUp0,dDone_append]
      exact finB2f hL hn (find_done_none hd) hu l1 c1 (find_done_none d1) l2 c2 (find_done_none d2) (find_num_some hp)
     | none =>
      rw [put_new hp,← List.length_map (f:=dNd)] at e
      rw [e]
      simp only [finUp0,dDone_append,dNum_append',List.map_append,List.map_cons,List.map_nil]
      exact finB2n hL hn (find_done_none hd) hu l1 c1 (find_done_none d1) l2 c2 (find_done_none d2) (find_num_none hp)
end Go.Ab
namespace Go.Ab
open Go Go.Proofs
set_option linter.unusedSimpArgs false
set_option linter.unusedVariables false
set_option maxRecDepth 10000
set_option maxHeartbeats 4000000
variable {T:Nat→Obj→Prop}
theorem fn_compact {f:List Nd} (hf:Okay f) (hL:f.length≤1000) {k:Nat} {i:Int} (hi:i=k) (hk:k < f.length):Fn Tryz.prog T f_formula_compact [.d (dF f),.d (.int .i64 i)] [] (.d (dF (compactL f k))) []:=by
 have c:=fn_fin0 (T:=T) hf hL (k+1) k i (by omega) hi hk
 refine fn_dataR hmix k_formula_compact (by show 2≤16;decide) ?_
 (repeat' ((conv=>whnf);fail));all_goals try conv=>whnf
 refine CallS.objs [5,0,6,3,1,4,2] (c) (by (repeat' first|exact rfl|refine And.intro ?_ ?_|refine ⟨_,rfl,?_⟩)) (by (repeat' first|exact rfl|refine And.intro ?_ ?_|refine ⟨_,rfl,?_⟩)) (by rfl) (by rfl) (by simp) ?_
 (repeat' ((conv=>whnf);fail));all_goals try conv=>whnf
 rfl
def subL (f:List Nd) (i:Int):List Nd:=if fErr f≠0∨i < 0∨(f.length:Int)≤i then [] else compactL f i.toNat
def cL (f:List Nd):List Nd:=if fErr f≠0 then [] else compactL f (f.length - 1)
theorem subL_c (f:List Nd):subL f ((f.length:Int) - 1)=cL f:=by
 unfold subL cL
 by_cases h:fErr f=0
 ·have:=(fErr_ok.1 h).1
  rw [if_neg (by omega),if_neg (by omega)]
  congr 1
  omega
 ·rw [if_pos (.inl h),if_pos h]
theorem fn_Sub (f:List Nd) (i:Int):Fn Tryz.prog T f_formula_Sub [.d (dF f),.d (.int .i64 i)] [] (.d (dF (subL f i))) []:=by
 refine fn_dataR hmix k_formula_Sub (by show 2≤21;decide) ?_
 (repeat' ((conv=>whnf);first|refine vA ?_|((first|refine vD ?_ ?_|refine vF ?_ ?_)<;>intro hc<;>try simp only [vL] at hc)|refine vJ fun hg=>?_|refine yD (fn_fCheck _) ⟨⟨rfl,rfl⟩,rfl⟩ rfl ?_));all_goals try conv=>whnf
 ·have hp:subL f i=[]:=if_pos (.inl ‹_›)
  rw [hp];rfl
 ·have hp:subL f i=[]:=if_pos (.inr (.inl ‹_›))
  rw [hp];rfl
 ·have hp:subL f i=[]:=if_pos (.inr (.inr (by omega)))
  rw [hp];rfl
 ·have h0:fErr f=0:=by omega
  have h1:=fErr_ok.1 h0
  have hp:subL f i=compactL f i.toNat:=if_neg (by omega)
  rw [hp]
  have cS:=fn_compact (T:=T) (f:=f) h1.2.2 (by omega) (k:=i.toNat) (i:=i) (by omega) (by omega)
  (repeat' ((conv=>whnf);refine yN cS ⟨⟨rfl,rfl⟩,⟨rfl,rfl⟩,rfl⟩ ?_));all_goals try conv=>whnf
  rfl
theorem fn_fCompact (f:List Nd):Fn Tryz.prog T f_formula_Compact [.d (dF f)] [] (.d (dF (cL f))) []:=by
 refine fn_dataR hmix k_formula_Compact (by show 1≤8;decide) ?_
 (repeat' ((conv=>whnf);first|refine vJ fun hg=>?_|(refine vO ?_ ?_;·(simp only [vM] at *;omega))|fail));all_goals try conv=>whnf
 have cC:=fn_Sub (T:=T) f (((f.map dNd).length:Int) - 1)
 rw [show subL f (((f.map dNd).length:Int) - 1)=cL f by rw [List.length_map,subL_c]] at cC
 (repeat' ((conv=>whnf);refine yN cC ⟨⟨rfl,rfl⟩,⟨rfl,rfl⟩,rfl⟩ ?_));all_goals try conv=>whnf
 rfl
theorem cL_canon {f:List Nd} (h:fErr f=0):Canon (tmOf f (f.length - 1)) (cL f)∧(cL f).length≤f.length:=by
 obtain ⟨h1,h2,h3⟩:=fErr_ok.1 h
 unfold cL
 rw [if_neg (by omega)]
 exact ⟨compactL_canon h3 (by omega),(compactL_eq h3 (by omega)).2.1⟩
theorem cL_nil {f:List Nd} (h:fErr f≠0):cL f=[]:=if_pos h
theorem cL_len (f:List Nd):(cL f).length≤200:=by
 by_cases h:fErr f=0
 ·have:=(cL_canon h).2
  have:=(fErr_ok.1 h).2.1
  omega
 ·rw [cL_nil h];simp
theorem cL_okay (f:List Nd):Okay (cL f):=by
 by_cases h:fErr f=0
 ·exact (cL_canon h).1.ok
 ·rw [cL_nil h];exact okay_nil
theorem cL_hd {f:List Nd} {n:Nd} (h:n∈cL f):HdOk n.hd:=by
 obtain ⟨i,hi⟩:=List.getElem?_of_mem h
 exact (nErr_iff.1 (cL_okay f i n hi)).1
theorem uni_le (m:Hd→Nat) {b:Nat} (f:List Nd) (h : ∀ n∈cL f,m n.hd < 2 ^ b) (k:Nat):uni m ((cL f).take k) < 2 ^ b :=
 (uni_lt m).2 fun n hn=>h n (List.mem_of_mem_take hn)
theorem fn_union (f:List Nd) (g:Nat) (m:Hd→Nat) (hm : ∀ n,n∈cL f→m n.hd < 2 ^ 31∧Fn Tryz.prog T g [.d (dNd n),.d (dUse n.op)] [] (.d (.int .i64 (m n.hd:Int))) []) :
  Fn Tryz.prog T f_formula_union [.d (dF f),.d (.fn g [])] [] (.d (.int .i64 (uni m (cL f):Int))) []:=by
 have hlen:=cL_len f
 refine fn_dataR hmix k_formula_union (by show 2≤31;decide) ?_
 (repeat' ((conv=>whnf);first|refine vA ?_|refine vJ fun hg=>?_|refine yN (fn_fCompact _) ⟨⟨rfl,rfl⟩,rfl⟩ ?_));all_goals try conv=>whnf
 refine loop_intro (fun ((k,x):Nat×Int)=>[(1,.d (.fn g [])),(11,.d (dF (cL f))),(12,.d (.int .i64 (((cL f).map dNd).length:Int))),(5,.d (.int .i64 (x))),(13,.d (.int .i64 ((k:Int))))]) (fun ((k,x):Nat×Int)=>k≤(cL f).length∧x=(uni m ((cL f).take k):Nat)) (fun ((k,x):Nat×Int)=>(cL f).length - k) ((0,0)) (⟨by simp,rfl⟩) (by (repeat' first|exact trivial|exact rfl|refine And.intro ?_ ?_)) ?_
 rintro ⟨k,x⟩ ⟨hk,hI⟩
 subst hI
 (repeat' ((conv=>whnf);first|refine vA ?_|(refine vF ?_ ?_<;>intro hc<;>try simp only [vL] at hc)|(refine vQ ?_ fun x hx=>?_;·omega)|refine vX ?_|refine yN (fn_uses _) ⟨⟨rfl,rfl⟩,rfl⟩ ?_));all_goals try conv=>whnf
 ·obtain ⟨h1,h2⟩:=hm _ (List.mem_of_getElem? hx)
  (repeat' ((conv=>whnf);first|(refine vO ?_ ?_;·omega)|refine yD h2 (by (repeat refine ⟨⟨rfl,rfl⟩,?_⟩);rfl) rfl ?_));all_goals try conv=>whnf
  refine ⟨(k+1,_),[],[],?_,?_,by (refine ⟨rfl,rfl,rfl,?_,?_⟩;repeat' first|exact trivial|exact rfl|refine And.intro ?_ ?_)⟩
  ·exact ⟨by (omega),by rw [uni_step m hx];exact bits_or (Nat.lt_trans (uni_le m f (fun n hn=>(hm n hn).1) k) (by decide)) (Nat.lt_trans h1 (by decide))⟩
  ·((simp only [vM] at *;omega))
 ·rw [show k=(cL f).length by omega,List.take_length]
theorem pow_small {i:Int} (h0:0≤i) (h7:i≤7):(-9223372036854775808≤(1:Int) * 2 ^ (min i.toNat IntKind.i64.bits)∧(1:Int) * 2 ^ (min i.toNat IntKind.i64.bits)≤9223372036854775807)∧((2 ^ i.toNat:Nat):Int)=(1:Int) * 2 ^ (min i.toNat IntKind.i64.bits):=by
 have:i=0∨i=1∨i=2∨i=3∨i=4∨i=5∨i=6∨i=7:=by omega
 rcases this with rfl|rfl|rfl|rfl|rfl|rfl|rfl|rfl<;>decide
theorem fn_Frags (f:List Nd):Fn Tryz.prog T f_formula_Frags [.d (dF f)] [] (.d (.int .i64 (uni fragN (cL f):Int))) []:=by
 have cU:=fn_union (T:=T) f f_formula_Frags_1 fragN (fun n hn=>⟨Nat.lt_trans (fragN_lt n.hd) (by decide),by
  refine fn_dataR hmix k_formula_Frags_1 (by show 2≤7;decide) ?_
  (repeat' ((conv=>whnf);refine vX ?_));all_goals try conv=>whnf
  exact (fragN_cast n.hd).symm⟩)
 refine fn_dataR hmix k_formula_Frags (by show 1≤5;decide) ?_
 (repeat' ((conv=>whnf);first|refine vX ?_|refine yD cU ⟨⟨rfl,rfl⟩,⟨rfl,rfl⟩,rfl⟩ rfl ?_));all_goals try conv=>whnf
 all_goals skip
theorem fn_Facts (f:List Nd):Fn Tryz.prog T f_formula_Facts [.d (dF f)] [] (.d (.int .i64 (uni factN (cL f):Int))) []:=by
 have cU:=fn_union (T:=T) f f_formula_Facts_1 factN (fun n hn=>⟨Nat.lt_trans (factN_lt (cL_hd hn)) (by decide),by
  have hh:=cL_hd hn
  cases hf:useFact n.op with
  | true =>
   obtain ⟨h0,h7⟩:0≤n.i∧n.i≤7:=hh.fact hf
   obtain ⟨h1,h2⟩:=pow_small h0 h7
   have e:((factN n.hd:Nat):Int)=1 * 2 ^ min n.i.toNat IntKind.i64.bits:=by rw [factN,if_pos (by exact hf)];exact h2
   rw [e,dUse,hf]
   refine fn_dataR hmix k_formula_Facts_1 (by show 2≤10;decide) ?_
   (repeat' ((conv=>whnf);first|refine vA ?_|refine vG ?_|((first|refine vO ?_ ?_|refine vP ?_ ?_);·omega)|refine vX ?_));all_goals try conv=>whnf
  | false =>
   have e:factN n.hd=0:=by rw [factN,if_neg (by simp [Nd.hd,hf])]
   rw [e,dUse,hf]
   refine fn_dataR hmix k_formula_Facts_1 (by show 2≤10;decide) ?_
   (repeat' ((conv=>whnf);first|refine vA ?_|refine vH ?_|refine vX ?_));all_goals try conv=>whnf
   rfl⟩)
 refine fn_dataR hmix k_formula_Facts (by show 1≤5;decide) ?_
 (repeat' ((conv=>whnf);first|refine vX ?_|refine yD cU ⟨⟨rfl,rfl⟩,⟨rfl,rfl⟩,rfl⟩ rfl ?_));all_goals try conv=>whnf
theorem fn_Agents (f:List Nd):Fn Tryz.prog T f_formula_Agents [.d (dF f)] [] (.d (.int .i64 (uni agentN (cL f):Int))) []:=by
 have cU:=fn_union (T:=T) f f_formula_Agents_1 agentN (fun n hn=>⟨Nat.lt_trans (agentN_lt (cL_hd hn)) (by decide),by
  have hh:=cL_hd hn
  cases hf:useAgent n.op with
  | true =>
   obtain ⟨h0,h7⟩:0≤n.i∧n.i≤3:=hh.agent hf
   obtain ⟨h1,h2⟩:=pow_small h0 (by omega)
   have e:((agentN n.hd:Nat):Int)=1 * 2 ^ min n.i.toNat IntKind.i64.bits:=by rw [agentN,if_pos (by exact hf)];exact h2
   rw [e,dUse,hf]
   refine fn_dataR hmix k_formula_Agents_1 (by show 2≤12;decide) ?_
   (repeat' ((conv=>whnf);first|refine vA ?_|refine vG ?_|((first|refine vO ?_ ?_|refine vP ?_ ?_);·omega)|refine vX ?_));all_goals try conv=>whnf
  | false =>
   have h0:0≤n.g:=by
    cases hg:useGroup n.op with
    | true=>have:1≤n.g∧n.g≤15:=hh.group hg;omega
    | false=>have:n.g=0:=hh.g0 hg;omega
   have e:((agentN n.hd:Nat):Int)=n.g:=by rw [agentN,if_neg (by simp [Nd.hd,hf])];exact Int.toNat_of_nonneg h0
   rw [e,dUse,hf]
   refine fn_dataR hmix k_formula_Agents_1 (by show 2≤12;decide) ?_
   (repeat' ((conv=>whnf);first|refine vA ?_|refine vH ?_|refine vX ?_));all_goals try conv=>whnf⟩)
 refine fn_dataR hmix k_formula_Agents (by show 1≤5;decide) ?_
 (repeat' ((conv=>whnf);first|refine vX ?_|refine yD cU ⟨⟨rfl,rfl⟩,⟨rfl,rfl⟩,rfl⟩ rfl ?_));all_goals try conv=>whnf
def belowL (m:Nat) (n:Int):Bool:=decide (31≤n∨m < 2 ^ n.toNat)
theorem fn_below (m:Nat) (n:Int):Fn Tryz.prog T f_formula_Fits_1 [.d (.int .i64 (m:Int)),.d (.int .i64 n)] [] (.d (.bool (belowL m n))) []:=by
 refine fn_dataR hmix k_formula_Fits_1 (by show 2≤14;decide) ?_
 (repeat' ((conv=>whnf);first|refine vA ?_|(refine vF ?_ ?_<;>intro hc<;>try simp only [vL] at hc)|(refine vP ?_ ?_;·omega)|refine vZ ?_));all_goals try conv=>whnf
 ·simp [belowL, *]
 ·show decide ((m:Int).fdiv (2 ^ min (max n 0).toNat IntKind.i64.bits)=0)=_
  have e1:(max n 0).toNat=n.toNat:=by omega
  have e2:min n.toNat IntKind.i64.bits=n.toNat:=Nat.min_eq_left (show n.toNat≤64 by omega)
  rw [e1,e2,shr_nat,belowL,Nat.shiftRight_eq_div_pow]
  refine decide_eq_decide.2 ⟨fun h => .inr ?_,fun h=>?_⟩
  ·have h0:m / 2 ^ n.toNat=0:=by omega
   exact (Nat.div_eq_zero_iff.1 h0).resolve_left (by have:=Nat.two_pow_pos n.toNat;omega)
  ·have h0:m / 2 ^ n.toNat=0:=Nat.div_eq_zero_iff.2 (.inr (h.resolve_left (by omega)))
   rw [h0];rfl
def fitsL (f:List Nd) (agents facts:Int):Bool:=decide (fErr f=0)&&belowL (uni agentN (cL f)) agents&&belowL (uni factN (cL f)) facts
theorem fn_Fits (f:List Nd) (agents facts:Int):Fn Tryz.prog T f_formula_Fits [.d (dF f),.d (.int .i64 agents),.d (.int .i64 facts)] [] (.d (.bool (fitsL f agents facts))) []:=by
 refine fn_dataR hmix k_formula_Fits (by show 3≤25;decide) ?_
 (repeat' ((conv=>whnf);first|refine vA ?_|(refine vF ?_ ?_<;>intro hc)|refine vZ ?_|refine yD (fn_fCheck _) ⟨⟨rfl,rfl⟩,rfl⟩ rfl ?_|refine yD (fn_Agents _) ⟨⟨rfl,rfl⟩,rfl⟩ rfl ?_|refine yD (fn_Facts _) ⟨⟨rfl,rfl⟩,rfl⟩ rfl ?_|refine yD (fn_below _ _) ⟨⟨rfl,rfl⟩,⟨rfl,rfl⟩,rfl⟩ rfl ?_));all_goals try conv=>whnf
 ·simp_all [fitsL,belowL]
 ·have:belowL (uni agentN (cL f)) agents=false:=decide_eq_false ‹_›
  simp [fitsL,this]
 ·simp_all [fitsL]
end Go.Ab
namespace Go.Ab
open Go Go.Proofs
set_option linter.unusedSimpArgs false
set_option linter.unusedVariables false
set_option maxRecDepth 10000
set_option maxHeartbeats 4000000
variable {T:Nat→Obj→Prop}
theorem fn_valueN (hR:RanksOk T) (p:PM) (hp:IntsOk p.rank) (hc0:checkL p=0) (n:Nd) (hn:0≤n.g∧n.g < 9223372036854775808) (x y:BitVec 64) (h3:n.op=3→0≤n.i∧n.i < p.val.length) (h15:n.op=15→0≤n.i∧n.i < p.cell.length) :
  Fn Tryz.prog T f_doxastic_value [.d (dPM p),.d (dNd n),.d (.u64 x),.d (.u64 y)] [] (.d (.u64 (valL p n.hd x y))) []:=by
 obtain ⟨op,i,e,g,nx,ny⟩:=n
 obtain ⟨G,rfl⟩ : ∃ G:Nat,g=(G:Int):=⟨g.toNat,by have:=hn.1;simp only at this;omega⟩
 exact fn_value hR p hp hc0 op i e G (by have:=hn.2;simp only at this;omega) nx ny x y h3 h15
theorem sets_snoc {β:Type} (v:Hd→β→β→β) (d:β) (n:Nd) : ∀ (l:List Nd) (acc:List β),sets v d (l++[n]) acc=sets v d l acc++[v n.hd ((sets v d l acc).getD n.x.toNat d) ((sets v d l acc).getD n.y.toNat d)]
 | [],acc=>rfl
 | m::r,acc=>by rw [List.cons_append,sets,sets,sets_snoc v d n r]
theorem uses_valL (p:PM):Uses (valL p) where
 x h a b c hx:=by
  have : ¬(4≤h.op∧h.op≤21):=by simpa [useX] using hx
  unfold valL
  repeat (rw [if_neg (show ¬h.op=4 by omega)])
  by_cases h1:h.op=1
  ·simp [h1]
  ·by_cases h3:h.op=3
   ·simp [h3]
   ·simp only [h1,h3,if_false,show ¬h.op=5 by omega,show ¬h.op=6 by omega,show ¬h.op=7 by omega,show ¬h.op=8 by omega,show ¬h.op=9 by omega,show ¬h.op=10 by omega,show ¬h.op=11 by omega,show ¬h.op=13 by omega,show ¬h.op=14 by omega,show ¬h.op=15 by omega]
 y h a b c hy:=by
  have : ¬(5≤h.op∧h.op≤8∨h.op=13∨h.op=14∨h.op=16∨h.op=19∨h.op=21):=by simpa [useY] using hy
  unfold valL
  simp only [show ¬h.op=5 by omega,show ¬h.op=6 by omega,show ¬h.op=7 by omega,show ¬h.op=8 by omega,show ¬h.op=13 by omega,show ¬h.op=14 by omega,if_false]
noncomputable def holdsL (p:PM) (f:List Nd):BitVec 64×Int :=
 if checkL p≠0 then (0#64,checkL p) else if fErr f≠0 then (0#64,fErr f) else if bitsI .i64 (fun p q=>p &&& ~~~q) (uni fragN (cL f):Int) 59≠0 then (0#64,10) else
 if fitsL f p.cell.length p.val.length=false then (0#64,2) else ((sets (valL p) 0#64 (cL f) []).getD ((cL f).length - 1) 0#64,0)
abbrev dUE (x:BitVec 64×Int):D := .tup [.u64 x.1,.int .i64 x.2]
theorem fits_n {f:List Nd} {a b:Nat} (ha:a≤4) (hb:b≤8) (h:fitsL f a b=true) {n:Nd} (hn:n∈cL f):(n.op=3→0≤n.i∧n.i < b)∧(useAgent n.op=true→0≤n.i∧n.i < a)∧(useGroup n.op=true→n.g.toNat < 2 ^ a):=by
 have hh:=cL_hd hn
 simp only [fitsL,belowL,Bool.and_eq_true,decide_eq_true_eq,Int.toNat_natCast] at h
 obtain ⟨⟨-,h1⟩,h2⟩:=h
 have h1:=(uni_lt agentN).1 (h1.resolve_left (by omega)) n hn
 have h2:=(uni_lt factN).1 (h2.resolve_left (by omega)) n hn
 refine ⟨fun e=>?_,fun e=>?_,fun e=>?_⟩
 ·have e':useFact n.hd.op=true:=decide_eq_true e
  have h3:0≤n.i∧n.i≤7:=hh.fact e'
  rw [factN,if_pos e'] at h2
  have h2:2 ^ n.i.toNat < 2 ^ b:=h2
  have:=(Nat.pow_lt_pow_iff_right (by decide:1 < 2)).1 h2
  omega
 ·have h3:0≤n.i∧n.i≤3:=hh.agent e
  rw [agentN,if_pos (show useAgent n.hd.op=true from e)] at h1
  have h1:2 ^ n.i.toNat < 2 ^ a:=h1
  have:=(Nat.pow_lt_pow_iff_right (by decide:1 < 2)).1 h1
  omega
 ·have h3 : ¬ useAgent n.hd.op=true:=by
   have:11≤n.op∧n.op≤13:=by simpa [useGroup] using e
   simp only [useAgent,decide_eq_true_eq];show ¬(n.op=9∨n.op=10∨n.op=14∨n.op=15);omega
  rw [agentN,if_neg h3] at h1
  exact h1
theorem g_nonneg {n:Nd} (hh:HdOk n.hd):0≤n.g∧n.g≤15:=by
 cases hg:useGroup n.op with
 | true=>have:1≤n.g∧n.g≤15:=hh.group hg;omega
 | false=>have:n.g=0:=hh.g0 hg;omega
theorem xy_in {c:List Nd} (hc:Okay c) {k:Nat} {n:Nd} (h:c[k]? = some n) (hk:0 < k):(0≤n.x∧n.x < k)∧0≤n.y∧n.y < k:=by
 have h1:=nErr_iff.1 (hc k n h)
 constructor
 ·cases hx:useX n.op with
  | true=>exact h1.2.1 hx
  | false=>have:=h1.2.2.1 hx;omega
 ·cases hy:useY n.op with
  | true=>exact h1.2.2.2.1 hy
  | false=>have:=h1.2.2.2.2 hy;omega
theorem fn_Holds (hR:RanksOk T) (p:PM) (hp:IntsOk p.rank) (f:List Nd):Fn Tryz.prog T f_doxastic_Holds [.d (dPM p),.d (dF f)] [] (.d (dUE (holdsL p f))) []:=by
 have hlen:=cL_len f
 have hok:=cL_okay f
 refine fn_dataR hmix k_doxastic_Holds (by show 2≤71;decide) ?_
 (repeat' ((conv=>whnf);first|refine vA ?_|refine vE ?_|((first|refine vD ?_ ?_|refine vI ?_ ?_)<;>intro hc<;>try simp only [vL] at hc)|refine vJ fun hg=>?_|refine yD (fn_plaus_Check hR _ hp) ⟨⟨rfl,rfl⟩,rfl⟩ rfl ?_|refine yD (fn_fCheck _) ⟨⟨rfl,rfl⟩,rfl⟩ rfl ?_|refine yD (fn_Frags _) ⟨⟨rfl,rfl⟩,rfl⟩ rfl ?_|refine yD (fn_Fits _ _ _) ⟨⟨rfl,rfl⟩,⟨rfl,rfl⟩,⟨rfl,rfl⟩,rfl⟩ rfl ?_|refine yN (fn_fCompact _) ⟨⟨rfl,rfl⟩,rfl⟩ ?_));all_goals try conv=>whnf
 ·have e:holdsL p f=(0#64,checkL p):=if_pos ‹_›
  rw [e];rfl
 ·have e:holdsL p f=(0#64,fErr f):=by rw [holdsL,if_neg (by omega),if_pos ‹_›]
  rw [e];rfl
 ·have e:holdsL p f=(0#64,10):=by rw [holdsL,if_neg (by omega),if_neg (by omega),if_pos ‹_›]
  rw [e];rfl
 ·have hc0:=‹checkL p=0›
  have hf0:=‹fErr f=0›
  have hgd:=checkL_good hc0
  have hfit:=‹fitsL f _ _=true›
  have e:holdsL p f=((sets (valL p) 0#64 (cL f) []).getD ((cL f).length - 1) 0#64,0):=by rw [holdsL,if_neg (by omega),if_neg (by omega),if_neg (by omega),if_neg (by simp [hfit])]
  have hpos:=(cL_canon hf0).1.pos
  rw [e]
  refine loop_mem (fun ((k,zs):Nat×List D)=>[(2,.ptr 0 0),(8,.own 1),(37,.d (dF (cL f))),(38,.d (.int .i64 (((cL f).map dNd).length:Int))),(39,.d (.int .i64 ((k:Int))))]) (fun ((k,zs):Nat×List D)=>[(0,some (boxPM p)),(1,some (.row 1 zs))]) 2 (fun ((k,zs):Nat×List D)=>k≤(cL f).length∧zs=(sets (valL p) 0#64 ((cL f).take k) []).map D.u64) (fun ((k,zs):Nat×List D)=>(cL f).length - k) ((0,[])) [(0,0)]   [1] (⟨by simp,rfl⟩) (by (refine ⟨rfl,rfl,rfl,?_,?_⟩;repeat' first|exact trivial|exact rfl|exact ⟨_,rfl⟩|refine And.intro ?_ ?_|refine ⟨_,rfl,?_⟩|decide)) ?_
  rintro ⟨k,zs⟩ ⟨hk,hI⟩
  subst hI
  have hl:(sets (valL p) 0#64 ((cL f).take k) []).length=k:=by rw [sets_len];simp;omega
  by_cases hkl:k < (cL f).length
  ·obtain ⟨n,hn⟩ : ∃ n,(cL f)[k]? = some n:=⟨(cL f)[k],by simp [hkl]⟩
   have hnm:=List.mem_of_getElem? hn
   obtain ⟨f1,f2,-⟩:=fits_n hgd.n4 hgd.v8 hfit hnm
   have hgn:=g_nonneg (cL_hd hnm)
   have hst:sets (valL p) 0#64 ((cL f).take (k+1)) []=sets (valL p) 0#64 ((cL f).take k) []++[valL p n.hd ((sets (valL p) 0#64 ((cL f).take k) []).getD n.x.toNat 0#64) ((sets (valL p) 0#64 ((cL f).take k) []).getD n.y.toNat 0#64)]:=by
    rw [List.take_add_one,hn];exact sets_snoc _ _ _ _ _
   have h15:n.op=15→0≤n.i∧n.i < p.cell.length:=fun e=>f2 (decide_eq_true (by omega))
   have hgn2:0≤n.g∧n.g < 9223372036854775808:=⟨hgn.1,by omega⟩
   have hxy:0 < k→(0≤n.x∧n.x < k)∧0≤n.y∧n.y < k:=fun h=>xy_in hok hn h
   (repeat' ((conv=>whnf);first|refine vA ?_|(refine vF ?_ ?_<;>intro hc<;>try simp only [vL] at hc)|refine vJ fun hg=>?_|refine vN ‹_› ?_|(refine vQ ?_ fun x hx=>?_;·omega)|((first|refine vO ?_ ?_|refine vP ?_ ?_);·first|omega|(simp only [vM] at *;omega))|(refine vU ?_ ?_;·kernel_rfl)|refine yD (fn_valueN hR p hp hc0 n hgn2 _ _ f1 h15) (by (repeat refine ⟨⟨rfl,rfl⟩,?_⟩);rfl) rfl ?_));all_goals try conv=>whnf
   ·rename_i a ha
    have ea:(sets (valL p) 0#64 ((cL f).take k) []).getD n.x.toNat 0#64=a:=by rw [List.getD,ha];rfl
    have eb:(sets (valL p) 0#64 ((cL f).take k) []).getD n.y.toNat 0#64=x:=by rw [List.getD,hx];rfl
    rw [ea,eb] at hst
    refine ⟨(k+1,_),[(0,0),(1,4)],[],?_,?_,by (refine ⟨rfl,rfl,rfl,?_,?_⟩;repeat' first|exact trivial|exact rfl|refine And.intro ?_ ?_|refine ⟨_,rfl,?_⟩|decide)⟩
    ·exact ⟨hkl,by rw [hst,List.map_append];rfl⟩
    ·((simp only [vM] at *;omega))
   ·have h0:sets (valL p) 0#64 ((cL f).take k) []=[]:=List.length_eq_zero_iff.1 (by omega)
    rw [h0] at hst
    rw [h0]
    refine ⟨(k+1,_),[(0,0),(1,4)],[],?_,?_,by (refine ⟨rfl,rfl,rfl,?_,?_⟩;repeat' first|exact trivial|exact rfl|refine And.intro ?_ ?_|refine ⟨_,rfl,?_⟩|decide)⟩
    ·exact ⟨hkl,by rw [hst];rfl⟩
    ·((simp only [vM] at *;omega))
   ·omega
  ·(repeat' ((conv=>whnf);first|refine vA ?_|(refine vF ?_ ?_<;>intro hc<;>try simp only [vL] at hc)|refine vJ fun hg=>?_|(refine vQ ?_ fun x hx=>?_;·first|omega|(simp only [vM] at *;omega))|((first|refine vO ?_ ?_|refine vP ?_ ?_);·first|omega|(simp only [vM] at *;omega))|(refine vU ?_ ?_;·kernel_rfl)|fail));all_goals try conv=>whnf
   ·omega
   ·omega
   ·have ek:k=(cL f).length:=by omega
    rw [ek,List.take_length] at hx hl
    rw [show ((((sets (valL p) 0#64 (cL f) []).map D.u64).length:Int) - 1).toNat=(cL f).length - 1 by rw [List.length_map];omega] at hx
    rw [List.getD,hx];rfl
 ·have e:holdsL p f=(0#64,2):=by rw [holdsL,if_neg (by omega),if_neg (by omega),if_neg (by omega),if_pos ‹_›]
  rw [e];rfl
end Go.Ab
namespace Go.Ab
open Go Go.Proofs
set_option linter.unusedSimpArgs false
set_option linter.unusedVariables false
set_option maxRecDepth 10000
set_option maxHeartbeats 4000000
variable {T:Nat→Obj→Prop}
def reqL (p:PM) (a:Int) (s:BitVec 64):Int:=if checkL p≠0 then checkL p else if a < 0∨p.cell.length≤a∨s &&& ~~~allL p.W≠0#64 then 2 else 0
theorem fn_request (hR:RanksOk T) (p:PM) (hp:IntsOk p.rank) (a:Int) (s:BitVec 64):Fn Tryz.prog T f_doxastic_request [.d (dPM p),.d (.int .i64 a),.d (.u64 s)] [] (.d (.int .i64 (reqL p a s))) []:=by
 refine fn_dataR hmix k_doxastic_request (by show 3≤29;decide) ?_
 (repeat' ((conv=>whnf);first|refine vA ?_|((first|refine vD ?_ ?_|refine vF ?_ ?_)<;>intro hc<;>try simp only [vL] at hc)|refine vJ fun hg=>?_|refine vX ?_|refine yD (fn_plaus_Check hR _ hp) ⟨⟨rfl,rfl⟩,rfl⟩ rfl ?_));all_goals try conv=>whnf
 ·rw [reqL,if_pos ‹_›]
 ·rw [reqL,if_neg (by omega),if_pos (.inl ‹_›)]
 ·rw [reqL,if_neg (by omega),if_pos (.inr (.inl (by omega)))]
 ·have hgd:=checkL_good ‹checkL p=0›
  have h1:=hgd.w1
  have h2:=hgd.w2
  (repeat' ((conv=>whnf);first|(refine vD ?_ ?_<;>intro hc)|refine vX ?_|refine yD (fn_dox_all p h1 h2) ⟨⟨rfl,rfl⟩,rfl⟩ rfl ?_));all_goals try conv=>whnf
  ·rw [reqL,if_neg (by omega),if_pos (.inr (.inr ‹_›))]
  ·have hs:=‹s &&& ~~~allL p.W=0#64›
   rw [reqL,if_neg (by omega),if_neg fun h=>h.elim (fun h=>by omega) fun h=>h.elim (fun h=>by omega) fun h=>h hs]
def BelievesL (p:PM) (a:Int) (c s:BitVec 64):BitVec 64×Int:=if reqL p a (c|||s)≠0 then (0#64,reqL p a (c|||s)) else (believesL p a c s,0)
theorem req_ok {p:PM} {a:Int} {s:BitVec 64} (h:reqL p a s=0):checkL p=0∧0≤a∧a < p.cell.length∧s &&& ~~~allL p.W=0#64:=by
 unfold reqL at h
 split at h
 ·contradiction
 ·rename_i h1
  split at h
  ·cases h
  ·rename_i h2
   refine ⟨by omega,by omega,by omega,?_⟩
   exact Classical.byContradiction fun h3=>h2 (.inr (.inr h3))
def StrongP (p:PM) (a:Int) (s:BitVec 64) (w:Nat):Prop:=(∀ u,u < p.W.toNat → ∀ v,v < p.W.toNat→(cellL p a w&&&s).getLsbD u=true→(cellL p a w &&& ~~~s).getLsbD v=true→at0 (rowAt p.rank a.toNat) u < at0 (rowAt p.rank a.toNat) v)∧cellL p a w&&&s≠0#64
instance (p:PM) (a:Int) (s:BitVec 64) (w:Nat):Decidable (StrongP p a s w):=by unfold StrongP;exact inferInstance
theorem fn_Strong_1 (hR:RanksOk T) (p:PM) (hp:IntsOk p.rank) (a:Int) (s:BitVec 64) (w:Nat) (hat:At p a w):Fn Tryz.prog T f_doxastic_Strong_1 [.d (.int .i64 (w:Int)),.d (bP p),.d (bI a),.d (bU s)] [] (.d (.bool (decide (StrongP p a s w)))) []:=by
 obtain ⟨-,hrank,-,hlen,h64,-,-⟩:=hat.rows
 have ha0:=hat.a0
 refine fn_dataR hmix k_doxastic_Strong_1 (by show 4≤62;decide) ?_
 (repeat' ((conv=>whnf);first|refine vA ?_|(refine vR ?_ ‹_› ?_;·omega)|refine yD (fn_Cell hR p hp _ _) ⟨⟨rfl,rfl⟩,⟨rfl,rfl⟩,⟨rfl,rfl⟩,rfl⟩ rfl ?_));all_goals try conv=>whnf
 refine loop_intro (fun (k:Nat)=>[(1,.d (bP p)),(3,.d (bU s)),(6,.d (.u64 (cellL p a w))),(7,.d (dI (rowAt p.rank a.toNat))),(20,.d (.int .i64 (p.W))),(21,.d (.int .i64 ((k:Int))))]) (fun (k:Nat)=>k≤p.W.toNat ∧ ∀ u,u < k → ∀ v,v < p.W.toNat→(cellL p a w&&&s).getLsbD u=true→(cellL p a w &&& ~~~s).getLsbD v=true→at0 (rowAt p.rank a.toNat) u < at0 (rowAt p.rank a.toNat) v) (fun (k:Nat)=>p.W.toNat - k) (0) (⟨by simp,fun u hu=>by omega⟩) (by (repeat' first|exact trivial|exact rfl|refine And.intro ?_ ?_)) ?_
 rintro k ⟨hk,hI⟩
 (repeat' ((conv=>whnf);first|refine vA ?_|(refine vF ?_ ?_<;>intro hc<;>try simp only [vL] at hc)|refine vZ ?_));all_goals try conv=>whnf
 ·have hkW:k < p.W.toNat:=by omega
  refine loop_intro (fun (j:Nat)=>[(1,.d (bP p)),(3,.d (bU s)),(6,.d (.u64 (cellL p a w))),(7,.d (dI (rowAt p.rank a.toNat))),(20,.d (.int .i64 (p.W))),(21,.d (.int .i64 ((k:Int)))),(8,.d (.int .i64 ((k:Int)))),(25,.d (.int .i64 (p.W))),(26,.d (.int .i64 ((j:Int))))]) (fun (j:Nat)=>j≤p.W.toNat ∧ ∀ v,v < j→(cellL p a w&&&s).getLsbD k=true→(cellL p a w &&& ~~~s).getLsbD v=true→at0 (rowAt p.rank a.toNat) k < at0 (rowAt p.rank a.toNat) v) (fun (j:Nat)=>p.W.toNat - j) (0) (⟨by simp,fun u hu=>by omega⟩) (by (repeat' first|exact trivial|exact rfl|refine And.intro ?_ ?_)) ?_
  rintro j ⟨hj,hJ⟩
  have step:(cellL p a w&&&s).getLsbD k=true∧(cellL p a w &&& ~~~s).getLsbD j=true ∧ ¬at0 (rowAt p.rank a.toNat) k < at0 (rowAt p.rank a.toNat) j ∨ ∀ v,v < j+1→(cellL p a w&&&s).getLsbD k=true→(cellL p a w &&& ~~~s).getLsbD v=true→at0 (rowAt p.rank a.toNat) k < at0 (rowAt p.rank a.toNat) v:=by
   by_cases h:(cellL p a w&&&s).getLsbD k=true∧(cellL p a w &&& ~~~s).getLsbD j=true ∧ ¬at0 (rowAt p.rank a.toNat) k < at0 (rowAt p.rank a.toNat) j
   ·exact .inl h
   ·refine .inr fun v hv h1 h2=>?_
    by_cases e:v=j
    ·subst e;exact Classical.byContradiction fun h3=>h ⟨h1,h2,h3⟩
    ·exact hJ v (by omega) h1 h2
  (repeat' ((conv=>whnf);first|refine vA ?_|(refine vF ?_ ?_<;>intro hc<;>try simp only [vL] at hc)|(refine vQ ?_ fun x hx=>?_;·omega)|((first|refine vO ?_ ?_|refine vP ?_ ?_);·omega)|(refine vU ?_ ?_;·kernel_rfl)|refine vZ ?_));all_goals try conv=>whnf
  ·have e1:=at0_of ‹(rowAt p.rank a.toNat)[k]? = some _›
   have e2:=at0_of hx
   symm
   rw [decide_eq_false_iff_not]
   intro h
   have:=h.1 k hkW j (by omega) ((bit_one _ k).1 ‹_›) ((bit_one _ j).1 ‹_›)
   omega
  ·have e1:=at0_of ‹(rowAt p.rank a.toNat)[k]? = some _›
   have e2:=at0_of hx
   exact ⟨j+1,[],[],⟨by (omega),step.resolve_left fun h=>by omega⟩,by (omega),by (refine ⟨rfl,rfl,rfl,?_,?_⟩;repeat' first|exact trivial|exact rfl|refine And.intro ?_ ?_)⟩
  ·exact ⟨j+1,[],[],⟨by (omega),step.resolve_left fun h=>by have:=(bit_one _ j).2 h.2.1;contradiction⟩,by (omega),by (refine ⟨rfl,rfl,rfl,?_,?_⟩;repeat' first|exact trivial|exact rfl|refine And.intro ?_ ?_)⟩
  ·exact ⟨j+1,[],[],⟨by (omega),step.resolve_left fun h=>by have:=(bit_one _ k).2 h.1;contradiction⟩,by (omega),by (refine ⟨rfl,rfl,rfl,?_,?_⟩;repeat' first|exact trivial|exact rfl|refine And.intro ?_ ?_)⟩
  ·exact ⟨k+1,[],[],⟨by (omega),fun u hu v hv=>by
    by_cases e:u=k
    ·subst e;exact hJ v (by omega)
    ·exact hI u (by omega) v hv⟩,by (omega),by (refine ⟨rfl,rfl,rfl,?_,?_⟩;repeat' first|exact trivial|exact rfl|refine And.intro ?_ ?_)⟩
 ·show decide _=_
  refine decide_eq_decide.2 ⟨fun h=>⟨fun u hu=>hI u (by omega),h⟩,fun h=>h.2⟩
def StrongL (p:PM) (a:Int) (s:BitVec 64):BitVec 64×Int:=if reqL p a s≠0 then (0#64,reqL p a s) else (setTo (fun w=>decide (StrongP p a s w)) p.W.toNat,0)
theorem fn_Strong (hR:RanksOk T) (p:PM) (hp:IntsOk p.rank) (a:Int) (s:BitVec 64):Fn Tryz.prog T f_doxastic_Strong [.d (dPM p),.d (.int .i64 a),.d (.u64 s)] [] (.d (dUE (StrongL p a s))) []:=by
 refine fn_dataR hmix k_doxastic_Strong (by show 3≤19;decide) ?_
 (repeat' ((conv=>whnf);first|refine vA ?_|(refine vD ?_ ?_<;>intro hc)|refine yD (fn_request hR p hp _ _) ⟨⟨rfl,rfl⟩,⟨rfl,rfl⟩,⟨rfl,rfl⟩,rfl⟩ rfl ?_));all_goals try conv=>whnf
 ·have e:StrongL p a s=(0#64,reqL p a s):=if_pos ‹_›
  rw [e];rfl
 ·have h0:=‹reqL p a s=0›
  have e:StrongL p a s=(setTo (fun w=>decide (StrongP p a s w)) p.W.toNat,0):=if_neg (by omega)
  obtain ⟨h1,h2,h3,-⟩:=req_ok h0
  have hgd:=checkL_good h1
  have hw:=fn_where3 (T:=T) p hgd.w2 f_doxastic_Strong_1 (bP p) (bI a) (bU s) _ (fun w hw=>fn_Strong_1 hR p hp a s w ⟨h1,h2,h3,by omega,by omega⟩)
  (repeat' ((conv=>whnf);refine yD hw ⟨⟨rfl,rfl⟩,⟨rfl,rfl⟩,rfl⟩ rfl ?_));all_goals try conv=>whnf
  rw [e];rfl
noncomputable def atL (p:PM) (w:Int) (f:List Nd):Bool×Int:=if (holdsL p f).2≠0 then (false,(holdsL p f).2) else if w < 0∨p.W≤w then (false,2) else ((holdsL p f).1.getLsbD w.toNat,0)
abbrev dBE (x:Bool×Int):D := .tup [.bool x.1,.int .i64 x.2]
end Go.Ab
namespace Go.Ab
set_option linter.unusedVariables false
set_option linter.unusedSimpArgs false
def shiftN (k:Nat) (n:Nd):Nd := { n with x:=if useX n.op=true then n.x+k else n.x,y:=if useY n.op=true then n.y+k else n.y }
def addL (f c:List Nd):List Nd:=f++c.map (shiftN f.length)
theorem nErr_shift {n:Nd} {j:Int} {k:Nat} (hj:0≤j) (h:nErr n j=0):nErr (shiftN k n) (k+j)=0:=by
 obtain ⟨h1,h2,h3,h4,h5⟩:=nErr_iff.1 h
 refine nErr_iff.2 ⟨h1,fun e=>?_,fun e=>?_,fun e=>?_,fun e=>?_⟩
 ·have e:useX n.op=true:=e
  have:=h2 e
  simp only [shiftN,e,if_true];omega
 ·have e:useX n.op=false:=e
  have:=h3 e
  simp only [shiftN,e];simpa using this
 ·have e:useY n.op=true:=e
  have:=h4 e
  simp only [shiftN,e,if_true];omega
 ·have e:useY n.op=false:=e
  have:=h5 e
  simp only [shiftN,e];simpa using this
theorem addL_okay {f c:List Nd} (hf:Okay f) (hc:Okay c):Okay (addL f c):=by
 intro k n hk
 unfold addL at hk
 rw [List.getElem?_append] at hk
 split at hk
 ·exact hf k n hk
 ·rename_i h
  rw [List.getElem?_map,Option.map_eq_some_iff] at hk
  obtain ⟨m,hm,rfl⟩:=hk
  have:=nErr_shift (k:=f.length) (by omega) (hc _ m hm)
  rwa [show ((f.length:Nat):Int)+((k - f.length:Nat):Int)=k by omega] at this
theorem addL_tree {f c:List Nd} (hf:Okay f) (hc:Okay c) : ∀ (m j:Nat),j < m→j < c.length→tmOf (addL f c) (f.length+j)=tmOf c j
 | 0,j,h,_=>by omega
 | m+1,j,h,hj=>by
  have ho:=addL_okay hf hc
  have hl:f.length+j < (addL f c).length:=by simp [addL];omega
  have hg:(addL f c).getD (f.length+j) default=shiftN f.length (c.getD j default):=by
   simp [addL,List.getD,hj]
  rw [tmOf_eq ho hl,tmOf_eq hc hj,hg]
  have eo:(shiftN f.length (c.getD j default)).op=(c.getD j default).op:=rfl
  have eh:(shiftN f.length (c.getD j default)).hd=(c.getD j default).hd:=rfl
  rw [eo,eh]
  cases hy:useY (c.getD j default).op with
  | true =>
   have hx:=useX_of_useY hy
   have e1:=okay_x hc hj hx
   have e2:=okay_y hc hj hy
   have x1:(shiftN f.length (c.getD j default)).x.toNat=f.length+(c.getD j default).x.toNat:=by simp only [shiftN,hx,if_true];omega
   have y1:(shiftN f.length (c.getD j default)).y.toNat=f.length+(c.getD j default).y.toNat:=by simp only [shiftN,hy,if_true];omega
   simp only [cond_true]
   rw [x1,y1,addL_tree hf hc m _ (by omega) (by omega),addL_tree hf hc m _ (by omega) (by omega)]
  | false =>
   cases hx:useX (c.getD j default).op with
   | true =>
    have e1:=okay_x hc hj hx
    have x1:(shiftN f.length (c.getD j default)).x.toNat=f.length+(c.getD j default).x.toNat:=by simp only [shiftN,hx,if_true];omega
    simp only [cond_true,cond_false]
    rw [x1,addL_tree hf hc m _ (by omega) (by omega)]
   | false=>rfl
theorem addL_old {f c:List Nd} (hf:Okay f) {j:Nat} (hj:j < f.length):tmOf (addL f c) j=tmOf f j:=tmOf_append hf hj
def buildGo:Nat→List Nd→Nd→List (List Nd)→Option (Nd×List Nd)
 | _,f,x,[]=>some (x,f)
 | k,f,x,o::r=>if fErr o≠0 then none else
  buildGo (k+1) (addL f (cL o)) (if k=0 then { x with x:=((addL f (cL o)).length:Int) - 1 } else { x with y:=((addL f (cL o)).length:Int) - 1 }) r
def finishL (x:Nd) (f:List Nd):List Nd:=if nErr x f.length≠0 then [] else if 200 < (compactL (f++[x]) f.length).length then [] else compactL (f++[x]) f.length
def buildL (x:Nd) (os:List (List Nd)):List Nd:=match buildGo 0 [] x os with
 | none=>[]
 | some (x,f)=>finishL x f
structure IsF (f:List Nd) (t:Tm):Prop where
 ok:fErr f=0
 tree:tmOf f (f.length - 1)=t
theorem isF_of {f:List Nd} (h:fErr f=0):IsF f (tmOf f (f.length - 1)):=⟨h,rfl⟩
theorem IsF.canon {f:List Nd} {t:Tm} (h:IsF f t):Canon t (cL f)∧(cL f).length≤f.length:=by
 have:=cL_canon h.ok
 rwa [h.tree] at this
theorem IsF.tok {f:List Nd} {t:Tm} (h:IsF f t):t.ok:=by
 obtain ⟨h1,h2,h3⟩:=fErr_ok.1 h.ok
 rw [← h.tree]
 exact tmOf_ok h3 f.length _ (by omega) (by omega)
theorem finish_isF {x:Nd} {f:List Nd} (hf:Okay f) (hx:nErr x f.length=0) (hl:f.length≤199):IsF (finishL x f) (tmOf (f++[x]) f.length)∧(finishL x f).length≤f.length+1:=by
 have hok:Okay (f++[x]):=by
  intro k n hk
  rw [List.getElem?_append] at hk
  split at hk
  ·exact hf k n hk
  ·rename_i h1
   have:k=f.length:=by have:=(List.getElem?_eq_some_iff.1 hk).1;simp at this;omega
   subst this
   simp at hk;subst hk;exact hx
 have hlt:f.length < (f++[x]).length:=by simp
 have h1:=compactL_canon hok hlt
 have h2:=(compactL_eq hok hlt).2.1
 simp only [List.length_append,List.length_cons,List.length_nil] at h2
 have e:finishL x f=compactL (f++[x]) f.length:=by
  unfold finishL
  rw [if_neg (by omega),if_neg (by omega)]
 rw [e]
 exact ⟨⟨fErr_ok.2 ⟨h1.pos,by omega,h1.ok⟩,h1.tree⟩,h2⟩
theorem root_eq {x:Nd} {f:List Nd} (hf:Okay f) (hx:nErr x f.length=0):tmOf (f++[x]) f.length=cond (useY x.op) (.b x.hd (tmOf f x.x.toNat) (tmOf f x.y.toNat)) (cond (useX x.op) (.u x.hd (tmOf f x.x.toNat)) (.z x.hd)):=by
 have hok:Okay (f++[x]):=by
  intro k n hk
  rw [List.getElem?_append] at hk
  split at hk
  ·exact hf k n hk
  ·rename_i h1
   have:k=f.length:=by have:=(List.getElem?_eq_some_iff.1 hk).1;simp at this;omega
   subst this
   simp at hk;subst hk;exact hx
 have hg:(f++[x]).getD f.length default=x:=by simp [List.getD]
 obtain ⟨-,h2,-,h4,-⟩:=nErr_iff.1 hx
 rw [tmOf_eq hok (by simp),hg]
 cases hy:useY x.op with
 | true =>
  have hxx:=useX_of_useY hy
  have e1:=h2 hxx
  have e2:=h4 hy
  simp only [cond_true]
  rw [tmOf_append hf (by omega),tmOf_append hf (by omega)]
 | false =>
  cases hxx:useX x.op with
  | true =>
   have e1:=h2 hxx
   simp only [cond_true,cond_false]
   rw [tmOf_append hf (by omega)]
  | false=>rfl
theorem build_zero {h:Hd} (hh:HdOk h) (hx:useX h.op=false) (hy:useY h.op=false):IsF (buildL ⟨h.op,h.i,h.e,h.g,0,0⟩ []) (.z h)∧(buildL ⟨h.op,h.i,h.e,h.g,0,0⟩ []).length≤1:=by
 have hn:nErr ⟨h.op,h.i,h.e,h.g,0,0⟩ ([]:List Nd).length=0:=nErr_iff.2 ⟨hh,fun e=>by simp [hx] at e,fun _=>rfl,fun e=>by simp [hy] at e,fun _=>rfl⟩
 have h1:=finish_isF okay_nil hn (by simp)
 rw [root_eq okay_nil hn] at h1
 simp only [hx,hy,cond_false] at h1
 exact h1
theorem build_one {h:Hd} (hh:HdOk h) (hx:useX h.op=true) (hy:useY h.op=false) {o:List Nd} {t:Tm} (ho:IsF o t) (hl:o.length≤199):IsF (buildL ⟨h.op,h.i,h.e,h.g,0,0⟩ [o]) (.u h t)∧(buildL ⟨h.op,h.i,h.e,h.g,0,0⟩ [o]).length≤o.length+1:=by
 obtain ⟨c1,c2⟩:=ho.canon
 have hp:=c1.pos
 have e0:(addL [] (cL o)).length=(cL o).length:=by simp [addL]
 have hok:=addL_okay okay_nil c1.ok
 have ht:tmOf (addL [] (cL o)) ((cL o).length - 1)=t:=by
  have:=addL_tree (f:=[]) okay_nil c1.ok (cL o).length ((cL o).length - 1) (by omega) (by omega)
  rw [List.length_nil,Nat.zero_add] at this
  rw [this];exact c1.tree
 have hn:nErr ⟨h.op,h.i,h.e,h.g,((addL [] (cL o)).length:Int) - 1,0⟩ (addL [] (cL o)).length=0:=nErr_iff.2 ⟨hh,fun _=>by simp only;omega,fun e=>by simp [hx] at e,fun e=>by simp [hy] at e,fun _=>rfl⟩
 have e:buildL ⟨h.op,h.i,h.e,h.g,0,0⟩ [o]=finishL ⟨h.op,h.i,h.e,h.g,((addL [] (cL o)).length:Int) - 1,0⟩ (addL [] (cL o)):=by
  simp [buildL,buildGo,ho.ok]
 have h1:=finish_isF hok hn (by omega)
 rw [root_eq hok hn] at h1
 simp only [hx,hy,cond_false,cond_true] at h1
 rw [show (((addL [] (cL o)).length:Int) - 1).toNat=(cL o).length - 1 by omega,ht] at h1
 rw [e]
 exact ⟨h1.1,by have:=h1.2;omega⟩
theorem build_two {h:Hd} (hh:HdOk h) (hy:useY h.op=true) {o q:List Nd} {t u:Tm} (ho:IsF o t) (hq:IsF q u) (hl:o.length+q.length≤199):IsF (buildL ⟨h.op,h.i,h.e,h.g,0,0⟩ [o,q]) (.b h t u)∧(buildL ⟨h.op,h.i,h.e,h.g,0,0⟩ [o,q]).length≤o.length+q.length+1:=by
 have hx:=useX_of_useY hy
 obtain ⟨c1,c2⟩:=ho.canon
 obtain ⟨d1,d2⟩:=hq.canon
 have hp:=c1.pos
 have hp2:=d1.pos
 have e0:(addL [] (cL o)).length=(cL o).length:=by simp [addL]
 have hok:=addL_okay okay_nil c1.ok
 have hok2:=addL_okay hok d1.ok
 have e2:(addL (addL [] (cL o)) (cL q)).length=(cL o).length+(cL q).length:=by rw [addL,List.length_append,List.length_map,e0]
 have ht:tmOf (addL (addL [] (cL o)) (cL q)) ((cL o).length - 1)=t:=by
  rw [addL_old hok (by omega)]
  have:=addL_tree (f:=[]) okay_nil c1.ok (cL o).length ((cL o).length - 1) (by omega) (by omega)
  rw [List.length_nil,Nat.zero_add] at this
  rw [this];exact c1.tree
 have hu:tmOf (addL (addL [] (cL o)) (cL q)) ((cL o).length+(cL q).length - 1)=u:=by
  have:=addL_tree hok d1.ok (cL q).length ((cL q).length - 1) (by omega) (by omega)
  rw [e0,show (cL o).length+((cL q).length - 1)=(cL o).length+(cL q).length - 1 by omega] at this
  rw [this];exact d1.tree
 have hn:nErr ⟨h.op,h.i,h.e,h.g,((addL [] (cL o)).length:Int) - 1,((addL (addL [] (cL o)) (cL q)).length:Int) - 1⟩ (addL (addL [] (cL o)) (cL q)).length=0 :=
  nErr_iff.2 ⟨hh,fun _=>by simp only;omega,fun e=>by simp [hx] at e,fun _=>by simp only;omega,fun e=>by simp [hy] at e⟩
 have e:buildL ⟨h.op,h.i,h.e,h.g,0,0⟩ [o,q]=finishL ⟨h.op,h.i,h.e,h.g,((addL [] (cL o)).length:Int) - 1,((addL (addL [] (cL o)) (cL q)).length:Int) - 1⟩ (addL (addL [] (cL o)) (cL q)):=by
  simp [buildL,buildGo,ho.ok,hq.ok]
 have h1:=finish_isF hok2 hn (by omega)
 rw [root_eq hok2 hn] at h1
 simp only [hy,cond_true] at h1
 rw [show (((addL [] (cL o)).length:Int) - 1).toNat=(cL o).length - 1 by omega,show (((addL (addL [] (cL o)) (cL q)).length:Int) - 1).toNat=(cL o).length+(cL q).length - 1 by omega,ht,hu] at h1
 rw [e]
 exact ⟨h1.1,by have:=h1.2;omega⟩
theorem build_bad2 {x:Nd} {o q:List Nd} (h:fErr o≠0∨fErr q≠0):buildL x [o,q]=[]:=by
 by_cases h1:fErr o=0
 ·have h2:=h.resolve_left (by omega)
  simp [buildL,buildGo,h1,h2]
 ·simp [buildL,buildGo,h1]
end Go.Ab
namespace Go.Ab
open Go
set_option linter.unusedVariables false
set_option linter.unusedSimpArgs false
def Allow (h:Hd):Prop := ∀ i,(fragN h).testBit i=true→(59:Nat).testBit i=true
def FitH (p:PM) (h:Hd):Prop:=agentN h < 2 ^ p.cell.length∧factN h < 2 ^ p.val.length
theorem lang_iff {c:List Nd} {t:Tm} (hc:Canon t c):bitsI .i64 (fun p q=>p &&& ~~~q) (uni fragN c:Int) 59=0↔t.all Allow:=by
 have hu:uni fragN c < 2 ^ 63:=Nat.lt_trans ((uni_lt fragN).2 fun n _=>fragN_lt n.hd) (by decide)
 have:=bits_andNot (b:=59) hu (by decide)
 rw [show ((59:Nat):Int)=59 from rfl] at this
 rw [this,← hc.all]
 constructor
 ·intro h n hn i hi
  exact h i (by rw [uni_bit];exact List.any_eq_true.2 ⟨n,hn,hi⟩)
 ·intro h i hi
  rw [uni_bit,List.any_eq_true] at hi
  obtain ⟨n,hn,hi⟩:=hi
  exact h n hn i hi
theorem all_and {p q:Hd→Prop} : ∀ {t:Tm},t.all (fun h=>p h∧q h)↔t.all p∧t.all q
 | .z h=>Iff.rfl
 | .u h x=>by
  simp only [Tm.all,all_and (t:=x)]
  exact ⟨fun ⟨⟨a,b⟩,c,d⟩=>⟨⟨a,c⟩,b,d⟩,fun ⟨⟨a,c⟩,b,d⟩=>⟨⟨a,b⟩,c,d⟩⟩
 | .b h x y=>by
  simp only [Tm.all,all_and (t:=x),all_and (t:=y)]
  exact ⟨fun ⟨⟨a,b⟩,⟨c,d⟩,e,f⟩=>⟨⟨a,c,e⟩,b,d,f⟩,fun ⟨⟨a,c,e⟩,b,d,f⟩=>⟨⟨a,b⟩,⟨c,d⟩,e,f⟩⟩
theorem fits_iff {p:PM} (hg:Good p) {f:List Nd} {t:Tm} (hf:IsF f t):fitsL f p.cell.length p.val.length=true↔t.all (FitH p):=by
 have h4:=hg.n4
 have h8:=hg.v8
 have hc:=hf.canon.1
 unfold FitH
 rw [all_and,← hc.all,← hc.all,← uni_lt agentN,← uni_lt factN]
 simp only [fitsL,belowL,Bool.and_eq_true,decide_eq_true_eq,Int.toNat_natCast]
 constructor
 ·rintro ⟨⟨-,h1⟩,h2⟩
  exact ⟨h1.resolve_left (by omega),h2.resolve_left (by omega)⟩
 ·rintro ⟨h1,h2⟩
  exact ⟨⟨hf.ok,.inr h1⟩,.inr h2⟩
theorem holds_ok {p:PM} {f:List Nd} {t:Tm} (hf:IsF f t) (hc0:checkL p=0) (h1:t.all Allow) (h2:t.all (FitH p)):holdsL p f=(ev (valL p) 0#64 t,0):=by
 have hc:=hf.canon.1
 have hg:=checkL_good hc0
 rw [holdsL,if_neg (not_not_intro hc0),if_neg (not_not_intro hf.ok),if_neg (not_not_intro ((lang_iff hc).2 h1)),if_neg (by rw [(fits_iff hg hf).2 h2];decide),sets_last (uses_valL p) hc]
theorem holds_inv {p:PM} {f:List Nd} (h:(holdsL p f).2=0):checkL p=0 ∧ ∃ t,IsF f t∧t.all Allow∧t.all (FitH p)∧(holdsL p f).1=ev (valL p) 0#64 t:=by
 by_cases hc0:checkL p=0
 ·by_cases hf0:fErr f=0
  ·have hf:=isF_of hf0
   have hg:=checkL_good hc0
   have hc:=hf.canon.1
   by_cases h1:bitsI .i64 (fun p q=>p &&& ~~~q) (uni fragN (cL f):Int) 59=0
   ·cases h2:fitsL f p.cell.length p.val.length with
    | true =>
     have a1:=(lang_iff hc).1 h1
     have a2:=(fits_iff hg hf).1 h2
     exact ⟨hc0,_,hf,a1,a2,by rw [holds_ok hf hc0 a1 a2]⟩
    | false=>rw [holdsL,if_neg (not_not_intro hc0),if_neg (not_not_intro hf0),if_neg (not_not_intro h1),if_pos h2] at h;cases h
   ·rw [holdsL,if_neg (not_not_intro hc0),if_neg (not_not_intro hf0),if_pos h1] at h;cases h
  ·rw [holdsL,if_neg (not_not_intro hc0),if_pos hf0] at h;exact absurd h hf0
 ·rw [holdsL,if_pos hc0] at h;exact absurd h hc0
structure OkT (p:PM) (f:List Nd) (t:Tm):Prop where
 isF:IsF f t
 lang:t.all Allow
 fit:t.all (FitH p)
theorem OkT.holds {p:PM} {f:List Nd} {t:Tm} (h:OkT p f t) (hc0:checkL p=0):holdsL p f=(ev (valL p) 0#64 t,0):=holds_ok h.isF hc0 h.lang h.fit
theorem okT_of {p:PM} {f:List Nd} (h:(holdsL p f).2=0) : ∃ t,OkT p f t∧(holdsL p f).1=ev (valL p) 0#64 t:=by
 obtain ⟨-,t,h1,h2,h3,h4⟩:=holds_inv h
 exact ⟨t,⟨h1,h2,h3⟩,h4⟩
theorem OkT.unary {p:PM} {f:List Nd} {t:Tm} (hf:OkT p f t) {h:Hd} (hh:HdOk h) (hx:useX h.op=true) (hy:useY h.op=false) (ha:Allow h) (hp:FitH p h) (hl:f.length≤199) :
  OkT p (buildL ⟨h.op,h.i,h.e,h.g,0,0⟩ [f]) (.u h t):=⟨(build_one hh hx hy hf.isF hl).1,⟨ha,hf.lang⟩,⟨hp,hf.fit⟩⟩
theorem OkT.binary {p:PM} {f g:List Nd} {t u:Tm} (hf:OkT p f t) (hg:OkT p g u) {h:Hd} (hh:HdOk h) (hy:useY h.op=true) (ha:Allow h) (hp:FitH p h) (hl:f.length+g.length≤199) :
  OkT p (buildL ⟨h.op,h.i,h.e,h.g,0,0⟩ [f,g]) (.b h t u):=⟨(build_two hh hy hf.isF hg.isF hl).1,⟨ha,hf.lang,hg.lang⟩,⟨hp,hf.fit,hg.fit⟩⟩
theorem allow_of {h:Hd} (hf:fragN h=0∨fragN h=1∨fragN h=2∨fragN h=8∨fragN h=16∨fragN h=32):Allow h:=by
 intro i hi
 have key : ∀ k,(2 ^ k).testBit i=true→i=k:=fun k hk=>by
  rw [Nat.testBit_two_pow] at hk;exact (of_decide_eq_true hk).symm
 rcases hf with e|e|e|e|e|e<;>rw [e] at hi
 ·simp at hi
 ·have:=key 0 hi;subst this;decide
 ·have:=key 1 hi;subst this;decide
 ·have:=key 3 hi;subst this;decide
 ·have:=key 4 hi;subst this;decide
 ·have:=key 5 hi;subst this;decide
theorem agent_hd {op:Int} (ho:op=9∨op=10∨op=14∨op=15) {p:PM} (hg:Good p) {a:Nat} (ha:a < p.cell.length):HdOk ⟨op,a,0,0⟩∧Allow ⟨op,a,0,0⟩∧FitH p ⟨op,a,0,0⟩:=by
 have h4:=hg.n4
 have hag:useAgent op=true:=decide_eq_true (by omega)
 have hfa:useFact op=false:=decide_eq_false (by omega)
 have hev:useEvent op=false:=decide_eq_false (by omega)
 have hgr:useGroup op=false:=decide_eq_false (by omega)
 refine ⟨⟨decide_eq_true (by simp only;omega),fun e=>?_,fun _=>⟨by simp only;omega,by simp only;omega⟩,fun e=>?_,fun e=>?_,fun _ e=>?_,fun _=>rfl,fun _=>rfl⟩,allow_of ?_,?_,?_⟩
 ·simp [hfa] at e
 ·simp [hev] at e
 ·simp [hgr] at e
 ·simp [hag] at e
 ·show fragN ⟨op,0,0,0⟩=0∨fragN ⟨op,0,0,0⟩=1∨fragN ⟨op,0,0,0⟩=2∨fragN ⟨op,0,0,0⟩=8∨fragN ⟨op,0,0,0⟩=16∨fragN ⟨op,0,0,0⟩=32
  rcases ho with rfl|rfl|rfl|rfl<;>decide
 ·rw [agentN,if_pos (show useAgent (Hd.mk op a 0 0).op=true from hag)]
  exact Nat.pow_lt_pow_right (by omega) (by simp only;omega)
 ·rw [factN,if_neg (show ¬useFact (Hd.mk op a 0 0).op=true by simp [hfa])]
  exact Nat.two_pow_pos _
theorem conn_hd {op:Int} (ho:op=1∨op=2∨op=4∨op=5∨op=6∨op=7∨op=8) {p:PM} : HdOk ⟨op,0,0,0⟩∧Allow ⟨op,0,0,0⟩∧FitH p ⟨op,0,0,0⟩:=by
 have hag:useAgent op=false:=decide_eq_false (by omega)
 have hfa:useFact op=false:=decide_eq_false (by omega)
 have hev:useEvent op=false:=decide_eq_false (by omega)
 have hgr:useGroup op=false:=decide_eq_false (by omega)
 refine ⟨⟨decide_eq_true (by simp only;omega),fun e=>?_,fun e=>?_,fun e=>?_,fun e=>?_,fun _ _ _=>rfl,fun _=>rfl,fun _=>rfl⟩,allow_of ?_,?_,?_⟩
 ·simp [hfa] at e
 ·simp [hag] at e
 ·simp [hev] at e
 ·simp [hgr] at e
 ·rcases ho with rfl|rfl|rfl|rfl|rfl|rfl|rfl<;>decide
 ·rw [agentN,if_neg (show ¬useAgent (Hd.mk op 0 0 0).op=true by simp [hag])]
  exact Nat.two_pow_pos _
 ·rw [factN,if_neg (show ¬useFact (Hd.mk op 0 0 0).op=true by simp [hfa])]
  exact Nat.two_pow_pos _
theorem okT_true {p:PM} : OkT p (buildL ⟨1,0,0,0,0,0⟩ []) (.z ⟨1,0,0,0⟩)∧(buildL ⟨1,0,0,0,0,0⟩ []).length≤1:=by
 obtain ⟨h1,h2,h3⟩:=conn_hd (op:=1) (p:=p) (by decide)
 obtain ⟨a,b⟩:=build_zero h1 (by decide) (by decide)
 exact ⟨⟨a,h2,h3⟩,b⟩
end Go.Ab
namespace Go.Ab
open Go
set_option linter.unusedVariables false
set_option linter.unusedSimpArgs false
structure Fm (p:PM) (f:List Nd) (x:BitVec 64) (n:Nat):Prop where
 ok : ∃ t,OkT p f t∧ev (valL p) 0#64 t=x
 len:f.length≤n
theorem Fm.holds {p:PM} {f:List Nd} {x:BitVec 64} {n:Nat} (h:Fm p f x n) (hc0:checkL p=0):holdsL p f=(x,0):=by
 obtain ⟨t,h1,h2⟩:=h.ok
 rw [h1.holds hc0,h2]
theorem Fm.of {p:PM} {f:List Nd} {n:Nat} (h:(holdsL p f).2=0) (hl:f.length≤n):Fm p f (holdsL p f).1 n:=by
 obtain ⟨t,h1,h2⟩:=okT_of h
 exact ⟨⟨t,h1,h2.symm⟩,hl⟩
theorem Fm.un {p:PM} {f:List Nd} {x:BitVec 64} {n:Nat} (h:Fm p f x n) {hd:Hd} (hh:HdOk hd∧Allow hd∧FitH p hd) (hx:useX hd.op=true) (hy:useY hd.op=false) (hn:n≤199) :
  Fm p (buildL ⟨hd.op,hd.i,hd.e,hd.g,0,0⟩ [f]) (valL p hd x 0#64) (n+1):=by
 obtain ⟨t,h1,h2⟩:=h.ok
 have h3:=h.len
 exact ⟨⟨_,h1.unary hh.1 hx hy hh.2.1 hh.2.2 (by omega),by rw [ev,h2]⟩,by have:=(build_one hh.1 hx hy h1.isF (by omega)).2;omega⟩
theorem Fm.bi {p:PM} {f g:List Nd} {x y:BitVec 64} {n m:Nat} (h:Fm p f x n) (h':Fm p g y m) {hd:Hd} (hh:HdOk hd∧Allow hd∧FitH p hd) (hy:useY hd.op=true) (hn:n+m≤199) :
  Fm p (buildL ⟨hd.op,hd.i,hd.e,hd.g,0,0⟩ [f,g]) (valL p hd x y) (n+m+1):=by
 obtain ⟨t,h1,h2⟩:=h.ok
 obtain ⟨u,g1,g2⟩:=h'.ok
 have h3:=h.len
 have g3:=h'.len
 exact ⟨⟨_,h1.binary g1 hh.1 hy hh.2.1 hh.2.2 (by omega),by rw [ev,h2,g2]⟩,by have:=(build_two hh.1 hy h1.isF g1.isF (by omega)).2;omega⟩
section
variable {p:PM} (hc0:checkL p=0) {f g:List Nd} {x y:BitVec 64} {n m:Nat}
include hc0
theorem Fm.poss {a:Nat} (h:Fm p f x n) (ha:a < p.cell.length) (hn:n≤199):Fm p (buildL ⟨10,a,0,0,0,0⟩ [f]) (allL p.W &&& ~~~knowsL p a (allL p.W &&& ~~~x)) (n+1) :=
 h.un (hd:=⟨10,a,0,0⟩) (agent_hd (by decide) (checkL_good hc0) ha) (by simp only;decide) (by simp only;decide) hn
theorem Fm.safe {a:Nat} (h:Fm p f x n) (ha:a < p.cell.length) (hn:n≤199):Fm p (buildL ⟨15,a,0,0,0,0⟩ [f]) (safelyL p a x) (n+1) :=
 h.un (hd:=⟨15,a,0,0⟩) (agent_hd (by decide) (checkL_good hc0) ha) (by simp only;decide) (by simp only;decide) hn
theorem Fm.belief {a:Nat} (h:Fm p f x n) (h':Fm p g y m) (ha:a < p.cell.length) (hn:n+m≤199):Fm p (buildL ⟨14,a,0,0,0,0⟩ [f,g]) (believesL p a x y) (n+m+1) :=
 h.bi h' (hd:=⟨14,a,0,0⟩) (agent_hd (by decide) (checkL_good hc0) ha) (by simp only;decide) hn
omit hc0 in
theorem Fm.not (h:Fm p f x n) (hn:n≤199):Fm p (buildL ⟨4,0,0,0,0,0⟩ [f]) (allL p.W &&& ~~~x) (n+1) :=
 h.un (hd:=⟨4,0,0,0⟩) (conn_hd (by decide)) (by decide) (by decide) hn
omit hc0 in
theorem Fm.and (h:Fm p f x n) (h':Fm p g y m) (hn:n+m≤199):Fm p (buildL ⟨5,0,0,0,0,0⟩ [f,g]) (x&&&y) (n+m+1) :=
 h.bi h' (hd:=⟨5,0,0,0⟩) (conn_hd (by decide)) (by decide) hn
omit hc0 in
theorem Fm.imp (h:Fm p f x n) (h':Fm p g y m) (hn:n+m≤199):Fm p (buildL ⟨7,0,0,0,0,0⟩ [f,g]) (allL p.W &&& ~~~x|||y) (n+m+1) :=
 h.bi h' (hd:=⟨7,0,0,0⟩) (conn_hd (by decide)) (by decide) hn
omit hc0 in
theorem Fm.tru:Fm p (buildL ⟨1,0,0,0,0,0⟩ []) (allL p.W) 1 :=
 ⟨⟨_,(okT_true (p:=p)).1,rfl⟩,(okT_true (p:=p)).2⟩
theorem Fm.under2 {hd:Hd} (hh:HdOk hd) (hy:useY hd.op=true) (hl:f.length≤n) (hm:g.length≤m) (hn:n+m≤199) (h0:(holdsL p (buildL ⟨hd.op,hd.i,hd.e,hd.g,0,0⟩ [f,g])).2=0):Fm p f (holdsL p f).1 n∧Fm p g (holdsL p g).1 m:=by
 obtain ⟨-,t',a1,a2,a3,a4⟩:=holds_inv h0
 have bad:fErr f≠0∨fErr g≠0→False:=fun h=>by
  have e:buildL ⟨hd.op,hd.i,hd.e,hd.g,0,0⟩ [f,g]=[]:=build_bad2 h
  have:=a1.ok
  rw [e] at this
  cases this
 by_cases hf0:fErr f=0
 ·by_cases hg0:fErr g=0
  ·have hf:=isF_of hf0
   have hg:=isF_of hg0
   have hb:=(build_two hh hy hf hg (by omega)).1
   have e:t' = .b hd (tmOf f (f.length - 1)) (tmOf g (g.length - 1)):=a1.tree.symm.trans hb.tree
   subst e
   exact ⟨.of (congrArg Prod.snd (holds_ok hf hc0 a2.2.1 a3.2.1)) hl,.of (congrArg Prod.snd (holds_ok hg hc0 a2.2.2 a3.2.2)) hm⟩
  ·exact (bad (.inr hg0)).elim
 ·exact (bad (.inl hf0)).elim
theorem Fm.under {hd:Hd} (hh:HdOk hd) (hy:useY hd.op=true) (h':Fm p g y m) (hl:f.length≤n) (hn:n+m≤199) (h0:(holdsL p (buildL ⟨hd.op,hd.i,hd.e,hd.g,0,0⟩ [f,g])).2=0):Fm p f (holdsL p f).1 n :=
 (Fm.under2 hc0 hh hy hl h'.len hn h0).1
end
section
variable {p:PM} (hc0:checkL p=0) {a:Nat} (ha:a < p.cell.length)
include hc0 ha
omit hc0 ha in
theorem InC.same {w v u:Nat} (h:InC p a w v):InC p a w u↔InC p a v u:=by
 unfold InC at *
 exact and_congr_right fun _=>⟨fun e=>e.trans h.2.symm,fun e=>e.trans h.2⟩
end
end Go.Ab
namespace Go.Ab
open Go
set_option linter.unusedVariables false
set_option linter.unusedSimpArgs false
structure Mn (p:PM) (a:Nat) (c:BitVec 64) (w v:Nat):Prop where
 cell:InC p a w v
 cond:c.getLsbD v=true
 best : ∀ u,InC p a w u→c.getLsbD u=true→rkA p a v≤rkA p a u
section
variable {p:PM} (hc0:checkL p=0) {a:Nat} (ha:a < p.cell.length)
include hc0 ha
theorem bel_iff {c s:BitVec 64} {w:Nat} : (believesL p a c s).getLsbD w=true↔w < p.W.toNat ∧ ∀ v,Mn p a c w v→s.getLsbD v=true:=by
 rw [believes_bit hc0 ha]
 exact and_congr_right fun _=>⟨fun h v hv=>h v hv.cell hv.cond hv.best,fun h v h1 h2 h3=>h v ⟨h1,h2,h3⟩⟩
theorem rk_nonneg {w:Nat} (hw:w < p.W.toNat) {v:Nat} (hv:InC p a w v):0≤rkA p a v :=
 rank_nonneg (at_of hc0 ha hw) ((cell_bit hc0 ha hw).2 hv)
theorem mn_ex {c:BitVec 64} {w u:Nat} (hw:w < p.W.toNat) (hu:InC p a w u) (hc:c.getLsbD u=true) : ∃ v,Mn p a c w v:=by
 obtain ⟨j,⟨h1,h2⟩,h3⟩:=least_ex (K:=fun i=>InC p a w i∧c.getLsbD i=true) (R:=rkA p a) (fun i hi=>rk_nonneg hc0 ha hw hi.1) (rkA p a u).toNat u ⟨hu,hc⟩ (Nat.le_refl _)
 exact ⟨j,h1,h2,fun i hi hi'=>h3 i ⟨hi,hi'⟩⟩
omit hc0 ha in
theorem and_bit {x y:BitVec 64} {i:Nat} : (x&&&y).getLsbD i=true↔x.getLsbD i=true∧y.getLsbD i=true:=by
 rw [BitVec.getLsbD_and,Bool.and_eq_true]
omit hc0 ha in
theorem or_bit {x y:BitVec 64} {i:Nat} : (x|||y).getLsbD i=true↔x.getLsbD i=true∨y.getLsbD i=true:=by
 rw [BitVec.getLsbD_or,Bool.or_eq_true]
omit hc0 ha in
theorem not_bit {x y:BitVec 64} {i:Nat} : (x &&& ~~~y).getLsbD i=true↔x.getLsbD i=true ∧ ¬y.getLsbD i=true:=by
 rw [BitVec.getLsbD_and,BitVec.getLsbD_not,Bool.and_eq_true]
 constructor
 ·rintro ⟨h1,h2⟩
  refine ⟨h1,fun h=>?_⟩
  rw [h] at h2;simp at h2
 ·rintro ⟨h1,h2⟩
  have:i < 64:=BitVec.lt_of_getLsbD h1
  refine ⟨h1,?_⟩
  rw [decide_eq_true this,Bool.true_and]
  cases hy:y.getLsbD i with
  | true=>exact absurd hy h2
  | false=>rfl
end
end Go.Ab
namespace Go.Ab
open Go
set_option linter.unusedVariables false
set_option linter.unusedSimpArgs false
inductive SubT:Tm→Tm→Prop where
 | refl (t:Tm):SubT t t
 | u {s x:Tm} (h:Hd):SubT s x→SubT s (.u h x)
 | l {s x:Tm} (h:Hd) (y:Tm):SubT s x→SubT s (.b h x y)
 | r {s y:Tm} (h:Hd) (x:Tm):SubT s y→SubT s (.b h x y)
def Num (l:List Nd):Prop := ∀ r,r < l.length→HasT (tmOf l r) l r
theorem put_num {l:List Nd} {x:Nd} (hl:Okay l) (hn:Num l) (hx:nErr x l.length=0) {t:Tm} (h1:tmOf (put l x).2 (put l x).1=t) (h2:HasT t (put l x).2 (put l x).1) :
  Num (put l x).2 ∧ ∀ r,r < (put l x).2.length→r < l.length∨tmOf (put l x).2 r=t:=by
 cases hi:l.idxOf? x with
 | some k=>rw [put_found hi];exact ⟨hn,fun r hr => .inl hr⟩
 | none =>
  rw [put_new hi] at h1 h2 ⊢
  simp only at h1 h2 ⊢
  refine ⟨fun r hr=>?_,fun r hr=>?_⟩
  ·simp only [List.length_append,List.length_cons,List.length_nil] at hr
   by_cases e:r < l.length
   ·rw [tmOf_append hl e];exact (hn r e).mono [x]
   ·have:r=l.length:=by omega
    subst this;rw [h1];exact h2
  ·simp only [List.length_append,List.length_cons,List.length_nil] at hr
   by_cases e:r < l.length
   ·exact .inl e
   ·have:r=l.length:=by omega
    subst this;exact .inr h1
theorem finT_num : ∀ (t:Tm) (l:List Nd),t.ok→Okay l→Num l→Num (finT t l).2 ∧ ∀ r,r < (finT t l).2.length→r < l.length∨SubT (tmOf (finT t l).2 r) t
 | .z h,l,ht,hl,hn=>by
  obtain ⟨o1,o2⟩:=finT_okay (.z h) l ht hl
  have hx:nErr (nd h 0 0) l.length=0:=nErr_iff.2 ⟨ht.1,fun e=>by have:=ht.2.1;simp [nd] at e;simp [this] at e,fun _=>rfl,fun e=>by have:=ht.2.2;simp [nd] at e;simp [this] at e,fun _=>rfl⟩
  obtain ⟨a,b⟩:=put_num hl hn hx o2 (finT_has (.z h) l)
  exact ⟨a,fun r hr=>(b r hr).imp id fun e=>by rw [show (finT (.z h) l).2=(put l (nd h 0 0)).2 from rfl,e];exact .refl _⟩
 | .u h x,l,ht,hl,hn=>by
  obtain ⟨o1,o2⟩:=finT_okay (.u h x) l ht hl
  obtain ⟨a1,a2⟩:=finT_okay x l ht.2.2.2 hl
  have a3:=finT_lt x l
  obtain ⟨n1,n2⟩:=finT_num x l ht.2.2.2 hl hn
  have hx:nErr (nd h (finT x l).1 0) (finT x l).2.length=0:=nErr_iff.2 ⟨ht.1,fun e=>⟨by simp [nd],by simp only [nd];omega⟩,fun e=>by have:=ht.2.1;simp [nd] at e;simp [this] at e,fun e=>by have:=ht.2.2.1;simp [nd] at e;simp [this] at e,fun _=>rfl⟩
  obtain ⟨a,b⟩:=put_num a1 n1 hx o2 (finT_has (.u h x) l)
  obtain ⟨m,hm⟩:=(put_ext (finT x l).2 (nd h (finT x l).1 0)).1
  refine ⟨a,fun r hr=>?_⟩
  rw [show (finT (.u h x) l).2=(put (finT x l).2 (nd h (finT x l).1 0)).2 from rfl] at hr ⊢
  rcases b r hr with e|e
  ·rw [hm,tmOf_append a1 e]
   exact (n2 r e).imp id fun s => .u h s
  ·rw [e];exact .inr (.refl _)
 | .b h x y,l,ht,hl,hn=>by
  obtain ⟨o1,o2⟩:=finT_okay (.b h x y) l ht hl
  obtain ⟨a1,a2⟩:=finT_okay x l ht.2.2.2.1 hl
  have a3:=finT_lt x l
  obtain ⟨b1,b2⟩:=finT_okay y (finT x l).2 ht.2.2.2.2 a1
  have b3:=finT_lt y (finT x l).2
  obtain ⟨n1,n2⟩:=finT_num x l ht.2.2.2.1 hl hn
  obtain ⟨n3,n4⟩:=finT_num y (finT x l).2 ht.2.2.2.2 a1 n1
  obtain ⟨m2,hm2⟩:=finT_ext y (finT x l).2
  have hx:nErr (nd h (finT x l).1 (finT y (finT x l).2).1) (finT y (finT x l).2).2.length=0:=nErr_iff.2 ⟨ht.1,fun e=>⟨by simp [nd],by simp only [nd];rw [hm2,List.length_append];omega⟩,
   fun e=>by have:=ht.2.1;simp [nd] at e;simp [this] at e,fun e=>⟨by simp [nd],by simp only [nd];omega⟩,fun e=>by have:=ht.2.2.1;simp [nd] at e;simp [this] at e⟩
  obtain ⟨a,b⟩:=put_num b1 n3 hx o2 (finT_has (.b h x y) l)
  obtain ⟨m,hm⟩:=(put_ext (finT y (finT x l).2).2 (nd h (finT x l).1 (finT y (finT x l).2).1)).1
  refine ⟨a,fun r hr=>?_⟩
  rw [show (finT (.b h x y) l).2=(put (finT y (finT x l).2).2 (nd h (finT x l).1 (finT y (finT x l).2).1)).2 from rfl] at hr ⊢
  rcases b r hr with e|e
  ·rw [hm,tmOf_append b1 e]
   rcases n4 r e with e'|s
   ·rw [hm2,tmOf_append a1 e']
    exact (n2 r e').imp id fun s => .l h y s
   ·exact .inr (.r h x s)
  ·rw [e];exact .inr (.refl _)
theorem nd_len {α:Type} : ∀ {l l':List α},l.Nodup→(∀ x∈l,x∈l')→l.length≤l'.length:=by
 intro l l' h1 h2
 haveI:DecidableEq α:=fun a b=>Classical.propDecidable _
 exact List.Nodup.length_le_of_subset h1 h2
theorem canon_len {t:Tm} (ht:t.ok) {L:List Tm} (hL : ∀ s,SubT s t→s∈L):(finT t []).2.length≤L.length:=by
 obtain ⟨h1,h2⟩:=finT_num t [] ht okay_nil (fun r hr=>by simp at hr)
 have:=nd_len (l:=(List.range (finT t []).2.length).map (tmOf (finT t []).2)) (l':=L) ?_ (fun s hs=>?_)
 ·simpa using this
 ·show List.Pairwise (fun a b=>a≠b) _
  rw [List.pairwise_map]
  refine List.Pairwise.imp_of_mem (fun {i j} hi hj hne e=>hne ?_) (show List.Pairwise (fun a b=>a≠b) _ from List.nodup_range)
  have a:=h1 i (List.mem_range.1 hi)
  have b:=h1 j (List.mem_range.1 hj)
  unfold HasT at a b
  rw [e,b] at a
  exact (Prod.mk.inj a).1.symm
 ·obtain ⟨r,hr,rfl⟩:=List.mem_map.1 hs
  exact hL _ ((h2 r (List.mem_range.1 hr)).resolve_left (by simp))
theorem sub_list {f:List Nd} (hf:Okay f) : ∀ (n i:Nat),i < n→i < f.length → ∀ s,SubT s (tmOf f i)→s∈(List.range f.length).map (tmOf f)
 | 0,i,h,_,_,_=>by omega
 | n+1,i,h,hi,s,hs=>by
  have h0:tmOf f i∈(List.range f.length).map (tmOf f):=List.mem_map.2 ⟨i,List.mem_range.2 hi,rfl⟩
  rw [tmOf_eq hf hi] at hs
  cases hy:useY (f.getD i default).op with
  | true =>
   have e1:=okay_x hf hi (useX_of_useY hy)
   have e2:=okay_y hf hi hy
   rw [hy,cond_true] at hs
   generalize hq:Tm.b (f.getD i default).hd (tmOf f (f.getD i default).x.toNat) (tmOf f (f.getD i default).y.toNat)=q at hs
   cases hs with
   | refl=>rw [← hq];rw [tmOf_eq hf hi,hy,cond_true] at h0;exact h0
   | u=>cases hq
   | l _ _ hs=>cases hq;exact sub_list hf n _ (by omega) (by omega) s hs
   | r _ _ hs=>cases hq;exact sub_list hf n _ (by omega) (by omega) s hs
  | false =>
   rw [hy,cond_false] at hs
   cases hx:useX (f.getD i default).op with
   | true =>
    have e1:=okay_x hf hi hx
    rw [hx,cond_true] at hs
    generalize hq:Tm.u (f.getD i default).hd (tmOf f (f.getD i default).x.toNat)=q at hs
    cases hs with
    | refl=>rw [← hq];rw [tmOf_eq hf hi,hy,hx,cond_false,cond_true] at h0;exact h0
    | u _ hs=>cases hq;exact sub_list hf n _ (by omega) (by omega) s hs
    | l=>cases hq
    | r=>cases hq
   | false =>
    rw [hx,cond_false] at hs
    generalize hq:Tm.z (f.getD i default).hd=q at hs
    cases hs with
    | refl=>rw [← hq];rw [tmOf_eq hf hi,hy,hx,cond_false,cond_false] at h0;exact h0
    | u=>cases hq
    | l=>cases hq
    | r=>cases hq
end Go.Ab
namespace Go.Ab
open Go
set_option linter.unusedVariables false
set_option linter.unusedSimpArgs false
theorem finish_isF2 {x:Nd} {f:List Nd} (hf:Okay f) (hx:nErr x f.length=0) (hl:(finT (tmOf (f++[x]) f.length) []).2.length≤200):IsF (finishL x f) (tmOf (f++[x]) f.length):=by
 have hok:Okay (f++[x]):=by
  intro k n hk
  rw [List.getElem?_append] at hk
  split at hk
  ·exact hf k n hk
  ·rename_i h1
   have:k=f.length:=by have:=(List.getElem?_eq_some_iff.1 hk).1;simp at this;omega
   subst this
   simp at hk;subst hk;exact hx
 have hlt:f.length < (f++[x]).length:=by simp
 have h1:=compactL_canon hok hlt
 rw [← (compactL_eq hok hlt).1] at hl
 have e:finishL x f=compactL (f++[x]) f.length:=by
  unfold finishL
  rw [if_neg (by omega),if_neg (by omega)]
 rw [e]
 exact ⟨fErr_ok.2 ⟨h1.pos,hl,h1.ok⟩,h1.tree⟩
theorem build_one2 {h:Hd} (hh:HdOk h) (hx:useX h.op=true) (hy:useY h.op=false) {o:List Nd} {t:Tm} (ho:IsF o t) (hl:(finT (.u h t) []).2.length≤200):IsF (buildL ⟨h.op,h.i,h.e,h.g,0,0⟩ [o]) (.u h t):=by
 obtain ⟨c1,c2⟩:=ho.canon
 have hp:=c1.pos
 have e0:(addL [] (cL o)).length=(cL o).length:=by simp [addL]
 have hok:=addL_okay okay_nil c1.ok
 have ht:tmOf (addL [] (cL o)) ((cL o).length - 1)=t:=by
  have:=addL_tree (f:=[]) okay_nil c1.ok (cL o).length ((cL o).length - 1) (by omega) (by omega)
  rw [List.length_nil,Nat.zero_add] at this
  rw [this];exact c1.tree
 have hn:nErr ⟨h.op,h.i,h.e,h.g,((addL [] (cL o)).length:Int) - 1,0⟩ (addL [] (cL o)).length=0:=nErr_iff.2 ⟨hh,fun _=>by simp only;omega,fun e=>by simp [hx] at e,fun e=>by simp [hy] at e,fun _=>rfl⟩
 have e:buildL ⟨h.op,h.i,h.e,h.g,0,0⟩ [o]=finishL ⟨h.op,h.i,h.e,h.g,((addL [] (cL o)).length:Int) - 1,0⟩ (addL [] (cL o)):=by
  simp [buildL,buildGo,ho.ok]
 have h0:=root_eq hok hn
 simp only [hx,hy,cond_false,cond_true] at h0
 rw [show (((addL [] (cL o)).length:Int) - 1).toNat=(cL o).length - 1 by omega,ht] at h0
 have h1:=finish_isF2 hok hn (by rw [h0];exact hl)
 rw [h0] at h1
 rw [e]
 exact h1
theorem build_two2 {h:Hd} (hh:HdOk h) (hy:useY h.op=true) {o q:List Nd} {t u:Tm} (ho:IsF o t) (hq:IsF q u) (hl:(finT (.b h t u) []).2.length≤200):IsF (buildL ⟨h.op,h.i,h.e,h.g,0,0⟩ [o,q]) (.b h t u):=by
 have hx:=useX_of_useY hy
 obtain ⟨c1,c2⟩:=ho.canon
 obtain ⟨d1,d2⟩:=hq.canon
 have hp:=c1.pos
 have hp2:=d1.pos
 have e0:(addL [] (cL o)).length=(cL o).length:=by simp [addL]
 have hok:=addL_okay okay_nil c1.ok
 have hok2:=addL_okay hok d1.ok
 have e2:(addL (addL [] (cL o)) (cL q)).length=(cL o).length+(cL q).length:=by rw [addL,List.length_append,List.length_map,e0]
 have ht:tmOf (addL (addL [] (cL o)) (cL q)) ((cL o).length - 1)=t:=by
  rw [addL_old hok (by omega)]
  have:=addL_tree (f:=[]) okay_nil c1.ok (cL o).length ((cL o).length - 1) (by omega) (by omega)
  rw [List.length_nil,Nat.zero_add] at this
  rw [this];exact c1.tree
 have hu:tmOf (addL (addL [] (cL o)) (cL q)) ((cL o).length+(cL q).length - 1)=u:=by
  have:=addL_tree hok d1.ok (cL q).length ((cL q).length - 1) (by omega) (by omega)
  rw [e0,show (cL o).length+((cL q).length - 1)=(cL o).length+(cL q).length - 1 by omega] at this
  rw [this];exact d1.tree
 have hn:nErr ⟨h.op,h.i,h.e,h.g,((addL [] (cL o)).length:Int) - 1,((addL (addL [] (cL o)) (cL q)).length:Int) - 1⟩ (addL (addL [] (cL o)) (cL q)).length=0 :=
  nErr_iff.2 ⟨hh,fun _=>by simp only;omega,fun e=>by simp [hx] at e,fun _=>by simp only;omega,fun e=>by simp [hy] at e⟩
 have e:buildL ⟨h.op,h.i,h.e,h.g,0,0⟩ [o,q]=finishL ⟨h.op,h.i,h.e,h.g,((addL [] (cL o)).length:Int) - 1,((addL (addL [] (cL o)) (cL q)).length:Int) - 1⟩ (addL (addL [] (cL o)) (cL q)):=by
  simp [buildL,buildGo,ho.ok,hq.ok]
 have h0:=root_eq hok2 hn
 simp only [hy,cond_true] at h0
 rw [show (((addL [] (cL o)).length:Int) - 1).toNat=(cL o).length - 1 by omega,show (((addL (addL [] (cL o)) (cL q)).length:Int) - 1).toNat=(cL o).length+(cL q).length - 1 by omega,ht,hu] at h0
 have h1:=finish_isF2 hok2 hn (by rw [h0];exact hl)
 rw [h0] at h1
 rw [e]
 exact h1
structure Gm (p:PM) (f:List Nd) (x:BitVec 64) (L:List Tm):Prop where
 ok : ∃ t,OkT p f t∧ev (valL p) 0#64 t=x ∧ ∀ s,SubT s t→s∈L
theorem Gm.holds {p:PM} {f:List Nd} {x:BitVec 64} {L:List Tm} (h:Gm p f x L) (hc0:checkL p=0):holdsL p f=(x,0):=by
 obtain ⟨t,h1,h2,-⟩:=h.ok
 rw [h1.holds hc0,h2]
theorem Fm.gm {p:PM} {f:List Nd} {x:BitVec 64} {n:Nat} (h:Fm p f x n):Gm p f x ((List.range f.length).map (tmOf f)):=by
 obtain ⟨t,h1,h2⟩:=h.ok
 obtain ⟨a,b,c⟩:=fErr_ok.1 h1.isF.ok
 refine ⟨t,h1,h2,fun s hs=>?_⟩
 rw [← h1.isF.tree] at hs
 exact sub_list c f.length _ (by omega) (by omega) s hs
theorem Gm.mono {p:PM} {f:List Nd} {x:BitVec 64} {L L':List Tm} (h:Gm p f x L) (hs : ∀ s,s∈L→s∈L'):Gm p f x L':=by
 obtain ⟨t,h1,h2,h3⟩:=h.ok
 exact ⟨t,h1,h2,fun s hq=>hs s (h3 s hq)⟩
theorem Gm.un {p:PM} {f:List Nd} {x:BitVec 64} {L:List Tm} (h:Gm p f x L) {hd:Hd} (hh:HdOk hd∧Allow hd∧FitH p hd) (hx:useX hd.op=true) (hy:useY hd.op=false) (hn:L.length≤199) :
  ∃ t',Gm p (buildL ⟨hd.op,hd.i,hd.e,hd.g,0,0⟩ [f]) (valL p hd x 0#64) (L++[t']):=by
 obtain ⟨t,h1,h2,h3⟩:=h.ok
 have hok:(Tm.u hd t).ok:=⟨hh.1,hx,hy,h1.isF.tok⟩
 have hL : ∀ s,SubT s (.u hd t)→s∈L++[.u hd t]:=fun s hs=>by
  cases hs with
  | refl=>simp
  | u _ hs=>exact List.mem_append.2 (.inl (h3 s hs))
 have hl:=canon_len hok hL
 simp only [List.length_append,List.length_cons,List.length_nil] at hl
 exact ⟨.u hd t,.u hd t,⟨build_one2 hh.1 hx hy h1.isF (by omega),⟨hh.2.1,h1.lang⟩,⟨hh.2.2,h1.fit⟩⟩,by rw [ev,h2],hL⟩
theorem Gm.bi {p:PM} {f g:List Nd} {x y:BitVec 64} {L:List Tm} (h:Gm p f x L) (h':Gm p g y L) {hd:Hd} (hh:HdOk hd∧Allow hd∧FitH p hd) (hy:useY hd.op=true) (hn:L.length≤199) :
  ∃ t',Gm p (buildL ⟨hd.op,hd.i,hd.e,hd.g,0,0⟩ [f,g]) (valL p hd x y) (L++[t']):=by
 obtain ⟨t,h1,h2,h3⟩:=h.ok
 obtain ⟨u,g1,g2,g3⟩:=h'.ok
 have hok:(Tm.b hd t u).ok:=⟨hh.1,useX_of_useY hy,hy,h1.isF.tok,g1.isF.tok⟩
 have hL : ∀ s,SubT s (.b hd t u)→s∈L++[.b hd t u]:=fun s hs=>by
  cases hs with
  | refl=>simp
  | l _ _ hs=>exact List.mem_append.2 (.inl (h3 s hs))
  | r _ _ hs=>exact List.mem_append.2 (.inl (g3 s hs))
 have hl:=canon_len hok hL
 simp only [List.length_append,List.length_cons,List.length_nil] at hl
 exact ⟨.b hd t u,.b hd t u,⟨build_two2 hh.1 hy h1.isF g1.isF (by omega),⟨hh.2.1,h1.lang,g1.lang⟩,⟨hh.2.2,h1.fit,g1.fit⟩⟩,by rw [ev,h2,g2],hL⟩
end Go.Ab
namespace Go.Ab
set_option linter.unusedVariables false
set_option linter.unusedSectionVars false
def clA (p:PM) (a w:Nat):Int:=at0 (rowAt p.cell a) w
def keyN (p:PM) (fs:Nat→Nat→BitVec 64) (a w:Nat):Int:=if (fs a w).getLsbD w=true then rkA p a w else p.W+rkA p a w
def upR (p:PM) (fs:Nat→Nat→BitVec 64) (a:Nat):List Int:=(List.range p.W.toNat).map fun w=>(dense p.W.toNat (2 * p.W.toNat) (clA p a) (keyN p fs a) w:Int)
def upL (p:PM) (fs:Nat→Nat→BitVec 64):PM:=⟨p.W,p.val,p.cell,(List.range p.cell.length).map (upR p fs)⟩
theorem at0_range {n:Nat} {f:Nat→Int} {w:Nat} (hw:w < n):at0 ((List.range n).map f) w=f w:=at0_of (by simp [hw])
section
variable {p:PM} (hc0:checkL p=0) {fs:Nat→Nat→BitVec 64} {a:Nat} (ha:a < p.cell.length)
include hc0 ha
theorem rk_chain {w:Nat} : ∀ k:Nat,w < p.W.toNat→(k:Int)≤rkA p a w → ∃ v,v < p.W.toNat∧rkA p a v=k:=by
 have hg:=checkL_good hc0
 have hl:=hg.lens a ha
 suffices H : ∀ (n:Nat) (w:Nat) (k:Nat),w < p.W.toNat→rkA p a w=k+n → ∃ v,v < p.W.toNat∧rkA p a v=k from fun k hw h=>H (rkA p a w - k).toNat w k hw (by omega)
 intro n
 induction n with
 | zero=>intro w k hw h;exact ⟨w,hw,by omega⟩
 | succ n ih =>
  intro w k hw h
  rcases (hg.ranked a ha w (by omega)).2 with h0|⟨v,hv,-,hr⟩
  ·unfold rkA at h;omega
  ·refine ih v k (by omega) ?_
   unfold rkA at h ⊢;omega
theorem rk_lt {w:Nat} (hw:w < p.W.toNat):0≤rkA p a w∧rkA p a w < p.W:=by
 have hg:=checkL_good hc0
 have hl:=hg.lens a ha
 have h0:0≤rkA p a w:=(hg.ranked a ha w (by omega)).1
 refine ⟨h0,?_⟩
 have hn:=nd_len (l:=(List.range ((rkA p a w).toNat+1)).map fun k:Nat=>(k:Int)) (l':=(List.range p.W.toNat).map (rkA p a)) (by
  refine List.Pairwise.map _ (fun x y h=>?_) List.nodup_range
  omega) (fun x hx=>by
  obtain ⟨k,hk,rfl⟩:=List.mem_map.1 hx
  rw [List.mem_range] at hk
  obtain ⟨v,hv,e⟩:=rk_chain hc0 ha k hw (by omega)
  exact List.mem_map.2 ⟨v,List.mem_range.2 hv,e⟩)
 simp at hn
 omega
theorem keyN_range : ∀ v,v < p.W.toNat→0≤keyN p fs a v∧keyN p fs a v < ((2 * p.W.toNat:Nat):Int):=by
 intro v hv
 have:=rk_lt hc0 ha hv
 unfold keyN
 split<;>omega
theorem up_row:rowAt (upL p fs).rank a=upR p fs a:=rowAt_of (by simp [upL,ha])
theorem up_rk {w:Nat} (hw:w < p.W.toNat):rkA (upL p fs) a w=dense p.W.toNat (2 * p.W.toNat) (clA p a) (keyN p fs a) w:=by
 unfold rkA
 rw [up_row hc0 ha]
 exact at0_range hw
theorem up_le {u v w:Nat} (hu:InC p a w u) (hv:InC p a w v):rkA (upL p fs) a u≤rkA (upL p fs) a v↔keyN p fs a u≤keyN p fs a v:=by
 rw [up_rk hc0 ha hu.1,up_rk hc0 ha hv.1,Int.ofNat_le]
 exact dense_le (hu.2.trans hv.2.symm) hu.1 hv.1 (keyN_range hc0 ha)
end
theorem up_check {p:PM} (hc0:checkL p=0) (fs:Nat→Nat→BitVec 64):checkL (upL p fs)=0:=by
 have hg:=checkL_good hc0
 have h1:=hg.w1
 have h2:=hg.w2
 have hs:shapeL p.W p.cell.length p.val=0:=by
  refine Classical.byContradiction fun h=>?_
  have e:checkL p=shapeL p.W p.cell.length p.val:=by unfold checkL;rw [if_pos h]
  omega
 refine checkL_0 hs (by simp [upL]) (fun a ha=>?_) hg.cells fun a ha=>?_
 ·have ha:a < p.cell.length:=ha
  rw [up_row hc0 ha]
  exact ⟨(hg.lens a ha).1,by simp [upR];show _=p.W;omega⟩
 ·have ha:a < p.cell.length:=ha
  have hl:=(hg.lens a ha).1
  rw [up_row hc0 ha]
  show Ranked (rowAt p.cell a) (upR p fs a)
  intro w hw
  have hw':w < p.W.toNat:=by omega
  unfold upR
  rw [at0_range hw']
  refine ⟨by omega,?_⟩
  by_cases h0:dense p.W.toNat (2 * p.W.toNat) (clA p a) (keyN p fs a) w=0
  ·left;omega
  ·right
   obtain ⟨v,hv,e1,e2⟩:=dense_pred hw' h0 (keyN_range hc0 ha)
   exact ⟨v,by omega,e1,by rw [at0_range hv];omega⟩
section
variable {p:PM} (hc0:checkL p=0) {fs:Nat→Nat→BitVec 64} {a:Nat} (ha:a < p.cell.length)
include hc0 ha
theorem bel_up {c s:BitVec 64} {w:Nat} : (believesL (upL p fs) a c s).getLsbD w=true↔w < p.W.toNat ∧ ∀ v,InC p a w v→c.getLsbD v=true→(∀ u,InC p a w u→c.getLsbD u=true→keyN p fs a v≤keyN p fs a u)→s.getLsbD v=true:=by
 rw [believes_bit (up_check hc0 fs) (show a < (upL p fs).cell.length from ha)]
 refine and_congr_right fun hw=>forall_congr' fun v=>⟨fun h h1 h2 h3=>?_,fun h h1 h2 h3=>?_⟩
 ·exact h h1 h2 fun u hu hu'=>(up_le hc0 ha h1 hu).2 (h3 u hu hu')
 ·exact h h1 h2 fun u hu hu'=>(up_le hc0 ha h1 hu).1 (h3 u hu hu')
open Classical in
theorem rad_bel {F G H:BitVec 64} {w:Nat} : (believesL (upL p fun _ _=>F) a G H).getLsbD w=true↔if ∃ v,InC p a w v∧(F&&&G).getLsbD v=true then (believesL p a (F&&&G) H).getLsbD w=true else (believesL p a G H).getLsbD w=true:=by
 have rk:=fun v (hv:InC p a w v)=>rk_lt hc0 ha hv.1
 rw [bel_up hc0 ha]
 split
 ·rename_i hex
  obtain ⟨x,hx,hx'⟩:=hex
  rw [and_bit] at hx'
  rw [believes_bit hc0 ha]
  refine and_congr_right fun hw=>forall_congr' fun v=>⟨fun h h1 h2 h3=>?_,fun h h1 h2 h3=>?_⟩
  ·rw [and_bit] at h2
   refine h h1 h2.2 fun u hu hu'=>?_
   have a1:=rk u hu
   have a2:=rk v h1
   unfold keyN
   rw [if_pos h2.1]
   split
   ·rename_i hF;exact h3 u hu (and_bit.2 ⟨hF,hu'⟩)
   ·omega
  ·have hF:F.getLsbD v=true:=by
    refine Classical.byContradiction fun hn=>?_
    have:=h3 x hx hx'.2
    have a1:=rk x hx
    have a2:=rk v h1
    unfold keyN at this
    rw [if_neg hn,if_pos hx'.1] at this
    omega
   refine h h1 (and_bit.2 ⟨hF,h2⟩) fun u hu hu'=>?_
   rw [and_bit] at hu'
   have:=h3 u hu hu'.2
   unfold keyN at this
   rwa [if_pos hF,if_pos hu'.1] at this
 ·rename_i hex
  have hno : ∀ v,InC p a w v→G.getLsbD v=true → ¬F.getLsbD v=true:=fun v hv hG hF=>hex ⟨v,hv,and_bit.2 ⟨hF,hG⟩⟩
  rw [believes_bit hc0 ha]
  refine and_congr_right fun hw=>forall_congr' fun v=>⟨fun h h1 h2 h3=>h h1 h2 fun u hu hu'=>?_,fun h h1 h2 h3=>h h1 h2 fun u hu hu'=>?_⟩
  ·have:=h3 u hu hu'
   unfold keyN
   rw [if_neg (hno v h1 h2),if_neg (hno u hu hu')]
   omega
  ·have:=h3 u hu hu'
   unfold keyN at this
   rw [if_neg (hno v h1 h2),if_neg (hno u hu hu')] at this
   omega
end
end Go.Ab
namespace Go.Ab
open Go Go.Proofs
set_option linter.unusedSimpArgs false
set_option linter.unusedVariables false
set_option maxRecDepth 10000
set_option maxHeartbeats 4000000
variable {T:Nat→Obj→Prop}
theorem vpasses_data {M:Nat→Option Ob} {js fz:List Nat} : ∀ (l:List D) (k:Nat),l.length < k→VPasses M js fz k (l.map V.d) (l.map V.d)
 | [],k+1,_=>rfl
 | x::l,k+1,h=>by
  have h:l.length+1 < k+1:=h
  match k,h with
  | k+1,h=>exact ⟨⟨rfl,rfl⟩,vpasses_data l (k+1) (by omega)⟩
def cmpI (a b:Int):Int:=if a < b then -1 else if b < a then 1 else 0
theorem fn_Compare_int (a b:Int):Fn Tryz.prog T f_cmp_Compare_int_ [.d (.int .i64 a),.d (.int .i64 b)] [] (.d (.int .i64 (cmpI a b))) []:=by
 have hn : ∀ z:Int,Fn Tryz.prog T f_cmp_isNaN_int_ [.d (.int .i64 z)] [] (.d (.bool false)) []:=fun z=>by
  refine fn_dataR hmix k_cmp_isNaN_int_ (by show 1≤6;decide) ?_
  (repeat' ((conv=>whnf);refine vZ ?_));all_goals try conv=>whnf
  simp
 refine fn_dataR hmix k_cmp_Compare_int_ (by show 2≤20;decide) ?_
 (repeat' ((conv=>whnf);first|refine vA ?_|refine vH ?_|(refine vF ?_ ?_<;>intro hc<;>try simp only [vL] at hc)|refine vX ?_|refine yD (hn _) (by (repeat refine ⟨⟨rfl,rfl⟩,?_⟩);rfl) rfl ?_));all_goals try conv=>whnf
 all_goals (unfold cmpI;first|rw [if_pos ‹_›]|(rw [if_neg (by omega)];first|rw [if_pos ‹_›]|rw [if_neg (by omega)])|skip)
def orI:List Int→Int
 | []=>0
 | x::l=>if x≠0 then x else orI l
theorem fn_Or_int (l:List Int) (hl:l.length≤100):Fn Tryz.prog T f_cmp_Or_int_ [.d (dI l)] [] (.d (.int .i64 (orI l))) []:=by
 refine fn_dataR hmix k_cmp_Or_int_ (by show 1≤18;decide) ?_
 (repeat' ((conv=>whnf);first|refine vA ?_|refine vJ fun hg=>?_));all_goals try conv=>whnf
 refine loop_intro (fun (k:Nat)=>[(3,.d (.int .i64 (0))),(6,.d (dI l)),(7,.d (.int .i64 ((l.map (D.int .i64)).length:Int))),(8,.d (.int .i64 ((k:Int))))]) (fun (k:Nat)=>k≤l.length∧orI l=orI (l.drop k)) (fun (k:Nat)=>l.length - k) (0) (⟨by simp,rfl⟩) (by (repeat' first|exact trivial|exact rfl|refine And.intro ?_ ?_)) ?_
 rintro k ⟨hk,hI⟩
 (repeat' ((conv=>whnf);first|refine vA ?_|((first|refine vD ?_ ?_|refine vF ?_ ?_)<;>intro hc<;>try simp only [vL] at hc)|(refine vQ ?_ fun x hx=>?_;·omega)|(refine vO ?_ ?_;·omega)|refine vX ?_));all_goals try conv=>whnf
 ·rw [hI,drop_cons hx,orI,if_pos hc]
 ·exact ⟨k+1,[],[],⟨by (omega),by rw [hI,drop_cons hx,orI,if_neg (by simpa using hc)]⟩,by (omega),by (refine ⟨rfl,rfl,rfl,?_,?_⟩;repeat' first|exact trivial|exact rfl|refine And.intro ?_ ?_)⟩
 ·rw [hI,List.drop_eq_nil_of_le (by omega)];rfl
abbrev WN (p:PM):Type := { w:Nat // w < p.W.toNat }
def k0 (fs:Nat→Nat→BitVec 64) (a w:Nat):Int:=if (fs a w).getLsbD w=true then 0 else 1
abbrev bF (gi:Nat) (gcs:List D):D := .box [.fn gi gcs]
section
variable {p:PM} {fs:Nat→Nat→BitVec 64} {gi:Nat} {gcs:List D} {s:BitVec 64} (hg:gcs.length≤10) (hF : ∀ a w:Nat,a < p.cell.length→w < p.W.toNat→Fn Tryz.prog T gi ([.d (.int .i64 (a:Int)),.d (.int .i64 (w:Int)),.d (.u64 s)]++gcs.map V.d) [] (.d (.u64 (fs a w))) []) (hc0:checkL p=0)
include hg hF hc0
theorem fn_key (a w:Nat) (ha:a < p.cell.length) (hw:w < p.W.toNat):Fn Tryz.prog T f_upgrade_reorder_1 [.d (.int .i64 (w:Int)),.d (bP p),.d (bI a),.d (bF gi gcs),.d (bU s)] [] (.d (.agg [.int .i64 (k0 fs a w),.int .i64 (rkA p a w)])) []:=by
 have hat:At p a w:=at_of hc0 ha hw
 obtain ⟨hrow,hrank,hlen,hlen',h64,ha',-⟩:=hat.rows
 rw [Int.toNat_natCast] at hrow hrank hlen hlen'
 have hF:=hF a w ha hw
 obtain ⟨x3,e3⟩ : ∃ x,(rowAt p.rank a)[w]? = some x:=⟨_,List.getElem?_eq_getElem (by omega)⟩
 have f3:rkA p a w=x3:=at0_of e3
 refine fn_dataR hmix k_upgrade_reorder_1 (by show 5≤28;decide) ?_
 (repeat' ((conv=>whnf);first|refine vA ?_|refine vN ‹_› ?_));all_goals try conv=>whnf
 refine CallS.data hF ⟨⟨rfl,rfl⟩,⟨rfl,rfl⟩,⟨rfl,rfl⟩,vpasses_data gcs 17 (by omega)⟩ rfl ?_
 (repeat' ((conv=>whnf);first|(refine vF ?_ ?_<;>intro hc)|(refine vP ?_ ?_;·omega)|fail));all_goals try conv=>whnf
 ·have hb:=(bit_one _ _).1 ‹fs a w >>> _&&&1#64=1#64›
  have e0:k0 fs a w=0:=if_pos hb
  rw [e0,f3];rfl
 ·have hb : ¬(fs a w).getLsbD w=true:=fun h=>‹¬fs a w >>> _&&&1#64=1#64› ((bit_one _ _).2 h)
  have e0:k0 fs a w=1:=if_neg hb
  rw [e0,f3];rfl
abbrev yK (p:PM) (a:Nat) (gi:Nat) (gcs:List D) (s:BitVec 64):D := .box [.fn f_upgrade_reorder_1 [bP p,bI a,bF gi gcs,bU s]]
def cmpK (p:PM) (fs:Nat→Nat→BitVec 64) (a x y:Nat):Int:=orI [cmpI (clA p a x) (clA p a y),cmpI (k0 fs a x) (k0 fs a y),cmpI (rkA p a x) (rkA p a y)]
theorem fn_cmpK (a x y:Nat) (ha:a < p.cell.length) (hx:x < p.W.toNat) (hy:y < p.W.toNat):Fn Tryz.prog T f_upgrade_reorder_2 [.d (.int .i64 (x:Int)),.d (.int .i64 (y:Int)),.d (yK p a gi gcs s),.d (bP p),.d (bI a)] [] (.d (.int .i64 (cmpK p fs a x y))) []:=by
 have hat:At p a x:=at_of hc0 ha hx
 obtain ⟨hrow,hrank,hlen,hlen',h64,ha',-⟩:=hat.rows
 rw [Int.toNat_natCast] at hrow hrank hlen hlen'
 obtain ⟨z1,e1⟩ : ∃ z,(rowAt p.cell a)[x]? = some z:=⟨_,List.getElem?_eq_getElem (by omega)⟩
 obtain ⟨z2,e2⟩ : ∃ z,(rowAt p.cell a)[y]? = some z:=⟨_,List.getElem?_eq_getElem (by omega)⟩
 have f1:clA p a x=z1:=at0_of e1
 have f2:clA p a y=z2:=at0_of e2
 have cx:=fn_key hg hF hc0 a x ha hx (s:=s)
 have cy:=fn_key hg hF hc0 a y ha hy (s:=s)
 have co:=fn_Or_int (T:=T) [cmpI z1 z2,cmpI (k0 fs a x) (k0 fs a y),cmpI (rkA p a x) (rkA p a y)] (by simp)
 refine fn_dataR hmix k_upgrade_reorder_2 (by show 5≤45;decide) ?_
 (repeat' ((conv=>whnf);first|refine vA ?_|refine vN ‹_› ?_|(refine vP ?_ ?_;·omega)|(refine vU ?_ ?_;·kernel_rfl)|refine vX ?_|refine yN cx (by (repeat refine ⟨⟨rfl,rfl⟩,?_⟩);rfl) ?_|refine yN cy (by (repeat refine ⟨⟨rfl,rfl⟩,?_⟩);rfl) ?_|refine yD (fn_Compare_int _ _) ⟨⟨rfl,rfl⟩,⟨rfl,rfl⟩,rfl⟩ rfl ?_|refine yD co ⟨⟨rfl,rfl⟩,rfl⟩ rfl ?_));all_goals try conv=>whnf
 rw [cmpK,f1,f2]
end
end Go.Ab
namespace Go.Ab
open Go Go.Proofs Go.MapKept
set_option linter.unusedVariables false
set_option linter.unusedSimpArgs false
abbrev GI := List (Int × List Int)
theorem find_int : ∀ (l : List MapEntry) (ks : List Int) (i : Nat) (c : Int), ks.length = l.length → (∀ j, j < ks.length → (l.getD j default).key = .int .i64 (ks.getD j 0)) →
    (c ∉ ks ∧ Instr.findNow (.int .i64) (.int .i64 c) l i = some none) ∨ ∃ j, j < ks.length ∧ ks.getD j 0 = c ∧ Instr.findNow (.int .i64) (.int .i64 c) l i = some (some (i + j, (l.getD j default).val))
  | [], [], i, c, _, _ => .inl ⟨by simp, rfl⟩
  | [], _ :: _, _, _, h, _ => by simp at h
  | _ :: _, [], _, _, h, _ => by simp at h
  | e :: l, k :: ks, i, c, h, hk => by
    have h0 : e.key = .int .i64 k := by simpa using hk 0 (by simp)
    have hs : Instr.sameNow (.int .i64) (.int .i64 c) e.key = some (decide (c = k)) := by rw [h0]; simp [Instr.sameNow, int_beq]
    by_cases hc : c = k
    · refine .inr ⟨0, by simp, by simp [hc], ?_⟩
      subst hc
      simp [Instr.findNow, hs]
    · rcases find_int l ks (i + 1) c (by simpa using h) (fun j hj => by simpa using hk (j + 1) (by simpa using hj)) with ⟨h1, h2⟩ | ⟨j, h1, h2, h3⟩
      · exact .inl ⟨by simp [hc, h1], by simp [Instr.findNow, hs, hc, h2]⟩
      · exact .inr ⟨j + 1, by simpa using h1, by simpa using h2, by simp [Instr.findNow, hs, hc, h3]; omega⟩
theorem run_store {w : World} {m : Nat} {es : Array MapEntry} {clock : Nat} (hm : w.heap[m]? = some (.map es clock)) {c : Int} {v : Value} {r : Option (Nat × Value)} (hf : Instr.findNow (.int .i64) (.int .i64 c) es.toList 0 = some r)
    (hr : ∀ j u, r = some (j, u) → j < es.size ∧ (es.getD j default).key = .int .i64 c) :
    (Instr.mapUpdate 82 (.map (some m)) (.int .i64 c) v).run Tryz.prog w = .ok () { w with heap := w.heap.setIfInBounds m (match r with
      | none => .map (es.push { key := .int .i64 c, val := v, born := clock }) (clock + 1)
      | some p => .map (es.modify p.1 fun e => { e with key := .int .i64 c, val := v }) clock) } := by
  have hik : IsKey (.int .i64) (.int .i64 c) := rfl
  have hck := fun b => run_checkKey (w := w) Tryz.underlying3 hik b 9999
  have hfk := run_findKey (w := w) Tryz.underlying3 hf
  cases r with
  | none =>
    have hset := run_setObj_map (P := Tryz.prog) (.map (es.push { key := .int .i64 c, val := v, born := clock }) (clock + 1)) hm
    simp [Instr.mapUpdate, run_underlying Tryz.underlying82, run_getMap hm, hck, hfk, hset]
  | some p =>
    obtain ⟨j, u⟩ := p
    obtain ⟨hj, hkj⟩ := hr j u rfl
    have hold : ((es[j]?).map (·.key)).getD (.int .i64 c) = .int .i64 c := by
      rw [← hkj]; simp [Array.getD_eq_getD_getElem?, hj]
    have hset := run_setObj_map (P := Tryz.prog) (.map (es.modify j fun e => { e with key := .int .i64 c, val := v }) clock) hm
    simp [Instr.mapUpdate, run_underlying Tryz.underlying82, run_getMap hm, hck, hfk, hold, Instr.keyThatStays, sameBits_key hik, hset]
structure Grp (O : World → Value → Nat → List Int → Prop) (w : World) (m : Nat) (gs : GI) (es : Array MapEntry) (clock : Nat) (blk : Nat → Nat) : Prop where
  heap : w.heap[m]? = some (.map es clock)
  st : Stamps es clock
  size : es.size = gs.length
  key : ∀ i, i < gs.length → (es.getD i default).key = .int .i64 (gs.getD i default).1
  val : ∀ i, i < gs.length → O w (es.getD i default).val (blk i) (gs.getD i default).2
  apart : ∀ i j, i < gs.length → j < gs.length → blk i = blk j → i = j
section
variable {O : World → Value → Nat → List Int → Prop} {w : World} {m : Nat} {gs : GI} {es : Array MapEntry} {clock : Nat} {blk : Nat → Nat}
theorem Grp.find (h : Grp O w m gs es clock blk) (c : Int) : (c ∉ gs.map Prod.fst ∧ Instr.findNow (.int .i64) (.int .i64 c) es.toList 0 = some none) ∨
    ∃ j, j < gs.length ∧ (gs.getD j default).1 = c ∧ Instr.findNow (.int .i64) (.int .i64 c) es.toList 0 = some (some (j, (es.getD j default).val)) := by
  have hg : ∀ j, j < gs.length → (gs.map Prod.fst).getD j 0 = (gs.getD j default).1 := fun j hj => by simp [List.getD, hj]
  rcases find_int es.toList (gs.map Prod.fst) 0 c (by simp [h.size]) (fun j hj => by
    rw [List.length_map] at hj
    rw [getD_toList, h.key j hj, hg j hj]) with h1 | ⟨j, h1, h2, h3⟩
  · exact .inl h1
  · rw [List.length_map] at h1
    rw [hg j h1] at h2
    refine .inr ⟨j, h1, h2, ?_⟩
    rw [h3, Nat.zero_add, getD_toList]
theorem run_lookup_now {P : Program} {w : World} {t kt e : TypeId} {d : TypeDesc} {kv : Value} (ht : P.underlying t = some (.map kt e)) (hkd : P.underlying kt = some d) (hik : IsKey d kv) {zv : Value} (hz : ∀ w, (zeroValue e).run P w = .ok zv w)
    {ok : Bool} {m : Nat} {ents : Array MapEntry} {clock : Nat} (hm : w.heap[m]? = some (.map ents clock)) {r : Option (Nat × Value)} (hf : Instr.findNow d kv ents.toList 0 = some r) :
    (Instr.lookup t (.map (some m)) kv ok).run P w = .ok (if ok then .tuple #[foundV r zv, .bool r.isSome] else foundV r zv) w := by
  have hfk := run_findKey (w := w) hkd hf
  have hck : ∀ b, (Instr.checkKey b 10000 kt kv).run P w = .ok () w := fun b => run_checkKey hkd hik b 9999
  cases r with
  | none => simp [Instr.lookup, run_underlying ht, run_getMap hm, hck, hfk, hz, foundV]
  | some p => obtain ⟨i, v⟩ := p; simp [Instr.lookup, run_underlying ht, run_getMap hm, hck, hfk, foundV]
theorem lookG_none {w : World} {m : Nat} {es : Array MapEntry} {clock : Nat} (h : w.heap[m]? = some (.map es clock)) {c : Int} (hf : Instr.findNow (.int .i64) (.int .i64 c) es.toList 0 = some none) : (Instr.lookup 82 (.map (some m)) (.int .i64 c) false).run Tryz.prog w = .ok (.slice none 0 0) w := by
  have hz : ∀ w, (zeroValue 29).run Tryz.prog w = .ok (.slice none 0 0) w := fun w => by kernel_rfl
  simpa [foundV] using run_lookup_now (ok := false) Tryz.underlying82 Tryz.underlying3 (show IsKey (.int .i64) (.int .i64 c) from rfl) hz h hf
theorem lookG_some {w : World} {m : Nat} {es : Array MapEntry} {clock : Nat} (h : w.heap[m]? = some (.map es clock)) {c : Int} {j : Nat} {v : Value} (hf : Instr.findNow (.int .i64) (.int .i64 c) es.toList 0 = some (some (j, v))) : (Instr.lookup 82 (.map (some m)) (.int .i64 c) false).run Tryz.prog w = .ok v w := by
  have hz : ∀ w, (zeroValue 29).run Tryz.prog w = .ok (.slice none 0 0) w := fun w => by kernel_rfl
  simpa [foundV] using run_lookup_now (ok := false) Tryz.underlying82 Tryz.underlying3 (show IsKey (.int .i64) (.int .i64 c) from rfl) hz h hf
theorem gset_get {i j : Nat} {x : Int × List Int} (hi : i < gs.length) : (gs.set i x).getD j default = if j = i then x else gs.getD j default := by
  by_cases h : j = i
  · subst h; simp [List.getD, hi]
  · rw [if_neg h]; simp [List.getD, Ne.symm h]
theorem gadd_get {j : Nat} {x : Int × List Int} (hj : j < gs.length + 1) : (gs ++ [x]).getD j default = if j = gs.length then x else gs.getD j default := by
  by_cases h : j = gs.length
  · subst h; simp [List.getD]
  · rw [if_neg h]; simp [List.getD, List.getElem?_append_left (show j < gs.length by omega)]
theorem Grp.set {w1 : World} (h : Grp O w m gs es clock blk) {c : Int} {i : Nat} {u v : Value} {g : Nat} {zs : List Int} (hi : i < gs.length) (hc : (gs.getD i default).1 = c)
    (hf : Instr.findNow (.int .i64) (.int .i64 c) es.toList 0 = some (some (i, u))) (hm : w1.heap[m]? = some (.map es clock))
    (hv : ∀ o, O { w1 with heap := w1.heap.setIfInBounds m o } v g zs)
    (ho : ∀ o j, j < gs.length → j ≠ i → O { w1 with heap := w1.heap.setIfInBounds m o } (es.getD j default).val (blk j) (gs.getD j default).2) (hg : ∀ j, j < gs.length → j ≠ i → blk j ≠ g) :
    ∃ es', (Instr.mapUpdate 82 (.map (some m)) (.int .i64 c) v).run Tryz.prog w1 = .ok () { w1 with heap := w1.heap.setIfInBounds m (.map es' clock) } ∧
      Grp O { w1 with heap := w1.heap.setIfInBounds m (.map es' clock) } m (gs.set i (c, zs)) es' clock (fun j => if j = i then g else blk j) ∧ ∀ j, j < gs.length → (es'.getD j default).born = (es.getD j default).born := by
  have hj : i < es.size := by rw [h.size]; exact hi
  have hmod : ∀ j, (es.modify i fun e => { e with key := .int .i64 c, val := v }).getD j default = if j = i then { key := .int .i64 c, val := v, born := (es.getD i default).born } else es.getD j default := fun j => modify_getD hj
  refine ⟨es.modify i fun e => { e with key := .int .i64 c, val := v }, run_store hm hf (fun j u' e => ?_), ⟨?_, ?_, ?_, fun j hj' => ?_, fun j hj' => ?_, fun j k hj' hk' e => ?_⟩, fun j hj' => ?_⟩
  · cases e; exact ⟨hj, by rw [h.key i hi, hc]⟩
  · simp [lt_of_block hm]
  · refine ⟨fun p q hp hq he => ?_, fun p hp => ?_⟩
    · simp only [Array.size_modify] at hp hq
      rw [hmod, hmod] at he
      refine h.st.inj p q hp hq ?_
      split at he <;> split at he <;> simp_all
    · simp only [Array.size_modify] at hp
      rw [hmod p]
      by_cases e : p = i
      · rw [if_pos e]; exact h.st.lt i hj
      · rw [if_neg e]; exact h.st.lt p hp
  · simp [h.size]
  · rw [List.length_set] at hj'
    rw [hmod, gset_get hi]
    split
    · rfl
    · exact h.key j hj'
  · rw [List.length_set] at hj'
    rw [hmod, gset_get hi]
    split
    · exact hv _
    · exact ho _ j hj' ‹_›
  · rw [List.length_set] at hj' hk'
    by_cases e1 : j = i <;> by_cases e2 : k = i
    · omega
    · rw [if_pos e1, if_neg e2] at e; exact absurd e.symm (hg k hk' e2)
    · rw [if_neg e1, if_pos e2] at e; exact absurd e (hg j hj' e1)
    · rw [if_neg e1, if_neg e2] at e; exact h.apart j k hj' hk' e
  · rw [hmod j]
    by_cases e : j = i
    · rw [if_pos e, e]
    · rw [if_neg e]
theorem Grp.add {w1 : World} (h : Grp O w m gs es clock blk) {c : Int} {v : Value} {g : Nat} {zs : List Int}
    (hf : Instr.findNow (.int .i64) (.int .i64 c) es.toList 0 = some none) (hm : w1.heap[m]? = some (.map es clock))
    (hv : ∀ o, O { w1 with heap := w1.heap.setIfInBounds m o } v g zs)
    (ho : ∀ o j, j < gs.length → O { w1 with heap := w1.heap.setIfInBounds m o } (es.getD j default).val (blk j) (gs.getD j default).2) (hg : ∀ j, j < gs.length → blk j ≠ g) :
    ∃ es', (Instr.mapUpdate 82 (.map (some m)) (.int .i64 c) v).run Tryz.prog w1 = .ok () { w1 with heap := w1.heap.setIfInBounds m (.map es' (clock + 1)) } ∧
      Grp O { w1 with heap := w1.heap.setIfInBounds m (.map es' (clock + 1)) } m (gs ++ [(c, zs)]) es' (clock + 1) (fun j => if j = gs.length then g else blk j) := by
  have hget : ∀ j, (es.push { key := .int .i64 c, val := v, born := clock }).getD j default = if j = gs.length then { key := .int .i64 c, val := v, born := clock } else es.getD j default := by
    intro j
    rw [← h.size]
    simp only [Array.getD_eq_getD_getElem?, Array.getElem?_push]
    split <;> rfl
  refine ⟨es.push { key := .int .i64 c, val := v, born := clock }, run_store hm hf (fun j u' e => by cases e), ⟨?_, stamps_push h.st _ _, ?_, fun j hj' => ?_, fun j hj' => ?_, fun j k hj' hk' e => ?_⟩⟩
  · simp [lt_of_block hm]
  · simp [h.size]
  · simp only [List.length_append, List.length_cons, List.length_nil] at hj'
    rw [hget, gadd_get hj']
    split
    · rfl
    · exact h.key j (by omega)
  · simp only [List.length_append, List.length_cons, List.length_nil] at hj'
    rw [hget, gadd_get hj']
    split
    · exact hv _
    · exact ho _ j (by omega)
  · simp only [List.length_append, List.length_cons, List.length_nil] at hj' hk'
    by_cases e1 : j = gs.length <;> by_cases e2 : k = gs.length
    · omega
    · rw [if_pos e1, if_neg e2] at e; exact absurd e.symm (hg k (by omega))
    · rw [if_neg e1, if_pos e2] at e; exact absurd e (hg j (by omega))
    · rw [if_neg e1, if_neg e2] at e; exact h.apart j k (by omega) (by omega) e
end
end Go.Ab
namespace Go.Ab
open Go Go.Proofs
set_option linter.unusedSimpArgs false
set_option linter.unusedVariables false
set_option maxRecDepth 10000
set_option maxHeartbeats 4000000
variable {T:Nat→Obj→Prop}
abbrev rowint (d:Array (Int)):Ob := .row 1 (d.toList.map (D.int .i64))
end Go.Ab
namespace Go.Ab
open Go Go.Proofs
set_option linter.unusedSimpArgs false
set_option linter.unusedVariables false
set_option maxRecDepth 10000
set_option maxHeartbeats 4000000
variable {T:Nat→Obj→Prop}
abbrev box1int (s:Nat):Ob := .box [.d (.int .i64 (s:Int))]
end Go.Ab
namespace Go.Ab
open Go Go.Proofs
set_option linter.unusedSimpArgs false
set_option linter.unusedVariables false
set_option maxRecDepth 10000
set_option maxHeartbeats 4000000
variable {T:Nat→Obj→Prop}
end Go.Ab
namespace Go.Ab
open Go Go.Proofs
set_option linter.unusedSimpArgs false
set_option linter.unusedVariables false
set_option maxRecDepth 10000
set_option maxHeartbeats 4000000
variable {T:Nat→Obj→Prop}
end Go.Ab
namespace Go.Ab
open Go Go.Proofs
set_option linter.unusedSimpArgs false
set_option linter.unusedVariables false
set_option maxRecDepth 10000
set_option maxHeartbeats 4000000
variable {T:Nat→Obj→Prop}
end Go.Ab
namespace Go.Ab
open Go Go.Proofs
set_option linter.unusedSimpArgs false
set_option linter.unusedVariables false
set_option maxRecDepth 10000
set_option maxHeartbeats 4000000
variable {T:Nat→Obj→Prop}
end Go.Ab
namespace Go.Ab
open Go Go.Proofs
set_option linter.unusedSimpArgs false
set_option linter.unusedVariables false
set_option maxRecDepth 10000
set_option maxHeartbeats 4000000
variable {T:Nat→Obj→Prop}
set_option maxHeartbeats 1000000 in
theorem fn_Compact_id_int (d:Array Int) (hs:d.size≤536870912) (hd:Steps d):Fn Tryz.prog T f_slices_Compact_Lint_int_ [.own 0] [rowint d] (.own 0) [some (rowint d)]:=by
 have hln:d.toList.length=d.size:=Array.length_toList
 refine fn_introR hmix k_slices_Compact_Lint_int_ (by show 1≤61;decide) _ (fun e env mem n h=>h) ?_
 (repeat' ((conv=>whnf);first|refine vA ?_|(refine vF ?_ ?_<;>intro hc<;>try simp only [vL] at hc)|refine vJ fun hg=>?_));all_goals try conv=>whnf
 ·refine ⟨trivial,_,[(0,0)],[],rfl,.inl (by (repeat' exact rfl)),⟨by rfl,by rfl,by rfl,trivial,by (repeat' first|exact trivial|exact rfl|refine And.intro ?_ ?_|refine ⟨_,rfl,?_⟩|exact of_decide_eq_true rfl)⟩,by (repeat' first|exact trivial|exact rfl|refine And.intro ?_ ?_)⟩
 refine loop_mem (fun (i:Int)=>[(0,.own 0),(3,.d (.int .i64 (i))),(ghostAt,.own 0)]) (fun (i:Int)=>[(0,some (rowint d))]) 1 (fun (i:Int) => ∃ k:Nat,i=k∧0 < k∧k≤d.size) (fun (i:Int)=>(d.size - i).toNat) (1) [(0,0)] [] (⟨1,rfl,by omega,by omega⟩) (by (refine ⟨rfl,rfl,rfl,?_,?_⟩;repeat' first|exact trivial|exact rfl|refine And.intro ?_ ?_|refine ⟨_,rfl,?_⟩|decide)) ?_
 rintro _ ⟨k,rfl,hk0,hk1⟩
 (repeat' ((conv=>whnf);first|refine vA ?_|(refine vF ?_ ?_<;>intro hc<;>try simp only [vL] at hc)|refine vJ fun hg=>?_|(refine vQ ?_ fun x hx=>?_;·omega)|((first|refine vO ?_ ?_|refine vP ?_ ?_);·first|omega|(simp only [vM] at *;omega))|(refine vU ?_ ?_;·kernel_rfl)|fail));all_goals try conv=>whnf
 ·have g1:=arr_eq (arr_at k ‹d.toList[(k:Int).toNat]? = some _› rfl)
  have g2:=arr_eq (arr_at (k - 1) ‹d.toList[((k:Int) - 1).toNat]? = some _› (by omega))
  exact absurd (g1.1.trans (‹_=_›.trans g2.1.symm)) (hd k hk0 g1.2)
 ·refine ⟨_,[(0,0)],[],?_,?_,by (refine ⟨rfl,rfl,rfl,?_,?_⟩;repeat' first|exact trivial|exact rfl|refine And.intro ?_ ?_|refine ⟨_,rfl,?_⟩|decide)⟩
  ·exact ⟨k+1,by omega,by omega,by omega⟩
  ·(omega)
 ·refine ⟨trivial,_,[(0,0)],[],rfl,.inl (by (repeat' exact rfl)),⟨by rfl,by rfl,by rfl,trivial,by (repeat' first|exact trivial|exact rfl|refine And.intro ?_ ?_|refine ⟨_,rfl,?_⟩|exact of_decide_eq_true rfl)⟩,by (repeat' first|exact trivial|exact rfl|refine And.intro ?_ ?_)⟩
set_option maxHeartbeats 1000000 in
theorem fn_Compact_cut_int (d:Array Int) (hs:d.size≤536870912) (hd : ¬Steps d):Fn Tryz.prog T f_slices_Compact_Lint_int_ [.own 0] [rowint d] (.own 1) [none,some (.row 1 ((ddA d d.size).map (D.int .i64)))]:=by
 generalize hR:(ddA d d.size).map (D.int .i64)=R
 have hln:d.toList.length=d.size:=Array.length_toList
 refine fn_introR hmix k_slices_Compact_Lint_int_ (by show 1≤61;decide) _ (fun e env mem n h=>h) ?_
 (repeat' ((conv=>whnf);first|refine vA ?_|(refine vF ?_ ?_<;>intro hc<;>try simp only [vL] at hc)|refine vJ fun hg=>?_));all_goals try conv=>whnf
 ·exact absurd (fun j hj0 hj1=>by omega) hd
 refine loop_mem (fun (i:Int)=>[(0,.own 0),(3,.d (.int .i64 (i))),(ghostAt,.own 0)]) (fun (i:Int)=>[(0,some (rowint d))]) 1 (fun (i:Int) => ∃ k:Nat,i=k∧0 < k∧k≤d.size ∧ ∀ j,0 < j→j < k→d[j]! ≠ d[j - 1]!) (fun (i:Int)=>(d.size - i).toNat) (1) [(0,0)] [] (⟨1,rfl,by omega,by omega,fun j _ _=>by omega⟩) (by (refine ⟨rfl,rfl,rfl,?_,?_⟩;repeat' first|exact trivial|exact rfl|refine And.intro ?_ ?_|refine ⟨_,rfl,?_⟩|decide)) ?_
 rintro _ ⟨k,rfl,hk0,hk1,hk⟩
 (repeat' ((conv=>whnf);first|refine vA ?_|(refine vF ?_ ?_<;>intro hc<;>try simp only [vL] at hc)|refine vJ fun hg=>?_|(refine vQ ?_ fun x hx=>?_;·omega)|((first|refine vO ?_ ?_|refine vP ?_ ?_);·first|omega|(simp only [vM] at *;omega))|(refine vU ?_ ?_;·kernel_rfl)|fail));all_goals try conv=>whnf
 ·have g1:=arr_eq (arr_at k ‹d.toList[(k:Int).toNat]? = some _› rfl)
  have g2:=arr_eq (arr_at (k - 1) ‹d.toList[((k:Int) - 1).toNat]? = some _› (by omega))
  have hkk:d[k]! = d[k - 1]! := g1.1.trans (‹_=_›.trans g2.1.symm)
  refine loop_mem (fun ((w,q,xs):Int×Int×List D)=>[(0,.own 0),(3,.d (.int .i64 (w))),(4,.view 0 k ((d.toList.map (D.int .i64)).length - k)),(5,.d (.int .i64 (q))),(ghostAt,.own 0)]) (fun ((w,q,xs):Int×Int×List D)=>[(0,some (.row 1 xs))]) 1 (fun ((w,q,xs):Int×Int×List D) => ∃ (a b:Nat) (e:Array Int),w=a∧q=b∧xs=e.toList.map (D.int .i64)∧0 < b∧k+b≤d.size∧a < k+b∧e.size=d.size∧e.toList.take a=ddA d (k+b) ∧ ∀ j,k+b - 1≤j→j < d.size→e[j]! = d[j]!) (fun ((w,q,xs):Int×Int×List D)=>(d.size - k - q).toNat) (((k:Int),(1:Int),d.toList.map (D.int .i64))) [(0,0)] [] (⟨k,1,d,rfl,rfl,rfl,by omega,by omega,by omega,rfl,dd_start hk0 g1.2 hk hkk,fun _ _ _=>rfl⟩) (by (refine ⟨rfl,rfl,rfl,?_,?_⟩;repeat' first|exact trivial|exact rfl|refine And.intro ?_ ?_|refine ⟨_,rfl,?_⟩|decide)) ?_
  rintro ⟨_,_,_⟩ ⟨a,b,e,rfl,rfl,rfl,hb0,hb1,hab,he,ha,hj⟩
  have hle:e.toList.length=e.size:=Array.length_toList
  (repeat' ((conv=>whnf);first|refine vA ?_|((first|refine vD ?_ ?_|refine vF ?_ ?_)<;>intro hc<;>try simp only [vL] at hc)|refine vN ‹_› ?_|(refine vQ ?_ fun x hx=>?_;·omega)|((first|refine vO ?_ ?_|refine vP ?_ ?_);·first|omega|(simp only [vM] at *;omega))|(refine vU ?_ ?_;·kernel_rfl)|fail));all_goals try conv=>whnf
  ·have h1:=arr_eq ‹e.toList[k+((b:Nat):Int).toNat]? = some _›
   have h2:=arr_eq (arr_at (i:=((k+b - 1:Nat):Int)) (k+b - 1) (by rw [← ‹e.toList[k+(((b:Nat):Int) - 1).toNat]? = some _›];congr 1;omega) rfl)
   simp only [Int.toNat_natCast] at h1
   have e1:=hj (k+b) (by omega) (by omega)
   have e2:=hj (k+b - 1) (by omega) (by omega)
   refine ⟨(_,_,_),[(0,0)],[],?_,?_,by (refine ⟨rfl,rfl,rfl,?_,?_⟩;repeat' first|exact trivial|exact rfl|refine And.intro ?_ ?_|refine ⟨_,rfl,?_⟩|decide)⟩
   ·exact ⟨a+1,b+1,e.setIfInBounds a e[k+b]!,by omega,by omega,by rw [h1.1];simp [List.map_set],by omega,by omega,by omega,by simp [he],
     by rw [set_take (by omega),ha,← Nat.add_assoc,dd_add (by rw [← e1,← e2,h1.1,h2.1];assumption),e1],
     fun j h0 h1=>by rw [set_get (by omega)];exact hj j (by omega) h1⟩
   ·((simp only [vM] at *;omega))
  ·have h1:=arr_eq ‹e.toList[k+((b:Nat):Int).toNat]? = some _›
   have h2:=arr_eq (arr_at (i:=((k+b - 1:Nat):Int)) (k+b - 1) (by rw [← ‹e.toList[k+(((b:Nat):Int) - 1).toNat]? = some _›];congr 1;omega) rfl)
   simp only [Int.toNat_natCast] at h1
   have e1:=hj (k+b) (by omega) (by omega)
   have e2:=hj (k+b - 1) (by omega) (by omega)
   refine ⟨(_,_,_),[(0,0)],[],?_,?_,by (refine ⟨rfl,rfl,rfl,?_,?_⟩;repeat' first|exact trivial|exact rfl|refine And.intro ?_ ?_|refine ⟨_,rfl,?_⟩|decide)⟩
   ·exact ⟨a,b+1,e,rfl,by omega,rfl,by omega,by omega,by omega,he,
     by rw [ha,← Nat.add_assoc,dd_keep (by omega) (by rw [← e1,← e2,h1.1,h2.1];assumption)],
     fun j h0 h1=>hj j (by omega) h1⟩
   ·((simp only [vM] at *;omega))
  ·have hE:=cut_row (enc:=(D.int .i64)) (e:=e) (z:=(D.int .i64) 0) (a:=a) (n:=(e.toList.map (D.int .i64)).length - a) (by omega)
   rw [ha,show k+b=d.size by omega,hR] at hE
   subst hE
   refine NeedS.mk (by simp only [List.length_append,List.length_take,List.length_replicate,List.length_drop,List.length_map,hle];omega) ?_
   (repeat' ((conv=>whnf);fail));all_goals try conv=>whnf
   refine ⟨trivial,_,[(1,1)],[],rfl,.inl (by (repeat' exact rfl)),⟨by rfl,by rfl,by rfl,trivial,by (repeat' first|exact trivial|exact rfl|refine And.intro ?_ ?_|refine ⟨_,rfl,?_⟩|exact of_decide_eq_true rfl)⟩,by (repeat' first|exact trivial|refine And.intro ?_ ?_)⟩
 ·refine ⟨_,[(0,0)],[],?_,?_,by (refine ⟨rfl,rfl,rfl,?_,?_⟩;repeat' first|exact trivial|exact rfl|refine And.intro ?_ ?_|refine ⟨_,rfl,?_⟩|decide)⟩
  ·exact ⟨k+1,by omega,by omega,by omega,fun j h0 h1=>by
    by_cases hjk:j=k
    ·subst hjk
     have g1:=arr_eq (arr_at j ‹d.toList[(j:Int).toNat]? = some _› rfl)
     have g2:=arr_eq (arr_at (j - 1) ‹d.toList[((j:Int) - 1).toNat]? = some _› (by omega))
     rw [g1.1,g2.1];assumption
    ·exact hk j h0 (by omega)⟩
  ·(omega)
 ·exact absurd (fun j h0 h1=>hk j h0 (by omega)) hd
end Go.Ab
namespace Go.Ab
open Go Go.Proofs Go.MapKept
set_option linter.unusedVariables false
set_option linter.unusedSimpArgs false
variable {T : Nat → Obj → Prop}
def O2 (base : Nat) (w : World) (v : Value) (g : Nat) (zs : List Int) : Prop := ∃ cap c e, v = .slice (some ⟨g, 0, none⟩) zs.length cap ∧ base ≤ g ∧ w.heap[g]? = some (.cells c e (0, 0)) ∧ zs.length ≤ cap ∧ cap ≤ c.size ∧ zs.length ≤ 536870912 ∧
  ∀ j, j < zs.length → c.getD j undef = .int .i64 (zs.getD j 0)
def rowI (zs : List Int) : Ob := .row 1 (zs.map (D.int .i64))
theorem O2.kept {base : Nat} {w w' : World} {v : Value} {g : Nat} {zs : List Int} (h : O2 base w v g zs) (hg : w'.heap[g]? = w.heap[g]?) : O2 base w' v g zs := by
  obtain ⟨cap, c, e, h1, h2, h3, h4⟩ := h
  exact ⟨cap, c, e, h1, h2, hg.trans h3, h4⟩
def cBase (T : Nat → Obj → Prop) (w : World) (g : Nat) : Base where
  w0 := w
  O := fun b => b < w.heap.size ∧ b ≠ g
  R := fun b => b = g
  nt := 0
  pin := fun b o => T b o ∧ w.heap[b]? = some o ∧ b ≠ g
  pinO := fun b o h => ⟨lt_of_block h.2.1, h.2.2⟩
  ghost := fun _ => undef
  small := Nat.zero_le _
  dfr := []
  inv := fun _ _ _ _ => True
  stab := fun _ _ _ _ _ _ _ _ _ _ _ _ => trivial
  mono := fun _ _ _ _ _ _ _ => trivial
theorem cSim {base : Nat} {w : World} {v : Value} {g : Nat} {zs : List Int} (h : O2 base w v g zs) :
    Sim (cBase T w g) (fun _ => .undef) (memG [some (rowI zs)]) (fun i => 1 ≤ i) (fun _ => some g) ⟨#[], []⟩ w ∧
    VSim (fun _ => some g) (memG [some (rowI zs)]) (fun i => 1 ≤ i) ((cBase T w g).X (fun _ => some g) (memG [some (rowI zs)])) w (.own 0) v := by
  obtain ⟨cap, c, e, rfl, h2, h3, h4, h5, h6, h7⟩ := h
  have hm : ∀ i, memG [some (rowI zs)] i = if i = 0 then some (rowI zs) else none := fun i => by
    match i with
    | 0 => rfl
    | i + 1 => rfl
  have e0 : ∀ i, memG [some (rowI zs)] i ≠ none → i = 0 := fun i hi => by
    rw [hm] at hi
    by_cases h : i = 0
    · exact h
    · rw [if_neg h] at hi; exact absurd rfl hi
  refine ⟨⟨fun t => .undef _, fun id ob hid => ?_, fun i j b hi hj _ _ => by rw [e0 i hi, e0 j hj], fun id b hi hb => ?_, fun id hid => by rw [hm, if_neg (by omega)], ⟨rfl, rfl, rfl, Nat.le_refl _, fun _ _ _ => rfl, fun b c e h => ⟨c, h, rfl⟩⟩, ⟨rfl, rfl⟩, fun b hb => hb.1, fun b o h => h.2.1, fun _ _ _ => trivial⟩, ?_⟩
  · rw [hm] at hid
    by_cases h : id = 0
    · rw [if_pos h] at hid
      cases hid
      refine .row 1 (zs.map (D.int .i64)) g c e rfl h3 (by rw [List.length_map]; omega) (by rw [List.length_map]; omega) (fun x hx => ?_) (fun i j hi hj => ?_)
      · obtain ⟨y, -, rfl⟩ := List.mem_map.1 hx
        rfl
      · rw [List.length_map] at hi
        have : j = 0 := by omega
        subst this
        rw [Nat.mul_one, Nat.add_zero, h7 i hi]
        rw [show (zs.map (D.int .i64)).getD i .nil = .int .i64 (zs.getD i 0) by simp [List.getD, hi]]
        exact .int .i64 _ (by simp)
    · rw [if_neg h] at hid; cases hid
  · cases hb
    exact ⟨fun h => h.2 rfl, .inl rfl⟩
  · have := VSim.own (σ := fun _ => some g) (M := memG [some (rowI zs)]) (F := fun i => 1 ≤ i) (X := (cBase T w g).X (fun _ => some g) (memG [some (rowI zs)])) (w := w) 0 1 (zs.map (D.int .i64)) g cap c e rfl rfl h3 (by rw [List.length_map]; omega) (by omega)
    rwa [List.length_map] at this
theorem kept_grown {w w' : World} {g : Nat} (h : Kept (fun b => b = g) w w') : w.grownBy w' (some g) :=
  ⟨h.os, h.tape, h.output, h.size, fun b hb hne => h.block b hb (fun e => hne (by rw [e]))⟩
theorem row_out {σ : Nat → Option Nat} {M : Nat → Option Ob} {F X : Nat → Prop} {w : World} {id : Nat} {ys : List Int} {v : Value} (hV : VSim σ M F X w (.own id) v) (hO : ObSim σ M F X w id (rowI ys)) (hm : M id = some (rowI ys)) (hl : ys.length ≤ 536870912) (h0 : ys ≠ []) :
    ∃ g, σ id = some g ∧ O2 0 w v g ys := by
  have hlen : (ys.map (D.int .i64)).length = ys.length := List.length_map _
  unfold rowI at hm hO
  have pos : 0 < ys.length := List.length_pos_iff.2 h0
  cases hV with
  | ownDead _ ad l c h1 => rw [hm] at h1; cases h1
  | ownNil _ s h1 => rw [hm] at h1; simp at h1; exact absurd h1.2 h0
  | own _ s xs b cap c e h1 h2 h3 h4 h5 =>
    rw [hm] at h1
    simp only [Option.some.injEq, Ob.row.injEq] at h1
    obtain ⟨rfl, rfl⟩ := h1
    refine ⟨b, h2, cap, c, e, by rw [hlen], Nat.zero_le _, h3, by omega, by omega, hl, fun j hj => ?_⟩
    generalize hxs : ys.map (D.int .i64) = xs at hO hlen
    cases hO with
    | nilrow s h => rw [List.length_nil] at hlen; omega
    | row s xs' b' c' e' g1 g2 g3 g4 g5 g6 =>
      rw [h2] at g1; cases g1
      rw [h3] at g2; cases g2
      have := g6 j 0 (by omega) (by omega)
      rw [Nat.mul_one, Nat.add_zero, ← hxs, show (ys.map (D.int .i64)).getD j .nil = .int .i64 (ys.getD j 0) by simp [List.getD, hj]] at this
      generalize c.getD j undef = z at this ⊢
      cases this; rfl
theorem call_row {f : Nat} {zs ys : List Int} {id : Nat} {obs' : List (Option Ob)} (hf : Fn Tryz.prog T f [.own 0] [rowI zs] (.own id) obs') (hid : memG obs' id = some (rowI ys)) (hl : ys.length ≤ 536870912) (h0 : ys ≠ [])
    {base : Nat} {w : World} {v : Value} {g : Nat} (h : O2 base w v g zs) (hT : ∀ b o, T b o → w.heap[b]? = some o ∧ b ≠ g) (hb : base ≤ w.heap.size) :
    Calls Tryz.prog f #[v] w fun e w' => ∃ v' g', e = .returned v' ∧ O2 base w' v' g' ys ∧ (g' = g ∨ w.heap.size ≤ g') ∧ w.grownBy w' (some g) := by
  obtain ⟨hS, hV⟩ := cSim (T := T) h
  have hbg : base ≤ g := by obtain ⟨_, _, _, _, h2, _⟩ := h; exact h2
  intro cs
  obtain ⟨v', w', σ', ⟨fr, hc, hfn, hlk⟩, hS', hV', -⟩ := hf.2 (cBase T w g) (fun _ => some g) ⟨#[], []⟩ w #[v] (fun b o ht => ⟨ht, hT b o ht⟩) (fun _ _ _ _ => trivial) hS rfl (fun i hi => by
    match i, hi with
    | 0, _ => exact hV) cs
  obtain ⟨g', hg', cap, c, e, q1, -, q2⟩ := row_out hV' (hS'.mem id _ hid) hid hl h0
  have hmine := (hS'.mine id g' (by rw [hid]; simp) hg').2
  refine ⟨.returned v', w', fr, ⟨v', g', rfl, ⟨cap, c, e, q1, ?_, q2⟩, hmine, kept_grown hS'.kept⟩, hc, hfn, hlk⟩
  rcases hmine with rfl | h
  · exact hbg
  · exact Nat.le_trans hb h
theorem call_sort {f : Nat} {zs ys : List Int} (hf : Fn Tryz.prog T f [.own 0] [rowI zs] (.tup []) [some (rowI ys)]) (hl : ys.length = zs.length) (h0 : ys ≠ [])
    {base : Nat} {w : World} {v : Value} {g : Nat} (h : O2 base w v g zs) (hT : ∀ b o, T b o → w.heap[b]? = some o ∧ b ≠ g) :
    Calls Tryz.prog f #[v] w fun e w' => e = .returned (.tuple #[]) ∧ O2 base w' v g ys ∧ w.grownBy w' (some g) := by
  obtain ⟨hS, hV⟩ := cSim (T := T) h
  intro cs
  obtain ⟨v', w', σ', ⟨fr, hc, hfn, hlk⟩, hS', hV', hK⟩ := hf.2 (cBase T w g) (fun _ => some g) ⟨#[], []⟩ w #[v] (fun b o ht => ⟨ht, hT b o ht⟩) (fun _ _ _ _ => trivial) hS rfl (fun i hi => by
    match i, hi with
    | 0, _ => exact hV) cs
  obtain ⟨cap, c, e, q1, q2, q3, q4, q5, q6, q7⟩ := h
  have hv : v' = .tuple #[] := by
    cases hV' with
    | tup cs vs h1 h2 =>
      have : vs = #[] := Array.eq_empty_of_size_eq_zero (by simpa using h1.symm)
      rw [this]
  have hσ : σ' 0 = some g := by
    rcases hK 0 _ rfl with h1 | ⟨h1, -⟩
    · cases h1
    · exact h1
  obtain ⟨c', k1, k2⟩ := hS'.kept.cells g c e q3
  refine ⟨.returned v', w', fr, ⟨by rw [hv], ⟨cap, c', e, by rw [hl]; exact q1, q2, k1, by omega, by omega, by omega, fun j hj => ?_⟩, kept_grown hS'.kept⟩, hc, hfn, hlk⟩
  have hO := hS'.mem 0 (rowI ys) rfl
  unfold rowI at hO
  have hlen : (ys.map (D.int .i64)).length = ys.length := List.length_map _
  generalize hxs : ys.map (D.int .i64) = xs at hO hlen
  cases hO with
  | nilrow s h => rw [List.length_nil] at hlen; omega
  | row s xs' b' c'' e' g1 g2 g3 g4 g5 g6 =>
    rw [hσ] at g1; cases g1
    rw [k1] at g2; cases g2
    have := g6 j 0 (by omega) (by omega)
    rw [Nat.mul_one, Nat.add_zero, ← hxs, show (ys.map (D.int .i64)).getD j .nil = .int .i64 (ys.getD j 0) by simp [List.getD, hj]] at this
    generalize c'.getD j undef = z at this ⊢
    cases this; rfl
end Go.Ab
