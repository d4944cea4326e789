/- Plain facts: joining: what it comes to, from step to step. No program. -/
import Derived.Test.YtekjdeibnfaehaaSort
set_option linter.unusedSimpArgs false
set_option linter.unusedVariables false
namespace Go.Proofs.Ytekjdeibnfaehaa
open Go.RowKit

theorem joinE_left {a b : List Rec} (h : checkB a = false) : joinE a b = 71 := by simp [joinE, h]
theorem joinE_right {a b : List Rec} (h : checkB b = false) : joinE a b = 71 := by simp [joinE, h]
theorem joinE_two {a b : List Rec} (h : checkB a = true) (h' : checkB b = true) (hc : b.any (clashR a) = true) : joinE a b = 72 := by simp only [joinE, h, h', hc, and_self, if_true]
theorem joinE_long {a b : List Rec} (h : checkB a = true) (h' : checkB b = true) (hc : b.any (clashR a) = false) (h8 : 80 < (mergeL a b).length) : joinE a b = 2 := by
  simp only [joinE, h, h', hc, and_self, if_true, h8]; rfl
theorem joinE_ok {a b : List Rec} (h : checkB a = true) (h' : checkB b = true) (hc : b.any (clashR a) = false) (h8 : ¬ 80 < (mergeL a b).length) : joinE a b = 0 := by
  simp only [joinE, h, h', hc, and_self, if_true, if_neg h8]; rfl
theorem joinL_err {a b : List Rec} {e : Int} (h : joinE a b = e) (he : e ≠ 0) : joinL a b = [] := by rw [joinL, if_neg (by rw [h]; exact he)]
theorem joinL_ok {a b : List Rec} (h : joinE a b = 0) : joinL a b = mergeL a b := by rw [joinL, if_pos h]
theorem merge_check {a b : List Rec} (ha : checkB a = true) (hb : checkB b = true) (h8 : (mergeL a b).length ≤ 80) : checkB (mergeL a b) = true := by
  obtain ⟨_, h2, h3⟩ := checkB_iff.1 ha
  obtain ⟨_, h5, h6⟩ := checkB_iff.1 hb
  refine checkB_iff.2 ⟨h8, fun r hr => ?_, merge_sorted h3 h6⟩
  rcases List.mem_append.1 ((merge_perm a b).mem_iff.1 hr) with h | h
  · exact h2 r h
  · exact h5 r (List.mem_filter.1 h).1
/-- What is put in order is what one record after another brings. -/
theorem merge_unique {a b m : List Rec} (ha : checkB a = true) (hb : checkB b = true) (h8 : (mergeL a b).length ≤ 80) (hp : m.Perm (a ++ newL a b)) (hw : m.Pairwise fun x y => ¬(cmpP y.ao y.sq x.ao x.sq < 0)) : m = mergeL a b := by
  have hm := merge_check ha hb h8
  have h2 : m.Perm (mergeL a b) := hp.trans (merge_perm a b).symm
  have h3 : checkB m = regOk (mergeL a b) := checkB_of_order h2 hw
  rw [regOk_of_check hm] at h3
  rw [ordL_of_order h2 h3, ← ordL_of_order (List.Perm.refl (mergeL a b)) hm]
theorem any_take_succ {α : Type} (f : α → Bool) (l : List α) {k : Nat} (hk : k < l.length) : (l.take (k + 1)).any f = ((l.take k).any f || f l[k]) := by
  rw [List.take_succ_eq_append_getElem hk, List.any_append]
  simp
theorem any_of_get {α : Type} (f : α → Bool) (l : List α) {k : Nat} (hk : k < l.length) (h : f l[k] = true) : l.any f = true := List.any_eq_true.2 ⟨_, List.getElem_mem hk, h⟩
theorem newL_len (a b : List Rec) (k : Nat) : (newL a (b.take k)).length ≤ b.length := by
  refine Nat.le_trans (List.length_filter_le _ _) ?_
  rw [List.length_take]
  exact Nat.min_le_right _ _
theorem mergeL_zero (a b : List Rec) : mergeL a (b.take 0) = a := by simp [mergeL, newL]
theorem newL_zero (a b : List Rec) : newL a (b.take 0) = [] := by simp [newL]
end Go.Proofs.Ytekjdeibnfaehaa
