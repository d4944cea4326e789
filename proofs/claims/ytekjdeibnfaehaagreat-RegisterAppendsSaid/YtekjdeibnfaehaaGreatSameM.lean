/- Equal memories. -/
import Derived.Test.YtekjdeibnfaehaaGreatAnc
import Derived.Test.YtekjdeibnfaehaaGreatActs
set_option linter.unusedSimpArgs false
set_option linter.unusedVariables false
namespace Go.Proofs.YtekjdeibnfaehaaGreat
open Go Go.RowKit

set_option maxRecDepth 100000 in
set_option maxHeartbeats 4000000 in
theorem SameMemory_any (A B : Option Addr) (n c m d : Nat) (f g f' g' : Int) (l l' : List Rec) (hn : l.length = n) (hm : l'.length = m) (hbig : n ≤ 9223372036854775807) (w : World) (hr : Recs w A l) (hs : Recs w B l') :
    Calls Tryz.prog 17 #[memV A n c f g, memV B m d f' g'] w fun e w' => e = .returned (.bool (memEqB ⟨l, f, g⟩ ⟨l', f', g'⟩)) ∧ Ext w w' := by
  have HM : Hid (memEqB ⟨l, f, g⟩ ⟨l', f', g'⟩ = (decide (f = f') && (decide (g = g') && recsEqB l l'))) := hid rfl
  by_cases h1 : f = f'
  · by_cases h2 : g = g'
    · subst h1 h2
      have HE : Hid (memEqB ⟨l, f, g⟩ ⟨l', f, g⟩ = recsEqB l l') := hid (by rw [HM.out]; simp)
      clear HM
      go_enter Tryz.func17, Tryz.ntmps17
      go_wp2_with (go_at_call 53; refine (Same_any _ _ _ _ _ _ l l' hn hm hbig _ (by with_reducible repeat (first | assumption | apply Recs.ext | apply Recs.alloc | apply Recs.drew | (refine Recs.of_ext ?_ (by assumption)))) (by with_reducible repeat (first | assumption | apply Recs.ext | apply Recs.alloc | apply Recs.drew | (refine Recs.of_ext ?_ (by assumption))))).mono ?_; rintro e w1 ⟨rfl, E1, d1, rfl⟩)
      go_ret
      exact ⟨ret_val (by rw [HE.out]; rfl), (by repeat (first | (with_reducible first | exact Ext.refl _ | exact Ext.same _ _ _ _ | assumption | apply Ext.alloc | apply Ext.ext | apply Ext.drew) | (with_reducible refine Ext.setCell ?_ _ _ ?_; rotate_left; focus (first | omega | (simp only [zs1, zs2, zs3, size_ext]; omega)))))⟩
    · have b1 : (f == f') = true := by simpa using h1
      have b2 : (g == g') = false := by simpa using h2
      have HE : Hid (memEqB ⟨l, f, g⟩ ⟨l', f', g'⟩ = false) := hid (by rw [HM.out]; simp [h2])
      clear h1 HM
      go_enter Tryz.func17, Tryz.ntmps17
      go_wp2_with fail
      go_ret
      exact ⟨ret_val (by rw [HE.out]; rfl), (by repeat (first | (with_reducible first | exact Ext.refl _ | exact Ext.same _ _ _ _ | assumption | apply Ext.alloc | apply Ext.ext | apply Ext.drew) | (with_reducible refine Ext.setCell ?_ _ _ ?_; rotate_left; focus (first | omega | (simp only [zs1, zs2, zs3, size_ext]; omega)))))⟩
  · have b1 : (f == f') = false := by simpa using h1
    have HE : Hid (memEqB ⟨l, f, g⟩ ⟨l', f', g'⟩ = false) := hid (by rw [HM.out]; simp [h1])
    clear HM
    go_enter Tryz.func17, Tryz.ntmps17
    go_wp2_with fail
    go_ret
    exact ⟨ret_val (by rw [HE.out]; rfl), (by repeat (first | (with_reducible first | exact Ext.refl _ | exact Ext.same _ _ _ _ | assumption | apply Ext.alloc | apply Ext.ext | apply Ext.drew) | (with_reducible refine Ext.setCell ?_ _ _ ?_; rotate_left; focus (first | omega | (simp only [zs1, zs2, zs3, size_ext]; omega)))))⟩
theorem openM_few (D : DriveD) : (openM D).recs.length ≤ 80 := by
  unfold openM
  split
  · rename_i h
    unfold openE at h
    split at h
    · split at h
      · rename_i h2
        have := h2.2
        simp only [regOk, Bool.and_eq_true, decide_eq_true_eq] at this
        show (ordL _).length ≤ 80
        rw [(ordL_perm _).length_eq]
        exact this.1.1
      · exact absurd h (by decide)
    · exact absurd h (by decide)
  · exact Nat.zero_le _
end Go.Proofs.YtekjdeibnfaehaaGreat
