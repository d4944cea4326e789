/- Plain facts: an opened drive opens again alike. No program. -/
import Derived.Test.YtekjdeibnfaehaaGreatPow
set_option linter.unusedSimpArgs false
set_option linter.unusedVariables false
namespace Go.Proofs.YtekjdeibnfaehaaGreat

theorem at_cases {D : DriveD} (h : 0 ≤ atI D) : (atI D = 0 ∨ atI D = 1) ∧ pageOk (bestB D) = true := by
  unfold bestB
  unfold atI at h ⊢
  split
  · rename_i h1
    exact ⟨.inr rfl, h1.1⟩
  · rename_i h1
    rw [if_neg h1] at h
    split
    · rename_i h2
      exact ⟨.inl rfl, h2⟩
    · rename_i h2
      rw [if_neg h2] at h
      omega
theorem drive_ext {a b : DriveD} {i : Int} (hi : i = 0 ∨ i = 1) (h : fileAt a i = fileAt b i) (h' : fileAt a (1 - i) = fileAt b (1 - i)) : a = b := by
  obtain ⟨a0, a1⟩ := a
  obtain ⟨b0, b1⟩ := b
  rcases hi with rfl | rfl
  · have h1 : a0 = b0 := h
    have h2 : a1 = b1 := h'
    rw [h1, h2]
  · have h1 : a1 = b1 := h
    have h2 : a0 = b0 := h'
    rw [h1, h2]
theorem open_jour {D : DriveD} (h : openE D = 0) : ∃ l cnt, Jour (openD D) (openM D) l l.length cnt := by
  have hD : openD D = withFile noDrive (atI D) ⟨(bestB D).take (longB (bestB D)), longB (bestB D)⟩ := by rw [openD, if_pos h]
  have hM : openM D = ⟨ordL (recsB (bestB D)), atI D, genB (bestB D)⟩ := by rw [openM, if_pos h]
  have h2 : 0 ≤ atI D ∧ regOk (recsB (bestB D)) = true := by
    unfold openE at h
    split at h
    · split at h
      · assumption
      · exact absurd h (by decide)
    · exact absurd h (by decide)
  obtain ⟨hat, hp⟩ := at_cases h2.1
  have hr := h2.2
  simp only [regOk, Bool.and_eq_true, decide_eq_true_eq] at hr
  have hpg := hp
  simp only [pageOk, Bool.and_eq_true, decide_eq_true_eq, inB_spec] at hpg
  have hw := written_take (isHead_of_page hp)
  have hcb := cntB_bound (bestB D)
  refine ⟨recsB (bestB D), cntB (bestB D), ?_⟩
  rw [hD, hM]
  exact {
    ok := framesL_ok _, apart := hr.2, few := hr.1.1, le := Nat.le_refl _, c0 := hcb.1, c1 := hpg.2, file := hat, g0 := hpg.1.2.1, g1 := hpg.1.2.2, recs := rfl
    this := by
      simp only
      rw [fileAt_with _ hat, List.take_length, hw, List.length_take, Nat.min_eq_left (longB_le (isHead_of_page hp))]
    other := by
      simp only
      rw [fileAt_with' _ hat, fileAt_none] }
theorem Jour.same {a b : DriveD} {m : MemD} {l : List Rec} {k : Nat} {cnt : Int} (h : Jour a m l k cnt) (h' : Jour b m l k cnt) : a = b :=
  drive_ext h.file (h.this.trans h'.this.symm) (h.other.trans h'.other.symm)
/-- An opened drive, and what a failure leaves of it, open again alike. -/
theorem open_again {D : DriveD} (h : openE D = 0) (n n' : Int) : openE (crashD (openD D) n n') = 0 ∧ openD (crashD (openD D) n n') = openD D ∧ openM (crashD (openD D) n n') = openM D := by
  obtain ⟨l, cnt, hj⟩ := open_jour h
  obtain ⟨j, h1, h2, he, hM, hJ⟩ := hj.crash n n'
  have hl : l.take j = l := List.take_of_length_le h1
  have hjl : j = l.length := by omega
  subst hjl
  rw [hl] at hM hJ
  have hm : openM (crashD (openD D) n n') = openM D := by
    rw [hM, ← hj.recs]
  rw [hm] at hJ
  exact ⟨he, hJ.same hj, hm⟩
end Go.Proofs.YtekjdeibnfaehaaGreat
