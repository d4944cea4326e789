/- Plain facts: what stands, and what is told, behind withdrawals of withdrawals. No program. -/
import Derived.Test.YtekjdeibnfaehaaWdP
set_option linter.unusedSimpArgs false
set_option linter.unusedVariables false
namespace Go.Proofs.Ytekjdeibnfaehaa

theorem known_wd {g a b : List Rec} {p s0 : Int} (h : OffParts g a b p s0) (s day : Int) (k : Nat) : knownL (a ++ wdL p s s0 day k ++ b) day = knownL g day := by
  have hw : (wdL p s s0 day k).filter (fun r => decide (r.known ≤ day)) = [] := by
    rw [List.filter_eq_nil_iff]
    intro x hx
    have := wdL_mem hx
    simp
    omega
  rw [h.eq]
  unfold knownL
  rw [List.filter_append, List.filter_append, List.filter_append, hw, List.append_nil]
theorem posR_wd {g a b : List Rec} {p s s0 day : Int} (h : OffParts g a b p s0) (hs : s < s0) (k : Nat) : posR (a ++ wdL p s s0 day k ++ b) p s = posR a p s := by
  have hw : (wdL p s s0 day k).countP (fun r => ltP r.ao r.sq p s) = 0 := by
    rw [List.countP_eq_zero]
    intro x hx
    have := wdL_mem hx
    rw [ltP_iff]
    omega
  have hb : b.countP (fun r => ltP r.ao r.sq p s) = 0 := by
    rw [List.countP_eq_zero]
    intro x hx
    have := h.high x hx
    rw [ltP_iff]
    omega
  unfold posR
  rw [List.countP_append, List.countP_append, hw, hb]
  rfl
structure WdOk (g x : List Rec) (r : Rec) (day : Int) (k : Nat) : Prop where
  check : checkB x = true
  has : hasR x r.ao r.sq = true
  stands : standsB x r.ao r.sq = if k % 2 = 1 then decide (r.kind = 1) else standsB g r.ao r.sq
  tells : ∀ ship, standingE x ship day = standingE g ship day ∧ standingR x ship day = standingR g ship day
theorem stands_get {l : List Rec} (hc : checkB l = true) {o s : Int} (hh : hasR l o s = true) : standsE l o s = 0 ∧ standsB l o s = (standL l).getD (posR l o s) false := by
  have : standsE l o s = 0 := by rw [standsE, if_pos hc, if_pos hh]
  exact ⟨this, by rw [standsB, if_pos this]⟩
theorem wd_ok {g : List Rec} {m : Nat} (hg : RegN g m) (hm : m ≤ 60) {r : Rec} (hr : r ∈ g) {day : Int} (d0 : 0 ≤ day) (d1 : day ≤ 1000) {k : Nat} (hk : k ≤ 3) : WdOk g (wdN g r.ao r.sq day k).1 r day k := by
  have hro := recNum_of (hg.ok r hr)
  have hgt := nextN_gt hg.sorted r.ao r hr rfl
  have hpl : 0 ≤ r.ao ∧ r.ao ≤ 8 ∧ 0 ≤ r.sq := by
    have := hg.ok r hr
    simp only [recOk, isPlaceB, Bool.and_eq_true, inB_spec] at this
    omega
  obtain ⟨a, b, hp⟩ := parts_of hg.sorted r.ao
  have hx := hp.wd rfl r.sq day k
  obtain ⟨hR, -, -⟩ := wd_all hg (by omega) hpl.1 hpl.2.1 hpl.2.2 hgt d0 d1 k (by omega)
  rw [hx] at hR ⊢
  have hcx := hR.check (by omega)
  have hcg := hg.check (by omega)
  have hra : r ∈ a := by
    have h2 := hr
    rw [hp.eq] at h2
    rcases List.mem_append.1 h2 with h | h
    · exact h
    · exact absurd (hp.high r h) (by omega)
  have hat : atB r r.ao r.sq = true := by simp [atB]
  have hhx : hasR (a ++ wdL r.ao r.sq (nextN g r.ao) day k ++ b) r.ao r.sq = true := List.any_eq_true.2 ⟨r, by simp [hra], hat⟩
  have hhg : hasR g r.ao r.sq = true := List.any_eq_true.2 ⟨r, hr, hat⟩
  have hsg := hg.sorted
  rw [hp.eq] at hsg
  have hsa : Sorted a := (List.pairwise_append.1 hsg).1
  obtain ⟨hi, hai⟩ := (hasR_pos hsa r.ao r.sq).1 (List.any_eq_true.2 ⟨r, hra, hat⟩)
  simp only [atB, Bool.and_eq_true, decide_eq_true_eq] at hai
  have har : a[posR a r.ao r.sq] = r := apart_unique (sorted_apart hsa) (List.getElem_mem hi) hra hai.1 hai.2
  have hokb : ∀ x ∈ b, recOk x = true := fun x hx => hg.ok x (by rw [hp.eq]; simp [hx])
  obtain ⟨G0, G1, G2, G3⟩ := gone_wd (s := r.sq) (s0 := nextN g r.ao) (day := day) hp.high hokb
  refine ⟨hcx, hhx, ?_, fun ship => ?_⟩
  · rw [(stands_get hcx hhx).2, (stands_get hcg hhg).2]
    have hpx := posR_wd (s := r.sq) (day := day) hp hgt k
    have hpg : posR g r.ao r.sq = posR a r.ao r.sq := by
      have := posR_wd (s := r.sq) (day := day) hp hgt 0
      rw [show a ++ wdL r.ao r.sq (nextN g r.ao) day 0 ++ b = g by rw [hp.eq]; simp [wdL]] at this
      exact this
    have hlen : ∀ G, posR a r.ao r.sq < (standA a G).length := fun G => by rw [standA_length]; exact hi
    have key : ∀ G l, (standA a G ++ l).getD (posR a r.ao r.sq) false = (standA a G).getD (posR a r.ao r.sq) false := fun G l => by
      rw [List.getD_eq_getElem?_getD, List.getElem?_append_left (hlen G), ← List.getD_eq_getElem?_getD]
    have hev : standL g = standA a (goneL b) ++ standL b := by rw [hp.eq, stand_append]
    rw [hpx, hpg, hev, List.append_assoc, stand_append, key, key]
    have hone : ∀ G, G.contains (r.ao, r.sq) = true → (standA a G).getD (posR a r.ao r.sq) false = decide (r.kind = 1) := fun G hG => by
      rw [List.getD_eq_getElem?_getD, standA_get hi (by rw [har]; exact hG), har]
      rfl
    match k, hk with
    | 0, _ => rw [G0]; rfl
    | 1, _ => rw [G1, hone _ (by simp)]; rfl
    | 2, _ =>
      rw [G2, (stand_same (Q := fun q => q ≠ (r.ao, nextN g r.ao)) (G' := goneL b) (fun q hq => by
        rw [List.contains_cons]
        have : (q == (r.ao, nextN g r.ao)) = false := by simpa using hq
        rw [this, Bool.false_or]) a fun x hx h => by
          have := hp.low x hx
          rw [ltP_iff] at this
          injection h with h1 h2
          omega).1]
      rfl
    | 3, _ => rw [G3, hone _ (by simp)]; rfl
  · have hkn := known_wd hp r.sq day k
    have hE : standingE (a ++ wdL r.ao r.sq (nextN g r.ao) day k ++ b) ship day = standingE g ship day := by
      rw [standingE, standingE, hcx, hcg]
    refine ⟨hE, ?_⟩
    rw [standingR, standingR, hE, standingL, standingL, hkn]
theorem next_of {l : List Rec} (hc : checkB l = true) {o : Int} (h0 : 0 ≤ o) (h1 : o ≤ 8) : nextI l o = nextN l o := by
  rw [nextI, if_pos hc, if_pos (inB_spec.2 ⟨h0, h1⟩)]
theorem add_of {l : List Rec} (hc : checkB l = true) {r : Rec} (hk : recOk r = true) (hh : hasR l r.ao r.sq = false) (h8 : l.length < 80) : addE l r = 0 ∧ addL l r = insR l r := by
  rw [addE_ok hc hk, addL_ok hc hk, putE_new (findR_none hh), putL_new (findR_none hh), if_neg (by omega), if_neg (by omega)]
  exact ⟨rfl, rfl⟩
end Go.Proofs.Ytekjdeibnfaehaa
