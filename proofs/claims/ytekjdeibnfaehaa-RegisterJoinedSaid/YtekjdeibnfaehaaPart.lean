/- Plain facts: parts of a register, joined and added in any order. No program. -/
import Derived.Test.YtekjdeibnfaehaaAdd
import Derived.Test.YtekjdeibnfaehaaPow
import Derived.Test.YtekjdeibnfaehaaJoinP
set_option linter.unusedSimpArgs false
set_option linter.unusedVariables false
namespace Go.Proofs.Ytekjdeibnfaehaa

theorem aheadB_irrefl (a : Rec) : aheadB a a = false := ltP_irrefl _ _
theorem aheadB_not {a b : Rec} (h : aheadB a b = true) (h' : aheadB b a = true) : False := by
  have := ltP_asymm h
  unfold aheadB at h'
  rw [h'] at this
  cases this
/-- In order, with the same records: the same. -/
theorem sorted_ext : ∀ {x y : List Rec}, Sorted x → Sorted y → (∀ r, r ∈ x ↔ r ∈ y) → x = y
  | [], [], _, _, _ => rfl
  | [], b :: y, _, _, h => by have := (h b).2 (by simp); cases this
  | a :: x, [], _, _, h => by have := (h a).1 (by simp); cases this
  | a :: x, b :: y, hx, hy, h => by
    obtain ⟨hx1, hx2⟩ := List.pairwise_cons.1 hx
    obtain ⟨hy1, hy2⟩ := List.pairwise_cons.1 hy
    have e : a = b := by
      rcases List.mem_cons.1 ((h a).1 (by simp)) with h1 | h1
      · exact h1
      · rcases List.mem_cons.1 ((h b).2 (by simp)) with h2 | h2
        · exact h2.symm
        · exact (aheadB_not (hy1 a h1) (hx1 b h2)).elim
    subst e
    have key : ∀ r, r ∈ x ↔ r ∈ y := by
      intro r
      constructor
      · intro hr
        rcases List.mem_cons.1 ((h r).1 (by simp [hr])) with h1 | h1
        · subst h1
          have := hx1 r hr
          rw [aheadB_irrefl] at this
          cases this
        · exact h1
      · intro hr
        rcases List.mem_cons.1 ((h r).2 (by simp [hr])) with h1 | h1
        · subst h1
          have := hy1 r hr
          rw [aheadB_irrefl] at this
          cases this
        · exact h1
    rw [sorted_ext hx2 hy2 key]
/-- A part of a register. -/
structure Part (g x : List Rec) : Prop where
  sorted : Sorted x
  sub : ∀ r ∈ x, r ∈ g
theorem Part.of_sub {g x : List Rec} (hg : Sorted g) (h : x.Sublist g) : Part g x := ⟨List.Pairwise.sublist h hg, fun _ hr => h.subset hr⟩
theorem hasR_mem {x : List Rec} {r : Rec} (h : r ∈ x) : hasR x r.ao r.sq = true := List.any_eq_true.2 ⟨r, h, by simp [atB]⟩
theorem Part.mem {g x : List Rec} (hg : Sorted g) (h : Part g x) {r : Rec} (hr : r ∈ g) : hasR x r.ao r.sq = true ↔ r ∈ x := by
  constructor
  · intro hh
    obtain ⟨y, hy, ha⟩ := List.any_eq_true.1 hh
    simp only [atB, Bool.and_eq_true, decide_eq_true_eq] at ha
    have := apart_unique (sorted_apart hg) (h.sub y hy) hr ha.1 ha.2
    rwa [← this]
  · exact hasR_mem
theorem Part.eq {g x : List Rec} (hg : Sorted g) (h : Part g x) : x = g.filter fun r => hasR x r.ao r.sq := by
  refine sorted_ext h.sorted (hg.filter _) fun r => ?_
  rw [List.mem_filter]
  constructor
  · intro hr
    exact ⟨h.sub r hr, hasR_mem hr⟩
  · rintro ⟨h1, h2⟩
    exact (h.mem hg h1).1 h2
theorem Part.len {g x : List Rec} (hg : Sorted g) (h : Part g x) : x.length ≤ g.length := by
  rw [h.eq hg]
  exact List.length_filter_le _ _
theorem Part.check {g x : List Rec} (hc : checkB g = true) (h : Part g x) : checkB x = true := by
  obtain ⟨h1, h2, h3⟩ := checkB_iff.1 hc
  exact checkB_iff.2 ⟨Nat.le_trans (h.len h3) h1, fun r hr => h2 r (h.sub r hr), h.sorted⟩
theorem Part.find {g x : List Rec} (hg : Sorted g) (h : Part g x) {r : Rec} (hr : r ∈ g) : findR x r.ao r.sq = if hasR x r.ao r.sq = true then some r else none := by
  split
  · rename_i hh
    obtain ⟨hi, ha⟩ := (hasR_pos h.sorted _ _).1 hh
    rw [findR_some h.sorted hi ha]
    simp only [atB, Bool.and_eq_true, decide_eq_true_eq] at ha
    rw [apart_unique (sorted_apart hg) (h.sub _ (List.getElem_mem hi)) hr ha.1 ha.2]
  · rename_i hh
    exact findR_none (eq_false_of_ne_true hh)
theorem Part.clash {g a b : List Rec} (hg : Sorted g) (ha : Part g a) (hb : Part g b) : b.any (clashR a) = false := by
  rw [List.any_eq_false]
  intro r hr
  have hf := ha.find hg (hb.sub r hr)
  unfold clashR
  rw [hf]
  split
  · rename_i x hx
    split at hx
    · cases hx
      rw [recEqB_iff.2 rfl]
      simp
    · cases hx
  · simp
/-- Two parts joined. -/
theorem Part.join {g a b : List Rec} (hc : checkB g = true) (ha : Part g a) (hb : Part g b) : joinE a b = 0 ∧ Part g (joinL a b) ∧ ∀ r, r ∈ joinL a b ↔ r ∈ a ∨ r ∈ b := by
  obtain ⟨h1, h2, h3⟩ := checkB_iff.1 hc
  have hm : ∀ r, r ∈ mergeL a b ↔ r ∈ a ∨ r ∈ b := by
    intro r
    rw [(merge_perm a b).mem_iff, List.mem_append, newL, List.mem_filter]
    constructor
    · rintro (h | h)
      · exact .inl h
      · exact .inr h.1
    · rintro (h | h)
      · exact .inl h
      · cases hh : hasR a r.ao r.sq with
        | true => exact .inl ((ha.mem h3 (hb.sub r h)).1 hh)
        | false => exact .inr ⟨h, rfl⟩
  have hp : Part g (mergeL a b) := ⟨merge_sorted ha.sorted hb.sorted, fun r hr => by
    rcases (hm r).1 hr with h | h
    · exact ha.sub r h
    · exact hb.sub r h⟩
  have hl := hp.len h3
  have he := joinE_ok (ha.check hc) (hb.check hc) (Part.clash h3 ha hb) (by omega)
  rw [joinL_ok he]
  exact ⟨he, hp, hm⟩
theorem add_new {l : List Rec} (hc : checkB l = true) {r : Rec} (hk : recOk r = true) (hh : hasR l r.ao r.sq = false) (h8 : l.length < 80) : addE l r = 0 ∧ addL l r = insR l r := by
  rw [addE_ok hc hk, addL_ok hc hk, putE_new (findR_none hh), putL_new (findR_none hh), if_neg (by omega), if_neg (by omega)]
  exact ⟨rfl, rfl⟩
/-- A record of the register added. -/
theorem Part.add {g x : List Rec} (hc : checkB g = true) (hs : g.length < 80) (h : Part g x) {r : Rec} (hr : r ∈ g) : addE x r = 0 ∧ Part g (addL x r) ∧ ∀ s, s ∈ addL x r ↔ s = r ∨ s ∈ x := by
  obtain ⟨h1, h2, h3⟩ := checkB_iff.1 hc
  have hx := h.check hc
  have hl := h.len h3
  have hf := h.find h3 hr
  cases hh : hasR x r.ao r.sq with
  | true =>
    rw [hh, if_pos rfl] at hf
    have hm := (h.mem h3 hr).1 hh
    rw [addE_ok hx (h2 r hr), addL_ok hx (h2 r hr), putE_hit hf, putL_hit hf, if_pos (recEqB_iff.2 rfl), if_pos (recEqB_iff.2 rfl)]
    refine ⟨rfl, h, fun s => ⟨.inr, ?_⟩⟩
    rintro (rfl | h)
    · exact hm
    · exact h
  | false =>
    obtain ⟨e1, e2⟩ := add_new hx (h2 r hr) hh (by omega)
    rw [e1, e2]
    have hm : ∀ s, s ∈ insR x r ↔ s = r ∨ s ∈ x := fun s => by rw [(insR_perm x r).mem_iff, List.mem_cons]
    refine ⟨rfl, ⟨insR_sorted h.sorted hh, fun s hs => ?_⟩, hm⟩
    rcases (hm s).1 hs with rfl | h4
    · exact hr
    · exact h.sub s h4
theorem Part.full {g x : List Rec} (hg : Sorted g) (h : Part g x) (ha : ∀ r ∈ g, r ∈ x) : x = g := sorted_ext h.sorted hg fun r => ⟨h.sub r, ha r⟩
theorem Part.self {g : List Rec} (hg : Sorted g) : Part g g := ⟨hg, fun _ h => h⟩
/-- The laws of joining. -/
theorem Part.laws {g a b c : List Rec} (hc : checkB g = true) (ha : Part g a) (hb : Part g b) (hcc : Part g c) :
    joinL a b = joinL b a ∧ joinL (joinL a b) c = joinL a (joinL b c) ∧ joinL a a = a ∧ joinL (joinL (joinL a b) c) g = g := by
  obtain ⟨_, _, h3⟩ := checkB_iff.1 hc
  obtain ⟨-, p1, m1⟩ := ha.join hc hb
  obtain ⟨-, p2, m2⟩ := hb.join hc ha
  obtain ⟨-, p3, m3⟩ := hb.join hc hcc
  obtain ⟨-, p4, m4⟩ := p1.join hc hcc
  obtain ⟨-, p5, m5⟩ := ha.join hc p3
  obtain ⟨-, p6, m6⟩ := ha.join hc ha
  obtain ⟨-, p7, m7⟩ := p4.join hc (Part.self h3)
  refine ⟨?_, ?_, ?_, ?_⟩
  · exact sorted_ext p1.sorted p2.sorted fun r => by rw [m1, m2]; exact or_comm
  · exact sorted_ext p4.sorted p5.sorted fun r => by rw [m4, m1, m5, m3]; exact or_assoc
  · exact sorted_ext p6.sorted ha.sorted fun r => by rw [m6]; exact or_self_iff
  · exact p7.full h3 fun r hr => (m7 r).2 (.inr hr)
end Go.Proofs.Ytekjdeibnfaehaa
