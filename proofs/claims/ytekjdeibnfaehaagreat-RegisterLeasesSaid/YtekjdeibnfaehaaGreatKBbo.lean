/- Texts of a proof. -/
import Derived.Test.YtekjdeibnfaehaaGreatKBbd
import Derived.Test.YtekjdeibnfaehaaGreatKBbn
/- Leases of offices: what holds of them. No program. -/
set_option linter.unusedSimpArgs false
set_option linter.unusedVariables false
namespace Go.Proofs.YtekjdeibnfaehaaGreat
open Go Go.RowKit

/-- Leases that were given. -/
structure Given (G : Gh) (gv : List Rec) : Prop where
  nd : gv.Nodup
  k : ∀ x ∈ gv, x.kind = 1 ∧ 0 ≤ x.ao ∧ x.ao < 4 ∧ x ∈ firmL G x.ao ∧ homeI x.ship = x.ao
section
variable {n : Nat} {W : WD} {G G' : Gh} {gv : List Rec}
theorem Given.none (G : Gh) : Given G [] := ⟨List.nodup_nil, fun x hx => absurd hx List.not_mem_nil⟩
theorem Given.grows (h : Given G gv) (g : Grows G G') : Given G' gv := ⟨h.nd, fun x hx => by
  obtain ⟨h1, h2, h3, h4, h5⟩ := h.k x hx
  exact ⟨h1, h2, h3, g _ _ h4, h5⟩⟩
theorem WI.lease (h : WI n W G) {p : Nat} (hp : p < 4) {r : Rec} (hr : r ∈ (W.off p).m.recs) (hk : r.kind = 1) : 0 ≤ r.ao ∧ r.ao < 4 ∧ r ∈ firmL G r.ao ∧ homeI r.ship = r.ao := by
  have hO := h.o p hp
  have hm := (mem_recs hO r).1 hr
  obtain ⟨h1, h2, _⟩ := hO.ho r hm
  obtain ⟨h3, h4⟩ := hO.ls r hm hk
  exact ⟨h1, h2, h3, h4⟩
theorem Given.push (h : Given G gv) (hI : WI n W G) {p : Nat} (hp : p < 4) {r : Rec} (hr : r ∈ (W.off p).m.recs) (hk : r.kind = 1) (hn : r ∉ gv) : Given G (gv ++ [r]) := by
  refine ⟨List.nodup_append.2 ⟨h.nd, by simp, fun a ha b hb => ?_⟩, fun x hx => ?_⟩
  · obtain rfl : b = r := by simpa using hb
    exact fun e => hn (e ▸ ha)
  · rcases List.mem_append.1 hx with hx | hx
    · exact h.k x hx
    · obtain rfl : x = r := by simpa using hx
      exact ⟨hk, hI.lease hp hr hk⟩
/-- Two leases of one ship that overlap are one. -/
theorem WI.one (h : WI n W G) {a b : Rec} (ha : 0 ≤ a.ao ∧ a.ao < 4 ∧ a ∈ firmL G a.ao ∧ homeI a.ship = a.ao) (hb : 0 ≤ b.ao ∧ b.ao < 4 ∧ b ∈ firmL G b.ao ∧ homeI b.ship = b.ao) (ka : a.kind = 1) (kb : b.kind = 1) (hs : a.ship = b.ship)
    (h1 : a.day ≤ b.til) (h2 : b.day ≤ a.til) : a = b := by
  obtain ⟨a1, a2, a3, a4⟩ := ha
  obtain ⟨b1, b2, b3, b4⟩ := hb
  have he : b.ao = a.ao := by rw [← b4, ← hs, a4]
  rw [he] at b3
  rcases (h.o a.ao.toNat (by omega)).lo a (firm_sub a3) b (firm_sub b3) ka kb with hab | hab
  · exact hab
  · simp [leaseOn, kb, hs, h1, h2] at hab
theorem Given.apart (h : Given G gv) (hI : WI n W G) {i j : Nat} {a b : Rec} (hij : i < j) (ha : gv[i]? = some a) (hb : gv[j]? = some b) : ¬ (a.ship = b.ship ∧ a.day ≤ b.til ∧ b.day ≤ a.til) := by
  rintro ⟨hs, h1, h2⟩
  obtain ⟨ka, qa⟩ := h.k a (List.mem_of_getElem? ha)
  obtain ⟨kb, qb⟩ := h.k b (List.mem_of_getElem? hb)
  have e := hI.one qa qb ka kb hs h1 h2
  subst e
  obtain ⟨i1, i2⟩ := List.getElem?_eq_some_iff.1 ha
  obtain ⟨j1, j2⟩ := List.getElem?_eq_some_iff.1 hb
  have := List.pairwise_iff_getElem.1 h.nd i j i1 j1 hij
  exact this (by rw [i2, j2])
theorem held_lease {l : List Rec} {s d : Int} {r : Rec} (h : heldR l s d = some r) : r ∈ l ∧ r.kind = 1 ∧ r.ship = s ∧ r.day ≤ d ∧ d ≤ r.til := by
  have h1 := List.mem_of_find?_eq_some h
  have h2 := List.find?_some h
  simp only [lsB, Bool.and_eq_true, decide_eq_true_eq, inB_spec] at h2
  exact ⟨h1, h2.1, h2.2.1, h2.2.2.1, h2.2.2.2⟩
/-- Two offices that tell who holds a ship tell the same. -/
theorem WI.same (h : WI n W G) {p q : Nat} (hp : p < 4) (hq : q < 4) {s d : Int} {r x : Rec} (h1 : heldR (W.off p).m.recs s d = some r) (h2 : heldR (W.off q).m.recs s d = some x) : r = x := by
  obtain ⟨r1, r2, r3, r4, r5⟩ := held_lease h1
  obtain ⟨x1, x2, x3, x4, x5⟩ := held_lease h2
  exact h.one (h.lease hp r1 r2) (h.lease hq x1 x2) r2 x2 (by rw [r3, x3]) (by omega) (by omega)
theorem WI.holder (h : WI n W G) {p : Nat} (hp : p < 4) {s d : Int} (hs : 1 ≤ s ∧ s ≤ 20) (hd : 0 ≤ d ∧ d ≤ 74) :
    (holdE (W.off p).m.recs s d = 3) ∨ (holdE (W.off p).m.recs s d = 0 ∧ ∃ r, heldR (W.off p).m.recs s d = some r ∧ holdN (W.off p).m.recs s d = r.to) := by
  have hc := (h.o p hp).check
  have e1 : inB s 1 999 = true := inB_spec.2 ⟨by omega, by omega⟩
  have e2 : inB d 0 100000 = true := inB_spec.2 ⟨by omega, by omega⟩
  cases hh : heldR (W.off p).m.recs s d with
  | none => exact .inl (by simp [holdE, hc, e1, e2, hh])
  | some r =>
    have he : holdE (W.off p).m.recs s d = 0 := by simp [holdE, hc, e1, e2, hh]
    exact .inr ⟨he, r, rfl, by rw [holdN, if_pos he, hh]; rfl⟩
end
end Go.Proofs.YtekjdeibnfaehaaGreat
