/- Plain facts: a withdrawn record does not stand until its withdrawal is withdrawn. No program. -/
import Derived.Test.YtekjdeibnfaehaaRegs
set_option linter.unusedSimpArgs false
set_option linter.unusedVariables false
namespace Go.Proofs.Ytekjdeibnfaehaa

/-- The withdrawal of a place. -/
def wdRec (p s day oa sa : Int) : Rec := ⟨p, s, 0, 0, 0, day, oa, sa, 0, 0, noText⟩
def wdStep (p day : Int) (st : List Rec × Int) (k : Nat) : List Rec × Int :=
  (insR st.1 (wdRec p (nextN st.1 p) (day + 1 + k) p st.2), nextN st.1 p)
/-- What k withdrawals, each of the last one, make of a register. -/
def wdN (g : List Rec) (p s day : Int) : Nat → List Rec × Int
  | 0 => (g, s)
  | k + 1 => wdStep p day (wdN g p s day k) k
def wdPrev (s s0 : Int) (k : Nat) : Int := if k = 0 then s else s0 + k - 1
def wdL (p s s0 day : Int) (k : Nat) : List Rec := (List.range k).map fun (i : Nat) => wdRec p (s0 + (i : Int)) (day + 1 + (i : Int)) p (wdPrev s s0 i)
theorem wdL_succ (p s s0 day : Int) (k : Nat) : wdL p s s0 day (k + 1) = wdL p s s0 day k ++ [wdRec p (s0 + k) (day + 1 + k) p (wdPrev s s0 k)] := by
  simp [wdL, List.range_succ]
theorem wdL_mem {p s s0 day : Int} {k : Nat} {w : Rec} (h : w ∈ wdL p s s0 day k) : w.ao = p ∧ s0 ≤ w.sq ∧ w.sq < s0 + k ∧ day < w.known := by
  simp only [wdL, List.mem_map, List.mem_range] at h
  obtain ⟨i, hi, rfl⟩ := h
  exact ⟨rfl, show s0 ≤ s0 + (i : Int) by omega, show s0 + (i : Int) < s0 + (k : Int) by omega, show day < day + 1 + (i : Int) by omega⟩
theorem nextN_append (a b : List Rec) (o : Int) : nextN (a ++ b) o = b.foldl (nextStep o) (nextN a o) := by simp [nextN, List.foldl_append]
theorem next_other {o : Int} : ∀ (b : List Rec) (n : Int), (∀ r ∈ b, r.ao ≠ o) → b.foldl (nextStep o) n = n
  | [], _, _ => rfl
  | r :: b, n, h => by
    rw [List.foldl_cons, nextStep, if_neg (h r (by simp))]
    exact next_other b n fun x hx => h x (by simp [hx])
theorem next_wd (p s s0 day : Int) (k : Nat) : (wdL p s s0 day k).foldl (nextStep p) s0 = s0 + k := by
  induction k with
  | zero => simp [wdL]
  | succ k ih =>
    rw [wdL_succ, List.foldl_append, ih]
    simp only [List.foldl_cons, List.foldl_nil, nextStep, wdRec, if_true]
    omega
/-- A record that goes between two parts. -/
theorem insR_between {a b : List Rec} {r : Rec} (ha : ∀ x ∈ a, ltP x.ao x.sq r.ao r.sq = true) (hb : ∀ x ∈ b, ltP x.ao x.sq r.ao r.sq = false) : insR (a ++ b) r = a ++ r :: b := by
  have hp : posR (a ++ b) r.ao r.sq = a.length := by
    rw [posR, List.countP_append, List.countP_eq_length.2 ha, List.countP_eq_zero.2 fun x hx => by simp [hb x hx]]
    rfl
  rw [insR, hp, List.take_left', List.drop_left'] <;> rfl
/-- A register, parted at the end of an office. -/
structure OffParts (g a b : List Rec) (p s0 : Int) : Prop where
  eq : g = a ++ b
  low : ∀ x ∈ a, ltP x.ao x.sq p s0 = true
  high : ∀ x ∈ b, p < x.ao
theorem parts_of {g : List Rec} (h : Sorted g) (p : Int) : ∃ a b, OffParts g a b p (nextN g p) := by
  obtain ⟨h1, h2⟩ := posR_spec h p (nextN g p)
  refine ⟨g.take (posR g p (nextN g p)), g.drop (posR g p (nextN g p)), (List.take_append_drop _ _).symm, ?_, ?_⟩
  · intro x hx
    obtain ⟨i, hi, rfl⟩ := List.mem_take_iff_getElem.1 hx
    exact h1 i (by omega) (by omega)
  · intro x hx
    obtain ⟨i, hi, rfl⟩ := List.getElem_of_mem hx
    rw [List.getElem_drop]
    have hlen : posR g p (nextN g p) + i < g.length := by rw [List.length_drop] at hi; omega
    have h3 := h2 _ hlen (Nat.le_add_right _ _)
    have h4 := nextN_gt h p _ (List.getElem_mem hlen)
    rw [← Bool.not_eq_true, ltP_iff] at h3
    omega
theorem OffParts.next {g a b : List Rec} {p s0 : Int} (h : OffParts g a b p s0) (hs : s0 = nextN g p) (s day : Int) (k : Nat) : nextN (a ++ wdL p s s0 day k ++ b) p = s0 + k := by
  have hb : ∀ r ∈ b, r.ao ≠ p := fun r hr => by have := h.high r hr; omega
  have ha : nextN a p = s0 := by
    have : nextN g p = nextN a p := by rw [h.eq, nextN_append, next_other b _ hb]
    omega
  rw [nextN_append, nextN_append, ha, next_wd, next_other b _ hb]
theorem OffParts.wd {g a b : List Rec} {p s0 : Int} (h : OffParts g a b p s0) (hs : s0 = nextN g p) (s day : Int) : ∀ k, wdN g p s day k = (a ++ wdL p s s0 day k ++ b, wdPrev s s0 k)
  | 0 => by simp [wdN, wdL, wdPrev, h.eq]
  | k + 1 => by
    have ih := OffParts.wd h hs s day k
    have hn := h.next hs s day k
    simp only [wdN, wdStep, ih, hn]
    refine Prod.ext ?_ ?_
    · show insR (a ++ wdL p s s0 day k ++ b) _ = _
      rw [insR_between, wdL_succ]
      · simp
      · intro x hx
        simp only [wdRec]
        rw [ltP_iff]
        rcases List.mem_append.1 hx with hx | hx
        · have := h.low x hx
          rw [ltP_iff] at this
          omega
        · have := wdL_mem hx
          omega
      · intro x hx
        simp only [wdRec]
        rw [← Bool.not_eq_true, ltP_iff]
        have := h.high x hx
        omega
    · show s0 + (k : Int) = wdPrev s s0 (k + 1)
      simp [wdPrev]
      omega
theorem RegN.put {g : List Rec} {n : Nat} (h : RegN g n) {r : Rec} (hr : recOk r = true) (hno : hasR g r.ao r.sq = false) (h0 : 0 ≤ r.sq) (h1 : r.sq ≤ n) : RegN (insR g r) (n + 1) := by
  refine ⟨insR_sorted h.sorted hno, ?_, ?_, ?_⟩
  · intro x hx
    rcases List.mem_cons.1 ((insR_perm g r).mem_iff.1 hx) with rfl | hx
    · exact hr
    · exact h.ok x hx
  · rw [(insR_perm g r).length_eq, List.length_cons, h.len]
  · intro x hx
    rcases List.mem_cons.1 ((insR_perm g r).mem_iff.1 hx) with rfl | hx
    · omega
    · have := h.sq x hx; omega
theorem wdRec_ok {p s day sa : Int} (h0 : 0 ≤ p) (h1 : p ≤ 8) (h2 : 0 ≤ s) (h3 : s ≤ 9999) (h4 : 0 ≤ day) (h5 : day ≤ 100000) (h6 : 0 ≤ sa) (h7 : sa < s) : recOk (wdRec p s day p sa) = true := by
  have t : txtOk noText = true := txtOk_none
  have t2 : decide (noText.toList = []) = true := noText_dec
  have e1 : isPlaceB p s = true := by simp only [isPlaceB, Bool.and_eq_true, inB_spec]; omega
  have e2 : isPlaceB p sa = true := by simp only [isPlaceB, Bool.and_eq_true, inB_spec]; omega
  have e3 : inB day 0 100000 = true := inB_spec.2 ⟨h4, h5⟩
  have e4 : withdrawB (wdRec p s day p sa) = true := by
    show (isPlaceB p sa && decide (p = p) && decide (sa < s) && decide ((0 : Int) = 0) && decide ((0 : Int) = 0) && decide ((0 : Int) = 0) && decide ((0 : Int) = 0) && decide (noText.toList = [])) = true
    rw [e2, t2, decide_eq_true (rfl : p = p), decide_eq_true h7]
    rfl
  have e5 : kindB (wdRec p s day p sa) = true := by rw [kindB, if_pos (show (wdRec p s day p sa).kind = 0 from rfl), e4]
  show (isPlaceB p s && inB 0 0 29 && inB 0 0 100000 && inB day 0 100000 && txtOk noText && kindB (wdRec p s day p sa)) = true
  rw [e1, e3, t, e5]
  rfl
/-- One step: valid before, valid behind. -/
theorem wd_step {g : List Rec} {n : Nat} (h : RegN g n) (hn : n ≤ 79) {p s day : Int} (p0 : 0 ≤ p) (p1 : p ≤ 8) (s0 : 0 ≤ s) (s1 : s < nextN g p) (d0 : 0 ≤ day) (d1 : day ≤ 1000) {k : Nat} (hk : k ≤ 10) :
    recOk (wdRec p (nextN g p) (day + 1 + k) p s) = true ∧ hasR g p (nextN g p) = false ∧ RegN (insR g (wdRec p (nextN g p) (day + 1 + k) p s)) (n + 1) := by
  have hb := nextN_bound (N := (n : Int)) (by omega) g p h.sq
  have ho := wdRec_ok p0 p1 hb.1 (by omega) (show 0 ≤ day + 1 + (k : Int) by omega) (by omega) s0 s1
  have hh := has_next h.sorted p
  exact ⟨ho, hh, h.put ho hh hb.1 hb.2⟩
theorem wd_all {g : List Rec} {n : Nat} (h : RegN g n) (hn : n ≤ 70) {p s day : Int} (p0 : 0 ≤ p) (p1 : p ≤ 8) (s0 : 0 ≤ s) (s1 : s < nextN g p) (d0 : 0 ≤ day) (d1 : day ≤ 1000) :
    ∀ k, k ≤ 9 → RegN (wdN g p s day k).1 (n + k) ∧ 0 ≤ (wdN g p s day k).2 ∧ (wdN g p s day k).2 < nextN (wdN g p s day k).1 p
  | 0, _ => ⟨h, s0, s1⟩
  | k + 1, hk => by
    obtain ⟨i1, i2, i3⟩ := wd_all h hn p0 p1 s0 s1 d0 d1 k (by omega)
    obtain ⟨j1, j2, j3⟩ := wd_step i1 (by omega) p0 p1 i2 i3 d0 d1 (show k ≤ 10 by omega)
    have hb := nextN_bound (N := ((n + k : Nat) : Int)) (by omega) (wdN g p s day k).1 p i1.sq
    refine ⟨j3, hb.1, ?_⟩
    refine nextN_gt j3.sorted p (wdRec p (nextN (wdN g p s day k).1 p) (day + 1 + k) p (wdN g p s day k).2) ?_ rfl
    exact (insR_perm _ _).mem_iff.2 (by simp)
/-- What a set of gone places makes of the records before. -/
def standA (a : List Rec) (G : List (Int × Int)) : List Bool := (a.foldr goneStep ([], G)).1
def goneA (a : List Rec) (G : List (Int × Int)) : List (Int × Int) := (a.foldr goneStep ([], G)).2
theorem fold_split (bs : List Bool) (G : List (Int × Int)) : ∀ a : List Rec, a.foldr goneStep (bs, G) = (standA a G ++ bs, goneA a G)
  | [] => rfl
  | r :: a => by
    have ih := fold_split bs G a
    unfold standA goneA at ih ⊢
    rw [List.foldr_cons, List.foldr_cons, ih]
    rfl
theorem stand_append (a l : List Rec) : standL (a ++ l) = standA a (goneL l) ++ standL l := by
  unfold standL standG
  rw [List.foldr_append, show l.foldr goneStep ([], []) = (standL l, goneL l) from rfl, fold_split]
theorem standA_cons (r : Rec) (a : List Rec) (G : List (Int × Int)) : standA (r :: a) G = (decide (r.kind = 1) || !(goneA a G).contains (r.ao, r.sq)) :: standA a G := rfl
theorem goneA_cons (r : Rec) (a : List Rec) (G : List (Int × Int)) : goneA (r :: a) G = if ((decide (r.kind = 1) || !(goneA a G).contains (r.ao, r.sq)) && decide (r.kind = 0)) = true then (r.wo, r.ws) :: goneA a G else goneA a G := rfl
theorem standA_length (a : List Rec) (G : List (Int × Int)) : (standA a G).length = a.length := by
  induction a with
  | nil => rfl
  | cons r a ih => rw [standA_cons, List.length_cons, List.length_cons, ih]
/-- Only the places of the records matter. -/
theorem stand_same {Q : Int × Int → Prop} {G G' : List (Int × Int)} (hG : ∀ q, Q q → G.contains q = G'.contains q) : ∀ a : List Rec, (∀ x ∈ a, Q (x.ao, x.sq)) → standA a G = standA a G' ∧ ∀ q, Q q → (goneA a G).contains q = (goneA a G').contains q
  | [], _ => ⟨rfl, hG⟩
  | r :: a, h => by
    obtain ⟨i1, i2⟩ := stand_same hG a fun x hx => h x (by simp [hx])
    have hr := i2 _ (h r (by simp))
    rw [standA_cons, standA_cons, goneA_cons, goneA_cons, hr, i1]
    refine ⟨rfl, ?_⟩
    intro q hq
    split
    · rw [List.contains_cons, List.contains_cons, i2 q hq]
    · exact i2 q hq
theorem gone_grows {q : Int × Int} {G : List (Int × Int)} (h : G.contains q = true) : ∀ a : List Rec, (goneA a G).contains q = true
  | [] => h
  | r :: a => by
    have ih := gone_grows h a
    rw [goneA_cons]
    split
    · rw [List.contains_cons, ih, Bool.or_true]
    · exact ih
theorem standA_get {a : List Rec} {G : List (Int × Int)} {i : Nat} (hi : i < a.length) (h : G.contains (a[i].ao, a[i].sq) = true) : (standA a G)[i]? = some (decide (a[i].kind = 1)) := by
  induction a generalizing i with
  | nil => simp at hi
  | cons r a ih =>
    rw [standA_cons]
    cases i with
    | zero =>
      rw [List.getElem?_cons_zero]
      simp only [List.getElem_cons_zero] at h ⊢
      rw [gone_grows h a]
      simp
    | succ i =>
      rw [List.getElem?_cons_succ]
      simp only [List.getElem_cons_succ] at h ⊢
      exact ih (by simpa using hi) h
theorem gone_high {b : List Rec} {p : Int} (hb : ∀ x ∈ b, p < x.ao) (hok : ∀ x ∈ b, recOk x = true) (s : Int) : (goneL b).contains (p, s) = false := by
  rw [← Bool.not_eq_true, List.contains_iff_mem, goneL_mem]
  rintro ⟨j, hj, h1, h2, _⟩
  have hx := hok _ (List.getElem_mem hj)
  have hp := hb _ (List.getElem_mem hj)
  have hw : b[j].wo = b[j].ao := by
    simp only [recOk, kindB, h1, if_true, withdrawB, Bool.and_eq_true, decide_eq_true_eq] at hx
    omega
  have : b[j].wo = p := congrArg Prod.fst h2
  omega
/-- The gone places behind the office's own records. -/
theorem gone_wd {b : List Rec} {p s s0 day : Int} (hb : ∀ x ∈ b, p < x.ao) (hok : ∀ x ∈ b, recOk x = true) :
    goneL (wdL p s s0 day 0 ++ b) = goneL b ∧ goneL (wdL p s s0 day 1 ++ b) = (p, s) :: goneL b ∧ goneL (wdL p s s0 day 2 ++ b) = (p, s0) :: goneL b ∧ goneL (wdL p s s0 day 3 ++ b) = (p, s) :: (p, s0 + 1) :: goneL b := by
  have hg : ∀ u : Int, ¬ (p, u) ∈ goneL b := fun u h => by
    have := gone_high hb hok u
    rw [List.contains_iff_mem.2 h] at this
    cases this
  have e1 : ¬ s0 + 1 = s0 := by omega
  have e2 : ¬ s0 = s0 + 1 := by omega
  have e3 : s0 + 2 - 1 = s0 + 1 := by omega
  refine ⟨rfl, ?_, ?_, ?_⟩
  · simp [wdL, wdRec, wdPrev, List.range_succ, goneL_cons, hg]
  · simp [wdL, wdRec, wdPrev, List.range_succ, goneL_cons, hg]
  · simp [wdL, wdRec, wdPrev, List.range_succ, goneL_cons, hg, e3, e2]
end Go.Proofs.Ytekjdeibnfaehaa
