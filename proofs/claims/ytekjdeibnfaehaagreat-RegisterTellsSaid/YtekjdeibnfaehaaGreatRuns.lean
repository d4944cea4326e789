/- Plain law: runs of free days. The leases cut out one by one (the program), or the runs found day by day (the reference): the same list. No program. -/
set_option linter.unusedSimpArgs false
set_option linter.unusedVariables false
namespace Go.Proofs.YtekjdeibnfaehaaGreat
/-- Runs of days: each from its first to its last, with a day between. -/
def Gapped (L : List (Int × Int)) : Prop := (∀ x ∈ L, x.1 ≤ x.2) ∧ L.Pairwise fun x y => x.2 + 1 < y.1
def inRuns (L : List (Int × Int)) (d : Int) : Prop := ∃ x ∈ L, x.1 ≤ d ∧ d ≤ x.2
theorem Gapped.cons {x : Int × Int} {L : List (Int × Int)} : Gapped (x :: L) ↔ x.1 ≤ x.2 ∧ (∀ y ∈ L, x.2 + 1 < y.1) ∧ Gapped L := by
  simp only [Gapped, List.mem_cons, forall_eq_or_imp, List.pairwise_cons]
  constructor
  · rintro ⟨⟨h1, h2⟩, h3, h4⟩; exact ⟨h1, h3, h2, h4⟩
  · rintro ⟨h1, h3, h2, h4⟩; exact ⟨⟨h1, h2⟩, h3, h4⟩
theorem inRuns_cons {x : Int × Int} {L : List (Int × Int)} {d : Int} : inRuns (x :: L) d ↔ (x.1 ≤ d ∧ d ≤ x.2) ∨ inRuns L d := by
  simp [inRuns]
/-- Two lists of runs of the same days are the same. -/
theorem runs_unique : ∀ (L M : List (Int × Int)), Gapped L → Gapped M → (∀ d, inRuns L d ↔ inRuns M d) → L = M
  | [], [], _, _, _ => rfl
  | [], y :: M, _, hM, h => by
    obtain ⟨h1, _, _⟩ := Gapped.cons.1 hM
    obtain ⟨x, hx, _⟩ := (h y.1).2 (inRuns_cons.2 (.inl ⟨Int.le_refl _, h1⟩))
    cases hx
  | x :: L, [], hL, _, h => by
    obtain ⟨h1, _, _⟩ := Gapped.cons.1 hL
    obtain ⟨y, hy, _⟩ := (h x.1).1 (inRuns_cons.2 (.inl ⟨Int.le_refl _, h1⟩))
    cases hy
  | x :: L, y :: M, hL, hM, h => by
    obtain ⟨a1, a2, a3⟩ := Gapped.cons.1 hL
    obtain ⟨b1, b2, b3⟩ := Gapped.cons.1 hM
    have lowL : ∀ d, inRuns L d → x.2 + 1 < d := fun d ⟨z, hz, h1, h2⟩ => by have := a2 z hz; omega
    have lowM : ∀ d, inRuns M d → y.2 + 1 < d := fun d ⟨z, hz, h1, h2⟩ => by have := b2 z hz; omega
    have e : ∀ d, ((x.1 ≤ d ∧ d ≤ x.2) ∨ inRuns L d) ↔ ((y.1 ≤ d ∧ d ≤ y.2) ∨ inRuns M d) := fun d => by
      rw [← inRuns_cons, ← inRuns_cons]; exact h d
    have h1 : y.1 ≤ x.1 := by
      rcases (e x.1).1 (.inl ⟨Int.le_refl _, a1⟩) with h | h
      · exact h.1
      · have := lowM _ h; omega
    have h2 : x.1 ≤ y.1 := by
      rcases (e y.1).2 (.inl ⟨Int.le_refl _, b1⟩) with h | h
      · exact h.1
      · have := lowL _ h; omega
    have h3 : ¬ y.2 < x.2 := fun hlt => by
      rcases (e (y.2 + 1)).1 (.inl ⟨by omega, by omega⟩) with h | h
      · omega
      · have := lowM _ h; omega
    have h4 : ¬ x.2 < y.2 := fun hlt => by
      rcases (e (x.2 + 1)).2 (.inl ⟨by omega, by omega⟩) with h | h
      · omega
      · have := lowL _ h; omega
    have hxy : x = y := Prod.ext (by omega) (by omega)
    subst hxy
    rw [runs_unique L M a3 b3]
    intro d
    constructor
    · intro hd
      rcases (e d).1 (.inr hd) with h | h
      · have := lowL _ hd; omega
      · exact h
    · intro hd
      rcases (e d).2 (.inr hd) with h | h
      · have := lowM _ hd; omega
      · exact h
/-- A run without the days from a to b. -/
def cutR (a b : Int) (x : Int × Int) : List (Int × Int) :=
  (if x.1 ≤ (if a - 1 < x.2 then a - 1 else x.2) then [(x.1, if a - 1 < x.2 then a - 1 else x.2)] else []) ++
  (if (if x.1 < b + 1 then b + 1 else x.1) ≤ x.2 then [(if x.1 < b + 1 then b + 1 else x.1, x.2)] else [])
def cutL (L : List (Int × Int)) (a b : Int) : List (Int × Int) := L.flatMap (cutR a b)
theorem cutR_mem {a b : Int} {x y : Int × Int} (hy : y ∈ cutR a b x) : x.1 ≤ y.1 ∧ y.2 ≤ x.2 ∧ y.1 ≤ y.2 := by
  unfold cutR at hy
  (repeat' split at hy) <;> simp at hy <;> (try rcases hy with rfl | rfl) <;> (try subst hy) <;> simp only <;> omega
theorem cutR_gapped {a b : Int} (hab : a ≤ b) {x : Int × Int} (hx : x.1 ≤ x.2) : Gapped (cutR a b x) := by
  refine ⟨fun y hy => (cutR_mem hy).2.2, ?_⟩
  unfold cutR
  (repeat' split) <;> simp <;> omega
theorem cutR_in {a b : Int} (hab : a ≤ b) {x : Int × Int} (d : Int) : inRuns (cutR a b x) d ↔ (x.1 ≤ d ∧ d ≤ x.2) ∧ ¬(a ≤ d ∧ d ≤ b) := by
  unfold cutR inRuns
  (repeat' split) <;> simp <;> omega
theorem cutL_in {a b : Int} (hab : a ≤ b) (L : List (Int × Int)) (d : Int) : inRuns (cutL L a b) d ↔ inRuns L d ∧ ¬(a ≤ d ∧ d ≤ b) := by
  constructor
  · rintro ⟨y, hy, h⟩
    obtain ⟨x, hx, hy⟩ := List.mem_flatMap.1 hy
    have := (cutR_in hab (x := x) d).1 ⟨y, hy, h⟩
    exact ⟨⟨x, hx, this.1⟩, this.2⟩
  · rintro ⟨⟨x, hx, h⟩, hn⟩
    obtain ⟨y, hy, h⟩ := (cutR_in hab (x := x) d).2 ⟨h, hn⟩
    exact ⟨y, List.mem_flatMap.2 ⟨x, hx, hy⟩, h⟩
theorem cutL_gapped {a b : Int} (hab : a ≤ b) : ∀ {L : List (Int × Int)}, Gapped L → Gapped (cutL L a b)
  | [], h => h
  | x :: L, h => by
    obtain ⟨h1, h2, h3⟩ := Gapped.cons.1 h
    have hx := cutR_gapped hab h1
    have hL := cutL_gapped hab h3
    show Gapped (cutR a b x ++ cutL L a b)
    refine ⟨fun y hy => ?_, List.pairwise_append.2 ⟨hx.2, hL.2, fun y hy z hz => ?_⟩⟩
    · rcases List.mem_append.1 hy with hy | hy
      · exact hx.1 y hy
      · exact hL.1 y hy
    · obtain ⟨u, hu, hz⟩ := List.mem_flatMap.1 hz
      have := cutR_mem hy
      have := cutR_mem hz
      have := h2 u hu
      omega
/-- A list of leases: from, until. -/
def heldP (P : List (Int × Int)) (d : Int) : Prop := ∃ p ∈ P, p.1 ≤ d ∧ d ≤ p.2
def freeP (P : List (Int × Int)) (lo hi : Int) : List (Int × Int) := P.foldl (fun L p => cutL L p.1 p.2) [(lo, hi)]
theorem free_fold : ∀ (P : List (Int × Int)), (∀ p ∈ P, p.1 ≤ p.2) → ∀ L, Gapped L → Gapped (P.foldl (fun L p => cutL L p.1 p.2) L) ∧ ∀ d, inRuns (P.foldl (fun L p => cutL L p.1 p.2) L) d ↔ inRuns L d ∧ ¬ heldP P d
  | [], _, L, h => ⟨h, fun d => by simp [heldP]⟩
  | p :: P, hp, L, h => by
    have hp0 := hp p (by simp)
    obtain ⟨h1, h2⟩ := free_fold P (fun q hq => hp q (by simp [hq])) (cutL L p.1 p.2) (cutL_gapped hp0 h)
    refine ⟨h1, fun d => ?_⟩
    rw [List.foldl_cons, h2, cutL_in hp0, and_assoc]
    refine and_congr_right fun _ => ?_
    simp only [heldP, List.mem_cons, exists_eq_or_imp]
    constructor
    · rintro ⟨a, b⟩ (h | h)
      · exact a h
      · exact b h
    · intro h
      exact ⟨fun h' => h (.inl h'), fun h' => h (.inr h')⟩
theorem free_spec {P : List (Int × Int)} (hp : ∀ p ∈ P, p.1 ≤ p.2) {lo hi : Int} (h : lo ≤ hi) : Gapped (freeP P lo hi) ∧ ∀ d, inRuns (freeP P lo hi) d ↔ (lo ≤ d ∧ d ≤ hi) ∧ ¬ heldP P d := by
  have h0 : Gapped [(lo, hi)] := by simp [Gapped, h]
  obtain ⟨h1, h2⟩ := free_fold P hp _ h0
  exact ⟨h1, fun d => by rw [freeP, h2]; simp [inRuns]⟩
/-- The reference's way: where it has come to, and the runs so far. -/
structure FreeAt (P : List (Int × Int)) (lo hi at_ : Int) (L : List (Int × Int)) : Prop where
  le : lo ≤ at_
  top : at_ ≤ hi + 1
  gapped : Gapped L
  runs : ∀ d, inRuns L d ↔ (lo ≤ d ∧ d < at_) ∧ ¬ heldP P d
  gap : ∀ x ∈ L, x.2 < at_ ∧ (at_ ≤ hi → heldP P at_ ∨ x.2 + 1 < at_)
/-- The last day of a run that begins on a free day. -/
def endP (at_ : Int) (hi : Int) : List (Int × Int) → Int
  | [] => hi
  | p :: P => endP at_ (if at_ < p.1 then (if p.1 - 1 < hi then p.1 - 1 else hi) else hi) P
theorem endP_le (at_ : Int) : ∀ (P : List (Int × Int)) (hi : Int), endP at_ hi P ≤ hi
  | [], hi => Int.le_refl _
  | p :: P, hi => by
    have := endP_le at_ P (if at_ < p.1 then (if p.1 - 1 < hi then p.1 - 1 else hi) else hi)
    rw [endP]
    revert this
    (repeat' split) <;> intro <;> omega
theorem endP_spec (at_ : Int) : ∀ (P : List (Int × Int)) (hi : Int), at_ ≤ hi → at_ ≤ endP at_ hi P ∧ (∀ p ∈ P, at_ < p.1 → endP at_ hi P < p.1) ∧ (endP at_ hi P = hi ∨ ∃ p ∈ P, p.1 = endP at_ hi P + 1)
  | [], hi, h => ⟨h, by simp, .inl rfl⟩
  | p :: P, hi, h => by
    obtain ⟨h1, h2, h3⟩ := endP_spec at_ P (if at_ < p.1 then (if p.1 - 1 < hi then p.1 - 1 else hi) else hi) (by (repeat' split) <;> omega)
    have h4 := endP_le at_ P (if at_ < p.1 then (if p.1 - 1 < hi then p.1 - 1 else hi) else hi)
    rw [endP]
    refine ⟨h1, ?_, ?_⟩
    · intro q hq hlt
      rcases List.mem_cons.1 hq with rfl | hq
      · rw [if_pos hlt] at h4 ⊢
        revert h4
        split <;> intro <;> omega
      · exact h2 q hq hlt
    · rcases h3 with h3 | ⟨q, hq, h3⟩
      · rw [h3]
        (repeat' split)
        · exact .inr ⟨p, by simp, by omega⟩
        · exact .inl rfl
        · exact .inl rfl
      · exact .inr ⟨q, by simp [hq], h3⟩
theorem FreeAt.start (P : List (Int × Int)) {lo hi : Int} (h : lo ≤ hi) : FreeAt P lo hi lo [] :=
  ⟨Int.le_refl _, by omega, by simp [Gapped], fun d => by simp [inRuns]; omega, by simp⟩
theorem FreeAt.skip {P : List (Int × Int)} {lo hi at_ : Int} {L : List (Int × Int)} (h : FreeAt P lo hi at_ L) (ha : at_ ≤ hi) {p : Int × Int} (hp : p ∈ P) (h1 : p.1 ≤ at_) (h2 : at_ ≤ p.2) :
    (p.2 + 1 ≤ hi + 1 → FreeAt P lo hi (p.2 + 1) L) ∧ (hi < p.2 → FreeAt P lo hi (hi + 1) L) := by
  have key : ∀ e, at_ < e → e ≤ p.2 + 1 → e ≤ hi + 1 → (e ≤ hi → True) → FreeAt P lo hi e L := fun e g1 g2 g3 _ =>
    ⟨by have := h.le; omega, g3, h.gapped, fun d => by
      rw [h.runs]
      constructor
      · rintro ⟨⟨a, b⟩, c⟩; exact ⟨⟨a, by omega⟩, c⟩
      · rintro ⟨⟨a, b⟩, c⟩
        refine ⟨⟨a, ?_⟩, c⟩
        by_cases hd : d < at_
        · exact hd
        · exact absurd ⟨p, hp, by omega, by omega⟩ c,
    fun x hx => by have := h.gap x hx; exact ⟨by omega, fun _ => .inr (by omega)⟩⟩
  exact ⟨fun g => key _ (by omega) (Int.le_refl _) g fun _ => trivial, fun g => key _ (by omega) (by omega) (Int.le_refl _) fun _ => trivial⟩
theorem FreeAt.run {P : List (Int × Int)} {lo hi at_ : Int} {L : List (Int × Int)} (h : FreeAt P lo hi at_ L) (ha : at_ ≤ hi) (hn : ¬ heldP P at_) (hP : ∀ p ∈ P, p.1 ≤ p.2) :
    FreeAt P lo hi (endP at_ hi P + 1) (L ++ [(at_, endP at_ hi P)]) := by
  obtain ⟨e1, e2, e3⟩ := endP_spec at_ P hi ha
  have e4 := endP_le at_ P hi
  have hle := h.le
  refine ⟨by omega, by omega, ⟨fun x hx => ?_, List.pairwise_append.2 ⟨h.gapped.2, by simp, fun x hx y hy => ?_⟩⟩, fun d => ?_, fun x hx => ?_⟩
  · rcases List.mem_append.1 hx with hx | hx
    · exact h.gapped.1 x hx
    · simp at hx; subst hx; exact e1
  · simp at hy; subst hy
    have := h.gap x hx
    rcases this.2 ha with h' | h'
    · exact absurd h' hn
    · exact h'
  · have hnot : ∀ d, at_ ≤ d → d ≤ endP at_ hi P → ¬ heldP P d := by
      rintro d g1 g2 ⟨p, hp, q1, q2⟩
      by_cases hq : at_ < p.1
      · have := e2 p hp hq; omega
      · exact hn ⟨p, hp, by omega, by omega⟩
    have hh := h.runs d
    simp only [inRuns, List.mem_append, List.mem_singleton] at hh ⊢
    constructor
    · rintro ⟨x, hx | rfl, g⟩
      · have := hh.1 ⟨x, hx, g⟩; exact ⟨⟨this.1.1, by omega⟩, this.2⟩
      · simp only at g; exact ⟨⟨by omega, by omega⟩, hnot d g.1 g.2⟩
    · rintro ⟨⟨a, b⟩, c⟩
      by_cases hd : d < at_
      · obtain ⟨x, hx, g⟩ := hh.2 ⟨⟨a, hd⟩, c⟩
        exact ⟨x, .inl hx, g⟩
      · exact ⟨_, .inr rfl, by simp only; omega⟩
  · have hend : endP at_ hi P + 1 ≤ hi → heldP P (endP at_ hi P + 1) := fun hl => by
      rcases e3 with e3 | ⟨p, hp, e3⟩
      · omega
      · exact ⟨p, hp, by omega, by have := hP p hp; omega⟩
    rcases List.mem_append.1 hx with hx | hx
    · have := h.gap x hx
      exact ⟨by omega, fun hl => .inl (hend hl)⟩
    · simp at hx; subst hx
      exact ⟨by simp only; omega, fun hl => .inl (hend hl)⟩
theorem FreeAt.done {P : List (Int × Int)} {lo hi : Int} {L : List (Int × Int)} (h : FreeAt P lo hi (hi + 1) L) (hl : lo ≤ hi) (hP : ∀ p ∈ P, p.1 ≤ p.2) : L = freeP P lo hi := by
  obtain ⟨h1, h2⟩ := free_spec hP hl
  refine runs_unique _ _ h.gapped h1 fun d => ?_
  rw [h.runs, h2]
  constructor
  · rintro ⟨⟨a, b⟩, c⟩; exact ⟨⟨a, by omega⟩, c⟩
  · rintro ⟨⟨a, b⟩, c⟩; exact ⟨⟨a, by omega⟩, c⟩
end Go.Proofs.YtekjdeibnfaehaaGreat
