/- Plain facts: records that numbers describe; what is done with a drive. No program. -/
import Derived.Test.YtekjdeibnfaehaaGreatPow
set_option linter.unusedSimpArgs false
set_option linter.unusedVariables false
namespace Go.Proofs.YtekjdeibnfaehaaGreat

/-- Numbers that describe a record. -/
structure RawD where
  a0 : Int
  a1 : Int
  a2 : Int
  a3 : Int
  a4 : Int
  a5 : Int
  a6 : Int
  text : ByteArray

def shownC (c : UInt8) : UInt8 := UInt8.ofNat (32 + c.toNat % 95)
def shownT (t : ByteArray) (n : Nat) : ByteArray := ⟨((t.data.toList.take n).map shownC).toArray⟩
theorem shownC_ok (c : UInt8) : chrOk (shownC c) = true := by
  have h : (shownC c).toNat = 32 + c.toNat % 95 := by
    unfold shownC
    rw [UInt8.toNat_ofNat']
    have := Nat.mod_lt c.toNat (show 0 < 95 by decide)
    omega
  have := Nat.mod_lt c.toNat (show 0 < 95 by decide)
  simp only [chrOk, h, Bool.and_eq_true, decide_eq_true_eq]
  omega
theorem shownT_ok (t : ByteArray) (n : Nat) (h : n ≤ 200) : txtOk (shownT t n) = true := by
  rw [txtOk, Bool.and_eq_true]
  refine ⟨decide_eq_true ?_, List.all_eq_true.2 ?_⟩
  · show ((t.data.toList.take n).map shownC).toArray.size ≤ 200
    simp only [List.size_toArray, List.length_map, List.length_take]
    omega
  · intro c hc
    simp only [shownT, List.mem_map] at hc
    obtain ⟨x, _, rfl⟩ := hc
    exact shownC_ok x

def noText : ByteArray := ⟨#[]⟩
def leaseShip (p x : Int) : Int := if p + 9 * (x % 2) = 0 then 9 else p + 9 * (x % 2)
/-- The record that numbers describe. -/
def madeR (l : List Rec) (x : RawD) : Rec :=
  if x.a1 % 6 = 0 ∧ 0 < nextN l (x.a0 % 4) then ⟨x.a0 % 4, nextN l (x.a0 % 4), 0, 0, 0, x.a4 % 60, x.a0 % 4, x.a5 % nextN l (x.a0 % 4), 0, 0, noText⟩
  else if x.a1 % 6 = 1 then ⟨x.a0 % 4, nextN l (x.a0 % 4), 1, leaseShip (x.a0 % 4) x.a2, x.a3 % 60, x.a4 % 60, 0, 0, x.a5 % 4, x.a3 % 60 + x.a6 % 12, noText⟩
  else ⟨x.a0 % 4, nextN l (x.a0 % 4), 2 + x.a1 % 9, 1 + x.a2 % 20, x.a3 % 60, x.a4 % 60, 0, 0, 0, 0, shownT x.text 40⟩
theorem madeR_ao (l : List Rec) (x : RawD) : (madeR l x).ao = x.a0 % 4 := by
  unfold madeR
  split
  · rfl
  · split <;> rfl
theorem madeR_sq (l : List Rec) (x : RawD) : (madeR l x).sq = nextN l (x.a0 % 4) := by
  unfold madeR
  split
  · rfl
  · split <;> rfl
theorem noText_nil : noText.toList = [] := by rw [ByteArray.toList_eq]; rfl
theorem noText_dec : decide (noText.toList = []) = true := decide_eq_true noText_nil
theorem txtOk_none : txtOk noText = true := by decide
theorem madeR_ok (l : List Rec) (x : RawD) (h0 : 0 ≤ nextN l (x.a0 % 4)) (h1 : nextN l (x.a0 % 4) ≤ 9999) : recOk (madeR l x) = true := by
  unfold madeR
  split
  · rename_i h
    have := Int.emod_nonneg x.a5 (b := nextN l (x.a0 % 4)) (by omega)
    have := Int.emod_lt_of_pos x.a5 h.2
    simp only [recOk, kindB, withdrawB, isPlaceB, if_true, txtOk_none, noText_nil, Bool.and_eq_true, decide_eq_true_eq, inB_spec]
    and_intros <;> first | omega | rfl | decide
  · split
    · have e : leaseShip (x.a0 % 4) x.a2 % 9 = x.a0 % 4 ∧ 1 ≤ leaseShip (x.a0 % 4) x.a2 ∧ leaseShip (x.a0 % 4) x.a2 ≤ 999 := by
        unfold leaseShip; split <;> omega
      have e2 : homeI (leaseShip (x.a0 % 4) x.a2) = x.a0 % 4 := by
        rw [homeI, if_pos (inB_spec.2 e.2), e.1]
      have e3 : minI 100000 (x.a3 % 60 + 399) = x.a3 % 60 + 399 := by unfold minI; split <;> omega
      simp only [recOk, kindB, leaseB, isPlaceB, show ¬((1 : Int) = 0) from by decide, if_false, if_true, txtOk_none, noText_nil, e2, e3, Bool.and_eq_true, decide_eq_true_eq, inB_spec]
      and_intros <;> first | omega | rfl | decide
    · have e : ¬(2 + x.a1 % 9 = 0) ∧ ¬(2 + x.a1 % 9 = 1) := by omega
      simp only [recOk, kindB, eventB, isPlaceB, if_neg e.1, if_neg e.2, shownT_ok _ 40 (by decide), Bool.and_eq_true, decide_eq_true_eq, inB_spec]
      and_intros <;> first | omega | rfl | decide
theorem nextN_snoc (l : List Rec) (r : Rec) (o : Int) : nextN (l ++ [r]) o = nextStep o (nextN l o) r := by simp [nextN, List.foldl_append]
theorem nextN_bound {N : Int} (h0 : 0 ≤ N) (l : List Rec) (o : Int) (h : ∀ r ∈ l, 0 ≤ r.sq ∧ r.sq < N) : 0 ≤ nextN l o ∧ nextN l o ≤ N := by
  revert h
  refine foldr_snoc_ind (p := fun l => (∀ r ∈ l, 0 ≤ r.sq ∧ r.sq < N) → 0 ≤ nextN l o ∧ nextN l o ≤ N) ?_ ?_ l
  · intro _; exact ⟨Int.le_refl _, h0⟩
  · intro l r ih h
    have := ih fun x hx => h x (by simp [hx])
    have := h r (by simp)
    rw [nextN_snoc, nextStep]
    split <;> omega
theorem nextN_gt {l : List Rec} (hs : Sorted l) (o : Int) : ∀ r ∈ l, r.ao = o → r.sq < nextN l o := by
  revert hs
  refine foldr_snoc_ind (p := fun l => Sorted l → ∀ r ∈ l, r.ao = o → r.sq < nextN l o) ?_ ?_ l
  · intro _ r hr; cases hr
  · intro l x ih hs r hr ho
    rw [nextN_snoc, nextStep]
    unfold Sorted at hs
    rw [List.pairwise_append] at hs
    rcases List.mem_append.1 hr with hr | hr
    · split
      · rename_i hx
        have := hs.2.2 r hr x (by simp)
        unfold aheadB at this
        rw [ltP_iff] at this
        omega
      · exact ih hs.1 r hr ho
    · rw [List.mem_singleton] at hr
      subst hr
      rw [if_pos ho]; omega
theorem has_next {l : List Rec} (hs : Sorted l) (o : Int) : hasR l o (nextN l o) = false := by
  rw [hasR, List.any_eq_false]
  intro r hr h
  simp only [atB, Bool.and_eq_true, decide_eq_true_eq] at h
  have := nextN_gt hs o r hr h.1
  omega

/-- A register is that of some records and of a beginning of others. -/
def beginsB (g : List Rec) : List Rec → List Rec → Bool
  | firm, [] => recsEqB g firm
  | firm, x :: later => recsEqB g firm || beginsB g (insG firm x) later
theorem begins_take {l : List Rec} (h : Apart l) {j : Nat} (hj : j ≤ l.length) : ∀ (n k : Nat), n = j - k → k ≤ j → beginsB (ordL (l.take j)) (ordL (l.take k)) (l.drop k) = true
  | 0, k, hn, hk => by
    obtain rfl : k = j := by omega
    have : recsEqB (ordL (l.take k)) (ordL (l.take k)) = true := recsEqB_iff.2 rfl
    cases hd : l.drop k with
    | nil => exact this
    | cons x t => rw [beginsB, this]; rfl
  | n + 1, k, hn, hk => by
    have hkl : k < l.length := by omega
    rw [List.drop_eq_getElem_cons hkl, beginsB]
    have ha : Apart (l.take (k + 1)) := List.Pairwise.sublist (List.take_sublist _ _) h
    have ha' := (apart_take_succ l k hkl).1 ha
    rw [insG_eq (ordL_sorted ha'.1) ha'.2, ← ordL_take_succ l k hkl, begins_take h hj n (k + 1) (by omega) (by omega), Bool.or_true]

/-- A drive with its memory, what was there when it was made firm last, and what was appended since then. -/
structure PlayD where
  d : DriveD
  m : MemD
  firm : List Rec
  later : List Rec
  ok : Bool
structure ActD where
  act : Int
  x : RawD
  k0 : Int
  k1 : Int
def memEqB (a b : MemD) : Bool := decide (a.file = b.file) && (decide (a.gen = b.gen) && recsEqB a.recs b.recs)
theorem memEqB_iff {a b : MemD} : memEqB a b = true ↔ a = b := by
  cases a; cases b
  simp only [memEqB, Bool.and_eq_true, decide_eq_true_eq, recsEqB_iff, MemD.mk.injEq]
  constructor
  · rintro ⟨h1, h2, h3⟩; exact ⟨h3, h1, h2⟩
  · rintro ⟨h1, h2, h3⟩; exact ⟨h2, h3, h1⟩
def survB (p : PlayD) (n n' : Int) : Bool := decide (openE (crashD p.d n n') = 0) && beginsB (openM (crashD p.d n n')).recs p.firm p.later
def badPlay : PlayD := ⟨noDrive, noMem, [], [], false⟩
def doneP (p : PlayD) (a : ActD) : PlayD :=
  if a.act % 7 = 0 then ⟨openD (crashD p.d a.k0 a.k1), openM (crashD p.d a.k0 a.k1), (openM (crashD p.d a.k0 a.k1)).recs, [], p.ok && survB p a.k0 a.k1⟩
  else if a.act % 7 = 1 then ⟨syncD p.d, p.m, p.m.recs, [], p.ok⟩
  else if a.act % 7 = 2 then
    if packE p.d p.m = 0 then ⟨(packL p.d p.m).getD 3 noDrive, packM p.d p.m, (packM p.d p.m).recs, [], p.ok && recsEqB (packM p.d p.m).recs p.m.recs⟩ else badPlay
  else if a.act % 7 = 3 then ⟨openD p.d, openM p.d, (openM p.d).recs, [], p.ok && (decide (openE p.d = 0) && memEqB (openM p.d) p.m)⟩
  else if appE p.d p.m (madeR p.m.recs a.x) = 0 then ⟨appD p.d p.m (madeR p.m.recs a.x), appM p.d p.m (madeR p.m.recs a.x), p.firm, p.later ++ [madeR p.m.recs a.x], p.ok⟩
  else ⟨p.d, p.m, p.firm, p.later, p.ok && (decide (appE p.d p.m (madeR p.m.recs a.x) = 2) && decide (p.m.recs.length = 80))⟩
/-- What holds of a play of N acts. -/
structure PlayOk (p : PlayD) (l : List Rec) (k : Nat) (cnt : Int) (N : Nat) : Prop where
  jour : Jour p.d p.m l k cnt
  firm : p.firm = ordL (l.take k)
  later : p.later = l.drop k
  ok : p.ok = true
  seqs : ∀ r ∈ l, r.sq < N
  many : l.length ≤ N
  gen : p.m.gen ≤ 1 + N
theorem recOk_seq {r : Rec} (h : recOk r = true) : 0 ≤ r.sq := by
  simp only [recOk, isPlaceB, Bool.and_eq_true, inB_spec] at h
  omega
theorem PlayOk.surv {p : PlayD} {l : List Rec} {k : Nat} {cnt : Int} {N : Nat} (h : PlayOk p l k cnt N) (n n' : Int) : survB p n n' = true := by
  obtain ⟨j, h1, h2, h3, h4, _⟩ := h.jour.crash n n'
  simp only [survB, Bool.and_eq_true, decide_eq_true_eq]
  refine ⟨h3, ?_⟩
  rw [h4, h.firm, h.later]
  exact begins_take h.jour.apart h2 _ k rfl h1
theorem PlayOk.of_firm {d : DriveD} {m : MemD} {l : List Rec} {cnt : Int} {N : Nat} (h : Jour d m l l.length cnt) (hs : ∀ r ∈ l, r.sq < N) (hm : l.length ≤ N) (hg : m.gen ≤ 1 + N) {b : Bool} (hb : b = true) :
    PlayOk ⟨d, m, m.recs, [], b⟩ l l.length cnt N where
  jour := h
  firm := by rw [List.take_length]; exact h.recs
  later := by rw [List.drop_length]
  ok := hb
  seqs := hs
  many := hm
  gen := hg
theorem PlayOk.done {p : PlayD} {l : List Rec} {k : Nat} {cnt : Int} {N : Nat} (h : PlayOk p l k cnt N) (hN : N < 80) (a : ActD) : ∃ l' k' cnt', PlayOk (doneP p a) l' k' cnt' (N + 1) := by
  have hgen := h.gen
  have hmany := h.many
  have hseq : ∀ r ∈ l, r.sq < ((N + 1 : Nat) : Int) := fun r hr => by have := h.seqs r hr; omega
  unfold doneP
  split
  · obtain ⟨j, h1, h2, h3, h4, h5⟩ := h.jour.crash a.k0 a.k1
    have hlen : (l.take j).length = j := by rw [List.length_take]; omega
    have h5' : Jour (openD (crashD p.d a.k0 a.k1)) (openM (crashD p.d a.k0 a.k1)) (l.take j) (l.take j).length cnt := by rw [hlen]; exact h5
    exact ⟨_, _, _, PlayOk.of_firm h5' (fun r hr => hseq r (List.mem_of_mem_take hr)) (by omega) (by rw [h4]; simp only; omega) (by rw [h.ok, h.surv]; rfl)⟩
  · split
    · have hj := h.jour.sync
      rw [← syncD_ok h.jour.drive] at hj
      exact ⟨_, _, _, PlayOk.of_firm hj hseq (by omega) (by omega) h.ok⟩
    · split
      · obtain ⟨he, hM, d0, d1, d2, d3, hL, _, _, _, _, hJ⟩ := h.jour.pack (by omega)
        rw [if_pos he, hL]
        have hp := ordL_perm l
        have hr : (packM p.d p.m).recs = p.m.recs := by rw [hM]
        have hJ' : Jour d3 (packM p.d p.m) p.m.recs p.m.recs.length p.m.recs.length := hJ
        refine ⟨_, _, _, PlayOk.of_firm hJ' ?_ ?_ ?_ ?_⟩
        · intro r hr'
          exact hseq r (hp.mem_iff.1 (h.jour.recs ▸ hr'))
        · rw [h.jour.recs, hp.length_eq]; omega
        · rw [hM]; simp only; omega
        · rw [h.ok, hr, recsEqB_iff.2 rfl]; rfl
      · split
        · obtain ⟨h1, h2, h3⟩ := h.jour.reopen
          exact ⟨_, _, _, PlayOk.of_firm h3 hseq (by omega) (by rw [h2]; omega) (by rw [h.ok, h1, h2, memEqB_iff.2 rfl]; rfl)⟩
        · have hs : Sorted p.m.recs := by rw [h.jour.recs]; exact ordL_sorted h.jour.apart
          have hp := ordL_perm l
          have hbd := nextN_bound (N := N) (by omega) p.m.recs (a.x.a0 % 4) (fun r hr => by
            have hr' := hp.mem_iff.1 (h.jour.recs ▸ hr)
            exact ⟨recOk_seq (h.jour.ok r hr'), h.seqs r hr'⟩)
          have hok := madeR_ok p.m.recs a.x hbd.1 (by omega)
          obtain ⟨h1, h2, h3⟩ := h.jour.append hok (by rw [madeR_ao, madeR_sq]; exact has_next hs _) (by omega)
          rw [if_pos h1]
          have hle := h.jour.le
          refine ⟨l ++ [madeR p.m.recs a.x], k, cnt, h2, ?_, ?_, h.ok, ?_, by simp; omega, ?_⟩
          · rw [List.take_append_of_le_length hle]; exact h.firm
          · rw [List.drop_append_of_le_length hle, h.later]
          · intro r hr
            rcases List.mem_append.1 hr with hr | hr
            · exact hseq r hr
            · rw [List.mem_singleton] at hr; subst hr
              rw [madeR_sq]; omega
          · have : (appM p.d p.m (madeR p.m.recs a.x)).gen = p.m.gen := by rw [appM, if_pos h1]
            simp only
            rw [this]; omega
def newPlay : PlayD := ⟨newDrive, newMem, [], [], true⟩
theorem new_play : PlayOk newPlay [] 0 0 0 where
  jour := new_jour
  firm := rfl
  later := rfl
  ok := rfl
  seqs := by simp
  many := Nat.le_refl _
  gen := Int.le_refl _
theorem PlayOk.run {p : PlayD} {l : List Rec} {k : Nat} {cnt : Int} {N : Nat} (h : PlayOk p l k cnt N) : ∀ (acts : List ActD), N + acts.length ≤ 80 → ∃ l' k' cnt', PlayOk (acts.foldl doneP p) l' k' cnt' (N + acts.length)
  | [], _ => ⟨l, k, cnt, h⟩
  | a :: acts, hN => by
    simp only [List.length_cons] at hN
    obtain ⟨l', k', c', h'⟩ := h.done (by omega) a
    obtain ⟨l2, k2, c2, h2⟩ := h'.run acts (by omega)
    refine ⟨l2, k2, c2, ?_⟩
    rw [List.foldl_cons, List.length_cons, show N + (acts.length + 1) = N + 1 + acts.length from by omega]
    exact h2
termination_by acts => acts.length
/-- Behind n acts. -/
def playN (acts : List ActD) (n : Nat) : PlayD := (acts.take n).foldl doneP newPlay
theorem playN_ok (acts : List ActD) (n : Nat) (hn : n ≤ 80) : ∃ l k cnt, PlayOk (playN acts n) l k cnt (acts.take n).length := by
  have h := new_play.run (acts.take n) (by rw [List.length_take]; omega)
  rw [Nat.zero_add] at h
  exact h
theorem playN_succ (acts : List ActD) (n : Nat) (h : n < acts.length) : playN acts (n + 1) = doneP (playN acts n) acts[n] := by
  unfold playN
  rw [List.take_succ_eq_append_getElem h, List.foldl_append]
  rfl
theorem playN_true (acts : List ActD) (n : Nat) (hn : n ≤ 80) : (playN acts n).ok = true := by
  obtain ⟨_, _, _, h⟩ := playN_ok acts n hn
  exact h.ok
theorem playN_surv (acts : List ActD) (n : Nat) (hn : n ≤ 80) (x y : Int) : survB (playN acts n) x y = true := by
  obtain ⟨_, _, _, h⟩ := playN_ok acts n hn
  exact h.surv x y
theorem playN_pack (acts : List ActD) (n : Nat) (hn : n ≤ 80) : packE (playN acts n).d (playN acts n).m = 0 ∧ packM (playN acts n).d (playN acts n).m = ⟨(playN acts n).m.recs, 1 - (playN acts n).m.file, (playN acts n).m.gen + 1⟩ ∧
    ∃ d0 d1 d2 d3, packL (playN acts n).d (playN acts n).m = [d0, d1, d2, d3] ∧ openE d3 = 0 ∧ openM d3 = packM (playN acts n).d (playN acts n).m ∧
      ∀ x ∈ [d0, d1, d2, d3], ∀ i j, openE (crashD x i j) = 0 ∧ (openM (crashD x i j)).recs = (playN acts n).m.recs ∧ openE x = 0 ∧ (openM x).recs = (playN acts n).m.recs := by
  obtain ⟨_, _, _, h⟩ := playN_ok acts n hn
  have hg := h.gen
  have ht : (acts.take n).length ≤ 80 := by rw [List.length_take]; omega
  obtain ⟨he, hM, d0, d1, d2, d3, hL, _, _, _, _, hJ⟩ := h.jour.pack (by omega)
  obtain ⟨h1, h2, _⟩ := hJ.reopen
  refine ⟨he, hM, d0, d1, d2, d3, hL, h1, h2, ?_⟩
  intro x hx i j
  exact h.jour.packing (by omega) x (hL ▸ hx) i j
end Go.Proofs.YtekjdeibnfaehaaGreat
