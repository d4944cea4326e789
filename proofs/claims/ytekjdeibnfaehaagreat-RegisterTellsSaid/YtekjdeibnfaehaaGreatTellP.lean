/- Plain facts: which records stand, the reference's way; who holds a lease; free days. No program. -/
import Derived.Test.YtekjdeibnfaehaaGreatPlain
import Derived.Test.YtekjdeibnfaehaaGreatNext
import Derived.Test.YtekjdeibnfaehaaGreatRuns
set_option linter.unusedSimpArgs false
set_option linter.unusedVariables false
namespace Go.Proofs.YtekjdeibnfaehaaGreat
open Go.RowKit

/-- Record j is a standing withdrawal of a place. -/
def hitJ (l : List Rec) (o s : Int) (j : Nat) : Bool := match l[j]?, (standL l)[j]? with
  | some r, some b => decide (r.kind = 0) && (decide (r.wo = o) && decide (r.ws = s)) && b
  | _, _ => false
theorem hitJ_at {l : List Rec} {o s : Int} {j : Nat} {r : Rec} {b : Bool} (h : l[j]? = some r) (hb : (standL l)[j]? = some b) : hitJ l o s j = (decide (r.kind = 0) && (decide (r.wo = o) && decide (r.ws = s)) && b) := by
  simp only [hitJ, h, hb]
def hitW (l : List Rec) (o s : Int) (m K : Nat) : Bool := (List.range K).any fun j => decide (m < j) && hitJ l o s j
theorem hitW_start (l : List Rec) (o s : Int) (m : Nat) : hitW l o s m (m + 1) = false := by
  rw [hitW, List.any_eq_false]
  intro j hj
  rw [List.mem_range] at hj
  simp only [Bool.and_eq_true, decide_eq_true_eq]
  omega
theorem hitW_succ {l : List Rec} {o s : Int} {m K : Nat} (h : m < K) : hitW l o s m (K + 1) = (hitW l o s m K || hitJ l o s K) := by
  simp [hitW, List.range_succ, List.any_append, h]
theorem standL_drop : ∀ (k : Nat) (l : List Rec), standL (l.drop k) = (standL l).drop k
  | 0, l => rfl
  | k + 1, [] => by simp [standL, standG]
  | k + 1, r :: l => by rw [standL_cons, List.drop_succ_cons, List.drop_succ_cons, standL_drop k l]
theorem hitW_done {l : List Rec} {o s : Int} {m : Nat} (hm : m < l.length) : hitW l o s m l.length = (goneL (l.drop (m + 1))).contains (o, s) := by
  rw [Bool.eq_iff_iff, List.contains_iff_mem, goneL_mem, hitW, List.any_eq_true]
  have hsl := standL_length l
  constructor
  · rintro ⟨j, hj, h⟩
    rw [List.mem_range] at hj
    simp only [Bool.and_eq_true, decide_eq_true_eq] at h
    have hb : j < (standL l).length := by omega
    rw [hitJ_at (List.getElem?_eq_getElem hj) (List.getElem?_eq_getElem hb)] at h
    simp only [Bool.and_eq_true, decide_eq_true_eq] at h
    obtain ⟨h0, ⟨h1, h2, h3⟩, h4⟩ := h
    refine ⟨j - (m + 1), by rw [List.length_drop]; omega, ?_, ?_, ?_⟩
    · rw [List.getElem_drop]; simpa [show m + 1 + (j - (m + 1)) = j from by omega] using h1
    · rw [List.getElem_drop]; simp [show m + 1 + (j - (m + 1)) = j from by omega, h2, h3]
    · rw [standL_drop, List.getElem?_drop, show m + 1 + (j - (m + 1)) = j from by omega, List.getElem?_eq_getElem hb, h4]
  · rintro ⟨j, hj, h1, h2, h3⟩
    rw [List.length_drop] at hj
    rw [List.getElem_drop] at h1 h2
    rw [standL_drop, List.getElem?_drop] at h3
    refine ⟨m + 1 + j, List.mem_range.2 (by omega), ?_⟩
    rw [hitJ_at (List.getElem?_eq_getElem (by omega)) h3]
    simp only [Prod.mk.injEq] at h2
    simp only [Bool.and_eq_true, decide_eq_true_eq]
    exact ⟨by omega, ⟨h1, h2.1, h2.2⟩, trivial⟩
/-- What the inner loop has found behind K. -/
def standK (l : List Rec) (m K : Nat) (r : Rec) : Bool := decide (r.kind = 1) || !hitW l r.ao r.sq m K
theorem standK_done {l : List Rec} {m : Nat} (hm : m < l.length) (r : Rec) : standK l m l.length r = standAt l m r := by
  rw [standK, standAt, hitW_done hm]
theorem standK_start (l : List Rec) (m : Nat) (r : Rec) : standK l m (m + 1) r = true := by
  rw [standK, hitW_start]; simp
theorem standK_lease {l : List Rec} {m K : Nat} {r : Rec} (h : (r.kind == 1) = true) : standK l m K r = true := by
  rw [standK, decide_eq_true (by simpa using h)]; rfl
/-- A lease on a ship on a day. -/
def lsB (s d : Int) (r : Rec) : Bool := decide (r.kind = 1) && (decide (r.ship = s) && inB d r.day r.til)
def heldR (l : List Rec) (s d : Int) : Option Rec := l.find? (lsB s d)
def heldI (l : List Rec) (s d : Int) : Int := if l.any (lsB s d) = true then (l.findIdx (lsB s d) : Nat) else -1
theorem heldI_hit {l : List Rec} {s d : Int} {k : Nat} (hk : k < l.length) (h : lsB s d l[k] = true) (hno : ∀ t (ht : t < l.length), t < k → lsB s d l[t] = false) : heldI l s d = k := by
  have hh : l.any (lsB s d) = true := List.any_eq_true.2 ⟨_, List.getElem_mem hk, h⟩
  rw [heldI, if_pos hh, (List.findIdx_eq hk).2 ⟨h, fun j hj => hno j (by omega) hj⟩]
theorem heldI_none {l : List Rec} {s d : Int} (hno : ∀ t (ht : t < l.length), lsB s d l[t] = false) : heldI l s d = -1 := by
  have hh : l.any (lsB s d) = false := by
    rw [List.any_eq_false]
    intro x hx
    obtain ⟨t, ht, rfl⟩ := List.getElem_of_mem hx
    rw [hno t ht]; simp
  rw [heldI, hh]; rfl
theorem heldR_hit {l : List Rec} {s d : Int} {k : Nat} (hk : k < l.length) (h : lsB s d l[k] = true) (hno : ∀ t (ht : t < l.length), t < k → lsB s d l[t] = false) : heldR l s d = some l[k] := by
  rw [heldR, List.find?_eq_some_iff_append]
  refine ⟨h, l.take k, l.drop (k + 1), by rw [List.getElem_cons_drop]; exact (List.take_append_drop k l).symm, ?_⟩
  intro x hx
  obtain ⟨j, hj, rfl⟩ := List.mem_take_iff_getElem.1 hx
  rw [hno j (by omega) (by omega)]; rfl
theorem heldR_none {l : List Rec} {s d : Int} (hno : ∀ t (ht : t < l.length), lsB s d l[t] = false) : heldR l s d = none := by
  rw [heldR, List.find?_eq_none]
  intro x hx
  obtain ⟨t, ht, rfl⟩ := List.getElem_of_mem hx
  rw [hno t ht]; simp
theorem held_cases (l : List Rec) (s d : Int) : (∃ (k : Nat) (h : k < l.length), heldI l s d = k ∧ heldR l s d = some l[k] ∧ lsB s d l[k] = true) ∨ (heldI l s d = -1 ∧ heldR l s d = none ∧ ∀ r ∈ l, lsB s d r = false) := by
  cases h : l.any (lsB s d) with
  | true =>
    have hlt : l.findIdx (lsB s d) < l.length := by rw [List.findIdx_lt_length]; exact List.any_eq_true.1 h
    have h1 : lsB s d l[l.findIdx (lsB s d)] = true := List.findIdx_getElem
    have hno : ∀ t (ht : t < l.length), t < l.findIdx (lsB s d) → lsB s d l[t] = false := fun t ht h2 => by
      have := List.not_of_lt_findIdx h2
      simpa using this
    exact .inl ⟨_, hlt, heldI_hit hlt h1 hno, heldR_hit hlt h1 hno, h1⟩
  | false =>
    rw [List.any_eq_false] at h
    have hno : ∀ r ∈ l, lsB s d r = false := fun r hr => by simpa using h r hr
    exact .inr ⟨heldI_none fun t ht => hno _ (List.getElem_mem ht), heldR_none fun t ht => hno _ (List.getElem_mem ht), hno⟩
def holdE (l : List Rec) (s d : Int) : Int := if checkB l = true then if inB s 1 999 = true then if inB d 0 100000 = true then if (heldR l s d).isSome = true then 0 else 3 else 6 else 1 else 71
def holdN (l : List Rec) (s d : Int) : Int := if holdE l s d = 0 then ((heldR l s d).map Rec.to).getD 0 else 0
/-- The leases on a ship. -/
def onShip (s : Int) (r : Rec) : Bool := decide (r.kind = 1) && decide (r.ship = s)
def leasesOf (l : List Rec) (s : Int) : List (Int × Int) := (l.filter (onShip s)).map fun r => (r.day, r.til)
theorem leasesOf_snoc (l : List Rec) (r : Rec) (s : Int) : leasesOf (l ++ [r]) s = leasesOf l s ++ if onShip s r = true then [(r.day, r.til)] else [] := by
  unfold leasesOf
  rw [List.filter_append, List.map_append]
  cases h : onShip s r <;> simp [h]
theorem leasesOf_take (l : List Rec) (s : Int) {k : Nat} (hk : k < l.length) : leasesOf (l.take (k + 1)) s = leasesOf (l.take k) s ++ if onShip s l[k] = true then [(l[k].day, l[k].til)] else [] := by
  rw [List.take_succ_eq_append_getElem hk, leasesOf_snoc]
theorem leasesOf_mem {l : List Rec} {s : Int} {p : Int × Int} : p ∈ leasesOf l s ↔ ∃ r ∈ l, onShip s r = true ∧ p = (r.day, r.til) := by
  simp only [leasesOf, List.mem_map, List.mem_filter]
  constructor
  · rintro ⟨r, ⟨h1, h2⟩, rfl⟩; exact ⟨r, h1, h2, rfl⟩
  · rintro ⟨r, h1, h2, rfl⟩; exact ⟨r, ⟨h1, h2⟩, rfl⟩
theorem lsB_iff {s d : Int} {r : Rec} : lsB s d r = true ↔ onShip s r = true ∧ r.day ≤ d ∧ d ≤ r.til := by
  simp only [lsB, onShip, Bool.and_eq_true, decide_eq_true_eq, inB_spec, and_assoc]
theorem heldP_iff {l : List Rec} {s d : Int} : heldP (leasesOf l s) d ↔ ∃ r ∈ l, lsB s d r = true := by
  constructor
  · rintro ⟨p, hp, h⟩
    obtain ⟨r, hr, h1, rfl⟩ := leasesOf_mem.1 hp
    exact ⟨r, hr, lsB_iff.2 ⟨h1, h⟩⟩
  · rintro ⟨r, hr, h⟩
    obtain ⟨h1, h⟩ := lsB_iff.1 h
    exact ⟨_, leasesOf_mem.2 ⟨r, hr, h1, rfl⟩, h⟩
theorem freeP_snoc (P : List (Int × Int)) (p : Int × Int) (a b : Int) : freeP (P ++ [p]) a b = cutL (freeP P a b) p.1 p.2 := by
  simp [freeP, List.foldl_append]
theorem free_take (l : List Rec) (s a b : Int) {k : Nat} (hk : k < l.length) : freeP (leasesOf (l.take (k + 1)) s) a b = if onShip s l[k] = true then cutL (freeP (leasesOf (l.take k) s) a b) l[k].day l[k].til else freeP (leasesOf (l.take k) s) a b := by
  rw [leasesOf_take l s hk]
  cases h : onShip s l[k]
  · simp
  · simp [freeP_snoc]
theorem lease_days {r : Rec} (h : recOk r = true) {s : Int} (hs : onShip s r = true) : 0 ≤ r.day ∧ r.day ≤ r.til ∧ r.til ≤ 100000 := by
  simp only [onShip, Bool.and_eq_true, decide_eq_true_eq] at hs
  have hm : ∀ a b : Int, minI a b ≤ a := fun a b => by unfold minI; split <;> omega
  have := hm 100000 (r.day + 399)
  simp only [recOk, kindB, hs.1, show ¬((1 : Int) = 0) from by decide, if_false, if_true, leaseB, Bool.and_eq_true, decide_eq_true_eq, inB_spec] at h
  omega
theorem leases_ok {l : List Rec} (h : ∀ r ∈ l, recOk r = true) (s : Int) : ∀ p ∈ leasesOf l s, p.1 ≤ p.2 := by
  intro p hp
  obtain ⟨r, hr, h1, rfl⟩ := leasesOf_mem.1 hp
  exact (lease_days (h r hr) h1).2.1
def freeE (l : List Rec) (s a b : Int) : Int := if checkB l = true then if inB s 1 999 = true then if (inB a 0 100000 && inB b 0 100000) = true then if b < a then 1 else 0 else 6 else 1 else 71
def freeR (l : List Rec) (s a b : Int) : List (Int × Int) := if freeE l s a b = 0 then freeP (leasesOf l s) a b else []
theorem cutL_length (a b : Int) : ∀ L : List (Int × Int), (cutL L a b).length ≤ 2 * L.length
  | [] => Nat.le_refl _
  | x :: L => by
    have := cutL_length a b L
    have h1 : (cutR a b x).length ≤ 2 := by unfold cutR; (repeat' split) <;> simp
    show (cutR a b x ++ cutL L a b).length ≤ _
    rw [List.length_append, List.length_cons]
    omega
end Go.Proofs.YtekjdeibnfaehaaGreat
