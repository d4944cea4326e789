/- Texts of a proof. -/
import Derived.Test.YtekjdeibnfaehaaGreatKBad
import Derived.Test.YtekjdeibnfaehaaGreatKBak
import Derived.Test.YtekjdeibnfaehaaGreatKBbm
/- Plain facts: which records stand, the reference's way; who holds a lease; free days. No program. -/
set_option linter.unusedSimpArgs false
set_option linter.unusedVariables false
namespace Go.Proofs.YtekjdeibnfaehaaGreat
open Go.RowKit

/-- A lease on a ship on a day. -/
def lsB (s d : Int) (r : Rec) : Bool := decide (r.kind = 1) && (decide (r.ship = s) && inB d r.day r.til)
def heldR (l : List Rec) (s d : Int) : Option Rec := l.find? (lsB s d)
def heldI (l : List Rec) (s d : Int) : Int := if l.any (lsB s d) = true then (l.findIdx (lsB s d) : Nat) else -1
theorem heldI_hit {l : List Rec} {s d : Int} {k : Nat} (hk : k < l.length) (h : lsB s d l[k] = true) (hno : ∀ t (ht : t < l.length), t < k → lsB s d l[t] = false) : heldI l s d = k := by
  have hh : l.any (lsB s d) = true := List.any_eq_true.2 ⟨_, List.getElem_mem hk, h⟩
  rw [heldI, if_pos hh, (List.findIdx_eq hk).2 ⟨h, fun j hj => hno j (by omega) hj⟩]
theorem heldI_none {l : List Rec} {s d : Int} (hno : ∀ t (ht : t < l.length), lsB s d l[t] = false) : heldI l s d = -1 := by
  have hh : l.any (lsB s d) = false := by
    rw [List.any_eq_false]
    intro x hx
    obtain ⟨t, ht, rfl⟩ := List.getElem_of_mem hx
    rw [hno t ht]; simp
  rw [heldI, hh]; rfl
theorem heldR_hit {l : List Rec} {s d : Int} {k : Nat} (hk : k < l.length) (h : lsB s d l[k] = true) (hno : ∀ t (ht : t < l.length), t < k → lsB s d l[t] = false) : heldR l s d = some l[k] := by
  rw [heldR, List.find?_eq_some_iff_append]
  refine ⟨h, l.take k, l.drop (k + 1), by rw [List.getElem_cons_drop]; exact (List.take_append_drop k l).symm, ?_⟩
  intro x hx
  obtain ⟨j, hj, rfl⟩ := List.mem_take_iff_getElem.1 hx
  rw [hno j (by omega) (by omega)]; rfl
theorem heldR_none {l : List Rec} {s d : Int} (hno : ∀ t (ht : t < l.length), lsB s d l[t] = false) : heldR l s d = none := by
  rw [heldR, List.find?_eq_none]
  intro x hx
  obtain ⟨t, ht, rfl⟩ := List.getElem_of_mem hx
  rw [hno t ht]; simp
def holdE (l : List Rec) (s d : Int) : Int := if checkB l = true then if inB s 1 999 = true then if inB d 0 100000 = true then if (heldR l s d).isSome = true then 0 else 3 else 6 else 1 else 71
def holdN (l : List Rec) (s d : Int) : Int := if holdE l s d = 0 then ((heldR l s d).map Rec.to).getD 0 else 0
end Go.Proofs.YtekjdeibnfaehaaGreat
