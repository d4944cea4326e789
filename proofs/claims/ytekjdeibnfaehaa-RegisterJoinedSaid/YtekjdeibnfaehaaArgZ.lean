/- What comes in: numbers in a slice, no more than the reach. -/
import Derived.Test.YtekjdeibnfaehaaArgs
set_option linter.unusedSimpArgs false
set_option linter.unusedVariables false
namespace Go.Proofs.Ytekjdeibnfaehaa
open Go Go.RowKit Go.ChangeShapes Go.WideShapes Go.ChangeAt Go.Deep

section
variable {H : Type} {enc : TypeId × Value → H} {W : World} {b : Nat} {sp : Nat → Bool} {hd : Bool}
theorem bO_int : Try.prog.bytesOf 3 = 8 := by kernel_rfl
set_option maxRecDepth 100000 in
theorem open_intsz {v : Value} {d : DataW H} {p : List MemPlace} {r0 : Reach} {b0 : Nat} (hv : Value.okWide Try.prog W r0 b0 85 v) (h : DataW.Trod enc Try.prog W b sp hd 85 v d p) :
    ∃ A n c, ∃ l : List Int, v = .slice A n c ∧ l.length = n ∧ Ints W A l ∧ (Under reachBytes 85 d → n ≤ 4611686018427387904) := by
  obtain ⟨A, n, c, l, rfl, h1, h2, h3, h4, h5⟩ := open_ints hv h
  refine ⟨A, n, c, l, rfl, h1, h5, fun hu => ?_⟩
  obtain ⟨fuel, hf⟩ := h
  rcases open_slice1 Try.underlying85 cT_int hf with ⟨hc, _⟩ | ⟨a, len, cap, m, k, V, D, Pl, hc, _, hlc, hcm, hm, hxe, hx⟩
  · simp only [Value.cells, List.cons.injEq, Value.slice.injEq, and_true] at hc
    omega
  · simp only [Value.cells, List.cons.injEq, Value.slice.injEq, and_true] at hc
    have hlm : len ≤ m := by rw [hm]; split <;> omega
    have hd1 : d = .slice ((List.range len).map D) ((List.range (m - len)).map fun j => D (len + j)) := congrArg Prod.fst hxe
    have h9 := hu ((len + (m - len)) * 8) (by
      rw [hd1]
      simp [DataW.weights, Try.underlying85, bO_int])
    have := reach_small
    omega
end
end Go.Proofs.Ytekjdeibnfaehaa
