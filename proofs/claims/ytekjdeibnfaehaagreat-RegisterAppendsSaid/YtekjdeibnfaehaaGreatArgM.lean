/- What comes in: memories. -/
import Derived.Test.YtekjdeibnfaehaaGreatArgD
set_option linter.unusedSimpArgs false
set_option linter.unusedVariables false
namespace Go.Proofs.YtekjdeibnfaehaaGreat
open Go Go.RowKit Go.ChangeShapes Go.WideShapes Go.ChangeAt Go.Deep

section
variable {H : Type} {enc : TypeId × Value → H} {W : World} {b : Nat} {sp : Nat → Bool} {hd : Bool}
theorem cT_mem : Tryz.prog.cellsOf 36 = 3 := by kernel_rfl
set_option maxRecDepth 100000 in
theorem reg_cells {fuel : Nat} {c : List Value} {x : DataW H × List MemPlace} (h : DataW.trod enc Tryz.prog W b sp hd fuel 34 c = some x) :
    ∃ A n cp, ∃ l : List Rec, c = [.slice A n cp] ∧ l.length = n ∧ n ≤ cp ∧ cp ≤ maxLen ∧ TxtBig l ∧ Recs W A l := by
  obtain ⟨xs, m, _, _, hl, hlen, hff⟩ := DataW.trod_struct Tryz.underlying34 h
  rw [cT_reg] at hl
  have h0 : DataW.trod enc Tryz.prog W b sp hd m 32 ((c.drop 0).take (Tryz.prog.cellsOf 32)) = xs[0]? := hff 0 _ rfl
  rw [List.getElem?_eq_getElem (by have h9 : xs.length = 1 := hlen; omega), cT_recs] at h0
  obtain ⟨A, n, cp, l, he, h1, h2, h3, h4, h5⟩ := open_recs h0
  match c, hl with
  | [c0], _ =>
    simp only [List.drop_zero, List.take_succ_cons, List.take_zero, List.cons.injEq, and_true] at he
    exact ⟨A, n, cp, l, by rw [he], h1, h2, h3, h4, h5⟩
set_option maxRecDepth 100000 in
theorem mem_cells {fuel : Nat} {c : List Value} {x : DataW H × List MemPlace} (h : DataW.trod enc Tryz.prog W b sp hd fuel 36 c = some x) :
    ∃ A n cp f g, ∃ l : List Rec, c = [.slice A n cp, .int .i64 f, .int .i64 g] ∧ l.length = n ∧ n ≤ cp ∧ cp ≤ maxLen ∧ TxtBig l ∧ Recs W A l := by
  obtain ⟨xs, m, _, _, hl, hlen, hf⟩ := DataW.trod_struct Tryz.underlying36 h
  rw [cT_mem] at hl
  have h0 : DataW.trod enc Tryz.prog W b sp hd m 34 ((c.drop 0).take (Tryz.prog.cellsOf 34)) = xs[0]? := hf 0 _ rfl
  have h1 : DataW.trod enc Tryz.prog W b sp hd m 3 ((c.drop 1).take (Tryz.prog.cellsOf 3)) = xs[1]? := hf 1 _ rfl
  have h2 : DataW.trod enc Tryz.prog W b sp hd m 3 ((c.drop 2).take (Tryz.prog.cellsOf 3)) = xs[2]? := hf 2 _ rfl
  have hsz : xs.length = 3 := hlen
  rw [List.getElem?_eq_getElem (by omega)] at h0 h1 h2
  rw [cT_reg] at h0
  rw [cT_int] at h1 h2
  obtain ⟨A, n, cp, l, e0, k1, k2, k3, k4, k5⟩ := reg_cells h0
  obtain ⟨f, e1⟩ := int_cell h1
  obtain ⟨g, e2⟩ := int_cell h2
  match c, hl with
  | [c0, c1, c2], _ =>
    simp only [List.drop_zero, List.drop_succ_cons, List.take_succ_cons, List.take_zero, List.cons.injEq, and_true] at e0 e1 e2
    exact ⟨A, n, cp, f, g, l, by rw [e0, e1, e2], k1, k2, k3, k4, k5⟩
set_option maxRecDepth 100000 in
theorem open_mem {v : Value} {d : DataW H} {p : List MemPlace} {r0 : Reach} {b0 : Nat} (hv : Value.okWide Tryz.prog W r0 b0 36 v) (h : DataW.Trod enc Tryz.prog W b sp hd 36 v d p) :
    ∃ A n c f g, ∃ l : List Rec, v = memV A n c f g ∧ l.length = n ∧ n ≤ c ∧ c ≤ maxLen ∧ TxtBig l ∧ Recs W A l := by
  obtain ⟨cs, rfl, _⟩ := okWide_struct Tryz.underlying36 hv
  obtain ⟨fuel, hf⟩ := h
  obtain ⟨A, n, c, f, g, l, e, h1, h2, h3, h4, h5⟩ := mem_cells hf
  refine ⟨A, n, c, f, g, l, ?_, h1, h2, h3, h4, h5⟩
  have : cs = #[.slice A n c, .int .i64 f, .int .i64 g] := by
    apply Array.ext'
    exact e
  rw [this]
end
end Go.Proofs.YtekjdeibnfaehaaGreat
