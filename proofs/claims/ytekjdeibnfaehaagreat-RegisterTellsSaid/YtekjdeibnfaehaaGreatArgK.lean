/- What comes in: a place, a ship and days. -/
import Derived.Test.YtekjdeibnfaehaaGreatArg
set_option linter.unusedSimpArgs false
set_option linter.unusedVariables false
namespace Go.Proofs.YtekjdeibnfaehaaGreat
open Go Go.RowKit Go.ChangeShapes Go.WideShapes Go.ChangeAt Go.Deep

section
variable {H : Type} {enc : TypeId × Value → H} {W : World} {b : Nat} {sp : Nat → Bool} {hd : Bool}
theorem cT_ask : Tryz.prog.cellsOf 54 = 5 := by kernel_rfl
set_option maxRecDepth 100000 in
theorem ask_cells {n : Nat} {c : List Value} {x : DataW H × List MemPlace} (h : DataW.trod enc Tryz.prog W b sp hd n 54 c = some x) : ∃ o s p d t : Int, c = [.int .i64 o, .int .i64 s, .int .i64 p, .int .i64 d, .int .i64 t] := by
  obtain ⟨xs, m, _, _, hl, hlen, hf⟩ := DataW.trod_struct Tryz.underlying54 h
  rw [cT_ask] at hl
  have h0 : DataW.trod enc Tryz.prog W b sp hd m 44 ((c.drop 0).take (Tryz.prog.cellsOf 44)) = xs[0]? := hf 0 _ rfl
  have h1 : DataW.trod enc Tryz.prog W b sp hd m 3 ((c.drop 2).take (Tryz.prog.cellsOf 3)) = xs[1]? := hf 1 _ rfl
  have h2 : DataW.trod enc Tryz.prog W b sp hd m 3 ((c.drop 3).take (Tryz.prog.cellsOf 3)) = xs[2]? := hf 2 _ rfl
  have h3 : DataW.trod enc Tryz.prog W b sp hd m 3 ((c.drop 4).take (Tryz.prog.cellsOf 3)) = xs[3]? := hf 3 _ rfl
  have hsz : xs.length = 4 := hlen
  rw [List.getElem?_eq_getElem (by omega)] at h0 h1 h2 h3
  rw [cT_int] at h1 h2 h3
  rw [cT_plc] at h0
  obtain ⟨o, s, e0⟩ := plc_cells h0
  obtain ⟨k1, e1⟩ := int_cell h1
  obtain ⟨k2, e2⟩ := int_cell h2
  obtain ⟨k3, e3⟩ := int_cell h3
  match c, hl with
  | [c0, c1, c2, c3, c4], _ =>
    simp only [List.drop_zero, List.drop_succ_cons, List.take_succ_cons, List.take_zero, List.cons.injEq, and_true] at e0 e1 e2 e3
    exact ⟨o, s, k1, k2, k3, by rw [e0.1, e0.2, e1, e2, e3]⟩
set_option maxRecDepth 100000 in
theorem open_ask {v : Value} {d : DataW H} {p : List MemPlace} {r0 : Reach} {b0 : Nat} (hv : Value.okWide Tryz.prog W r0 b0 54 v) (h : DataW.Trod enc Tryz.prog W b sp hd 54 v d p) :
    ∃ o s k d2 t : Int, v = .agg #[.int .i64 o, .int .i64 s, .int .i64 k, .int .i64 d2, .int .i64 t] := by
  obtain ⟨cs, rfl, _⟩ := okWide_struct Tryz.underlying54 hv
  obtain ⟨n, hn⟩ := h
  obtain ⟨o, s, k, d2, t, hc⟩ := ask_cells hn
  refine ⟨o, s, k, d2, t, ?_⟩
  have : cs = #[.int .i64 o, .int .i64 s, .int .i64 k, .int .i64 d2, .int .i64 t] := by
    apply Array.ext'
    exact hc
  rw [this]
end
end Go.Proofs.YtekjdeibnfaehaaGreat
