/- What comes in: drives; their bytes are no more than the reach. -/
import Derived.Test.YtekjdeibnfaehaaGreatArgI
set_option linter.unusedSimpArgs false
set_option linter.unusedVariables false
namespace Go.Proofs.YtekjdeibnfaehaaGreat
open Go Go.RowKit Go.ChangeShapes Go.WideShapes Go.ChangeAt Go.Deep

section
variable {H : Type} {enc : TypeId × Value → H} {W : World} {b : Nat} {sp : Nat → Bool} {hd : Bool}
theorem cT_bytes : Tryz.prog.cellsOf 22 = 1 := by kernel_rfl
theorem cT_file : Tryz.prog.cellsOf 24 = 2 := by kernel_rfl
theorem cT_files : Tryz.prog.cellsOf 25 = 4 := by kernel_rfl
theorem cT_drv : Tryz.prog.cellsOf 27 = 4 := by kernel_rfl
theorem bO_u8 : Tryz.prog.bytesOf 5 = 1 := by kernel_rfl
set_option maxRecDepth 100000 in
theorem byts_cell {fuel : Nat} {c : List Value} {x : DataW H × List MemPlace} (hf : DataW.trod enc Tryz.prog W b sp hd fuel 22 c = some x) :
    ∃ A n cp, ∃ l : List UInt8, c = [.slice A n cp] ∧ l.length = n ∧ n ≤ cp ∧ cp ≤ maxLen ∧ Byt W A l ∧ ∀ K, Under K 22 x.1 → n ≤ K := by
  rcases open_slice1 Tryz.underlying22 cT_u8 hf with ⟨hc, _⟩ | ⟨a, len, cap, m, n, V, D, Pl, hc, _, hlc, hcm, hm, hxe, hx⟩
  · exact ⟨none, 0, 0, [], hc, rfl, Nat.le_refl _, Nat.zero_le _, Byt.nil _ _, fun _ _ => Nat.zero_le _⟩
  · have hlm : len ≤ m := by rw [hm]; split <;> omega
    obtain ⟨f, hfv⟩ := choose_lt (α := UInt8) (n := len) (p := fun i u => V i = encB u) (fun i hi => by
      obtain ⟨k, hk, _, hw⟩ := DataW.trod_int Tryz.underlying5 (hx i (by omega)).2
      simp only [List.cons.injEq, and_true] at hk
      simp only [Lit.wf, IntKind.min, IntKind.max, IntKind.signed, IntKind.bits, Bool.and_eq_true, decide_eq_true_eq] at hw
      refine ⟨UInt8.ofNat k.toNat, ?_⟩
      rw [hk]
      unfold encB
      congr 1
      simp at hw ⊢
      omega)
    refine ⟨some a, len, cap, (List.range len).map f, hc, by simp, hlc, hcm, ⟨by simp, fun hn => ?_⟩, ?_⟩
    · have h0 := (hx 0 (by simp at hn; omega)).1
      obtain ⟨g, o, ha, hg⟩ := cell_addr h0
      have ha2 : a = ⟨g, o, none⟩ := by
        unfold Addr.add at ha
        simpa using ha
      subst ha2
      refine ⟨g, o, rfl, hg, fun j u hu => ?_⟩
      have hj : j < len := by have := (List.getElem?_eq_some_iff.1 hu).1; simpa using this
      have hq := (hx j (by omega)).1
      rw [Addr.add_lit] at hq
      rw [hq]
      simp only [List.getElem?_map, List.getElem?_range hj, Option.map_some, Option.some.injEq] at hu
      rw [hfv j hj, ← hu]
    · intro K hK
      have h1 := hK (len + (m - len)) (by
        rw [hxe]
        simp [DataW.weights, Tryz.underlying22, bO_u8])
      omega
theorem file_under {K : Nat} {s i : DataW H} (h : Under K 24 (.agg [s, i])) : Under K 22 s := by
  intro n hn
  refine h n ?_
  simp only [DataW.weights, Tryz.underlying24, List.map_cons, List.map_nil, DataW.weightsEach]
  exact List.mem_append_left _ hn
theorem files_under {K : Nat} {x y : DataW H} (h : Under K 25 (.agg [x, y])) : Under K 24 x ∧ Under K 24 y := by
  constructor
  · intro n hn
    refine h n ?_
    simp only [DataW.weights, Tryz.underlying25, DataW.weightsAll]
    exact List.mem_append_left _ hn
  · intro n hn
    refine h n ?_
    simp only [DataW.weights, Tryz.underlying25, DataW.weightsAll]
    exact List.mem_append_right _ (List.mem_append_left _ hn)
theorem drv_under {K : Nat} {x : DataW H} (h : Under K 27 (.agg [x])) : Under K 25 x := by
  intro n hn
  refine h n ?_
  simp only [DataW.weights, Tryz.underlying27, List.map_cons, List.map_nil, DataW.weightsEach]
  exact List.mem_append_left _ hn
set_option maxRecDepth 100000 in
theorem file_cells {fuel : Nat} {c : List Value} {x : DataW H × List MemPlace} (h : DataW.trod enc Tryz.prog W b sp hd fuel 24 c = some x) :
    ∃ A n cp f, ∃ l : List UInt8, c = [.slice A n cp, .int .i64 f] ∧ l.length = n ∧ n ≤ cp ∧ cp ≤ maxLen ∧ Byt W A l ∧ ∀ K, Under K 24 x.1 → n ≤ K := by
  obtain ⟨xs, m, _, hxe, hl, hlen, hf⟩ := DataW.trod_struct Tryz.underlying24 h
  rw [cT_file] at hl
  have h0 : DataW.trod enc Tryz.prog W b sp hd m 22 ((c.drop 0).take (Tryz.prog.cellsOf 22)) = xs[0]? := hf 0 _ rfl
  have h1 : DataW.trod enc Tryz.prog W b sp hd m 3 ((c.drop 1).take (Tryz.prog.cellsOf 3)) = xs[1]? := hf 1 _ rfl
  have hsz : xs.length = 2 := hlen
  match xs, hsz with
  | [x0, x1], _ =>
    rw [cT_bytes] at h0
    rw [cT_int] at h1
    obtain ⟨A, n, cp, l, e0, k1, k2, k3, k4, k5⟩ := byts_cell h0
    obtain ⟨f, e1⟩ := int_cell h1
    match c, hl with
    | [c0, c1], _ =>
      simp only [List.drop_zero, List.drop_succ_cons, List.take_succ_cons, List.take_zero, List.cons.injEq, and_true] at e0 e1
      refine ⟨A, n, cp, f, l, by rw [e0, e1], k1, k2, k3, k4, fun K hK => k5 K ?_⟩
      rw [hxe] at hK
      exact file_under hK
set_option maxRecDepth 100000 in
theorem files_cells {fuel : Nat} {c : List Value} {x : DataW H × List MemPlace} (h : DataW.trod enc Tryz.prog W b sp hd fuel 25 c = some x) :
    ∃ A0 n0 c0 A1 n1 c1, ∃ D : DriveD, c = [.slice A0 n0 c0, .int .i64 D.f0.firm, .slice A1 n1 c1, .int .i64 D.f1.firm] ∧ DrvY W D A0 n0 c0 A1 n1 c1 ∧ ∀ K, Under K 25 x.1 → n0 ≤ K ∧ n1 ≤ K := by
  obtain ⟨xs, m, _, hxe, hl, hlen, hf⟩ := DataW.trod_array Tryz.underlying25 h
  rw [cT_files] at hl
  have h0 := hf 0 (by decide)
  have h1 := hf 1 (by decide)
  match xs, hlen with
  | [x0, x1], _ =>
    rw [cT_file] at h0 h1
    obtain ⟨A0, n0, c0, f0, l0, e0, k1, k2, k3, k4, k5⟩ := file_cells h0
    obtain ⟨A1, n1, c1, f1, l1, e1, j1, j2, j3, j4, j5⟩ := file_cells h1
    match c, hl with
    | [q0, q1, q2, q3], _ =>
      simp only [Nat.zero_mul, Nat.one_mul, List.drop_zero, List.drop_succ_cons, List.take_succ_cons, List.take_zero, List.cons.injEq, and_true] at e0 e1
      refine ⟨A0, n0, c0, A1, n1, c1, ⟨⟨l0, f0⟩, ⟨l1, f1⟩⟩, by rw [e0.1, e0.2, e1.1, e1.2], ⟨k1, j1, k2, j2, Nat.le_trans k3 maxLen_le, Nat.le_trans j3 maxLen_le, k4, j4⟩, fun K hK => ?_⟩
      rw [hxe] at hK
      have := files_under hK
      exact ⟨k5 K this.1, j5 K this.2⟩
set_option maxRecDepth 100000 in
theorem drv_cells {fuel : Nat} {c : List Value} {x : DataW H × List MemPlace} (h : DataW.trod enc Tryz.prog W b sp hd fuel 27 c = some x) :
    ∃ A0 n0 c0 A1 n1 c1, ∃ D : DriveD, c = [.slice A0 n0 c0, .int .i64 D.f0.firm, .slice A1 n1 c1, .int .i64 D.f1.firm] ∧ DrvY W D A0 n0 c0 A1 n1 c1 ∧ ∀ K, Under K 27 x.1 → n0 ≤ K ∧ n1 ≤ K := by
  obtain ⟨xs, m, _, hxe, hl, hlen, hf⟩ := DataW.trod_struct Tryz.underlying27 h
  rw [cT_drv] at hl
  have h0 : DataW.trod enc Tryz.prog W b sp hd m 25 ((c.drop 0).take (Tryz.prog.cellsOf 25)) = xs[0]? := hf 0 _ rfl
  have hsz : xs.length = 1 := hlen
  match xs, hsz with
  | [x0], _ =>
    rw [cT_files, List.drop_zero, List.take_of_length_le (by omega)] at h0
    obtain ⟨A0, n0, c0, A1, n1, c1, D, e, hy, hk⟩ := files_cells h0
    refine ⟨A0, n0, c0, A1, n1, c1, D, e, hy, fun K hK => hk K ?_⟩
    rw [hxe] at hK
    exact drv_under hK
set_option maxRecDepth 100000 in
theorem open_drv {v : Value} {d : DataW H} {p : List MemPlace} {r0 : Reach} {b0 : Nat} (hv : Value.okWide Tryz.prog W r0 b0 27 v) (h : DataW.Trod enc Tryz.prog W b sp hd 27 v d p) :
    ∃ A0 n0 c0 A1 n1 c1, ∃ D : DriveD, v = drvV A0 n0 c0 D.f0.firm A1 n1 c1 D.f1.firm ∧ DrvY W D A0 n0 c0 A1 n1 c1 ∧ (Under reachBytes 27 d → n0 ≤ 140737488355328 ∧ n1 ≤ 140737488355328) := by
  obtain ⟨cs, rfl, _⟩ := okWide_struct Tryz.underlying27 hv
  obtain ⟨fuel, hf⟩ := h
  obtain ⟨A0, n0, c0, A1, n1, c1, D, e, hy, hk⟩ := drv_cells hf
  refine ⟨A0, n0, c0, A1, n1, c1, D, ?_, hy, fun hu => ?_⟩
  · have : cs = #[.slice A0 n0 c0, .int .i64 D.f0.firm, .slice A1 n1 c1, .int .i64 D.f1.firm] := by
      apply Array.ext'
      exact e
    rw [this]
  · have := hk reachBytes hu
    have := reach_small
    omega
end
end Go.Proofs.YtekjdeibnfaehaaGreat
