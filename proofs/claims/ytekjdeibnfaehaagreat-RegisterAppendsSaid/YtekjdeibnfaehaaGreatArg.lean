/- What comes in: records, bytes, registers; what a call that writes nothing leaves of them. -/
import Derived.Test.YtekjdeibnfaehaaGreatSanes
import Derived.ProofKit
import Derived.OpenShut
import Derived.Deep.Slices
import Derived.Deep.DeepHandedRow
import Derived.ChangeStays
import Derived.JoinedCond
import Derived.Lib.SmallJoins
set_option linter.unusedSimpArgs false
set_option linter.unusedVariables false
namespace Go.Proofs.YtekjdeibnfaehaaGreat
open Go Go.RowKit Go.ChangeShapes Go.WideShapes Go.ChangeAt Go.Deep

section
variable {H : Type} {enc : TypeId × Value → H} {W : World} {b : Nat} {sp : Nat → Bool} {hd : Bool}
theorem maxLen_le : maxLen ≤ 9223372036854775807 := by decide +kernel
theorem cT_int : Tryz.prog.cellsOf 3 = 1 := by kernel_rfl
theorem cT_str : Tryz.prog.cellsOf 9 = 1 := by kernel_rfl
theorem cT_u8 : Tryz.prog.cellsOf 5 = 1 := by kernel_rfl
theorem cT_plc : Tryz.prog.cellsOf 44 = 2 := by kernel_rfl
theorem cT_rec : Tryz.prog.cellsOf 46 = 11 := by kernel_rfl
theorem cT_recs : Tryz.prog.cellsOf 32 = 1 := by kernel_rfl
theorem cT_reg : Tryz.prog.cellsOf 34 = 1 := by kernel_rfl
theorem kids : Kids Tryz.prog (· < Tryz.prog.types.size) := kids_rows (by kernel_rfl) (by kernel_rfl)
theorem slices_rowed : ((List.range Tryz.prog.types.size).all fun t => match Tryz.prog.underlying t with | some (.slice e) => decide (0 < Tryz.prog.cellsOf e) | _ => true) = true := by kernel_rfl
theorem slice_rowed {t e : TypeId} (ht : t < Tryz.prog.types.size) (h : Tryz.prog.underlying t = some (.slice e)) : 0 < Tryz.prog.cellsOf e := by
  have h1 := List.all_eq_true.1 slices_rowed t (List.mem_range.2 ht)
  rw [h] at h1
  exact of_decide_eq_true h1
theorem sameAt_ext {W W' : World} (hx : Ext W W') {p : MemPlace} (hp : p.block < W.heap.size) : W.sameAt W' p := by
  obtain ⟨E, d, rfl⟩ := hx
  cases p with
  | cell g o => exact cell?_ext W E d g o none hp
  | map g => exact heap_ext W E d g hp
/-- What came in reads as before. -/
theorem trodAll_ext {W W' : World} (hx : Ext W W') : ∀ {ts : List TypeId} {vs : List Value} {ds : List (DataW H)} {ps : List MemPlace}, (∀ t ∈ ts, t < Tryz.prog.types.size) → DataW.TrodAll enc Tryz.prog W 0 (fun _ => true) true ts vs ds ps →
    (∀ p ∈ ps, sp p.block = true) → DataW.TrodAll enc Tryz.prog W' 0 sp true ts vs ds ps
  | [], [], [], _, _, h, _ => h
  | t :: ts, v :: vs, d :: ds, ps, ht, h, hs => by
    obtain ⟨p, q, ⟨n, hn⟩, hr, rfl⟩ := h
    refine ⟨p, q, ⟨n, ?_⟩, trodAll_ext hx (fun x hx => ht x (by simp [hx])) hr (fun x hx => hs x (by simp [hx])), rfl⟩
    exact DataW.trod_stays kids slice_rowed (fun h => by cases h) (ht t (by simp)) hn (fun x hx' => sameAt_ext hx (DataW.trod_lt _ _ _ _ hn x hx')) (fun x hx' => hs x (by simp [hx']))
  | [], _ :: _, _, _, _, h, _ => by cases h
  | [], [], _ :: _, _, _, h, _ => by cases h
  | _ :: _, [], _, _, _, h, _ => by cases h
  | _ :: _, _ :: _, [], _, _, h, _ => by cases h
theorem keptBut_ext {W W' : World} (hx : Ext W W') (may : MemPlace → Prop) : W.keptBut W' may := by
  obtain ⟨E, d, rfl⟩ := hx
  refine ⟨rfl, rfl, fun i hi => ?_⟩
  rw [heap_ext _ _ _ _ hi]
  cases h : W.heap[i]? with
  | none => rfl
  | some o => cases o <;> simp
theorem int_cell {n : Nat} {c : List Value} {x : DataW H × List MemPlace} (h : DataW.trod enc Tryz.prog W b sp hd n 3 c = some x) : ∃ k : Int, c = [.int .i64 k] := by
  obtain ⟨k, hc, _, _⟩ := DataW.trod_int Tryz.underlying3 h
  exact ⟨k, hc⟩
set_option maxRecDepth 100000 in
theorem plc_cells {n : Nat} {c : List Value} {x : DataW H × List MemPlace} (h : DataW.trod enc Tryz.prog W b sp hd n 44 c = some x) : ∃ o s : Int, c = [.int .i64 o, .int .i64 s] := by
  obtain ⟨xs, m, _, _, hl, hlen, hf⟩ := DataW.trod_struct Tryz.underlying44 h
  rw [cT_plc] at hl
  have h0 : DataW.trod enc Tryz.prog W b sp hd m 3 ((c.drop 0).take (Tryz.prog.cellsOf 3)) = xs[0]? := hf 0 _ rfl
  have h1 : DataW.trod enc Tryz.prog W b sp hd m 3 ((c.drop 1).take (Tryz.prog.cellsOf 3)) = xs[1]? := hf 1 _ rfl
  rw [List.getElem?_eq_getElem (by have h9 : xs.length = 2 := hlen; omega), cT_int] at h0 h1
  obtain ⟨k0, e0⟩ := int_cell h0
  obtain ⟨k1, e1⟩ := int_cell h1
  match c, hl with
  | [c0, c1], _ =>
    simp only [List.drop_zero, List.drop_succ_cons, List.take_succ_cons, List.take_zero, List.cons.injEq, and_true] at e0 e1
    exact ⟨k0, k1, by rw [e0, e1]⟩
set_option maxRecDepth 100000 in
theorem rec_cells {n : Nat} {c : List Value} {x : DataW H × List MemPlace} (h : DataW.trod enc Tryz.prog W b sp hd n 46 c = some x) : ∃ r : Rec, c = encRec r ∧ r.text.size ≤ maxLen := by
  obtain ⟨xs, m, _, _, hl, hlen, hf⟩ := DataW.trod_struct Tryz.underlying46 h
  rw [cT_rec] at hl
  have h0 : DataW.trod enc Tryz.prog W b sp hd m 44 ((c.drop 0).take (Tryz.prog.cellsOf 44)) = xs[0]? := hf 0 _ rfl
  have h1 : DataW.trod enc Tryz.prog W b sp hd m 3 ((c.drop 2).take (Tryz.prog.cellsOf 3)) = xs[1]? := hf 1 _ rfl
  have h2 : DataW.trod enc Tryz.prog W b sp hd m 3 ((c.drop 3).take (Tryz.prog.cellsOf 3)) = xs[2]? := hf 2 _ rfl
  have h3 : DataW.trod enc Tryz.prog W b sp hd m 3 ((c.drop 4).take (Tryz.prog.cellsOf 3)) = xs[3]? := hf 3 _ rfl
  have h4 : DataW.trod enc Tryz.prog W b sp hd m 3 ((c.drop 5).take (Tryz.prog.cellsOf 3)) = xs[4]? := hf 4 _ rfl
  have h5 : DataW.trod enc Tryz.prog W b sp hd m 44 ((c.drop 6).take (Tryz.prog.cellsOf 44)) = xs[5]? := hf 5 _ rfl
  have h6 : DataW.trod enc Tryz.prog W b sp hd m 3 ((c.drop 8).take (Tryz.prog.cellsOf 3)) = xs[6]? := hf 6 _ rfl
  have h7 : DataW.trod enc Tryz.prog W b sp hd m 3 ((c.drop 9).take (Tryz.prog.cellsOf 3)) = xs[7]? := hf 7 _ rfl
  have h8 : DataW.trod enc Tryz.prog W b sp hd m 9 ((c.drop 10).take (Tryz.prog.cellsOf 9)) = xs[8]? := hf 8 _ rfl
  have hsz : xs.length = 9 := hlen
  rw [List.getElem?_eq_getElem (by omega)] at h0 h1 h2 h3 h4 h5 h6 h7 h8
  rw [cT_int] at h1 h2 h3 h4 h6 h7
  rw [cT_plc] at h0 h5
  rw [cT_str] at h8
  obtain ⟨o, s, e0⟩ := plc_cells h0
  obtain ⟨k1, e1⟩ := int_cell h1
  obtain ⟨k2, e2⟩ := int_cell h2
  obtain ⟨k3, e3⟩ := int_cell h3
  obtain ⟨k4, e4⟩ := int_cell h4
  obtain ⟨o5, s5, e5⟩ := plc_cells h5
  obtain ⟨k6, e6⟩ := int_cell h6
  obtain ⟨k7, e7⟩ := int_cell h7
  obtain ⟨tx, e8, _, htx⟩ := DataW.trod_string Tryz.underlying9 h8
  match c, hl with
  | [c0, c1, c2, c3, c4, c5, c6, c7, c8, c9, c10], _ =>
    simp only [List.drop_zero, List.drop_succ_cons, List.take_succ_cons, List.take_zero, List.cons.injEq, and_true] at e0 e1 e2 e3 e4 e5 e6 e7 e8
    refine ⟨⟨o, s, k1, k2, k3, k4, o5, s5, k6, k7, tx⟩, ?_, htx⟩
    simp only [encRec, e0.1, e0.2, e1, e2, e3, e4, e5.1, e5.2, e6, e7, e8]
set_option maxRecDepth 100000 in
theorem open_rec {v : Value} {d : DataW H} {p : List MemPlace} {r0 : Reach} {b0 : Nat} (hv : Value.okWide Tryz.prog W r0 b0 46 v) (h : DataW.Trod enc Tryz.prog W b sp hd 46 v d p) : ∃ r : Rec, v = recV r ∧ r.text.size ≤ maxLen := by
  obtain ⟨cs, rfl, _⟩ := okWide_struct Tryz.underlying46 hv
  obtain ⟨n, hn⟩ := h
  obtain ⟨r, hc, ht⟩ := rec_cells hn
  refine ⟨r, ?_, ht⟩
  have : cs = (encRec r).toArray := by
    have h2 : cs.toList = encRec r := hc
    rw [← h2]
  rw [this]
set_option maxRecDepth 100000 in
theorem cell_addr {a : Addr} {v : Value} (h : W.cell? a = some v) : ∃ g o, a = ⟨g, o, none⟩ ∧ g < W.heap.size := by
  obtain ⟨g, o, s⟩ := a
  unfold World.cell? at h
  cases hg : W.heap[g]? with
  | none => simp [hg] at h
  | some ob =>
    cases s with
    | none => exact ⟨g, o, rfl, (Array.getElem?_eq_some_iff.1 hg).1⟩
    | some s => cases ob <;> simp [hg] at h
set_option maxRecDepth 100000 in
theorem open_byts {v : Value} {d : DataW H} {p : List MemPlace} {r0 : Reach} {b0 : Nat} (hv : Value.okWide Tryz.prog W r0 b0 22 v) (h : DataW.Trod enc Tryz.prog W b sp hd 22 v d p) :
    ∃ A n c, ∃ l : List UInt8, v = .slice A n c ∧ l.length = n ∧ n ≤ c ∧ c ≤ maxLen ∧ Byt W A l := by
  obtain ⟨a0, n0, c0, rfl⟩ := okWide_slice Tryz.underlying22 hv
  obtain ⟨fuel, hf⟩ := h
  rcases open_slice1 Tryz.underlying22 cT_u8 hf with ⟨hc, _⟩ | ⟨a, len, cap, m, n, V, D, Pl, hc, _, hlc, hcm, hm, _, hx⟩
  · simp only [Value.cells, List.cons.injEq, Value.slice.injEq, and_true] at hc
    obtain ⟨rfl, rfl, rfl⟩ := hc
    exact ⟨none, 0, 0, [], rfl, rfl, Nat.le_refl _, Nat.zero_le _, Byt.nil _ _⟩
  · simp only [Value.cells, List.cons.injEq, Value.slice.injEq, and_true] at hc
    obtain ⟨rfl, rfl, rfl⟩ := hc
    have hlm : n0 ≤ m := by rw [hm]; split <;> omega
    obtain ⟨f, hfv⟩ := choose_lt (α := UInt8) (n := n0) (p := fun i u => V i = encB u) (fun i hi => by
      obtain ⟨k, hk, _, hw⟩ := DataW.trod_int Tryz.underlying5 (hx i (by omega)).2
      simp only [List.cons.injEq, and_true] at hk
      simp only [Lit.wf, IntKind.min, IntKind.max, IntKind.signed, IntKind.bits, Bool.and_eq_true, decide_eq_true_eq] at hw
      refine ⟨UInt8.ofNat k.toNat, ?_⟩
      rw [hk]
      unfold encB
      congr 1
      simp at hw ⊢
      omega)
    refine ⟨some a, n0, c0, (List.range n0).map f, rfl, by simp, hlc, hcm, by simp, fun hn => ?_⟩
    have h0 := (hx 0 (by simp at hn; omega)).1
    obtain ⟨g, o, ha, hg⟩ := cell_addr h0
    have ha2 : a = ⟨g, o, none⟩ := by
      unfold Addr.add at ha
      simpa using ha
    subst ha2
    refine ⟨g, o, rfl, hg, fun j u hu => ?_⟩
    have hj : j < n0 := by have := (List.getElem?_eq_some_iff.1 hu).1; simpa using this
    have hq := (hx j (by omega)).1
    rw [Addr.add_lit] at hq
    rw [hq]
    simp only [List.getElem?_map, List.getElem?_range hj, Option.map_some, Option.some.injEq] at hu
    rw [hfv j hj, ← hu]
set_option maxRecDepth 100000 in
theorem open_recs {c0 : List Value} {fuel : Nat} {x : DataW H × List MemPlace} (hf : DataW.trod enc Tryz.prog W b sp hd fuel 32 c0 = some x) :
    ∃ A n c, ∃ l : List Rec, c0 = [.slice A n c] ∧ l.length = n ∧ n ≤ c ∧ c ≤ maxLen ∧ TxtBig l ∧ Recs W A l := by
  rcases open_slice Tryz.underlying32 hf with ⟨hc, _⟩ | ⟨a, len, cap, m, n, D, Pl, hc, _, hlc, hcm, hm, _, hx⟩
  · exact ⟨none, 0, 0, [], hc, rfl, Nat.le_refl _, Nat.zero_le _, fun r hr => by (cases hr), Recs.nil _ _⟩
  · have hlm : len ≤ m := by rw [hm]; split <;> omega
    obtain ⟨f, hfv⟩ := choose_lt (α := Rec) (n := len) (p := fun i r => r.text.size ≤ maxLen ∧ ∀ j, j < 11 → W.cell? ((a.add (i * 11)).add j) = (encRec r)[j]?) (fun i hi => by
      obtain ⟨cs', h1, h2⟩ := hx i (by omega)
      rw [cT_rec] at h1
      obtain ⟨r, rfl, ht⟩ := rec_cells h2
      exact ⟨r, ht, (World.cells?_some h1).2.2⟩)
    refine ⟨some a, len, cap, (List.range len).map f, hc, by simp, hlc, hcm, ?_, ?_⟩
    · intro r hr
      obtain ⟨i, hi, rfl⟩ := List.mem_map.1 hr
      exact Nat.le_trans (hfv i (List.mem_range.1 hi)).1 maxLen_le
    · refine ⟨recs_length _, fun hn => ?_⟩
      simp only [List.length_map, List.length_range] at hn
      have h0 := (hfv 0 hn).2 0 (by decide)
      have h00 : ∃ v, W.cell? a = some v := ⟨_, by simpa [Addr.add, encRec] using h0⟩
      obtain ⟨v0, h00⟩ := h00
      obtain ⟨g, o, rfl, hg⟩ := cell_addr h00
      refine ⟨g, o, rfl, hg, fun j u hu => ?_⟩
      have hj : j < len * 11 := by have := (List.getElem?_eq_some_iff.1 hu).1; rw [recs_length] at this; simpa using this
      have hi : j / 11 < len := by omega
      have hr := (hfv (j / 11) hi).2 (j % 11) (Nat.mod_lt _ (by decide))
      have hg2 := flatMap_get encRec 11 (fun _ => rfl) ((List.range len).map f) (j / 11) (j % 11) (by simpa using hi) (Nat.mod_lt _ (by decide))
      rw [show j / 11 * 11 + j % 11 = j by omega, hu] at hg2
      rw [Addr.add_lit, Addr.add_lit, Nat.add_assoc, show j / 11 * 11 + j % 11 = j by omega] at hr
      rw [hr, hg2]
      simp
set_option maxRecDepth 100000 in
theorem open_reg {v : Value} {d : DataW H} {p : List MemPlace} {r0 : Reach} {b0 : Nat} (hv : Value.okWide Tryz.prog W r0 b0 34 v) (h : DataW.Trod enc Tryz.prog W b sp hd 34 v d p) :
    ∃ A n c, ∃ l : List Rec, v = regV A n c ∧ l.length = n ∧ n ≤ c ∧ c ≤ maxLen ∧ TxtBig l ∧ Recs W A l := by
  obtain ⟨cs, rfl, _⟩ := okWide_struct Tryz.underlying34 hv
  obtain ⟨fuel, hf⟩ := h
  obtain ⟨xs, m, _, _, hl, hlen, hff⟩ := DataW.trod_struct Tryz.underlying34 hf
  rw [cT_reg] at hl
  have h0 : DataW.trod enc Tryz.prog W b sp hd m 32 ((((Value.agg cs).cells.toList).drop 0).take (Tryz.prog.cellsOf 32)) = xs[0]? := hff 0 _ rfl
  rw [List.getElem?_eq_getElem (by have h9 : xs.length = 1 := hlen; omega), cT_recs] at h0
  have hcl : ∃ c0, cs.toList = [c0] := by
    match h : cs.toList, hl with
    | l, hl' =>
      have : l.length = 1 := by rw [← h]; exact hl
      exact List.length_eq_one_iff.1 this
  obtain ⟨q, hq⟩ := hcl
  have hcells : (Value.agg cs).cells.toList = cs.toList := rfl
  rw [hcells, hq] at h0
  obtain ⟨A, n, c, l, he, h1, h2, h3, h4, h5⟩ := open_recs h0
  refine ⟨A, n, c, l, ?_, h1, h2, h3, h4, h5⟩
  simp only [List.drop_zero, List.take_succ_cons, List.take_zero, List.cons.injEq, and_true] at he
  have : cs = #[.slice A n c] := by
    apply Array.ext'
    rw [hq, he]
  rw [this]
end
end Go.Proofs.YtekjdeibnfaehaaGreat
