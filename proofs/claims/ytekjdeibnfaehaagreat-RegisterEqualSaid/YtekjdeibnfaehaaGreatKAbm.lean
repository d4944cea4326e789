/- Texts of a proof. -/
import Derived.Test.YtekjdeibnfaehaaGreatKAas
import Derived.ProofKit
import Derived.OpenShut
import Derived.Deep.Slices
import Derived.Deep.DeepHandedRow
import Derived.ChangeStays
import Derived.JoinedCond
import Derived.Lib.SmallJoins
/- What comes in: records, bytes, registers; what a call that writes nothing leaves of them. -/
set_option linter.unusedSimpArgs false
set_option linter.unusedVariables false
namespace Go.Proofs.YtekjdeibnfaehaaGreat
open Go Go.RowKit Go.ChangeShapes Go.WideShapes Go.ChangeAt Go.Deep

section
variable {H : Type} {enc : TypeId × Value → H} {W : World} {b : Nat} {sp : Nat → Bool} {hd : Bool}
theorem maxLen_le : maxLen ≤ 9223372036854775807 := by decide +kernel
theorem cT_int : Tryz.prog.cellsOf 3 = 1 := by kernel_rfl
theorem cT_str : Tryz.prog.cellsOf 9 = 1 := by kernel_rfl
theorem kids : Kids Tryz.prog (· < Tryz.prog.types.size) := kids_rows (by kernel_rfl) (by kernel_rfl)
theorem slices_rowed : ((List.range Tryz.prog.types.size).all fun t => match Tryz.prog.underlying t with | some (.slice e) => decide (0 < Tryz.prog.cellsOf e) | _ => true) = true := by kernel_rfl
theorem slice_rowed {t e : TypeId} (ht : t < Tryz.prog.types.size) (h : Tryz.prog.underlying t = some (.slice e)) : 0 < Tryz.prog.cellsOf e := by
  have h1 := List.all_eq_true.1 slices_rowed t (List.mem_range.2 ht)
  rw [h] at h1
  exact of_decide_eq_true h1
theorem sameAt_ext {W W' : World} (hx : Ext W W') {p : MemPlace} (hp : p.block < W.heap.size) : W.sameAt W' p := by
  obtain ⟨E, d, rfl⟩ := hx
  cases p with
  | cell g o => exact cell?_ext W E d g o none hp
  | map g => exact heap_ext W E d g hp
/-- What came in reads as before. -/
theorem trodAll_ext {W W' : World} (hx : Ext W W') : ∀ {ts : List TypeId} {vs : List Value} {ds : List (DataW H)} {ps : List MemPlace}, (∀ t ∈ ts, t < Tryz.prog.types.size) → DataW.TrodAll enc Tryz.prog W 0 (fun _ => true) true ts vs ds ps →
    (∀ p ∈ ps, sp p.block = true) → DataW.TrodAll enc Tryz.prog W' 0 sp true ts vs ds ps
  | [], [], [], _, _, h, _ => h
  | t :: ts, v :: vs, d :: ds, ps, ht, h, hs => by
    obtain ⟨p, q, ⟨n, hn⟩, hr, rfl⟩ := h
    refine ⟨p, q, ⟨n, ?_⟩, trodAll_ext hx (fun x hx => ht x (by simp [hx])) hr (fun x hx => hs x (by simp [hx])), rfl⟩
    exact DataW.trod_stays kids slice_rowed (fun h => by cases h) (ht t (by simp)) hn (fun x hx' => sameAt_ext hx (DataW.trod_lt _ _ _ _ hn x hx')) (fun x hx' => hs x (by simp [hx']))
  | [], _ :: _, _, _, _, h, _ => by cases h
  | [], [], _ :: _, _, _, h, _ => by cases h
  | _ :: _, [], _, _, _, h, _ => by cases h
  | _ :: _, _ :: _, [], _, _, h, _ => by cases h
theorem keptBut_ext {W W' : World} (hx : Ext W W') (may : MemPlace → Prop) : W.keptBut W' may := by
  obtain ⟨E, d, rfl⟩ := hx
  refine ⟨rfl, rfl, fun i hi => ?_⟩
  rw [heap_ext _ _ _ _ hi]
  cases h : W.heap[i]? with
  | none => rfl
  | some o => cases o <;> simp
theorem int_cell {n : Nat} {c : List Value} {x : DataW H × List MemPlace} (h : DataW.trod enc Tryz.prog W b sp hd n 3 c = some x) : ∃ k : Int, c = [.int .i64 k] := by
  obtain ⟨k, hc, _, _⟩ := DataW.trod_int Tryz.underlying3 h
  exact ⟨k, hc⟩
set_option maxRecDepth 100000 in
theorem cell_addr {a : Addr} {v : Value} (h : W.cell? a = some v) : ∃ g o, a = ⟨g, o, none⟩ ∧ g < W.heap.size := by
  obtain ⟨g, o, s⟩ := a
  unfold World.cell? at h
  cases hg : W.heap[g]? with
  | none => simp [hg] at h
  | some ob =>
    cases s with
    | none => exact ⟨g, o, rfl, (Array.getElem?_eq_some_iff.1 hg).1⟩
    | some s => cases ob <;> simp [hg] at h
end
end Go.Proofs.YtekjdeibnfaehaaGreat
