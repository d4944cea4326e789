/- offered: what its loops keep. -/
import Derived.Test.YtekjdeibnfaehaaGreatKAbl
import Derived.Test.YtekjdeibnfaehaaGreatKCab
import Derived.Test.YtekjdeibnfaehaaGreatKCaa
set_option linter.unusedSimpArgs false
set_option linter.unusedVariables false
namespace Go.Proofs.YtekjdeibnfaehaaGreat
open Go Go.RowKit

/-- A world of offices in a box of the call's own. -/
structure OBox (w : World) (B : Nat) (wr : World) (Ls0 : Nat → OffL) (A : Option Addr) (na : Nat) (W : WD) (Ls : Nat → OffL) (c : Nat) : Prop where
  x : Ext w wr
  q : BoxC wr B (worldC W Ls A na c) 83
  y : WorldY wr W Ls A na c
  f : WorldF B Ls A na
  t : ∀ g, g < w.heap.size → WorldF g Ls0 A na → WorldF g Ls A na
  u : WorldF (B + 1) Ls A na
section
variable {w wr w' : World} {B base na c p : Nat} {W : WD} {Ls0 Ls : Nat → OffL} {A : Option Addr} {O : OffD} {L : OffL}
theorem OBox.of_ext (h : OBox w B wr Ls0 A na W Ls c) (hx : Ext wr w') : OBox w B w' Ls0 A na W Ls c := ⟨h.x.trans hx, h.q.of_ext hx, h.y.of_ext hx, h.f, h.t, h.u⟩
/-- An office is put into the box. -/
theorem OBox.put (h : OBox w B wr Ls0 A na W Ls c) (hx : Ext wr w') (hp : p < 4) (hc : checkB O.m.recs = true) (hA : OffA base w' O L) (hb : B + 1 < base) (hw : w.heap.size ≤ B) : OBox w B (w'.setCells B (p * 17) (offQ O L)) Ls0 A na ⟨upd W.off p O, W.way, W.e⟩ (upd Ls p L) c := by
  have hF : ∀ g, g < base → WorldF g Ls A na → WorldF g (upd Ls p L) A na := fun g hg hf => ⟨fun q hq => by
    by_cases he : q = p
    · subst he
      rw [upd_at]
      exact hA.far hg
    · rw [upd_ne _ _ he]
      exact hf.1 q hq, hf.2⟩
  have hy : WorldY w' ⟨upd W.off p O, W.way, W.e⟩ (upd Ls p L) A na c := (h.y.of_ext hx).put p (hA.read (txtBig_of hc)) W.e
  refine ⟨Ext.cells _ _ (h.x.trans hx) hw, ?_, hy.grown (hF B (by omega) h.f) (gb_cells B _ _ w'), hF B (by omega) h.f, fun g hg hf => hF g (by omega) (h.t g hg hf), hF (B + 1) hb h.u⟩
  · have h9 := BoxC.cells (offQ O L) (p * 17) (h.q.of_ext hx) (by rw [worldC_len, offQ_len]; omega)
    rw [worldC_put _ _ _ _ _ hp] at h9
    exact h9
theorem OBox.err (h : OBox w B wr Ls0 A na W Ls c) (hw : w.heap.size ≤ B) (e : Int) : OBox w B (wr.setCell ⟨B, 69, none⟩ (.int .i64 e)) Ls0 A na ⟨W.off, W.way, e⟩ Ls c := by
  refine ⟨Ext.box h.x _ _ hw, ?_, ?_, h.f, h.t, h.u⟩
  · exact h.q.set 69 (.int .i64 e)
  · have hy := h.y.grown h.f (gb_setCell wr B 69 (.int .i64 e))
    exact ⟨hy.o, hy.m⟩
end
theorem ld_msgC {w : World} {g i : Nat} {l : List Value} (hl : l.length = 14) (h : ∀ j v, l[j]? = some v → w.cell? ⟨g, i + j, none⟩ = some v) : (ldRow 70 ⟨g, i, none⟩).run Tryz.prog w = .ok (.agg l.toArray) w := by
  have hl2 := run_loadCells_list (P := Tryz.prog) w ⟨g, i, none⟩ l (fun j v hv => by
    rw [addr_add]
    exact h j v hv)
  rw [hl] at hl2
  have hu := agg_msg
  have hi := size_msg
  unfold ldRow
  cases hq : Tryz.prog.info? 70 with
  | none => simp [hq] at hi
  | some f =>
    have hs : f.size = 14 := by simpa [hq] using hi
    have hagg : (isAgg 70).run Tryz.prog w = .ok true w := by
      unfold isAgg
      cases hx : Tryz.prog.underlying 70 with
      | none => simp [hx] at hu
      | some u =>
        rw [Sem.run_bind, run_underlying hx w]
        simp only [hx, Option.map_some, Option.some.injEq] at hu
        cases u <;> simp_all [aggD]
    simp [loadVar, Sem.run_bind, hagg, sizeOf, typeInfo, hq, hs, hl2]
theorem MsgsY.loadK {w : World} {g o n c k : Nat} {l : List MsgD} {m : MsgD} (h : MsgsY w (some ⟨g, o, none⟩) n c l) (hk : l[k]? = some m) (N : Nat) (hN : w.heap.size ≤ N) : ∀ w', Kept w N N w' → (ldRow 70 ⟨g, o + k * 14, none⟩).run Tryz.prog w' = .ok (.agg (msgC m).toArray) w' := by
  intro w' hK
  have hlt : g < w.heap.size := by
    obtain ⟨g', o', he, hg, _⟩ := h.2.2.2.2 (by have := (List.getElem?_eq_some_iff.1 hk).1; have := h.1; omega)
    cases he
    exact hg
  exact ld_msgC rfl fun j v hv => by rw [hK.cell g _ hlt (by omega) (by omega)]; exact h.at hk hv
theorem MsgsA.mono' {base base' : Nat} {w : World} {A : Option Addr} {n c : Nat} {l : List MsgD} (h : MsgsA base w A n c l) (hb : base' ≤ base) : MsgsA base' w A n c l := MsgsA.mono h hb
/-- The messages of an offer, one by one. -/
def sentK (W : WD) (f : Nat) (t : Int) (k : Nat) : WD := ((offerL (W.off f) t).take k).foldl sent2 (offer0 W f t)
theorem sentK_all (W : WD) (f : Nat) (t : Int) {k : Nat} (h : (offerL (W.off f) t).length ≤ k) : sentK W f t k = offeredW W f t := by rw [sentK, List.take_of_length_le h]; rfl
theorem sentK_next {W : WD} {f : Nat} {t : Int} {k : Nat} {m : MsgD} (h : (offerL (W.off f) t)[k]? = some m) : sentK W f t (k + 1) = sent2 (sentK W f t k) m := by
  obtain ⟨h1, h2⟩ := List.getElem?_eq_some_iff.1 h
  rw [sentK, List.take_succ_eq_append_getElem h1, List.foldl_append, h2]
  rfl
theorem sent_way (l : List MsgD) : ∀ W : WD, W.e = 0 → (l.foldl sent2 W).way = W.way ∧ (l.foldl sent2 W).e = 0 := by
  induction l with
  | nil => exact fun W h => ⟨rfl, h⟩
  | cons m l ih => exact fun W h => ih (sent2 W m) rfl
theorem sentK_way (W : WD) (f : Nat) (t : Int) (k : Nat) : (sentK W f t k).way = W.way ∧ (sentK W f t k).e = 0 := sent_way _ _ rfl
end Go.Proofs.YtekjdeibnfaehaaGreat
