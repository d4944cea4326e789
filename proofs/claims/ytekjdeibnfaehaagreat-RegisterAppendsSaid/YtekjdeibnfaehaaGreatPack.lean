/- Pack. -/
import Derived.Test.YtekjdeibnfaehaaGreatBox
import Derived.Test.YtekjdeibnfaehaaGreatPow
set_option linter.unusedSimpArgs false
set_option linter.unusedVariables false
namespace Go.Proofs.YtekjdeibnfaehaaGreat
open Go Go.RowKit

/-- A drive in a cell of a row. -/
def DrvCell (base : Nat) (w : World) (g o : Nat) (D : DriveD) : Prop := ∃ A0 n0 c0 A1 n1 c1, w.cell? ⟨g, o, none⟩ = some (.slice A0 n0 c0) ∧ w.cell? ⟨g, o + 1, none⟩ = some (.int .i64 D.f0.firm) ∧ w.cell? ⟨g, o + 2, none⟩ = some (.slice A1 n1 c1) ∧ w.cell? ⟨g, o + 3, none⟩ = some (.int .i64 D.f1.firm) ∧ DrvA base w D A0 n0 c0 A1 n1 c1
theorem DrvCell.of_ext {base g o : Nat} {w w' : World} {D : DriveD} (h : DrvCell base w g o D) (hg : g < w.heap.size) (hx : Ext w w') : DrvCell base w' g o D := by
  obtain ⟨A0, n0, c0, A1, n1, c1, h0, h1, h2, h3, hd⟩ := h
  exact ⟨A0, n0, c0, A1, n1, c1, by rw [Ext.cellOf hx hg, h0], by rw [Ext.cellOf hx hg, h1], by rw [Ext.cellOf hx hg, h2], by rw [Ext.cellOf hx hg, h3], hd.of_ext hx⟩
/-- Four drives in a row. -/
structure Drvs4 (base : Nat) (w : World) (g : Nat) (l : List DriveD) : Prop where
  lo : base ≤ g
  hi : g < w.heap.size
  many : l.length = 4
  at_ : ∀ (i : Nat) D, l[i]? = some D → DrvCell base w g (i * 4) D
theorem Drvs4.of_ext {base g : Nat} {w w' : World} {l : List DriveD} (h : Drvs4 base w g l) (hx : Ext w w') : Drvs4 base w' g l :=
  ⟨h.lo, Nat.lt_of_lt_of_le h.hi hx.below.size, h.many, fun i D hi => (h.at_ i D hi).of_ext h.hi hx⟩
theorem drvs4_of {base g : Nat} {W : World} {D0 D1 D2 D3 : DriveD} {a0 b0 a1 b1 a2 b2 a3 b3 : Option Addr} {n0 c0 m0 d0 n1 c1 m1 d1 n2 c2 m2 d2 n3 c3 m3 d3 : Nat} {t : TypeId}
    (hb : BoxC W g [.slice a0 n0 c0, .int .i64 D0.f0.firm, .slice b0 m0 d0, .int .i64 D0.f1.firm, .slice a1 n1 c1, .int .i64 D1.f0.firm, .slice b1 m1 d1, .int .i64 D1.f1.firm, .slice a2 n2 c2, .int .i64 D2.f0.firm, .slice b2 m2 d2, .int .i64 D2.f1.firm, .slice a3 n3 c3, .int .i64 D3.f0.firm, .slice b3 m3 d3, .int .i64 D3.f1.firm] t)
    (hg : base ≤ g) (h0 : DrvA base W D0 a0 n0 c0 b0 m0 d0) (h1 : DrvA base W D1 a1 n1 c1 b1 m1 d1) (h2 : DrvA base W D2 a2 n2 c2 b2 m2 d2) (h3 : DrvA base W D3 a3 n3 c3 b3 m3 d3) : Drvs4 base W g [D0, D1, D2, D3] := by
  refine ⟨hg, hb.lt, rfl, fun i D hi => ?_⟩
  match i with
  | 0 => obtain rfl : D0 = D := by simpa using hi
         exact ⟨_, _, _, _, _, _, hb.cell (i := 0) rfl, hb.cell (i := 1) rfl, hb.cell (i := 2) rfl, hb.cell (i := 3) rfl, h0⟩
  | 1 => obtain rfl : D1 = D := by simpa using hi
         exact ⟨_, _, _, _, _, _, hb.cell (i := 4) rfl, hb.cell (i := 5) rfl, hb.cell (i := 6) rfl, hb.cell (i := 7) rfl, h1⟩
  | 2 => obtain rfl : D2 = D := by simpa using hi
         exact ⟨_, _, _, _, _, _, hb.cell (i := 8) rfl, hb.cell (i := 9) rfl, hb.cell (i := 10) rfl, hb.cell (i := 11) rfl, h2⟩
  | 3 => obtain rfl : D3 = D := by simpa using hi
         exact ⟨_, _, _, _, _, _, hb.cell (i := 12) rfl, hb.cell (i := 13) rfl, hb.cell (i := 14) rfl, hb.cell (i := 15) rfl, h3⟩
  | n + 4 => simp at hi
theorem pack_gen {D : DriveD} {M : MemD} (h : memOk D M = true) : 1 ≤ M.gen ∧ M.gen ≤ 1000000000 := by
  obtain ⟨-, -, -, -, h1, h2⟩ := memOk_facts h
  simp only [pageOk, Bool.and_eq_true, inB_spec] at h1
  omega
set_option maxRecDepth 100000 in
set_option maxHeartbeats 16000000 in
theorem pack_ok0 (A0 : Option Addr) (n0 c0 : Nat) (A1 : Option Addr) (n1 c1 : Nat) (L0 L1 : List UInt8) (f0 f1 : Int) (Am : Option Addr) (nm cm : Nat) (l : List Rec) (gen : Int) (hm : l.length = nm) (hmo : memOk ⟨⟨L0, f0⟩, ⟨L1, f1⟩⟩ ⟨l, 0, gen⟩ = true) (hgn : gen ≠ 1000000000) (w : World)
    (hD : DrvY w ⟨⟨L0, f0⟩, ⟨L1, f1⟩⟩ A0 n0 c0 A1 n1 c1) (hr : Recs w Am l) :
    Calls Tryz.prog 21 #[drvV A0 n0 c0 f0 A1 n1 c1 f1, memV Am nm cm 0 gen] w fun e w' => ∃ g Ag ng cg, e = .returned (.tuple #[.slice (some ⟨g, 0, none⟩) 4 4, memV Ag ng cg (1 - 0) (gen + 1), .int .i64 0]) ∧
      Drvs4 w.heap.size w' g (packL ⟨⟨L0, f0⟩, ⟨L1, f1⟩⟩ ⟨l, 0, gen⟩) ∧ MemA w.heap.size w' ⟨l, 1 - 0, gen + 1⟩ Ag ng cg ∧ Ext w w' := by
  obtain ⟨hl0, hl1, hc0, hc1, hbig0, hbig1, hb0, hb1⟩ := hD
  obtain ⟨hok, -, hnil, hck, hpg, hgb⟩ := memOk_facts hmo
  obtain ⟨hg0, hg1⟩ := pack_gen hmo
  obtain ⟨hs0, hs1⟩ := driveOk_len hok
  obtain ⟨h80, hall, -⟩ := checkB_iff.1 hck
  simp only [] at hl0 hl1 hb0 hb1 hs0 hs1 hg0 hg1
  rw [hl0] at hs0
  rw [hl1] at hs1
  have h80' : nm ≤ 80 := by rw [← hm]; exact h80
  have hgq : (gen == 1000000000) = false := by simpa using hgn
  have hw1 : IntKind.i64.wrap (gen + 1) = gen + 1 := IntWalk.i64_in _ (by omega)
  have hpe : packE ⟨⟨L0, f0⟩, ⟨L1, f1⟩⟩ ⟨l, 0, gen⟩ = 0 := by rw [packE, if_pos ⟨hmo, hgn⟩]
  have HL : Hid (packL ⟨⟨L0, f0⟩, ⟨L1, f1⟩⟩ ⟨l, 0, gen⟩ = [⟨⟨L0, n0⟩, ⟨L1, n1⟩⟩, ⟨⟨L0, n0⟩, ⟨writtenB (gen + 1) nm l, 0⟩⟩, ⟨⟨L0, n0⟩, ⟨writtenB (gen + 1) nm l, (writtenB (gen + 1) nm l).length⟩⟩, ⟨⟨[], 0⟩, ⟨writtenB (gen + 1) nm l, (writtenB (gen + 1) nm l).length⟩⟩]) := hid (by
    rw [packL, if_pos hpe]
    simp [firmD, firmF, withFile, noFile, packB, hl0, hl1, hm])
  have Hall := hid hall
  have hshort := written_short hall h80 (gen + 1) nm
  obtain ⟨WB, hWB⟩ : ∃ WB, writtenB (gen + 1) nm l = WB := ⟨_, rfl⟩
  rw [hWB] at HL hshort
  have HWB := hid hWB
  clear hnil hck hpg hgb hok h80 hall hpe hWB
  have Hb0 := hid hb0
  have Hb1 := hid hb1
  have Hr := hid hr
  clear hb0 hb1 hr
  go_enter Tryz.func21, Tryz.ntmps21
  go_wp2_with fail
  refine (isMemory_any _ _ _ _ _ _ ⟨⟨L0, f0⟩, ⟨L1, f1⟩⟩ _ _ _ ⟨l, 0, gen⟩ hl0 hl1 hc0 hc1 hbig0 hbig1 hm (by omega) _ (by have := Hb0.out; exact (by with_reducible repeat (first | assumption | apply Byt.ext | apply Byt.alloc | apply Byt.drew | (refine Byt.of_ext ?_ (by assumption))))) (by have := Hb1.out; exact (by with_reducible repeat (first | assumption | apply Byt.ext | apply Byt.alloc | apply Byt.drew | (refine Byt.of_ext ?_ (by assumption))))) (by have := Hr.out; exact (by with_reducible repeat (first | assumption | apply Recs.ext | apply Recs.alloc | apply Recs.drew | (refine Recs.of_ext ?_ (by assumption)))))).mono ?_
  rintro e P1 ⟨rfl, x1⟩
  rw [hmo]
  obtain ⟨B1, hB1⟩ : ∃ B : Nat, w.heap.size = B := ⟨_, rfl⟩
  have z1 : Hid (B1 + 3 ≤ P1.heap.size) := hid (by have := x1.below.size; simp only [World.size_alloc] at this; omega)
  have b2 : BoxC P1 B1 [.slice A0 n0 c0, .int .i64 f0, .slice A1 n1 c1, .int .i64 f1] 27 := BoxC.of_ext (((BoxC.new_at _ _ hB1.symm).alloc _).alloc _) x1
  have b3 : BoxC P1 (B1 + 1) [.slice Am nm cm, .int .i64 0, .int .i64 gen] 36 := BoxC.of_ext ((BoxC.new_at _ _ (by simp only [World.size_alloc]; omega)).alloc _) x1
  have b5 : BoxC P1 (B1 + 1 + 1) [.slice none 0 0, .int .i64 0, .int .i64 0] 36 := BoxC.of_ext (BoxC.new_at _ _ (by simp only [World.size_alloc]; omega)) x1
  have e1 : Ext w P1 := Ext.trans (by repeat (first | (with_reducible first | exact Ext.refl _ | exact Ext.same _ _ _ _ | assumption | apply Ext.alloc | apply Ext.ext | apply Ext.drew) | (with_reducible refine Ext.setCell ?_ _ _ ?_; rotate_left; focus (first | omega | (simp only [zs1, zs2, zs3, size_ext]; omega))))) x1
  simp only [hB1]
  have E1 := hid e1
  have HB1 := hid hB1
  have c20 := b2.cell (i := 0) rfl
  have c21 := b2.cell (i := 1) rfl
  have c22 := b2.cell (i := 2) rfl
  have c23 := b2.cell (i := 3) rfl
  have c30 := b3.cell (i := 0) rfl
  have c31 := b3.cell (i := 1) rfl
  have c32 := b3.cell (i := 2) rfl
  have l2 := b2.lt
  have l3 := b3.lt
  have B3 := hid b3
  have B5 := hid b5
  clear x1 e1 b2 b3 b5 hB1
  go_wp2_with fail
  refine (synced_any _ _ _ _ _ _ _ _ L0 L1 hl0 hl1 (by omega) (by omega) _ (by have := Hb0.out.of_ext E1.out; exact (by with_reducible repeat (first | assumption | apply Byt.ext | apply Byt.alloc | apply Byt.drew | (refine Byt.of_ext ?_ (by assumption))))) (by have := Hb1.out.of_ext E1.out; exact (by with_reducible repeat (first | assumption | apply Byt.ext | apply Byt.alloc | apply Byt.drew | (refine Byt.of_ext ?_ (by assumption)))))).mono ?_
  rintro e P2 ⟨Ax1, Ay1, rfl, hox1, hoy1, x2⟩
  obtain ⟨B2, hB2⟩ : ∃ B : Nat, P1.heap.size = B := ⟨_, rfl⟩
  have z2 : Hid (B1 + 3 ≤ B2 ∧ B2 + 1 ≤ P2.heap.size) := hid (by have q := x2.below.size; have := z1.out; simp only [World.size_alloc] at q; omega)
  have b3 := (B3.out.alloc _).of_ext x2
  have B5' := hid ((B5.out.alloc _).of_ext x2)
  have b7 : BoxC P2 B2 [.int .i64 (gen + 1), .int .i64 nm, .slice Am nm cm] 114 := (BoxC.new_at _ _ hB2.symm).of_ext x2
  have rx1 := hid (hox1.anc.mono (base' := B2) (by simp only [World.size_alloc]; omega))
  have ry1 := hid (hoy1.anc.mono (base' := B2) (by simp only [World.size_alloc]; omega))
  have E2 := hid (Ext.trans (E1.out.alloc _) x2)
  simp only [hB2]
  have B3' := hid b3
  have B7 := hid b7
  clear x2 b3 b7 hox1 hoy1 hB2 B3 B5 c20 c21 c22 c23 c30 c31 c32 l2 l3 E1 z1
  go_wp2_with fail
  refine (driveCopy_any _ _ _ _ _ _ _ _ L0 L1 hl0 hl1 (by omega) (by omega) _ (by have := rx1.out.read; exact (by with_reducible repeat (first | assumption | apply Byt.ext | apply Byt.alloc | apply Byt.drew | (refine Byt.of_ext ?_ (by assumption))))) (by have := ry1.out.read; exact (by with_reducible repeat (first | assumption | apply Byt.ext | apply Byt.alloc | apply Byt.drew | (refine Byt.of_ext ?_ (by assumption)))))).mono ?_
  rintro e P3 ⟨Ax2, Ay2, rfl, hox2, hoy2, x3⟩
  obtain ⟨B3n, hB3⟩ : ∃ B : Nat, P2.heap.size = B := ⟨_, rfl⟩
  have z3 : Hid (B1 + 3 ≤ B2 ∧ B2 + 1 ≤ B3n ∧ B3n + 1 ≤ P3.heap.size) := hid (by have q := x3.below.size; have := z2.out; simp only [World.size_alloc] at q; omega)
  have B3 := hid ((B3'.out.alloc _).of_ext x3)
  have B5 := hid ((B5'.out.alloc _).of_ext x3)
  have b7 := (B7.out.alloc _).of_ext x3
  have B9 : Hid (BoxC P3 B3n [.slice Ax1 n0 n0, .int .i64 n0, .slice Ay1 n1 n1, .int .i64 n1] 27) := hid ((BoxC.new_at _ _ hB3.symm).of_ext x3)
  have sx1 := hid ((rx1.out.alloc _).of_ext x3)
  have sy1 := hid ((ry1.out.alloc _).of_ext x3)
  have rx2 := hid (hox2.anc.mono (base' := B3n) (by simp only [World.size_alloc]; omega))
  have ry2 := hid (hoy2.anc.mono (base' := B3n) (by simp only [World.size_alloc]; omega))
  have E3 := hid (Ext.trans (E2.out.alloc _) x3)
  simp only [hB3]
  have c70 := b7.cell (i := 0) rfl
  have c71 := b7.cell (i := 1) rfl
  have c72 := b7.cell (i := 2) rfl
  have l7 := b7.lt
  have B7' := hid b7
  clear x3 b7 hox2 hoy2 hB3 B3' B5' B7 rx1 ry1 E2 z2
  go_wp2_with fail
  refine (written_any _ _ _ _ _ l hm (by omega) Hall.out (by omega) (by omega) (by omega) (by omega) _ (by have := Hr.out.of_ext E3.out; exact (by with_reducible repeat (first | assumption | apply Recs.ext | apply Recs.alloc | apply Recs.drew | (refine Recs.of_ext ?_ (by assumption)))))).mono ?_
  rintro e P4 ⟨Aw, nw, cw, rfl, hnw, how, x4⟩
  obtain ⟨B4, hB4⟩ : ∃ B : Nat, P3.heap.size = B := ⟨_, rfl⟩
  have z4 : Hid (B1 + 3 ≤ B2 ∧ B2 + 1 ≤ B3n ∧ B3n + 1 ≤ B4 ∧ B4 + 1 ≤ P4.heap.size) := hid (by have q := x4.below.size; have := z3.out; simp only [World.size_alloc] at q; omega)
  have b10 : BoxC P4 B4 [.slice Ax2 n0 n0, .int .i64 n0, .slice Ay2 n1 n1, .int .i64 n1] 27 := (BoxC.new_at _ _ hB4.symm).of_ext x4
  rw [HWB.out] at hnw how
  have Hnw : Hid (WB.length = nw) := hid hnw.out.symm
  have Hle := hid how.le
  have Hcap := hid how.cap
  rw [Hnw.out] at hshort
  have HL2 := HL.out
  rw [Hnw.out] at HL2
  have HL := hid HL2
  clear HL2
  have rw4 := hid (how.anc.mono (base' := B4 + 1) (by simp only [World.size_alloc]; omega))
  have X34 := hid (Ext.trans ((Ext.refl P3).alloc _) x4)
  have HB4 := hid hB4
  simp only [hB4]
  have c0 := b10.cell (i := 0) rfl
  have c1 := b10.cell (i := 1) rfl
  have c2 := b10.cell (i := 2) rfl
  have c3 := b10.cell (i := 3) rfl
  have fz := b10.frozen
  have l10 := b10.lt
  have B10 := hid b10
  clear x4 b10 hnw how hB4 z3 c70 c71 c72 l7
  go_wp2_with fail
  have x3s : Hid (Ext P3 ((P4.setCell ⟨B4, 2, none⟩ (.slice Aw nw cw)).setCell ⟨B4, 3, none⟩ (.int .i64 0))) := hid (Ext.box (Ext.box X34.out _ _ (Nat.le_of_eq HB4.out)) _ _ (Nat.le_of_eq HB4.out))
  have Hb2 : Hid (Byt ((P4.setCell ⟨B4, 2, none⟩ (.slice Aw nw cw)).setCell ⟨B4, 3, none⟩ (.int .i64 0)) Ax2 L0) := hid (rx2.out.of_ext x3s.out).read
  have Rw4 := hid ((rw4.out.set (b := B4) (i := 2) (v := .slice Aw nw cw) (by omega)).set (b := B4) (i := 3) (v := .int .i64 0) (by omega))
  have B10' := hid ((B10.out.set 2 (.slice Aw nw cw)).set 3 (.int .i64 0))
  refine (synced_any _ _ _ _ _ _ _ _ L0 WB (by first | exact hl0 | exact hl1 | exact Hnw.out) (by first | exact hl0 | exact hl1 | exact Hnw.out) (by omega) (by omega) _ Hb2.out Rw4.out.read).mono ?_
  rintro e P5 ⟨Ax3, Ay3, rfl, hox3, hoy3, x5⟩
  obtain ⟨B5n, hB5⟩ : ∃ B : Nat, P5.heap.size = B := ⟨_, rfl⟩
  have z5 : Hid (B1 + 3 ≤ B2 ∧ B2 + 1 ≤ B3n ∧ B3n + 1 ≤ B4 ∧ B4 + 1 ≤ B5n) := hid (by have q := x5.below.size; have := z4.out; simp only [World.size_setCell] at q; omega)
  have e35 := x3s.out.trans x5
  have B3' := hid (B3.out.of_ext e35)
  have B5' := hid (B5.out.of_ext e35)
  have B7 := hid (B7'.out.of_ext e35)
  have B9' := hid (B9.out.of_ext e35)
  have b10 := B10'.out.of_ext x5
  have tx1 := hid (sx1.out.of_ext e35)
  have ty1 := hid (sy1.out.of_ext e35)
  have tx2 := hid (rx2.out.of_ext e35)
  have ty2 := hid (ry2.out.of_ext e35)
  have tw := hid (Rw4.out.of_ext x5)
  have rx3 := hid (hox3.anc.mono (base' := B4) (by simp only [World.size_setCell]; have := z4.out; omega))
  have ry3 := hid (hoy3.anc.mono (base' := B4) (by simp only [World.size_setCell]; have := z4.out; omega))
  have E5 := hid (Ext.trans E3.out e35)
  have HB5 := hid hB5
  have B10 := hid b10
  clear x5 e35 x3s Hb2 Rw4 B10' b10 hox3 hoy3 hB5 B3 B5 B7' B9 sx1 sy1 rx2 ry2 rw4 X34 HB4 E3 z4 c0 c1 c2 c3 fz l10
  go_wp2_with fail
  refine (driveCopy_any _ _ _ _ _ _ _ _ L0 WB (by first | exact hl0 | exact hl1 | exact Hnw.out) (by first | exact hl0 | exact hl1 | exact Hnw.out) (by omega) (by omega) _ (by have := rx3.out.read; exact (by with_reducible repeat (first | assumption | apply Byt.ext | apply Byt.alloc | apply Byt.drew | (refine Byt.of_ext ?_ (by assumption))))) (by have := ry3.out.read; exact (by with_reducible repeat (first | assumption | apply Byt.ext | apply Byt.alloc | apply Byt.drew | (refine Byt.of_ext ?_ (by assumption)))))).mono ?_
  rintro e P6 ⟨Ax4, Ay4, rfl, hox4, hoy4, x6⟩
  obtain ⟨B6, hB6⟩ : ∃ B : Nat, P6.heap.size = B := ⟨_, rfl⟩
  have z6 : Hid (B1 + 3 ≤ B2 ∧ B2 + 1 ≤ B3n ∧ B3n + 1 ≤ B4 ∧ B4 + 1 ≤ B5n ∧ B5n + 1 ≤ B6) := hid (by have q := x6.below.size; have := z5.out; have := HB5.out; simp only [World.size_alloc] at q; omega)
  have e56 := Ext.trans ((Ext.refl P5).alloc _) x6
  have b3 := B3'.out.of_ext e56
  have b5 := B5'.out.of_ext e56
  have b7 := B7.out.of_ext e56
  have b9 := B9'.out.of_ext e56
  have b10 := B10.out.of_ext e56
  have b11 : BoxC P6 B5n [.slice Ax3 n0 n0, .int .i64 n0, .slice Ay3 nw nw, .int .i64 nw] 27 := (BoxC.new_at _ _ HB5.out.symm).of_ext x6
  have sx1 := hid (tx1.out.of_ext e56)
  have sy1 := hid (ty1.out.of_ext e56)
  have sx2 := hid (tx2.out.of_ext e56)
  have sy2 := hid (ty2.out.of_ext e56)
  have sw := hid (tw.out.of_ext e56)
  have sx3 := hid (rx3.out.of_ext e56)
  have sy3 := hid (ry3.out.of_ext e56)
  have rx4 := hid (hox4.anc.mono (base' := B5n) (by simp only [World.size_alloc]; have := HB5.out; omega))
  have ry4 := hid (hoy4.anc.mono (base' := B5n) (by simp only [World.size_alloc]; have := HB5.out; omega))
  have E6 := hid (Ext.trans E5.out e56)
  have c31 := b3.cell (i := 1) rfl
  have l3 := b3.lt
  have HB6 := hid hB6
  (try simp only [HB5.out])
  have B3 := hid b3
  have B5 := hid b5
  have B7' := hid b7
  have B9 := hid b9
  have B10' := hid b10
  have B11 := hid b11
  clear x6 e56 b3 b5 b7 b9 b10 b11 hox4 hoy4 hB6 B3' B5' B7 B9' B10 tx1 ty1 tx2 ty2 tw rx3 ry3 E5 z5 HB5
  go_wp2_with fail
  (try simp only [HB6.out])
  obtain ⟨P7, hP7⟩ : ∃ P7, P6.alloc (.cells #[.slice none 0 0, .int .i64 0, .slice Ay4 nw nw, .int .i64 nw] 27) = P7 := ⟨_, rfl⟩
  rw [hP7]
  have x67 : Ext P6 P7 := by rw [← hP7]; exact (Ext.refl _).alloc _
  have b12 : BoxC P7 B6 [.slice none 0 0, .int .i64 0, .slice Ay4 nw nw, .int .i64 nw] 27 := by rw [← hP7]; exact BoxC.new_at _ _ HB6.out.symm
  have b3 := B3.out.of_ext x67
  have b5 := B5.out.of_ext x67
  have b7 := B7'.out.of_ext x67
  have b9 := B9.out.of_ext x67
  have b10 := B10'.out.of_ext x67
  have b11 := B11.out.of_ext x67
  have E7 := hid (Ext.trans E6.out x67)
  have X67 := hid x67
  have hr7 := Hr.out.of_ext E7.out
  have Q30 := b3.cell (i := 0) rfl
  have Q70 := b7.cell (i := 0) rfl
  have Q90 := b9.cell (i := 0) rfl
  have Q91 := b9.cell (i := 1) rfl
  have Q92 := b9.cell (i := 2) rfl
  have Q93 := b9.cell (i := 3) rfl
  have Q100 := b10.cell (i := 0) rfl
  have Q101 := b10.cell (i := 1) rfl
  have Q102 := b10.cell (i := 2) rfl
  have Q103 := b10.cell (i := 3) rfl
  have Q110 := b11.cell (i := 0) rfl
  have Q111 := b11.cell (i := 1) rfl
  have Q112 := b11.cell (i := 2) rfl
  have Q113 := b11.cell (i := 3) rfl
  have Q120 := b12.cell (i := 0) rfl
  have Q121 := b12.cell (i := 1) rfl
  have Q122 := b12.cell (i := 2) rfl
  have Q123 := b12.cell (i := 3) rfl
  have Q50 := b5.cell (i := 0) rfl
  have Q51 := b5.cell (i := 1) rfl
  have Q52 := b5.cell (i := 2) rfl
  have fz := b5.frozen
  have l3 := b3.lt
  have l5 := b5.lt
  have l7 := b7.lt
  have l9 := b9.lt
  have l10 := b10.lt
  have l11 := b11.lt
  have l12 := b12.lt
  have ne3 : ¬ (B1 + 1 = B1 + 1 + 1) := by omega
  have ne7 : ¬ (B2 = B1 + 1 + 1) := by have := z6.out; omega
  have ne9 : ¬ (B3n = B1 + 1 + 1) := by have := z6.out; omega
  have ne10 : ¬ (B4 = B1 + 1 + 1) := by have := z6.out; omega
  have ne11 : ¬ (B5n = B1 + 1 + 1) := by have := z6.out; omega
  have ne12 : ¬ (B6 = B1 + 1 + 1) := by have := z6.out; omega
  have B5' := hid b5
  clear hP7 x67 b12 b3 b5 b7 b9 b10 b11 B3 B5 B7' B9 B10' B11 E6

  have zc : ∀ (E : Array Obj) (d b i : Nat), b < P7.heap.size → (P7.drew.ext E d).cell? ⟨b, i, none⟩ = P7.cell? ⟨b, i, none⟩ := fun E d b i h => cell?_ext _ _ _ _ _ _ h
  have zf : ∀ (E : Array Obj) (d i : Nat), (P7.drew.ext E d).frozen? ⟨B1 + 1 + 1, i, none⟩ = P7.frozen? ⟨B1 + 1 + 1, i, none⟩ := fun E d i => frozen?_ext _ _ _ _ _ _ l5
  have l5d : B1 + 1 + 1 < P7.drew.heap.size := l5
  refine wp_region_ord_but (B1 + 1 + 1) (.f 0 (.f 1 (.f 2 (.f 3 (.f 5 (.f 6 (.f 8 (.f 9 (.f 10 (.k 4 (.a 7 (.f 11 (.f 12 (.a 13 (.f 14 .d))))) 7 (.f 11 (.a 4 (.f 12 (.a 13 (.f 14 .d))))))))))))))) (by kernel_rfl) (by kernel_rfl) ?_
  repeat ((first | refine wpOrd_pass rfl rfl ?_ | (refine wpOrd_free (v := ?_) rfl rfl (fun _ hS => ?_) ?_; rotate_left; focus (go_simp; try with_reducible rfl))); simp only [Act.put, zp1, zp2, zp3, zp4, zp5, zp6])
  refine wpOrd_fork ?_ ?_
  focus
   refine wpOrd_act rfl rfl (fun K hK => ?_)
   go_simp
   refine hK _ _ ⟨?_, ?_⟩
   · (first | (intro b o hb hx; go_simp; done) | (intro b o hb hx; (try (refine (World.cell?_alloc_lt _ _ _ ?_).trans ?_; focus (simp only [size_ext, zs1, zs2, zs3]; omega))); (repeat (refine (World.cell?_setCell_other _ _ _ _ ?_).trans ?_; focus exact fun e => hx (congrArg Addr.block e).symm)); go_simp; done) | (intro b o hb hx; (try rw [show ∀ (X : World) (a : Addr), X.drew.cell? a = X.cell? a from fun _ _ => rfl]); (repeat (refine (World.cell?_setCell_other _ _ _ _ ?_).trans ?_; (focus exact fun e => hx (congrArg Addr.block e).symm))); rfl) | exact fun b o hb _ => Ext.cellOf (by repeat (first | (with_reducible first | exact Ext.refl _ | exact Ext.same _ _ _ _ | assumption | apply Ext.alloc | apply Ext.ext | apply Ext.drew) | (with_reducible refine Ext.setCell ?_ _ _ ?_; rotate_left; focus (first | omega | (simp only [zs1, zs2, zs3, size_ext]; omega))))) hb | (intro b o hb hx; (try simp only [size_ext, World.size_alloc, World.size_drew, World.size_setCell] at hb hx); go_simp; try rfl))
   clear hK K
   try simp only [Act.put, zp1, zp2, zp3, zp4, zp5, zp6]
   refine wpOrd_call rfl rfl rfl Tryz.call79 (fun R hR => ?_)
   go_simp
   refine (copied_any _ _ _ _ (by first | rfl | assumption) (by omega) _ (by with_reducible repeat (first | assumption | apply Recs.ext | apply Recs.alloc | apply Recs.drew | (refine Recs.of_ext ?_ (by assumption))))).mono ?_
   rintro e w1 ⟨Ac1, nc1, cc1, rfl, hnc1, hvc1, E1, d1, rfl⟩
   refine hR _ _ ⟨_, rfl, ?_, ?_⟩
   · (first | (intro b o hb hx; go_simp; done) | (intro b o hb hx; (try (refine (World.cell?_alloc_lt _ _ _ ?_).trans ?_; focus (simp only [size_ext, zs1, zs2, zs3]; omega))); (repeat (refine (World.cell?_setCell_other _ _ _ _ ?_).trans ?_; focus exact fun e => hx (congrArg Addr.block e).symm)); go_simp; done) | (intro b o hb hx; (try rw [show ∀ (X : World) (a : Addr), X.drew.cell? a = X.cell? a from fun _ _ => rfl]); (repeat (refine (World.cell?_setCell_other _ _ _ _ ?_).trans ?_; (focus exact fun e => hx (congrArg Addr.block e).symm))); rfl) | exact fun b o hb _ => Ext.cellOf (by repeat (first | (with_reducible first | exact Ext.refl _ | exact Ext.same _ _ _ _ | assumption | apply Ext.alloc | apply Ext.ext | apply Ext.drew) | (with_reducible refine Ext.setCell ?_ _ _ ?_; rotate_left; focus (first | omega | (simp only [zs1, zs2, zs3, size_ext]; omega))))) hb | (intro b o hb hx; (try simp only [size_ext, World.size_alloc, World.size_drew, World.size_setCell] at hb hx); go_simp; try rfl))
   clear hR R
   simp only [Act.put, zp1, zp2, zp3, zp4, zp5, zp6]
   repeat ((first | refine wpOrd_pass rfl rfl ?_ | (refine wpOrd_free (v := ?_) rfl rfl (fun _ hS => ?_) ?_; rotate_left; focus (go_simp; try with_reducible rfl))); simp only [Act.put, zp1, zp2, zp3, zp4, zp5, zp6])
   refine wpOrd_act rfl rfl (fun K hK => ?_)
   go_simp
   refine hK _ _ ⟨?_, ?_⟩
   · (first | (intro b o hb hx; go_simp; done) | (intro b o hb hx; (try (refine (World.cell?_alloc_lt _ _ _ ?_).trans ?_; focus (simp only [size_ext, zs1, zs2, zs3]; omega))); (repeat (refine (World.cell?_setCell_other _ _ _ _ ?_).trans ?_; focus exact fun e => hx (congrArg Addr.block e).symm)); go_simp; done) | (intro b o hb hx; (try rw [show ∀ (X : World) (a : Addr), X.drew.cell? a = X.cell? a from fun _ _ => rfl]); (repeat (refine (World.cell?_setCell_other _ _ _ _ ?_).trans ?_; (focus exact fun e => hx (congrArg Addr.block e).symm))); rfl) | exact fun b o hb _ => Ext.cellOf (by repeat (first | (with_reducible first | exact Ext.refl _ | exact Ext.same _ _ _ _ | assumption | apply Ext.alloc | apply Ext.ext | apply Ext.drew) | (with_reducible refine Ext.setCell ?_ _ _ ?_; rotate_left; focus (first | omega | (simp only [zs1, zs2, zs3, size_ext]; omega))))) hb | (intro b o hb hx; (try simp only [size_ext, World.size_alloc, World.size_drew, World.size_setCell] at hb hx); go_simp; try rfl))
   clear hK K
   try simp only [Act.put, zp1, zp2, zp3, zp4, zp5, zp6]
   repeat ((first | refine wpOrd_pass rfl rfl ?_ | (refine wpOrd_free (v := ?_) rfl rfl (fun _ hS => ?_) ?_; rotate_left; focus (go_simp; try with_reducible rfl))); simp only [Act.put, zp1, zp2, zp3, zp4, zp5, zp6])
   refine wpOrd_nil ?_
  rotate_right
  focus
   refine wpOrd_call rfl rfl rfl Tryz.call79 (fun R hR => ?_)
   go_simp
   refine (copied_any _ _ _ _ (by first | rfl | assumption) (by omega) _ (by with_reducible repeat (first | assumption | apply Recs.ext | apply Recs.alloc | apply Recs.drew | (refine Recs.of_ext ?_ (by assumption))))).mono ?_
   rintro e w1 ⟨Ac2, nc2, cc2, rfl, hnc2, hvc2, E2, d2, rfl⟩
   refine hR _ _ ⟨_, rfl, ?_, ?_⟩
   · (first | (intro b o hb hx; go_simp; done) | (intro b o hb hx; (try (refine (World.cell?_alloc_lt _ _ _ ?_).trans ?_; focus (simp only [size_ext, zs1, zs2, zs3]; omega))); (repeat (refine (World.cell?_setCell_other _ _ _ _ ?_).trans ?_; focus exact fun e => hx (congrArg Addr.block e).symm)); go_simp; done) | (intro b o hb hx; (try rw [show ∀ (X : World) (a : Addr), X.drew.cell? a = X.cell? a from fun _ _ => rfl]); (repeat (refine (World.cell?_setCell_other _ _ _ _ ?_).trans ?_; (focus exact fun e => hx (congrArg Addr.block e).symm))); rfl) | exact fun b o hb _ => Ext.cellOf (by repeat (first | (with_reducible first | exact Ext.refl _ | exact Ext.same _ _ _ _ | assumption | apply Ext.alloc | apply Ext.ext | apply Ext.drew) | (with_reducible refine Ext.setCell ?_ _ _ ?_; rotate_left; focus (first | omega | (simp only [zs1, zs2, zs3, size_ext]; omega))))) hb | (intro b o hb hx; (try simp only [size_ext, World.size_alloc, World.size_drew, World.size_setCell] at hb hx); go_simp; try rfl))
   clear hR R
   simp only [Act.put, zp1, zp2, zp3, zp4, zp5, zp6]
   repeat ((first | refine wpOrd_pass rfl rfl ?_ | (refine wpOrd_free (v := ?_) rfl rfl (fun _ hS => ?_) ?_; rotate_left; focus (go_simp; try with_reducible rfl))); simp only [Act.put, zp1, zp2, zp3, zp4, zp5, zp6])
   refine wpOrd_act rfl rfl (fun K hK => ?_)
   go_simp
   refine hK _ _ ⟨?_, ?_⟩
   · (first | (intro b o hb hx; go_simp; done) | (intro b o hb hx; (try (refine (World.cell?_alloc_lt _ _ _ ?_).trans ?_; focus (simp only [size_ext, zs1, zs2, zs3]; omega))); (repeat (refine (World.cell?_setCell_other _ _ _ _ ?_).trans ?_; focus exact fun e => hx (congrArg Addr.block e).symm)); go_simp; done) | (intro b o hb hx; (try rw [show ∀ (X : World) (a : Addr), X.drew.cell? a = X.cell? a from fun _ _ => rfl]); (repeat (refine (World.cell?_setCell_other _ _ _ _ ?_).trans ?_; (focus exact fun e => hx (congrArg Addr.block e).symm))); rfl) | exact fun b o hb _ => Ext.cellOf (by repeat (first | (with_reducible first | exact Ext.refl _ | exact Ext.same _ _ _ _ | assumption | apply Ext.alloc | apply Ext.ext | apply Ext.drew) | (with_reducible refine Ext.setCell ?_ _ _ ?_; rotate_left; focus (first | omega | (simp only [zs1, zs2, zs3, size_ext]; omega))))) hb | (intro b o hb hx; (try simp only [size_ext, World.size_alloc, World.size_drew, World.size_setCell] at hb hx); go_simp; try rfl))
   clear hK K
   try simp only [Act.put, zp1, zp2, zp3, zp4, zp5, zp6]
   repeat ((first | refine wpOrd_pass rfl rfl ?_ | (refine wpOrd_free (v := ?_) rfl rfl (fun _ hS => ?_) ?_; rotate_left; focus (go_simp; try with_reducible rfl))); simp only [Act.put, zp1, zp2, zp3, zp4, zp5, zp6])
   refine wpOrd_act rfl rfl (fun K hK => ?_)
   go_simp
   refine hK _ _ ⟨?_, ?_⟩
   · (first | (intro b o hb hx; go_simp; done) | (intro b o hb hx; (try (refine (World.cell?_alloc_lt _ _ _ ?_).trans ?_; focus (simp only [size_ext, zs1, zs2, zs3]; omega))); (repeat (refine (World.cell?_setCell_other _ _ _ _ ?_).trans ?_; focus exact fun e => hx (congrArg Addr.block e).symm)); go_simp; done) | (intro b o hb hx; (try rw [show ∀ (X : World) (a : Addr), X.drew.cell? a = X.cell? a from fun _ _ => rfl]); (repeat (refine (World.cell?_setCell_other _ _ _ _ ?_).trans ?_; (focus exact fun e => hx (congrArg Addr.block e).symm))); rfl) | exact fun b o hb _ => Ext.cellOf (by repeat (first | (with_reducible first | exact Ext.refl _ | exact Ext.same _ _ _ _ | assumption | apply Ext.alloc | apply Ext.ext | apply Ext.drew) | (with_reducible refine Ext.setCell ?_ _ _ ?_; rotate_left; focus (first | omega | (simp only [zs1, zs2, zs3, size_ext]; omega))))) hb | (intro b o hb hx; (try simp only [size_ext, World.size_alloc, World.size_drew, World.size_setCell] at hb hx); go_simp; try rfl))
   clear hK K
   try simp only [Act.put, zp1, zp2, zp3, zp4, zp5, zp6]
   repeat ((first | refine wpOrd_pass rfl rfl ?_ | (refine wpOrd_free (v := ?_) rfl rfl (fun _ hS => ?_) ?_; rotate_left; focus (go_simp; try with_reducible rfl))); simp only [Act.put, zp1, zp2, zp3, zp4, zp5, zp6])
   refine wpOrd_nil ?_
  all_goals
    go_wp2_with fail
  · have z := z6.out
    have hB := HB1.out
    have h5 := B5'.out.lt
    refine bodyPost_ret (v := .tuple #[.slice (some ⟨P7.heap.size + E2.size, 0, none⟩) 4 4, memV Ac2 nc2 cc2 (1 - 0) (gen + 1), .int .i64 0]) (by simp [results, Tryz.results21, go_sem, zc, h5, Q50, Q51, Q52, cell?_drew_ext, lt_add_any]) rfl ?_
    refine ⟨_, Ac2, nc2, cc2, rfl, ?_, ⟨hnc2.out.symm, ?_⟩, ?_⟩
    · rw [HL.out]
      exact drvs4_of (BoxC.new_at _ _ (by simp)) (by have := X67.out.below.size; omega) ⟨hl0, hl1, Nat.le_refl _, Nat.le_refl _, by omega, by omega, (sx1.out.through (X67.out.drew.ext _ _) ((Ext.refl _).alloc _) (by omega) (by omega)), (sy1.out.through (X67.out.drew.ext _ _) ((Ext.refl _).alloc _) (by omega) (by omega))⟩
        ⟨hl0, Hnw.out, Nat.le_refl _, Hle.out, by omega, Hcap.out, (sx2.out.through (X67.out.drew.ext _ _) ((Ext.refl _).alloc _) (by omega) (by omega)), (sw.out.through (X67.out.drew.ext _ _) ((Ext.refl _).alloc _) (by omega) (by omega))⟩
        ⟨hl0, Hnw.out, Nat.le_refl _, Nat.le_refl _, by omega, by omega, (sx3.out.through (X67.out.drew.ext _ _) ((Ext.refl _).alloc _) (by omega) (by omega)), (sy3.out.through (X67.out.drew.ext _ _) ((Ext.refl _).alloc _) (by omega) (by omega))⟩
        ⟨rfl, Hnw.out, Nat.le_refl _, Nat.le_refl _, by omega, by omega, BytA.nil _ _ _, (ry4.out.through (X67.out.drew.ext _ _) ((Ext.refl _).alloc _) (by omega) (by omega))⟩
    · exact hvc2.anc.through (Ext.refl _) ((Ext.refl _).alloc _) h5 (by show w.heap.size ≤ P7.heap.size; omega)
    · exact (Ext.box (Ext.box (Ext.box (E7.out.drew.ext _ _) _ _ (by omega)) _ _ (by omega)) _ _ (by omega)).alloc _
  · have z := z6.out
    have hB := HB1.out
    have h5 := B5'.out.lt
    refine bodyPost_ret (v := .tuple #[.slice (some ⟨P7.heap.size, 0, none⟩) 4 4, memV Ac1 nc1 cc1 (1 - 0) (gen + 1), .int .i64 0]) (by simp [results, Tryz.results21, go_sem, zc, h5, Q50, Q51, Q52, cell?_drew_ext, lt_add_any]) rfl ?_
    refine ⟨_, Ac1, nc1, cc1, rfl, ?_, ⟨hnc1.out.symm, ?_⟩, ?_⟩
    · rw [HL.out]
      exact drvs4_of ((BoxC.new_at _ _ (by simp)).drew.of_ext ((Ext.refl _).ext _ _)) (by have := X67.out.below.size; omega) ⟨hl0, hl1, Nat.le_refl _, Nat.le_refl _, by omega, by omega, (sx1.out.through X67.out (((Ext.refl _).alloc _).drew.ext _ _) (by omega) (by omega)), (sy1.out.through X67.out (((Ext.refl _).alloc _).drew.ext _ _) (by omega) (by omega))⟩
        ⟨hl0, Hnw.out, Nat.le_refl _, Hle.out, by omega, Hcap.out, (sx2.out.through X67.out (((Ext.refl _).alloc _).drew.ext _ _) (by omega) (by omega)), (sw.out.through X67.out (((Ext.refl _).alloc _).drew.ext _ _) (by omega) (by omega))⟩
        ⟨hl0, Hnw.out, Nat.le_refl _, Nat.le_refl _, by omega, by omega, (sx3.out.through X67.out (((Ext.refl _).alloc _).drew.ext _ _) (by omega) (by omega)), (sy3.out.through X67.out (((Ext.refl _).alloc _).drew.ext _ _) (by omega) (by omega))⟩
        ⟨rfl, Hnw.out, Nat.le_refl _, Nat.le_refl _, by omega, by omega, BytA.nil _ _ _, (ry4.out.through X67.out (((Ext.refl _).alloc _).drew.ext _ _) (by omega) (by omega))⟩
    · exact RecsA.moved2 hvc1.anc (Ext.refl _) (by simp) (Nat.le_refl _) (by show w.heap.size ≤ (P7.alloc _).heap.size; rw [World.size_alloc]; omega)
    · exact ((Ext.box (Ext.box (Ext.box E7.out _ _ (by omega)) _ _ (by omega)) _ _ (by omega)).alloc _).drew.ext _ _
set_option maxRecDepth 100000 in
set_option maxHeartbeats 16000000 in
theorem pack_ok1 (A0 : Option Addr) (n0 c0 : Nat) (A1 : Option Addr) (n1 c1 : Nat) (L0 L1 : List UInt8) (f0 f1 : Int) (Am : Option Addr) (nm cm : Nat) (l : List Rec) (gen : Int) (hm : l.length = nm) (hmo : memOk ⟨⟨L0, f0⟩, ⟨L1, f1⟩⟩ ⟨l, 1, gen⟩ = true) (hgn : gen ≠ 1000000000) (w : World)
    (hD : DrvY w ⟨⟨L0, f0⟩, ⟨L1, f1⟩⟩ A0 n0 c0 A1 n1 c1) (hr : Recs w Am l) :
    Calls Tryz.prog 21 #[drvV A0 n0 c0 f0 A1 n1 c1 f1, memV Am nm cm 1 gen] w fun e w' => ∃ g Ag ng cg, e = .returned (.tuple #[.slice (some ⟨g, 0, none⟩) 4 4, memV Ag ng cg (1 - 1) (gen + 1), .int .i64 0]) ∧
      Drvs4 w.heap.size w' g (packL ⟨⟨L0, f0⟩, ⟨L1, f1⟩⟩ ⟨l, 1, gen⟩) ∧ MemA w.heap.size w' ⟨l, 1 - 1, gen + 1⟩ Ag ng cg ∧ Ext w w' := by
  obtain ⟨hl0, hl1, hc0, hc1, hbig0, hbig1, hb0, hb1⟩ := hD
  obtain ⟨hok, -, hnil, hck, hpg, hgb⟩ := memOk_facts hmo
  obtain ⟨hg0, hg1⟩ := pack_gen hmo
  obtain ⟨hs0, hs1⟩ := driveOk_len hok
  obtain ⟨h80, hall, -⟩ := checkB_iff.1 hck
  simp only [] at hl0 hl1 hb0 hb1 hs0 hs1 hg0 hg1
  rw [hl0] at hs0
  rw [hl1] at hs1
  have h80' : nm ≤ 80 := by rw [← hm]; exact h80
  have hgq : (gen == 1000000000) = false := by simpa using hgn
  have hw1 : IntKind.i64.wrap (gen + 1) = gen + 1 := IntWalk.i64_in _ (by omega)
  have hpe : packE ⟨⟨L0, f0⟩, ⟨L1, f1⟩⟩ ⟨l, 1, gen⟩ = 0 := by rw [packE, if_pos ⟨hmo, hgn⟩]
  have HL : Hid (packL ⟨⟨L0, f0⟩, ⟨L1, f1⟩⟩ ⟨l, 1, gen⟩ = [⟨⟨L0, n0⟩, ⟨L1, n1⟩⟩, ⟨⟨writtenB (gen + 1) nm l, 0⟩, ⟨L1, n1⟩⟩, ⟨⟨writtenB (gen + 1) nm l, (writtenB (gen + 1) nm l).length⟩, ⟨L1, n1⟩⟩, ⟨⟨writtenB (gen + 1) nm l, (writtenB (gen + 1) nm l).length⟩, ⟨[], 0⟩⟩]) := hid (by
    rw [packL, if_pos hpe]
    simp [firmD, firmF, withFile, noFile, packB, hl0, hl1, hm])
  have Hall := hid hall
  have hshort := written_short hall h80 (gen + 1) nm
  obtain ⟨WB, hWB⟩ : ∃ WB, writtenB (gen + 1) nm l = WB := ⟨_, rfl⟩
  rw [hWB] at HL hshort
  have HWB := hid hWB
  clear hnil hck hpg hgb hok h80 hall hpe hWB
  have Hb0 := hid hb0
  have Hb1 := hid hb1
  have Hr := hid hr
  clear hb0 hb1 hr
  go_enter Tryz.func21, Tryz.ntmps21
  go_wp2_with fail
  refine (isMemory_any _ _ _ _ _ _ ⟨⟨L0, f0⟩, ⟨L1, f1⟩⟩ _ _ _ ⟨l, 1, gen⟩ hl0 hl1 hc0 hc1 hbig0 hbig1 hm (by omega) _ (by have := Hb0.out; exact (by with_reducible repeat (first | assumption | apply Byt.ext | apply Byt.alloc | apply Byt.drew | (refine Byt.of_ext ?_ (by assumption))))) (by have := Hb1.out; exact (by with_reducible repeat (first | assumption | apply Byt.ext | apply Byt.alloc | apply Byt.drew | (refine Byt.of_ext ?_ (by assumption))))) (by have := Hr.out; exact (by with_reducible repeat (first | assumption | apply Recs.ext | apply Recs.alloc | apply Recs.drew | (refine Recs.of_ext ?_ (by assumption)))))).mono ?_
  rintro e P1 ⟨rfl, x1⟩
  rw [hmo]
  obtain ⟨B1, hB1⟩ : ∃ B : Nat, w.heap.size = B := ⟨_, rfl⟩
  have z1 : Hid (B1 + 3 ≤ P1.heap.size) := hid (by have := x1.below.size; simp only [World.size_alloc] at this; omega)
  have b2 : BoxC P1 B1 [.slice A0 n0 c0, .int .i64 f0, .slice A1 n1 c1, .int .i64 f1] 27 := BoxC.of_ext (((BoxC.new_at _ _ hB1.symm).alloc _).alloc _) x1
  have b3 : BoxC P1 (B1 + 1) [.slice Am nm cm, .int .i64 1, .int .i64 gen] 36 := BoxC.of_ext ((BoxC.new_at _ _ (by simp only [World.size_alloc]; omega)).alloc _) x1
  have b5 : BoxC P1 (B1 + 1 + 1) [.slice none 0 0, .int .i64 0, .int .i64 0] 36 := BoxC.of_ext (BoxC.new_at _ _ (by simp only [World.size_alloc]; omega)) x1
  have e1 : Ext w P1 := Ext.trans (by repeat (first | (with_reducible first | exact Ext.refl _ | exact Ext.same _ _ _ _ | assumption | apply Ext.alloc | apply Ext.ext | apply Ext.drew) | (with_reducible refine Ext.setCell ?_ _ _ ?_; rotate_left; focus (first | omega | (simp only [zs1, zs2, zs3, size_ext]; omega))))) x1
  simp only [hB1]
  have E1 := hid e1
  have HB1 := hid hB1
  have c20 := b2.cell (i := 0) rfl
  have c21 := b2.cell (i := 1) rfl
  have c22 := b2.cell (i := 2) rfl
  have c23 := b2.cell (i := 3) rfl
  have c30 := b3.cell (i := 0) rfl
  have c31 := b3.cell (i := 1) rfl
  have c32 := b3.cell (i := 2) rfl
  have l2 := b2.lt
  have l3 := b3.lt
  have B3 := hid b3
  have B5 := hid b5
  clear x1 e1 b2 b3 b5 hB1
  go_wp2_with fail
  refine (synced_any _ _ _ _ _ _ _ _ L0 L1 hl0 hl1 (by omega) (by omega) _ (by have := Hb0.out.of_ext E1.out; exact (by with_reducible repeat (first | assumption | apply Byt.ext | apply Byt.alloc | apply Byt.drew | (refine Byt.of_ext ?_ (by assumption))))) (by have := Hb1.out.of_ext E1.out; exact (by with_reducible repeat (first | assumption | apply Byt.ext | apply Byt.alloc | apply Byt.drew | (refine Byt.of_ext ?_ (by assumption)))))).mono ?_
  rintro e P2 ⟨Ax1, Ay1, rfl, hox1, hoy1, x2⟩
  obtain ⟨B2, hB2⟩ : ∃ B : Nat, P1.heap.size = B := ⟨_, rfl⟩
  have z2 : Hid (B1 + 3 ≤ B2 ∧ B2 + 1 ≤ P2.heap.size) := hid (by have q := x2.below.size; have := z1.out; simp only [World.size_alloc] at q; omega)
  have b3 := (B3.out.alloc _).of_ext x2
  have B5' := hid ((B5.out.alloc _).of_ext x2)
  have b7 : BoxC P2 B2 [.int .i64 (gen + 1), .int .i64 nm, .slice Am nm cm] 114 := (BoxC.new_at _ _ hB2.symm).of_ext x2
  have rx1 := hid (hox1.anc.mono (base' := B2) (by simp only [World.size_alloc]; omega))
  have ry1 := hid (hoy1.anc.mono (base' := B2) (by simp only [World.size_alloc]; omega))
  have E2 := hid (Ext.trans (E1.out.alloc _) x2)
  simp only [hB2]
  have B3' := hid b3
  have B7 := hid b7
  clear x2 b3 b7 hox1 hoy1 hB2 B3 B5 c20 c21 c22 c23 c30 c31 c32 l2 l3 E1 z1
  go_wp2_with fail
  refine (driveCopy_any _ _ _ _ _ _ _ _ L0 L1 hl0 hl1 (by omega) (by omega) _ (by have := rx1.out.read; exact (by with_reducible repeat (first | assumption | apply Byt.ext | apply Byt.alloc | apply Byt.drew | (refine Byt.of_ext ?_ (by assumption))))) (by have := ry1.out.read; exact (by with_reducible repeat (first | assumption | apply Byt.ext | apply Byt.alloc | apply Byt.drew | (refine Byt.of_ext ?_ (by assumption)))))).mono ?_
  rintro e P3 ⟨Ax2, Ay2, rfl, hox2, hoy2, x3⟩
  obtain ⟨B3n, hB3⟩ : ∃ B : Nat, P2.heap.size = B := ⟨_, rfl⟩
  have z3 : Hid (B1 + 3 ≤ B2 ∧ B2 + 1 ≤ B3n ∧ B3n + 1 ≤ P3.heap.size) := hid (by have q := x3.below.size; have := z2.out; simp only [World.size_alloc] at q; omega)
  have B3 := hid ((B3'.out.alloc _).of_ext x3)
  have B5 := hid ((B5'.out.alloc _).of_ext x3)
  have b7 := (B7.out.alloc _).of_ext x3
  have B9 : Hid (BoxC P3 B3n [.slice Ax1 n0 n0, .int .i64 n0, .slice Ay1 n1 n1, .int .i64 n1] 27) := hid ((BoxC.new_at _ _ hB3.symm).of_ext x3)
  have sx1 := hid ((rx1.out.alloc _).of_ext x3)
  have sy1 := hid ((ry1.out.alloc _).of_ext x3)
  have rx2 := hid (hox2.anc.mono (base' := B3n) (by simp only [World.size_alloc]; omega))
  have ry2 := hid (hoy2.anc.mono (base' := B3n) (by simp only [World.size_alloc]; omega))
  have E3 := hid (Ext.trans (E2.out.alloc _) x3)
  simp only [hB3]
  have c70 := b7.cell (i := 0) rfl
  have c71 := b7.cell (i := 1) rfl
  have c72 := b7.cell (i := 2) rfl
  have l7 := b7.lt
  have B7' := hid b7
  clear x3 b7 hox2 hoy2 hB3 B3' B5' B7 rx1 ry1 E2 z2
  go_wp2_with fail
  refine (written_any _ _ _ _ _ l hm (by omega) Hall.out (by omega) (by omega) (by omega) (by omega) _ (by have := Hr.out.of_ext E3.out; exact (by with_reducible repeat (first | assumption | apply Recs.ext | apply Recs.alloc | apply Recs.drew | (refine Recs.of_ext ?_ (by assumption)))))).mono ?_
  rintro e P4 ⟨Aw, nw, cw, rfl, hnw, how, x4⟩
  obtain ⟨B4, hB4⟩ : ∃ B : Nat, P3.heap.size = B := ⟨_, rfl⟩
  have z4 : Hid (B1 + 3 ≤ B2 ∧ B2 + 1 ≤ B3n ∧ B3n + 1 ≤ B4 ∧ B4 + 1 ≤ P4.heap.size) := hid (by have q := x4.below.size; have := z3.out; simp only [World.size_alloc] at q; omega)
  have b10 : BoxC P4 B4 [.slice Ax2 n0 n0, .int .i64 n0, .slice Ay2 n1 n1, .int .i64 n1] 27 := (BoxC.new_at _ _ hB4.symm).of_ext x4
  rw [HWB.out] at hnw how
  have Hnw : Hid (WB.length = nw) := hid hnw.out.symm
  have Hle := hid how.le
  have Hcap := hid how.cap
  rw [Hnw.out] at hshort
  have HL2 := HL.out
  rw [Hnw.out] at HL2
  have HL := hid HL2
  clear HL2
  have rw4 := hid (how.anc.mono (base' := B4 + 1) (by simp only [World.size_alloc]; omega))
  have X34 := hid (Ext.trans ((Ext.refl P3).alloc _) x4)
  have HB4 := hid hB4
  simp only [hB4]
  have c0 := b10.cell (i := 0) rfl
  have c1 := b10.cell (i := 1) rfl
  have c2 := b10.cell (i := 2) rfl
  have c3 := b10.cell (i := 3) rfl
  have fz := b10.frozen
  have l10 := b10.lt
  have B10 := hid b10
  clear x4 b10 hnw how hB4 z3 c70 c71 c72 l7
  go_wp2_with fail
  have x3s : Hid (Ext P3 ((P4.setCell ⟨B4, 0, none⟩ (.slice Aw nw cw)).setCell ⟨B4, 1, none⟩ (.int .i64 0))) := hid (Ext.box (Ext.box X34.out _ _ (Nat.le_of_eq HB4.out)) _ _ (Nat.le_of_eq HB4.out))
  have Hb2 : Hid (Byt ((P4.setCell ⟨B4, 0, none⟩ (.slice Aw nw cw)).setCell ⟨B4, 1, none⟩ (.int .i64 0)) Ay2 L1) := hid (ry2.out.of_ext x3s.out).read
  have Rw4 := hid ((rw4.out.set (b := B4) (i := 0) (v := .slice Aw nw cw) (by omega)).set (b := B4) (i := 1) (v := .int .i64 0) (by omega))
  have B10' := hid ((B10.out.set 0 (.slice Aw nw cw)).set 1 (.int .i64 0))
  refine (synced_any _ _ _ _ _ _ _ _ WB L1 (by first | exact hl0 | exact hl1 | exact Hnw.out) (by first | exact hl0 | exact hl1 | exact Hnw.out) (by omega) (by omega) _ Rw4.out.read Hb2.out).mono ?_
  rintro e P5 ⟨Ax3, Ay3, rfl, hox3, hoy3, x5⟩
  obtain ⟨B5n, hB5⟩ : ∃ B : Nat, P5.heap.size = B := ⟨_, rfl⟩
  have z5 : Hid (B1 + 3 ≤ B2 ∧ B2 + 1 ≤ B3n ∧ B3n + 1 ≤ B4 ∧ B4 + 1 ≤ B5n) := hid (by have q := x5.below.size; have := z4.out; simp only [World.size_setCell] at q; omega)
  have e35 := x3s.out.trans x5
  have B3' := hid (B3.out.of_ext e35)
  have B5' := hid (B5.out.of_ext e35)
  have B7 := hid (B7'.out.of_ext e35)
  have B9' := hid (B9.out.of_ext e35)
  have b10 := B10'.out.of_ext x5
  have tx1 := hid (sx1.out.of_ext e35)
  have ty1 := hid (sy1.out.of_ext e35)
  have tx2 := hid (rx2.out.of_ext e35)
  have ty2 := hid (ry2.out.of_ext e35)
  have tw := hid (Rw4.out.of_ext x5)
  have rx3 := hid (hox3.anc.mono (base' := B4) (by simp only [World.size_setCell]; have := z4.out; omega))
  have ry3 := hid (hoy3.anc.mono (base' := B4) (by simp only [World.size_setCell]; have := z4.out; omega))
  have E5 := hid (Ext.trans E3.out e35)
  have HB5 := hid hB5
  have B10 := hid b10
  clear x5 e35 x3s Hb2 Rw4 B10' b10 hox3 hoy3 hB5 B3 B5 B7' B9 sx1 sy1 rx2 ry2 rw4 X34 HB4 E3 z4 c0 c1 c2 c3 fz l10
  go_wp2_with fail
  refine (driveCopy_any _ _ _ _ _ _ _ _ WB L1 (by first | exact hl0 | exact hl1 | exact Hnw.out) (by first | exact hl0 | exact hl1 | exact Hnw.out) (by omega) (by omega) _ (by have := rx3.out.read; exact (by with_reducible repeat (first | assumption | apply Byt.ext | apply Byt.alloc | apply Byt.drew | (refine Byt.of_ext ?_ (by assumption))))) (by have := ry3.out.read; exact (by with_reducible repeat (first | assumption | apply Byt.ext | apply Byt.alloc | apply Byt.drew | (refine Byt.of_ext ?_ (by assumption)))))).mono ?_
  rintro e P6 ⟨Ax4, Ay4, rfl, hox4, hoy4, x6⟩
  obtain ⟨B6, hB6⟩ : ∃ B : Nat, P6.heap.size = B := ⟨_, rfl⟩
  have z6 : Hid (B1 + 3 ≤ B2 ∧ B2 + 1 ≤ B3n ∧ B3n + 1 ≤ B4 ∧ B4 + 1 ≤ B5n ∧ B5n + 1 ≤ B6) := hid (by have q := x6.below.size; have := z5.out; have := HB5.out; simp only [World.size_alloc] at q; omega)
  have e56 := Ext.trans ((Ext.refl P5).alloc _) x6
  have b3 := B3'.out.of_ext e56
  have b5 := B5'.out.of_ext e56
  have b7 := B7.out.of_ext e56
  have b9 := B9'.out.of_ext e56
  have b10 := B10.out.of_ext e56
  have b11 : BoxC P6 B5n [.slice Ax3 nw nw, .int .i64 nw, .slice Ay3 n1 n1, .int .i64 n1] 27 := (BoxC.new_at _ _ HB5.out.symm).of_ext x6
  have sx1 := hid (tx1.out.of_ext e56)
  have sy1 := hid (ty1.out.of_ext e56)
  have sx2 := hid (tx2.out.of_ext e56)
  have sy2 := hid (ty2.out.of_ext e56)
  have sw := hid (tw.out.of_ext e56)
  have sx3 := hid (rx3.out.of_ext e56)
  have sy3 := hid (ry3.out.of_ext e56)
  have rx4 := hid (hox4.anc.mono (base' := B5n) (by simp only [World.size_alloc]; have := HB5.out; omega))
  have ry4 := hid (hoy4.anc.mono (base' := B5n) (by simp only [World.size_alloc]; have := HB5.out; omega))
  have E6 := hid (Ext.trans E5.out e56)
  have c31 := b3.cell (i := 1) rfl
  have l3 := b3.lt
  have HB6 := hid hB6
  (try simp only [HB5.out])
  have B3 := hid b3
  have B5 := hid b5
  have B7' := hid b7
  have B9 := hid b9
  have B10' := hid b10
  have B11 := hid b11
  clear x6 e56 b3 b5 b7 b9 b10 b11 hox4 hoy4 hB6 B3' B5' B7 B9' B10 tx1 ty1 tx2 ty2 tw rx3 ry3 E5 z5 HB5
  go_wp2_with fail
  (try simp only [HB6.out])
  obtain ⟨P7, hP7⟩ : ∃ P7, P6.alloc (.cells #[.slice Ax4 nw nw, .int .i64 nw, .slice none 0 0, .int .i64 0] 27) = P7 := ⟨_, rfl⟩
  rw [hP7]
  have x67 : Ext P6 P7 := by rw [← hP7]; exact (Ext.refl _).alloc _
  have b12 : BoxC P7 B6 [.slice Ax4 nw nw, .int .i64 nw, .slice none 0 0, .int .i64 0] 27 := by rw [← hP7]; exact BoxC.new_at _ _ HB6.out.symm
  have b3 := B3.out.of_ext x67
  have b5 := B5.out.of_ext x67
  have b7 := B7'.out.of_ext x67
  have b9 := B9.out.of_ext x67
  have b10 := B10'.out.of_ext x67
  have b11 := B11.out.of_ext x67
  have E7 := hid (Ext.trans E6.out x67)
  have X67 := hid x67
  have hr7 := Hr.out.of_ext E7.out
  have Q30 := b3.cell (i := 0) rfl
  have Q70 := b7.cell (i := 0) rfl
  have Q90 := b9.cell (i := 0) rfl
  have Q91 := b9.cell (i := 1) rfl
  have Q92 := b9.cell (i := 2) rfl
  have Q93 := b9.cell (i := 3) rfl
  have Q100 := b10.cell (i := 0) rfl
  have Q101 := b10.cell (i := 1) rfl
  have Q102 := b10.cell (i := 2) rfl
  have Q103 := b10.cell (i := 3) rfl
  have Q110 := b11.cell (i := 0) rfl
  have Q111 := b11.cell (i := 1) rfl
  have Q112 := b11.cell (i := 2) rfl
  have Q113 := b11.cell (i := 3) rfl
  have Q120 := b12.cell (i := 0) rfl
  have Q121 := b12.cell (i := 1) rfl
  have Q122 := b12.cell (i := 2) rfl
  have Q123 := b12.cell (i := 3) rfl
  have Q50 := b5.cell (i := 0) rfl
  have Q51 := b5.cell (i := 1) rfl
  have Q52 := b5.cell (i := 2) rfl
  have fz := b5.frozen
  have l3 := b3.lt
  have l5 := b5.lt
  have l7 := b7.lt
  have l9 := b9.lt
  have l10 := b10.lt
  have l11 := b11.lt
  have l12 := b12.lt
  have ne3 : ¬ (B1 + 1 = B1 + 1 + 1) := by omega
  have ne7 : ¬ (B2 = B1 + 1 + 1) := by have := z6.out; omega
  have ne9 : ¬ (B3n = B1 + 1 + 1) := by have := z6.out; omega
  have ne10 : ¬ (B4 = B1 + 1 + 1) := by have := z6.out; omega
  have ne11 : ¬ (B5n = B1 + 1 + 1) := by have := z6.out; omega
  have ne12 : ¬ (B6 = B1 + 1 + 1) := by have := z6.out; omega
  have B5' := hid b5
  clear hP7 x67 b12 b3 b5 b7 b9 b10 b11 B3 B5 B7' B9 B10' B11 E6

  have zc : ∀ (E : Array Obj) (d b i : Nat), b < P7.heap.size → (P7.drew.ext E d).cell? ⟨b, i, none⟩ = P7.cell? ⟨b, i, none⟩ := fun E d b i h => cell?_ext _ _ _ _ _ _ h
  have zf : ∀ (E : Array Obj) (d i : Nat), (P7.drew.ext E d).frozen? ⟨B1 + 1 + 1, i, none⟩ = P7.frozen? ⟨B1 + 1 + 1, i, none⟩ := fun E d i => frozen?_ext _ _ _ _ _ _ l5
  have l5d : B1 + 1 + 1 < P7.drew.heap.size := l5
  refine wp_region_ord_but (B1 + 1 + 1) (.f 0 (.f 1 (.f 2 (.f 3 (.f 5 (.f 6 (.f 8 (.f 9 (.f 10 (.k 4 (.a 7 (.f 11 (.f 12 (.a 13 (.f 14 .d))))) 7 (.f 11 (.a 4 (.f 12 (.a 13 (.f 14 .d))))))))))))))) (by kernel_rfl) (by kernel_rfl) ?_
  repeat ((first | refine wpOrd_pass rfl rfl ?_ | (refine wpOrd_free (v := ?_) rfl rfl (fun _ hS => ?_) ?_; rotate_left; focus (go_simp; try with_reducible rfl))); simp only [Act.put, zp1, zp2, zp3, zp4, zp5, zp6])
  refine wpOrd_fork ?_ ?_
  focus
   refine wpOrd_act rfl rfl (fun K hK => ?_)
   go_simp
   refine hK _ _ ⟨?_, ?_⟩
   · (first | (intro b o hb hx; go_simp; done) | (intro b o hb hx; (try (refine (World.cell?_alloc_lt _ _ _ ?_).trans ?_; focus (simp only [size_ext, zs1, zs2, zs3]; omega))); (repeat (refine (World.cell?_setCell_other _ _ _ _ ?_).trans ?_; focus exact fun e => hx (congrArg Addr.block e).symm)); go_simp; done) | (intro b o hb hx; (try rw [show ∀ (X : World) (a : Addr), X.drew.cell? a = X.cell? a from fun _ _ => rfl]); (repeat (refine (World.cell?_setCell_other _ _ _ _ ?_).trans ?_; (focus exact fun e => hx (congrArg Addr.block e).symm))); rfl) | exact fun b o hb _ => Ext.cellOf (by repeat (first | (with_reducible first | exact Ext.refl _ | exact Ext.same _ _ _ _ | assumption | apply Ext.alloc | apply Ext.ext | apply Ext.drew) | (with_reducible refine Ext.setCell ?_ _ _ ?_; rotate_left; focus (first | omega | (simp only [zs1, zs2, zs3, size_ext]; omega))))) hb | (intro b o hb hx; (try simp only [size_ext, World.size_alloc, World.size_drew, World.size_setCell] at hb hx); go_simp; try rfl))
   clear hK K
   try simp only [Act.put, zp1, zp2, zp3, zp4, zp5, zp6]
   refine wpOrd_call rfl rfl rfl Tryz.call79 (fun R hR => ?_)
   go_simp
   refine (copied_any _ _ _ _ (by first | rfl | assumption) (by omega) _ (by with_reducible repeat (first | assumption | apply Recs.ext | apply Recs.alloc | apply Recs.drew | (refine Recs.of_ext ?_ (by assumption))))).mono ?_
   rintro e w1 ⟨Ac1, nc1, cc1, rfl, hnc1, hvc1, E1, d1, rfl⟩
   refine hR _ _ ⟨_, rfl, ?_, ?_⟩
   · (first | (intro b o hb hx; go_simp; done) | (intro b o hb hx; (try (refine (World.cell?_alloc_lt _ _ _ ?_).trans ?_; focus (simp only [size_ext, zs1, zs2, zs3]; omega))); (repeat (refine (World.cell?_setCell_other _ _ _ _ ?_).trans ?_; focus exact fun e => hx (congrArg Addr.block e).symm)); go_simp; done) | (intro b o hb hx; (try rw [show ∀ (X : World) (a : Addr), X.drew.cell? a = X.cell? a from fun _ _ => rfl]); (repeat (refine (World.cell?_setCell_other _ _ _ _ ?_).trans ?_; (focus exact fun e => hx (congrArg Addr.block e).symm))); rfl) | exact fun b o hb _ => Ext.cellOf (by repeat (first | (with_reducible first | exact Ext.refl _ | exact Ext.same _ _ _ _ | assumption | apply Ext.alloc | apply Ext.ext | apply Ext.drew) | (with_reducible refine Ext.setCell ?_ _ _ ?_; rotate_left; focus (first | omega | (simp only [zs1, zs2, zs3, size_ext]; omega))))) hb | (intro b o hb hx; (try simp only [size_ext, World.size_alloc, World.size_drew, World.size_setCell] at hb hx); go_simp; try rfl))
   clear hR R
   simp only [Act.put, zp1, zp2, zp3, zp4, zp5, zp6]
   repeat ((first | refine wpOrd_pass rfl rfl ?_ | (refine wpOrd_free (v := ?_) rfl rfl (fun _ hS => ?_) ?_; rotate_left; focus (go_simp; try with_reducible rfl))); simp only [Act.put, zp1, zp2, zp3, zp4, zp5, zp6])
   refine wpOrd_act rfl rfl (fun K hK => ?_)
   go_simp
   refine hK _ _ ⟨?_, ?_⟩
   · (first | (intro b o hb hx; go_simp; done) | (intro b o hb hx; (try (refine (World.cell?_alloc_lt _ _ _ ?_).trans ?_; focus (simp only [size_ext, zs1, zs2, zs3]; omega))); (repeat (refine (World.cell?_setCell_other _ _ _ _ ?_).trans ?_; focus exact fun e => hx (congrArg Addr.block e).symm)); go_simp; done) | (intro b o hb hx; (try rw [show ∀ (X : World) (a : Addr), X.drew.cell? a = X.cell? a from fun _ _ => rfl]); (repeat (refine (World.cell?_setCell_other _ _ _ _ ?_).trans ?_; (focus exact fun e => hx (congrArg Addr.block e).symm))); rfl) | exact fun b o hb _ => Ext.cellOf (by repeat (first | (with_reducible first | exact Ext.refl _ | exact Ext.same _ _ _ _ | assumption | apply Ext.alloc | apply Ext.ext | apply Ext.drew) | (with_reducible refine Ext.setCell ?_ _ _ ?_; rotate_left; focus (first | omega | (simp only [zs1, zs2, zs3, size_ext]; omega))))) hb | (intro b o hb hx; (try simp only [size_ext, World.size_alloc, World.size_drew, World.size_setCell] at hb hx); go_simp; try rfl))
   clear hK K
   try simp only [Act.put, zp1, zp2, zp3, zp4, zp5, zp6]
   repeat ((first | refine wpOrd_pass rfl rfl ?_ | (refine wpOrd_free (v := ?_) rfl rfl (fun _ hS => ?_) ?_; rotate_left; focus (go_simp; try with_reducible rfl))); simp only [Act.put, zp1, zp2, zp3, zp4, zp5, zp6])
   refine wpOrd_nil ?_
  rotate_right
  focus
   refine wpOrd_call rfl rfl rfl Tryz.call79 (fun R hR => ?_)
   go_simp
   refine (copied_any _ _ _ _ (by first | rfl | assumption) (by omega) _ (by with_reducible repeat (first | assumption | apply Recs.ext | apply Recs.alloc | apply Recs.drew | (refine Recs.of_ext ?_ (by assumption))))).mono ?_
   rintro e w1 ⟨Ac2, nc2, cc2, rfl, hnc2, hvc2, E2, d2, rfl⟩
   refine hR _ _ ⟨_, rfl, ?_, ?_⟩
   · (first | (intro b o hb hx; go_simp; done) | (intro b o hb hx; (try (refine (World.cell?_alloc_lt _ _ _ ?_).trans ?_; focus (simp only [size_ext, zs1, zs2, zs3]; omega))); (repeat (refine (World.cell?_setCell_other _ _ _ _ ?_).trans ?_; focus exact fun e => hx (congrArg Addr.block e).symm)); go_simp; done) | (intro b o hb hx; (try rw [show ∀ (X : World) (a : Addr), X.drew.cell? a = X.cell? a from fun _ _ => rfl]); (repeat (refine (World.cell?_setCell_other _ _ _ _ ?_).trans ?_; (focus exact fun e => hx (congrArg Addr.block e).symm))); rfl) | exact fun b o hb _ => Ext.cellOf (by repeat (first | (with_reducible first | exact Ext.refl _ | exact Ext.same _ _ _ _ | assumption | apply Ext.alloc | apply Ext.ext | apply Ext.drew) | (with_reducible refine Ext.setCell ?_ _ _ ?_; rotate_left; focus (first | omega | (simp only [zs1, zs2, zs3, size_ext]; omega))))) hb | (intro b o hb hx; (try simp only [size_ext, World.size_alloc, World.size_drew, World.size_setCell] at hb hx); go_simp; try rfl))
   clear hR R
   simp only [Act.put, zp1, zp2, zp3, zp4, zp5, zp6]
   repeat ((first | refine wpOrd_pass rfl rfl ?_ | (refine wpOrd_free (v := ?_) rfl rfl (fun _ hS => ?_) ?_; rotate_left; focus (go_simp; try with_reducible rfl))); simp only [Act.put, zp1, zp2, zp3, zp4, zp5, zp6])
   refine wpOrd_act rfl rfl (fun K hK => ?_)
   go_simp
   refine hK _ _ ⟨?_, ?_⟩
   · (first | (intro b o hb hx; go_simp; done) | (intro b o hb hx; (try (refine (World.cell?_alloc_lt _ _ _ ?_).trans ?_; focus (simp only [size_ext, zs1, zs2, zs3]; omega))); (repeat (refine (World.cell?_setCell_other _ _ _ _ ?_).trans ?_; focus exact fun e => hx (congrArg Addr.block e).symm)); go_simp; done) | (intro b o hb hx; (try rw [show ∀ (X : World) (a : Addr), X.drew.cell? a = X.cell? a from fun _ _ => rfl]); (repeat (refine (World.cell?_setCell_other _ _ _ _ ?_).trans ?_; (focus exact fun e => hx (congrArg Addr.block e).symm))); rfl) | exact fun b o hb _ => Ext.cellOf (by repeat (first | (with_reducible first | exact Ext.refl _ | exact Ext.same _ _ _ _ | assumption | apply Ext.alloc | apply Ext.ext | apply Ext.drew) | (with_reducible refine Ext.setCell ?_ _ _ ?_; rotate_left; focus (first | omega | (simp only [zs1, zs2, zs3, size_ext]; omega))))) hb | (intro b o hb hx; (try simp only [size_ext, World.size_alloc, World.size_drew, World.size_setCell] at hb hx); go_simp; try rfl))
   clear hK K
   try simp only [Act.put, zp1, zp2, zp3, zp4, zp5, zp6]
   repeat ((first | refine wpOrd_pass rfl rfl ?_ | (refine wpOrd_free (v := ?_) rfl rfl (fun _ hS => ?_) ?_; rotate_left; focus (go_simp; try with_reducible rfl))); simp only [Act.put, zp1, zp2, zp3, zp4, zp5, zp6])
   refine wpOrd_act rfl rfl (fun K hK => ?_)
   go_simp
   refine hK _ _ ⟨?_, ?_⟩
   · (first | (intro b o hb hx; go_simp; done) | (intro b o hb hx; (try (refine (World.cell?_alloc_lt _ _ _ ?_).trans ?_; focus (simp only [size_ext, zs1, zs2, zs3]; omega))); (repeat (refine (World.cell?_setCell_other _ _ _ _ ?_).trans ?_; focus exact fun e => hx (congrArg Addr.block e).symm)); go_simp; done) | (intro b o hb hx; (try rw [show ∀ (X : World) (a : Addr), X.drew.cell? a = X.cell? a from fun _ _ => rfl]); (repeat (refine (World.cell?_setCell_other _ _ _ _ ?_).trans ?_; (focus exact fun e => hx (congrArg Addr.block e).symm))); rfl) | exact fun b o hb _ => Ext.cellOf (by repeat (first | (with_reducible first | exact Ext.refl _ | exact Ext.same _ _ _ _ | assumption | apply Ext.alloc | apply Ext.ext | apply Ext.drew) | (with_reducible refine Ext.setCell ?_ _ _ ?_; rotate_left; focus (first | omega | (simp only [zs1, zs2, zs3, size_ext]; omega))))) hb | (intro b o hb hx; (try simp only [size_ext, World.size_alloc, World.size_drew, World.size_setCell] at hb hx); go_simp; try rfl))
   clear hK K
   try simp only [Act.put, zp1, zp2, zp3, zp4, zp5, zp6]
   repeat ((first | refine wpOrd_pass rfl rfl ?_ | (refine wpOrd_free (v := ?_) rfl rfl (fun _ hS => ?_) ?_; rotate_left; focus (go_simp; try with_reducible rfl))); simp only [Act.put, zp1, zp2, zp3, zp4, zp5, zp6])
   refine wpOrd_nil ?_
  all_goals
    go_wp2_with fail
  · have z := z6.out
    have hB := HB1.out
    have h5 := B5'.out.lt
    refine bodyPost_ret (v := .tuple #[.slice (some ⟨P7.heap.size + E2.size, 0, none⟩) 4 4, memV Ac2 nc2 cc2 (1 - 1) (gen + 1), .int .i64 0]) (by simp [results, Tryz.results21, go_sem, zc, h5, Q50, Q51, Q52, cell?_drew_ext, lt_add_any]) rfl ?_
    refine ⟨_, Ac2, nc2, cc2, rfl, ?_, ⟨hnc2.out.symm, ?_⟩, ?_⟩
    · rw [HL.out]
      exact drvs4_of (BoxC.new_at _ _ (by simp)) (by have := X67.out.below.size; omega) ⟨hl0, hl1, Nat.le_refl _, Nat.le_refl _, by omega, by omega, (sx1.out.through (X67.out.drew.ext _ _) ((Ext.refl _).alloc _) (by omega) (by omega)), (sy1.out.through (X67.out.drew.ext _ _) ((Ext.refl _).alloc _) (by omega) (by omega))⟩
        ⟨Hnw.out, hl1, Hle.out, Nat.le_refl _, Hcap.out, by omega, (sw.out.through (X67.out.drew.ext _ _) ((Ext.refl _).alloc _) (by omega) (by omega)), (sy2.out.through (X67.out.drew.ext _ _) ((Ext.refl _).alloc _) (by omega) (by omega))⟩
        ⟨Hnw.out, hl1, Nat.le_refl _, Nat.le_refl _, by omega, by omega, (sx3.out.through (X67.out.drew.ext _ _) ((Ext.refl _).alloc _) (by omega) (by omega)), (sy3.out.through (X67.out.drew.ext _ _) ((Ext.refl _).alloc _) (by omega) (by omega))⟩
        ⟨Hnw.out, rfl, Nat.le_refl _, Nat.le_refl _, by omega, by omega, (rx4.out.through (X67.out.drew.ext _ _) ((Ext.refl _).alloc _) (by omega) (by omega)), BytA.nil _ _ _⟩
    · exact hvc2.anc.through (Ext.refl _) ((Ext.refl _).alloc _) h5 (by show w.heap.size ≤ P7.heap.size; omega)
    · exact (Ext.box (Ext.box (Ext.box (E7.out.drew.ext _ _) _ _ (by omega)) _ _ (by omega)) _ _ (by omega)).alloc _
  · have z := z6.out
    have hB := HB1.out
    have h5 := B5'.out.lt
    refine bodyPost_ret (v := .tuple #[.slice (some ⟨P7.heap.size, 0, none⟩) 4 4, memV Ac1 nc1 cc1 (1 - 1) (gen + 1), .int .i64 0]) (by simp [results, Tryz.results21, go_sem, zc, h5, Q50, Q51, Q52, cell?_drew_ext, lt_add_any]) rfl ?_
    refine ⟨_, Ac1, nc1, cc1, rfl, ?_, ⟨hnc1.out.symm, ?_⟩, ?_⟩
    · rw [HL.out]
      exact drvs4_of ((BoxC.new_at _ _ (by simp)).drew.of_ext ((Ext.refl _).ext _ _)) (by have := X67.out.below.size; omega) ⟨hl0, hl1, Nat.le_refl _, Nat.le_refl _, by omega, by omega, (sx1.out.through X67.out (((Ext.refl _).alloc _).drew.ext _ _) (by omega) (by omega)), (sy1.out.through X67.out (((Ext.refl _).alloc _).drew.ext _ _) (by omega) (by omega))⟩
        ⟨Hnw.out, hl1, Hle.out, Nat.le_refl _, Hcap.out, by omega, (sw.out.through X67.out (((Ext.refl _).alloc _).drew.ext _ _) (by omega) (by omega)), (sy2.out.through X67.out (((Ext.refl _).alloc _).drew.ext _ _) (by omega) (by omega))⟩
        ⟨Hnw.out, hl1, Nat.le_refl _, Nat.le_refl _, by omega, by omega, (sx3.out.through X67.out (((Ext.refl _).alloc _).drew.ext _ _) (by omega) (by omega)), (sy3.out.through X67.out (((Ext.refl _).alloc _).drew.ext _ _) (by omega) (by omega))⟩
        ⟨Hnw.out, rfl, Nat.le_refl _, Nat.le_refl _, by omega, by omega, (rx4.out.through X67.out (((Ext.refl _).alloc _).drew.ext _ _) (by omega) (by omega)), BytA.nil _ _ _⟩
    · exact RecsA.moved2 hvc1.anc (Ext.refl _) (by simp) (Nat.le_refl _) (by show w.heap.size ≤ (P7.alloc _).heap.size; rw [World.size_alloc]; omega)
    · exact ((Ext.box (Ext.box (Ext.box E7.out _ _ (by omega)) _ _ (by omega)) _ _ (by omega)).alloc _).drew.ext _ _
theorem packE_bad {D : DriveD} {M : MemD} (h : ¬(memOk D M = true ∧ M.gen ≠ 1000000000)) : packE D M = 73 ∧ packL D M = [] ∧ packM D M = noMem := by
  have h1 : packE D M = 73 := by rw [packE, if_neg h]
  exact ⟨h1, by rw [packL, h1]; rfl, by rw [packM, h1]; rfl⟩
set_option maxRecDepth 100000 in
set_option maxHeartbeats 16000000 in
theorem pack_err (A0 : Option Addr) (n0 c0 : Nat) (A1 : Option Addr) (n1 c1 : Nat) (D : DriveD) (Am : Option Addr) (nm cm : Nat) (M : MemD) (hm : M.recs.length = nm) (hmb : nm ≤ 9223372036854775807) (hno : ¬(memOk D M = true ∧ M.gen ≠ 1000000000)) (w : World)
    (hD : DrvY w D A0 n0 c0 A1 n1 c1) (hr : Recs w Am M.recs) :
    Calls Tryz.prog 21 #[drvV A0 n0 c0 D.f0.firm A1 n1 c1 D.f1.firm, memV Am nm cm M.file M.gen] w fun e w' => e = .returned (.tuple #[.slice none 0 0, memV none 0 0 0 0, .int .i64 73]) ∧ Ext w w' := by
  obtain ⟨hl0, hl1, hc0, hc1, hbig0, hbig1, hb0, hb1⟩ := hD
  cases hmo : memOk D M with
  | false =>
    clear hno
    go_enter Tryz.func21, Tryz.ntmps21
    go_wp2_with (go_at_call 73; refine (isMemory_any _ _ _ _ _ _ D _ _ _ M hl0 hl1 hc0 hc1 hbig0 hbig1 hm hmb _ (by with_reducible repeat (first | assumption | apply Byt.ext | apply Byt.alloc | apply Byt.drew | (refine Byt.of_ext ?_ (by assumption)))) (by with_reducible repeat (first | assumption | apply Byt.ext | apply Byt.alloc | apply Byt.drew | (refine Byt.of_ext ?_ (by assumption)))) (by with_reducible repeat (first | assumption | apply Recs.ext | apply Recs.alloc | apply Recs.drew | (refine Recs.of_ext ?_ (by assumption))))).mono ?_; rintro e w1 ⟨rfl, E0, d0, rfl⟩; rw [hmo])
    refine bodyPost_ret (v := .tuple #[.slice none 0 0, memV none 0 0 0 0, .int .i64 73]) (by simp [results, Tryz.results21, go_sem]) rfl ?_
    exact ⟨rfl, (by repeat (first | (with_reducible first | exact Ext.refl _ | exact Ext.same _ _ _ _ | assumption | apply Ext.alloc | apply Ext.ext | apply Ext.drew) | (with_reducible refine Ext.setCell ?_ _ _ ?_; rotate_left; focus (first | omega | (simp only [zs1, zs2, zs3, size_ext]; omega)))))⟩
  | true =>
    have hg : M.gen = 1000000000 := Classical.byContradiction fun h => hno ⟨hmo, h⟩
    have hgq : (M.gen == 1000000000) = true := by simpa using hg
    clear hno hg
    go_enter Tryz.func21, Tryz.ntmps21
    go_wp2_with (go_at_call 73; refine (isMemory_any _ _ _ _ _ _ D _ _ _ M hl0 hl1 hc0 hc1 hbig0 hbig1 hm hmb _ (by with_reducible repeat (first | assumption | apply Byt.ext | apply Byt.alloc | apply Byt.drew | (refine Byt.of_ext ?_ (by assumption)))) (by with_reducible repeat (first | assumption | apply Byt.ext | apply Byt.alloc | apply Byt.drew | (refine Byt.of_ext ?_ (by assumption)))) (by with_reducible repeat (first | assumption | apply Recs.ext | apply Recs.alloc | apply Recs.drew | (refine Recs.of_ext ?_ (by assumption))))).mono ?_; rintro e w1 ⟨rfl, E0, d0, rfl⟩; rw [hmo])
    refine bodyPost_ret (v := .tuple #[.slice none 0 0, memV none 0 0 0 0, .int .i64 73]) (by simp [results, Tryz.results21, go_sem]) rfl ?_
    exact ⟨rfl, (by repeat (first | (with_reducible first | exact Ext.refl _ | exact Ext.same _ _ _ _ | assumption | apply Ext.alloc | apply Ext.ext | apply Ext.drew) | (with_reducible refine Ext.setCell ?_ _ _ ?_; rotate_left; focus (first | omega | (simp only [zs1, zs2, zs3, size_ext]; omega)))))⟩
/-- Pack, where the memory is that of the drive and may be packed. -/
theorem pack_ok (A0 : Option Addr) (n0 c0 : Nat) (A1 : Option Addr) (n1 c1 : Nat) (D : DriveD) (Am : Option Addr) (nm cm : Nat) (M : MemD) (hm : M.recs.length = nm) (hmo : memOk D M = true) (hgn : M.gen ≠ 1000000000) (w : World)
    (hD : DrvY w D A0 n0 c0 A1 n1 c1) (hr : Recs w Am M.recs) :
    Calls Tryz.prog 21 #[drvV A0 n0 c0 D.f0.firm A1 n1 c1 D.f1.firm, memV Am nm cm M.file M.gen] w fun e w' => ∃ g Ag ng cg, e = .returned (.tuple #[.slice (some ⟨g, 0, none⟩) 4 4, memV Ag ng cg (1 - M.file) (M.gen + 1), .int .i64 0]) ∧
      Drvs4 w.heap.size w' g (packL D M) ∧ MemA w.heap.size w' ⟨M.recs, 1 - M.file, M.gen + 1⟩ Ag ng cg ∧ Ext w w' := by
  have hf := (memOk_facts hmo).2.1
  obtain ⟨⟨L0, f0⟩, ⟨L1, f1⟩⟩ := D
  obtain ⟨l, file, gen⟩ := M
  rcases hf with hf | hf
  · simp only at hf
    subst hf
    exact pack_ok0 A0 n0 c0 A1 n1 c1 L0 L1 f0 f1 Am nm cm l gen hm hmo hgn w hD hr
  · simp only at hf
    subst hf
    exact pack_ok1 A0 n0 c0 A1 n1 c1 L0 L1 f0 f1 Am nm cm l gen hm hmo hgn w hD hr
end Go.Proofs.YtekjdeibnfaehaaGreat
