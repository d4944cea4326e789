/- The reference's Pack. -/
import Derived.Test.YtekjdeibnfaehaaGreatRAppX
import Derived.Test.YtekjdeibnfaehaaGreatPack
import Derived.Test.YtekjdeibnfaehaaGreatPage
set_option linter.unusedSimpArgs false
set_option linter.unusedVariables false
namespace Go.Proofs.YtekjdeibnfaehaaGreat
open Go Go.RowKit

theorem rsync_ok (A0 : Option Addr) (n0 c0 : Nat) (A1 : Option Addr) (n1 c1 : Nat) (L0 L1 : List UInt8) (f0 f1 : Int) (w : World) (hl0 : L0.length = n0) (hl1 : L1.length = n1) (hc0 : n0 ≤ c0) (hc1 : n1 ≤ c1) (hk0 : c0 ≤ 9223372036854775807) (hk1 : c1 ≤ 9223372036854775807) (hs0 : n0 ≤ 100000) (hs1 : n1 ≤ 100000) (hf0 : 0 ≤ f0 ∧ f0 ≤ n0) (hf1 : 0 ≤ f1 ∧ f1 ≤ n1) (hb0 : Byt w A0 L0) (hb1 : Byt w A1 L1) :
    Calls Tryz.prog 12 #[drvV A0 n0 c0 f0 A1 n1 c1 f1] w fun e w' => ∃ B0 d0 B1 d1, e = .returned (drvV B0 n0 d0 n0 B1 n1 d1 n1) ∧ OwnB w.heap.size w' (.slice B0 n0 d0) L0 ∧ OwnB w.heap.size w' (.slice B1 n1 d1) L1 ∧ Ext w w' := by
  have hs : syncD ⟨⟨L0, f0⟩, ⟨L1, f1⟩⟩ = ⟨⟨L0, n0⟩, ⟨L1, n1⟩⟩ := by
    have : driveOk ⟨⟨L0, f0⟩, ⟨L1, f1⟩⟩ = true := by
      simp only [driveOk, Bool.and_eq_true, fileOk_iff, hl0, hl1]
      omega
    simp [syncD, this, firmD, firmF, hl0, hl1]
  refine (rSync_any A0 n0 c0 A1 n1 c1 ⟨⟨L0, f0⟩, ⟨L1, f1⟩⟩ (by omega) (by omega) w ⟨hl0, hl1, hc0, hc1, hk0, hk1, hb0, hb1⟩).mono ?_
  rintro e w' ⟨B0, m0, d0, B1, m1, d1, rfl, hx, ex⟩
  rw [hs] at hx ⊢
  obtain rfl : m0 = n0 := by rw [hx.l0, ← hl0]
  obtain rfl : m1 = n1 := by rw [hx.l1, ← hl1]
  exact ⟨B0, d0, B1, d1, rfl, hx.b0, hx.b1, ex⟩
set_option maxRecDepth 100000 in
set_option maxHeartbeats 16000000 in
theorem rpack_ok0 (A0 : Option Addr) (n0 c0 : Nat) (A1 : Option Addr) (n1 c1 : Nat) (L0 L1 : List UInt8) (f0 f1 : Int) (Am : Option Addr) (nm cm : Nat) (l : List Rec) (gen : Int) (hm : l.length = nm) (ht : TxtBig l) (hmo : memOk ⟨⟨L0, f0⟩, ⟨L1, f1⟩⟩ ⟨l, 0, gen⟩ = true) (hgn : gen ≠ 1000000000) (w : World)
    (hD : DrvY w ⟨⟨L0, f0⟩, ⟨L1, f1⟩⟩ A0 n0 c0 A1 n1 c1) (hr : Recs w Am l) :
    Calls Tryz.prog 22 #[drvV A0 n0 c0 f0 A1 n1 c1 f1, memV Am nm cm 0 gen] w fun e w' => ∃ g Ag ng cg, e = .returned (.tuple #[.slice (some ⟨g, 0, none⟩) 4 4, memV Ag ng cg (1 - 0) (gen + 1), .int .i64 0]) ∧
      Drvs4 w.heap.size w' g (packL ⟨⟨L0, f0⟩, ⟨L1, f1⟩⟩ ⟨l, 0, gen⟩) ∧ MemA w.heap.size w' ⟨l, 1 - 0, gen + 1⟩ Ag ng cg ∧ Ext w w' := by
  obtain ⟨hok, -, hnil, hck, hpg, hgb⟩ := memOk_facts hmo
  obtain ⟨h80, hall, -⟩ := checkB_iff.1 hck
  have h80' : nm ≤ 80 := by rw [← hm]; exact h80
  have hmem := fun P (hx : Ext w P) => rmem_any0 A0 n0 c0 A1 n1 c1 L0 L1 f0 f1 Am nm cm l gen hm (by omega) ht P (hD.of_ext hx) (hr.of_ext hx)
  rw [hmo] at hmem
  obtain ⟨hl0, hl1, hc0, hc1, hbig0, hbig1, hb0, hb1⟩ := hD
  obtain ⟨hg0, hg1⟩ := pack_gen hmo
  have hdf : (0 ≤ f0 ∧ f0 ≤ L0.length) ∧ (0 ≤ f1 ∧ f1 ≤ L1.length) := by
    simp only [driveOk, Bool.and_eq_true, fileOk_iff] at hok
    exact ⟨hok.1.1, hok.2.1⟩
  obtain ⟨hs0, hs1⟩ := driveOk_len hok
  simp only [] at hl0 hl1 hb0 hb1 hs0 hs1 hg0 hg1
  rw [hl0] at hs0
  rw [hl1] at hs1
  rw [hl0, hl1] at hdf
  have hgq : (gen == 1000000000) = false := by simpa using hgn
  have hw1 : IntKind.i64.wrap (gen + 1) = gen + 1 := IntWalk.i64_in _ (by omega)
  have hpe : packE ⟨⟨L0, f0⟩, ⟨L1, f1⟩⟩ ⟨l, 0, gen⟩ = 0 := by rw [packE, if_pos ⟨hmo, hgn⟩]
  have HL : Hid (packL ⟨⟨L0, f0⟩, ⟨L1, f1⟩⟩ ⟨l, 0, gen⟩ = [⟨⟨L0, n0⟩, ⟨L1, n1⟩⟩, ⟨⟨L0, n0⟩, ⟨writtenB (gen + 1) nm l, 0⟩⟩, ⟨⟨L0, n0⟩, ⟨writtenB (gen + 1) nm l, (writtenB (gen + 1) nm l).length⟩⟩, ⟨⟨[], 0⟩, ⟨writtenB (gen + 1) nm l, (writtenB (gen + 1) nm l).length⟩⟩]) := hid (by
    rw [packL, if_pos hpe]
    simp [firmD, firmF, withFile, noFile, packB, hl0, hl1, hm])
  have Hall := hid hall
  have hshort := written_short hall h80 (gen + 1) nm
  have Hwr : Hid (headB (gen + 1) nm ++ bytesR l = writtenB (gen + 1) nm l) := hid rfl
  obtain ⟨WB, hWB⟩ : ∃ WB, writtenB (gen + 1) nm l = WB := ⟨_, rfl⟩
  rw [hWB] at HL hshort Hwr
  clear hnil hck hpg hgb hok h80 hall hpe hWB hmo
  have Hb0 := hid hb0
  have Hb1 := hid hb1
  have Hr := hid hr
  have Hmem := hid hmem
  have Hdf := hid hdf
  clear hb0 hb1 hr hmem hdf
  obtain ⟨B1, hB1⟩ : ∃ B : Nat, w.heap.size = B := ⟨_, rfl⟩
  have HB1 := hid hB1
  clear hB1
  go_enter Tryz.func22, Tryz.ntmps22
  go_wp2_with fail
  refine (Hmem.out _ (by repeat (first | (with_reducible first | exact Ext.refl _ | exact Ext.same _ _ _ _ | assumption | apply Ext.alloc | apply Ext.ext | apply Ext.drew) | (with_reducible refine Ext.setCell ?_ _ _ ?_; rotate_left; focus (first | omega | (simp only [zs1, zs2, zs3, size_ext]; omega)))))).mono ?_
  rintro e P1 ⟨rfl, x1⟩
  have z1 : Hid (B1 + 3 ≤ P1.heap.size) := hid (by have q := x1.below.size; have := HB1.out; simp only [World.size_alloc] at q; omega)
  have b2 : BoxC P1 B1 [.slice A0 n0 c0, .int .i64 f0, .slice A1 n1 c1, .int .i64 f1] 27 := BoxC.of_ext (((BoxC.new_at _ _ HB1.out.symm).alloc _).alloc _) x1
  have b3 : BoxC P1 (B1 + 1) [.slice Am nm cm, .int .i64 0, .int .i64 gen] 36 := BoxC.of_ext ((BoxC.new_at _ _ (by simp only [World.size_alloc]; have := HB1.out; omega)).alloc _) x1
  have b5 : BoxC P1 (B1 + 1 + 1) [.slice none 0 0, .int .i64 0, .int .i64 0] 36 := BoxC.of_ext (BoxC.new_at _ _ (by simp only [World.size_alloc]; have := HB1.out; omega)) x1
  have e1 : Ext w P1 := Ext.trans (by repeat (first | (with_reducible first | exact Ext.refl _ | exact Ext.same _ _ _ _ | assumption | apply Ext.alloc | apply Ext.ext | apply Ext.drew) | (with_reducible refine Ext.setCell ?_ _ _ ?_; rotate_left; focus (first | omega | (simp only [zs1, zs2, zs3, size_ext]; omega))))) x1
  simp only [HB1.out]
  have E1 := hid e1
  have c20 := b2.cell (i := 0) rfl
  have c21 := b2.cell (i := 1) rfl
  have c22 := b2.cell (i := 2) rfl
  have c23 := b2.cell (i := 3) rfl
  have c30 := b3.cell (i := 0) rfl
  have c31 := b3.cell (i := 1) rfl
  have c32 := b3.cell (i := 2) rfl
  have l2 := b2.lt
  have l3 := b3.lt
  have B3 := hid b3
  have B5 := hid b5
  clear x1 e1 b2 b3 b5 Hmem
  go_wp2_with fail
  refine (rsync_ok A0 n0 c0 A1 n1 c1 L0 L1 f0 f1 _ hl0 hl1 hc0 hc1 hbig0 hbig1 hs0 hs1 Hdf.out.1 Hdf.out.2 (by have := Hb0.out.of_ext E1.out; exact (by with_reducible repeat (first | assumption | apply Byt.ext | apply Byt.alloc | apply Byt.drew | (refine Byt.of_ext ?_ (by assumption))))) (by have := Hb1.out.of_ext E1.out; exact (by with_reducible repeat (first | assumption | apply Byt.ext | apply Byt.alloc | apply Byt.drew | (refine Byt.of_ext ?_ (by assumption)))))).mono ?_
  rintro e P2 ⟨Bx1, k0, By1, k1, rfl, hox1, hoy1, x2⟩
  obtain ⟨B2, hB2⟩ : ∃ B : Nat, P2.heap.size = B := ⟨_, rfl⟩
  have Hk : Hid ((n0 ≤ k0 ∧ k0 ≤ 9223372036854775807) ∧ (n1 ≤ k1 ∧ k1 ≤ 9223372036854775807)) := hid ⟨⟨hox1.le, hox1.cap⟩, ⟨hoy1.le, hoy1.cap⟩⟩
  have z2 : Hid (B1 + 3 ≤ B2) := hid (by have q := x2.below.size; have := z1.out; omega)
  have b3 := B3.out.of_ext x2
  have B5' := hid (B5.out.of_ext x2)
  have rx1 := hid (hox1.anc.mono (base' := B1 + 3) z1.out)
  have ry1 := hid (hoy1.anc.mono (base' := B1 + 3) z1.out)
  have E2 := hid (Ext.trans E1.out x2)
  have B3' := hid b3
  have c30 := b3.cell (i := 0) rfl
  have c31 := b3.cell (i := 1) rfl
  have c32 := b3.cell (i := 2) rfl
  have l3 := b3.lt
  have HB2 := hid hB2
  clear x2 b3 hox1 hoy1 hB2 B3 B5 c20 c21 c22 c23 E1 z1 l2
  go_wp2_with fail
  obtain ⟨Q, hQ⟩ : ∃ Q, P2.alloc (.cells #[.slice Bx1 n0 k0, .int .i64 n0, .slice By1 n1 k1, .int .i64 n1] 27) = Q := ⟨_, rfl⟩
  simp only [hQ, HB2.out]
  have x2q : Ext P2 Q := by rw [← hQ]; exact (Ext.refl _).alloc _
  have hQs : Q.heap.size = B2 + 1 := by rw [← hQ, World.size_alloc, HB2.out]
  have B7 : Hid (BoxC Q B2 [.slice Bx1 n0 k0, .int .i64 n0, .slice By1 n1 k1, .int .i64 n1] 27) := hid (by rw [← hQ]; exact BoxC.new_at _ _ HB2.out.symm)
  have B3 := hid (B3'.out.of_ext x2q)
  have B5 := hid (B5'.out.of_ext x2q)
  have EQ := hid (E2.out.trans x2q)
  have sx1 := hid (rx1.out.of_ext x2q)
  have sy1 := hid (ry1.out.of_ext x2q)
  have q30 := B3.out.cell (i := 0) rfl
  have l3q := B3.out.lt
  have HQS := hid hQs
  clear hQ x2q hQs B3' B5' rx1 ry1 c30 c31 c32 l3
  refine (rhead_any (gen + 1) nm (by omega) (by omega) (by omega) (by omega) _).mono ?_
  rintro e P3 ⟨v3, rfl, ho3, x3⟩
  rw [HQS.out] at ho3
  have Ho3 := hid ho3
  have X3 := hid x3
  clear ho3 x3
  go_wp2_with fail
  go_loopw [8, 9] (fun v i wr => ∃ k : Nat, k ≤ nm ∧ i = .int .i64 k ∧ Ext Q wr ∧ OwnB (B2 + 1) wr v (headB (gen + 1) nm ++ bytesR (l.take k))) (fun _ i _ => nm - (intOf i).toNat)
  case atStart =>
    refine ⟨0, Nat.zero_le _, rfl, X3.out, ?_⟩
    simpa [bytesR_nil] using Ho3.out
  case round =>
    rename_i K hK
    obtain ⟨k, hk, rfl, hx, hown⟩ := hrel
    have Hown := hid hown
    clear hown
    by_cases hlt : k < nm
    · have hmm : k < l.length := by omega
      have hrq : Recs Q Am l := Hr.out.of_ext EQ.out
      obtain ⟨gg, of, rfl, hg⟩ := hrq.addr (by omega)
      have hrow := hrq.row hmm
      have hmem := Hall.out _ (List.getElem_mem hmm)
      have hstep := bytesR_snoc l hmm
      obtain ⟨r, hrk⟩ : ∃ r, l[k] = r := ⟨_, rfl⟩
      rw [hrk] at hrow hmem hstep
      have hnum := recNum_of hmem
      have htx := recOk_text hmem
      have Hstep := hid hstep
      have Hlen : Hid ((headB (gen + 1) nm ++ bytesR (l.take k)).length + (frameB r).length ≤ 100000000) := hid (by
        have h1 := bytesR_small (l.take k) fun x hx => recOk_text (Hall.out x (List.mem_of_mem_take hx))
        rw [List.length_append, headB_length, frameB_length]
        rw [List.length_take] at h1
        omega)
      obtain ⟨h0, h1, h2, h3, h4, h5, h6, h7, h8, h9, h10⟩ := hrow
      clear hrk hmem hstep hrq
      obtain ⟨E9, d9, rfl⟩ := hx
      go_wp2_with (first | (at_builtin; refine wpList_abyt rfl Q (B2 + 1) HQS.out.symm rfl _ _ rfl (frameB r) rfl (by exact (by repeat (first | (with_reducible first | exact Ext.refl _ | exact Ext.same _ _ _ _ | assumption | apply Ext.alloc | apply Ext.ext | apply Ext.drew) | (with_reducible refine Ext.setCell ?_ _ _ ?_; rotate_left; focus (first | omega | (simp only [zs1, zs2, zs3, size_ext]; omega)))))) (by exact OwnB.of_ext Hown.out (by repeat (first | (with_reducible first | exact Ext.refl _ | exact Ext.same _ _ _ _ | assumption | apply Ext.alloc | apply Ext.ext | apply Ext.drew) | (with_reducible refine Ext.setCell ?_ _ _ ?_; rotate_left; focus (first | omega | (simp only [zs1, zs2, zs3, size_ext]; omega)))))) rfl (by rw [frameB_length]) (by exact (by with_reducible repeat (first | assumption | apply Byt.ext | apply Byt.alloc | apply Byt.drew | (refine Byt.of_ext ?_ (by assumption))))) Hlen.out (fun v1 E2 d2 ho1 => ?_)) | (go_at_call 78; refine (rframe_any _ hnum _).mono ?_; rintro e w1 ⟨Af1, cf1, rfl, hbf1, E1, d1, rfl⟩))
      exact ⟨⟨k + 1, by omega, by go_num, (Ext.refl _).ext _ _, by rw [Hstep.out, ← List.append_assoc]; exact ho1⟩, by simp [intOf]; omega⟩
    · obtain rfl : nm = k := by omega
      have hown := Hown.out
      rw [List.take_of_length_le (by omega), Hwr.out] at hown
      obtain ⟨Aw, cw, rfl, -⟩ := hown.slice
      have Ho2 := hid hown
      obtain ⟨nw, hnw⟩ : ∃ n2, WB.length = n2 := ⟨_, rfl⟩
      rw [hnw] at Ho2 hshort
      have Hnw : Hid (WB.length = nw) := hid hnw
      simp only [hnw]
      have HL2 := HL.out
      rw [hnw] at HL2
      have HL3 := hid HL2
      have b7 := B7.out.of_ext hx
      have B3' := hid (B3.out.of_ext hx)
      have B5' := hid (B5.out.of_ext hx)
      have B7' := hid b7
      have E4 := hid (EQ.out.trans hx)
      have tx1 := hid (sx1.out.of_ext hx)
      have ty1 := hid (sy1.out.of_ext hx)
      have z4 : Hid (B1 + 3 ≤ B2 ∧ B2 + 1 ≤ wr.heap.size) := hid (by have := hx.below.size; have := HQS.out; have := z2.out; omega)
      have q30 := B3'.out.cell (i := 0) rfl
      have l3 := B3'.out.lt
      have q70 := b7.cell (i := 0) rfl
      have q71 := b7.cell (i := 1) rfl
      have q72 := b7.cell (i := 2) rfl
      have q73 := b7.cell (i := 3) rfl
      have l7 := b7.lt
      clear hown hnw Hown HL HL2 b7 hx HQS B3 B5 B7 EQ sx1 sy1 q30 l3q
      have q30 := B3'.out.cell (i := 0) rfl
      go_wp2_with fail
      refine (sameDrive_any _ _ _ _ _ _ _ _ L0 L1 hl0 hl1 (by omega) (by omega) _ (by have := tx1.out.read; exact (by with_reducible repeat (first | assumption | apply Byt.ext | apply Byt.alloc | apply Byt.drew | (refine Byt.of_ext ?_ (by assumption))))) (by have := ty1.out.read; exact (by with_reducible repeat (first | assumption | apply Byt.ext | apply Byt.alloc | apply Byt.drew | (refine Byt.of_ext ?_ (by assumption)))))).mono ?_
      rintro e P5 ⟨Ax2, j0, Ay2, j1, rfl, hox2, hoy2, x5⟩
      obtain ⟨B10, hB10⟩ : ∃ B : Nat, P5.heap.size = B := ⟨_, rfl⟩
      have Hj : Hid ((n0 ≤ j0 ∧ j0 ≤ 9223372036854775807) ∧ (n1 ≤ j1 ∧ j1 ≤ 9223372036854775807)) := hid ⟨⟨hox2.le, hox2.cap⟩, ⟨hoy2.le, hoy2.cap⟩⟩
      have z5 : Hid (B1 + 3 ≤ B2 ∧ B2 + 1 ≤ B10) := hid (by have q := x5.below.size; have := z4.out; omega)
      have B3 := hid (B3'.out.of_ext x5)
      have B5 := hid (B5'.out.of_ext x5)
      have B7 := hid (B7'.out.of_ext x5)
      have E5 := hid (E4.out.trans x5)
      have sx1 := hid (tx1.out.of_ext x5)
      have sy1 := hid (ty1.out.of_ext x5)
      have sw := hid (Ho2.out.of_ext x5)
      have rx2 := hid (hox2.anc.mono (base' := B2 + 1) (by have := z4.out; omega))
      have ry2 := hid (hoy2.anc.mono (base' := B2 + 1) (by have := z4.out; omega))
      have q31 := B3.out.cell (i := 1) rfl
      have l3 := B3.out.lt
      have HB10 := hid hB10
      clear x5 hox2 hoy2 hB10 B3' B5' B7' E4 tx1 ty1 Ho2 q70 q71 q72 q73 l7 q30 Ho3 X3 z4
      go_wp2_with fail
      have Hcw : Hid (nw ≤ cw ∧ cw ≤ 9223372036854775807) := hid ⟨sw.out.le, sw.out.cap⟩
      refine (rsync_ok Ax2 n0 j0 Aw nw cw L0 WB n0 0 _ hl0 Hnw.out Hj.out.1.1 Hcw.out.1 Hj.out.1.2 Hcw.out.2 hs0 (by omega) (by omega) (by omega) (by have := rx2.out.read; exact (by with_reducible repeat (first | assumption | apply Byt.ext | apply Byt.alloc | apply Byt.drew | (refine Byt.of_ext ?_ (by assumption))))) (by have := sw.out.anc.read; exact (by with_reducible repeat (first | assumption | apply Byt.ext | apply Byt.alloc | apply Byt.drew | (refine Byt.of_ext ?_ (by assumption)))))).mono ?_
      rintro e P6 ⟨Ax3, i0, Ay3, i1, rfl, hox3, hoy3, x6⟩
      obtain ⟨B11, hB11⟩ : ∃ B : Nat, P6.heap.size = B := ⟨_, rfl⟩
      have Hi := hid (And.intro (And.intro hox3.le hox3.cap) (And.intro hoy3.le hoy3.cap))
      have z6 : Hid (B1 + 3 ≤ B2 ∧ B2 + 1 ≤ B10 ∧ B10 + 1 ≤ B11) := hid (by have q := x6.below.size; have := HB10.out; have := z5.out; simp only [World.size_alloc] at q; omega)
      have B3' := hid ((B3.out.alloc _).of_ext x6)
      have B5' := hid ((B5.out.alloc _).of_ext x6)
      have B7' := hid ((B7.out.alloc _).of_ext x6)
      have B10' : Hid (BoxC P6 B10 [.slice Ax2 n0 j0, .int .i64 n0, .slice Aw nw cw, .int .i64 0] 27) := hid ((BoxC.new_at _ _ HB10.out.symm).of_ext x6)
      have E6 := hid ((E5.out.alloc _).trans x6)
      have tx1 := hid ((sx1.out.alloc _).of_ext x6)
      have ty1 := hid ((sy1.out.alloc _).of_ext x6)
      have tw := hid ((sw.out.anc.alloc _).of_ext x6)
      have t2 := hid ((rx2.out.alloc _).of_ext x6)
      have rx3 := hid (hox3.anc.mono (base' := B2 + 1) (by simp only [World.size_alloc]; have := z5.out; have := HB10.out; omega))
      have ry3 := hid (hoy3.anc.mono (base' := B2 + 1) (by simp only [World.size_alloc]; have := z5.out; have := HB10.out; omega))
      have HB11 := hid hB11
      simp only [HB10.out]
      clear x6 hox3 hoy3 hB11 HB10 B3 B5 B7 E5 sx1 sy1 sw rx2 ry2 z5 q31 l3
      go_wp2_with fail
      refine (sameDrive_any _ _ _ _ _ _ _ _ L0 WB hl0 Hnw.out (by omega) (by omega) _ (by have := rx3.out.read; exact (by with_reducible repeat (first | assumption | apply Byt.ext | apply Byt.alloc | apply Byt.drew | (refine Byt.of_ext ?_ (by assumption))))) (by have := ry3.out.read; exact (by with_reducible repeat (first | assumption | apply Byt.ext | apply Byt.alloc | apply Byt.drew | (refine Byt.of_ext ?_ (by assumption)))))).mono ?_
      rintro e P7 ⟨Ax4, g0, Ay4, g1, rfl, hox4, hoy4, x7⟩
      obtain ⟨B12, hB12⟩ : ∃ B : Nat, P7.heap.size = B := ⟨_, rfl⟩
      have Hg := hid (And.intro (And.intro hox4.le hox4.cap) (And.intro hoy4.le hoy4.cap))
      have z7 : Hid (B1 + 3 ≤ B2 ∧ B2 + 1 ≤ B10 ∧ B10 + 1 ≤ B11 ∧ B11 + 1 ≤ B12) := hid (by have q := x7.below.size; have := HB11.out; have := z6.out; simp only [World.size_alloc] at q; omega)
      have B3 := hid ((B3'.out.alloc _).of_ext x7)
      have B5 := hid ((B5'.out.alloc _).of_ext x7)
      have B7 := hid ((B7'.out.alloc _).of_ext x7)
      have C10 := hid ((B10'.out.alloc _).of_ext x7)
      have B11b : Hid (BoxC P7 B11 [.slice Ax3 n0 i0, .int .i64 n0, .slice Ay3 nw i1, .int .i64 nw] 27) := hid ((BoxC.new_at _ _ HB11.out.symm).of_ext x7)
      have E7 := hid ((E6.out.alloc _).trans x7)
      have sx1 := hid ((tx1.out.alloc _).of_ext x7)
      have sy1 := hid ((ty1.out.alloc _).of_ext x7)
      have sw := hid ((tw.out.alloc _).of_ext x7)
      have s2 := hid ((t2.out.alloc _).of_ext x7)
      have sx3 := hid ((rx3.out.alloc _).of_ext x7)
      have sy3 := hid ((ry3.out.alloc _).of_ext x7)
      have r4 := hid (hoy4.anc.mono (base' := B2 + 1) (by simp only [World.size_alloc]; have := z6.out; have := HB11.out; omega))
      have q30 := B3.out.cell (i := 0) rfl
      have q31 := B3.out.cell (i := 1) rfl
      have q32 := B3.out.cell (i := 2) rfl
      have l3 := B3.out.lt
      have HB12 := hid hB12
      simp only [HB11.out]
      clear x7 hox4 hoy4 hB12 HB11 B3' B5' B7' B10' E6 tx1 ty1 tw t2 rx3 ry3 z6
      go_wp2_with fail
      refine (rsameMem_any Am nm cm l 0 gen hm (by omega) _ (by have := Hr.out.of_ext E7.out; exact (by with_reducible repeat (first | assumption | apply Recs.ext | apply Recs.alloc | apply Recs.drew | (refine Recs.of_ext ?_ (by assumption)))))).mono ?_
      rintro e P8 ⟨Ac, nc, cc, rfl, hnc, hvc, x8⟩
      obtain ⟨B13, hB13⟩ : ∃ B : Nat, P8.heap.size = B := ⟨_, rfl⟩
      have Hnc := hid hnc.out
      have z8 : Hid (B1 + 3 ≤ B2 ∧ B2 + 1 ≤ B10 ∧ B10 + 1 ≤ B11 ∧ B11 + 1 ≤ B12 ∧ B12 + 1 ≤ B13) := hid (by have q := x8.below.size; have := HB12.out; have := z7.out; simp only [World.size_alloc] at q; omega)
      have b3 := (B3.out.alloc _).of_ext x8
      have B5' := hid ((B5.out.alloc _).of_ext x8)
      have B7' := hid ((B7.out.alloc _).of_ext x8)
      have B10' := hid ((C10.out.alloc _).of_ext x8)
      have B11' := hid ((B11b.out.alloc _).of_ext x8)
      have B12' : Hid (BoxC P8 B12 [.slice none 0 0, .int .i64 0, .slice Ay4 nw g1, .int .i64 nw] 27) := hid ((BoxC.new_at _ _ HB12.out.symm).of_ext x8)
      have E8 := hid ((E7.out.alloc _).trans x8)
      have tx1 := hid ((sx1.out.alloc _).of_ext x8)
      have ty1 := hid ((sy1.out.alloc _).of_ext x8)
      have tw := hid ((sw.out.alloc _).of_ext x8)
      have t2 := hid ((s2.out.alloc _).of_ext x8)
      have tx3 := hid ((sx3.out.alloc _).of_ext x8)
      have ty3 := hid ((sy3.out.alloc _).of_ext x8)
      have t4 := hid ((r4.out.alloc _).of_ext x8)
      have rc := hid (hvc.mono (base' := B1 + 3) (by simp only [World.size_alloc]; have := z7.out; have := HB12.out; omega))
      clear q30 q31 q32 l3
      have q30 := b3.cell (i := 0) rfl
      have q31 := b3.cell (i := 1) rfl
      have q32 := b3.cell (i := 2) rfl
      have l3 := b3.lt
      have HB13 := hid hB13
      simp only [HB12.out]
      clear x8 b3 hnc hvc hB13 HB12 B3 B5 B7 C10 B11b E7 sx1 sy1 sw s2 sx3 sy3 r4 z7
      go_wp2_with fail
      (try simp only [HB13.out])
      obtain ⟨P9, hP9⟩ : ∃ P9, P8.alloc (.cells #[.slice Ac nc cc, .int .i64 (1 - 0), .int .i64 (gen + 1)] 36) = P9 := ⟨_, rfl⟩
      have hP9' := hP9
      simp only [Int.sub_zero, Int.sub_self] at hP9'
      simp only [hP9']
      have x89 : Ext P8 P9 := by rw [← hP9]; exact (Ext.refl _).alloc _
      have b13 : BoxC P9 B13 [.slice Ac nc cc, .int .i64 (1 - 0), .int .i64 (gen + 1)] 36 := by rw [← hP9]; exact BoxC.new_at _ _ HB13.out.symm
      simp only [Int.sub_zero, Int.sub_self] at b13
      have b5 := B5'.out.of_ext x89
      have b7 := B7'.out.of_ext x89
      have b10 := B10'.out.of_ext x89
      have b11 := B11'.out.of_ext x89
      have b12 := B12'.out.of_ext x89
      have E9 := hid (E8.out.trans x89)
      have Q70 := b7.cell (i := 0) rfl
      have Q71 := b7.cell (i := 1) rfl
      have Q72 := b7.cell (i := 2) rfl
      have Q73 := b7.cell (i := 3) rfl
      have Q100 := b10.cell (i := 0) rfl
      have Q101 := b10.cell (i := 1) rfl
      have Q102 := b10.cell (i := 2) rfl
      have Q103 := b10.cell (i := 3) rfl
      have Q110 := b11.cell (i := 0) rfl
      have Q111 := b11.cell (i := 1) rfl
      have Q112 := b11.cell (i := 2) rfl
      have Q113 := b11.cell (i := 3) rfl
      have Q120 := b12.cell (i := 0) rfl
      have Q121 := b12.cell (i := 1) rfl
      have Q122 := b12.cell (i := 2) rfl
      have Q123 := b12.cell (i := 3) rfl
      have Q130 := b13.cell (i := 0) rfl
      have Q131 := b13.cell (i := 1) rfl
      have Q132 := b13.cell (i := 2) rfl
      have Q50 := b5.cell (i := 0) rfl
      have Q51 := b5.cell (i := 1) rfl
      have Q52 := b5.cell (i := 2) rfl
      have fz := b5.frozen
      have l5 := b5.lt
      have l7 := b7.lt
      have l10 := b10.lt
      have l11 := b11.lt
      have l12 := b12.lt
      have l13 := b13.lt
      have ne7 : ¬ (B2 = B1 + 1 + 1) := by have := z8.out; omega
      have ne10 : ¬ (B10 = B1 + 1 + 1) := by have := z8.out; omega
      have ne11 : ¬ (B11 = B1 + 1 + 1) := by have := z8.out; omega
      have ne12 : ¬ (B12 = B1 + 1 + 1) := by have := z8.out; omega
      have ne13 : ¬ (B13 = B1 + 1 + 1) := by have := z8.out; omega
      have B5 := hid b5
      have u1 := hid (tx1.out.of_ext x89)
      have u2 := hid (ty1.out.of_ext x89)
      have u3 := hid ((t2.out.of_ext x89).mono (base' := B1 + 3) (by have := z8.out; omega))
      have u4 := hid ((tw.out.of_ext x89).mono (base' := B1 + 3) (by have := z8.out; omega))
      have u5 := hid ((tx3.out.of_ext x89).mono (base' := B1 + 3) (by have := z8.out; omega))
      have u6 := hid ((ty3.out.of_ext x89).mono (base' := B1 + 3) (by have := z8.out; omega))
      have u7 := hid ((t4.out.of_ext x89).mono (base' := B1 + 3) (by have := z8.out; omega))
      have u8 := hid (rc.out.of_ext x89)
      clear hP9 hP9' x89 b5 b7 b10 b11 b12 b13 B5' B7' B10' B11' B12' E8 q30 q31 q32 l3 tx1 ty1 tw t2 tx3 ty3 t4 rc
      refine wp_region_ord_but (B1 + 1 + 1) (.f 0 (.f 1 (.f 2 (.f 3 (.f 5 (.a 4 (.f 6 (.a 7 (.f 8 .d))))))))) (by kernel_rfl) (by kernel_rfl) ?_
      repeat ((first | refine wpOrd_pass rfl rfl ?_ | (refine wpOrd_free (v := ?_) rfl rfl (fun _ hS => ?_) ?_; rotate_left; focus (go_simp; try with_reducible rfl))); simp only [Act.put, zp1, zp2, zp3, zp4, zp5, zp6])
      refine wpOrd_act rfl rfl (fun K hK => ?_)
      go_simp
      refine hK _ _ ⟨?_, ?_⟩
      · (first | (intro b o hb hx; go_simp; done) | (intro b o hb hx; (try (refine (World.cell?_alloc_lt _ _ _ ?_).trans ?_; focus (simp only [size_ext, zs1, zs2, zs3]; omega))); (repeat (refine (World.cell?_setCell_other _ _ _ _ ?_).trans ?_; focus exact fun e => hx (congrArg Addr.block e).symm)); go_simp; done) | (intro b o hb hx; (try rw [show ∀ (X : World) (a : Addr), X.drew.cell? a = X.cell? a from fun _ _ => rfl]); (repeat (refine (World.cell?_setCell_other _ _ _ _ ?_).trans ?_; (focus exact fun e => hx (congrArg Addr.block e).symm))); rfl) | exact fun b o hb _ => Ext.cellOf (by repeat (first | (with_reducible first | exact Ext.refl _ | exact Ext.same _ _ _ _ | assumption | apply Ext.alloc | apply Ext.ext | apply Ext.drew) | (with_reducible refine Ext.setCell ?_ _ _ ?_; rotate_left; focus (first | omega | (simp only [zs1, zs2, zs3, size_ext]; omega))))) hb | (intro b o hb hx; (try simp only [size_ext, World.size_alloc, World.size_drew, World.size_setCell] at hb hx); go_simp; try rfl))
      clear hK K
      try simp only [Act.put, zp1, zp2, zp3, zp4, zp5, zp6]
      repeat ((first | refine wpOrd_pass rfl rfl ?_ | (refine wpOrd_free (v := ?_) rfl rfl (fun _ hS => ?_) ?_; rotate_left; focus (go_simp; try with_reducible rfl))); simp only [Act.put, zp1, zp2, zp3, zp4, zp5, zp6])
      refine wpOrd_act rfl rfl (fun K hK => ?_)
      go_simp
      refine hK _ _ ⟨?_, ?_⟩
      · (first | (intro b o hb hx; go_simp; done) | (intro b o hb hx; (try (refine (World.cell?_alloc_lt _ _ _ ?_).trans ?_; focus (simp only [size_ext, zs1, zs2, zs3]; omega))); (repeat (refine (World.cell?_setCell_other _ _ _ _ ?_).trans ?_; focus exact fun e => hx (congrArg Addr.block e).symm)); go_simp; done) | (intro b o hb hx; (try rw [show ∀ (X : World) (a : Addr), X.drew.cell? a = X.cell? a from fun _ _ => rfl]); (repeat (refine (World.cell?_setCell_other _ _ _ _ ?_).trans ?_; (focus exact fun e => hx (congrArg Addr.block e).symm))); rfl) | exact fun b o hb _ => Ext.cellOf (by repeat (first | (with_reducible first | exact Ext.refl _ | exact Ext.same _ _ _ _ | assumption | apply Ext.alloc | apply Ext.ext | apply Ext.drew) | (with_reducible refine Ext.setCell ?_ _ _ ?_; rotate_left; focus (first | omega | (simp only [zs1, zs2, zs3, size_ext]; omega))))) hb | (intro b o hb hx; (try simp only [size_ext, World.size_alloc, World.size_drew, World.size_setCell] at hb hx); go_simp; try rfl))
      clear hK K
      try simp only [Act.put, zp1, zp2, zp3, zp4, zp5, zp6]
      repeat ((first | refine wpOrd_pass rfl rfl ?_ | (refine wpOrd_free (v := ?_) rfl rfl (fun _ hS => ?_) ?_; rotate_left; focus (go_simp; try with_reducible rfl))); simp only [Act.put, zp1, zp2, zp3, zp4, zp5, zp6])
      refine wpOrd_nil ?_
      go_wp2_with fail
      have z := z8.out
      have hB := HB1.out
      have h5 := B5.out.lt
      have v1 := u1.out
      have v2 := u2.out
      have v3 := u3.out
      have v4 := u4.out
      have v5 := u5.out
      have v6 := u6.out
      have v7 := u7.out
      have v8 := u8.out
      have ek := Hk.out
      have ej := Hj.out
      have ei := Hi.out
      have eg := Hg.out
      have ec := Hcw.out
      have e9 := E9.out
      refine bodyPost_ret (v := .tuple #[.slice (some ⟨P9.heap.size, 0, none⟩) 4 4, memV Ac nc cc (1 - 0) (gen + 1), .int .i64 0]) (by simp [results, Tryz.results22, go_sem, h5, Q50, Q51, Q52, lt_add_any]) rfl ?_
      refine ⟨_, Ac, nc, cc, rfl, ?_, ⟨Hnc.out.symm, ?_⟩, ?_⟩
      · rw [HL3.out]
        exact drvs4_of (BoxC.drew (BoxC.new_at _ _ (by simp))) (by omega) ⟨hl0, hl1, ek.1.1, ek.2.1, ek.1.2, ek.2.2, (BytA.mono (base := B1 + 3) (by repeat (first | (with_reducible assumption) | with_reducible refine BytA.set ?_ (by omega) | with_reducible apply BytA.alloc | with_reducible apply BytA.ext | with_reducible apply BytA.drew)) (by omega)), (BytA.mono (base := B1 + 3) (by repeat (first | (with_reducible assumption) | with_reducible refine BytA.set ?_ (by omega) | with_reducible apply BytA.alloc | with_reducible apply BytA.ext | with_reducible apply BytA.drew)) (by omega))⟩
          ⟨hl0, Hnw.out, ej.1.1, ec.1, ej.1.2, ec.2, (BytA.mono (base := B1 + 3) (by repeat (first | (with_reducible assumption) | with_reducible refine BytA.set ?_ (by omega) | with_reducible apply BytA.alloc | with_reducible apply BytA.ext | with_reducible apply BytA.drew)) (by omega)), (BytA.mono (base := B1 + 3) (by repeat (first | (with_reducible assumption) | with_reducible refine BytA.set ?_ (by omega) | with_reducible apply BytA.alloc | with_reducible apply BytA.ext | with_reducible apply BytA.drew)) (by omega))⟩
          ⟨hl0, Hnw.out, ei.1.1, ei.2.1, ei.1.2, ei.2.2, (BytA.mono (base := B1 + 3) (by repeat (first | (with_reducible assumption) | with_reducible refine BytA.set ?_ (by omega) | with_reducible apply BytA.alloc | with_reducible apply BytA.ext | with_reducible apply BytA.drew)) (by omega)), (BytA.mono (base := B1 + 3) (by repeat (first | (with_reducible assumption) | with_reducible refine BytA.set ?_ (by omega) | with_reducible apply BytA.alloc | with_reducible apply BytA.ext | with_reducible apply BytA.drew)) (by omega))⟩
          ⟨rfl, Hnw.out, Nat.le_refl _, eg.2.1, by omega, eg.2.2, BytA.nil _ _ _, (BytA.mono (base := B1 + 3) (by repeat (first | (with_reducible assumption) | with_reducible refine BytA.set ?_ (by omega) | with_reducible apply BytA.alloc | with_reducible apply BytA.ext | with_reducible apply BytA.drew)) (by omega))⟩
      · exact RecsA.mono (base := B1 + 3) (by repeat (first | (with_reducible assumption) | with_reducible refine RecsA.set ?_ (by omega) | with_reducible apply RecsA.alloc | with_reducible apply RecsA.ext | with_reducible apply RecsA.drew)) (by omega)
      · exact (by repeat (first | (with_reducible first | exact Ext.refl _ | exact Ext.same _ _ _ _ | assumption | apply Ext.alloc | apply Ext.ext | apply Ext.drew) | (with_reducible refine Ext.setCell ?_ _ _ ?_; rotate_left; focus (first | omega | (simp only [zs1, zs2, zs3, size_ext]; omega))) | (with_reducible refine Ext.trans ?_ (by assumption))))
set_option maxRecDepth 100000 in
set_option maxHeartbeats 16000000 in
theorem rpack_ok1 (A0 : Option Addr) (n0 c0 : Nat) (A1 : Option Addr) (n1 c1 : Nat) (L0 L1 : List UInt8) (f0 f1 : Int) (Am : Option Addr) (nm cm : Nat) (l : List Rec) (gen : Int) (hm : l.length = nm) (ht : TxtBig l) (hmo : memOk ⟨⟨L0, f0⟩, ⟨L1, f1⟩⟩ ⟨l, 1, gen⟩ = true) (hgn : gen ≠ 1000000000) (w : World)
    (hD : DrvY w ⟨⟨L0, f0⟩, ⟨L1, f1⟩⟩ A0 n0 c0 A1 n1 c1) (hr : Recs w Am l) :
    Calls Tryz.prog 22 #[drvV A0 n0 c0 f0 A1 n1 c1 f1, memV Am nm cm 1 gen] w fun e w' => ∃ g Ag ng cg, e = .returned (.tuple #[.slice (some ⟨g, 0, none⟩) 4 4, memV Ag ng cg (1 - 1) (gen + 1), .int .i64 0]) ∧
      Drvs4 w.heap.size w' g (packL ⟨⟨L0, f0⟩, ⟨L1, f1⟩⟩ ⟨l, 1, gen⟩) ∧ MemA w.heap.size w' ⟨l, 1 - 1, gen + 1⟩ Ag ng cg ∧ Ext w w' := by
  obtain ⟨hok, -, hnil, hck, hpg, hgb⟩ := memOk_facts hmo
  obtain ⟨h80, hall, -⟩ := checkB_iff.1 hck
  have h80' : nm ≤ 80 := by rw [← hm]; exact h80
  have hmem := fun P (hx : Ext w P) => rmem_any1 A0 n0 c0 A1 n1 c1 L0 L1 f0 f1 Am nm cm l gen hm (by omega) ht P (hD.of_ext hx) (hr.of_ext hx)
  rw [hmo] at hmem
  obtain ⟨hl0, hl1, hc0, hc1, hbig0, hbig1, hb0, hb1⟩ := hD
  obtain ⟨hg0, hg1⟩ := pack_gen hmo
  have hdf : (0 ≤ f0 ∧ f0 ≤ L0.length) ∧ (0 ≤ f1 ∧ f1 ≤ L1.length) := by
    simp only [driveOk, Bool.and_eq_true, fileOk_iff] at hok
    exact ⟨hok.1.1, hok.2.1⟩
  obtain ⟨hs0, hs1⟩ := driveOk_len hok
  simp only [] at hl0 hl1 hb0 hb1 hs0 hs1 hg0 hg1
  rw [hl0] at hs0
  rw [hl1] at hs1
  rw [hl0, hl1] at hdf
  have hgq : (gen == 1000000000) = false := by simpa using hgn
  have hw1 : IntKind.i64.wrap (gen + 1) = gen + 1 := IntWalk.i64_in _ (by omega)
  have hpe : packE ⟨⟨L0, f0⟩, ⟨L1, f1⟩⟩ ⟨l, 1, gen⟩ = 0 := by rw [packE, if_pos ⟨hmo, hgn⟩]
  have HL : Hid (packL ⟨⟨L0, f0⟩, ⟨L1, f1⟩⟩ ⟨l, 1, gen⟩ = [⟨⟨L0, n0⟩, ⟨L1, n1⟩⟩, ⟨⟨writtenB (gen + 1) nm l, 0⟩, ⟨L1, n1⟩⟩, ⟨⟨writtenB (gen + 1) nm l, (writtenB (gen + 1) nm l).length⟩, ⟨L1, n1⟩⟩, ⟨⟨writtenB (gen + 1) nm l, (writtenB (gen + 1) nm l).length⟩, ⟨[], 0⟩⟩]) := hid (by
    rw [packL, if_pos hpe]
    simp [firmD, firmF, withFile, noFile, packB, hl0, hl1, hm])
  have Hall := hid hall
  have hshort := written_short hall h80 (gen + 1) nm
  have Hwr : Hid (headB (gen + 1) nm ++ bytesR l = writtenB (gen + 1) nm l) := hid rfl
  obtain ⟨WB, hWB⟩ : ∃ WB, writtenB (gen + 1) nm l = WB := ⟨_, rfl⟩
  rw [hWB] at HL hshort Hwr
  clear hnil hck hpg hgb hok h80 hall hpe hWB hmo
  have Hb0 := hid hb0
  have Hb1 := hid hb1
  have Hr := hid hr
  have Hmem := hid hmem
  have Hdf := hid hdf
  clear hb0 hb1 hr hmem hdf
  obtain ⟨B1, hB1⟩ : ∃ B : Nat, w.heap.size = B := ⟨_, rfl⟩
  have HB1 := hid hB1
  clear hB1
  go_enter Tryz.func22, Tryz.ntmps22
  go_wp2_with fail
  refine (Hmem.out _ (by repeat (first | (with_reducible first | exact Ext.refl _ | exact Ext.same _ _ _ _ | assumption | apply Ext.alloc | apply Ext.ext | apply Ext.drew) | (with_reducible refine Ext.setCell ?_ _ _ ?_; rotate_left; focus (first | omega | (simp only [zs1, zs2, zs3, size_ext]; omega)))))).mono ?_
  rintro e P1 ⟨rfl, x1⟩
  have z1 : Hid (B1 + 3 ≤ P1.heap.size) := hid (by have q := x1.below.size; have := HB1.out; simp only [World.size_alloc] at q; omega)
  have b2 : BoxC P1 B1 [.slice A0 n0 c0, .int .i64 f0, .slice A1 n1 c1, .int .i64 f1] 27 := BoxC.of_ext (((BoxC.new_at _ _ HB1.out.symm).alloc _).alloc _) x1
  have b3 : BoxC P1 (B1 + 1) [.slice Am nm cm, .int .i64 1, .int .i64 gen] 36 := BoxC.of_ext ((BoxC.new_at _ _ (by simp only [World.size_alloc]; have := HB1.out; omega)).alloc _) x1
  have b5 : BoxC P1 (B1 + 1 + 1) [.slice none 0 0, .int .i64 0, .int .i64 0] 36 := BoxC.of_ext (BoxC.new_at _ _ (by simp only [World.size_alloc]; have := HB1.out; omega)) x1
  have e1 : Ext w P1 := Ext.trans (by repeat (first | (with_reducible first | exact Ext.refl _ | exact Ext.same _ _ _ _ | assumption | apply Ext.alloc | apply Ext.ext | apply Ext.drew) | (with_reducible refine Ext.setCell ?_ _ _ ?_; rotate_left; focus (first | omega | (simp only [zs1, zs2, zs3, size_ext]; omega))))) x1
  simp only [HB1.out]
  have E1 := hid e1
  have c20 := b2.cell (i := 0) rfl
  have c21 := b2.cell (i := 1) rfl
  have c22 := b2.cell (i := 2) rfl
  have c23 := b2.cell (i := 3) rfl
  have c30 := b3.cell (i := 0) rfl
  have c31 := b3.cell (i := 1) rfl
  have c32 := b3.cell (i := 2) rfl
  have l2 := b2.lt
  have l3 := b3.lt
  have B3 := hid b3
  have B5 := hid b5
  clear x1 e1 b2 b3 b5 Hmem
  go_wp2_with fail
  refine (rsync_ok A0 n0 c0 A1 n1 c1 L0 L1 f0 f1 _ hl0 hl1 hc0 hc1 hbig0 hbig1 hs0 hs1 Hdf.out.1 Hdf.out.2 (by have := Hb0.out.of_ext E1.out; exact (by with_reducible repeat (first | assumption | apply Byt.ext | apply Byt.alloc | apply Byt.drew | (refine Byt.of_ext ?_ (by assumption))))) (by have := Hb1.out.of_ext E1.out; exact (by with_reducible repeat (first | assumption | apply Byt.ext | apply Byt.alloc | apply Byt.drew | (refine Byt.of_ext ?_ (by assumption)))))).mono ?_
  rintro e P2 ⟨Bx1, k0, By1, k1, rfl, hox1, hoy1, x2⟩
  obtain ⟨B2, hB2⟩ : ∃ B : Nat, P2.heap.size = B := ⟨_, rfl⟩
  have Hk : Hid ((n0 ≤ k0 ∧ k0 ≤ 9223372036854775807) ∧ (n1 ≤ k1 ∧ k1 ≤ 9223372036854775807)) := hid ⟨⟨hox1.le, hox1.cap⟩, ⟨hoy1.le, hoy1.cap⟩⟩
  have z2 : Hid (B1 + 3 ≤ B2) := hid (by have q := x2.below.size; have := z1.out; omega)
  have b3 := B3.out.of_ext x2
  have B5' := hid (B5.out.of_ext x2)
  have rx1 := hid (hox1.anc.mono (base' := B1 + 3) z1.out)
  have ry1 := hid (hoy1.anc.mono (base' := B1 + 3) z1.out)
  have E2 := hid (Ext.trans E1.out x2)
  have B3' := hid b3
  have c30 := b3.cell (i := 0) rfl
  have c31 := b3.cell (i := 1) rfl
  have c32 := b3.cell (i := 2) rfl
  have l3 := b3.lt
  have HB2 := hid hB2
  clear x2 b3 hox1 hoy1 hB2 B3 B5 c20 c21 c22 c23 E1 z1 l2
  go_wp2_with fail
  obtain ⟨Q, hQ⟩ : ∃ Q, P2.alloc (.cells #[.slice Bx1 n0 k0, .int .i64 n0, .slice By1 n1 k1, .int .i64 n1] 27) = Q := ⟨_, rfl⟩
  simp only [hQ, HB2.out]
  have x2q : Ext P2 Q := by rw [← hQ]; exact (Ext.refl _).alloc _
  have hQs : Q.heap.size = B2 + 1 := by rw [← hQ, World.size_alloc, HB2.out]
  have B7 : Hid (BoxC Q B2 [.slice Bx1 n0 k0, .int .i64 n0, .slice By1 n1 k1, .int .i64 n1] 27) := hid (by rw [← hQ]; exact BoxC.new_at _ _ HB2.out.symm)
  have B3 := hid (B3'.out.of_ext x2q)
  have B5 := hid (B5'.out.of_ext x2q)
  have EQ := hid (E2.out.trans x2q)
  have sx1 := hid (rx1.out.of_ext x2q)
  have sy1 := hid (ry1.out.of_ext x2q)
  have q30 := B3.out.cell (i := 0) rfl
  have l3q := B3.out.lt
  have HQS := hid hQs
  clear hQ x2q hQs B3' B5' rx1 ry1 c30 c31 c32 l3
  refine (rhead_any (gen + 1) nm (by omega) (by omega) (by omega) (by omega) _).mono ?_
  rintro e P3 ⟨v3, rfl, ho3, x3⟩
  rw [HQS.out] at ho3
  have Ho3 := hid ho3
  have X3 := hid x3
  clear ho3 x3
  go_wp2_with fail
  go_loopw [8, 9] (fun v i wr => ∃ k : Nat, k ≤ nm ∧ i = .int .i64 k ∧ Ext Q wr ∧ OwnB (B2 + 1) wr v (headB (gen + 1) nm ++ bytesR (l.take k))) (fun _ i _ => nm - (intOf i).toNat)
  case atStart =>
    refine ⟨0, Nat.zero_le _, rfl, X3.out, ?_⟩
    simpa [bytesR_nil] using Ho3.out
  case round =>
    rename_i K hK
    obtain ⟨k, hk, rfl, hx, hown⟩ := hrel
    have Hown := hid hown
    clear hown
    by_cases hlt : k < nm
    · have hmm : k < l.length := by omega
      have hrq : Recs Q Am l := Hr.out.of_ext EQ.out
      obtain ⟨gg, of, rfl, hg⟩ := hrq.addr (by omega)
      have hrow := hrq.row hmm
      have hmem := Hall.out _ (List.getElem_mem hmm)
      have hstep := bytesR_snoc l hmm
      obtain ⟨r, hrk⟩ : ∃ r, l[k] = r := ⟨_, rfl⟩
      rw [hrk] at hrow hmem hstep
      have hnum := recNum_of hmem
      have htx := recOk_text hmem
      have Hstep := hid hstep
      have Hlen : Hid ((headB (gen + 1) nm ++ bytesR (l.take k)).length + (frameB r).length ≤ 100000000) := hid (by
        have h1 := bytesR_small (l.take k) fun x hx => recOk_text (Hall.out x (List.mem_of_mem_take hx))
        rw [List.length_append, headB_length, frameB_length]
        rw [List.length_take] at h1
        omega)
      obtain ⟨h0, h1, h2, h3, h4, h5, h6, h7, h8, h9, h10⟩ := hrow
      clear hrk hmem hstep hrq
      obtain ⟨E9, d9, rfl⟩ := hx
      go_wp2_with (first | (at_builtin; refine wpList_abyt rfl Q (B2 + 1) HQS.out.symm rfl _ _ rfl (frameB r) rfl (by exact (by repeat (first | (with_reducible first | exact Ext.refl _ | exact Ext.same _ _ _ _ | assumption | apply Ext.alloc | apply Ext.ext | apply Ext.drew) | (with_reducible refine Ext.setCell ?_ _ _ ?_; rotate_left; focus (first | omega | (simp only [zs1, zs2, zs3, size_ext]; omega)))))) (by exact OwnB.of_ext Hown.out (by repeat (first | (with_reducible first | exact Ext.refl _ | exact Ext.same _ _ _ _ | assumption | apply Ext.alloc | apply Ext.ext | apply Ext.drew) | (with_reducible refine Ext.setCell ?_ _ _ ?_; rotate_left; focus (first | omega | (simp only [zs1, zs2, zs3, size_ext]; omega)))))) rfl (by rw [frameB_length]) (by exact (by with_reducible repeat (first | assumption | apply Byt.ext | apply Byt.alloc | apply Byt.drew | (refine Byt.of_ext ?_ (by assumption))))) Hlen.out (fun v1 E2 d2 ho1 => ?_)) | (go_at_call 78; refine (rframe_any _ hnum _).mono ?_; rintro e w1 ⟨Af1, cf1, rfl, hbf1, E1, d1, rfl⟩))
      exact ⟨⟨k + 1, by omega, by go_num, (Ext.refl _).ext _ _, by rw [Hstep.out, ← List.append_assoc]; exact ho1⟩, by simp [intOf]; omega⟩
    · obtain rfl : nm = k := by omega
      have hown := Hown.out
      rw [List.take_of_length_le (by omega), Hwr.out] at hown
      obtain ⟨Aw, cw, rfl, -⟩ := hown.slice
      have Ho2 := hid hown
      obtain ⟨nw, hnw⟩ : ∃ n2, WB.length = n2 := ⟨_, rfl⟩
      rw [hnw] at Ho2 hshort
      have Hnw : Hid (WB.length = nw) := hid hnw
      simp only [hnw]
      have HL2 := HL.out
      rw [hnw] at HL2
      have HL3 := hid HL2
      have b7 := B7.out.of_ext hx
      have B3' := hid (B3.out.of_ext hx)
      have B5' := hid (B5.out.of_ext hx)
      have B7' := hid b7
      have E4 := hid (EQ.out.trans hx)
      have tx1 := hid (sx1.out.of_ext hx)
      have ty1 := hid (sy1.out.of_ext hx)
      have z4 : Hid (B1 + 3 ≤ B2 ∧ B2 + 1 ≤ wr.heap.size) := hid (by have := hx.below.size; have := HQS.out; have := z2.out; omega)
      have q30 := B3'.out.cell (i := 0) rfl
      have l3 := B3'.out.lt
      have q70 := b7.cell (i := 0) rfl
      have q71 := b7.cell (i := 1) rfl
      have q72 := b7.cell (i := 2) rfl
      have q73 := b7.cell (i := 3) rfl
      have l7 := b7.lt
      clear hown hnw Hown HL HL2 b7 hx HQS B3 B5 B7 EQ sx1 sy1 q30 l3q
      have q30 := B3'.out.cell (i := 0) rfl
      go_wp2_with fail
      refine (sameDrive_any _ _ _ _ _ _ _ _ L0 L1 hl0 hl1 (by omega) (by omega) _ (by have := tx1.out.read; exact (by with_reducible repeat (first | assumption | apply Byt.ext | apply Byt.alloc | apply Byt.drew | (refine Byt.of_ext ?_ (by assumption))))) (by have := ty1.out.read; exact (by with_reducible repeat (first | assumption | apply Byt.ext | apply Byt.alloc | apply Byt.drew | (refine Byt.of_ext ?_ (by assumption)))))).mono ?_
      rintro e P5 ⟨Ax2, j0, Ay2, j1, rfl, hox2, hoy2, x5⟩
      obtain ⟨B10, hB10⟩ : ∃ B : Nat, P5.heap.size = B := ⟨_, rfl⟩
      have Hj : Hid ((n0 ≤ j0 ∧ j0 ≤ 9223372036854775807) ∧ (n1 ≤ j1 ∧ j1 ≤ 9223372036854775807)) := hid ⟨⟨hox2.le, hox2.cap⟩, ⟨hoy2.le, hoy2.cap⟩⟩
      have z5 : Hid (B1 + 3 ≤ B2 ∧ B2 + 1 ≤ B10) := hid (by have q := x5.below.size; have := z4.out; omega)
      have B3 := hid (B3'.out.of_ext x5)
      have B5 := hid (B5'.out.of_ext x5)
      have B7 := hid (B7'.out.of_ext x5)
      have E5 := hid (E4.out.trans x5)
      have sx1 := hid (tx1.out.of_ext x5)
      have sy1 := hid (ty1.out.of_ext x5)
      have sw := hid (Ho2.out.of_ext x5)
      have rx2 := hid (hox2.anc.mono (base' := B2 + 1) (by have := z4.out; omega))
      have ry2 := hid (hoy2.anc.mono (base' := B2 + 1) (by have := z4.out; omega))
      have q31 := B3.out.cell (i := 1) rfl
      have l3 := B3.out.lt
      have HB10 := hid hB10
      clear x5 hox2 hoy2 hB10 B3' B5' B7' E4 tx1 ty1 Ho2 q70 q71 q72 q73 l7 q30 Ho3 X3 z4
      go_wp2_with fail
      have Hcw : Hid (nw ≤ cw ∧ cw ≤ 9223372036854775807) := hid ⟨sw.out.le, sw.out.cap⟩
      refine (rsync_ok Aw nw cw Ay2 n1 j1 WB L1 0 n1 _ Hnw.out hl1 Hcw.out.1 Hj.out.2.1 Hcw.out.2 Hj.out.2.2 (by omega) hs1 (by omega) (by omega) (by have := sw.out.anc.read; exact (by with_reducible repeat (first | assumption | apply Byt.ext | apply Byt.alloc | apply Byt.drew | (refine Byt.of_ext ?_ (by assumption))))) (by have := ry2.out.read; exact (by with_reducible repeat (first | assumption | apply Byt.ext | apply Byt.alloc | apply Byt.drew | (refine Byt.of_ext ?_ (by assumption)))))).mono ?_
      rintro e P6 ⟨Ax3, i0, Ay3, i1, rfl, hox3, hoy3, x6⟩
      obtain ⟨B11, hB11⟩ : ∃ B : Nat, P6.heap.size = B := ⟨_, rfl⟩
      have Hi := hid (And.intro (And.intro hox3.le hox3.cap) (And.intro hoy3.le hoy3.cap))
      have z6 : Hid (B1 + 3 ≤ B2 ∧ B2 + 1 ≤ B10 ∧ B10 + 1 ≤ B11) := hid (by have q := x6.below.size; have := HB10.out; have := z5.out; simp only [World.size_alloc] at q; omega)
      have B3' := hid ((B3.out.alloc _).of_ext x6)
      have B5' := hid ((B5.out.alloc _).of_ext x6)
      have B7' := hid ((B7.out.alloc _).of_ext x6)
      have B10' : Hid (BoxC P6 B10 [.slice Aw nw cw, .int .i64 0, .slice Ay2 n1 j1, .int .i64 n1] 27) := hid ((BoxC.new_at _ _ HB10.out.symm).of_ext x6)
      have E6 := hid ((E5.out.alloc _).trans x6)
      have tx1 := hid ((sx1.out.alloc _).of_ext x6)
      have ty1 := hid ((sy1.out.alloc _).of_ext x6)
      have tw := hid ((sw.out.anc.alloc _).of_ext x6)
      have t2 := hid ((ry2.out.alloc _).of_ext x6)
      have rx3 := hid (hox3.anc.mono (base' := B2 + 1) (by simp only [World.size_alloc]; have := z5.out; have := HB10.out; omega))
      have ry3 := hid (hoy3.anc.mono (base' := B2 + 1) (by simp only [World.size_alloc]; have := z5.out; have := HB10.out; omega))
      have HB11 := hid hB11
      simp only [HB10.out]
      clear x6 hox3 hoy3 hB11 HB10 B3 B5 B7 E5 sx1 sy1 sw rx2 ry2 z5 q31 l3
      go_wp2_with fail
      refine (sameDrive_any _ _ _ _ _ _ _ _ WB L1 Hnw.out hl1 (by omega) (by omega) _ (by have := rx3.out.read; exact (by with_reducible repeat (first | assumption | apply Byt.ext | apply Byt.alloc | apply Byt.drew | (refine Byt.of_ext ?_ (by assumption))))) (by have := ry3.out.read; exact (by with_reducible repeat (first | assumption | apply Byt.ext | apply Byt.alloc | apply Byt.drew | (refine Byt.of_ext ?_ (by assumption)))))).mono ?_
      rintro e P7 ⟨Ax4, g0, Ay4, g1, rfl, hox4, hoy4, x7⟩
      obtain ⟨B12, hB12⟩ : ∃ B : Nat, P7.heap.size = B := ⟨_, rfl⟩
      have Hg := hid (And.intro (And.intro hox4.le hox4.cap) (And.intro hoy4.le hoy4.cap))
      have z7 : Hid (B1 + 3 ≤ B2 ∧ B2 + 1 ≤ B10 ∧ B10 + 1 ≤ B11 ∧ B11 + 1 ≤ B12) := hid (by have q := x7.below.size; have := HB11.out; have := z6.out; simp only [World.size_alloc] at q; omega)
      have B3 := hid ((B3'.out.alloc _).of_ext x7)
      have B5 := hid ((B5'.out.alloc _).of_ext x7)
      have B7 := hid ((B7'.out.alloc _).of_ext x7)
      have C10 := hid ((B10'.out.alloc _).of_ext x7)
      have B11b : Hid (BoxC P7 B11 [.slice Ax3 nw i0, .int .i64 nw, .slice Ay3 n1 i1, .int .i64 n1] 27) := hid ((BoxC.new_at _ _ HB11.out.symm).of_ext x7)
      have E7 := hid ((E6.out.alloc _).trans x7)
      have sx1 := hid ((tx1.out.alloc _).of_ext x7)
      have sy1 := hid ((ty1.out.alloc _).of_ext x7)
      have sw := hid ((tw.out.alloc _).of_ext x7)
      have s2 := hid ((t2.out.alloc _).of_ext x7)
      have sx3 := hid ((rx3.out.alloc _).of_ext x7)
      have sy3 := hid ((ry3.out.alloc _).of_ext x7)
      have r4 := hid (hox4.anc.mono (base' := B2 + 1) (by simp only [World.size_alloc]; have := z6.out; have := HB11.out; omega))
      have q30 := B3.out.cell (i := 0) rfl
      have q31 := B3.out.cell (i := 1) rfl
      have q32 := B3.out.cell (i := 2) rfl
      have l3 := B3.out.lt
      have HB12 := hid hB12
      simp only [HB11.out]
      clear x7 hox4 hoy4 hB12 HB11 B3' B5' B7' B10' E6 tx1 ty1 tw t2 rx3 ry3 z6
      go_wp2_with fail
      refine (rsameMem_any Am nm cm l 1 gen hm (by omega) _ (by have := Hr.out.of_ext E7.out; exact (by with_reducible repeat (first | assumption | apply Recs.ext | apply Recs.alloc | apply Recs.drew | (refine Recs.of_ext ?_ (by assumption)))))).mono ?_
      rintro e P8 ⟨Ac, nc, cc, rfl, hnc, hvc, x8⟩
      obtain ⟨B13, hB13⟩ : ∃ B : Nat, P8.heap.size = B := ⟨_, rfl⟩
      have Hnc := hid hnc.out
      have z8 : Hid (B1 + 3 ≤ B2 ∧ B2 + 1 ≤ B10 ∧ B10 + 1 ≤ B11 ∧ B11 + 1 ≤ B12 ∧ B12 + 1 ≤ B13) := hid (by have q := x8.below.size; have := HB12.out; have := z7.out; simp only [World.size_alloc] at q; omega)
      have b3 := (B3.out.alloc _).of_ext x8
      have B5' := hid ((B5.out.alloc _).of_ext x8)
      have B7' := hid ((B7.out.alloc _).of_ext x8)
      have B10' := hid ((C10.out.alloc _).of_ext x8)
      have B11' := hid ((B11b.out.alloc _).of_ext x8)
      have B12' : Hid (BoxC P8 B12 [.slice Ax4 nw g0, .int .i64 nw, .slice none 0 0, .int .i64 0] 27) := hid ((BoxC.new_at _ _ HB12.out.symm).of_ext x8)
      have E8 := hid ((E7.out.alloc _).trans x8)
      have tx1 := hid ((sx1.out.alloc _).of_ext x8)
      have ty1 := hid ((sy1.out.alloc _).of_ext x8)
      have tw := hid ((sw.out.alloc _).of_ext x8)
      have t2 := hid ((s2.out.alloc _).of_ext x8)
      have tx3 := hid ((sx3.out.alloc _).of_ext x8)
      have ty3 := hid ((sy3.out.alloc _).of_ext x8)
      have t4 := hid ((r4.out.alloc _).of_ext x8)
      have rc := hid (hvc.mono (base' := B1 + 3) (by simp only [World.size_alloc]; have := z7.out; have := HB12.out; omega))
      clear q30 q31 q32 l3
      have q30 := b3.cell (i := 0) rfl
      have q31 := b3.cell (i := 1) rfl
      have q32 := b3.cell (i := 2) rfl
      have l3 := b3.lt
      have HB13 := hid hB13
      simp only [HB12.out]
      clear x8 b3 hnc hvc hB13 HB12 B3 B5 B7 C10 B11b E7 sx1 sy1 sw s2 sx3 sy3 r4 z7
      go_wp2_with fail
      (try simp only [HB13.out])
      obtain ⟨P9, hP9⟩ : ∃ P9, P8.alloc (.cells #[.slice Ac nc cc, .int .i64 (1 - 1), .int .i64 (gen + 1)] 36) = P9 := ⟨_, rfl⟩
      have hP9' := hP9
      simp only [Int.sub_zero, Int.sub_self] at hP9'
      simp only [hP9']
      have x89 : Ext P8 P9 := by rw [← hP9]; exact (Ext.refl _).alloc _
      have b13 : BoxC P9 B13 [.slice Ac nc cc, .int .i64 (1 - 1), .int .i64 (gen + 1)] 36 := by rw [← hP9]; exact BoxC.new_at _ _ HB13.out.symm
      simp only [Int.sub_zero, Int.sub_self] at b13
      have b5 := B5'.out.of_ext x89
      have b7 := B7'.out.of_ext x89
      have b10 := B10'.out.of_ext x89
      have b11 := B11'.out.of_ext x89
      have b12 := B12'.out.of_ext x89
      have E9 := hid (E8.out.trans x89)
      have Q70 := b7.cell (i := 0) rfl
      have Q71 := b7.cell (i := 1) rfl
      have Q72 := b7.cell (i := 2) rfl
      have Q73 := b7.cell (i := 3) rfl
      have Q100 := b10.cell (i := 0) rfl
      have Q101 := b10.cell (i := 1) rfl
      have Q102 := b10.cell (i := 2) rfl
      have Q103 := b10.cell (i := 3) rfl
      have Q110 := b11.cell (i := 0) rfl
      have Q111 := b11.cell (i := 1) rfl
      have Q112 := b11.cell (i := 2) rfl
      have Q113 := b11.cell (i := 3) rfl
      have Q120 := b12.cell (i := 0) rfl
      have Q121 := b12.cell (i := 1) rfl
      have Q122 := b12.cell (i := 2) rfl
      have Q123 := b12.cell (i := 3) rfl
      have Q130 := b13.cell (i := 0) rfl
      have Q131 := b13.cell (i := 1) rfl
      have Q132 := b13.cell (i := 2) rfl
      have Q50 := b5.cell (i := 0) rfl
      have Q51 := b5.cell (i := 1) rfl
      have Q52 := b5.cell (i := 2) rfl
      have fz := b5.frozen
      have l5 := b5.lt
      have l7 := b7.lt
      have l10 := b10.lt
      have l11 := b11.lt
      have l12 := b12.lt
      have l13 := b13.lt
      have ne7 : ¬ (B2 = B1 + 1 + 1) := by have := z8.out; omega
      have ne10 : ¬ (B10 = B1 + 1 + 1) := by have := z8.out; omega
      have ne11 : ¬ (B11 = B1 + 1 + 1) := by have := z8.out; omega
      have ne12 : ¬ (B12 = B1 + 1 + 1) := by have := z8.out; omega
      have ne13 : ¬ (B13 = B1 + 1 + 1) := by have := z8.out; omega
      have B5 := hid b5
      have u1 := hid (tx1.out.of_ext x89)
      have u2 := hid (ty1.out.of_ext x89)
      have u3 := hid ((t2.out.of_ext x89).mono (base' := B1 + 3) (by have := z8.out; omega))
      have u4 := hid ((tw.out.of_ext x89).mono (base' := B1 + 3) (by have := z8.out; omega))
      have u5 := hid ((tx3.out.of_ext x89).mono (base' := B1 + 3) (by have := z8.out; omega))
      have u6 := hid ((ty3.out.of_ext x89).mono (base' := B1 + 3) (by have := z8.out; omega))
      have u7 := hid ((t4.out.of_ext x89).mono (base' := B1 + 3) (by have := z8.out; omega))
      have u8 := hid (rc.out.of_ext x89)
      clear hP9 hP9' x89 b5 b7 b10 b11 b12 b13 B5' B7' B10' B11' B12' E8 q30 q31 q32 l3 tx1 ty1 tw t2 tx3 ty3 t4 rc
      refine wp_region_ord_but (B1 + 1 + 1) (.f 0 (.f 1 (.f 2 (.f 3 (.f 5 (.a 4 (.f 6 (.a 7 (.f 8 .d))))))))) (by kernel_rfl) (by kernel_rfl) ?_
      repeat ((first | refine wpOrd_pass rfl rfl ?_ | (refine wpOrd_free (v := ?_) rfl rfl (fun _ hS => ?_) ?_; rotate_left; focus (go_simp; try with_reducible rfl))); simp only [Act.put, zp1, zp2, zp3, zp4, zp5, zp6])
      refine wpOrd_act rfl rfl (fun K hK => ?_)
      go_simp
      refine hK _ _ ⟨?_, ?_⟩
      · (first | (intro b o hb hx; go_simp; done) | (intro b o hb hx; (try (refine (World.cell?_alloc_lt _ _ _ ?_).trans ?_; focus (simp only [size_ext, zs1, zs2, zs3]; omega))); (repeat (refine (World.cell?_setCell_other _ _ _ _ ?_).trans ?_; focus exact fun e => hx (congrArg Addr.block e).symm)); go_simp; done) | (intro b o hb hx; (try rw [show ∀ (X : World) (a : Addr), X.drew.cell? a = X.cell? a from fun _ _ => rfl]); (repeat (refine (World.cell?_setCell_other _ _ _ _ ?_).trans ?_; (focus exact fun e => hx (congrArg Addr.block e).symm))); rfl) | exact fun b o hb _ => Ext.cellOf (by repeat (first | (with_reducible first | exact Ext.refl _ | exact Ext.same _ _ _ _ | assumption | apply Ext.alloc | apply Ext.ext | apply Ext.drew) | (with_reducible refine Ext.setCell ?_ _ _ ?_; rotate_left; focus (first | omega | (simp only [zs1, zs2, zs3, size_ext]; omega))))) hb | (intro b o hb hx; (try simp only [size_ext, World.size_alloc, World.size_drew, World.size_setCell] at hb hx); go_simp; try rfl))
      clear hK K
      try simp only [Act.put, zp1, zp2, zp3, zp4, zp5, zp6]
      repeat ((first | refine wpOrd_pass rfl rfl ?_ | (refine wpOrd_free (v := ?_) rfl rfl (fun _ hS => ?_) ?_; rotate_left; focus (go_simp; try with_reducible rfl))); simp only [Act.put, zp1, zp2, zp3, zp4, zp5, zp6])
      refine wpOrd_act rfl rfl (fun K hK => ?_)
      go_simp
      refine hK _ _ ⟨?_, ?_⟩
      · (first | (intro b o hb hx; go_simp; done) | (intro b o hb hx; (try (refine (World.cell?_alloc_lt _ _ _ ?_).trans ?_; focus (simp only [size_ext, zs1, zs2, zs3]; omega))); (repeat (refine (World.cell?_setCell_other _ _ _ _ ?_).trans ?_; focus exact fun e => hx (congrArg Addr.block e).symm)); go_simp; done) | (intro b o hb hx; (try rw [show ∀ (X : World) (a : Addr), X.drew.cell? a = X.cell? a from fun _ _ => rfl]); (repeat (refine (World.cell?_setCell_other _ _ _ _ ?_).trans ?_; (focus exact fun e => hx (congrArg Addr.block e).symm))); rfl) | exact fun b o hb _ => Ext.cellOf (by repeat (first | (with_reducible first | exact Ext.refl _ | exact Ext.same _ _ _ _ | assumption | apply Ext.alloc | apply Ext.ext | apply Ext.drew) | (with_reducible refine Ext.setCell ?_ _ _ ?_; rotate_left; focus (first | omega | (simp only [zs1, zs2, zs3, size_ext]; omega))))) hb | (intro b o hb hx; (try simp only [size_ext, World.size_alloc, World.size_drew, World.size_setCell] at hb hx); go_simp; try rfl))
      clear hK K
      try simp only [Act.put, zp1, zp2, zp3, zp4, zp5, zp6]
      repeat ((first | refine wpOrd_pass rfl rfl ?_ | (refine wpOrd_free (v := ?_) rfl rfl (fun _ hS => ?_) ?_; rotate_left; focus (go_simp; try with_reducible rfl))); simp only [Act.put, zp1, zp2, zp3, zp4, zp5, zp6])
      refine wpOrd_nil ?_
      go_wp2_with fail
      have z := z8.out
      have hB := HB1.out
      have h5 := B5.out.lt
      have v1 := u1.out
      have v2 := u2.out
      have v3 := u3.out
      have v4 := u4.out
      have v5 := u5.out
      have v6 := u6.out
      have v7 := u7.out
      have v8 := u8.out
      have ek := Hk.out
      have ej := Hj.out
      have ei := Hi.out
      have eg := Hg.out
      have ec := Hcw.out
      have e9 := E9.out
      refine bodyPost_ret (v := .tuple #[.slice (some ⟨P9.heap.size, 0, none⟩) 4 4, memV Ac nc cc (1 - 1) (gen + 1), .int .i64 0]) (by simp [results, Tryz.results22, go_sem, h5, Q50, Q51, Q52, lt_add_any]) rfl ?_
      refine ⟨_, Ac, nc, cc, rfl, ?_, ⟨Hnc.out.symm, ?_⟩, ?_⟩
      · rw [HL3.out]
        exact drvs4_of (BoxC.drew (BoxC.new_at _ _ (by simp))) (by omega) ⟨hl0, hl1, ek.1.1, ek.2.1, ek.1.2, ek.2.2, (BytA.mono (base := B1 + 3) (by repeat (first | (with_reducible assumption) | with_reducible refine BytA.set ?_ (by omega) | with_reducible apply BytA.alloc | with_reducible apply BytA.ext | with_reducible apply BytA.drew)) (by omega)), (BytA.mono (base := B1 + 3) (by repeat (first | (with_reducible assumption) | with_reducible refine BytA.set ?_ (by omega) | with_reducible apply BytA.alloc | with_reducible apply BytA.ext | with_reducible apply BytA.drew)) (by omega))⟩
          ⟨Hnw.out, hl1, ec.1, ej.2.1, ec.2, ej.2.2, (BytA.mono (base := B1 + 3) (by repeat (first | (with_reducible assumption) | with_reducible refine BytA.set ?_ (by omega) | with_reducible apply BytA.alloc | with_reducible apply BytA.ext | with_reducible apply BytA.drew)) (by omega)), (BytA.mono (base := B1 + 3) (by repeat (first | (with_reducible assumption) | with_reducible refine BytA.set ?_ (by omega) | with_reducible apply BytA.alloc | with_reducible apply BytA.ext | with_reducible apply BytA.drew)) (by omega))⟩
          ⟨Hnw.out, hl1, ei.1.1, ei.2.1, ei.1.2, ei.2.2, (BytA.mono (base := B1 + 3) (by repeat (first | (with_reducible assumption) | with_reducible refine BytA.set ?_ (by omega) | with_reducible apply BytA.alloc | with_reducible apply BytA.ext | with_reducible apply BytA.drew)) (by omega)), (BytA.mono (base := B1 + 3) (by repeat (first | (with_reducible assumption) | with_reducible refine BytA.set ?_ (by omega) | with_reducible apply BytA.alloc | with_reducible apply BytA.ext | with_reducible apply BytA.drew)) (by omega))⟩
          ⟨Hnw.out, rfl, eg.1.1, Nat.le_refl _, eg.1.2, by omega, (BytA.mono (base := B1 + 3) (by repeat (first | (with_reducible assumption) | with_reducible refine BytA.set ?_ (by omega) | with_reducible apply BytA.alloc | with_reducible apply BytA.ext | with_reducible apply BytA.drew)) (by omega)), BytA.nil _ _ _⟩
      · exact RecsA.mono (base := B1 + 3) (by repeat (first | (with_reducible assumption) | with_reducible refine RecsA.set ?_ (by omega) | with_reducible apply RecsA.alloc | with_reducible apply RecsA.ext | with_reducible apply RecsA.drew)) (by omega)
      · exact (by repeat (first | (with_reducible first | exact Ext.refl _ | exact Ext.same _ _ _ _ | assumption | apply Ext.alloc | apply Ext.ext | apply Ext.drew) | (with_reducible refine Ext.setCell ?_ _ _ ?_; rotate_left; focus (first | omega | (simp only [zs1, zs2, zs3, size_ext]; omega))) | (with_reducible refine Ext.trans ?_ (by assumption))))
end Go.Proofs.YtekjdeibnfaehaaGreat
