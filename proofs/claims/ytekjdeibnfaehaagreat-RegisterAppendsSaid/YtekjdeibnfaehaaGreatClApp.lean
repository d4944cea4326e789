/- RegisterAppends: the walk. -/
import Derived.Test.YtekjdeibnfaehaaGreatRPkX
import Derived.Test.YtekjdeibnfaehaaGreatSanes
set_option linter.unusedSimpArgs false
set_option linter.unusedVariables false
namespace Go.Proofs.YtekjdeibnfaehaaGreat
open Go Go.RowKit

/-- What Pack returns of drives. -/
def PackV (w : World) (G : Option Addr) (k : Nat) (l : List DriveD) : Prop := (G = none ∧ k = 0 ∧ l = []) ∨ ∃ g, G = some ⟨g, 0, none⟩ ∧ k = 4 ∧ Drvs4 0 w g l
theorem Drvs4.low {base g : Nat} {w : World} {l : List DriveD} (h : Drvs4 base w g l) : Drvs4 0 w g l :=
  ⟨Nat.zero_le _, h.hi, h.many, fun i D hi => by
    obtain ⟨A0, n0, c0, A1, n1, c1, h0, h1, h2, h3, hd⟩ := h.at_ i D hi
    exact ⟨A0, n0, c0, A1, n1, c1, h0, h1, h2, h3, hd.mono (Nat.zero_le _)⟩⟩
theorem PackV.of_ext {w w' : World} {G : Option Addr} {k : Nat} {l : List DriveD} (h : PackV w G k l) (hx : Ext w w') : PackV w' G k l := by
  rcases h with h | ⟨g, h1, h2, h3⟩
  · exact .inl h
  · exact .inr ⟨g, h1, h2, h3.of_ext hx⟩
theorem SameDrives_any {G G' : Option Addr} {k k' : Nat} {l : List DriveD} (w : World) (h : PackV w G k l) (h' : PackV w G' k' l) :
    Calls Tryz.prog 23 #[.slice G k k, .slice G' k' k'] w fun e w' => e = .returned (.bool true) ∧ Ext w w' := by
  rcases h with ⟨rfl, rfl, hl⟩ | ⟨g, rfl, rfl, hd⟩
  · rcases h' with ⟨rfl, rfl, -⟩ | ⟨g, rfl, rfl, hd⟩
    · exact SameDrives_nil w
    · have := hd.many; rw [hl] at this; cases this
  · rcases h' with ⟨rfl, rfl, hl⟩ | ⟨g', rfl, rfl, hd'⟩
    · have := hd.many; rw [hl] at this; cases this
    · exact SameDrives_self g g' 0 0 l w hd hd'
theorem Pack_v (A0 : Option Addr) (n0 c0 : Nat) (A1 : Option Addr) (n1 c1 : Nat) (D : DriveD) (Am : Option Addr) (nm cm : Nat) (M : MemD) (hm : M.recs.length = nm) (hmb : nm ≤ 9223372036854775807) (w : World)
    (hD : DrvY w D A0 n0 c0 A1 n1 c1) (hr : Recs w Am M.recs) :
    Calls Tryz.prog 21 #[drvV A0 n0 c0 D.f0.firm A1 n1 c1 D.f1.firm, memV Am nm cm M.file M.gen] w fun e w' => ∃ G k Ag ng cg, e = .returned (.tuple #[.slice G k k, memV Ag ng cg (packM D M).file (packM D M).gen, .int .i64 (packE D M)]) ∧
      PackV w' G k (packL D M) ∧ MemA 0 w' (packM D M) Ag ng cg ∧ Ext w w' := by
  by_cases hno : memOk D M = true ∧ M.gen ≠ 1000000000
  · refine (pack_ok A0 n0 c0 A1 n1 c1 D Am nm cm M hm hno.1 hno.2 w hD hr).mono ?_
    rintro e w' ⟨g, Ag, ng, cg, rfl, h1, h2, h3⟩
    have hE : packE D M = 0 := by rw [packE, if_pos hno]
    have hM : packM D M = ⟨M.recs, 1 - M.file, M.gen + 1⟩ := by rw [packM, if_pos hE]
    rw [hE, hM]
    exact ⟨_, 4, Ag, ng, cg, rfl, .inr ⟨g, rfl, rfl, h1.low⟩, h2.mono (Nat.zero_le _), h3⟩
  · obtain ⟨h1, h2, h3⟩ := packE_bad hno
    rw [h1, h2, h3]
    refine (pack_err A0 n0 c0 A1 n1 c1 D Am nm cm M hm hmb hno w hD hr).mono ?_
    rintro e w' ⟨rfl, hx⟩
    exact ⟨none, 0, none, 0, 0, rfl, .inl ⟨rfl, rfl, rfl⟩, ⟨rfl, RecsA.nil _ _ _⟩, hx⟩
theorem rPack_v (A0 : Option Addr) (n0 c0 : Nat) (A1 : Option Addr) (n1 c1 : Nat) (D : DriveD) (Am : Option Addr) (nm cm : Nat) (M : MemD) (hm : M.recs.length = nm) (hmb : nm ≤ 9223372036854775807) (ht : TxtBig M.recs) (w : World)
    (hD : DrvY w D A0 n0 c0 A1 n1 c1) (hr : Recs w Am M.recs) :
    Calls Tryz.prog 22 #[drvV A0 n0 c0 D.f0.firm A1 n1 c1 D.f1.firm, memV Am nm cm M.file M.gen] w fun e w' => ∃ G k Ag ng cg, e = .returned (.tuple #[.slice G k k, memV Ag ng cg (packM D M).file (packM D M).gen, .int .i64 (packE D M)]) ∧
      PackV w' G k (packL D M) ∧ MemA 0 w' (packM D M) Ag ng cg ∧ Ext w w' := by
  by_cases hno : memOk D M = true ∧ M.gen ≠ 1000000000
  · refine (rpack_ok A0 n0 c0 A1 n1 c1 D Am nm cm M hm ht hno.1 hno.2 w hD hr).mono ?_
    rintro e w' ⟨g, Ag, ng, cg, rfl, h1, h2, h3⟩
    have hE : packE D M = 0 := by rw [packE, if_pos hno]
    have hM : packM D M = ⟨M.recs, 1 - M.file, M.gen + 1⟩ := by rw [packM, if_pos hE]
    rw [hE, hM]
    exact ⟨_, 4, Ag, ng, cg, rfl, .inr ⟨g, rfl, rfl, h1.low⟩, h2.mono (Nat.zero_le _), h3⟩
  · obtain ⟨h1, h2, h3⟩ := packE_bad hno
    rw [h1, h2, h3]
    refine (rpack_err A0 n0 c0 A1 n1 c1 D Am nm cm M hm hmb ht hno w hD hr).mono ?_
    rintro e w' ⟨rfl, hx⟩
    exact ⟨none, 0, none, 0, 0, rfl, .inl ⟨rfl, rfl, rfl⟩, ⟨rfl, RecsA.nil _ _ _⟩, hx⟩
theorem appM_len (D : DriveD) (M : MemD) (r : Rec) : (appM D M r).recs.length ≤ 9223372036854775807 := by
  rw [appM]
  split
  · rename_i h
    rw [appE] at h
    split at h
    · rename_i hmo
      split at h
      · have hck := (memOk_facts hmo).2.2.2.1
        obtain ⟨h80, -, hsrt⟩ := checkB_iff.1 hck
        show (putL M.recs r).length ≤ _
        cases hh : hasR M.recs r.ao r.sq with
        | true => rw [putL_has hsrt hh h]; omega
        | false => rw [putL_fresh hh h]; omega
      · cases h
    · cases h
  · exact Nat.zero_le _
theorem packM_len (D : DriveD) (M : MemD) (h : M.recs.length ≤ 9223372036854775807) : (packM D M).recs.length ≤ 9223372036854775807 := by
  rw [packM]
  split
  · exact h
  · exact Nat.zero_le _
set_option maxRecDepth 100000 in
set_option maxHeartbeats 16000000 in
theorem appends_walk (A0 : Option Addr) (n0 c0 : Nat) (A1 : Option Addr) (n1 c1 : Nat) (D : DriveD) (Am : Option Addr) (nm cm : Nat) (f g : Int) (l : List Rec) (r : Rec) (hm : l.length = nm) (hmb : nm ≤ 9223372036854775807) (ht : TxtBig l) (hrt : r.text.size ≤ 9223372036854775807) (w : World)
    (hD : DrvY w D A0 n0 c0 A1 n1 c1) (hr : Recs w Am l) :
    Calls Tryz.prog 4 #[drvV A0 n0 c0 D.f0.firm A1 n1 c1 D.f1.firm, memV Am nm cm f g, recV r] w fun e w' => e = .returned (.bool true) ∧ Ext w w' := by
  have h1 := fun P (hx : Ext w P) => Append_any A0 n0 c0 A1 n1 c1 D Am nm cm ⟨l, f, g⟩ r hm hmb hrt P (hD.of_ext hx) (hr.of_ext hx)
  have h2 := fun P (hx : Ext w P) => rAppend_any A0 n0 c0 A1 n1 c1 D Am nm cm ⟨l, f, g⟩ r hm hmb ht hrt P (hD.of_ext hx) (hr.of_ext hx)
  have h3 := fun P (hx : Ext w P) => Pack_v A0 n0 c0 A1 n1 c1 D Am nm cm ⟨l, f, g⟩ hm hmb P (hD.of_ext hx) (hr.of_ext hx)
  have h4 := fun P (hx : Ext w P) => rPack_v A0 n0 c0 A1 n1 c1 D Am nm cm ⟨l, f, g⟩ hm hmb ht P (hD.of_ext hx) (hr.of_ext hx)
  have hl1 := appM_len D ⟨l, f, g⟩ r
  have hl2 := packM_len D ⟨l, f, g⟩ (by show l.length ≤ _; omega)
  simp only [] at h1 h2 h3 h4
  obtain ⟨AD, hAD⟩ : ∃ AD, appD D ⟨l, f, g⟩ r = AD := ⟨_, rfl⟩
  obtain ⟨AM, hAM⟩ : ∃ AM, appM D ⟨l, f, g⟩ r = AM := ⟨_, rfl⟩
  obtain ⟨AE, hAE⟩ : ∃ AE, appE D ⟨l, f, g⟩ r = AE := ⟨_, rfl⟩
  obtain ⟨PL, hPL⟩ : ∃ PL, packL D ⟨l, f, g⟩ = PL := ⟨_, rfl⟩
  obtain ⟨PM, hPM⟩ : ∃ PM, packM D ⟨l, f, g⟩ = PM := ⟨_, rfl⟩
  obtain ⟨PE, hPE⟩ : ∃ PE, packE D ⟨l, f, g⟩ = PE := ⟨_, rfl⟩
  rw [hAM] at hl1
  rw [hPM] at hl2
  simp only [hAD, hAM, hAE] at h1 h2
  simp only [hPL, hPM, hPE] at h3 h4
  have H1 := hid h1
  have H2 := hid h2
  have H3 := hid h3
  have H4 := hid h4
  have HL1 := hid hl1
  have HL2 := hid hl2
  clear h1 h2 h3 h4 hl1 hl2 hD hr hAD hAM hAE hPL hPM hPE hm hmb ht hrt
  obtain ⟨B, hB⟩ : ∃ B : Nat, w.heap.size = B := ⟨_, rfl⟩
  have HB := hid hB
  clear hB
  go_enter Tryz.func4, Tryz.ntmps4
  go_wp2_with fail
  refine (H1.out _ (by repeat (first | (with_reducible first | exact Ext.refl _ | exact Ext.same _ _ _ _ | assumption | apply Ext.alloc | apply Ext.ext | apply Ext.drew) | (with_reducible refine Ext.setCell ?_ _ _ ?_; rotate_left; focus (first | omega | (simp only [zs1, zs2, zs3, size_ext]; omega)))))).mono ?_
  rintro e P1 ⟨B0, m0, k0, B1, m1, k1, Ag, ng, cg, rfl, hz, hx, x1⟩
  have z1 : Hid (B + 3 ≤ P1.heap.size) := hid (by have q := x1.below.size; have := HB.out; simp only [World.size_alloc] at q; omega)
  have b3 : BoxC P1 B [.slice A0 n0 c0, .int .i64 D.f0.firm, .slice A1 n1 c1, .int .i64 D.f1.firm] 27 := BoxC.of_ext (((BoxC.new_at _ _ HB.out.symm).alloc _).alloc _) x1
  have b4 : BoxC P1 (B + 1) [.slice Am nm cm, .int .i64 f, .int .i64 g] 36 := BoxC.of_ext ((BoxC.new_at _ _ (by simp only [World.size_alloc]; have := HB.out; omega)).alloc _) x1
  have b5 : BoxC P1 (B + 1 + 1) [.int .i64 r.ao, .int .i64 r.sq, .int .i64 r.kind, .int .i64 r.ship, .int .i64 r.day, .int .i64 r.known, .int .i64 r.wo, .int .i64 r.ws, .int .i64 r.to, .int .i64 r.til, .string r.text] 46 := BoxC.of_ext (BoxC.new_at _ _ (by simp only [World.size_alloc]; have := HB.out; omega)) x1
  have X1 : Hid (Ext w P1) := hid (Ext.trans (by repeat (first | (with_reducible first | exact Ext.refl _ | exact Ext.same _ _ _ _ | assumption | apply Ext.alloc | apply Ext.ext | apply Ext.drew) | (with_reducible refine Ext.setCell ?_ _ _ ?_; rotate_left; focus (first | omega | (simp only [zs1, zs2, zs3, size_ext]; omega))))) x1)
  have D1 := hid hz.read
  have M1 := hid (hx.anc.mono (Nat.zero_le _))
  simp only [HB.out]
  have xa0 := b3.cell (i := 0) rfl
  have xa1 := b3.cell (i := 1) rfl
  have xa2 := b3.cell (i := 2) rfl
  have xa3 := b3.cell (i := 3) rfl
  have xb0 := b4.cell (i := 0) rfl
  have xb1 := b4.cell (i := 1) rfl
  have xb2 := b4.cell (i := 2) rfl
  have xc0 := b5.cell (i := 0) rfl
  have xc1 := b5.cell (i := 1) rfl
  have xc2 := b5.cell (i := 2) rfl
  have xc3 := b5.cell (i := 3) rfl
  have xc4 := b5.cell (i := 4) rfl
  have xc5 := b5.cell (i := 5) rfl
  have xc6 := b5.cell (i := 6) rfl
  have xc7 := b5.cell (i := 7) rfl
  have xc8 := b5.cell (i := 8) rfl
  have xc9 := b5.cell (i := 9) rfl
  have xc10 := b5.cell (i := 10) rfl
  have l3 := b3.lt
  have l4 := b4.lt
  have l5 := b5.lt
  have V3 := hid b3
  have V4 := hid b4
  clear b3 b4 b5 x1 hz hx H1
  go_wp2_with fail
  refine (H2.out _ ((X1.out.alloc _).alloc _)).mono ?_
  rintro e P2 ⟨C0, o0, j0, C1, o1, j1, Ah, nh, ch, rfl, hd2, hn2, hr2, x2⟩
  obtain ⟨B7, hB7⟩ : ∃ B : Nat, P1.heap.size = B := ⟨_, rfl⟩
  have z2 : Hid (B7 + 2 ≤ P2.heap.size) := hid (by have q := x2.below.size; simp only [World.size_alloc] at q; omega)
  have b3 := ((V3.out.alloc (.cells #[.slice B0 m0 k0, .int .i64 AD.f0.firm, .slice B1 m1 k1, .int .i64 AD.f1.firm] 27)).alloc (.cells #[.slice Ag ng cg, .int .i64 AM.file, .int .i64 AM.gen] 36)).of_ext x2
  have b4 := ((V4.out.alloc (.cells #[.slice B0 m0 k0, .int .i64 AD.f0.firm, .slice B1 m1 k1, .int .i64 AD.f1.firm] 27)).alloc (.cells #[.slice Ag ng cg, .int .i64 AM.file, .int .i64 AM.gen] 36)).of_ext x2
  have V7 : Hid (BoxC P2 B7 [.slice B0 m0 k0, .int .i64 AD.f0.firm, .slice B1 m1 k1, .int .i64 AD.f1.firm] 27) := hid (((BoxC.new_at _ _ hB7.symm).alloc (.cells #[.slice Ag ng cg, .int .i64 AM.file, .int .i64 AM.gen] 36)).of_ext x2)
  have V8 : Hid (BoxC P2 (B7 + 1) [.slice Ag ng cg, .int .i64 AM.file, .int .i64 AM.gen] 36) := hid ((BoxC.new_at (P := P1.alloc (.cells #[.slice B0 m0 k0, .int .i64 AD.f0.firm, .slice B1 m1 k1, .int .i64 AD.f1.firm] 27)) _ _ (by simp only [World.size_alloc]; omega)).of_ext x2)
  have X2 := hid (((X1.out.alloc (.cells #[.slice B0 m0 k0, .int .i64 AD.f0.firm, .slice B1 m1 k1, .int .i64 AD.f1.firm] 27)).alloc (.cells #[.slice Ag ng cg, .int .i64 AM.file, .int .i64 AM.gen] 36)).trans x2)
  have D1b := hid (DrvY.of_ext D1.out ((((Ext.refl _).alloc (.cells #[.slice B0 m0 k0, .int .i64 AD.f0.firm, .slice B1 m1 k1, .int .i64 AD.f1.firm] 27)).alloc (.cells #[.slice Ag ng cg, .int .i64 AM.file, .int .i64 AM.gen] 36)).trans x2))
  have M1b := hid (MemA.of_ext M1.out ((((Ext.refl _).alloc (.cells #[.slice B0 m0 k0, .int .i64 AD.f0.firm, .slice B1 m1 k1, .int .i64 AD.f1.firm] 27)).alloc (.cells #[.slice Ag ng cg, .int .i64 AM.file, .int .i64 AM.gen] 36)).trans x2))
  have D2 := hid hd2
  have M2 : Hid (MemA 0 P2 AM Ah nh ch) := hid ⟨hn2.out, hr2, fun _ _ _ => Nat.zero_le _⟩
  simp only [hB7]
  clear xa0 xa1 xa2 xa3 xb0 xb1 xb2 xc0 xc1 xc2 xc3 xc4 xc5 xc6 xc7 xc8 xc9 xc10 l3 l4 l5
  have xa0 := b3.cell (i := 0) rfl
  have xa1 := b3.cell (i := 1) rfl
  have xa2 := b3.cell (i := 2) rfl
  have xa3 := b3.cell (i := 3) rfl
  have xb0 := b4.cell (i := 0) rfl
  have xb1 := b4.cell (i := 1) rfl
  have xb2 := b4.cell (i := 2) rfl
  have l3 := b3.lt
  have l4 := b4.lt
  have V3b := hid b3
  have V4b := hid b4
  clear b3 b4 x2 hd2 hn2 hr2 H2 hB7 V3 V4 X1 D1 M1
  go_wp2_with fail
  refine (H3.out _ ((X2.out.alloc _).alloc _)).mono ?_
  rintro e P3 ⟨G, k, Ai, ni, ci, rfl, hp3, hm3, x3⟩
  obtain ⟨B9, hB9⟩ : ∃ B : Nat, P2.heap.size = B := ⟨_, rfl⟩
  have z3 : Hid (B9 + 2 ≤ P3.heap.size) := hid (by have q := x3.below.size; simp only [World.size_alloc] at q; omega)
  have x23 := (((Ext.refl P2).alloc (.cells #[.slice C0 o0 j0, .int .i64 AD.f0.firm, .slice C1 o1 j1, .int .i64 AD.f1.firm] 27)).alloc (.cells #[.slice Ah nh ch, .int .i64 AM.file, .int .i64 AM.gen] 36)).trans x3
  have b3 := V3b.out.of_ext x23
  have b4 := V4b.out.of_ext x23
  have V7b := hid (V7.out.of_ext x23)
  have V8b := hid (V8.out.of_ext x23)
  have V9 : Hid (BoxC P3 B9 [.slice C0 o0 j0, .int .i64 AD.f0.firm, .slice C1 o1 j1, .int .i64 AD.f1.firm] 27) := hid (((BoxC.new_at _ _ hB9.symm).alloc (.cells #[.slice Ah nh ch, .int .i64 AM.file, .int .i64 AM.gen] 36)).of_ext x3)
  have V10 : Hid (BoxC P3 (B9 + 1) [.slice Ah nh ch, .int .i64 AM.file, .int .i64 AM.gen] 36) := hid ((BoxC.new_at (P := P2.alloc (.cells #[.slice C0 o0 j0, .int .i64 AD.f0.firm, .slice C1 o1 j1, .int .i64 AD.f1.firm] 27)) _ _ (by simp only [World.size_alloc]; omega)).of_ext x3)
  have X3 := hid (X2.out.trans x23)
  have D1c := hid (DrvY.of_ext D1b.out x23)
  have M1c := hid (MemA.of_ext M1b.out x23)
  have D2b := hid (DrvY.of_ext D2.out x23)
  have M2b := hid (MemA.of_ext M2.out x23)
  have K3 := hid hp3
  have M3 := hid hm3
  simp only [hB9]
  clear xa0 xa1 xa2 xa3 xb0 xb1 xb2 l3 l4
  have xa0 := b3.cell (i := 0) rfl
  have xa1 := b3.cell (i := 1) rfl
  have xa2 := b3.cell (i := 2) rfl
  have xa3 := b3.cell (i := 3) rfl
  have xb0 := b4.cell (i := 0) rfl
  have xb1 := b4.cell (i := 1) rfl
  have xb2 := b4.cell (i := 2) rfl
  have l3 := b3.lt
  have l4 := b4.lt
  clear b3 b4 x3 x23 hp3 hm3 H3 hB9 V3b V4b V7 V8 X2 D1b M1b D2 M2
  go_wp2_with fail
  refine (H4.out _ (X3.out.alloc _)).mono ?_
  rintro e P4 ⟨G', k', Aj, nj, cj, rfl, hp4, hm4, x4⟩
  obtain ⟨B11, hB11⟩ : ∃ B : Nat, P3.heap.size = B := ⟨_, rfl⟩
  have x34 := ((Ext.refl P3).alloc (.cells #[.slice Ai ni ci, .int .i64 PM.file, .int .i64 PM.gen] 36)).trans x4
  have V7 := hid (V7b.out.of_ext x34)
  have V8 := hid (V8b.out.of_ext x34)
  have V9b := hid (V9.out.of_ext x34)
  have V10b := hid (V10.out.of_ext x34)
  have V11 : Hid (BoxC P4 B11 [.slice Ai ni ci, .int .i64 PM.file, .int .i64 PM.gen] 36) := hid ((BoxC.new_at _ _ hB11.symm).of_ext x4)
  have X4 := hid (X3.out.trans x34)
  have D1d := hid (DrvY.of_ext D1c.out x34)
  have M1d := hid (MemA.of_ext M1c.out x34)
  have D2c := hid (DrvY.of_ext D2b.out x34)
  have M2c := hid (MemA.of_ext M2b.out x34)
  have K3b := hid (PackV.of_ext K3.out x34)
  have M3b := hid (MemA.of_ext M3.out x34)
  have K4 := hid hp4
  have M4 := hid hm4
  simp only [hB11]
  clear xa0 xa1 xa2 xa3 xb0 xb1 xb2 l3 l4 x4 x34 hp4 hm4 H4 hB11 V7b V8b V9 V10 X3 D1c M1c D2b M2b K3 M3
  have b7 := V7.out
  have b9 := V9b.out
  have y0 := b7.cell (i := 0) rfl
  have y1 := b7.cell (i := 1) rfl
  have y2 := b7.cell (i := 2) rfl
  have y3 := b7.cell (i := 3) rfl
  have u0 := b9.cell (i := 0) rfl
  have u1 := b9.cell (i := 1) rfl
  have u2 := b9.cell (i := 2) rfl
  have u3 := b9.cell (i := 3) rfl
  have l7 := b7.lt
  have l9 := b9.lt
  clear b7 b9
  go_wp2_with fail
  clear y0 y1 y2 y3 u0 u1 u2 u3 l7 l9
  obtain ⟨B12, hB12⟩ : ∃ B : Nat, P4.heap.size = B := ⟨_, rfl⟩
  obtain ⟨P5, hP5⟩ : ∃ P5, P4.alloc (.cells #[.slice Aj nj cj, .int .i64 PM.file, .int .i64 PM.gen] 36) = P5 := ⟨_, rfl⟩
  have x45 : Ext P4 P5 := by rw [← hP5]; exact (Ext.refl _).alloc _
  have b7 := V7.out.of_ext x45
  have b8 := V8.out.of_ext x45
  have b9 := V9b.out.of_ext x45
  have b10 := V10b.out.of_ext x45
  have b11 := V11.out.of_ext x45
  have b12 : BoxC P5 B12 [.slice Aj nj cj, .int .i64 PM.file, .int .i64 PM.gen] 36 := by rw [← hP5]; exact BoxC.new_at _ _ hB12.symm
  have xa0 := b7.cell (i := 0) rfl
  have xa1 := b7.cell (i := 1) rfl
  have xa2 := b7.cell (i := 2) rfl
  have xa3 := b7.cell (i := 3) rfl
  have xb0 := b8.cell (i := 0) rfl
  have xb1 := b8.cell (i := 1) rfl
  have xb2 := b8.cell (i := 2) rfl
  have xc0 := b9.cell (i := 0) rfl
  have xc1 := b9.cell (i := 1) rfl
  have xc2 := b9.cell (i := 2) rfl
  have xc3 := b9.cell (i := 3) rfl
  have xd0 := b10.cell (i := 0) rfl
  have xd1 := b10.cell (i := 1) rfl
  have xd2 := b10.cell (i := 2) rfl
  have xf0 := b11.cell (i := 0) rfl
  have xf1 := b11.cell (i := 1) rfl
  have xf2 := b11.cell (i := 2) rfl
  have xg0 := b12.cell (i := 0) rfl
  have xg1 := b12.cell (i := 1) rfl
  have xg2 := b12.cell (i := 2) rfl
  have l7 := b7.lt
  have l8 := b8.lt
  have l9 := b9.lt
  have l10 := b10.lt
  have l11 := b11.lt
  have l12 := b12.lt
  have X5 := hid (X4.out.trans x45)
  have D1 := hid (DrvY.of_ext D1d.out x45)
  have M1 := hid (MemA.of_ext M1d.out x45)
  have D2 := hid (DrvY.of_ext D2c.out x45)
  have M2 := hid (MemA.of_ext M2c.out x45)
  have K3 := hid (PackV.of_ext K3b.out x45)
  have K4' := hid (PackV.of_ext K4.out x45)
  have M3 := hid (MemA.of_ext M3b.out x45)
  have M4' := hid (MemA.of_ext M4.out x45)
  have HP5 := hid hP5
  have HB12 := hid hB12
  clear b7 b8 b9 b10 b11 b12 V7 V8 V9b V10b V11 X4 D1d M1d D2c M2c K3b K4 M3b M4 hP5 hB12 x45
  simp only [HP5.out, HB12.out]
  refine (SameDrive_eq _ _ _ _ _ _ _ _ _ _ _ _ AD _ D1.out D2.out).mono ?_
  rintro e w1 ⟨rfl, E1, d1, rfl⟩
  go_wp2_with fail
  refine (SameMemory_eq _ _ _ _ _ _ AM HL1.out _ (M1.out.of_ext (by repeat (first | (with_reducible first | exact Ext.refl _ | exact Ext.same _ _ _ _ | assumption | apply Ext.alloc | apply Ext.ext | apply Ext.drew) | (with_reducible refine Ext.setCell ?_ _ _ ?_; rotate_left; focus (first | omega | (simp only [zs1, zs2, zs3, size_ext]; omega)))))) (M2.out.of_ext (by repeat (first | (with_reducible first | exact Ext.refl _ | exact Ext.same _ _ _ _ | assumption | apply Ext.alloc | apply Ext.ext | apply Ext.drew) | (with_reducible refine Ext.setCell ?_ _ _ ?_; rotate_left; focus (first | omega | (simp only [zs1, zs2, zs3, size_ext]; omega))))))).mono ?_
  rintro e w1 ⟨rfl, E2, d2, rfl⟩
  go_wp2_with fail
  refine (SameDrives_any _ (K3.out.of_ext (by repeat (first | (with_reducible first | exact Ext.refl _ | exact Ext.same _ _ _ _ | assumption | apply Ext.alloc | apply Ext.ext | apply Ext.drew) | (with_reducible refine Ext.setCell ?_ _ _ ?_; rotate_left; focus (first | omega | (simp only [zs1, zs2, zs3, size_ext]; omega)))))) (K4'.out.of_ext (by repeat (first | (with_reducible first | exact Ext.refl _ | exact Ext.same _ _ _ _ | assumption | apply Ext.alloc | apply Ext.ext | apply Ext.drew) | (with_reducible refine Ext.setCell ?_ _ _ ?_; rotate_left; focus (first | omega | (simp only [zs1, zs2, zs3, size_ext]; omega))))))).mono ?_
  rintro e w1 ⟨rfl, E3, d3, rfl⟩
  go_wp2_with fail
  refine (SameMemory_eq _ _ _ _ _ _ PM HL2.out _ (M3.out.of_ext (by repeat (first | (with_reducible first | exact Ext.refl _ | exact Ext.same _ _ _ _ | assumption | apply Ext.alloc | apply Ext.ext | apply Ext.drew) | (with_reducible refine Ext.setCell ?_ _ _ ?_; rotate_left; focus (first | omega | (simp only [zs1, zs2, zs3, size_ext]; omega)))))) (M4'.out.of_ext (by repeat (first | (with_reducible first | exact Ext.refl _ | exact Ext.same _ _ _ _ | assumption | apply Ext.alloc | apply Ext.ext | apply Ext.drew) | (with_reducible refine Ext.setCell ?_ _ _ ?_; rotate_left; focus (first | omega | (simp only [zs1, zs2, zs3, size_ext]; omega))))))).mono ?_
  rintro e w1 ⟨rfl, E4, d4, rfl⟩
  go_wp2_with (go_at_call 18; refine (sane_any _).mono ?_; rintro e w1 ⟨rfl, E1, d1, rfl⟩)
  go_ret
  have x5 := X5.out
  exact ⟨ret_val rfl, (by repeat (first | (with_reducible first | exact Ext.refl _ | exact Ext.same _ _ _ _ | assumption | apply Ext.alloc | apply Ext.ext | apply Ext.drew) | (with_reducible refine Ext.setCell ?_ _ _ ?_; rotate_left; focus (first | omega | (simp only [zs1, zs2, zs3, size_ext]; omega))) | (with_reducible refine Ext.trans ?_ (by assumption))))⟩
end Go.Proofs.YtekjdeibnfaehaaGreat
