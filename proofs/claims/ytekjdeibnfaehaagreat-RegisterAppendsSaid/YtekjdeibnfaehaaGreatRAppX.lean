/- The reference's isMemory and Append, any file. -/
import Derived.Test.YtekjdeibnfaehaaGreatRApp
set_option linter.unusedSimpArgs false
set_option linter.unusedVariables false
namespace Go.Proofs.YtekjdeibnfaehaaGreat
open Go Go.RowKit

set_option maxRecDepth 100000 in
set_option maxHeartbeats 16000000 in
theorem rmem_out (A0 : Option Addr) (n0 c0 : Nat) (A1 : Option Addr) (n1 c1 : Nat) (L0 L1 : List UInt8) (f0 f1 : Int) (Am : Option Addr) (nm cm : Nat) (l : List Rec) (file gen : Int) (hin : inB file 0 1 = false) (w : World)
    (hD : DrvY w ⟨⟨L0, f0⟩, ⟨L1, f1⟩⟩ A0 n0 c0 A1 n1 c1) (hr : Recs w Am l) :
    Calls Tryz.prog 75 #[drvV A0 n0 c0 f0 A1 n1 c1 f1, memV Am nm cm file gen] w fun e w' => e = .returned (.bool false) ∧ Ext w w' := by
  obtain ⟨hl0, hl1, hc0, hc1, hbig0, hbig1, hb0, hb1⟩ := hD
  simp only [] at hl0 hl1 hb0 hb1
  cases hk : dOk n0 f0 n1 f1 with
  | false =>
    go_enter Tryz.func75, Tryz.ntmps75
    go_wp2_with (go_at_call 59; refine (risDrive_any _ _ _ _ _ _ _ _ _).mono ?_; rintro e w1 ⟨rfl, E1, d1, rfl⟩)
    go_ret
    exact ⟨ret_val rfl, (by repeat (first | (with_reducible first | exact Ext.refl _ | exact Ext.same _ _ _ _ | assumption | apply Ext.alloc | apply Ext.ext | apply Ext.drew) | (with_reducible refine Ext.setCell ?_ _ _ ?_; rotate_left; focus (first | omega | (simp only [zs1, zs2, zs3, size_ext]; omega)))))⟩
  | true =>
    go_enter Tryz.func75, Tryz.ntmps75
    go_wp2_with (first | (go_at_call 59; refine (risDrive_any _ _ _ _ _ _ _ _ _).mono ?_; rintro e w1 ⟨rfl, E1, d1, rfl⟩) | (go_at_call 92; refine (rin_any _ _ _ _).mono ?_; rintro e w1 ⟨rfl, rfl⟩))
    go_ret
    exact ⟨ret_val rfl, (by repeat (first | (with_reducible first | exact Ext.refl _ | exact Ext.same _ _ _ _ | assumption | apply Ext.alloc | apply Ext.ext | apply Ext.drew) | (with_reducible refine Ext.setCell ?_ _ _ ?_; rotate_left; focus (first | omega | (simp only [zs1, zs2, zs3, size_ext]; omega)))))⟩
theorem memOk_out {D : DriveD} {M : MemD} (h : inB M.file 0 1 = false) : memOk D M = false := by
  simp [memOk, h]
theorem rmem_any (A0 : Option Addr) (n0 c0 : Nat) (A1 : Option Addr) (n1 c1 : Nat) (D : DriveD) (Am : Option Addr) (nm cm : Nat) (M : MemD) (hm : M.recs.length = nm) (hmb : nm ≤ 9223372036854775807) (ht : TxtBig M.recs) (w : World)
    (hD : DrvY w D A0 n0 c0 A1 n1 c1) (hr : Recs w Am M.recs) :
    Calls Tryz.prog 75 #[drvV A0 n0 c0 D.f0.firm A1 n1 c1 D.f1.firm, memV Am nm cm M.file M.gen] w fun e w' => e = .returned (.bool (memOk D M)) ∧ Ext w w' := by
  obtain ⟨⟨L0, f0⟩, ⟨L1, f1⟩⟩ := D
  obtain ⟨l, file, gen⟩ := M
  simp only at hm ht hr ⊢
  by_cases h0 : file = 0
  · subst h0; exact rmem_any0 _ _ _ _ _ _ _ _ _ _ _ _ _ _ _ hm hmb ht w hD hr
  by_cases h1 : file = 1
  · subst h1; exact rmem_any1 _ _ _ _ _ _ _ _ _ _ _ _ _ _ _ hm hmb ht w hD hr
  have hin : inB file 0 1 = false := by
    cases h : inB file 0 1 with
    | false => rfl
    | true => rw [inB_spec] at h; omega
  rw [memOk_out (M := ⟨l, file, gen⟩) hin]
  exact rmem_out _ _ _ _ _ _ _ _ _ _ _ _ _ _ _ _ hin w hD hr
set_option maxRecDepth 100000 in
set_option maxHeartbeats 16000000 in
theorem rapp_bad (A0 : Option Addr) (n0 c0 : Nat) (A1 : Option Addr) (n1 c1 : Nat) (D : DriveD) (Am : Option Addr) (nm cm : Nat) (M : MemD) (r : Rec) (hm : M.recs.length = nm) (hmb : nm ≤ 9223372036854775807) (ht : TxtBig M.recs) (hmo : memOk D M = false) (w : World)
    (hD : DrvY w D A0 n0 c0 A1 n1 c1) (hr : Recs w Am M.recs) :
    Calls Tryz.prog 20 #[drvV A0 n0 c0 D.f0.firm A1 n1 c1 D.f1.firm, memV Am nm cm M.file M.gen, recV r] w fun e w' => e = .returned (.tuple #[drvV none 0 0 0 none 0 0 0, memV none 0 0 0 0, .int .i64 73]) ∧ Ext w w' := by
  have hmem := fun P (hx : Ext w P) => rmem_any A0 n0 c0 A1 n1 c1 D Am nm cm M hm hmb ht P (hD.of_ext hx) (hr.of_ext hx)
  rw [hmo] at hmem
  have Hmem := hid hmem
  clear hmem hD hr
  go_enter Tryz.func20, Tryz.ntmps20
  go_wp2_with fail
  refine (Hmem.out _ (by repeat (first | (with_reducible first | exact Ext.refl _ | exact Ext.same _ _ _ _ | assumption | apply Ext.alloc | apply Ext.ext | apply Ext.drew) | (with_reducible refine Ext.setCell ?_ _ _ ?_; rotate_left; focus (first | omega | (simp only [zs1, zs2, zs3, size_ext]; omega)))))).mono ?_
  rintro e w1 ⟨rfl, E1, d1, rfl⟩
  go_wp2_with fail
  refine bodyPost_ret (v := .tuple #[drvV none 0 0 0 none 0 0 0, memV none 0 0 0 0, .int .i64 73]) (by simp [results, Tryz.results20, go_sem]) rfl ?_
  exact ⟨rfl, (by repeat (first | (with_reducible first | exact Ext.refl _ | exact Ext.same _ _ _ _ | assumption | apply Ext.alloc | apply Ext.ext | apply Ext.drew) | (with_reducible refine Ext.setCell ?_ _ _ ?_; rotate_left; focus (first | omega | (simp only [zs1, zs2, zs3, size_ext]; omega)))))⟩
theorem rAppend_any (A0 : Option Addr) (n0 c0 : Nat) (A1 : Option Addr) (n1 c1 : Nat) (D : DriveD) (Am : Option Addr) (nm cm : Nat) (M : MemD) (r : Rec) (hm : M.recs.length = nm) (hmb : nm ≤ 9223372036854775807) (ht : TxtBig M.recs) (hrt : r.text.size ≤ 9223372036854775807) (w : World)
    (hD : DrvY w D A0 n0 c0 A1 n1 c1) (hr : Recs w Am M.recs) :
    Calls Tryz.prog 20 #[drvV A0 n0 c0 D.f0.firm A1 n1 c1 D.f1.firm, memV Am nm cm M.file M.gen, recV r] w fun e w' => ∃ B0 m0 k0 B1 m1 k1 Ag ng cg, e = .returned (.tuple #[drvV B0 m0 k0 (appD D M r).f0.firm B1 m1 k1 (appD D M r).f1.firm, memV Ag ng cg (appM D M r).file (appM D M r).gen, .int .i64 (appE D M r)]) ∧
      DrvY w' (appD D M r) B0 m0 k0 B1 m1 k1 ∧ Hid ((appM D M r).recs.length = ng) ∧ Recs w' Ag (appM D M r).recs ∧ Ext w w' := by
  cases hmo : memOk D M with
  | false =>
    obtain ⟨h1, h2, h3⟩ := appE_bad (r := r) hmo
    rw [h1, h2, h3]
    refine (rapp_bad A0 n0 c0 A1 n1 c1 D Am nm cm M r hm hmb ht hmo w hD hr).mono ?_
    rintro e w' ⟨rfl, hx⟩
    exact ⟨none, 0, 0, none, 0, 0, none, 0, 0, rfl, (DrvZ.zero 0 w').read, hid rfl, Recs.nil _ _, hx⟩
  | true =>
    have hf := (memOk_facts hmo).2.1
    have hck := (memOk_facts hmo).2.2.2.1
    by_cases hje : jaddE M.recs r = 0
    · have hrk : recOk r = true := by
        cases hq : recOk r with
        | true => rfl
        | false => rw [jaddE, hq] at hje; cases hje
      have hpe : putE M.recs r = 0 := by rw [jaddE, hrk] at hje; exact hje
      obtain ⟨h1, h2, h3⟩ := appE_ok hmo hrk hpe
      rw [h1, h2, h3]
      clear h1 h2 h3 hje
      obtain ⟨⟨L0, f0⟩, ⟨L1, f1⟩⟩ := D
      obtain ⟨l, file, gen⟩ := M
      simp only at hm ht hr hf hpe hck ⊢
      rcases hf with hf | hf
      · subst hf
        refine (rapp_ok0 A0 n0 c0 A1 n1 c1 L0 L1 f0 f1 Am nm cm l gen r hm hmb ht hrt hmo hrk hpe w hD hr).mono ?_
        rintro e w' ⟨B0, m0, k0, B1, m1, k1, Ag, ng, cg, rfl, hd, hn, hq, hx⟩
        refine ⟨B0, m0, k0, B1, m1, k1, Ag, ng, cg, ?_, ?_, hn, hq, hx⟩
        · cases hasR l r.ao r.sq <;> rfl
        · cases hh : hasR l r.ao r.sq <;> rw [hh] at hd <;> exact hd
      · subst hf
        refine (rapp_ok1 A0 n0 c0 A1 n1 c1 L0 L1 f0 f1 Am nm cm l gen r hm hmb ht hrt hmo hrk hpe w hD hr).mono ?_
        rintro e w' ⟨B0, m0, k0, B1, m1, k1, Ag, ng, cg, rfl, hd, hn, hq, hx⟩
        refine ⟨B0, m0, k0, B1, m1, k1, Ag, ng, cg, ?_, ?_, hn, hq, hx⟩
        · cases hasR l r.ao r.sq <;> rfl
        · cases hh : hasR l r.ao r.sq <;> rw [hh] at hd <;> exact hd
    · obtain ⟨h1, h2, h3⟩ := appE_err hmo hje
      have ha := (add_of (r := r) hck).1
      have hae : addE M.recs r = jaddE M.recs r := by rw [ha, jaddE]
      rw [h1, h2, h3]
      rw [← hae] at hje ⊢
      clear h1 h2 h3 ha hae hck
      obtain ⟨⟨L0, f0⟩, ⟨L1, f1⟩⟩ := D
      obtain ⟨l, file, gen⟩ := M
      simp only at hm ht hr hf hje ⊢
      rcases hf with hf | hf
      · subst hf
        refine (rapp_err0 A0 n0 c0 A1 n1 c1 L0 L1 f0 f1 Am nm cm l gen r hm hmb ht hrt hmo hje w hD hr).mono ?_
        rintro e w' ⟨rfl, hx⟩
        exact ⟨none, 0, 0, none, 0, 0, none, 0, 0, rfl, (DrvZ.zero 0 w').read, hid rfl, Recs.nil _ _, hx⟩
      · subst hf
        refine (rapp_err1 A0 n0 c0 A1 n1 c1 L0 L1 f0 f1 Am nm cm l gen r hm hmb ht hrt hmo hje w hD hr).mono ?_
        rintro e w' ⟨rfl, hx⟩
        exact ⟨none, 0, 0, none, 0, 0, none, 0, 0, rfl, (DrvZ.zero 0 w').read, hid rfl, Recs.nil _ _, hx⟩
end Go.Proofs.YtekjdeibnfaehaaGreat
