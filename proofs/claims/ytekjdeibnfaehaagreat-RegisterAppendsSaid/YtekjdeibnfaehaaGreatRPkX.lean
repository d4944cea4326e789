/- The reference's Pack (any file) and SameDrives. -/
import Derived.Test.YtekjdeibnfaehaaGreatRPk
import Derived.Test.YtekjdeibnfaehaaGreatSameM
import Derived.Test.YtekjdeibnfaehaaGreatActs
set_option linter.unusedSimpArgs false
set_option linter.unusedVariables false
namespace Go.Proofs.YtekjdeibnfaehaaGreat
open Go Go.RowKit

set_option maxRecDepth 100000 in
set_option maxHeartbeats 16000000 in
theorem rpack_err (A0 : Option Addr) (n0 c0 : Nat) (A1 : Option Addr) (n1 c1 : Nat) (D : DriveD) (Am : Option Addr) (nm cm : Nat) (M : MemD) (hm : M.recs.length = nm) (hmb : nm ≤ 9223372036854775807) (ht : TxtBig M.recs) (hno : ¬(memOk D M = true ∧ M.gen ≠ 1000000000)) (w : World)
    (hD : DrvY w D A0 n0 c0 A1 n1 c1) (hr : Recs w Am M.recs) :
    Calls Tryz.prog 22 #[drvV A0 n0 c0 D.f0.firm A1 n1 c1 D.f1.firm, memV Am nm cm M.file M.gen] w fun e w' => e = .returned (.tuple #[.slice none 0 0, memV none 0 0 0 0, .int .i64 73]) ∧ Ext w w' := by
  have hmem := fun P (hx : Ext w P) => rmem_any A0 n0 c0 A1 n1 c1 D Am nm cm M hm hmb ht P (hD.of_ext hx) (hr.of_ext hx)
  cases hmo : memOk D M with
  | false =>
    rw [hmo] at hmem
    have Hmem := hid hmem
    clear hmem hD hr hno
    go_enter Tryz.func22, Tryz.ntmps22
    go_wp2_with fail
    refine (Hmem.out _ (by repeat (first | (with_reducible first | exact Ext.refl _ | exact Ext.same _ _ _ _ | assumption | apply Ext.alloc | apply Ext.ext | apply Ext.drew) | (with_reducible refine Ext.setCell ?_ _ _ ?_; rotate_left; focus (first | omega | (simp only [zs1, zs2, zs3, size_ext]; omega)))))).mono ?_
    rintro e w1 ⟨rfl, E1, d1, rfl⟩
    go_wp2_with fail
    refine bodyPost_ret (v := .tuple #[.slice none 0 0, memV none 0 0 0 0, .int .i64 73]) (by simp [results, Tryz.results22, go_sem]) rfl ?_
    exact ⟨rfl, (by repeat (first | (with_reducible first | exact Ext.refl _ | exact Ext.same _ _ _ _ | assumption | apply Ext.alloc | apply Ext.ext | apply Ext.drew) | (with_reducible refine Ext.setCell ?_ _ _ ?_; rotate_left; focus (first | omega | (simp only [zs1, zs2, zs3, size_ext]; omega)))))⟩
  | true =>
    have hg : M.gen = 1000000000 := Classical.byContradiction fun h => hno ⟨hmo, h⟩
    have hgq : (M.gen == 1000000000) = true := by simpa using hg
    rw [hmo] at hmem
    have Hmem := hid hmem
    clear hmem hD hr hno hg
    go_enter Tryz.func22, Tryz.ntmps22
    go_wp2_with fail
    refine (Hmem.out _ (by repeat (first | (with_reducible first | exact Ext.refl _ | exact Ext.same _ _ _ _ | assumption | apply Ext.alloc | apply Ext.ext | apply Ext.drew) | (with_reducible refine Ext.setCell ?_ _ _ ?_; rotate_left; focus (first | omega | (simp only [zs1, zs2, zs3, size_ext]; omega)))))).mono ?_
    rintro e w1 ⟨rfl, E1, d1, rfl⟩
    go_wp2_with fail
    refine bodyPost_ret (v := .tuple #[.slice none 0 0, memV none 0 0 0 0, .int .i64 73]) (by simp [results, Tryz.results22, go_sem]) rfl ?_
    exact ⟨rfl, (by repeat (first | (with_reducible first | exact Ext.refl _ | exact Ext.same _ _ _ _ | assumption | apply Ext.alloc | apply Ext.ext | apply Ext.drew) | (with_reducible refine Ext.setCell ?_ _ _ ?_; rotate_left; focus (first | omega | (simp only [zs1, zs2, zs3, size_ext]; omega)))))⟩
theorem rpack_ok (A0 : Option Addr) (n0 c0 : Nat) (A1 : Option Addr) (n1 c1 : Nat) (D : DriveD) (Am : Option Addr) (nm cm : Nat) (M : MemD) (hm : M.recs.length = nm) (ht : TxtBig M.recs) (hmo : memOk D M = true) (hgn : M.gen ≠ 1000000000) (w : World)
    (hD : DrvY w D A0 n0 c0 A1 n1 c1) (hr : Recs w Am M.recs) :
    Calls Tryz.prog 22 #[drvV A0 n0 c0 D.f0.firm A1 n1 c1 D.f1.firm, memV Am nm cm M.file M.gen] w fun e w' => ∃ g Ag ng cg, e = .returned (.tuple #[.slice (some ⟨g, 0, none⟩) 4 4, memV Ag ng cg (1 - M.file) (M.gen + 1), .int .i64 0]) ∧
      Drvs4 w.heap.size w' g (packL D M) ∧ MemA w.heap.size w' ⟨M.recs, 1 - M.file, M.gen + 1⟩ Ag ng cg ∧ Ext w w' := by
  have hf := (memOk_facts hmo).2.1
  obtain ⟨⟨L0, f0⟩, ⟨L1, f1⟩⟩ := D
  obtain ⟨l, file, gen⟩ := M
  rcases hf with hf | hf
  · simp only at hf
    subst hf
    exact rpack_ok0 A0 n0 c0 A1 n1 c1 L0 L1 f0 f1 Am nm cm l gen hm ht hmo hgn w hD hr
  · simp only at hf
    subst hf
    exact rpack_ok1 A0 n0 c0 A1 n1 c1 L0 L1 f0 f1 Am nm cm l gen hm ht hmo hgn w hD hr
theorem SameDrive_eq (A0 : Option Addr) (n0 c0 : Nat) (A1 : Option Addr) (n1 c1 : Nat) (B0 : Option Addr) (m0 d0 : Nat) (B1 : Option Addr) (m1 d1 : Nat) (D : DriveD) (w : World) (h : DrvY w D A0 n0 c0 A1 n1 c1) (h' : DrvY w D B0 m0 d0 B1 m1 d1) :
    Calls Tryz.prog 10 #[drvV A0 n0 c0 D.f0.firm A1 n1 c1 D.f1.firm, drvV B0 m0 d0 D.f0.firm B1 m1 d1 D.f1.firm] w fun e w' => e = .returned (.bool true) ∧ Ext w w' := by
  have := SameDrive_any A0 A1 B0 B1 n0 c0 n1 c1 m0 d0 m1 d1 D D h.l0 h.l1 h'.l0 h'.l1 w h.b0 h.b1 h'.b0 h'.b1
  rw [driveEqB_self] at this
  exact this
theorem SameMemory_eq (A B : Option Addr) (n c m d : Nat) (M : MemD) (hbig : M.recs.length ≤ 9223372036854775807) (w : World) (h : MemA 0 w M A n c) (h' : MemA 0 w M B m d) :
    Calls Tryz.prog 17 #[memV A n c M.file M.gen, memV B m d M.file M.gen] w fun e w' => e = .returned (.bool true) ∧ Ext w w' := by
  have := SameMemory_any A B n c m d M.file M.gen M.file M.gen M.recs M.recs h.l h'.l (by rw [← h.l]; exact hbig) w h.r.read h'.r.read
  rw [memEqB_iff.2 rfl] at this
  exact this
theorem DrvA.readY {base : Nat} {w : World} {D : DriveD} {A0 : Option Addr} {n0 c0 : Nat} {A1 : Option Addr} {n1 c1 : Nat} (h : DrvA base w D A0 n0 c0 A1 n1 c1) : DrvY w D A0 n0 c0 A1 n1 c1 := ⟨h.l0, h.l1, h.h0, h.h1, h.k0, h.k1, h.b0.read, h.b1.read⟩
set_option maxRecDepth 100000 in
set_option maxHeartbeats 16000000 in
theorem SameDrives_self (g g' base base' : Nat) (l : List DriveD) (w : World) (h : Drvs4 base w g l) (h' : Drvs4 base' w g' l) :
    Calls Tryz.prog 23 #[.slice (some ⟨g, 0, none⟩) 4 4, .slice (some ⟨g', 0, none⟩) 4 4] w fun e w' => e = .returned (.bool true) ∧ Ext w w' := by
  have hg := h.hi
  have hg' := h'.hi
  have H := hid h
  have H' := hid h'
  clear h h'
  go_enter Tryz.func23, Tryz.ntmps23
  go_wp2_with fail
  go_loopw [5] (fun i wr => ∃ k : Nat, k ≤ 4 ∧ i = .int .i64 k ∧ Ext w wr) (fun i _ => 4 - (intOf i).toNat)
  case atStart => exact ⟨0, Nat.zero_le _, rfl, (by repeat (first | (with_reducible first | exact Ext.refl _ | exact Ext.same _ _ _ _ | assumption | apply Ext.alloc | apply Ext.ext | apply Ext.drew) | (with_reducible refine Ext.setCell ?_ _ _ ?_; rotate_left; focus (first | omega | (simp only [zs1, zs2, zs3, size_ext]; omega)))))⟩
  case round =>
    obtain ⟨k, hk, rfl, E9, d9, rfl⟩ := hrel
    by_cases hlt : k < 4
    · have hkl : k < l.length := by rw [H.out.many]; exact hlt
      have a1 := H.out.at_ k l[k] (List.getElem?_eq_getElem hkl)
      have a2 := H'.out.at_ k l[k] (List.getElem?_eq_getElem hkl)
      obtain ⟨D, hD⟩ : ∃ D, l[k] = D := ⟨_, rfl⟩
      rw [hD] at a1 a2
      obtain ⟨A0, n0, c0, A1, n1, c1, q0, q1, q2, q3, hd⟩ := a1
      obtain ⟨B0, m0, d0, B1, m1, d1, p0, p1, p2, p3, he⟩ := a2
      have HD := hid hd.readY
      have HE := hid he.readY
      clear hd he hD H H' hkl
      go_wp2_with fail
      refine wp_region_ord_same (.f 0 (.f 1 (.f 2 (.f 3 (.f 4 (.f 5 (.f 6 (.f 7 (.a 8 (.f 9 .d)))))))))) (by kernel_rfl) (by kernel_rfl) ?_
      repeat ((first | refine wpOrd_pass rfl rfl ?_ | (refine wpOrd_free (v := ?_) rfl rfl (fun _ hS => ?_) ?_; rotate_left; focus (go_simp; try with_reducible rfl))); simp only [Act.put, zp1, zp2, zp3, zp4, zp5, zp6])
      refine wpOrd_call rfl rfl rfl Tryz.call10 (fun R hR => ?_)
      go_simp
      refine (SameDrive_eq _ _ _ _ _ _ _ _ _ _ _ _ D _ (HD.out.of_ext (by repeat (first | (with_reducible first | exact Ext.refl _ | exact Ext.same _ _ _ _ | assumption | apply Ext.alloc | apply Ext.ext | apply Ext.drew) | (with_reducible refine Ext.setCell ?_ _ _ ?_; rotate_left; focus (first | omega | (simp only [zs1, zs2, zs3, size_ext]; omega))) | (with_reducible refine Ext.trans ?_ (by assumption))))) (HE.out.of_ext (by repeat (first | (with_reducible first | exact Ext.refl _ | exact Ext.same _ _ _ _ | assumption | apply Ext.alloc | apply Ext.ext | apply Ext.drew) | (with_reducible refine Ext.setCell ?_ _ _ ?_; rotate_left; focus (first | omega | (simp only [zs1, zs2, zs3, size_ext]; omega))) | (with_reducible refine Ext.trans ?_ (by assumption)))))).mono ?_
      rintro e w1 ⟨rfl, E1, d1, rfl⟩
      refine hR _ _ ⟨_, rfl, ?_, ?_⟩
      · (first | exact fun b o hb => Ext.cellOf (by repeat (first | (with_reducible first | exact Ext.refl _ | exact Ext.same _ _ _ _ | assumption | apply Ext.alloc | apply Ext.ext | apply Ext.drew) | (with_reducible refine Ext.setCell ?_ _ _ ?_; rotate_left; focus (first | omega | (simp only [zs1, zs2, zs3, size_ext]; omega))))) hb | (intro b o hb; (try simp only [size_ext, zs1, zs2, zs3] at hb); go_simp; try rfl))
      clear hR R
      simp only [Act.put, zp1, zp2, zp3, zp4, zp5, zp6]
      repeat ((first | refine wpOrd_pass rfl rfl ?_ | (refine wpOrd_free (v := ?_) rfl rfl (fun _ hS => ?_) ?_; rotate_left; focus (go_simp; try with_reducible rfl))); simp only [Act.put, zp1, zp2, zp3, zp4, zp5, zp6])
      refine wpOrd_nil ?_
      all_goals
        go_wp2_with fail
      all_goals exact ⟨⟨k + 1, by omega, by go_num, (by repeat (first | (with_reducible first | exact Ext.refl _ | exact Ext.same _ _ _ _ | assumption | apply Ext.alloc | apply Ext.ext | apply Ext.drew) | (with_reducible refine Ext.setCell ?_ _ _ ?_; rotate_left; focus (first | omega | (simp only [zs1, zs2, zs3, size_ext]; omega))) | (with_reducible refine Ext.trans ?_ (by assumption))))⟩, by simp [intOf]; omega⟩
    · obtain rfl : k = 4 := by omega
      go_wp2_with fail
      go_ret
      exact ⟨ret_val rfl, (by repeat (first | (with_reducible first | exact Ext.refl _ | exact Ext.same _ _ _ _ | assumption | apply Ext.alloc | apply Ext.ext | apply Ext.drew) | (with_reducible refine Ext.setCell ?_ _ _ ?_; rotate_left; focus (first | omega | (simp only [zs1, zs2, zs3, size_ext]; omega)))))⟩
set_option maxRecDepth 100000 in
set_option maxHeartbeats 16000000 in
theorem SameDrives_nil (w : World) : Calls Tryz.prog 23 #[.slice none 0 0, .slice none 0 0] w fun e w' => e = .returned (.bool true) ∧ Ext w w' := by
  go_enter Tryz.func23, Tryz.ntmps23
  go_wp2_with fail
  refine wp_loop_rounds 1 ?_
  rw [rounds_succ]
  go_wp2_with fail
  go_ret
  exact ⟨ret_val rfl, (by repeat (first | (with_reducible first | exact Ext.refl _ | exact Ext.same _ _ _ _ | assumption | apply Ext.alloc | apply Ext.ext | apply Ext.drew) | (with_reducible refine Ext.setCell ?_ _ _ ?_; rotate_left; focus (first | omega | (simp only [zs1, zs2, zs3, size_ext]; omega)))))⟩
end Go.Proofs.YtekjdeibnfaehaaGreat
