/- RegisterDrives: the walk. -/
import Derived.Test.YtekjdeibnfaehaaGreatROpen
import Derived.Test.YtekjdeibnfaehaaGreatOpened
import Derived.Test.YtekjdeibnfaehaaGreatArgI
set_option linter.unusedSimpArgs false
set_option linter.unusedVariables false
namespace Go.Proofs.YtekjdeibnfaehaaGreat
open Go Go.RowKit

@[go_sem] theorem lt_add_10 (a b0 b1 b2 b3 b4 b5 b6 b7 b8 b9 : Nat) (hh : a < b0) : a < b0 + b1 + b2 + b3 + b4 + b5 + b6 + b7 + b8 + b9 := by omega
@[go_sem] theorem lt_add_11 (a b0 b1 b2 b3 b4 b5 b6 b7 b8 b9 b10 : Nat) (hh : a < b0) : a < b0 + b1 + b2 + b3 + b4 + b5 + b6 + b7 + b8 + b9 + b10 := by omega
@[go_sem] theorem lt_add_12 (a b0 b1 b2 b3 b4 b5 b6 b7 b8 b9 b10 b11 : Nat) (hh : a < b0) : a < b0 + b1 + b2 + b3 + b4 + b5 + b6 + b7 + b8 + b9 + b10 + b11 := by omega
@[go_sem] theorem lt_add_13 (a b0 b1 b2 b3 b4 b5 b6 b7 b8 b9 b10 b11 b12 : Nat) (hh : a < b0) : a < b0 + b1 + b2 + b3 + b4 + b5 + b6 + b7 + b8 + b9 + b10 + b11 + b12 := by omega
@[go_sem] theorem lt_add_14 (a b0 b1 b2 b3 b4 b5 b6 b7 b8 b9 b10 b11 b12 b13 : Nat) (hh : a < b0) : a < b0 + b1 + b2 + b3 + b4 + b5 + b6 + b7 + b8 + b9 + b10 + b11 + b12 + b13 := by omega
@[go_sem] theorem lt_add_15 (a b0 b1 b2 b3 b4 b5 b6 b7 b8 b9 b10 b11 b12 b13 b14 : Nat) (hh : a < b0) : a < b0 + b1 + b2 + b3 + b4 + b5 + b6 + b7 + b8 + b9 + b10 + b11 + b12 + b13 + b14 := by omega
@[go_sem] theorem lt_add_16 (a b0 b1 b2 b3 b4 b5 b6 b7 b8 b9 b10 b11 b12 b13 b14 b15 : Nat) (hh : a < b0) : a < b0 + b1 + b2 + b3 + b4 + b5 + b6 + b7 + b8 + b9 + b10 + b11 + b12 + b13 + b14 + b15 := by omega
@[go_sem] theorem lt_add_17 (a b0 b1 b2 b3 b4 b5 b6 b7 b8 b9 b10 b11 b12 b13 b14 b15 b16 : Nat) (hh : a < b0) : a < b0 + b1 + b2 + b3 + b4 + b5 + b6 + b7 + b8 + b9 + b10 + b11 + b12 + b13 + b14 + b15 + b16 := by omega
@[go_sem] theorem lt_add_18 (a b0 b1 b2 b3 b4 b5 b6 b7 b8 b9 b10 b11 b12 b13 b14 b15 b16 b17 : Nat) (hh : a < b0) : a < b0 + b1 + b2 + b3 + b4 + b5 + b6 + b7 + b8 + b9 + b10 + b11 + b12 + b13 + b14 + b15 + b16 + b17 := by omega
@[go_sem] theorem lt_add_19 (a b0 b1 b2 b3 b4 b5 b6 b7 b8 b9 b10 b11 b12 b13 b14 b15 b16 b17 b18 : Nat) (hh : a < b0) : a < b0 + b1 + b2 + b3 + b4 + b5 + b6 + b7 + b8 + b9 + b10 + b11 + b12 + b13 + b14 + b15 + b16 + b17 + b18 := by omega
@[go_sem] theorem lt_add_20 (a b0 b1 b2 b3 b4 b5 b6 b7 b8 b9 b10 b11 b12 b13 b14 b15 b16 b17 b18 b19 : Nat) (hh : a < b0) : a < b0 + b1 + b2 + b3 + b4 + b5 + b6 + b7 + b8 + b9 + b10 + b11 + b12 + b13 + b14 + b15 + b16 + b17 + b18 + b19 := by omega
@[go_sem] theorem lt_add_21 (a b0 b1 b2 b3 b4 b5 b6 b7 b8 b9 b10 b11 b12 b13 b14 b15 b16 b17 b18 b19 b20 : Nat) (hh : a < b0) : a < b0 + b1 + b2 + b3 + b4 + b5 + b6 + b7 + b8 + b9 + b10 + b11 + b12 + b13 + b14 + b15 + b16 + b17 + b18 + b19 + b20 := by omega
@[go_sem] theorem lt_add_22 (a b0 b1 b2 b3 b4 b5 b6 b7 b8 b9 b10 b11 b12 b13 b14 b15 b16 b17 b18 b19 b20 b21 : Nat) (hh : a < b0) : a < b0 + b1 + b2 + b3 + b4 + b5 + b6 + b7 + b8 + b9 + b10 + b11 + b12 + b13 + b14 + b15 + b16 + b17 + b18 + b19 + b20 + b21 := by omega
@[go_sem] theorem lt_add_23 (a b0 b1 b2 b3 b4 b5 b6 b7 b8 b9 b10 b11 b12 b13 b14 b15 b16 b17 b18 b19 b20 b21 b22 : Nat) (hh : a < b0) : a < b0 + b1 + b2 + b3 + b4 + b5 + b6 + b7 + b8 + b9 + b10 + b11 + b12 + b13 + b14 + b15 + b16 + b17 + b18 + b19 + b20 + b21 + b22 := by omega
theorem Sync_y (A0 : Option Addr) (n0 c0 : Nat) (A1 : Option Addr) (n1 c1 : Nat) (D : DriveD) (w : World) (h : DrvY w D A0 n0 c0 A1 n1 c1) (hs0 : n0 ≤ 140737488355328) (hs1 : n1 ≤ 140737488355328) :
    Calls Tryz.prog 11 #[drvV A0 n0 c0 D.f0.firm A1 n1 c1 D.f1.firm] w fun e w' => ∃ B0 m0 d0 B1 m1 d1, e = .returned (drvV B0 m0 d0 (syncD D).f0.firm B1 m1 d1 (syncD D).f1.firm) ∧ DrvY w' (syncD D) B0 m0 d0 B1 m1 d1 ∧ Ext w w' := by
  refine (Sync_own A0 n0 c0 A1 n1 c1 D h.l0 h.l1 hs0 hs1 w h.b0 h.b1).mono ?_
  rintro e w' ⟨v, rfl, hv, hx⟩
  obtain ⟨B0, m0, d0, B1, m1, d1, rfl, hy, -, -⟩ := hv.read
  exact ⟨B0, m0, d0, B1, m1, d1, rfl, hy, hx⟩
theorem rSync_y (A0 : Option Addr) (n0 c0 : Nat) (A1 : Option Addr) (n1 c1 : Nat) (D : DriveD) (w : World) (h : DrvY w D A0 n0 c0 A1 n1 c1) (hs0 : n0 ≤ 140737488355328) (hs1 : n1 ≤ 140737488355328) :
    Calls Tryz.prog 12 #[drvV A0 n0 c0 D.f0.firm A1 n1 c1 D.f1.firm] w fun e w' => ∃ B0 m0 d0 B1 m1 d1, e = .returned (drvV B0 m0 d0 (syncD D).f0.firm B1 m1 d1 (syncD D).f1.firm) ∧ DrvY w' (syncD D) B0 m0 d0 B1 m1 d1 ∧ Ext w w' := by
  refine (rSync_any A0 n0 c0 A1 n1 c1 D hs0 hs1 w h).mono ?_
  rintro e w' ⟨B0, m0, d0, B1, m1, d1, rfl, hv, hx⟩
  exact ⟨B0, m0, d0, B1, m1, d1, rfl, hv.read, hx⟩
theorem rCrash_y (A0 : Option Addr) (n0 c0 : Nat) (A1 : Option Addr) (n1 c1 : Nat) (D : DriveD) (k0 k1 : Int) (w : World) (h : DrvY w D A0 n0 c0 A1 n1 c1) (hs0 : n0 ≤ 140737488355328) (hs1 : n1 ≤ 140737488355328) :
    Calls Tryz.prog 14 #[drvV A0 n0 c0 D.f0.firm A1 n1 c1 D.f1.firm, .agg #[.int .i64 k0, .int .i64 k1]] w fun e w' => ∃ B0 m0 d0 B1 m1 d1, e = .returned (drvV B0 m0 d0 (crashD D k0 k1).f0.firm B1 m1 d1 (crashD D k0 k1).f1.firm) ∧ DrvY w' (crashD D k0 k1) B0 m0 d0 B1 m1 d1 ∧ Ext w w' := by
  refine (rCrash_any A0 n0 c0 A1 n1 c1 D k0 k1 hs0 hs1 w h).mono ?_
  rintro e w' ⟨B0, m0, d0, B1, m1, d1, rfl, hv, hx⟩
  exact ⟨B0, m0, d0, B1, m1, d1, rfl, hv.read, hx⟩
theorem Open_m (A0 : Option Addr) (n0 c0 : Nat) (A1 : Option Addr) (n1 c1 : Nat) (D : DriveD) (w : World) (h : DrvY w D A0 n0 c0 A1 n1 c1) :
    Calls Tryz.prog 15 #[drvV A0 n0 c0 D.f0.firm A1 n1 c1 D.f1.firm] w fun e w' => ∃ B0 m0 d0 B1 m1 d1 Am nm cm, e = .returned (.tuple #[drvV B0 m0 d0 (openD D).f0.firm B1 m1 d1 (openD D).f1.firm, memV Am nm cm (openM D).file (openM D).gen, .int .i64 (openE D)]) ∧
      DrvY w' (openD D) B0 m0 d0 B1 m1 d1 ∧ MemA 0 w' (openM D) Am nm cm ∧ Ext w w' := by
  refine (Open_y A0 n0 c0 A1 n1 c1 D w h).mono ?_
  rintro e w' ⟨B0, m0, d0, B1, m1, d1, Am, nm, cm, rfl, hd, hm, hx⟩
  exact ⟨B0, m0, d0, B1, m1, d1, Am, nm, cm, rfl, hd, hm.anc.mono (Nat.zero_le _), hx⟩
theorem rOpen_m (A0 : Option Addr) (n0 c0 : Nat) (A1 : Option Addr) (n1 c1 : Nat) (D : DriveD) (w : World) (h : DrvY w D A0 n0 c0 A1 n1 c1) :
    Calls Tryz.prog 16 #[drvV A0 n0 c0 D.f0.firm A1 n1 c1 D.f1.firm] w fun e w' => ∃ B0 m0 d0 B1 m1 d1 Am nm cm, e = .returned (.tuple #[drvV B0 m0 d0 (openD D).f0.firm B1 m1 d1 (openD D).f1.firm, memV Am nm cm (openM D).file (openM D).gen, .int .i64 (openE D)]) ∧
      DrvY w' (openD D) B0 m0 d0 B1 m1 d1 ∧ MemA 0 w' (openM D) Am nm cm ∧ Ext w w' := by
  refine (rOpen_any A0 n0 c0 A1 n1 c1 D w h).mono ?_
  rintro e w' ⟨B0, m0, d0, B1, m1, d1, Am, nm, cm, rfl, hd, hm, hx⟩
  exact ⟨B0, m0, d0, B1, m1, d1, Am, nm, cm, rfl, hd.read, hm.anc.mono (Nat.zero_le _), hx⟩
theorem SameDrive_self (A0 : Option Addr) (n0 c0 : Nat) (A1 : Option Addr) (n1 c1 : Nat) (B0 : Option Addr) (m0 d0 : Nat) (B1 : Option Addr) (m1 d1 : Nat) (D : DriveD) (w : World) (h : DrvY w D A0 n0 c0 A1 n1 c1) (h' : DrvY w D B0 m0 d0 B1 m1 d1) :
    Calls Tryz.prog 10 #[drvV A0 n0 c0 D.f0.firm A1 n1 c1 D.f1.firm, drvV B0 m0 d0 D.f0.firm B1 m1 d1 D.f1.firm] w fun e w' => e = .returned (.bool true) ∧ Ext w w' := by
  have := SameDrive_any A0 A1 B0 B1 n0 c0 n1 c1 m0 d0 m1 d1 D D h.l0 h.l1 h'.l0 h'.l1 w h.b0 h.b1 h'.b0 h'.b1
  rw [driveEqB_self] at this
  exact this
theorem SameMemory_self (A B : Option Addr) (n c m d : Nat) (M : MemD) (hbig : M.recs.length ≤ 9223372036854775807) (w : World) (h : MemA 0 w M A n c) (h' : MemA 0 w M B m d) :
    Calls Tryz.prog 17 #[memV A n c M.file M.gen, memV B m d M.file M.gen] w fun e w' => e = .returned (.bool true) ∧ Ext w w' := by
  have := SameMemory_any A B n c m d M.file M.gen M.file M.gen M.recs M.recs h.l h'.l (by rw [← h.l]; exact hbig) w h.r.read h'.r.read
  rw [memEqB_iff.2 rfl] at this
  exact this
set_option maxRecDepth 100000 in
set_option maxHeartbeats 16000000 in
theorem drives_walk (A0 : Option Addr) (n0 c0 : Nat) (A1 : Option Addr) (n1 c1 : Nat) (D : DriveD) (k0 k1 : Int) (hs0 : n0 ≤ 140737488355328) (hs1 : n1 ≤ 140737488355328) (h0 : I64 k0) (h1 : I64 k1) (w : World) (hD : DrvY w D A0 n0 c0 A1 n1 c1) :
    Calls Tryz.prog 3 #[drvV A0 n0 c0 D.f0.firm A1 n1 c1 D.f1.firm, .agg #[.int .i64 k0, .int .i64 k1]] w fun e w' => e = .returned (.bool true) ∧ Ext w w' := by
  obtain ⟨hk0, hk0'⟩ := h0
  obtain ⟨hk1, hk1'⟩ := h1
  have hfew := openM_few D
  have Hag := hid (fun h => open_again (D := D) h k0 k1)
  go_enter Tryz.func3, Tryz.ntmps3
  go_wp2_with fail
  refine wp_region_ord_same (.f 0 (.f 2 (.a 1 (.a 3 (.a 4 (.f 5 (.f 6 (.f 7 (.f 8 (.f 10 (.f 11 (.a 9 (.a 12 (.a 13 (.f 14 (.f 15 .d)))))))))))))))) (by kernel_rfl) (by kernel_rfl) ?_
  repeat (first | (refine wpOrd_pass rfl rfl ?_; simp only [Act.put, List.getElem_toArray, List.getElem_cons_succ, List.getElem_cons_zero, List.setIfInBounds_toArray, List.set_cons_zero, List.set_cons_succ]) | (refine wpOrd_free (v := ?_) rfl rfl (fun _ hS => ?_) ?_; rotate_left; (focus (go_simp; try with_reducible rfl)); simp only [Act.put, List.getElem_toArray, List.getElem_cons_succ, List.getElem_cons_zero, List.setIfInBounds_toArray, List.set_cons_zero, List.set_cons_succ]))
  refine wpOrd_call rfl rfl rfl Tryz.call11 (fun R hR => ?_)
  go_simp
  refine (Sync_y _ _ _ _ _ _ D _ (by refine DrvY.of_ext (by assumption) ?_; exact (by repeat (first | with_reducible exact Ext.refl _ | with_reducible exact Ext.same _ _ _ _ | with_reducible assumption | with_reducible apply Ext.alloc | with_reducible apply Ext.ext | with_reducible apply Ext.drew | (with_reducible refine Ext.setCell ?_ _ _ ?_; rotate_left; (focus (first | omega | (simp only [World.size_alloc, World.size_drew, size_ext, World.size_setCell]; omega)))) | (with_reducible refine Ext.trans ?_ (by assumption))))) hs0 hs1).mono ?_
  rintro e w1 ⟨B01, m01, d01, B11, m11, d11, rfl, hy1, E1, dd1, rfl⟩
  refine hR _ _ ⟨_, rfl, ?_, ?_⟩
  · (first | exact fun b o hb => Ext.cellOf (by repeat (first | with_reducible exact Ext.refl _ | with_reducible exact Ext.same _ _ _ _ | with_reducible assumption | with_reducible apply Ext.alloc | with_reducible apply Ext.ext | with_reducible apply Ext.drew | (with_reducible refine Ext.setCell ?_ _ _ ?_; rotate_left; (focus (first | omega | (simp only [World.size_alloc, World.size_drew, size_ext, World.size_setCell]; omega)))))) hb | (intro b o hb; (try simp only [size_ext, World.size_alloc, World.size_drew, World.size_setCell] at hb); go_simp; try rfl))
  clear hR R
  simp only [Act.put, List.getElem_toArray, List.getElem_cons_succ, List.getElem_cons_zero, List.setIfInBounds_toArray, List.set_cons_zero, List.set_cons_succ]
  refine wpOrd_call rfl rfl rfl Tryz.call12 (fun R hR => ?_)
  go_simp
  refine (rSync_y _ _ _ _ _ _ D _ (by refine DrvY.of_ext (by assumption) ?_; exact (by repeat (first | with_reducible exact Ext.refl _ | with_reducible exact Ext.same _ _ _ _ | with_reducible assumption | with_reducible apply Ext.alloc | with_reducible apply Ext.ext | with_reducible apply Ext.drew | (with_reducible refine Ext.setCell ?_ _ _ ?_; rotate_left; (focus (first | omega | (simp only [World.size_alloc, World.size_drew, size_ext, World.size_setCell]; omega)))) | (with_reducible refine Ext.trans ?_ (by assumption))))) hs0 hs1).mono ?_
  rintro e w1 ⟨B02, m02, d02, B12, m12, d12, rfl, hy2, E2, dd2, rfl⟩
  refine hR _ _ ⟨_, rfl, ?_, ?_⟩
  · (first | exact fun b o hb => Ext.cellOf (by repeat (first | with_reducible exact Ext.refl _ | with_reducible exact Ext.same _ _ _ _ | with_reducible assumption | with_reducible apply Ext.alloc | with_reducible apply Ext.ext | with_reducible apply Ext.drew | (with_reducible refine Ext.setCell ?_ _ _ ?_; rotate_left; (focus (first | omega | (simp only [World.size_alloc, World.size_drew, size_ext, World.size_setCell]; omega)))))) hb | (intro b o hb; (try simp only [size_ext, World.size_alloc, World.size_drew, World.size_setCell] at hb); go_simp; try rfl))
  clear hR R
  simp only [Act.put, List.getElem_toArray, List.getElem_cons_succ, List.getElem_cons_zero, List.setIfInBounds_toArray, List.set_cons_zero, List.set_cons_succ]
  refine wpOrd_call rfl rfl rfl Tryz.call10 (fun R hR => ?_)
  go_simp
  refine (SameDrive_self _ _ _ _ _ _ _ _ _ _ _ _ _ _ (by refine DrvY.of_ext (by assumption) ?_; exact (by repeat (first | with_reducible exact Ext.refl _ | with_reducible exact Ext.same _ _ _ _ | with_reducible assumption | with_reducible apply Ext.alloc | with_reducible apply Ext.ext | with_reducible apply Ext.drew | (with_reducible refine Ext.setCell ?_ _ _ ?_; rotate_left; (focus (first | omega | (simp only [World.size_alloc, World.size_drew, size_ext, World.size_setCell]; omega)))) | (with_reducible refine Ext.trans ?_ (by assumption))))) (by refine DrvY.of_ext (by assumption) ?_; exact (by repeat (first | with_reducible exact Ext.refl _ | with_reducible exact Ext.same _ _ _ _ | with_reducible assumption | with_reducible apply Ext.alloc | with_reducible apply Ext.ext | with_reducible apply Ext.drew | (with_reducible refine Ext.setCell ?_ _ _ ?_; rotate_left; (focus (first | omega | (simp only [World.size_alloc, World.size_drew, size_ext, World.size_setCell]; omega)))) | (with_reducible refine Ext.trans ?_ (by assumption)))))).mono ?_
  rintro e w1 ⟨rfl, E3, dd3, rfl⟩
  refine hR _ _ ⟨_, rfl, ?_, ?_⟩
  · (first | exact fun b o hb => Ext.cellOf (by repeat (first | with_reducible exact Ext.refl _ | with_reducible exact Ext.same _ _ _ _ | with_reducible assumption | with_reducible apply Ext.alloc | with_reducible apply Ext.ext | with_reducible apply Ext.drew | (with_reducible refine Ext.setCell ?_ _ _ ?_; rotate_left; (focus (first | omega | (simp only [World.size_alloc, World.size_drew, size_ext, World.size_setCell]; omega)))))) hb | (intro b o hb; (try simp only [size_ext, World.size_alloc, World.size_drew, World.size_setCell] at hb); go_simp; try rfl))
  clear hR R
  simp only [Act.put, List.getElem_toArray, List.getElem_cons_succ, List.getElem_cons_zero, List.setIfInBounds_toArray, List.set_cons_zero, List.set_cons_succ]
  repeat (first | (refine wpOrd_pass rfl rfl ?_; simp only [Act.put, List.getElem_toArray, List.getElem_cons_succ, List.getElem_cons_zero, List.setIfInBounds_toArray, List.set_cons_zero, List.set_cons_succ]) | (refine wpOrd_free (v := ?_) rfl rfl (fun _ hS => ?_) ?_; rotate_left; (focus (go_simp; try with_reducible rfl)); simp only [Act.put, List.getElem_toArray, List.getElem_cons_succ, List.getElem_cons_zero, List.setIfInBounds_toArray, List.set_cons_zero, List.set_cons_succ]))
  refine ord_bool (j := 6) rfl (fun hb6 => ?_) (fun hb6 => ?_)
  rotate_left
  focus
    try (exfalso; first | (simp at hb6; done) | (simp at hb6; omega))
    all_goals
      (try simp only [hb6])
      repeat (first | (refine wpOrd_pass rfl rfl ?_; simp only [Act.put, List.getElem_toArray, List.getElem_cons_succ, List.getElem_cons_zero, List.setIfInBounds_toArray, List.set_cons_zero, List.set_cons_succ]) | (refine wpOrd_free (v := ?_) rfl rfl (fun _ hS => ?_) ?_; rotate_left; (focus (go_simp; try with_reducible rfl)); simp only [Act.put, List.getElem_toArray, List.getElem_cons_succ, List.getElem_cons_zero, List.setIfInBounds_toArray, List.set_cons_zero, List.set_cons_succ]))
      refine wpOrd_call rfl rfl rfl Tryz.call13 (fun R hR => ?_)
      go_simp
      refine (Crash_y _ _ _ _ _ _ D _ _ _ (by refine DrvY.of_ext (by assumption) ?_; exact (by repeat (first | with_reducible exact Ext.refl _ | with_reducible exact Ext.same _ _ _ _ | with_reducible assumption | with_reducible apply Ext.alloc | with_reducible apply Ext.ext | with_reducible apply Ext.drew | (with_reducible refine Ext.setCell ?_ _ _ ?_; rotate_left; (focus (first | omega | (simp only [World.size_alloc, World.size_drew, size_ext, World.size_setCell]; omega)))) | (with_reducible refine Ext.trans ?_ (by assumption))))) hs0 hs1 hk0 hk0' hk1 hk1').mono ?_
      rintro e w1 ⟨B04, m04, d04, B14, m14, d14, rfl, hy4, E4, dd4, rfl⟩
      refine hR _ _ ⟨_, rfl, ?_, ?_⟩
      · (first | exact fun b o hb => Ext.cellOf (by repeat (first | with_reducible exact Ext.refl _ | with_reducible exact Ext.same _ _ _ _ | with_reducible assumption | with_reducible apply Ext.alloc | with_reducible apply Ext.ext | with_reducible apply Ext.drew | (with_reducible refine Ext.setCell ?_ _ _ ?_; rotate_left; (focus (first | omega | (simp only [World.size_alloc, World.size_drew, size_ext, World.size_setCell]; omega)))))) hb | (intro b o hb; (try simp only [size_ext, World.size_alloc, World.size_drew, World.size_setCell] at hb); go_simp; try rfl))
      clear hR R
      simp only [Act.put, List.getElem_toArray, List.getElem_cons_succ, List.getElem_cons_zero, List.setIfInBounds_toArray, List.set_cons_zero, List.set_cons_succ]
      refine wpOrd_call rfl rfl rfl Tryz.call14 (fun R hR => ?_)
      go_simp
      refine (rCrash_y _ _ _ _ _ _ D _ _ _ (by refine DrvY.of_ext (by assumption) ?_; exact (by repeat (first | with_reducible exact Ext.refl _ | with_reducible exact Ext.same _ _ _ _ | with_reducible assumption | with_reducible apply Ext.alloc | with_reducible apply Ext.ext | with_reducible apply Ext.drew | (with_reducible refine Ext.setCell ?_ _ _ ?_; rotate_left; (focus (first | omega | (simp only [World.size_alloc, World.size_drew, size_ext, World.size_setCell]; omega)))) | (with_reducible refine Ext.trans ?_ (by assumption))))) hs0 hs1).mono ?_
      rintro e w1 ⟨B05, m05, d05, B15, m15, d15, rfl, hy5, E5, dd5, rfl⟩
      refine hR _ _ ⟨_, rfl, ?_, ?_⟩
      · (first | exact fun b o hb => Ext.cellOf (by repeat (first | with_reducible exact Ext.refl _ | with_reducible exact Ext.same _ _ _ _ | with_reducible assumption | with_reducible apply Ext.alloc | with_reducible apply Ext.ext | with_reducible apply Ext.drew | (with_reducible refine Ext.setCell ?_ _ _ ?_; rotate_left; (focus (first | omega | (simp only [World.size_alloc, World.size_drew, size_ext, World.size_setCell]; omega)))))) hb | (intro b o hb; (try simp only [size_ext, World.size_alloc, World.size_drew, World.size_setCell] at hb); go_simp; try rfl))
      clear hR R
      simp only [Act.put, List.getElem_toArray, List.getElem_cons_succ, List.getElem_cons_zero, List.setIfInBounds_toArray, List.set_cons_zero, List.set_cons_succ]
      refine wpOrd_call rfl rfl rfl Tryz.call10 (fun R hR => ?_)
      go_simp
      refine (SameDrive_self _ _ _ _ _ _ _ _ _ _ _ _ _ _ (by refine DrvY.of_ext (by assumption) ?_; exact (by repeat (first | with_reducible exact Ext.refl _ | with_reducible exact Ext.same _ _ _ _ | with_reducible assumption | with_reducible apply Ext.alloc | with_reducible apply Ext.ext | with_reducible apply Ext.drew | (with_reducible refine Ext.setCell ?_ _ _ ?_; rotate_left; (focus (first | omega | (simp only [World.size_alloc, World.size_drew, size_ext, World.size_setCell]; omega)))) | (with_reducible refine Ext.trans ?_ (by assumption))))) (by refine DrvY.of_ext (by assumption) ?_; exact (by repeat (first | with_reducible exact Ext.refl _ | with_reducible exact Ext.same _ _ _ _ | with_reducible assumption | with_reducible apply Ext.alloc | with_reducible apply Ext.ext | with_reducible apply Ext.drew | (with_reducible refine Ext.setCell ?_ _ _ ?_; rotate_left; (focus (first | omega | (simp only [World.size_alloc, World.size_drew, size_ext, World.size_setCell]; omega)))) | (with_reducible refine Ext.trans ?_ (by assumption)))))).mono ?_
      rintro e w1 ⟨rfl, E6, dd6, rfl⟩
      refine hR _ _ ⟨_, rfl, ?_, ?_⟩
      · (first | exact fun b o hb => Ext.cellOf (by repeat (first | with_reducible exact Ext.refl _ | with_reducible exact Ext.same _ _ _ _ | with_reducible assumption | with_reducible apply Ext.alloc | with_reducible apply Ext.ext | with_reducible apply Ext.drew | (with_reducible refine Ext.setCell ?_ _ _ ?_; rotate_left; (focus (first | omega | (simp only [World.size_alloc, World.size_drew, size_ext, World.size_setCell]; omega)))))) hb | (intro b o hb; (try simp only [size_ext, World.size_alloc, World.size_drew, World.size_setCell] at hb); go_simp; try rfl))
      clear hR R
      simp only [Act.put, List.getElem_toArray, List.getElem_cons_succ, List.getElem_cons_zero, List.setIfInBounds_toArray, List.set_cons_zero, List.set_cons_succ]
      repeat (first | (refine wpOrd_pass rfl rfl ?_; simp only [Act.put, List.getElem_toArray, List.getElem_cons_succ, List.getElem_cons_zero, List.setIfInBounds_toArray, List.set_cons_zero, List.set_cons_succ]) | (refine wpOrd_free (v := ?_) rfl rfl (fun _ hS => ?_) ?_; rotate_left; (focus (go_simp; try with_reducible rfl)); simp only [Act.put, List.getElem_toArray, List.getElem_cons_succ, List.getElem_cons_zero, List.setIfInBounds_toArray, List.set_cons_zero, List.set_cons_succ]))
      refine wpOrd_nil ?_
  rotate_right
  focus
    try (exfalso; first | (simp at hb6; done) | (simp at hb6; omega))
    all_goals
      (try simp only [hb6])
      repeat (first | (refine wpOrd_pass rfl rfl ?_; simp only [Act.put, List.getElem_toArray, List.getElem_cons_succ, List.getElem_cons_zero, List.setIfInBounds_toArray, List.set_cons_zero, List.set_cons_succ]) | (refine wpOrd_free (v := ?_) rfl rfl (fun _ hS => ?_) ?_; rotate_left; (focus (go_simp; try with_reducible rfl)); simp only [Act.put, List.getElem_toArray, List.getElem_cons_succ, List.getElem_cons_zero, List.setIfInBounds_toArray, List.set_cons_zero, List.set_cons_succ]))
      refine wpOrd_actPass rfl rfl ?_ ?_
      · (first | exact fun b o hb => Ext.cellOf (by repeat (first | with_reducible exact Ext.refl _ | with_reducible exact Ext.same _ _ _ _ | with_reducible assumption | with_reducible apply Ext.alloc | with_reducible apply Ext.ext | with_reducible apply Ext.drew | (with_reducible refine Ext.setCell ?_ _ _ ?_; rotate_left; (focus (first | omega | (simp only [World.size_alloc, World.size_drew, size_ext, World.size_setCell]; omega)))))) hb | (intro b o hb; (try simp only [size_ext, World.size_alloc, World.size_drew, World.size_setCell] at hb); go_simp; try rfl))
      simp only [Act.put, List.getElem_toArray, List.getElem_cons_succ, List.getElem_cons_zero, List.setIfInBounds_toArray, List.set_cons_zero, List.set_cons_succ]
      refine wpOrd_actPass rfl rfl ?_ ?_
      · (first | exact fun b o hb => Ext.cellOf (by repeat (first | with_reducible exact Ext.refl _ | with_reducible exact Ext.same _ _ _ _ | with_reducible assumption | with_reducible apply Ext.alloc | with_reducible apply Ext.ext | with_reducible apply Ext.drew | (with_reducible refine Ext.setCell ?_ _ _ ?_; rotate_left; (focus (first | omega | (simp only [World.size_alloc, World.size_drew, size_ext, World.size_setCell]; omega)))))) hb | (intro b o hb; (try simp only [size_ext, World.size_alloc, World.size_drew, World.size_setCell] at hb); go_simp; try rfl))
      simp only [Act.put, List.getElem_toArray, List.getElem_cons_succ, List.getElem_cons_zero, List.setIfInBounds_toArray, List.set_cons_zero, List.set_cons_succ]
      refine wpOrd_actPass rfl rfl ?_ ?_
      · (first | exact fun b o hb => Ext.cellOf (by repeat (first | with_reducible exact Ext.refl _ | with_reducible exact Ext.same _ _ _ _ | with_reducible assumption | with_reducible apply Ext.alloc | with_reducible apply Ext.ext | with_reducible apply Ext.drew | (with_reducible refine Ext.setCell ?_ _ _ ?_; rotate_left; (focus (first | omega | (simp only [World.size_alloc, World.size_drew, size_ext, World.size_setCell]; omega)))))) hb | (intro b o hb; (try simp only [size_ext, World.size_alloc, World.size_drew, World.size_setCell] at hb); go_simp; try rfl))
      simp only [Act.put, List.getElem_toArray, List.getElem_cons_succ, List.getElem_cons_zero, List.setIfInBounds_toArray, List.set_cons_zero, List.set_cons_succ]
      repeat (first | (refine wpOrd_pass rfl rfl ?_; simp only [Act.put, List.getElem_toArray, List.getElem_cons_succ, List.getElem_cons_zero, List.setIfInBounds_toArray, List.set_cons_zero, List.set_cons_succ]) | (refine wpOrd_free (v := ?_) rfl rfl (fun _ hS => ?_) ?_; rotate_left; (focus (go_simp; try with_reducible rfl)); simp only [Act.put, List.getElem_toArray, List.getElem_cons_succ, List.getElem_cons_zero, List.setIfInBounds_toArray, List.set_cons_zero, List.set_cons_succ]))
      refine wpOrd_nil ?_
  all_goals
    clear hy1 hy2 hy4 hy5
    go_wp2_with fail
    refine (Open_m _ _ _ _ _ _ D _ (hD.of_ext (by repeat (first | with_reducible exact Ext.refl _ | with_reducible exact Ext.same _ _ _ _ | with_reducible assumption | with_reducible apply Ext.alloc | with_reducible apply Ext.ext | with_reducible apply Ext.drew | (with_reducible refine Ext.setCell ?_ _ _ ?_; rotate_left; (focus (first | omega | (simp only [World.size_alloc, World.size_drew, size_ext, World.size_setCell]; omega)))) | (with_reducible refine Ext.trans ?_ (by assumption)))))).mono ?_
    rintro e w1 ⟨P0, p0, q0, P1, p1, q1, Am, nm, cm, rfl, hyo, hmo, Eo, d_o, rfl⟩
    obtain ⟨er, her⟩ : ∃ er, openE D = er := ⟨_, rfl⟩
    rw [her]
    have Her := hid her
    go_wp2_with fail
    have hro := fun W (hx : Ext w W) => rOpen_m A0 n0 c0 A1 n1 c1 D W (hD.of_ext hx)
    rw [her] at hro
    clear her
    refine (hro _ (by repeat (first | with_reducible exact Ext.refl _ | with_reducible exact Ext.same _ _ _ _ | with_reducible assumption | with_reducible apply Ext.alloc | with_reducible apply Ext.ext | with_reducible apply Ext.drew | (with_reducible refine Ext.setCell ?_ _ _ ?_; rotate_left; (focus (first | omega | (simp only [World.size_alloc, World.size_drew, size_ext, World.size_setCell]; omega)))) | (with_reducible refine Ext.trans ?_ (by assumption))))).mono ?_
    rintro e w1 ⟨R0, r0, s0, R1, r1, s1, An, nn, cn, rfl, hyr, hmr, Er, d_r, rfl⟩
    clear hro
    have Hyo := hid hyo
    have Hmo := hid hmo
    go_wp2_with fail
    refine (SameDrive_self _ _ _ _ _ _ _ _ _ _ _ _ (openD D) _ (hyo.of_ext (by repeat (first | with_reducible exact Ext.refl _ | with_reducible exact Ext.same _ _ _ _ | with_reducible assumption | with_reducible apply Ext.alloc | with_reducible apply Ext.ext | with_reducible apply Ext.drew | (with_reducible refine Ext.setCell ?_ _ _ ?_; rotate_left; (focus (first | omega | (simp only [World.size_alloc, World.size_drew, size_ext, World.size_setCell]; omega)))) | (with_reducible refine Ext.trans ?_ (by assumption))))) (hyr.of_ext (by repeat (first | with_reducible exact Ext.refl _ | with_reducible exact Ext.same _ _ _ _ | with_reducible assumption | with_reducible apply Ext.alloc | with_reducible apply Ext.ext | with_reducible apply Ext.drew | (with_reducible refine Ext.setCell ?_ _ _ ?_; rotate_left; (focus (first | omega | (simp only [World.size_alloc, World.size_drew, size_ext, World.size_setCell]; omega)))) | (with_reducible refine Ext.trans ?_ (by assumption)))))).mono ?_
    rintro e w1 ⟨rfl, Es, d_s, rfl⟩
    clear hyr
    go_wp2_with fail
    refine (SameMemory_self _ _ _ _ _ _ (openM D) (by omega) _ (hmo.of_ext (by repeat (first | with_reducible exact Ext.refl _ | with_reducible exact Ext.same _ _ _ _ | with_reducible assumption | with_reducible apply Ext.alloc | with_reducible apply Ext.ext | with_reducible apply Ext.drew | (with_reducible refine Ext.setCell ?_ _ _ ?_; rotate_left; (focus (first | omega | (simp only [World.size_alloc, World.size_drew, size_ext, World.size_setCell]; omega)))) | (with_reducible refine Ext.trans ?_ (by assumption))))) (hmr.of_ext (by repeat (first | with_reducible exact Ext.refl _ | with_reducible exact Ext.same _ _ _ _ | with_reducible assumption | with_reducible apply Ext.alloc | with_reducible apply Ext.ext | with_reducible apply Ext.drew | (with_reducible refine Ext.setCell ?_ _ _ ?_; rotate_left; (focus (first | omega | (simp only [World.size_alloc, World.size_drew, size_ext, World.size_setCell]; omega)))) | (with_reducible refine Ext.trans ?_ (by assumption)))))).mono ?_
    rintro e w1 ⟨rfl, Et, d_t, rfl⟩
    clear hmr
    by_cases he : er = 0
    · subst he
      obtain ⟨g1, g2, g3⟩ := Hag.out Her.out
      have G1 := hid g1
      have G2 := hid g2
      have G3 := hid g3
      have hcl := driveOk_len (D := openD D) (by
        obtain ⟨l, cnt, hj⟩ := open_jour Her.out
        exact hj.drive)
      have hp0 : p0 ≤ 140737488355328 := by have := hyo.l0; omega
      have hp1 : p1 ≤ 140737488355328 := by have := hyo.l1; omega
      clear g1 g2 g3 hcl
      go_wp2_with fail
      refine (Crash_y _ _ _ _ _ _ (openD D) _ _ _ (hyo.of_ext (by repeat (first | with_reducible exact Ext.refl _ | with_reducible exact Ext.same _ _ _ _ | with_reducible assumption | with_reducible apply Ext.alloc | with_reducible apply Ext.ext | with_reducible apply Ext.drew | (with_reducible refine Ext.setCell ?_ _ _ ?_; rotate_left; (focus (first | omega | (simp only [World.size_alloc, World.size_drew, size_ext, World.size_setCell]; omega)))) | (with_reducible refine Ext.trans ?_ (by assumption))))) hp0 hp1 hk0 hk0' hk1 hk1').mono ?_
      rintro e w1 ⟨C0, u0, v0, C1, u1, v1, rfl, hyc, Ec, d_c, rfl⟩
      go_wp2_with fail
      have hoc := fun W (hx : Ext _ W) => Open_m C0 u0 v0 C1 u1 v1 (crashD (openD D) k0 k1) W (hyc.of_ext hx)
      rw [G1.out, G2.out, G3.out] at hoc
      refine (hoc _ (Ext.refl _)).mono ?_
      rintro e w1 ⟨F0, x0, y0, F1, x1, y1, Af, nf, cf, rfl, hyf, hmf, Ef, d_f, rfl⟩
      clear hoc hyc
      go_wp2_with fail
      refine (SameDrive_self _ _ _ _ _ _ _ _ _ _ _ _ (openD D) _ (hyf.of_ext (by repeat (first | with_reducible exact Ext.refl _ | with_reducible exact Ext.same _ _ _ _ | with_reducible assumption | with_reducible apply Ext.alloc | with_reducible apply Ext.ext | with_reducible apply Ext.drew | (with_reducible refine Ext.setCell ?_ _ _ ?_; rotate_left; (focus (first | omega | (simp only [World.size_alloc, World.size_drew, size_ext, World.size_setCell]; omega)))) | (with_reducible refine Ext.trans ?_ (by assumption))))) (hyo.of_ext (by repeat (first | with_reducible exact Ext.refl _ | with_reducible exact Ext.same _ _ _ _ | with_reducible assumption | with_reducible apply Ext.alloc | with_reducible apply Ext.ext | with_reducible apply Ext.drew | (with_reducible refine Ext.setCell ?_ _ _ ?_; rotate_left; (focus (first | omega | (simp only [World.size_alloc, World.size_drew, size_ext, World.size_setCell]; omega)))) | (with_reducible refine Ext.trans ?_ (by assumption)))))).mono ?_
      rintro e w1 ⟨rfl, Eu, d_u, rfl⟩
      go_wp2_with fail
      refine (SameMemory_self _ _ _ _ _ _ (openM D) (by omega) _ (hmf.of_ext (by repeat (first | with_reducible exact Ext.refl _ | with_reducible exact Ext.same _ _ _ _ | with_reducible assumption | with_reducible apply Ext.alloc | with_reducible apply Ext.ext | with_reducible apply Ext.drew | (with_reducible refine Ext.setCell ?_ _ _ ?_; rotate_left; (focus (first | omega | (simp only [World.size_alloc, World.size_drew, size_ext, World.size_setCell]; omega)))) | (with_reducible refine Ext.trans ?_ (by assumption))))) (hmo.of_ext (by repeat (first | with_reducible exact Ext.refl _ | with_reducible exact Ext.same _ _ _ _ | with_reducible assumption | with_reducible apply Ext.alloc | with_reducible apply Ext.ext | with_reducible apply Ext.drew | (with_reducible refine Ext.setCell ?_ _ _ ?_; rotate_left; (focus (first | omega | (simp only [World.size_alloc, World.size_drew, size_ext, World.size_setCell]; omega)))) | (with_reducible refine Ext.trans ?_ (by assumption)))))).mono ?_
      rintro e w1 ⟨rfl, Ev, d_v, rfl⟩
      go_wp2_with (go_at_call 18; refine (sane_any _).mono ?_; rintro e w1 ⟨rfl, E1, d1, rfl⟩)
      go_ret
      exact ⟨ret_val rfl, (by repeat (first | with_reducible exact Ext.refl _ | with_reducible exact Ext.same _ _ _ _ | with_reducible assumption | with_reducible apply Ext.alloc | with_reducible apply Ext.ext | with_reducible apply Ext.drew | (with_reducible refine Ext.setCell ?_ _ _ ?_; rotate_left; (focus (first | omega | (simp only [World.size_alloc, World.size_drew, size_ext, World.size_setCell]; omega))))))⟩
    · have hb : (er != 0) = true := by simpa using he
      go_wp2_with (go_at_call 18; refine (sane_any _).mono ?_; rintro e w1 ⟨rfl, E1, d1, rfl⟩)
      go_ret
      exact ⟨ret_val rfl, (by repeat (first | with_reducible exact Ext.refl _ | with_reducible exact Ext.same _ _ _ _ | with_reducible assumption | with_reducible apply Ext.alloc | with_reducible apply Ext.ext | with_reducible apply Ext.drew | (with_reducible refine Ext.setCell ?_ _ _ ?_; rotate_left; (focus (first | omega | (simp only [World.size_alloc, World.size_drew, size_ext, World.size_setCell]; omega))))))⟩
end Go.Proofs.YtekjdeibnfaehaaGreat
