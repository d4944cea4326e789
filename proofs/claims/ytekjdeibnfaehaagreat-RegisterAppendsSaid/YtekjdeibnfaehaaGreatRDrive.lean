/- The reference's drives: valid ones, copies, Sync, Crash; equal drives. -/
import Derived.Test.YtekjdeibnfaehaaGreatAnc
set_option linter.unusedSimpArgs false
set_option linter.unusedVariables false
namespace Go.Proofs.YtekjdeibnfaehaaGreat
open Go Go.RowKit

/-- append of bytes, many of them, to a row of one's own. -/
theorem wpList_abytL {P : Program} (hP : P = Tryz.prog) {ops : Array Oper} {rest : List Oper} {o : Oper} {a : Act} {Q : Exit → Act → World → Prop} {W : World} (X : World) (N : Nat) (hN : N = X.heap.size) (hgd : o.guard = none) (s x : Operand)
    (ho : o.op = .call { callee := .builtin .append, args := #[s, x], argTypes := #[22, 22] }) {v : Value} {l : List UInt8} (news : List UInt8) (hs : a.eval s = v) (hx : Ext X W) (hown : OwnB N W v l)
    {A : Option Addr} {m c : Nat} (hv : a.eval x = .slice A m c) (hm : m = news.length) (hr : Byt W A news) (hlen : l.length + news.length ≤ 140737488355328)
    (h : ∀ v' E d, OwnB N (X.ext E d) v' (l ++ news) → wpList P ops Q rest (a.put o.dst v') (X.ext E d)) : wpList P ops Q (o :: rest) a W := by
  subst hP hm hN
  obtain ⟨i0, hi, hz0, hz1, hz2⟩ := info_parts info_u8
  refine wpList_append (w := X) hgd s x 22 ho 5 i0 _ 1 1 Tryz.underlying22 hi hz0 hz1 hz2 rfl (by decide) hs hx hown hv hr (encB_one _) (by unfold maxLen; omega) (by omega) fun v' E d h2 => h v' E d ?_
  unfold OwnB
  rw [List.length_append, List.map_append]
  exact h2
theorem OwnB.empty (w : World) (base g : Nat) (hg : g = w.heap.size) (hb : base ≤ g) : OwnB base (w.alloc (.cells #[] 5)) (.slice (some ⟨g, 0, Option.none⟩) 0 0) [] := by
  subst hg
  exact ownsRow_empty w base _ _ hb
set_option maxRecDepth 100000 in
set_option maxHeartbeats 2000000 in
theorem risDrive_any (A0 : Option Addr) (n0 c0 : Nat) (f0 : Int) (A1 : Option Addr) (n1 c1 : Nat) (f1 : Int) (w : World) :
    Calls Tryz.prog 59 #[drvV A0 n0 c0 f0 A1 n1 c1 f1] w fun e w' => e = .returned (.bool (dOk n0 f0 n1 f1)) ∧ Ext w w' := by
  by_cases h1 : n0 ≤ 100000
  · cases h0 : inB f0 0 n0 with
    | false =>
      have HR : Hid (dOk n0 f0 n1 f1 = false) := hid (by simp [dOk, fOk, h0])
      go_enter Tryz.func59, Tryz.ntmps59
      go_wp2_with fail
      refine wp_loop_rounds 3 ?_
      rw [rounds_succ]
      go_wp2_with (go_at_call 92; refine (rin_any _ _ _ _).mono ?_; rintro e w1 ⟨rfl, rfl⟩)
      go_ret
      exact ⟨ret_val (by rw [HR.out]; rfl), (by repeat (first | (with_reducible first | exact Ext.refl _ | exact Ext.same _ _ _ _ | assumption | apply Ext.alloc | apply Ext.ext | apply Ext.drew) | (with_reducible refine Ext.setCell ?_ _ _ ?_; rotate_left; focus (first | omega | (simp only [zs1, zs2, zs3, size_ext]; omega)))))⟩
    | true =>
      by_cases h3 : n1 ≤ 100000
      · cases h2 : inB f1 0 n1 with
        | false =>
          have HR : Hid (dOk n0 f0 n1 f1 = false) := hid (by simp [dOk, fOk, h2])
          go_enter Tryz.func59, Tryz.ntmps59
          go_wp2_with fail
          refine wp_loop_rounds 3 ?_
          rw [rounds_succ]
          go_wp2_with (go_at_call 92; refine (rin_any _ _ _ _).mono ?_; rintro e w1 ⟨rfl, rfl⟩)
          rw [rounds_succ]
          go_wp2_with (go_at_call 92; refine (rin_any _ _ _ _).mono ?_; rintro e w1 ⟨rfl, rfl⟩)
          go_ret
          exact ⟨ret_val (by rw [HR.out]; rfl), (by repeat (first | (with_reducible first | exact Ext.refl _ | exact Ext.same _ _ _ _ | assumption | apply Ext.alloc | apply Ext.ext | apply Ext.drew) | (with_reducible refine Ext.setCell ?_ _ _ ?_; rotate_left; focus (first | omega | (simp only [zs1, zs2, zs3, size_ext]; omega)))))⟩
        | true =>
          have HR : Hid (dOk n0 f0 n1 f1 = true) := hid (by simp [dOk, fOk, h0, h1, h2, h3])
          go_enter Tryz.func59, Tryz.ntmps59
          go_wp2_with fail
          refine wp_loop_rounds 3 ?_
          rw [rounds_succ]
          go_wp2_with (go_at_call 92; refine (rin_any _ _ _ _).mono ?_; rintro e w1 ⟨rfl, rfl⟩)
          rw [rounds_succ]
          go_wp2_with (go_at_call 92; refine (rin_any _ _ _ _).mono ?_; rintro e w1 ⟨rfl, rfl⟩)
          rw [rounds_succ]
          go_wp2_with (go_at_call 92; refine (rin_any _ _ _ _).mono ?_; rintro e w1 ⟨rfl, rfl⟩)
          go_ret
          exact ⟨ret_val (by rw [HR.out]; rfl), (by repeat (first | (with_reducible first | exact Ext.refl _ | exact Ext.same _ _ _ _ | assumption | apply Ext.alloc | apply Ext.ext | apply Ext.drew) | (with_reducible refine Ext.setCell ?_ _ _ ?_; rotate_left; focus (first | omega | (simp only [zs1, zs2, zs3, size_ext]; omega)))))⟩
      · have HR : Hid (dOk n0 f0 n1 f1 = false) := hid (by simp [dOk, fOk, h3])
        go_enter Tryz.func59, Tryz.ntmps59
        go_wp2_with fail
        refine wp_loop_rounds 3 ?_
        rw [rounds_succ]
        go_wp2_with (go_at_call 92; refine (rin_any _ _ _ _).mono ?_; rintro e w1 ⟨rfl, rfl⟩)
        rw [rounds_succ]
        go_wp2_with (go_at_call 92; refine (rin_any _ _ _ _).mono ?_; rintro e w1 ⟨rfl, rfl⟩)
        go_ret
        exact ⟨ret_val (by rw [HR.out]; rfl), (by repeat (first | (with_reducible first | exact Ext.refl _ | exact Ext.same _ _ _ _ | assumption | apply Ext.alloc | apply Ext.ext | apply Ext.drew) | (with_reducible refine Ext.setCell ?_ _ _ ?_; rotate_left; focus (first | omega | (simp only [zs1, zs2, zs3, size_ext]; omega)))))⟩
  · have HR : Hid (dOk n0 f0 n1 f1 = false) := hid (by simp [dOk, fOk, h1])
    go_enter Tryz.func59, Tryz.ntmps59
    go_wp2_with fail
    refine wp_loop_rounds 3 ?_
    rw [rounds_succ]
    go_wp2_with (go_at_call 92; refine (rin_any _ _ _ _).mono ?_; rintro e w1 ⟨rfl, rfl⟩)
    go_ret
    exact ⟨ret_val (by rw [HR.out]; rfl), (by repeat (first | (with_reducible first | exact Ext.refl _ | exact Ext.same _ _ _ _ | assumption | apply Ext.alloc | apply Ext.ext | apply Ext.drew) | (with_reducible refine Ext.setCell ?_ _ _ ?_; rotate_left; focus (first | omega | (simp only [zs1, zs2, zs3, size_ext]; omega)))))⟩
set_option maxRecDepth 100000 in
set_option maxHeartbeats 2000000 in
theorem cut_any (A : Option Addr) (n c : Nat) (f : Int) (l : List UInt8) (k : Nat) (hl : l.length = n) (hk : k ≤ n) (hc : n ≤ c) (hbig : n ≤ 140737488355328) (w : World) (hb : Byt w A l) :
    Calls Tryz.prog 61 #[filV A n c f, .int .i64 k] w fun e w' => ∃ A' c', e = .returned (filV A' k c' k) ∧ OwnB w.heap.size w' (.slice A' k c') (l.take k) ∧ Ext w w' := by
  have hb2 := hb.take k (by omega)
  have ht : (l.take k).length = k := by rw [List.length_take]; omega
  have Ht := hid ht
  clear ht
  go_enter Tryz.func61, Tryz.ntmps61
  go_wp2_with (at_builtin; refine wpList_abytL rfl ((w.alloc (.cells #[.slice A n c, .int .i64 f] 24)).alloc (.cells #[.slice none 0 0, .int .i64 0] 24)) (w.heap.size + 1 + 1) (by simp [World.size_alloc]) rfl _ _ rfl (l := []) (l.take k) rfl (by exact (by repeat (first | (with_reducible first | exact Ext.refl _ | exact Ext.same _ _ _ _ | assumption | apply Ext.alloc | apply Ext.ext | apply Ext.drew) | (with_reducible refine Ext.setCell ?_ _ _ ?_; rotate_left; focus (first | omega | (simp only [zs1, zs2, zs3, size_ext]; omega)))))) (OwnB.empty _ _ _ (by simp [World.size_alloc]) (Nat.le_refl _)) rfl Ht.out.symm (show Byt _ A (l.take k) from (by with_reducible repeat (first | assumption | apply Byt.ext | apply Byt.alloc | apply Byt.drew | (refine Byt.of_ext ?_ (by assumption))))) (by rw [Ht.out]; simp; omega) (fun v1 E1 d1 ho1 => ?_); obtain ⟨Av1, cv1, rfl, hcv1, hsv1⟩ := ownsRow_slice ho1; have Ho1 := hid ho1; clear ho1 hcv1 hsv1)
  refine bodyPost_ret (v := filV Av1 k cv1 k) (by simp [results, Tryz.results61, go_sem]) rfl ?_
  refine ⟨_, _, rfl, ?_, (by repeat (first | (with_reducible first | exact Ext.refl _ | exact Ext.same _ _ _ _ | assumption | apply Ext.alloc | apply Ext.ext | apply Ext.drew) | (with_reducible refine Ext.setCell ?_ _ _ ?_; rotate_left; focus (first | omega | (simp only [zs1, zs2, zs3, size_ext]; omega)))))⟩
  have h := Ho1.out
  rw [List.nil_append] at h
  rw [Ht.out] at h
  exact OwnB.moved2 h (by repeat (first | (with_reducible first | exact Ext.refl _ | exact Ext.same _ _ _ _ | assumption | apply Ext.alloc | apply Ext.ext | apply Ext.drew) | (with_reducible refine Ext.setCell ?_ _ _ ?_; rotate_left; focus (first | omega | (simp only [zs1, zs2, zs3, size_ext]; omega))))) (by simp [World.size_alloc]) (by simp [World.size_alloc]) (by omega)
set_option maxRecDepth 100000 in
set_option maxHeartbeats 4000000 in
theorem sameDrive_any (A0 : Option Addr) (n0 c0 : Nat) (f0 : Int) (A1 : Option Addr) (n1 c1 : Nat) (f1 : Int) (l0 l1 : List UInt8) (hl0 : l0.length = n0) (hl1 : l1.length = n1) (hbig0 : n0 ≤ 140737488355328) (hbig1 : n1 ≤ 140737488355328) (w : World) (hb0 : Byt w A0 l0) (hb1 : Byt w A1 l1) :
    Calls Tryz.prog 60 #[drvV A0 n0 c0 f0 A1 n1 c1 f1] w fun e w' => ∃ B0 d0 B1 d1, e = .returned (drvV B0 n0 d0 f0 B1 n1 d1 f1) ∧ OwnB w.heap.size w' (.slice B0 n0 d0) l0 ∧ OwnB w.heap.size w' (.slice B1 n1 d1) l1 ∧ Ext w w' := by
  have H0 := hid hl0
  have H1 := hid hl1
  go_enter Tryz.func60, Tryz.ntmps60
  go_wp2_with fail
  refine wp_loop_rounds 3 ?_
  rw [rounds_succ]
  go_wp2_with (at_builtin; refine wpList_abytL rfl ((w.alloc (.cells #[.slice A0 n0 c0, .int .i64 f0, .slice A1 n1 c1, .int .i64 f1] 27)).alloc (.cells #[.slice none 0 0, .int .i64 0, .slice none 0 0, .int .i64 0] 27)) (w.heap.size + 1 + 1) (by simp [World.size_alloc]) rfl _ _ rfl (l := []) (l0) rfl (by exact (by repeat (first | (with_reducible first | exact Ext.refl _ | exact Ext.same _ _ _ _ | assumption | apply Ext.alloc | apply Ext.ext | apply Ext.drew) | (with_reducible refine Ext.setCell ?_ _ _ ?_; rotate_left; focus (first | omega | (simp only [zs1, zs2, zs3, size_ext]; omega)))))) (OwnB.empty _ _ _ (by simp [World.size_alloc]) (Nat.le_refl _)) rfl H0.out.symm (show Byt _ A0 (l0) from (by with_reducible repeat (first | assumption | apply Byt.ext | apply Byt.alloc | apply Byt.drew | (refine Byt.of_ext ?_ (by assumption))))) (by rw [H0.out]; simp; omega) (fun v1 E1 d1 ho1 => ?_); obtain ⟨Av1, cv1, rfl, hcv1, hsv1⟩ := ownsRow_slice ho1; have Ho1 := hid ho1; clear ho1 hcv1 hsv1)
  rw [rounds_succ]
  go_wp2_with (at_builtin; refine wpList_abytL rfl (((w.alloc (.cells #[.slice Av1 n0 cv1, .int .i64 f0, .slice A1 n1 c1, .int .i64 f1] 27)).alloc (.cells #[.slice none 0 0, .int .i64 0, .slice none 0 0, .int .i64 0] 27)).ext E1 d1) (w.heap.size + 1 + 1 + E1.size) (by simp [World.size_alloc]) rfl _ _ rfl (l := []) (l1) rfl (by exact (by repeat (first | (with_reducible first | exact Ext.refl _ | exact Ext.same _ _ _ _ | assumption | apply Ext.alloc | apply Ext.ext | apply Ext.drew) | (with_reducible refine Ext.setCell ?_ _ _ ?_; rotate_left; focus (first | omega | (simp only [zs1, zs2, zs3, size_ext]; omega)))))) (OwnB.empty _ _ _ (by simp [World.size_alloc]) (Nat.le_refl _)) rfl H1.out.symm (show Byt _ A1 (l1) from (by with_reducible repeat (first | assumption | apply Byt.ext | apply Byt.alloc | apply Byt.drew | (refine Byt.of_ext ?_ (by assumption))))) (by rw [H1.out]; simp; omega) (fun v2 E2 d2 ho2 => ?_); obtain ⟨Av2, cv2, rfl, hcv2, hsv2⟩ := ownsRow_slice ho2; have Ho2 := hid ho2; clear ho2 hcv2 hsv2)
  rw [rounds_succ]
  go_wp2_with fail
  refine bodyPost_ret (v := drvV Av1 n0 cv1 f0 Av2 n1 cv2 f1) (by simp [results, Tryz.results60, go_sem]) rfl ?_
  have h1 := Ho1.out
  have h2 := Ho2.out
  rw [List.nil_append] at h1 h2
  rw [H0.out] at h1
  rw [H1.out] at h2
  refine ⟨_, _, _, _, rfl, ?_, ?_, (by repeat (first | (with_reducible first | exact Ext.refl _ | exact Ext.same _ _ _ _ | assumption | apply Ext.alloc | apply Ext.ext | apply Ext.drew) | (with_reducible refine Ext.setCell ?_ _ _ ?_; rotate_left; focus (first | omega | (simp only [zs1, zs2, zs3, size_ext]; omega)))))⟩
  · exact OwnB.moved2 h1 (by repeat (first | (with_reducible first | exact Ext.refl _ | exact Ext.same _ _ _ _ | assumption | apply Ext.alloc | apply Ext.ext | apply Ext.drew) | (with_reducible refine Ext.setCell ?_ _ _ ?_; rotate_left; focus (first | omega | (simp only [zs1, zs2, zs3, size_ext]; omega))))) (by simp [World.size_alloc]) (by simp [World.size_alloc]) (by omega)
  · exact OwnB.moved2 h2 (by repeat (first | (with_reducible first | exact Ext.refl _ | exact Ext.same _ _ _ _ | assumption | apply Ext.alloc | apply Ext.ext | apply Ext.drew) | (with_reducible refine Ext.setCell ?_ _ _ ?_; rotate_left; focus (first | omega | (simp only [zs1, zs2, zs3, size_ext]; omega))))) (by simp [World.size_alloc]) (by simp [World.size_alloc]) (by omega)
set_option maxRecDepth 100000 in
set_option maxHeartbeats 4000000 in
theorem rSync_any (A0 : Option Addr) (n0 c0 : Nat) (A1 : Option Addr) (n1 c1 : Nat) (D : DriveD) (hs0 : n0 ≤ 140737488355328) (hs1 : n1 ≤ 140737488355328) (w : World) (hD : DrvY w D A0 n0 c0 A1 n1 c1) :
    Calls Tryz.prog 12 #[drvV A0 n0 c0 D.f0.firm A1 n1 c1 D.f1.firm] w fun e w' => ∃ B0 m0 d0 B1 m1 d1, e = .returned (drvV B0 m0 d0 (syncD D).f0.firm B1 m1 d1 (syncD D).f1.firm) ∧ DrvX w.heap.size w' (syncD D) B0 m0 d0 B1 m1 d1 ∧ Ext w w' := by
  obtain ⟨hl0, hl1, hc0, hc1, hbig0, hbig1, hb0, hb1⟩ := hD
  have hdo := driveOk_eq D n0 n1 hl0 hl1
  cases hk : dOk n0 D.f0.firm n1 D.f1.firm with
  | false =>
    rw [hk] at hdo
    have HS : Hid (syncD D = D) := hid (by simp [syncD, hdo])
    clear hdo
    go_enter Tryz.func12, Tryz.ntmps12
    go_wp2_with (first | (go_at_call 59; refine (risDrive_any _ _ _ _ _ _ _ _ _).mono ?_; rintro e w1 ⟨rfl, E1, d1, rfl⟩) | (go_at_call 60; refine (sameDrive_any _ _ _ _ _ _ _ _ _ _ (by first | rfl | assumption) (by first | rfl | assumption) (by omega) (by omega) _ (by with_reducible repeat (first | assumption | apply Byt.ext | apply Byt.alloc | apply Byt.drew | (refine Byt.of_ext ?_ (by assumption)))) (by with_reducible repeat (first | assumption | apply Byt.ext | apply Byt.alloc | apply Byt.drew | (refine Byt.of_ext ?_ (by assumption))))).mono ?_; rintro e w1 ⟨Bs1, ds1, Bt1, dt1, rfl, hos1, hot1, E1, d1, rfl⟩))
    refine bodyPost_ret (v := drvV Bs1 n0 ds1 D.f0.firm Bt1 n1 dt1 D.f1.firm) (by simp [results, Tryz.results12, go_sem]) rfl ?_
    refine ⟨Bs1, n0, ds1, Bt1, n1, dt1, by rw [HS.out], ?_, (by repeat (first | (with_reducible first | exact Ext.refl _ | exact Ext.same _ _ _ _ | assumption | apply Ext.alloc | apply Ext.ext | apply Ext.drew) | (with_reducible refine Ext.setCell ?_ _ _ ?_; rotate_left; focus (first | omega | (simp only [zs1, zs2, zs3, size_ext]; omega)))))⟩
    rw [HS.out]
    refine ⟨hl0.symm, hl1.symm, ?_, ?_⟩
    · exact OwnB.moved2 hos1 (by repeat (first | (with_reducible first | exact Ext.refl _ | exact Ext.same _ _ _ _ | assumption | apply Ext.alloc | apply Ext.ext | apply Ext.drew) | (with_reducible refine Ext.setCell ?_ _ _ ?_; rotate_left; focus (first | omega | (simp only [zs1, zs2, zs3, size_ext]; omega))))) (by simp [World.size_alloc]) (by simp [World.size_alloc]) (by simp [World.size_alloc]; try omega)
    · exact OwnB.moved2 hot1 (by repeat (first | (with_reducible first | exact Ext.refl _ | exact Ext.same _ _ _ _ | assumption | apply Ext.alloc | apply Ext.ext | apply Ext.drew) | (with_reducible refine Ext.setCell ?_ _ _ ?_; rotate_left; focus (first | omega | (simp only [zs1, zs2, zs3, size_ext]; omega))))) (by simp [World.size_alloc]) (by simp [World.size_alloc]) (by simp [World.size_alloc]; try omega)
  | true =>
    rw [hk] at hdo
    have HS : Hid (syncD D = ⟨⟨D.f0.bytes, (n0 : Int)⟩, ⟨D.f1.bytes, (n1 : Int)⟩⟩) := hid (by simp [syncD, hdo, firmD, firmF, hl0, hl1])
    clear hdo
    have T0 := hid (List.take_of_length_le (Nat.le_of_eq hl0))
    have T1 := hid (List.take_of_length_le (Nat.le_of_eq hl1))
    go_enter Tryz.func12, Tryz.ntmps12
    go_wp2_with (go_at_call 59; refine (risDrive_any _ _ _ _ _ _ _ _ _).mono ?_; rintro e w1 ⟨rfl, E1, d1, rfl⟩)
    refine wp_region_ord (.f 0 (.f 1 (.f 2 (.f 3 (.f 4 (.f 5 (.f 6 (.f 7 (.f 9 (.f 10 (.f 11 (.f 12 (.f 13 (.f 14 (.f 15 (.f 16 (.a 8 (.a 17 (.f 18 (.f 19 (.a 20 .d))))))))))))))))))))) (Ext (w.alloc (.cells #[.slice A0 n0 c0, .int .i64 D.f0.firm, .slice A1 n1 c1, .int .i64 D.f1.firm] 27))) (by kernel_rfl) (by kernel_rfl) (by repeat (first | (with_reducible first | exact Ext.refl _ | exact Ext.same _ _ _ _ | assumption | apply Ext.alloc | apply Ext.ext | apply Ext.drew) | (with_reducible refine Ext.setCell ?_ _ _ ?_; rotate_left; focus (first | omega | (simp only [zs1, zs2, zs3, size_ext]; omega))) | (with_reducible refine Ext.trans ?_ (by assumption)))) ?_
    repeat ((first | refine wpOrd_pass rfl rfl ?_ | (refine wpOrd_free (v := ?_) rfl rfl (fun _ hS => ?_) ?_; rotate_left; focus (obtain ⟨E9, d9, rfl⟩ := hS; go_simp; try with_reducible rfl))); simp only [Act.put, zp1, zp2, zp3, zp4, zp5, zp6])
    refine wpOrd_call rfl rfl rfl Tryz.call61 (fun R hR => ?_)
    go_simp
    refine (cut_any _ _ _ _ _ _ (by first | rfl | assumption) (by omega) (by omega) (by omega) _ (by with_reducible repeat (first | assumption | apply Byt.ext | apply Byt.alloc | apply Byt.drew | (refine Byt.of_ext ?_ (by assumption))))).mono ?_
    rintro e w1 ⟨Af201, cf201, rfl, hbf201, E201, d201, rfl⟩
    refine hR _ _ ⟨_, rfl, ?_, ?_⟩
    · exact (by repeat (first | (with_reducible first | exact Ext.refl _ | exact Ext.same _ _ _ _ | assumption | apply Ext.alloc | apply Ext.ext | apply Ext.drew) | (with_reducible refine Ext.setCell ?_ _ _ ?_; rotate_left; focus (first | omega | (simp only [zs1, zs2, zs3, size_ext]; omega))) | (with_reducible refine Ext.trans ?_ (by assumption))))
    clear hR R
    simp only [Act.put, zp1, zp2, zp3, zp4, zp5, zp6]
    refine wpOrd_call rfl rfl rfl Tryz.call61 (fun R hR => ?_)
    go_simp
    refine (cut_any _ _ _ _ _ _ (by first | rfl | assumption) (by omega) (by omega) (by omega) _ (by with_reducible repeat (first | assumption | apply Byt.ext | apply Byt.alloc | apply Byt.drew | (refine Byt.of_ext ?_ (by assumption))))).mono ?_
    rintro e w1 ⟨Af202, cf202, rfl, hbf202, E202, d202, rfl⟩
    refine hR _ _ ⟨_, rfl, ?_, ?_⟩
    · exact (by repeat (first | (with_reducible first | exact Ext.refl _ | exact Ext.same _ _ _ _ | assumption | apply Ext.alloc | apply Ext.ext | apply Ext.drew) | (with_reducible refine Ext.setCell ?_ _ _ ?_; rotate_left; focus (first | omega | (simp only [zs1, zs2, zs3, size_ext]; omega))) | (with_reducible refine Ext.trans ?_ (by assumption))))
    clear hR R
    simp only [Act.put, zp1, zp2, zp3, zp4, zp5, zp6]
    repeat ((first | refine wpOrd_pass rfl rfl ?_ | (refine wpOrd_free (v := ?_) rfl rfl (fun _ hS => ?_) ?_; rotate_left; focus (obtain ⟨E9, d9, rfl⟩ := hS; go_simp; try with_reducible rfl))); simp only [Act.put, zp1, zp2, zp3, zp4, zp5, zp6])
    refine wpOrd_act rfl rfl (fun K hK => ?_)
    go_simp
    refine hK _ _ ⟨?_, ?_⟩
    · exact (by repeat (first | (with_reducible first | exact Ext.refl _ | exact Ext.same _ _ _ _ | assumption | apply Ext.alloc | apply Ext.ext | apply Ext.drew) | (with_reducible refine Ext.setCell ?_ _ _ ?_; rotate_left; focus (first | omega | (simp only [zs1, zs2, zs3, size_ext]; omega))) | (with_reducible refine Ext.trans ?_ (by assumption))))
    clear hK K
    try simp only [Act.put, zp1, zp2, zp3, zp4, zp5, zp6]
    refine wpOrd_nil ?_
    all_goals
      go_wp2_with fail
    all_goals
      refine bodyPost_ret (v := drvV Af201 n0 cf201 n0 Af202 n1 cf202 n1) (by simp [results, Tryz.results12, go_sem]) rfl ?_
      refine ⟨Af201, n0, cf201, Af202, n1, cf202, by rw [HS.out], ?_, (by repeat (first | (with_reducible first | exact Ext.refl _ | exact Ext.same _ _ _ _ | assumption | apply Ext.alloc | apply Ext.ext | apply Ext.drew) | (with_reducible refine Ext.setCell ?_ _ _ ?_; rotate_left; focus (first | omega | (simp only [zs1, zs2, zs3, size_ext]; omega)))))⟩
      rw [HS.out]
      have h1 := hbf201
      have h2 := hbf202
      rw [T0.out] at h1
      rw [T1.out] at h2
      refine ⟨hl0.symm, hl1.symm, ?_, ?_⟩
      · exact OwnB.moved2 h1 (by repeat (first | (with_reducible first | exact Ext.refl _ | exact Ext.same _ _ _ _ | assumption | apply Ext.alloc | apply Ext.ext | apply Ext.drew) | (with_reducible refine Ext.setCell ?_ _ _ ?_; rotate_left; focus (first | omega | (simp only [zs1, zs2, zs3, size_ext]; omega))))) (by simp [World.size_alloc]) (by simp [World.size_alloc]) (by simp [World.size_alloc]; try omega)
      · exact OwnB.moved2 h2 (by repeat (first | (with_reducible first | exact Ext.refl _ | exact Ext.same _ _ _ _ | assumption | apply Ext.alloc | apply Ext.ext | apply Ext.drew) | (with_reducible refine Ext.setCell ?_ _ _ ?_; rotate_left; focus (first | omega | (simp only [zs1, zs2, zs3, size_ext]; omega))))) (by simp [World.size_alloc]) (by simp [World.size_alloc]) (by simp [World.size_alloc]; try omega)
set_option maxRecDepth 100000 in
set_option maxHeartbeats 2000000 in
theorem kept_any (A : Option Addr) (n c : Nat) (f k : Int) (L : Nat) (h0 : 0 ≤ f) (h1 : f ≤ n) (hn : n ≤ 100000) (hL : f + k % ((n : Int) - f + 1) = L) (w : World) :
    Calls Tryz.prog 63 #[filV A n c f, .int .i64 k] w fun e w' => e = .returned (.int .i64 L) ∧ Ext w w' := by
  obtain ⟨L0, a0, a1, a2, ⟨a3, a4⟩, a5⟩ := kept_facts n f k h0 h1 hn
  obtain rfl : L0 = L := by omega
  obtain ⟨m, hm⟩ : ∃ m, (n : Int) - f + 1 = m := ⟨_, rfl⟩
  rw [hm] at a2 a3 a4 a5
  obtain ⟨r, hr⟩ : ∃ r, k.tmod m = r := ⟨_, rfl⟩
  rw [hr] at a3 a4 a5
  have g : f + ((L0 : Int) - f) = L0 := by omega
  have hw1 : IntKind.i64.wrap (r + m) = r + m := IntWalk.i64_in _ (by omega)
  have hw2 : IntKind.i64.wrap (L0 : Int) = L0 := IntWalk.i64_in _ (by omega)
  clear a1 hL
  go_enter Tryz.func63, Tryz.ntmps63
  go_wp2_with fail
  refine wp_region_ord_same (.f 0 (.f 1 (.f 2 (.f 3 (.f 4 (.f 5 (.f 6 (.f 7 (.f 8 (.f 9 (.f 10 .d))))))))))) (by kernel_rfl) (by kernel_rfl) ?_
  repeat ((first | refine wpOrd_pass rfl rfl ?_ | (refine wpOrd_free (v := ?_) rfl rfl (fun _ hS => ?_) ?_; rotate_left; focus (go_simp; try with_reducible rfl))); simp only [Act.put, zp1, zp2, zp3, zp4, zp5, zp6])
  refine wpOrd_nil ?_
  go_wp2_with fail
  go_ret
  exact ⟨ret_val rfl, (by repeat (first | (with_reducible first | exact Ext.refl _ | exact Ext.same _ _ _ _ | assumption | apply Ext.alloc | apply Ext.ext | apply Ext.drew) | (with_reducible refine Ext.setCell ?_ _ _ ?_; rotate_left; focus (first | omega | (simp only [zs1, zs2, zs3, size_ext]; omega)))))⟩
set_option maxRecDepth 100000 in
set_option maxHeartbeats 4000000 in
theorem rCrash_any (A0 : Option Addr) (n0 c0 : Nat) (A1 : Option Addr) (n1 c1 : Nat) (D : DriveD) (k0 k1 : Int) (hs0 : n0 ≤ 140737488355328) (hs1 : n1 ≤ 140737488355328) (w : World) (hD : DrvY w D A0 n0 c0 A1 n1 c1) :
    Calls Tryz.prog 14 #[drvV A0 n0 c0 D.f0.firm A1 n1 c1 D.f1.firm, .agg #[.int .i64 k0, .int .i64 k1]] w fun e w' => ∃ B0 m0 d0 B1 m1 d1, e = .returned (drvV B0 m0 d0 (crashD D k0 k1).f0.firm B1 m1 d1 (crashD D k0 k1).f1.firm) ∧ DrvX w.heap.size w' (crashD D k0 k1) B0 m0 d0 B1 m1 d1 ∧ Ext w w' := by
  obtain ⟨hl0, hl1, hc0, hc1, hbig0, hbig1, hb0, hb1⟩ := hD
  have hdo := driveOk_eq D n0 n1 hl0 hl1
  cases hk : dOk n0 D.f0.firm n1 D.f1.firm with
  | false =>
    rw [hk] at hdo
    have HS : Hid (crashD D k0 k1 = D) := hid (by simp [crashD, hdo])
    clear hdo
    go_enter Tryz.func14, Tryz.ntmps14
    go_wp2_with (first | (go_at_call 59; refine (risDrive_any _ _ _ _ _ _ _ _ _).mono ?_; rintro e w1 ⟨rfl, E1, d1, rfl⟩) | (go_at_call 60; refine (sameDrive_any _ _ _ _ _ _ _ _ _ _ (by first | rfl | assumption) (by first | rfl | assumption) (by omega) (by omega) _ (by with_reducible repeat (first | assumption | apply Byt.ext | apply Byt.alloc | apply Byt.drew | (refine Byt.of_ext ?_ (by assumption)))) (by with_reducible repeat (first | assumption | apply Byt.ext | apply Byt.alloc | apply Byt.drew | (refine Byt.of_ext ?_ (by assumption))))).mono ?_; rintro e w1 ⟨Bs1, ds1, Bt1, dt1, rfl, hos1, hot1, E1, d1, rfl⟩))
    refine bodyPost_ret (v := drvV Bs1 n0 ds1 D.f0.firm Bt1 n1 dt1 D.f1.firm) (by simp [results, Tryz.results14, go_sem]) rfl ?_
    refine ⟨Bs1, n0, ds1, Bt1, n1, dt1, by rw [HS.out], ?_, (by repeat (first | (with_reducible first | exact Ext.refl _ | exact Ext.same _ _ _ _ | assumption | apply Ext.alloc | apply Ext.ext | apply Ext.drew) | (with_reducible refine Ext.setCell ?_ _ _ ?_; rotate_left; focus (first | omega | (simp only [zs1, zs2, zs3, size_ext]; omega)))))⟩
    rw [HS.out]
    refine ⟨hl0.symm, hl1.symm, ?_, ?_⟩
    · exact OwnB.moved2 hos1 (by repeat (first | (with_reducible first | exact Ext.refl _ | exact Ext.same _ _ _ _ | assumption | apply Ext.alloc | apply Ext.ext | apply Ext.drew) | (with_reducible refine Ext.setCell ?_ _ _ ?_; rotate_left; focus (first | omega | (simp only [zs1, zs2, zs3, size_ext]; omega))))) (by simp [World.size_alloc]) (by simp [World.size_alloc]) (by simp [World.size_alloc]; try omega)
    · exact OwnB.moved2 hot1 (by repeat (first | (with_reducible first | exact Ext.refl _ | exact Ext.same _ _ _ _ | assumption | apply Ext.alloc | apply Ext.ext | apply Ext.drew) | (with_reducible refine Ext.setCell ?_ _ _ ?_; rotate_left; focus (first | omega | (simp only [zs1, zs2, zs3, size_ext]; omega))))) (by simp [World.size_alloc]) (by simp [World.size_alloc]) (by simp [World.size_alloc]; try omega)
  | true =>
    rw [hk] at hdo
    obtain ⟨⟨⟨i0, i1⟩, i2⟩, ⟨⟨j0, j1⟩, j2⟩⟩ : ((0 ≤ D.f0.firm ∧ D.f0.firm ≤ n0) ∧ n0 ≤ 100000) ∧ ((0 ≤ D.f1.firm ∧ D.f1.firm ≤ n1) ∧ n1 ≤ 100000) := by
      simpa [dOk, fOk, inB, Bool.and_eq_true] using hk
    obtain ⟨f0, hf0⟩ : ∃ f0, D.f0.firm = f0 := ⟨_, rfl⟩
    obtain ⟨f1, hf1⟩ : ∃ f1, D.f1.firm = f1 := ⟨_, rfl⟩
    rw [hf0] at i0 i1 hk
    rw [hf1] at j0 j1 hk
    rw [hf0, hf1]
    obtain ⟨M0, a0, a1, -⟩ := kept_facts n0 f0 k0 i0 i1 i2
    obtain ⟨M1, b0, b1, -⟩ := kept_facts n1 f1 k1 j0 j1 j2
    have q0 : keptI D.f0 k0 = M0 := by rw [keptI, hl0, hf0]; exact a1
    have q1 : keptI D.f1 k1 = M1 := by rw [keptI, hl1, hf1]; exact b1
    have HS : Hid (crashD D k0 k1 = ⟨⟨D.f0.bytes.take M0, M0⟩, ⟨D.f1.bytes.take M1, M1⟩⟩) := hid (by
      rw [crashD, if_pos hdo, crashF, crashF, q0, q1]
      simp)
    have HA := hid a1
    have HB := hid b1
    clear hdo a1 b1 q0 q1 hf0 hf1
    go_enter Tryz.func14, Tryz.ntmps14
    go_wp2_with (go_at_call 59; refine (risDrive_any _ _ _ _ _ _ _ _ _).mono ?_; rintro e w1 ⟨rfl, E1, d1, rfl⟩)
    refine wp_region_ord (.f 0 (.f 1 (.f 2 (.f 3 (.f 4 (.f 5 (.f 6 (.f 7 (.f 10 (.f 11 (.f 12 (.f 13 (.f 14 (.f 15 (.f 16 (.f 17 (.a 8 (.a 9 (.a 18 (.a 19 (.f 20 (.f 21 (.a 22 .d))))))))))))))))))))))) (Ext ((w.alloc (.cells #[.slice A0 n0 c0, .int .i64 f0, .slice A1 n1 c1, .int .i64 f1] 27)).alloc (.cells #[.int .i64 k0, .int .i64 k1] 28))) (by kernel_rfl) (by kernel_rfl) (by repeat (first | (with_reducible first | exact Ext.refl _ | exact Ext.same _ _ _ _ | assumption | apply Ext.alloc | apply Ext.ext | apply Ext.drew) | (with_reducible refine Ext.setCell ?_ _ _ ?_; rotate_left; focus (first | omega | (simp only [zs1, zs2, zs3, size_ext]; omega))) | (with_reducible refine Ext.trans ?_ (by assumption)))) ?_
    repeat ((first | refine wpOrd_pass rfl rfl ?_ | (refine wpOrd_free (v := ?_) rfl rfl (fun _ hS => ?_) ?_; rotate_left; focus (obtain ⟨E9, d9, rfl⟩ := hS; go_simp; try with_reducible rfl))); simp only [Act.put, zp1, zp2, zp3, zp4, zp5, zp6])
    refine wpOrd_call rfl rfl rfl Tryz.call63 (fun R hR => ?_)
    go_simp
    refine (kept_any _ _ _ _ _ _ (by assumption) (by assumption) (by omega) (by first | exact HA.out | exact HB.out) _).mono ?_
    rintro e w1 ⟨rfl, E201, d201, rfl⟩
    refine hR _ _ ⟨_, rfl, ?_, ?_⟩
    · exact (by repeat (first | (with_reducible first | exact Ext.refl _ | exact Ext.same _ _ _ _ | assumption | apply Ext.alloc | apply Ext.ext | apply Ext.drew) | (with_reducible refine Ext.setCell ?_ _ _ ?_; rotate_left; focus (first | omega | (simp only [zs1, zs2, zs3, size_ext]; omega))) | (with_reducible refine Ext.trans ?_ (by assumption))))
    clear hR R
    simp only [Act.put, zp1, zp2, zp3, zp4, zp5, zp6]
    refine wpOrd_call rfl rfl rfl Tryz.call61 (fun R hR => ?_)
    go_simp
    refine (cut_any _ _ _ _ _ _ (by first | rfl | assumption) (by omega) (by omega) (by omega) _ (by with_reducible repeat (first | assumption | apply Byt.ext | apply Byt.alloc | apply Byt.drew | (refine Byt.of_ext ?_ (by assumption))))).mono ?_
    rintro e w1 ⟨Af202, cf202, rfl, hbf202, E202, d202, rfl⟩
    refine hR _ _ ⟨_, rfl, ?_, ?_⟩
    · exact (by repeat (first | (with_reducible first | exact Ext.refl _ | exact Ext.same _ _ _ _ | assumption | apply Ext.alloc | apply Ext.ext | apply Ext.drew) | (with_reducible refine Ext.setCell ?_ _ _ ?_; rotate_left; focus (first | omega | (simp only [zs1, zs2, zs3, size_ext]; omega))) | (with_reducible refine Ext.trans ?_ (by assumption))))
    clear hR R
    simp only [Act.put, zp1, zp2, zp3, zp4, zp5, zp6]
    refine wpOrd_call rfl rfl rfl Tryz.call63 (fun R hR => ?_)
    go_simp
    refine (kept_any _ _ _ _ _ _ (by assumption) (by assumption) (by omega) (by first | exact HA.out | exact HB.out) _).mono ?_
    rintro e w1 ⟨rfl, E203, d203, rfl⟩
    refine hR _ _ ⟨_, rfl, ?_, ?_⟩
    · exact (by repeat (first | (with_reducible first | exact Ext.refl _ | exact Ext.same _ _ _ _ | assumption | apply Ext.alloc | apply Ext.ext | apply Ext.drew) | (with_reducible refine Ext.setCell ?_ _ _ ?_; rotate_left; focus (first | omega | (simp only [zs1, zs2, zs3, size_ext]; omega))) | (with_reducible refine Ext.trans ?_ (by assumption))))
    clear hR R
    simp only [Act.put, zp1, zp2, zp3, zp4, zp5, zp6]
    refine wpOrd_call rfl rfl rfl Tryz.call61 (fun R hR => ?_)
    go_simp
    refine (cut_any _ _ _ _ _ _ (by first | rfl | assumption) (by omega) (by omega) (by omega) _ (by with_reducible repeat (first | assumption | apply Byt.ext | apply Byt.alloc | apply Byt.drew | (refine Byt.of_ext ?_ (by assumption))))).mono ?_
    rintro e w1 ⟨Af204, cf204, rfl, hbf204, E204, d204, rfl⟩
    refine hR _ _ ⟨_, rfl, ?_, ?_⟩
    · exact (by repeat (first | (with_reducible first | exact Ext.refl _ | exact Ext.same _ _ _ _ | assumption | apply Ext.alloc | apply Ext.ext | apply Ext.drew) | (with_reducible refine Ext.setCell ?_ _ _ ?_; rotate_left; focus (first | omega | (simp only [zs1, zs2, zs3, size_ext]; omega))) | (with_reducible refine Ext.trans ?_ (by assumption))))
    clear hR R
    simp only [Act.put, zp1, zp2, zp3, zp4, zp5, zp6]
    repeat ((first | refine wpOrd_pass rfl rfl ?_ | (refine wpOrd_free (v := ?_) rfl rfl (fun _ hS => ?_) ?_; rotate_left; focus (obtain ⟨E9, d9, rfl⟩ := hS; go_simp; try with_reducible rfl))); simp only [Act.put, zp1, zp2, zp3, zp4, zp5, zp6])
    refine wpOrd_act rfl rfl (fun K hK => ?_)
    go_simp
    refine hK _ _ ⟨?_, ?_⟩
    · exact (by repeat (first | (with_reducible first | exact Ext.refl _ | exact Ext.same _ _ _ _ | assumption | apply Ext.alloc | apply Ext.ext | apply Ext.drew) | (with_reducible refine Ext.setCell ?_ _ _ ?_; rotate_left; focus (first | omega | (simp only [zs1, zs2, zs3, size_ext]; omega))) | (with_reducible refine Ext.trans ?_ (by assumption))))
    clear hK K
    try simp only [Act.put, zp1, zp2, zp3, zp4, zp5, zp6]
    refine wpOrd_nil ?_
    all_goals
      go_wp2_with fail
    all_goals
      refine bodyPost_ret (v := drvV Af202 M0 cf202 M0 Af204 M1 cf204 M1) (by simp [results, Tryz.results14, go_sem]) rfl ?_
      refine ⟨Af202, M0, cf202, Af204, M1, cf204, by rw [HS.out], ?_, (by repeat (first | (with_reducible first | exact Ext.refl _ | exact Ext.same _ _ _ _ | assumption | apply Ext.alloc | apply Ext.ext | apply Ext.drew) | (with_reducible refine Ext.setCell ?_ _ _ ?_; rotate_left; focus (first | omega | (simp only [zs1, zs2, zs3, size_ext]; omega)))))⟩
      rw [HS.out]
      refine ⟨by simp [hl0]; omega, by simp [hl1]; omega, ?_, ?_⟩
      · exact OwnB.moved2 hbf202 (by repeat (first | (with_reducible first | exact Ext.refl _ | exact Ext.same _ _ _ _ | assumption | apply Ext.alloc | apply Ext.ext | apply Ext.drew) | (with_reducible refine Ext.setCell ?_ _ _ ?_; rotate_left; focus (first | omega | (simp only [zs1, zs2, zs3, size_ext]; omega))))) (by simp [World.size_alloc]) (by simp [World.size_alloc]) (by simp [World.size_alloc]; try omega)
      · exact OwnB.moved2 hbf204 (by repeat (first | (with_reducible first | exact Ext.refl _ | exact Ext.same _ _ _ _ | assumption | apply Ext.alloc | apply Ext.ext | apply Ext.drew) | (with_reducible refine Ext.setCell ?_ _ _ ?_; rotate_left; focus (first | omega | (simp only [zs1, zs2, zs3, size_ext]; omega))))) (by simp [World.size_alloc]) (by simp [World.size_alloc]) (by simp [World.size_alloc]; try omega)
def fileEqB (f g : FileD) : Bool := decide (f.firm = g.firm) && decide (f.bytes = g.bytes)
def driveEqB (a b : DriveD) : Bool := fileEqB a.f0 b.f0 && fileEqB a.f1 b.f1
theorem driveEqB_self (a : DriveD) : driveEqB a a = true := by simp [driveEqB, fileEqB]
set_option maxRecDepth 100000 in
set_option maxHeartbeats 2000000 in
theorem SameFile_any (A B : Option Addr) (n c m d : Nat) (f g : Int) (l l' : List UInt8) (hl : l.length = n) (hl' : l'.length = m) (w : World) (hb : Byt w A l) (hb' : Byt w B l') :
    Calls Tryz.prog 55 #[filV A n c f, filV B m d g] w fun e w' => e = .returned (.bool (fileEqB ⟨l, f⟩ ⟨l', g⟩)) ∧ Ext w w' := by
  by_cases h : f = g
  · subst h
    have HE : Hid (fileEqB ⟨l, f⟩ ⟨l', f⟩ = decide (l = l')) := hid (by simp [fileEqB])
    go_enter Tryz.func55, Tryz.ntmps55
    go_wp2_with (go_at_call 116; refine (SameBytes_any _ _ _ _ _ _ l l' _ hl hl' (by with_reducible repeat (first | assumption | apply Byt.ext | apply Byt.alloc | apply Byt.drew | (refine Byt.of_ext ?_ (by assumption)))) (by with_reducible repeat (first | assumption | apply Byt.ext | apply Byt.alloc | apply Byt.drew | (refine Byt.of_ext ?_ (by assumption))))).mono ?_; rintro e w1 ⟨rfl, rfl⟩)
    go_ret
    exact ⟨ret_val (by rw [HE.out]; rfl), (by repeat (first | (with_reducible first | exact Ext.refl _ | exact Ext.same _ _ _ _ | assumption | apply Ext.alloc | apply Ext.ext | apply Ext.drew) | (with_reducible refine Ext.setCell ?_ _ _ ?_; rotate_left; focus (first | omega | (simp only [zs1, zs2, zs3, size_ext]; omega)))))⟩
  · have b0 : (f == g) = false := by simpa using h
    have HE : Hid (fileEqB ⟨l, f⟩ ⟨l', g⟩ = false) := hid (by simp [fileEqB, h])
    go_enter Tryz.func55, Tryz.ntmps55
    go_wp2_with fail
    go_ret
    exact ⟨ret_val (by rw [HE.out]; rfl), (by repeat (first | (with_reducible first | exact Ext.refl _ | exact Ext.same _ _ _ _ | assumption | apply Ext.alloc | apply Ext.ext | apply Ext.drew) | (with_reducible refine Ext.setCell ?_ _ _ ?_; rotate_left; focus (first | omega | (simp only [zs1, zs2, zs3, size_ext]; omega)))))⟩
set_option maxRecDepth 100000 in
set_option maxHeartbeats 2000000 in
theorem SameDrive_any (A0 A1 B0 B1 : Option Addr) (n0 c0 n1 c1 m0 d0 m1 d1 : Nat) (D D' : DriveD) (h0 : D.f0.bytes.length = n0) (h1 : D.f1.bytes.length = n1) (h2 : D'.f0.bytes.length = m0) (h3 : D'.f1.bytes.length = m1) (w : World)
    (hb0 : Byt w A0 D.f0.bytes) (hb1 : Byt w A1 D.f1.bytes) (hb2 : Byt w B0 D'.f0.bytes) (hb3 : Byt w B1 D'.f1.bytes) :
    Calls Tryz.prog 10 #[drvV A0 n0 c0 D.f0.firm A1 n1 c1 D.f1.firm, drvV B0 m0 d0 D'.f0.firm B1 m1 d1 D'.f1.firm] w fun e w' => e = .returned (.bool (driveEqB D D')) ∧ Ext w w' := by
  obtain ⟨⟨l0, f0⟩, ⟨l1, f1⟩⟩ := D
  obtain ⟨⟨l2, f2⟩, ⟨l3, f3⟩⟩ := D'
  simp only [] at h0 h1 h2 h3 hb0 hb1 hb2 hb3 ⊢
  have HE : Hid (driveEqB ⟨⟨l0, f0⟩, ⟨l1, f1⟩⟩ ⟨⟨l2, f2⟩, ⟨l3, f3⟩⟩ = (fileEqB ⟨l0, f0⟩ ⟨l2, f2⟩ && fileEqB ⟨l1, f1⟩ ⟨l3, f3⟩)) := hid rfl
  cases he : fileEqB ⟨l0, f0⟩ ⟨l2, f2⟩ with
  | false =>
    have HF : Hid (driveEqB ⟨⟨l0, f0⟩, ⟨l1, f1⟩⟩ ⟨⟨l2, f2⟩, ⟨l3, f3⟩⟩ = false) := hid (by rw [HE.out, he]; rfl)
    go_enter Tryz.func10, Tryz.ntmps10
    go_wp2_with (go_at_call 55; refine (SameFile_any _ _ _ _ _ _ _ _ l0 l2 h0 h2 _ (by with_reducible repeat (first | assumption | apply Byt.ext | apply Byt.alloc | apply Byt.drew | (refine Byt.of_ext ?_ (by assumption)))) (by with_reducible repeat (first | assumption | apply Byt.ext | apply Byt.alloc | apply Byt.drew | (refine Byt.of_ext ?_ (by assumption))))).mono ?_; rintro e w1 ⟨rfl, E1, d1, rfl⟩; rw [he])
    go_ret
    exact ⟨ret_val (by rw [HF.out]; rfl), (by repeat (first | (with_reducible first | exact Ext.refl _ | exact Ext.same _ _ _ _ | assumption | apply Ext.alloc | apply Ext.ext | apply Ext.drew) | (with_reducible refine Ext.setCell ?_ _ _ ?_; rotate_left; focus (first | omega | (simp only [zs1, zs2, zs3, size_ext]; omega)))))⟩
  | true =>
    have HF : Hid (driveEqB ⟨⟨l0, f0⟩, ⟨l1, f1⟩⟩ ⟨⟨l2, f2⟩, ⟨l3, f3⟩⟩ = fileEqB ⟨l1, f1⟩ ⟨l3, f3⟩) := hid (by rw [HE.out, he]; rfl)
    go_enter Tryz.func10, Tryz.ntmps10
    go_wp2_with fail
    refine (SameFile_any _ _ _ _ _ _ _ _ l0 l2 h0 h2 _ (by with_reducible repeat (first | assumption | apply Byt.ext | apply Byt.alloc | apply Byt.drew | (refine Byt.of_ext ?_ (by assumption)))) (by with_reducible repeat (first | assumption | apply Byt.ext | apply Byt.alloc | apply Byt.drew | (refine Byt.of_ext ?_ (by assumption))))).mono ?_
    rintro e w1 ⟨rfl, E1, d1, rfl⟩
    rw [he]
    go_wp2_with fail
    refine (SameFile_any _ _ _ _ _ _ _ _ l1 l3 h1 h3 _ (by with_reducible repeat (first | assumption | apply Byt.ext | apply Byt.alloc | apply Byt.drew | (refine Byt.of_ext ?_ (by assumption)))) (by with_reducible repeat (first | assumption | apply Byt.ext | apply Byt.alloc | apply Byt.drew | (refine Byt.of_ext ?_ (by assumption))))).mono ?_
    rintro e w1 ⟨rfl, E2, d2, rfl⟩
    go_wp2_with fail
    go_ret
    exact ⟨ret_val (by rw [HF.out]; rfl), (by repeat (first | (with_reducible first | exact Ext.refl _ | exact Ext.same _ _ _ _ | assumption | apply Ext.alloc | apply Ext.ext | apply Ext.drew) | (with_reducible refine Ext.setCell ?_ _ _ ?_; rotate_left; focus (first | omega | (simp only [zs1, zs2, zs3, size_ext]; omega)))))⟩
end Go.Proofs.YtekjdeibnfaehaaGreat
