/- RegisterPower: the walk. -/
import Derived.Test.YtekjdeibnfaehaaPlay
set_option linter.unusedSimpArgs false
set_option linter.unusedVariables false
namespace Go.Proofs.Ytekjdeibnfaehaa
open Go Go.RowKit

set_option maxRecDepth 100000 in
set_option maxHeartbeats 16000000 in
theorem power_walk (A : Option Addr) (n c : Nat) (l : List ActD) (x0 y0 xx1 y1 : Int) (hn : l.length = n) (hbig : n ≤ 9223372036854775807) (hall : ∀ a ∈ l, ActOk a) (hx0 : I64 x0) (hy0 : I64 y0) (hx1 : I64 xx1) (hy1 : I64 y1) (w : World) (hr : Acts w A l) :
    Calls Try.prog 7 #[.slice A n c, .agg #[.int .i64 x0, .int .i64 y0], .agg #[.int .i64 xx1, .int .i64 y1]] w fun e w' => e = .returned (.bool true) ∧ Ext w w' := by
  obtain ⟨B, hB⟩ : ∃ B : Nat, w.heap.size = B := ⟨_, rfl⟩
  have HB := hid hB
  have Hr := hid hr
  have Hall := hid hall
  clear hB hr hall
  go_enter Try.func7, Try.ntmps7
  go_wp2_with fail
  refine (New_any _).mono ?_
  rintro e P1 ⟨Aw, cw, rfl, how, x1⟩
  have z1 : Hid (B + 2 ≤ P1.heap.size) := hid (by have q := x1.below.size; have := HB.out; simp only [World.size_alloc] at q; omega)
  have b4 : Hid (BoxC P1 B [.int .i64 x0, .int .i64 y0] 48) := hid (BoxC.of_ext ((BoxC.new_at _ _ HB.out.symm).alloc _) x1)
  have b5 : Hid (BoxC P1 (B + 1) [.int .i64 xx1, .int .i64 y1] 48) := hid (BoxC.of_ext (BoxC.new_at _ _ (by simp only [World.size_alloc]; have := HB.out; omega)) x1)
  have E1 : Hid (Ext w P1) := hid (Ext.trans (by repeat (first | (with_reducible first | exact Ext.refl _ | exact Ext.same _ _ _ _ | assumption | apply Ext.alloc | apply Ext.ext | apply Ext.drew) | (with_reducible refine Ext.setCell ?_ _ _ ?_; rotate_left; focus (first | omega | (simp only [zs1, zs2, zs3, size_ext]; omega))))) x1)
  have How := hid how
  simp only [HB.out]
  clear x1 how
  go_wp2_with fail
  obtain ⟨B9, hB9⟩ : ∃ B9, P1.heap.size + 1 + 1 = B9 := ⟨_, rfl⟩
  simp only [hB9]
  have HB9 := hid hB9
  have z9 : B + 2 ≤ B9 := by have := z1.out; omega
  clear hB9
  go_loopw [10] (fun i wr => ∃ k : Nat, k ≤ n ∧ k ≤ 20 ∧ i = .int .i64 k ∧ Ext w wr ∧ BoxC wr B [.int .i64 x0, .int .i64 y0] 48 ∧ BoxC wr (B + 1) [.int .i64 xx1, .int .i64 y1] 48 ∧ PlayB wr B9 (playN l k)) (fun i _ => 20 - (intOf i).toNat)
  case atStart =>
    refine ⟨0, Nat.zero_le _, Nat.zero_le _, rfl, ((E1.out.alloc _).alloc _).alloc _, ((b4.out.alloc _).alloc _).alloc _, ((b5.out.alloc _).alloc _).alloc _, ?_⟩
    exact new_playB (OwnB.of_ext How.out (by repeat (first | (with_reducible first | exact Ext.refl _ | exact Ext.same _ _ _ _ | assumption | apply Ext.alloc | apply Ext.ext | apply Ext.drew) | (with_reducible refine Ext.setCell ?_ _ _ ?_; rotate_left; focus (first | omega | (simp only [zs1, zs2, zs3, size_ext]; omega)))))) (BoxC.new_at _ _ (by simp only [World.size_alloc]; exact HB9.out.symm))
  case round =>
    obtain ⟨k, hk, hk20, rfl, e1, b4r, b5r, hpb⟩ := hrel
    obtain ⟨A0, n0, c0, A1, n1, c1, Am, nm, cm, Af, nf, cf, Al, nl, cl, F0, F1, fi, ge, b9, hv, hpi⟩ := hpb
    have E1r := hid e1
    have B4 := hid b4r
    have B5 := hid b5r
    have B9x := hid b9
    have HPI := hid hpi
    have HV := hid hv
    have q9 := b9.cell (i := 9) rfl
    have l9 := b9.lt
    clear e1 b4r b5r hpi hv How b4 b5 E1
    by_cases hlt : k < n ∧ k < 20
    · obtain ⟨hkn, hk2⟩ := hlt
      have hkl : k < l.length := by omega
      obtain ⟨ll, kk, cnt, hokp⟩ := playN_ok l k (by omega)
      have hp1 := playN_succ l k hkl
      have htr := playN_true l (k + 1) (by omega)
      have hs0 := playN_surv l (k + 1) (by omega) x0 y0
      have hs1 := playN_surv l (k + 1) (by omega) xx1 y1
      obtain ⟨ll2, kk2, cnt2, hokp2⟩ := playN_ok l (k + 1) (by omega)
      obtain ⟨sz0, sz1, szf, szl, -⟩ := play_sizes hokp2
      have szt : (l.take (k + 1)).length ≤ 20 := by rw [List.length_take]; omega
      rw [hp1] at htr hs0 hs1 sz0 sz1 szf szl
      obtain ⟨G0, hG0⟩ : ∃ x, (doneP (playN l k) l[k]).d.f0.firm = x := ⟨_, rfl⟩
      obtain ⟨G1, hG1⟩ : ∃ x, (doneP (playN l k) l[k]).d.f1.firm = x := ⟨_, rfl⟩
      obtain ⟨gi, hgi⟩ : ∃ x, (doneP (playN l k) l[k]).m.file = x := ⟨_, rfl⟩
      obtain ⟨gg, hgg⟩ : ∃ x, (doneP (playN l k) l[k]).m.gen = x := ⟨_, rfl⟩
      have HV2 := hid (And.intro hG0 (And.intro hG1 (And.intro hgi (And.intro hgg htr))))
      have Hdn : Hid (∀ P, Ext wr P → Calls Try.prog 35 #[playV A0 n0 c0 F0 A1 n1 c1 F1 Am nm cm fi ge Af nf cf Al nl cl true, actV l[k]] P fun e w' => ∃ D0 q0 u0 D1 q1 u1 Dm qm um Df qf uf Dl ql ul, e = .returned (playV D0 q0 u0 G0 D1 q1 u1 G1 Dm qm um gi gg Df qf uf Dl ql ul true) ∧ PlayA (B9 + 1) w' (doneP (playN l k) l[k]) D0 q0 u0 D1 q1 u1 Dm qm um Df qf Dl ql ul ∧ Ext P w') := hid fun P hx => by
        have h := done_any (playN l k) ll kk cnt _ hokp (by rw [List.length_take]; omega) l[k] (Hall.out _ (List.getElem_mem hkl)) (B9 + 1) P (by have := hx.below.size; omega) A0 n0 c0 A1 n1 c1 Am nm cm Af nf cf Al nl cl (HPI.out.of_ext hx)
        obtain ⟨v0, v1, v2, v3, v4⟩ := HV.out
        rw [v0, v1, v2, v3, v4] at h
        refine h.mono ?_
        rintro e w' ⟨v, rfl, ⟨D0, q0, u0, D1, q1, u1, Dm, qm, um, Df, qf, uf, Dl, ql, ul, rfl, hpa⟩, hx'⟩
        rw [hG0, hG1, hgi, hgg, htr]
        exact ⟨D0, q0, u0, D1, q1, u1, Dm, qm, um, Df, qf, uf, Dl, ql, ul, rfl, hpa, hx'⟩
      clear hG0 hG1 hgi hgg htr hokp hokp2
      obtain ⟨g, of, rfl, hg⟩ := Acts.addr Hr.out (by omega)
      have hra : Acts wr (some ⟨g, of, none⟩) l := Sl.of_ext Hr.out E1r.out
      have lg : g < wr.heap.size := Nat.lt_of_lt_of_le hg E1r.out.below.size
      have neg : ¬ (g = B9) := by have := HB.out; have := z1.out; omega
      have ne4 : ¬ (B = B9) := by omega
      have ne5 : ¬ (B + 1 = B9) := by omega
      have ac0 : wr.cell? ⟨g, of + k * 11, none⟩ = some (.int .i64 l[k].act) := hra.row hkl 0 (by decide) rfl
      have ac1 := hra.row hkl 1 (v := .int .i64 l[k].x.a0) (by decide) rfl
      have ac2 := hra.row hkl 2 (v := .int .i64 l[k].x.a1) (by decide) rfl
      have ac3 := hra.row hkl 3 (v := .int .i64 l[k].x.a2) (by decide) rfl
      have ac4 := hra.row hkl 4 (v := .int .i64 l[k].x.a3) (by decide) rfl
      have ac5 := hra.row hkl 5 (v := .int .i64 l[k].x.a4) (by decide) rfl
      have ac6 := hra.row hkl 6 (v := .int .i64 l[k].x.a5) (by decide) rfl
      have ac7 := hra.row hkl 7 (v := .int .i64 l[k].x.a6) (by decide) rfl
      have ac8 := hra.row hkl 8 (v := .string l[k].x.text) (by decide) rfl
      have ac9 := hra.row hkl 9 (v := .int .i64 l[k].k0) (by decide) rfl
      have ac10 := hra.row hkl 10 (v := .int .i64 l[k].k1) (by decide) rfl
      obtain ⟨p2, hp2⟩ : ∃ p2, doneP (playN l k) l[k] = p2 := ⟨_, rfl⟩
      rw [hp2] at HV2 Hdn hs0 hs1 sz0 sz1 szf szl hp1
      obtain ⟨a, ha⟩ : ∃ a, l[k] = a := ⟨_, rfl⟩
      rw [ha] at Hdn ac0 ac1 ac2 ac3 ac4 ac5 ac6 ac7 ac8 ac9 ac10
      have Hp1 := hid hp1
      have Hs0 := hid hs0
      have Hs1 := hid hs1
      have Hsz := hid (And.intro sz0 (And.intro sz1 (And.intro szf (And.intro szl szt))))
      clear ha hp2 hra hp1 hs0 hs1 sz0 sz1 szf szl szt
      have qz0 := b9.cell (i := 0) rfl
      have qz1 := b9.cell (i := 1) rfl
      have qz2 := b9.cell (i := 2) rfl
      have qz3 := b9.cell (i := 3) rfl
      have qz4 := b9.cell (i := 4) rfl
      have qz5 := b9.cell (i := 5) rfl
      have qz6 := b9.cell (i := 6) rfl
      have qz7 := b9.cell (i := 7) rfl
      have qz8 := b9.cell (i := 8) rfl
      have fz := b9.frozen
      clear b9
      go_wp2_with fail
      refine wp_region_ord_but (B9) (.f 1 (.f 2 (.f 3 (.f 4 (.a 0 (.a 5 (.a 6 .d))))))) (by kernel_rfl) (by kernel_rfl) ?_
      repeat ((first | refine wpOrd_pass rfl rfl ?_ | (refine wpOrd_free (v := ?_) rfl rfl (fun _ hS => ?_) ?_; rotate_left; focus (go_simp; try with_reducible rfl))); simp only [Act.put, zp1, zp2, zp3, zp4, zp5, zp6])
      refine wpOrd_act rfl rfl (fun K hK => ?_)
      go_simp
      refine hK _ _ ⟨?_, ?_⟩
      · (first | (intro b o hb hx; go_simp; done) | (intro b o hb hx; (try (refine (World.cell?_alloc_lt _ _ _ ?_).trans ?_; focus (simp only [size_ext, zs1, zs2, zs3]; omega))); (repeat (refine (World.cell?_setCell_other _ _ _ _ ?_).trans ?_; focus exact fun e => hx (congrArg Addr.block e).symm)); go_simp; done) | (intro b o hb hx; (try rw [show ∀ (X : World) (a : Addr), X.drew.cell? a = X.cell? a from fun _ _ => rfl]); (repeat (refine (World.cell?_setCell_other _ _ _ _ ?_).trans ?_; (focus exact fun e => hx (congrArg Addr.block e).symm))); rfl) | exact fun b o hb _ => Ext.cellOf (by repeat (first | (with_reducible first | exact Ext.refl _ | exact Ext.same _ _ _ _ | assumption | apply Ext.alloc | apply Ext.ext | apply Ext.drew) | (with_reducible refine Ext.setCell ?_ _ _ ?_; rotate_left; focus (first | omega | (simp only [zs1, zs2, zs3, size_ext]; omega))))) hb | (intro b o hb hx; (try simp only [size_ext, World.size_alloc, World.size_drew, World.size_setCell] at hb hx); go_simp; try rfl))
      clear hK K
      try simp only [Act.put, zp1, zp2, zp3, zp4, zp5, zp6]
      refine wpOrd_call rfl rfl rfl Try.call35 (fun R hR => ?_)
      go_simp
      refine (Hdn.out _ (by repeat (first | (with_reducible first | exact Ext.refl _ | exact Ext.same _ _ _ _ | assumption | apply Ext.alloc | apply Ext.ext | apply Ext.drew) | (with_reducible refine Ext.setCell ?_ _ _ ?_; rotate_left; focus (first | omega | (simp only [zs1, zs2, zs3, size_ext]; omega))) | (with_reducible refine Ext.trans ?_ (by assumption))))).mono ?_
      rintro e w1 ⟨D0, q0, u0, D1, q1, u1, Dm, qm, um, Df, qf, uf, Dl, ql, ul, rfl, hpa, E1, d1, rfl⟩
      refine hR _ _ ⟨_, rfl, ?_, ?_⟩
      · (first | (intro b o hb hx; go_simp; done) | (intro b o hb hx; (try (refine (World.cell?_alloc_lt _ _ _ ?_).trans ?_; focus (simp only [size_ext, zs1, zs2, zs3]; omega))); (repeat (refine (World.cell?_setCell_other _ _ _ _ ?_).trans ?_; focus exact fun e => hx (congrArg Addr.block e).symm)); go_simp; done) | (intro b o hb hx; (try rw [show ∀ (X : World) (a : Addr), X.drew.cell? a = X.cell? a from fun _ _ => rfl]); (repeat (refine (World.cell?_setCell_other _ _ _ _ ?_).trans ?_; (focus exact fun e => hx (congrArg Addr.block e).symm))); rfl) | exact fun b o hb _ => Ext.cellOf (by repeat (first | (with_reducible first | exact Ext.refl _ | exact Ext.same _ _ _ _ | assumption | apply Ext.alloc | apply Ext.ext | apply Ext.drew) | (with_reducible refine Ext.setCell ?_ _ _ ?_; rotate_left; focus (first | omega | (simp only [zs1, zs2, zs3, size_ext]; omega))))) hb | (intro b o hb hx; (try simp only [size_ext, World.size_alloc, World.size_drew, World.size_setCell] at hb hx); go_simp; try rfl))
      clear hR R
      simp only [Act.put, zp1, zp2, zp3, zp4, zp5, zp6]
      refine wpOrd_act rfl rfl (fun K hK => ?_)
      go_simp
      refine hK _ _ ⟨?_, ?_⟩
      · (first | (intro b o hb hx; go_simp; done) | (intro b o hb hx; (try (refine (World.cell?_alloc_lt _ _ _ ?_).trans ?_; focus (simp only [size_ext, zs1, zs2, zs3]; omega))); (repeat (refine (World.cell?_setCell_other _ _ _ _ ?_).trans ?_; focus exact fun e => hx (congrArg Addr.block e).symm)); go_simp; done) | (intro b o hb hx; (try rw [show ∀ (X : World) (a : Addr), X.drew.cell? a = X.cell? a from fun _ _ => rfl]); (repeat (refine (World.cell?_setCell_other _ _ _ _ ?_).trans ?_; (focus exact fun e => hx (congrArg Addr.block e).symm))); rfl) | exact fun b o hb _ => Ext.cellOf (by repeat (first | (with_reducible first | exact Ext.refl _ | exact Ext.same _ _ _ _ | assumption | apply Ext.alloc | apply Ext.ext | apply Ext.drew) | (with_reducible refine Ext.setCell ?_ _ _ ?_; rotate_left; focus (first | omega | (simp only [zs1, zs2, zs3, size_ext]; omega))))) hb | (intro b o hb hx; (try simp only [size_ext, World.size_alloc, World.size_drew, World.size_setCell] at hb hx); go_simp; try rfl))
      clear hK K
      try simp only [Act.put, zp1, zp2, zp3, zp4, zp5, zp6]
      refine wpOrd_nil ?_
      have e1r := E1r.out
      obtain ⟨P4, hP4⟩ : ∃ P4, ((((((((((wr.setCell ⟨B9, 0, none⟩ (.slice D0 q0 u0)).setCell ⟨B9, 1, none⟩ (.int .i64 G0)).setCell ⟨B9, 2, none⟩ (.slice D1 q1 u1)).setCell ⟨B9, 3, none⟩ (.int .i64 G1)).setCell ⟨B9, 4, none⟩ (.slice Dm qm um)).setCell ⟨B9, 5, none⟩ (.int .i64 gi)).setCell ⟨B9, 6, none⟩ (.int .i64 gg)).setCell ⟨B9, 7, none⟩ (.slice Df qf uf)).setCell ⟨B9, 8, none⟩ (.slice Dl ql ul)).setCell ⟨B9, 9, none⟩ (.bool true)).drew.ext E1 d1 = P4 := ⟨_, rfl⟩
      rw [hP4]
      have b9 : BoxC P4 B9 [.slice D0 q0 u0, .int .i64 G0, .slice D1 q1 u1, .int .i64 G1, .slice Dm qm um, .int .i64 gi, .int .i64 gg, .slice Df qf uf, .slice Dl ql ul, .bool true] 68 := by rw [← hP4]; exact ((((((((((B9x.out.set 0 (.slice D0 q0 u0)).set 1 (.int .i64 G0)).set 2 (.slice D1 q1 u1)).set 3 (.int .i64 G1)).set 4 (.slice Dm qm um)).set 5 (.int .i64 gi)).set 6 (.int .i64 gg)).set 7 (.slice Df qf uf)).set 8 (.slice Dl ql ul)).set 9 (.bool true)).drew.of_ext ((Ext.refl _).ext _ _)
      have b4 : BoxC P4 B [.int .i64 x0, .int .i64 y0] 48 := by rw [← hP4]; exact ((((((((((B4.out.other 0 (.slice D0 q0 u0) (fun e => ne4 e.symm)).other 1 (.int .i64 G0) (fun e => ne4 e.symm)).other 2 (.slice D1 q1 u1) (fun e => ne4 e.symm)).other 3 (.int .i64 G1) (fun e => ne4 e.symm)).other 4 (.slice Dm qm um) (fun e => ne4 e.symm)).other 5 (.int .i64 gi) (fun e => ne4 e.symm)).other 6 (.int .i64 gg) (fun e => ne4 e.symm)).other 7 (.slice Df qf uf) (fun e => ne4 e.symm)).other 8 (.slice Dl ql ul) (fun e => ne4 e.symm)).other 9 (.bool true) (fun e => ne4 e.symm)).drew.of_ext ((Ext.refl _).ext _ _)
      have b5 : BoxC P4 (B + 1) [.int .i64 xx1, .int .i64 y1] 48 := by rw [← hP4]; exact ((((((((((B5.out.other 0 (.slice D0 q0 u0) (fun e => ne5 e.symm)).other 1 (.int .i64 G0) (fun e => ne5 e.symm)).other 2 (.slice D1 q1 u1) (fun e => ne5 e.symm)).other 3 (.int .i64 G1) (fun e => ne5 e.symm)).other 4 (.slice Dm qm um) (fun e => ne5 e.symm)).other 5 (.int .i64 gi) (fun e => ne5 e.symm)).other 6 (.int .i64 gg) (fun e => ne5 e.symm)).other 7 (.slice Df qf uf) (fun e => ne5 e.symm)).other 8 (.slice Dl ql ul) (fun e => ne5 e.symm)).other 9 (.bool true) (fun e => ne5 e.symm)).drew.of_ext ((Ext.refl _).ext _ _)
      have hpa4 : PlayA (B9 + 1) P4 p2 D0 q0 u0 D1 q1 u1 Dm qm um Df qf Dl ql ul := by
        have h := ((((((((((hpa.set (b := B9) (i := 0) (v := .slice D0 q0 u0) (by omega)).set (b := B9) (i := 1) (v := .int .i64 G0) (by omega)).set (b := B9) (i := 2) (v := .slice D1 q1 u1) (by omega)).set (b := B9) (i := 3) (v := .int .i64 G1) (by omega)).set (b := B9) (i := 4) (v := .slice Dm qm um) (by omega)).set (b := B9) (i := 5) (v := .int .i64 gi) (by omega)).set (b := B9) (i := 6) (v := .int .i64 gg) (by omega)).set (b := B9) (i := 7) (v := .slice Df qf uf) (by omega)).set (b := B9) (i := 8) (v := .slice Dl ql ul) (by omega)).set (b := B9) (i := 9) (v := .bool true) (by omega))
        simp only [setCell_dx, World.size_setCell, l9] at h
        rw [hP4] at h
        exact h
      have e4 : Ext w P4 := by
        rw [← hP4]
        have hB := HB.out
        exact (by repeat (first | (with_reducible first | exact Ext.refl _ | exact Ext.same _ _ _ _ | assumption | apply Ext.alloc | apply Ext.ext | apply Ext.drew) | (with_reducible refine Ext.setCell ?_ _ _ ?_; rotate_left; focus (first | omega | (simp only [zs1, zs2, zs3, size_ext]; omega))) | (with_reducible refine Ext.trans ?_ (by assumption))))
      have Hsu : Hid (∀ (P : World) (x y : Int) (cf2 : Nat), Ext P4 P → I64 x → I64 y → survB p2 x y = true → Calls Try.prog 36 #[drvV D0 q0 u0 G0 D1 q1 u1 G1, regV Df qf cf2, .slice Dl ql ul, .agg #[.int .i64 x, .int .i64 y]] P fun e w' => e = .returned (.bool true) ∧ Ext P w') := hid fun P x y cf2 hx hx' hy' hs => by
        have i0 := hpa4.d.l0
        have i1 := hpa4.d.l1
        have i2 := hpa4.fl
        have i3 := hpa4.ll
        obtain ⟨z0, z1, z2, z3, z4⟩ := Hsz.out
        have h := survives_any D0 q0 u0 D1 q1 u1 p2.d Df Dl qf cf2 ql ul p2.firm p2.later x y hpa4.fl hpa4.ll hpa4.lc (by omega) (by omega) (by omega) hx' hy' P (hpa4.d.read.of_ext hx) (hpa4.f.read.of_ext hx) (hpa4.l.read.of_ext hx)
        obtain ⟨v0, v1, v2, v3, v4⟩ := HV2.out
        rw [v0, v1, show survD p2.d p2.firm p2.later x y = true from hs] at h
        exact h
      have r0 := b9.cell (i := 0) rfl
      have r1 := b9.cell (i := 1) rfl
      have r2 := b9.cell (i := 2) rfl
      have r3 := b9.cell (i := 3) rfl
      have r7 := b9.cell (i := 7) rfl
      have r8 := b9.cell (i := 8) rfl
      have r9 := b9.cell (i := 9) rfl
      have s0 := b4.cell (i := 0) rfl
      have s1 := b4.cell (i := 1) rfl
      have m9 := b9.lt
      have m4 := b4.lt
      have B9n := hid b9
      have B4n := hid b4
      have B5n := hid b5
      have HPA := hid hpa4
      have E4 := hid e4
      clear b9 b4 b5 hpa4 e4 hP4 hpa e1r E1r q9 l9 fz qz0 qz1 qz2 qz3 qz4 qz5 qz6 qz7 qz8 Hdn HPI B9x B4 B5 ac0 ac1 ac2 ac3 ac4 ac5 ac6 ac7 ac8 ac9 ac10
      go_wp2_with fail
      refine (Hsu.out _ _ _ _ (Ext.refl _) hx0 hy0 Hs0.out).mono ?_
      rintro e P5 ⟨rfl, x45⟩
      have b9 := B9n.out.of_ext x45
      have b5 := B5n.out.of_ext x45
      have X45 := hid x45
      have t0 := b9.cell (i := 0) rfl
      have t1 := b9.cell (i := 1) rfl
      have t2 := b9.cell (i := 2) rfl
      have t3 := b9.cell (i := 3) rfl
      have t7 := b9.cell (i := 7) rfl
      have t8 := b9.cell (i := 8) rfl
      have t9 := b9.cell (i := 9) rfl
      have v0 := b5.cell (i := 0) rfl
      have v1 := b5.cell (i := 1) rfl
      have n9 := b9.lt
      have n5 := b5.lt
      clear r0 r1 r2 r3 r7 r8 r9 s0 s1 m9 m4 b9 b5 x45
      go_wp2_with fail
      refine (Hsu.out _ _ _ _ X45.out hx1 hy1 Hs1.out).mono ?_
      rintro e P6 ⟨rfl, x56⟩
      have x46 := X45.out.trans x56
      have b9 := B9n.out.of_ext x46
      have w9 := b9.cell (i := 9) rfl
      have o9 := b9.lt
      have fz9 := b9.frozen 9
      have B9o := hid b9
      have B4o := hid (B4n.out.of_ext x46)
      have B5o := hid (B5n.out.of_ext x46)
      have E6 := hid (E4.out.trans x46)
      have HPA6 := hid (HPA.out.of_ext x46)
      clear t0 t1 t2 t3 t7 t8 t9 v0 v1 n9 n5 b9 x56 x46 X45 B9n B4n B5n E4 HPA Hsu
      go_wp2_with fail
      have hB := HB.out
      have e6 := E6.out
      refine ⟨⟨k + 1, by omega, by omega, by go_num, (by repeat (first | (with_reducible first | exact Ext.refl _ | exact Ext.same _ _ _ _ | assumption | apply Ext.alloc | apply Ext.ext | apply Ext.drew) | (with_reducible refine Ext.setCell ?_ _ _ ?_; rotate_left; focus (first | omega | (simp only [zs1, zs2, zs3, size_ext]; omega))) | (with_reducible refine Ext.trans ?_ (by assumption)))), B4o.out.other _ _ (fun e => ne4 e.symm), B5o.out.other _ _ (fun e => ne5 e.symm), ?_⟩, by simp [intOf]; omega⟩
      rw [Hp1.out]
      exact ⟨D0, q0, u0, D1, q1, u1, Dm, qm, um, Df, qf, uf, Dl, ql, ul, G0, G1, gi, gg, B9o.out.set 9 (.bool true), HV2.out, (HPA6.out.set (by omega)).weak⟩
    · have hB := HB.out
      have e1 := E1r.out
      have hks : ¬ (k < n) ∨ ¬ (k < 20) := by omega
      clear b9 HPI HV B9x B4 B5 hlt
      rcases hks with hks | hks
      · have : k = n := by omega
        subst this
        go_wp2_with (go_at_call 17; refine (sane_any _).mono ?_; rintro e w1 ⟨rfl, E1, d1, rfl⟩)
        go_ret
        exact ⟨ret_val rfl, (by repeat (first | (with_reducible first | exact Ext.refl _ | exact Ext.same _ _ _ _ | assumption | apply Ext.alloc | apply Ext.ext | apply Ext.drew) | (with_reducible refine Ext.setCell ?_ _ _ ?_; rotate_left; focus (first | omega | (simp only [zs1, zs2, zs3, size_ext]; omega))) | (with_reducible refine Ext.trans ?_ (by assumption))))⟩
      · by_cases hkn : k < n
        · skip
          go_wp2_with (go_at_call 17; refine (sane_any _).mono ?_; rintro e w1 ⟨rfl, E1, d1, rfl⟩)
          go_ret
          exact ⟨ret_val rfl, (by repeat (first | (with_reducible first | exact Ext.refl _ | exact Ext.same _ _ _ _ | assumption | apply Ext.alloc | apply Ext.ext | apply Ext.drew) | (with_reducible refine Ext.setCell ?_ _ _ ?_; rotate_left; focus (first | omega | (simp only [zs1, zs2, zs3, size_ext]; omega))) | (with_reducible refine Ext.trans ?_ (by assumption))))⟩
        · skip
          go_wp2_with (go_at_call 17; refine (sane_any _).mono ?_; rintro e w1 ⟨rfl, E1, d1, rfl⟩)
          go_ret
          exact ⟨ret_val rfl, (by repeat (first | (with_reducible first | exact Ext.refl _ | exact Ext.same _ _ _ _ | assumption | apply Ext.alloc | apply Ext.ext | apply Ext.drew) | (with_reducible refine Ext.setCell ?_ _ _ ?_; rotate_left; focus (first | omega | (simp only [zs1, zs2, zs3, size_ext]; omega))) | (with_reducible refine Ext.trans ?_ (by assumption))))⟩
end Go.Proofs.Ytekjdeibnfaehaa
