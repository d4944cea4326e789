/- RegisterPacks: the walk. -/
import Derived.Test.YtekjdeibnfaehaaPlay
set_option linter.unusedSimpArgs false
set_option linter.unusedVariables false
namespace Go.Proofs.Ytekjdeibnfaehaa
open Go Go.RowKit

set_option maxRecDepth 100000 in
set_option maxHeartbeats 16000000 in
theorem packs_walk (A : Option Addr) (n c : Nat) (l : List ActD) (x0 y0 : Int) (hn : l.length = n) (hbig : n ≤ 9223372036854775807) (hall : ∀ a ∈ l, ActOk a) (hx0 : I64 x0) (hy0 : I64 y0) (w : World) (hr : Acts w A l) :
    Calls Try.prog 8 #[.slice A n c, .agg #[.int .i64 x0, .int .i64 y0]] w fun e w' => e = .returned (.bool true) ∧ Ext w w' := by
  obtain ⟨B, hB⟩ : ∃ B : Nat, w.heap.size = B := ⟨_, rfl⟩
  have HB := hid hB
  have Hr := hid hr
  have Hall := hid hall
  clear hB hr hall
  go_enter Try.func8, Try.ntmps8
  go_wp2_with fail
  refine (New_any _).mono ?_
  rintro e P1 ⟨Aw, cw, rfl, how, x1⟩
  have z1 : Hid (B + 1 ≤ P1.heap.size) := hid (by have q := x1.below.size; have := HB.out; simp only [World.size_alloc] at q; omega)
  have b4 : Hid (BoxC P1 B [.int .i64 x0, .int .i64 y0] 48) := hid (BoxC.of_ext (BoxC.new_at _ _ HB.out.symm) x1)
  have E1 : Hid (Ext w P1) := hid (Ext.trans (by repeat (first | (with_reducible first | exact Ext.refl _ | exact Ext.same _ _ _ _ | assumption | apply Ext.alloc | apply Ext.ext | apply Ext.drew) | (with_reducible refine Ext.setCell ?_ _ _ ?_; rotate_left; focus (first | omega | (simp only [zs1, zs2, zs3, size_ext]; omega))))) x1)
  have How := hid how
  simp only [HB.out]
  clear x1 how
  go_wp2_with fail
  obtain ⟨B9, hB9⟩ : ∃ B9, P1.heap.size + 1 + 1 = B9 := ⟨_, rfl⟩
  simp only [hB9]
  have HB9 := hid hB9
  have z9 : B + 1 ≤ B9 := by have := z1.out; omega
  clear hB9
  go_loopw [8] (fun i wr => ∃ k : Nat, k ≤ n ∧ k ≤ 14 ∧ i = .int .i64 k ∧ Ext w wr ∧ BoxC wr B [.int .i64 x0, .int .i64 y0] 48 ∧ PlayB wr B9 (playN l k)) (fun i _ => 14 - (intOf i).toNat)
  case atStart =>
    refine ⟨0, Nat.zero_le _, Nat.zero_le _, rfl, ((E1.out.alloc _).alloc _).alloc _, ((b4.out.alloc _).alloc _).alloc _, ?_⟩
    exact new_playB (OwnB.of_ext How.out (by repeat (first | (with_reducible first | exact Ext.refl _ | exact Ext.same _ _ _ _ | assumption | apply Ext.alloc | apply Ext.ext | apply Ext.drew) | (with_reducible refine Ext.setCell ?_ _ _ ?_; rotate_left; focus (first | omega | (simp only [zs1, zs2, zs3, size_ext]; omega)))))) (BoxC.new_at _ _ (by simp only [World.size_alloc]; exact HB9.out.symm))
  case round =>
    rename_i K hK
    obtain ⟨k, hk, hk20, rfl, e1, b4r, hpb⟩ := hrel
    obtain ⟨A0, n0, c0, A1, n1, c1, Am, nm, cm, Af, nf, cf, Al, nl, cl, F0, F1, fi, ge, b9, hv, hpi⟩ := hpb
    have E1r := hid e1
    have B4 := hid b4r
    have B9x := hid b9
    have HPI := hid hpi
    have HV := hid hv
    have q9 := b9.cell (i := 9) rfl
    have l9 := b9.lt
    clear e1 b4r hpi hv How b4 E1
    by_cases hlt : k < n ∧ k < 14
    · obtain ⟨hkn, hk2⟩ := hlt
      have hkl : k < l.length := by omega
      obtain ⟨ll, kk, cnt, hokp⟩ := playN_ok l k (by omega)
      have hp1 := playN_succ l k hkl
      have htr := playN_true l (k + 1) (by omega)
      rw [hp1] at htr
      obtain ⟨G0, hG0⟩ : ∃ x, (doneP (playN l k) l[k]).d.f0.firm = x := ⟨_, rfl⟩
      obtain ⟨G1, hG1⟩ : ∃ x, (doneP (playN l k) l[k]).d.f1.firm = x := ⟨_, rfl⟩
      obtain ⟨gi, hgi⟩ : ∃ x, (doneP (playN l k) l[k]).m.file = x := ⟨_, rfl⟩
      obtain ⟨gg, hgg⟩ : ∃ x, (doneP (playN l k) l[k]).m.gen = x := ⟨_, rfl⟩
      have HV2 := hid (And.intro hG0 (And.intro hG1 (And.intro hgi (And.intro hgg htr))))
      have Hdn : Hid (∀ P, Ext wr P → Calls Try.prog 35 #[playV A0 n0 c0 F0 A1 n1 c1 F1 Am nm cm fi ge Af nf cf Al nl cl true, actV l[k]] P fun e w' => ∃ D0 q0 u0 D1 q1 u1 Dm qm um Df qf uf Dl ql ul, e = .returned (playV D0 q0 u0 G0 D1 q1 u1 G1 Dm qm um gi gg Df qf uf Dl ql ul true) ∧ PlayA (B9 + 1) w' (doneP (playN l k) l[k]) D0 q0 u0 D1 q1 u1 Dm qm um Df qf Dl ql ul ∧ Ext P w') := hid fun P hx => by
        have h := done_any (playN l k) ll kk cnt _ hokp (by rw [List.length_take]; omega) l[k] (Hall.out _ (List.getElem_mem hkl)) (B9 + 1) P (by have := hx.below.size; omega) A0 n0 c0 A1 n1 c1 Am nm cm Af nf cf Al nl cl (HPI.out.of_ext hx)
        obtain ⟨v0, v1, v2, v3, v4⟩ := HV.out
        rw [v0, v1, v2, v3, v4] at h
        refine h.mono ?_
        rintro e w' ⟨v, rfl, ⟨D0, q0, u0, D1, q1, u1, Dm, qm, um, Df, qf, uf, Dl, ql, ul, rfl, hpa⟩, hx'⟩
        rw [hG0, hG1, hgi, hgg, htr]
        exact ⟨D0, q0, u0, D1, q1, u1, Dm, qm, um, Df, qf, uf, Dl, ql, ul, rfl, hpa, hx'⟩
      clear hG0 hG1 hgi hgg htr hokp
      obtain ⟨g, of, rfl, hg⟩ := Acts.addr Hr.out (by omega)
      have hra : Acts wr (some ⟨g, of, none⟩) l := Sl.of_ext Hr.out E1r.out
      have lg : g < wr.heap.size := Nat.lt_of_lt_of_le hg E1r.out.below.size
      have neg : ¬ (g = B9) := by have := HB.out; have := z1.out; omega
      have ne4 : ¬ (B = B9) := by omega
      have ac0 : wr.cell? ⟨g, of + k * 11, none⟩ = some (.int .i64 l[k].act) := hra.row hkl 0 (by decide) rfl
      have ac1 := hra.row hkl 1 (v := .int .i64 l[k].x.a0) (by decide) rfl
      have ac2 := hra.row hkl 2 (v := .int .i64 l[k].x.a1) (by decide) rfl
      have ac3 := hra.row hkl 3 (v := .int .i64 l[k].x.a2) (by decide) rfl
      have ac4 := hra.row hkl 4 (v := .int .i64 l[k].x.a3) (by decide) rfl
      have ac5 := hra.row hkl 5 (v := .int .i64 l[k].x.a4) (by decide) rfl
      have ac6 := hra.row hkl 6 (v := .int .i64 l[k].x.a5) (by decide) rfl
      have ac7 := hra.row hkl 7 (v := .int .i64 l[k].x.a6) (by decide) rfl
      have ac8 := hra.row hkl 8 (v := .string l[k].x.text) (by decide) rfl
      have ac9 := hra.row hkl 9 (v := .int .i64 l[k].k0) (by decide) rfl
      have ac10 := hra.row hkl 10 (v := .int .i64 l[k].k1) (by decide) rfl
      obtain ⟨p2, hp2⟩ : ∃ p2, doneP (playN l k) l[k] = p2 := ⟨_, rfl⟩
      rw [hp2] at HV2 Hdn hp1
      obtain ⟨a, ha⟩ : ∃ a, l[k] = a := ⟨_, rfl⟩
      rw [ha] at Hdn ac0 ac1 ac2 ac3 ac4 ac5 ac6 ac7 ac8 ac9 ac10
      have Hp1 := hid hp1
      clear ha hp2 hra hp1
      have qz0 := b9.cell (i := 0) rfl
      have qz1 := b9.cell (i := 1) rfl
      have qz2 := b9.cell (i := 2) rfl
      have qz3 := b9.cell (i := 3) rfl
      have qz4 := b9.cell (i := 4) rfl
      have qz5 := b9.cell (i := 5) rfl
      have qz6 := b9.cell (i := 6) rfl
      have qz7 := b9.cell (i := 7) rfl
      have qz8 := b9.cell (i := 8) rfl
      have fz := b9.frozen
      clear b9
      go_wp2_with fail
      refine wp_region_ord_but (B9) (.f 1 (.f 2 (.f 3 (.f 4 (.a 0 (.a 5 (.a 6 .d))))))) (by kernel_rfl) (by kernel_rfl) ?_
      repeat ((first | refine wpOrd_pass rfl rfl ?_ | (refine wpOrd_free (v := ?_) rfl rfl (fun _ hS => ?_) ?_; rotate_left; focus (go_simp; try with_reducible rfl))); simp only [Act.put, zp1, zp2, zp3, zp4, zp5, zp6])
      refine wpOrd_act rfl rfl (fun K hK => ?_)
      go_simp
      refine hK _ _ ⟨?_, ?_⟩
      · (first | (intro b o hb hx; go_simp; done) | (intro b o hb hx; (try (refine (World.cell?_alloc_lt _ _ _ ?_).trans ?_; focus (simp only [size_ext, zs1, zs2, zs3]; omega))); (repeat (refine (World.cell?_setCell_other _ _ _ _ ?_).trans ?_; focus exact fun e => hx (congrArg Addr.block e).symm)); go_simp; done) | (intro b o hb hx; (try rw [show ∀ (X : World) (a : Addr), X.drew.cell? a = X.cell? a from fun _ _ => rfl]); (repeat (refine (World.cell?_setCell_other _ _ _ _ ?_).trans ?_; (focus exact fun e => hx (congrArg Addr.block e).symm))); rfl) | exact fun b o hb _ => Ext.cellOf (by repeat (first | (with_reducible first | exact Ext.refl _ | exact Ext.same _ _ _ _ | assumption | apply Ext.alloc | apply Ext.ext | apply Ext.drew) | (with_reducible refine Ext.setCell ?_ _ _ ?_; rotate_left; focus (first | omega | (simp only [zs1, zs2, zs3, size_ext]; omega))))) hb | (intro b o hb hx; (try simp only [size_ext, World.size_alloc, World.size_drew, World.size_setCell] at hb hx); go_simp; try rfl))
      clear hK K
      try simp only [Act.put, zp1, zp2, zp3, zp4, zp5, zp6]
      refine wpOrd_call rfl rfl rfl Try.call35 (fun R hR => ?_)
      go_simp
      refine (Hdn.out _ (by repeat (first | (with_reducible first | exact Ext.refl _ | exact Ext.same _ _ _ _ | assumption | apply Ext.alloc | apply Ext.ext | apply Ext.drew) | (with_reducible refine Ext.setCell ?_ _ _ ?_; rotate_left; focus (first | omega | (simp only [zs1, zs2, zs3, size_ext]; omega))) | (with_reducible refine Ext.trans ?_ (by assumption))))).mono ?_
      rintro e w1 ⟨D0, q0, u0, D1, q1, u1, Dm, qm, um, Df, qf, uf, Dl, ql, ul, rfl, hpa, E1, d1, rfl⟩
      refine hR _ _ ⟨_, rfl, ?_, ?_⟩
      · (first | (intro b o hb hx; go_simp; done) | (intro b o hb hx; (try (refine (World.cell?_alloc_lt _ _ _ ?_).trans ?_; focus (simp only [size_ext, zs1, zs2, zs3]; omega))); (repeat (refine (World.cell?_setCell_other _ _ _ _ ?_).trans ?_; focus exact fun e => hx (congrArg Addr.block e).symm)); go_simp; done) | (intro b o hb hx; (try rw [show ∀ (X : World) (a : Addr), X.drew.cell? a = X.cell? a from fun _ _ => rfl]); (repeat (refine (World.cell?_setCell_other _ _ _ _ ?_).trans ?_; (focus exact fun e => hx (congrArg Addr.block e).symm))); rfl) | exact fun b o hb _ => Ext.cellOf (by repeat (first | (with_reducible first | exact Ext.refl _ | exact Ext.same _ _ _ _ | assumption | apply Ext.alloc | apply Ext.ext | apply Ext.drew) | (with_reducible refine Ext.setCell ?_ _ _ ?_; rotate_left; focus (first | omega | (simp only [zs1, zs2, zs3, size_ext]; omega))))) hb | (intro b o hb hx; (try simp only [size_ext, World.size_alloc, World.size_drew, World.size_setCell] at hb hx); go_simp; try rfl))
      clear hR R
      simp only [Act.put, zp1, zp2, zp3, zp4, zp5, zp6]
      refine wpOrd_act rfl rfl (fun K hK => ?_)
      go_simp
      refine hK _ _ ⟨?_, ?_⟩
      · (first | (intro b o hb hx; go_simp; done) | (intro b o hb hx; (try (refine (World.cell?_alloc_lt _ _ _ ?_).trans ?_; focus (simp only [size_ext, zs1, zs2, zs3]; omega))); (repeat (refine (World.cell?_setCell_other _ _ _ _ ?_).trans ?_; focus exact fun e => hx (congrArg Addr.block e).symm)); go_simp; done) | (intro b o hb hx; (try rw [show ∀ (X : World) (a : Addr), X.drew.cell? a = X.cell? a from fun _ _ => rfl]); (repeat (refine (World.cell?_setCell_other _ _ _ _ ?_).trans ?_; (focus exact fun e => hx (congrArg Addr.block e).symm))); rfl) | exact fun b o hb _ => Ext.cellOf (by repeat (first | (with_reducible first | exact Ext.refl _ | exact Ext.same _ _ _ _ | assumption | apply Ext.alloc | apply Ext.ext | apply Ext.drew) | (with_reducible refine Ext.setCell ?_ _ _ ?_; rotate_left; focus (first | omega | (simp only [zs1, zs2, zs3, size_ext]; omega))))) hb | (intro b o hb hx; (try simp only [size_ext, World.size_alloc, World.size_drew, World.size_setCell] at hb hx); go_simp; try rfl))
      clear hK K
      try simp only [Act.put, zp1, zp2, zp3, zp4, zp5, zp6]
      refine wpOrd_nil ?_
      have e1r := E1r.out
      obtain ⟨P4, hP4⟩ : ∃ P4, ((((((((((wr.setCell ⟨B9, 0, none⟩ (.slice D0 q0 u0)).setCell ⟨B9, 1, none⟩ (.int .i64 G0)).setCell ⟨B9, 2, none⟩ (.slice D1 q1 u1)).setCell ⟨B9, 3, none⟩ (.int .i64 G1)).setCell ⟨B9, 4, none⟩ (.slice Dm qm um)).setCell ⟨B9, 5, none⟩ (.int .i64 gi)).setCell ⟨B9, 6, none⟩ (.int .i64 gg)).setCell ⟨B9, 7, none⟩ (.slice Df qf uf)).setCell ⟨B9, 8, none⟩ (.slice Dl ql ul)).setCell ⟨B9, 9, none⟩ (.bool true)).drew.ext E1 d1 = P4 := ⟨_, rfl⟩
      rw [hP4]
      have b9 : BoxC P4 B9 [.slice D0 q0 u0, .int .i64 G0, .slice D1 q1 u1, .int .i64 G1, .slice Dm qm um, .int .i64 gi, .int .i64 gg, .slice Df qf uf, .slice Dl ql ul, .bool true] 68 := by rw [← hP4]; exact ((((((((((B9x.out.set 0 (.slice D0 q0 u0)).set 1 (.int .i64 G0)).set 2 (.slice D1 q1 u1)).set 3 (.int .i64 G1)).set 4 (.slice Dm qm um)).set 5 (.int .i64 gi)).set 6 (.int .i64 gg)).set 7 (.slice Df qf uf)).set 8 (.slice Dl ql ul)).set 9 (.bool true)).drew.of_ext ((Ext.refl _).ext _ _)
      have b4 : BoxC P4 B [.int .i64 x0, .int .i64 y0] 48 := by rw [← hP4]; exact ((((((((((B4.out.other 0 (.slice D0 q0 u0) (fun e => ne4 e.symm)).other 1 (.int .i64 G0) (fun e => ne4 e.symm)).other 2 (.slice D1 q1 u1) (fun e => ne4 e.symm)).other 3 (.int .i64 G1) (fun e => ne4 e.symm)).other 4 (.slice Dm qm um) (fun e => ne4 e.symm)).other 5 (.int .i64 gi) (fun e => ne4 e.symm)).other 6 (.int .i64 gg) (fun e => ne4 e.symm)).other 7 (.slice Df qf uf) (fun e => ne4 e.symm)).other 8 (.slice Dl ql ul) (fun e => ne4 e.symm)).other 9 (.bool true) (fun e => ne4 e.symm)).drew.of_ext ((Ext.refl _).ext _ _)
      have hpa4 : PlayA (B9 + 1) P4 p2 D0 q0 u0 D1 q1 u1 Dm qm um Df qf Dl ql ul := by
        have h := ((((((((((hpa.set (b := B9) (i := 0) (v := .slice D0 q0 u0) (by omega)).set (b := B9) (i := 1) (v := .int .i64 G0) (by omega)).set (b := B9) (i := 2) (v := .slice D1 q1 u1) (by omega)).set (b := B9) (i := 3) (v := .int .i64 G1) (by omega)).set (b := B9) (i := 4) (v := .slice Dm qm um) (by omega)).set (b := B9) (i := 5) (v := .int .i64 gi) (by omega)).set (b := B9) (i := 6) (v := .int .i64 gg) (by omega)).set (b := B9) (i := 7) (v := .slice Df qf uf) (by omega)).set (b := B9) (i := 8) (v := .slice Dl ql ul) (by omega)).set (b := B9) (i := 9) (v := .bool true) (by omega))
        simp only [setCell_dx, World.size_setCell, l9] at h
        rw [hP4] at h
        exact h
      have e4 : Ext w P4 := by
        rw [← hP4]
        have hB := HB.out
        exact (by repeat (first | (with_reducible first | exact Ext.refl _ | exact Ext.same _ _ _ _ | assumption | apply Ext.alloc | apply Ext.ext | apply Ext.drew) | (with_reducible refine Ext.setCell ?_ _ _ ?_; rotate_left; focus (first | omega | (simp only [zs1, zs2, zs3, size_ext]; omega))) | (with_reducible refine Ext.trans ?_ (by assumption))))
      have B9n := hid b9
      have B4n := hid b4
      have HPA := hid hpa4
      have E4 := hid e4
      clear b9 b4 hpa4 e4 hP4 hpa e1r E1r q9 l9 fz qz0 qz1 qz2 qz3 qz4 qz5 qz6 qz7 qz8 Hdn HPI B9x B4 ac0 ac1 ac2 ac3 ac4 ac5 ac6 ac7 ac8 ac9 ac10
      go_wp2_with fail
      refine ⟨⟨k + 1, by omega, by omega, by go_num, E4.out, B4n.out, ?_⟩, by simp [intOf]; omega⟩
      rw [Hp1.out]
      exact ⟨D0, q0, u0, D1, q1, u1, Dm, qm, um, Df, qf, uf, Dl, ql, ul, G0, G1, gi, gg, B9n.out, HV2.out, HPA.out.weak⟩
    · obtain ⟨he, hM, d0, d1, d2, d3, hL, ho3, hm3, hway⟩ := playN_pack l k (by omega)
      obtain ⟨p, hp⟩ : ∃ p, playN l k = p := ⟨_, rfl⟩
      have hv := HV.out
      have hpi := HPI.out
      rw [hp] at he hM hL hm3 hway hv hpi
      have hmg : memOk p.d p.m = true ∧ p.m.gen ≠ 1000000000 := Classical.byContradiction fun h => by
        rw [(packE_bad h).1] at he; cases he
      have hg := pack_gen hmg.1
      have hfi := (memOk_facts hmg.1).2.1
      obtain ⟨v0, v1, v2, v3, v4⟩ := hv
      rw [hM, v2, v3] at hm3
      have Hpk : Hid (∀ P, Ext wr P → Calls Try.prog 37 #[drvV A0 n0 c0 F0 A1 n1 c1 F1, memV Am nm cm fi ge] P fun e w' => ∃ g Ag ng cg, e = .returned (.tuple #[.slice (some ⟨g, 0, none⟩) 4 4, memV Ag ng cg (1 - fi) (ge + 1), .int .i64 0]) ∧
          Drvs4 P.heap.size w' g [d0, d1, d2, d3] ∧ MemA P.heap.size w' ⟨p.m.recs, 1 - fi, ge + 1⟩ Ag ng cg ∧ Ext P w') := hid fun P hx => by
        have h := pack_ok A0 n0 c0 A1 n1 c1 p.d Am nm cm p.m hpi.m.l hmg.1 hmg.2 P (hpi.d.of_ext hx) (hpi.m.r.read.of_ext hx)
        rw [hL, v0, v1, v2, v3] at h
        exact h
      rw [v2] at hfi
      rw [v3] at hg
      obtain ⟨L, hLL⟩ : ∃ L, p.m.recs = L := ⟨_, rfl⟩
      have hnmL := hpi.m.l
      have hrL := hpi.m.r.read
      rw [hLL] at Hpk hm3 hway hnmL hrL
      have hLs : L.length ≤ 80 := by rw [← hLL]; exact (checkB_iff.1 (memOk_facts hmg.1).2.2.2.1).1
      have hw1 : IntKind.i64.wrap (ge + 1) = ge + 1 := IntWalk.i64_in _ (by omega)
      have hw2 : IntKind.i64.wrap (1 - fi) = 1 - fi := IntWalk.i64_in _ (by omega)
      have Hway := hid hway
      have Hm3 := hid hm3
      have Ho3 := hid ho3
      have HnmL := hid hnmL
      have HrL := hid hrL
      have Hfi := hid hfi
      have hnk : ¬ (k < n ∧ k < 14) := hlt
      have q0 := b9.cell (i := 0) rfl
      have q1 := b9.cell (i := 1) rfl
      have q2 := b9.cell (i := 2) rfl
      have q3 := b9.cell (i := 3) rfl
      have q4 := b9.cell (i := 4) rfl
      have q5 := b9.cell (i := 5) rfl
      have q6 := b9.cell (i := 6) rfl
      clear hway hm3 ho3 hnmL hrL hfi he hM hL hmg hg v0 v1 v2 v3 v4 hp hpi hLL HPI HV b9 hlt
      have hrest : ∀ (v29 v30 v31 v32 v33 v34 v35 v36 v37 v38 v39 v40 : Value), K ⟨#[.slice A n c, .agg #[.int .i64 x0, .int .i64 y0], undef, .pointer (some ⟨B, 0, none⟩), .bool false, .pointer (some ⟨P1.heap.size, 0, none⟩), .pointer (some ⟨P1.heap.size + 1, 0, none⟩), .pointer (some ⟨B9, 0, none⟩), .int .i64 k, undef, undef, undef, undef, undef, undef, undef, undef, undef, undef, undef, undef, undef, .tuple #[drvV Aw 10 cw 10 none 0 0 0, memV none 0 0 0 1], .tuple #[drvV Aw 10 cw 10 none 0 0 0, memV none 0 0 0 1], drvV Aw 10 cw 10 none 0 0 0, memV none 0 0 0 1, .agg #[.slice Aw 10 cw, .int .i64 10, .slice none 0 0, .int .i64 0], .agg #[.slice none 0 0, .int .i64 0, .int .i64 1], .agg #[.slice Aw 10 cw, .int .i64 10, .slice none 0 0, .int .i64 0, .slice none 0 0, .int .i64 0, .int .i64 1, .slice none 0 0, .slice none 0 0, .bool true], v29, v30, v31, v32, v33, v34, v35, v36, v37, v38, v39, v40, u41, u42, u43, u44, u45, u46, u47, u48, undef, undef, undef, undef, undef, undef, undef, undef, undef, undef, undef, undef, undef, undef, undef, undef, undef, undef, undef, undef, undef, undef, undef, undef, undef, undef, undef, undef, undef, undef, undef, undef, undef, undef, undef, undef, undef, undef, undef, undef, undef, undef, undef, undef, undef, undef, undef, undef, undef, undef, undef, undef, undef, undef, undef, undef, undef, undef, undef, undef, undef, undef, undef, undef, undef, undef, undef, undef, undef, undef, undef, undef, undef, undef, undef, undef, undef, undef, undef, undef, undef, undef, undef, undef, undef, undef, undef, undef, undef, undef, undef, undef, undef, undef, undef, undef, undef, undef, undef, undef, undef, undef, undef, undef, undef, undef, undef], []⟩ wr := by
        intro v29 v30 v31 v32 v33 v34 v35 v36 v37 v38 v39 v40
        refine hK _ _ ?_
        go_wp2_with fail
        refine (Hpk.out _ (Ext.refl _)).mono ?_
        rintro e P2 ⟨g, Ag, ng, cg, rfl, hds, hms, x2⟩
        have b9 := B9x.out.of_ext x2
        have b4 := B4.out.of_ext x2
        have E2 : Hid (Ext w P2) := hid (E1r.out.trans x2)
        have HDS := hid hds
        have HMS := hid hms
        have Hrl2 : Hid (Recs P2 Am L) := hid (HrL.out.of_ext x2)
        have HngL : Hid (L.length = ng) := hid hms.l
        have r4 := b9.cell (i := 4) rfl
        have r5 := b9.cell (i := 5) rfl
        have r6 := b9.cell (i := 6) rfl
        have r9 := b9.cell (i := 9) rfl
        have m9 := b9.lt
        have z29 : Hid (wr.heap.size ≤ P2.heap.size) := hid x2.below.size
        have B9n := hid b9
        have B4n := hid b4
        clear x2 hds hms b9 b4 B9x B4 E1r HrL q0 q1 q2 q3 q4 q5 q6 q9 Hpk
        go_wp2_with fail
        obtain ⟨B10, hB10⟩ : ∃ B10, P2.heap.size = B10 := ⟨_, rfl⟩
        obtain ⟨P3, hP3⟩ : ∃ P3, P2.alloc (.cells #[.slice Ag ng cg, .int .i64 (1 - fi), .int .i64 (ge + 1)] 64) = P3 := ⟨_, rfl⟩
        simp only [hP3, hB10]
        have x23 : Ext P2 P3 := by rw [← hP3]; exact (Ext.refl _).alloc _
        have b10 : BoxC P3 B10 [.slice Ag ng cg, .int .i64 (1 - fi), .int .i64 (ge + 1)] 64 := by rw [← hP3]; exact BoxC.new_at _ _ hB10.symm
        have B10n := hid b10
        have B9o := hid (B9n.out.of_ext x23)
        have B4o := hid (B4n.out.of_ext x23)
        have E3 := hid (E2.out.trans x23)
        have HDS3 := hid (HDS.out.of_ext x23)
        have HMS3 := hid (HMS.out.of_ext x23)
        have Hrl3 := hid (Hrl2.out.of_ext x23)
        clear b10 x23 B9n B4n E2 HDS HMS Hrl2 hP3 hB10 r4 r5 r6 r9 m9 z29
        go_loopw [12] (fun i wr2 => ∃ j : Nat, j ≤ 4 ∧ i = .int .i64 j ∧ Ext P3 wr2) (fun i _ => 4 - (intOf i).toNat)
        case atStart => exact ⟨0, by omega, rfl, Ext.refl _⟩
        case round =>
          obtain ⟨j, hj, rfl, e3⟩ := hrel
          have E3r := hid e3
          clear e3
          by_cases hj4 : j < 4
          · obtain ⟨x, hx⟩ : ∃ x, [d0, d1, d2, d3][j]? = some x := ⟨_, List.getElem?_eq_getElem hj4⟩
            have hmem : x ∈ [d0, d1, d2, d3] := List.mem_of_getElem? hx
            obtain ⟨w1, w2, w3, w4⟩ := Hway.out x hmem x0 y0
            have hds4 := HDS3.out.of_ext E3r.out
            obtain ⟨a0, q0, r0, a1, q1, r1, u0, u1, u2, u3, hdd⟩ := hds4.at_ j x hx
            have lg := hds4.hi
            have hdy := hdd.read
            have i0 := hdd.l0
            have i1 := hdd.l1
            obtain ⟨S0, hS0⟩ : ∃ S, x.f0.firm = S := ⟨_, rfl⟩
            obtain ⟨S1, hS1⟩ : ∃ S, x.f1.firm = S := ⟨_, rfl⟩
            rw [hS0] at u1
            rw [hS1] at u3
            have hdo : driveOk x = true := by
              cases h : driveOk x with
              | true => rfl
              | false => rw [(openE_bad h).1] at w3; cases w3
            obtain ⟨z0, z1⟩ := driveOk_len hdo
            obtain ⟨X, hX⟩ : ∃ X, crashD x x0 y0 = X := ⟨_, rfl⟩
            rw [hX] at w1 w2
            have Hcr0 := hid fun P (hx' : Ext wr P) => Crash_y a0 q0 r0 a1 q1 r1 x x0 y0 P (hdy.of_ext hx') (by omega) (by omega) hx0.1 hx0.2 hy0.1 hy0.2
            rw [hX, hS0, hS1] at Hcr0
            have Hop2 : Hid (∀ P, Ext wr P → Calls Try.prog 38 #[drvV a0 q0 r0 S0 a1 q1 r1 S1] P fun e w' => ∃ D0 m2 k2 D1 m3 k3 Am2 nm2 cm2 g2 g3 f2 h2, e = .returned (.tuple #[drvV D0 m2 k2 g2 D1 m3 k3 g3, memV Am2 nm2 cm2 f2 h2, .int .i64 0]) ∧ Hid (L.length = nm2) ∧ Recs w' Am2 L ∧ Ext P w') := hid fun P hx' => by
              have h := Open_y a0 q0 r0 a1 q1 r1 x P (hdy.of_ext hx')
              rw [hS0, hS1, w3] at h
              refine h.mono ?_
              rintro e w' ⟨D0, m2, k2, D1, m3, k3, Am2, nm2, cm2, rfl, -, hmx, hxx⟩
              rw [← w4]
              exact ⟨D0, m2, k2, D1, m3, k3, Am2, nm2, cm2, _, _, _, _, rfl, hid hmx.l.symm, hmx.recs, hxx⟩
            have Hop : Hid (∀ P C0 m0 k0 C1 m1 k1, DrvY P X C0 m0 k0 C1 m1 k1 → Calls Try.prog 38 #[drvV C0 m0 k0 X.f0.firm C1 m1 k1 X.f1.firm] P fun e w' => ∃ D0 m2 k2 D1 m3 k3 Am2 nm2 cm2 g2 g3 f2 h2, e = .returned (.tuple #[drvV D0 m2 k2 g2 D1 m3 k3 g3, memV Am2 nm2 cm2 f2 h2, .int .i64 0]) ∧ Hid (L.length = nm2) ∧ RecsA P.heap.size w' Am2 L ∧ Ext P w') := hid fun P C0 m0 k0 C1 m1 k1 hy => by
              have h := Open_y C0 m0 k0 C1 m1 k1 X P hy
              rw [w1] at h
              refine h.mono ?_
              rintro e w' ⟨D0, m2, k2, D1, m3, k3, Am2, nm2, cm2, rfl, -, hmx, hxx⟩
              rw [← w2]
              exact ⟨D0, m2, k2, D1, m3, k3, Am2, nm2, cm2, _, _, _, _, rfl, hid hmx.l.symm, hmx.r.anc, hxx⟩
            have Hsm : Hid (∀ P A1 n1 c1 A2 n2 c2, L.length = n1 → L.length = n2 → Recs P A1 L → Recs P A2 L → Calls Try.prog 20 #[regV A1 n1 c1, regV A2 n2 c2] P fun e w' => e = .returned (.bool true) ∧ Ext P w') := hid fun P A1 n1 c1 A2 n2 c2 h1 h2 h3 h4 => by
              have h := Same_any A1 A2 n1 c1 n2 c2 L L h1 h2 (by omega) P h3 h4
              rw [recsEqB_iff.2 rfl] at h
              exact h
            generalize X.f0.firm = X0 at Hcr0 Hop
            generalize X.f1.firm = X1 at Hcr0 Hop
            have b9 := B9o.out.of_ext E3r.out
            have b4 := B4o.out.of_ext E3r.out
            have hrl := Hrl3.out.of_ext E3r.out
            have q94 := b9.cell (i := 4) rfl
            have q40 := b4.cell (i := 0) rfl
            have q41 := b4.cell (i := 1) rfl
            have m9 := b9.lt
            have m4 := b4.lt
            clear b9 b4 hds4 hdd hdy hdo w1 w2 w3 w4 hX hS0 hS1 hx hmem i0 i1 z0 z1
            go_wp2_with fail
            refine wp_region_ord_same (.f 0 (.f 1 (.f 2 (.f 3 (.f 4 (.k3 5 (.k3 6 (.f 7 (.f 8 (.f 9 (.f 10 (.k 11 (.a 12 (.a 13 (.a 14 (.f 15 .d)))) 12 (.a 11 (.a 13 (.a 14 (.f 15 .d))))))))) 11 (.k 6 (.f 7 (.f 8 (.f 9 (.f 10 (.a 12 (.a 13 (.a 14 (.f 15 .d)))))))) 12 (.a 6 (.f 7 (.f 8 (.f 9 (.f 10 (.a 13 (.a 14 (.f 15 .d))))))))) 12 (.k 6 (.f 7 (.f 8 (.f 9 (.f 10 (.a 11 (.a 13 (.a 14 (.f 15 .d)))))))) 11 (.a 6 (.f 7 (.f 8 (.f 9 (.f 10 (.a 13 (.a 14 (.f 15 .d)))))))))) 11 (.k 5 (.k 6 (.f 7 (.f 8 (.f 9 (.f 10 (.a 12 (.a 13 (.a 14 (.f 15 .d)))))))) 12 (.a 6 (.f 7 (.f 8 (.f 9 (.f 10 (.a 13 (.a 14 (.f 15 .d))))))))) 12 (.a 5 (.a 6 (.f 7 (.f 8 (.f 9 (.f 10 (.a 13 (.a 14 (.f 15 .d)))))))))) 12 (.k 5 (.k 6 (.f 7 (.f 8 (.f 9 (.f 10 (.a 11 (.a 13 (.a 14 (.f 15 .d)))))))) 11 (.a 6 (.f 7 (.f 8 (.f 9 (.f 10 (.a 13 (.a 14 (.f 15 .d))))))))) 11 (.a 5 (.a 6 (.f 7 (.f 8 (.f 9 (.f 10 (.a 13 (.a 14 (.f 15 .d)))))))))))))))) (by kernel_rfl) (by kernel_rfl) ?_
            repeat ((first | refine wpOrd_pass rfl rfl ?_ | (refine wpOrd_free (v := ?_) rfl rfl (fun _ hS => ?_) ?_; rotate_left; focus (go_simp; try with_reducible rfl))); simp only [Act.put, zp1, zp2, zp3, zp4, zp5, zp6])
            refine wpOrd_fork3 ?_ ?_ ?_
            focus
             refine wpOrd_call rfl rfl rfl Try.call39 (fun R hR => ?_)
             go_simp
             refine (Hcr0.out _ (by repeat (first | (with_reducible first | exact Ext.refl _ | exact Ext.same _ _ _ _ | assumption | apply Ext.alloc | apply Ext.ext | apply Ext.drew) | (with_reducible refine Ext.setCell ?_ _ _ ?_; rotate_left; focus (first | omega | (simp only [zs1, zs2, zs3, size_ext]; omega))) | (with_reducible refine Ext.trans ?_ (by assumption))))).mono ?_
             rintro e w1 ⟨C0, cm0, ck0, C1, cm1, ck1, rfl, hy1, E1, d1, rfl⟩
             refine hR _ _ ⟨_, rfl, ?_, ?_⟩
             · (first | exact fun b o hb => Ext.cellOf (by repeat (first | (with_reducible first | exact Ext.refl _ | exact Ext.same _ _ _ _ | assumption | apply Ext.alloc | apply Ext.ext | apply Ext.drew) | (with_reducible refine Ext.setCell ?_ _ _ ?_; rotate_left; focus (first | omega | (simp only [zs1, zs2, zs3, size_ext]; omega))))) hb | (intro b o hb; (try simp only [size_ext, zs1, zs2, zs3] at hb); go_simp; try rfl))
             clear hR R
             simp only [Act.put, zp1, zp2, zp3, zp4, zp5, zp6]
             refine wpOrd_fork3 ?_ ?_ ?_
             focus
              refine wpOrd_call rfl rfl rfl Try.call38 (fun R hR => ?_)
              go_simp
              refine (Hop.out _ _ _ _ _ _ _ (by first | assumption | exact DrvY.of_ext (by assumption) (by repeat (first | (with_reducible first | exact Ext.refl _ | exact Ext.same _ _ _ _ | assumption | apply Ext.alloc | apply Ext.ext | apply Ext.drew) | (with_reducible refine Ext.setCell ?_ _ _ ?_; rotate_left; focus (first | omega | (simp only [zs1, zs2, zs3, size_ext]; omega))) | (with_reducible refine Ext.trans ?_ (by assumption)))))).mono ?_
              rintro e w1 ⟨oD0, om2, ok2, oD1, om3, ok3, Am2, nm2, cm2, og2, og3, of2, oh2, rfl, hnm2, hrm2, E2, d2, rfl⟩
              refine hR _ _ ⟨_, rfl, ?_, ?_⟩
              · (first | exact fun b o hb => Ext.cellOf (by repeat (first | (with_reducible first | exact Ext.refl _ | exact Ext.same _ _ _ _ | assumption | apply Ext.alloc | apply Ext.ext | apply Ext.drew) | (with_reducible refine Ext.setCell ?_ _ _ ?_; rotate_left; focus (first | omega | (simp only [zs1, zs2, zs3, size_ext]; omega))))) hb | (intro b o hb; (try simp only [size_ext, zs1, zs2, zs3] at hb); go_simp; try rfl))
              clear hR R
              simp only [Act.put, zp1, zp2, zp3, zp4, zp5, zp6]
              repeat ((first | refine wpOrd_pass rfl rfl ?_ | (refine wpOrd_free (v := ?_) rfl rfl (fun _ hS => ?_) ?_; rotate_left; focus (go_simp; try with_reducible rfl))); simp only [Act.put, zp1, zp2, zp3, zp4, zp5, zp6])
              refine wpOrd_fork ?_ ?_
              focus
               refine wpOrd_act rfl rfl (fun K hK => ?_)
               go_simp
               refine hK _ _ ⟨?_, ?_⟩
               · (first | exact fun b o hb => Ext.cellOf (by repeat (first | (with_reducible first | exact Ext.refl _ | exact Ext.same _ _ _ _ | assumption | apply Ext.alloc | apply Ext.ext | apply Ext.drew) | (with_reducible refine Ext.setCell ?_ _ _ ?_; rotate_left; focus (first | omega | (simp only [zs1, zs2, zs3, size_ext]; omega))))) hb | (intro b o hb; (try simp only [size_ext, zs1, zs2, zs3] at hb); go_simp; try rfl))
               clear hK K
               try simp only [Act.put, zp1, zp2, zp3, zp4, zp5, zp6]
               refine wpOrd_act rfl rfl (fun K hK => ?_)
               go_simp
               refine hK _ _ ⟨?_, ?_⟩
               · (first | exact fun b o hb => Ext.cellOf (by repeat (first | (with_reducible first | exact Ext.refl _ | exact Ext.same _ _ _ _ | assumption | apply Ext.alloc | apply Ext.ext | apply Ext.drew) | (with_reducible refine Ext.setCell ?_ _ _ ?_; rotate_left; focus (first | omega | (simp only [zs1, zs2, zs3, size_ext]; omega))))) hb | (intro b o hb; (try simp only [size_ext, zs1, zs2, zs3] at hb); go_simp; try rfl))
               clear hK K
               try simp only [Act.put, zp1, zp2, zp3, zp4, zp5, zp6]
               refine wpOrd_act rfl rfl (fun K hK => ?_)
               go_simp
               refine hK _ _ ⟨?_, ?_⟩
               · (first | exact fun b o hb => Ext.cellOf (by repeat (first | (with_reducible first | exact Ext.refl _ | exact Ext.same _ _ _ _ | assumption | apply Ext.alloc | apply Ext.ext | apply Ext.drew) | (with_reducible refine Ext.setCell ?_ _ _ ?_; rotate_left; focus (first | omega | (simp only [zs1, zs2, zs3, size_ext]; omega))))) hb | (intro b o hb; (try simp only [size_ext, zs1, zs2, zs3] at hb); go_simp; try rfl))
               clear hK K
               try simp only [Act.put, zp1, zp2, zp3, zp4, zp5, zp6]
               refine wpOrd_act rfl rfl (fun K hK => ?_)
               go_simp
               refine hK _ _ ⟨?_, ?_⟩
               · (first | exact fun b o hb => Ext.cellOf (by repeat (first | (with_reducible first | exact Ext.refl _ | exact Ext.same _ _ _ _ | assumption | apply Ext.alloc | apply Ext.ext | apply Ext.drew) | (with_reducible refine Ext.setCell ?_ _ _ ?_; rotate_left; focus (first | omega | (simp only [zs1, zs2, zs3, size_ext]; omega))))) hb | (intro b o hb; (try simp only [size_ext, zs1, zs2, zs3] at hb); go_simp; try rfl))
               clear hK K
               try simp only [Act.put, zp1, zp2, zp3, zp4, zp5, zp6]
               repeat ((first | refine wpOrd_pass rfl rfl ?_ | (refine wpOrd_free (v := ?_) rfl rfl (fun _ hS => ?_) ?_; rotate_left; focus (go_simp; try with_reducible rfl))); simp only [Act.put, zp1, zp2, zp3, zp4, zp5, zp6])
               refine wpOrd_nil ?_
              rotate_right
              focus
               refine wpOrd_act rfl rfl (fun K hK => ?_)
               go_simp
               refine hK _ _ ⟨?_, ?_⟩
               · (first | exact fun b o hb => Ext.cellOf (by repeat (first | (with_reducible first | exact Ext.refl _ | exact Ext.same _ _ _ _ | assumption | apply Ext.alloc | apply Ext.ext | apply Ext.drew) | (with_reducible refine Ext.setCell ?_ _ _ ?_; rotate_left; focus (first | omega | (simp only [zs1, zs2, zs3, size_ext]; omega))))) hb | (intro b o hb; (try simp only [size_ext, zs1, zs2, zs3] at hb); go_simp; try rfl))
               clear hK K
               try simp only [Act.put, zp1, zp2, zp3, zp4, zp5, zp6]
               refine wpOrd_act rfl rfl (fun K hK => ?_)
               go_simp
               refine hK _ _ ⟨?_, ?_⟩
               · (first | exact fun b o hb => Ext.cellOf (by repeat (first | (with_reducible first | exact Ext.refl _ | exact Ext.same _ _ _ _ | assumption | apply Ext.alloc | apply Ext.ext | apply Ext.drew) | (with_reducible refine Ext.setCell ?_ _ _ ?_; rotate_left; focus (first | omega | (simp only [zs1, zs2, zs3, size_ext]; omega))))) hb | (intro b o hb; (try simp only [size_ext, zs1, zs2, zs3] at hb); go_simp; try rfl))
               clear hK K
               try simp only [Act.put, zp1, zp2, zp3, zp4, zp5, zp6]
               refine wpOrd_act rfl rfl (fun K hK => ?_)
               go_simp
               refine hK _ _ ⟨?_, ?_⟩
               · (first | exact fun b o hb => Ext.cellOf (by repeat (first | (with_reducible first | exact Ext.refl _ | exact Ext.same _ _ _ _ | assumption | apply Ext.alloc | apply Ext.ext | apply Ext.drew) | (with_reducible refine Ext.setCell ?_ _ _ ?_; rotate_left; focus (first | omega | (simp only [zs1, zs2, zs3, size_ext]; omega))))) hb | (intro b o hb; (try simp only [size_ext, zs1, zs2, zs3] at hb); go_simp; try rfl))
               clear hK K
               try simp only [Act.put, zp1, zp2, zp3, zp4, zp5, zp6]
               refine wpOrd_act rfl rfl (fun K hK => ?_)
               go_simp
               refine hK _ _ ⟨?_, ?_⟩
               · (first | exact fun b o hb => Ext.cellOf (by repeat (first | (with_reducible first | exact Ext.refl _ | exact Ext.same _ _ _ _ | assumption | apply Ext.alloc | apply Ext.ext | apply Ext.drew) | (with_reducible refine Ext.setCell ?_ _ _ ?_; rotate_left; focus (first | omega | (simp only [zs1, zs2, zs3, size_ext]; omega))))) hb | (intro b o hb; (try simp only [size_ext, zs1, zs2, zs3] at hb); go_simp; try rfl))
               clear hK K
               try simp only [Act.put, zp1, zp2, zp3, zp4, zp5, zp6]
               repeat ((first | refine wpOrd_pass rfl rfl ?_ | (refine wpOrd_free (v := ?_) rfl rfl (fun _ hS => ?_) ?_; rotate_left; focus (go_simp; try with_reducible rfl))); simp only [Act.put, zp1, zp2, zp3, zp4, zp5, zp6])
               refine wpOrd_nil ?_
             rotate_right
             focus
              refine wpOrd_act rfl rfl (fun K hK => ?_)
              go_simp
              refine hK _ _ ⟨?_, ?_⟩
              · (first | exact fun b o hb => Ext.cellOf (by repeat (first | (with_reducible first | exact Ext.refl _ | exact Ext.same _ _ _ _ | assumption | apply Ext.alloc | apply Ext.ext | apply Ext.drew) | (with_reducible refine Ext.setCell ?_ _ _ ?_; rotate_left; focus (first | omega | (simp only [zs1, zs2, zs3, size_ext]; omega))))) hb | (intro b o hb; (try simp only [size_ext, zs1, zs2, zs3] at hb); go_simp; try rfl))
              clear hK K
              try simp only [Act.put, zp1, zp2, zp3, zp4, zp5, zp6]
              refine wpOrd_fork ?_ ?_
              focus
               refine wpOrd_call rfl rfl rfl Try.call38 (fun R hR => ?_)
               go_simp
               refine (Hop.out _ _ _ _ _ _ _ (by first | assumption | exact DrvY.of_ext (by assumption) (by repeat (first | (with_reducible first | exact Ext.refl _ | exact Ext.same _ _ _ _ | assumption | apply Ext.alloc | apply Ext.ext | apply Ext.drew) | (with_reducible refine Ext.setCell ?_ _ _ ?_; rotate_left; focus (first | omega | (simp only [zs1, zs2, zs3, size_ext]; omega))) | (with_reducible refine Ext.trans ?_ (by assumption)))))).mono ?_
               rintro e w1 ⟨oD0, om2, ok2, oD1, om3, ok3, Am2, nm2, cm2, og2, og3, of2, oh2, rfl, hnm2, hrm2, E3, d3, rfl⟩
               refine hR _ _ ⟨_, rfl, ?_, ?_⟩
               · (first | exact fun b o hb => Ext.cellOf (by repeat (first | (with_reducible first | exact Ext.refl _ | exact Ext.same _ _ _ _ | assumption | apply Ext.alloc | apply Ext.ext | apply Ext.drew) | (with_reducible refine Ext.setCell ?_ _ _ ?_; rotate_left; focus (first | omega | (simp only [zs1, zs2, zs3, size_ext]; omega))))) hb | (intro b o hb; (try simp only [size_ext, zs1, zs2, zs3] at hb); go_simp; try rfl))
               clear hR R
               simp only [Act.put, zp1, zp2, zp3, zp4, zp5, zp6]
               repeat ((first | refine wpOrd_pass rfl rfl ?_ | (refine wpOrd_free (v := ?_) rfl rfl (fun _ hS => ?_) ?_; rotate_left; focus (go_simp; try with_reducible rfl))); simp only [Act.put, zp1, zp2, zp3, zp4, zp5, zp6])
               refine wpOrd_act rfl rfl (fun K hK => ?_)
               go_simp
               refine hK _ _ ⟨?_, ?_⟩
               · (first | exact fun b o hb => Ext.cellOf (by repeat (first | (with_reducible first | exact Ext.refl _ | exact Ext.same _ _ _ _ | assumption | apply Ext.alloc | apply Ext.ext | apply Ext.drew) | (with_reducible refine Ext.setCell ?_ _ _ ?_; rotate_left; focus (first | omega | (simp only [zs1, zs2, zs3, size_ext]; omega))))) hb | (intro b o hb; (try simp only [size_ext, zs1, zs2, zs3] at hb); go_simp; try rfl))
               clear hK K
               try simp only [Act.put, zp1, zp2, zp3, zp4, zp5, zp6]
               refine wpOrd_act rfl rfl (fun K hK => ?_)
               go_simp
               refine hK _ _ ⟨?_, ?_⟩
               · (first | exact fun b o hb => Ext.cellOf (by repeat (first | (with_reducible first | exact Ext.refl _ | exact Ext.same _ _ _ _ | assumption | apply Ext.alloc | apply Ext.ext | apply Ext.drew) | (with_reducible refine Ext.setCell ?_ _ _ ?_; rotate_left; focus (first | omega | (simp only [zs1, zs2, zs3, size_ext]; omega))))) hb | (intro b o hb; (try simp only [size_ext, zs1, zs2, zs3] at hb); go_simp; try rfl))
               clear hK K
               try simp only [Act.put, zp1, zp2, zp3, zp4, zp5, zp6]
               refine wpOrd_act rfl rfl (fun K hK => ?_)
               go_simp
               refine hK _ _ ⟨?_, ?_⟩
               · (first | exact fun b o hb => Ext.cellOf (by repeat (first | (with_reducible first | exact Ext.refl _ | exact Ext.same _ _ _ _ | assumption | apply Ext.alloc | apply Ext.ext | apply Ext.drew) | (with_reducible refine Ext.setCell ?_ _ _ ?_; rotate_left; focus (first | omega | (simp only [zs1, zs2, zs3, size_ext]; omega))))) hb | (intro b o hb; (try simp only [size_ext, zs1, zs2, zs3] at hb); go_simp; try rfl))
               clear hK K
               try simp only [Act.put, zp1, zp2, zp3, zp4, zp5, zp6]
               repeat ((first | refine wpOrd_pass rfl rfl ?_ | (refine wpOrd_free (v := ?_) rfl rfl (fun _ hS => ?_) ?_; rotate_left; focus (go_simp; try with_reducible rfl))); simp only [Act.put, zp1, zp2, zp3, zp4, zp5, zp6])
               refine wpOrd_nil ?_
              rotate_right
              focus
               refine wpOrd_act rfl rfl (fun K hK => ?_)
               go_simp
               refine hK _ _ ⟨?_, ?_⟩
               · (first | exact fun b o hb => Ext.cellOf (by repeat (first | (with_reducible first | exact Ext.refl _ | exact Ext.same _ _ _ _ | assumption | apply Ext.alloc | apply Ext.ext | apply Ext.drew) | (with_reducible refine Ext.setCell ?_ _ _ ?_; rotate_left; focus (first | omega | (simp only [zs1, zs2, zs3, size_ext]; omega))))) hb | (intro b o hb; (try simp only [size_ext, zs1, zs2, zs3] at hb); go_simp; try rfl))
               clear hK K
               try simp only [Act.put, zp1, zp2, zp3, zp4, zp5, zp6]
               refine wpOrd_call rfl rfl rfl Try.call38 (fun R hR => ?_)
               go_simp
               refine (Hop.out _ _ _ _ _ _ _ (by first | assumption | exact DrvY.of_ext (by assumption) (by repeat (first | (with_reducible first | exact Ext.refl _ | exact Ext.same _ _ _ _ | assumption | apply Ext.alloc | apply Ext.ext | apply Ext.drew) | (with_reducible refine Ext.setCell ?_ _ _ ?_; rotate_left; focus (first | omega | (simp only [zs1, zs2, zs3, size_ext]; omega))) | (with_reducible refine Ext.trans ?_ (by assumption)))))).mono ?_
               rintro e w1 ⟨oD0, om2, ok2, oD1, om3, ok3, Am2, nm2, cm2, og2, og3, of2, oh2, rfl, hnm2, hrm2, E4, d4, rfl⟩
               refine hR _ _ ⟨_, rfl, ?_, ?_⟩
               · (first | exact fun b o hb => Ext.cellOf (by repeat (first | (with_reducible first | exact Ext.refl _ | exact Ext.same _ _ _ _ | assumption | apply Ext.alloc | apply Ext.ext | apply Ext.drew) | (with_reducible refine Ext.setCell ?_ _ _ ?_; rotate_left; focus (first | omega | (simp only [zs1, zs2, zs3, size_ext]; omega))))) hb | (intro b o hb; (try simp only [size_ext, zs1, zs2, zs3] at hb); go_simp; try rfl))
               clear hR R
               simp only [Act.put, zp1, zp2, zp3, zp4, zp5, zp6]
               repeat ((first | refine wpOrd_pass rfl rfl ?_ | (refine wpOrd_free (v := ?_) rfl rfl (fun _ hS => ?_) ?_; rotate_left; focus (go_simp; try with_reducible rfl))); simp only [Act.put, zp1, zp2, zp3, zp4, zp5, zp6])
               refine wpOrd_act rfl rfl (fun K hK => ?_)
               go_simp
               refine hK _ _ ⟨?_, ?_⟩
               · (first | exact fun b o hb => Ext.cellOf (by repeat (first | (with_reducible first | exact Ext.refl _ | exact Ext.same _ _ _ _ | assumption | apply Ext.alloc | apply Ext.ext | apply Ext.drew) | (with_reducible refine Ext.setCell ?_ _ _ ?_; rotate_left; focus (first | omega | (simp only [zs1, zs2, zs3, size_ext]; omega))))) hb | (intro b o hb; (try simp only [size_ext, zs1, zs2, zs3] at hb); go_simp; try rfl))
               clear hK K
               try simp only [Act.put, zp1, zp2, zp3, zp4, zp5, zp6]
               refine wpOrd_act rfl rfl (fun K hK => ?_)
               go_simp
               refine hK _ _ ⟨?_, ?_⟩
               · (first | exact fun b o hb => Ext.cellOf (by repeat (first | (with_reducible first | exact Ext.refl _ | exact Ext.same _ _ _ _ | assumption | apply Ext.alloc | apply Ext.ext | apply Ext.drew) | (with_reducible refine Ext.setCell ?_ _ _ ?_; rotate_left; focus (first | omega | (simp only [zs1, zs2, zs3, size_ext]; omega))))) hb | (intro b o hb; (try simp only [size_ext, zs1, zs2, zs3] at hb); go_simp; try rfl))
               clear hK K
               try simp only [Act.put, zp1, zp2, zp3, zp4, zp5, zp6]
               repeat ((first | refine wpOrd_pass rfl rfl ?_ | (refine wpOrd_free (v := ?_) rfl rfl (fun _ hS => ?_) ?_; rotate_left; focus (go_simp; try with_reducible rfl))); simp only [Act.put, zp1, zp2, zp3, zp4, zp5, zp6])
               refine wpOrd_nil ?_
             rotate_right
             focus
              refine wpOrd_act rfl rfl (fun K hK => ?_)
              go_simp
              refine hK _ _ ⟨?_, ?_⟩
              · (first | exact fun b o hb => Ext.cellOf (by repeat (first | (with_reducible first | exact Ext.refl _ | exact Ext.same _ _ _ _ | assumption | apply Ext.alloc | apply Ext.ext | apply Ext.drew) | (with_reducible refine Ext.setCell ?_ _ _ ?_; rotate_left; focus (first | omega | (simp only [zs1, zs2, zs3, size_ext]; omega))))) hb | (intro b o hb; (try simp only [size_ext, zs1, zs2, zs3] at hb); go_simp; try rfl))
              clear hK K
              try simp only [Act.put, zp1, zp2, zp3, zp4, zp5, zp6]
              refine wpOrd_fork ?_ ?_
              focus
               refine wpOrd_call rfl rfl rfl Try.call38 (fun R hR => ?_)
               go_simp
               refine (Hop.out _ _ _ _ _ _ _ (by first | assumption | exact DrvY.of_ext (by assumption) (by repeat (first | (with_reducible first | exact Ext.refl _ | exact Ext.same _ _ _ _ | assumption | apply Ext.alloc | apply Ext.ext | apply Ext.drew) | (with_reducible refine Ext.setCell ?_ _ _ ?_; rotate_left; focus (first | omega | (simp only [zs1, zs2, zs3, size_ext]; omega))) | (with_reducible refine Ext.trans ?_ (by assumption)))))).mono ?_
               rintro e w1 ⟨oD0, om2, ok2, oD1, om3, ok3, Am2, nm2, cm2, og2, og3, of2, oh2, rfl, hnm2, hrm2, E5, d5, rfl⟩
               refine hR _ _ ⟨_, rfl, ?_, ?_⟩
               · (first | exact fun b o hb => Ext.cellOf (by repeat (first | (with_reducible first | exact Ext.refl _ | exact Ext.same _ _ _ _ | assumption | apply Ext.alloc | apply Ext.ext | apply Ext.drew) | (with_reducible refine Ext.setCell ?_ _ _ ?_; rotate_left; focus (first | omega | (simp only [zs1, zs2, zs3, size_ext]; omega))))) hb | (intro b o hb; (try simp only [size_ext, zs1, zs2, zs3] at hb); go_simp; try rfl))
               clear hR R
               simp only [Act.put, zp1, zp2, zp3, zp4, zp5, zp6]
               repeat ((first | refine wpOrd_pass rfl rfl ?_ | (refine wpOrd_free (v := ?_) rfl rfl (fun _ hS => ?_) ?_; rotate_left; focus (go_simp; try with_reducible rfl))); simp only [Act.put, zp1, zp2, zp3, zp4, zp5, zp6])
               refine wpOrd_act rfl rfl (fun K hK => ?_)
               go_simp
               refine hK _ _ ⟨?_, ?_⟩
               · (first | exact fun b o hb => Ext.cellOf (by repeat (first | (with_reducible first | exact Ext.refl _ | exact Ext.same _ _ _ _ | assumption | apply Ext.alloc | apply Ext.ext | apply Ext.drew) | (with_reducible refine Ext.setCell ?_ _ _ ?_; rotate_left; focus (first | omega | (simp only [zs1, zs2, zs3, size_ext]; omega))))) hb | (intro b o hb; (try simp only [size_ext, zs1, zs2, zs3] at hb); go_simp; try rfl))
               clear hK K
               try simp only [Act.put, zp1, zp2, zp3, zp4, zp5, zp6]
               refine wpOrd_act rfl rfl (fun K hK => ?_)
               go_simp
               refine hK _ _ ⟨?_, ?_⟩
               · (first | exact fun b o hb => Ext.cellOf (by repeat (first | (with_reducible first | exact Ext.refl _ | exact Ext.same _ _ _ _ | assumption | apply Ext.alloc | apply Ext.ext | apply Ext.drew) | (with_reducible refine Ext.setCell ?_ _ _ ?_; rotate_left; focus (first | omega | (simp only [zs1, zs2, zs3, size_ext]; omega))))) hb | (intro b o hb; (try simp only [size_ext, zs1, zs2, zs3] at hb); go_simp; try rfl))
               clear hK K
               try simp only [Act.put, zp1, zp2, zp3, zp4, zp5, zp6]
               refine wpOrd_act rfl rfl (fun K hK => ?_)
               go_simp
               refine hK _ _ ⟨?_, ?_⟩
               · (first | exact fun b o hb => Ext.cellOf (by repeat (first | (with_reducible first | exact Ext.refl _ | exact Ext.same _ _ _ _ | assumption | apply Ext.alloc | apply Ext.ext | apply Ext.drew) | (with_reducible refine Ext.setCell ?_ _ _ ?_; rotate_left; focus (first | omega | (simp only [zs1, zs2, zs3, size_ext]; omega))))) hb | (intro b o hb; (try simp only [size_ext, zs1, zs2, zs3] at hb); go_simp; try rfl))
               clear hK K
               try simp only [Act.put, zp1, zp2, zp3, zp4, zp5, zp6]
               repeat ((first | refine wpOrd_pass rfl rfl ?_ | (refine wpOrd_free (v := ?_) rfl rfl (fun _ hS => ?_) ?_; rotate_left; focus (go_simp; try with_reducible rfl))); simp only [Act.put, zp1, zp2, zp3, zp4, zp5, zp6])
               refine wpOrd_nil ?_
              rotate_right
              focus
               refine wpOrd_act rfl rfl (fun K hK => ?_)
               go_simp
               refine hK _ _ ⟨?_, ?_⟩
               · (first | exact fun b o hb => Ext.cellOf (by repeat (first | (with_reducible first | exact Ext.refl _ | exact Ext.same _ _ _ _ | assumption | apply Ext.alloc | apply Ext.ext | apply Ext.drew) | (with_reducible refine Ext.setCell ?_ _ _ ?_; rotate_left; focus (first | omega | (simp only [zs1, zs2, zs3, size_ext]; omega))))) hb | (intro b o hb; (try simp only [size_ext, zs1, zs2, zs3] at hb); go_simp; try rfl))
               clear hK K
               try simp only [Act.put, zp1, zp2, zp3, zp4, zp5, zp6]
               refine wpOrd_call rfl rfl rfl Try.call38 (fun R hR => ?_)
               go_simp
               refine (Hop.out _ _ _ _ _ _ _ (by first | assumption | exact DrvY.of_ext (by assumption) (by repeat (first | (with_reducible first | exact Ext.refl _ | exact Ext.same _ _ _ _ | assumption | apply Ext.alloc | apply Ext.ext | apply Ext.drew) | (with_reducible refine Ext.setCell ?_ _ _ ?_; rotate_left; focus (first | omega | (simp only [zs1, zs2, zs3, size_ext]; omega))) | (with_reducible refine Ext.trans ?_ (by assumption)))))).mono ?_
               rintro e w1 ⟨oD0, om2, ok2, oD1, om3, ok3, Am2, nm2, cm2, og2, og3, of2, oh2, rfl, hnm2, hrm2, E6, d6, rfl⟩
               refine hR _ _ ⟨_, rfl, ?_, ?_⟩
               · (first | exact fun b o hb => Ext.cellOf (by repeat (first | (with_reducible first | exact Ext.refl _ | exact Ext.same _ _ _ _ | assumption | apply Ext.alloc | apply Ext.ext | apply Ext.drew) | (with_reducible refine Ext.setCell ?_ _ _ ?_; rotate_left; focus (first | omega | (simp only [zs1, zs2, zs3, size_ext]; omega))))) hb | (intro b o hb; (try simp only [size_ext, zs1, zs2, zs3] at hb); go_simp; try rfl))
               clear hR R
               simp only [Act.put, zp1, zp2, zp3, zp4, zp5, zp6]
               repeat ((first | refine wpOrd_pass rfl rfl ?_ | (refine wpOrd_free (v := ?_) rfl rfl (fun _ hS => ?_) ?_; rotate_left; focus (go_simp; try with_reducible rfl))); simp only [Act.put, zp1, zp2, zp3, zp4, zp5, zp6])
               refine wpOrd_act rfl rfl (fun K hK => ?_)
               go_simp
               refine hK _ _ ⟨?_, ?_⟩
               · (first | exact fun b o hb => Ext.cellOf (by repeat (first | (with_reducible first | exact Ext.refl _ | exact Ext.same _ _ _ _ | assumption | apply Ext.alloc | apply Ext.ext | apply Ext.drew) | (with_reducible refine Ext.setCell ?_ _ _ ?_; rotate_left; focus (first | omega | (simp only [zs1, zs2, zs3, size_ext]; omega))))) hb | (intro b o hb; (try simp only [size_ext, zs1, zs2, zs3] at hb); go_simp; try rfl))
               clear hK K
               try simp only [Act.put, zp1, zp2, zp3, zp4, zp5, zp6]
               refine wpOrd_act rfl rfl (fun K hK => ?_)
               go_simp
               refine hK _ _ ⟨?_, ?_⟩
               · (first | exact fun b o hb => Ext.cellOf (by repeat (first | (with_reducible first | exact Ext.refl _ | exact Ext.same _ _ _ _ | assumption | apply Ext.alloc | apply Ext.ext | apply Ext.drew) | (with_reducible refine Ext.setCell ?_ _ _ ?_; rotate_left; focus (first | omega | (simp only [zs1, zs2, zs3, size_ext]; omega))))) hb | (intro b o hb; (try simp only [size_ext, zs1, zs2, zs3] at hb); go_simp; try rfl))
               clear hK K
               try simp only [Act.put, zp1, zp2, zp3, zp4, zp5, zp6]
               repeat ((first | refine wpOrd_pass rfl rfl ?_ | (refine wpOrd_free (v := ?_) rfl rfl (fun _ hS => ?_) ?_; rotate_left; focus (go_simp; try with_reducible rfl))); simp only [Act.put, zp1, zp2, zp3, zp4, zp5, zp6])
               refine wpOrd_nil ?_
            rotate_right
            focus
             refine wpOrd_act rfl rfl (fun K hK => ?_)
             go_simp
             refine hK _ _ ⟨?_, ?_⟩
             · (first | exact fun b o hb => Ext.cellOf (by repeat (first | (with_reducible first | exact Ext.refl _ | exact Ext.same _ _ _ _ | assumption | apply Ext.alloc | apply Ext.ext | apply Ext.drew) | (with_reducible refine Ext.setCell ?_ _ _ ?_; rotate_left; focus (first | omega | (simp only [zs1, zs2, zs3, size_ext]; omega))))) hb | (intro b o hb; (try simp only [size_ext, zs1, zs2, zs3] at hb); go_simp; try rfl))
             clear hK K
             try simp only [Act.put, zp1, zp2, zp3, zp4, zp5, zp6]
             refine wpOrd_fork ?_ ?_
             focus
              refine wpOrd_call rfl rfl rfl Try.call39 (fun R hR => ?_)
              go_simp
              refine (Hcr0.out _ (by repeat (first | (with_reducible first | exact Ext.refl _ | exact Ext.same _ _ _ _ | assumption | apply Ext.alloc | apply Ext.ext | apply Ext.drew) | (with_reducible refine Ext.setCell ?_ _ _ ?_; rotate_left; focus (first | omega | (simp only [zs1, zs2, zs3, size_ext]; omega))) | (with_reducible refine Ext.trans ?_ (by assumption))))).mono ?_
              rintro e w1 ⟨C0, cm0, ck0, C1, cm1, ck1, rfl, hy7, E7, d7, rfl⟩
              refine hR _ _ ⟨_, rfl, ?_, ?_⟩
              · (first | exact fun b o hb => Ext.cellOf (by repeat (first | (with_reducible first | exact Ext.refl _ | exact Ext.same _ _ _ _ | assumption | apply Ext.alloc | apply Ext.ext | apply Ext.drew) | (with_reducible refine Ext.setCell ?_ _ _ ?_; rotate_left; focus (first | omega | (simp only [zs1, zs2, zs3, size_ext]; omega))))) hb | (intro b o hb; (try simp only [size_ext, zs1, zs2, zs3] at hb); go_simp; try rfl))
              clear hR R
              simp only [Act.put, zp1, zp2, zp3, zp4, zp5, zp6]
              refine wpOrd_fork ?_ ?_
              focus
               refine wpOrd_call rfl rfl rfl Try.call38 (fun R hR => ?_)
               go_simp
               refine (Hop.out _ _ _ _ _ _ _ (by first | assumption | exact DrvY.of_ext (by assumption) (by repeat (first | (with_reducible first | exact Ext.refl _ | exact Ext.same _ _ _ _ | assumption | apply Ext.alloc | apply Ext.ext | apply Ext.drew) | (with_reducible refine Ext.setCell ?_ _ _ ?_; rotate_left; focus (first | omega | (simp only [zs1, zs2, zs3, size_ext]; omega))) | (with_reducible refine Ext.trans ?_ (by assumption)))))).mono ?_
               rintro e w1 ⟨oD0, om2, ok2, oD1, om3, ok3, Am2, nm2, cm2, og2, og3, of2, oh2, rfl, hnm2, hrm2, E8, d8, rfl⟩
               refine hR _ _ ⟨_, rfl, ?_, ?_⟩
               · (first | exact fun b o hb => Ext.cellOf (by repeat (first | (with_reducible first | exact Ext.refl _ | exact Ext.same _ _ _ _ | assumption | apply Ext.alloc | apply Ext.ext | apply Ext.drew) | (with_reducible refine Ext.setCell ?_ _ _ ?_; rotate_left; focus (first | omega | (simp only [zs1, zs2, zs3, size_ext]; omega))))) hb | (intro b o hb; (try simp only [size_ext, zs1, zs2, zs3] at hb); go_simp; try rfl))
               clear hR R
               simp only [Act.put, zp1, zp2, zp3, zp4, zp5, zp6]
               repeat ((first | refine wpOrd_pass rfl rfl ?_ | (refine wpOrd_free (v := ?_) rfl rfl (fun _ hS => ?_) ?_; rotate_left; focus (go_simp; try with_reducible rfl))); simp only [Act.put, zp1, zp2, zp3, zp4, zp5, zp6])
               refine wpOrd_act rfl rfl (fun K hK => ?_)
               go_simp
               refine hK _ _ ⟨?_, ?_⟩
               · (first | exact fun b o hb => Ext.cellOf (by repeat (first | (with_reducible first | exact Ext.refl _ | exact Ext.same _ _ _ _ | assumption | apply Ext.alloc | apply Ext.ext | apply Ext.drew) | (with_reducible refine Ext.setCell ?_ _ _ ?_; rotate_left; focus (first | omega | (simp only [zs1, zs2, zs3, size_ext]; omega))))) hb | (intro b o hb; (try simp only [size_ext, zs1, zs2, zs3] at hb); go_simp; try rfl))
               clear hK K
               try simp only [Act.put, zp1, zp2, zp3, zp4, zp5, zp6]
               refine wpOrd_act rfl rfl (fun K hK => ?_)
               go_simp
               refine hK _ _ ⟨?_, ?_⟩
               · (first | exact fun b o hb => Ext.cellOf (by repeat (first | (with_reducible first | exact Ext.refl _ | exact Ext.same _ _ _ _ | assumption | apply Ext.alloc | apply Ext.ext | apply Ext.drew) | (with_reducible refine Ext.setCell ?_ _ _ ?_; rotate_left; focus (first | omega | (simp only [zs1, zs2, zs3, size_ext]; omega))))) hb | (intro b o hb; (try simp only [size_ext, zs1, zs2, zs3] at hb); go_simp; try rfl))
               clear hK K
               try simp only [Act.put, zp1, zp2, zp3, zp4, zp5, zp6]
               refine wpOrd_act rfl rfl (fun K hK => ?_)
               go_simp
               refine hK _ _ ⟨?_, ?_⟩
               · (first | exact fun b o hb => Ext.cellOf (by repeat (first | (with_reducible first | exact Ext.refl _ | exact Ext.same _ _ _ _ | assumption | apply Ext.alloc | apply Ext.ext | apply Ext.drew) | (with_reducible refine Ext.setCell ?_ _ _ ?_; rotate_left; focus (first | omega | (simp only [zs1, zs2, zs3, size_ext]; omega))))) hb | (intro b o hb; (try simp only [size_ext, zs1, zs2, zs3] at hb); go_simp; try rfl))
               clear hK K
               try simp only [Act.put, zp1, zp2, zp3, zp4, zp5, zp6]
               repeat ((first | refine wpOrd_pass rfl rfl ?_ | (refine wpOrd_free (v := ?_) rfl rfl (fun _ hS => ?_) ?_; rotate_left; focus (go_simp; try with_reducible rfl))); simp only [Act.put, zp1, zp2, zp3, zp4, zp5, zp6])
               refine wpOrd_nil ?_
              rotate_right
              focus
               refine wpOrd_act rfl rfl (fun K hK => ?_)
               go_simp
               refine hK _ _ ⟨?_, ?_⟩
               · (first | exact fun b o hb => Ext.cellOf (by repeat (first | (with_reducible first | exact Ext.refl _ | exact Ext.same _ _ _ _ | assumption | apply Ext.alloc | apply Ext.ext | apply Ext.drew) | (with_reducible refine Ext.setCell ?_ _ _ ?_; rotate_left; focus (first | omega | (simp only [zs1, zs2, zs3, size_ext]; omega))))) hb | (intro b o hb; (try simp only [size_ext, zs1, zs2, zs3] at hb); go_simp; try rfl))
               clear hK K
               try simp only [Act.put, zp1, zp2, zp3, zp4, zp5, zp6]
               refine wpOrd_call rfl rfl rfl Try.call38 (fun R hR => ?_)
               go_simp
               refine (Hop.out _ _ _ _ _ _ _ (by first | assumption | exact DrvY.of_ext (by assumption) (by repeat (first | (with_reducible first | exact Ext.refl _ | exact Ext.same _ _ _ _ | assumption | apply Ext.alloc | apply Ext.ext | apply Ext.drew) | (with_reducible refine Ext.setCell ?_ _ _ ?_; rotate_left; focus (first | omega | (simp only [zs1, zs2, zs3, size_ext]; omega))) | (with_reducible refine Ext.trans ?_ (by assumption)))))).mono ?_
               rintro e w1 ⟨oD0, om2, ok2, oD1, om3, ok3, Am2, nm2, cm2, og2, og3, of2, oh2, rfl, hnm2, hrm2, E9, d9, rfl⟩
               refine hR _ _ ⟨_, rfl, ?_, ?_⟩
               · (first | exact fun b o hb => Ext.cellOf (by repeat (first | (with_reducible first | exact Ext.refl _ | exact Ext.same _ _ _ _ | assumption | apply Ext.alloc | apply Ext.ext | apply Ext.drew) | (with_reducible refine Ext.setCell ?_ _ _ ?_; rotate_left; focus (first | omega | (simp only [zs1, zs2, zs3, size_ext]; omega))))) hb | (intro b o hb; (try simp only [size_ext, zs1, zs2, zs3] at hb); go_simp; try rfl))
               clear hR R
               simp only [Act.put, zp1, zp2, zp3, zp4, zp5, zp6]
               repeat ((first | refine wpOrd_pass rfl rfl ?_ | (refine wpOrd_free (v := ?_) rfl rfl (fun _ hS => ?_) ?_; rotate_left; focus (go_simp; try with_reducible rfl))); simp only [Act.put, zp1, zp2, zp3, zp4, zp5, zp6])
               refine wpOrd_act rfl rfl (fun K hK => ?_)
               go_simp
               refine hK _ _ ⟨?_, ?_⟩
               · (first | exact fun b o hb => Ext.cellOf (by repeat (first | (with_reducible first | exact Ext.refl _ | exact Ext.same _ _ _ _ | assumption | apply Ext.alloc | apply Ext.ext | apply Ext.drew) | (with_reducible refine Ext.setCell ?_ _ _ ?_; rotate_left; focus (first | omega | (simp only [zs1, zs2, zs3, size_ext]; omega))))) hb | (intro b o hb; (try simp only [size_ext, zs1, zs2, zs3] at hb); go_simp; try rfl))
               clear hK K
               try simp only [Act.put, zp1, zp2, zp3, zp4, zp5, zp6]
               refine wpOrd_act rfl rfl (fun K hK => ?_)
               go_simp
               refine hK _ _ ⟨?_, ?_⟩
               · (first | exact fun b o hb => Ext.cellOf (by repeat (first | (with_reducible first | exact Ext.refl _ | exact Ext.same _ _ _ _ | assumption | apply Ext.alloc | apply Ext.ext | apply Ext.drew) | (with_reducible refine Ext.setCell ?_ _ _ ?_; rotate_left; focus (first | omega | (simp only [zs1, zs2, zs3, size_ext]; omega))))) hb | (intro b o hb; (try simp only [size_ext, zs1, zs2, zs3] at hb); go_simp; try rfl))
               clear hK K
               try simp only [Act.put, zp1, zp2, zp3, zp4, zp5, zp6]
               repeat ((first | refine wpOrd_pass rfl rfl ?_ | (refine wpOrd_free (v := ?_) rfl rfl (fun _ hS => ?_) ?_; rotate_left; focus (go_simp; try with_reducible rfl))); simp only [Act.put, zp1, zp2, zp3, zp4, zp5, zp6])
               refine wpOrd_nil ?_
             rotate_right
             focus
              refine wpOrd_act rfl rfl (fun K hK => ?_)
              go_simp
              refine hK _ _ ⟨?_, ?_⟩
              · (first | exact fun b o hb => Ext.cellOf (by repeat (first | (with_reducible first | exact Ext.refl _ | exact Ext.same _ _ _ _ | assumption | apply Ext.alloc | apply Ext.ext | apply Ext.drew) | (with_reducible refine Ext.setCell ?_ _ _ ?_; rotate_left; focus (first | omega | (simp only [zs1, zs2, zs3, size_ext]; omega))))) hb | (intro b o hb; (try simp only [size_ext, zs1, zs2, zs3] at hb); go_simp; try rfl))
              clear hK K
              try simp only [Act.put, zp1, zp2, zp3, zp4, zp5, zp6]
              refine wpOrd_call rfl rfl rfl Try.call39 (fun R hR => ?_)
              go_simp
              refine (Hcr0.out _ (by repeat (first | (with_reducible first | exact Ext.refl _ | exact Ext.same _ _ _ _ | assumption | apply Ext.alloc | apply Ext.ext | apply Ext.drew) | (with_reducible refine Ext.setCell ?_ _ _ ?_; rotate_left; focus (first | omega | (simp only [zs1, zs2, zs3, size_ext]; omega))) | (with_reducible refine Ext.trans ?_ (by assumption))))).mono ?_
              rintro e w1 ⟨C0, cm0, ck0, C1, cm1, ck1, rfl, hy10, E10, d10, rfl⟩
              refine hR _ _ ⟨_, rfl, ?_, ?_⟩
              · (first | exact fun b o hb => Ext.cellOf (by repeat (first | (with_reducible first | exact Ext.refl _ | exact Ext.same _ _ _ _ | assumption | apply Ext.alloc | apply Ext.ext | apply Ext.drew) | (with_reducible refine Ext.setCell ?_ _ _ ?_; rotate_left; focus (first | omega | (simp only [zs1, zs2, zs3, size_ext]; omega))))) hb | (intro b o hb; (try simp only [size_ext, zs1, zs2, zs3] at hb); go_simp; try rfl))
              clear hR R
              simp only [Act.put, zp1, zp2, zp3, zp4, zp5, zp6]
              refine wpOrd_call rfl rfl rfl Try.call38 (fun R hR => ?_)
              go_simp
              refine (Hop.out _ _ _ _ _ _ _ (by first | assumption | exact DrvY.of_ext (by assumption) (by repeat (first | (with_reducible first | exact Ext.refl _ | exact Ext.same _ _ _ _ | assumption | apply Ext.alloc | apply Ext.ext | apply Ext.drew) | (with_reducible refine Ext.setCell ?_ _ _ ?_; rotate_left; focus (first | omega | (simp only [zs1, zs2, zs3, size_ext]; omega))) | (with_reducible refine Ext.trans ?_ (by assumption)))))).mono ?_
              rintro e w1 ⟨oD0, om2, ok2, oD1, om3, ok3, Am2, nm2, cm2, og2, og3, of2, oh2, rfl, hnm2, hrm2, E11, d11, rfl⟩
              refine hR _ _ ⟨_, rfl, ?_, ?_⟩
              · (first | exact fun b o hb => Ext.cellOf (by repeat (first | (with_reducible first | exact Ext.refl _ | exact Ext.same _ _ _ _ | assumption | apply Ext.alloc | apply Ext.ext | apply Ext.drew) | (with_reducible refine Ext.setCell ?_ _ _ ?_; rotate_left; focus (first | omega | (simp only [zs1, zs2, zs3, size_ext]; omega))))) hb | (intro b o hb; (try simp only [size_ext, zs1, zs2, zs3] at hb); go_simp; try rfl))
              clear hR R
              simp only [Act.put, zp1, zp2, zp3, zp4, zp5, zp6]
              repeat ((first | refine wpOrd_pass rfl rfl ?_ | (refine wpOrd_free (v := ?_) rfl rfl (fun _ hS => ?_) ?_; rotate_left; focus (go_simp; try with_reducible rfl))); simp only [Act.put, zp1, zp2, zp3, zp4, zp5, zp6])
              refine wpOrd_act rfl rfl (fun K hK => ?_)
              go_simp
              refine hK _ _ ⟨?_, ?_⟩
              · (first | exact fun b o hb => Ext.cellOf (by repeat (first | (with_reducible first | exact Ext.refl _ | exact Ext.same _ _ _ _ | assumption | apply Ext.alloc | apply Ext.ext | apply Ext.drew) | (with_reducible refine Ext.setCell ?_ _ _ ?_; rotate_left; focus (first | omega | (simp only [zs1, zs2, zs3, size_ext]; omega))))) hb | (intro b o hb; (try simp only [size_ext, zs1, zs2, zs3] at hb); go_simp; try rfl))
              clear hK K
              try simp only [Act.put, zp1, zp2, zp3, zp4, zp5, zp6]
              refine wpOrd_act rfl rfl (fun K hK => ?_)
              go_simp
              refine hK _ _ ⟨?_, ?_⟩
              · (first | exact fun b o hb => Ext.cellOf (by repeat (first | (with_reducible first | exact Ext.refl _ | exact Ext.same _ _ _ _ | assumption | apply Ext.alloc | apply Ext.ext | apply Ext.drew) | (with_reducible refine Ext.setCell ?_ _ _ ?_; rotate_left; focus (first | omega | (simp only [zs1, zs2, zs3, size_ext]; omega))))) hb | (intro b o hb; (try simp only [size_ext, zs1, zs2, zs3] at hb); go_simp; try rfl))
              clear hK K
              try simp only [Act.put, zp1, zp2, zp3, zp4, zp5, zp6]
              repeat ((first | refine wpOrd_pass rfl rfl ?_ | (refine wpOrd_free (v := ?_) rfl rfl (fun _ hS => ?_) ?_; rotate_left; focus (go_simp; try with_reducible rfl))); simp only [Act.put, zp1, zp2, zp3, zp4, zp5, zp6])
              refine wpOrd_nil ?_
            rotate_right
            focus
             refine wpOrd_act rfl rfl (fun K hK => ?_)
             go_simp
             refine hK _ _ ⟨?_, ?_⟩
             · (first | exact fun b o hb => Ext.cellOf (by repeat (first | (with_reducible first | exact Ext.refl _ | exact Ext.same _ _ _ _ | assumption | apply Ext.alloc | apply Ext.ext | apply Ext.drew) | (with_reducible refine Ext.setCell ?_ _ _ ?_; rotate_left; focus (first | omega | (simp only [zs1, zs2, zs3, size_ext]; omega))))) hb | (intro b o hb; (try simp only [size_ext, zs1, zs2, zs3] at hb); go_simp; try rfl))
             clear hK K
             try simp only [Act.put, zp1, zp2, zp3, zp4, zp5, zp6]
             refine wpOrd_fork ?_ ?_
             focus
              refine wpOrd_call rfl rfl rfl Try.call39 (fun R hR => ?_)
              go_simp
              refine (Hcr0.out _ (by repeat (first | (with_reducible first | exact Ext.refl _ | exact Ext.same _ _ _ _ | assumption | apply Ext.alloc | apply Ext.ext | apply Ext.drew) | (with_reducible refine Ext.setCell ?_ _ _ ?_; rotate_left; focus (first | omega | (simp only [zs1, zs2, zs3, size_ext]; omega))) | (with_reducible refine Ext.trans ?_ (by assumption))))).mono ?_
              rintro e w1 ⟨C0, cm0, ck0, C1, cm1, ck1, rfl, hy12, E12, d12, rfl⟩
              refine hR _ _ ⟨_, rfl, ?_, ?_⟩
              · (first | exact fun b o hb => Ext.cellOf (by repeat (first | (with_reducible first | exact Ext.refl _ | exact Ext.same _ _ _ _ | assumption | apply Ext.alloc | apply Ext.ext | apply Ext.drew) | (with_reducible refine Ext.setCell ?_ _ _ ?_; rotate_left; focus (first | omega | (simp only [zs1, zs2, zs3, size_ext]; omega))))) hb | (intro b o hb; (try simp only [size_ext, zs1, zs2, zs3] at hb); go_simp; try rfl))
              clear hR R
              simp only [Act.put, zp1, zp2, zp3, zp4, zp5, zp6]
              refine wpOrd_fork ?_ ?_
              focus
               refine wpOrd_call rfl rfl rfl Try.call38 (fun R hR => ?_)
               go_simp
               refine (Hop.out _ _ _ _ _ _ _ (by first | assumption | exact DrvY.of_ext (by assumption) (by repeat (first | (with_reducible first | exact Ext.refl _ | exact Ext.same _ _ _ _ | assumption | apply Ext.alloc | apply Ext.ext | apply Ext.drew) | (with_reducible refine Ext.setCell ?_ _ _ ?_; rotate_left; focus (first | omega | (simp only [zs1, zs2, zs3, size_ext]; omega))) | (with_reducible refine Ext.trans ?_ (by assumption)))))).mono ?_
               rintro e w1 ⟨oD0, om2, ok2, oD1, om3, ok3, Am2, nm2, cm2, og2, og3, of2, oh2, rfl, hnm2, hrm2, E13, d13, rfl⟩
               refine hR _ _ ⟨_, rfl, ?_, ?_⟩
               · (first | exact fun b o hb => Ext.cellOf (by repeat (first | (with_reducible first | exact Ext.refl _ | exact Ext.same _ _ _ _ | assumption | apply Ext.alloc | apply Ext.ext | apply Ext.drew) | (with_reducible refine Ext.setCell ?_ _ _ ?_; rotate_left; focus (first | omega | (simp only [zs1, zs2, zs3, size_ext]; omega))))) hb | (intro b o hb; (try simp only [size_ext, zs1, zs2, zs3] at hb); go_simp; try rfl))
               clear hR R
               simp only [Act.put, zp1, zp2, zp3, zp4, zp5, zp6]
               repeat ((first | refine wpOrd_pass rfl rfl ?_ | (refine wpOrd_free (v := ?_) rfl rfl (fun _ hS => ?_) ?_; rotate_left; focus (go_simp; try with_reducible rfl))); simp only [Act.put, zp1, zp2, zp3, zp4, zp5, zp6])
               refine wpOrd_act rfl rfl (fun K hK => ?_)
               go_simp
               refine hK _ _ ⟨?_, ?_⟩
               · (first | exact fun b o hb => Ext.cellOf (by repeat (first | (with_reducible first | exact Ext.refl _ | exact Ext.same _ _ _ _ | assumption | apply Ext.alloc | apply Ext.ext | apply Ext.drew) | (with_reducible refine Ext.setCell ?_ _ _ ?_; rotate_left; focus (first | omega | (simp only [zs1, zs2, zs3, size_ext]; omega))))) hb | (intro b o hb; (try simp only [size_ext, zs1, zs2, zs3] at hb); go_simp; try rfl))
               clear hK K
               try simp only [Act.put, zp1, zp2, zp3, zp4, zp5, zp6]
               refine wpOrd_act rfl rfl (fun K hK => ?_)
               go_simp
               refine hK _ _ ⟨?_, ?_⟩
               · (first | exact fun b o hb => Ext.cellOf (by repeat (first | (with_reducible first | exact Ext.refl _ | exact Ext.same _ _ _ _ | assumption | apply Ext.alloc | apply Ext.ext | apply Ext.drew) | (with_reducible refine Ext.setCell ?_ _ _ ?_; rotate_left; focus (first | omega | (simp only [zs1, zs2, zs3, size_ext]; omega))))) hb | (intro b o hb; (try simp only [size_ext, zs1, zs2, zs3] at hb); go_simp; try rfl))
               clear hK K
               try simp only [Act.put, zp1, zp2, zp3, zp4, zp5, zp6]
               refine wpOrd_act rfl rfl (fun K hK => ?_)
               go_simp
               refine hK _ _ ⟨?_, ?_⟩
               · (first | exact fun b o hb => Ext.cellOf (by repeat (first | (with_reducible first | exact Ext.refl _ | exact Ext.same _ _ _ _ | assumption | apply Ext.alloc | apply Ext.ext | apply Ext.drew) | (with_reducible refine Ext.setCell ?_ _ _ ?_; rotate_left; focus (first | omega | (simp only [zs1, zs2, zs3, size_ext]; omega))))) hb | (intro b o hb; (try simp only [size_ext, zs1, zs2, zs3] at hb); go_simp; try rfl))
               clear hK K
               try simp only [Act.put, zp1, zp2, zp3, zp4, zp5, zp6]
               repeat ((first | refine wpOrd_pass rfl rfl ?_ | (refine wpOrd_free (v := ?_) rfl rfl (fun _ hS => ?_) ?_; rotate_left; focus (go_simp; try with_reducible rfl))); simp only [Act.put, zp1, zp2, zp3, zp4, zp5, zp6])
               refine wpOrd_nil ?_
              rotate_right
              focus
               refine wpOrd_act rfl rfl (fun K hK => ?_)
               go_simp
               refine hK _ _ ⟨?_, ?_⟩
               · (first | exact fun b o hb => Ext.cellOf (by repeat (first | (with_reducible first | exact Ext.refl _ | exact Ext.same _ _ _ _ | assumption | apply Ext.alloc | apply Ext.ext | apply Ext.drew) | (with_reducible refine Ext.setCell ?_ _ _ ?_; rotate_left; focus (first | omega | (simp only [zs1, zs2, zs3, size_ext]; omega))))) hb | (intro b o hb; (try simp only [size_ext, zs1, zs2, zs3] at hb); go_simp; try rfl))
               clear hK K
               try simp only [Act.put, zp1, zp2, zp3, zp4, zp5, zp6]
               refine wpOrd_call rfl rfl rfl Try.call38 (fun R hR => ?_)
               go_simp
               refine (Hop.out _ _ _ _ _ _ _ (by first | assumption | exact DrvY.of_ext (by assumption) (by repeat (first | (with_reducible first | exact Ext.refl _ | exact Ext.same _ _ _ _ | assumption | apply Ext.alloc | apply Ext.ext | apply Ext.drew) | (with_reducible refine Ext.setCell ?_ _ _ ?_; rotate_left; focus (first | omega | (simp only [zs1, zs2, zs3, size_ext]; omega))) | (with_reducible refine Ext.trans ?_ (by assumption)))))).mono ?_
               rintro e w1 ⟨oD0, om2, ok2, oD1, om3, ok3, Am2, nm2, cm2, og2, og3, of2, oh2, rfl, hnm2, hrm2, E14, d14, rfl⟩
               refine hR _ _ ⟨_, rfl, ?_, ?_⟩
               · (first | exact fun b o hb => Ext.cellOf (by repeat (first | (with_reducible first | exact Ext.refl _ | exact Ext.same _ _ _ _ | assumption | apply Ext.alloc | apply Ext.ext | apply Ext.drew) | (with_reducible refine Ext.setCell ?_ _ _ ?_; rotate_left; focus (first | omega | (simp only [zs1, zs2, zs3, size_ext]; omega))))) hb | (intro b o hb; (try simp only [size_ext, zs1, zs2, zs3] at hb); go_simp; try rfl))
               clear hR R
               simp only [Act.put, zp1, zp2, zp3, zp4, zp5, zp6]
               repeat ((first | refine wpOrd_pass rfl rfl ?_ | (refine wpOrd_free (v := ?_) rfl rfl (fun _ hS => ?_) ?_; rotate_left; focus (go_simp; try with_reducible rfl))); simp only [Act.put, zp1, zp2, zp3, zp4, zp5, zp6])
               refine wpOrd_act rfl rfl (fun K hK => ?_)
               go_simp
               refine hK _ _ ⟨?_, ?_⟩
               · (first | exact fun b o hb => Ext.cellOf (by repeat (first | (with_reducible first | exact Ext.refl _ | exact Ext.same _ _ _ _ | assumption | apply Ext.alloc | apply Ext.ext | apply Ext.drew) | (with_reducible refine Ext.setCell ?_ _ _ ?_; rotate_left; focus (first | omega | (simp only [zs1, zs2, zs3, size_ext]; omega))))) hb | (intro b o hb; (try simp only [size_ext, zs1, zs2, zs3] at hb); go_simp; try rfl))
               clear hK K
               try simp only [Act.put, zp1, zp2, zp3, zp4, zp5, zp6]
               refine wpOrd_act rfl rfl (fun K hK => ?_)
               go_simp
               refine hK _ _ ⟨?_, ?_⟩
               · (first | exact fun b o hb => Ext.cellOf (by repeat (first | (with_reducible first | exact Ext.refl _ | exact Ext.same _ _ _ _ | assumption | apply Ext.alloc | apply Ext.ext | apply Ext.drew) | (with_reducible refine Ext.setCell ?_ _ _ ?_; rotate_left; focus (first | omega | (simp only [zs1, zs2, zs3, size_ext]; omega))))) hb | (intro b o hb; (try simp only [size_ext, zs1, zs2, zs3] at hb); go_simp; try rfl))
               clear hK K
               try simp only [Act.put, zp1, zp2, zp3, zp4, zp5, zp6]
               repeat ((first | refine wpOrd_pass rfl rfl ?_ | (refine wpOrd_free (v := ?_) rfl rfl (fun _ hS => ?_) ?_; rotate_left; focus (go_simp; try with_reducible rfl))); simp only [Act.put, zp1, zp2, zp3, zp4, zp5, zp6])
               refine wpOrd_nil ?_
             rotate_right
             focus
              refine wpOrd_act rfl rfl (fun K hK => ?_)
              go_simp
              refine hK _ _ ⟨?_, ?_⟩
              · (first | exact fun b o hb => Ext.cellOf (by repeat (first | (with_reducible first | exact Ext.refl _ | exact Ext.same _ _ _ _ | assumption | apply Ext.alloc | apply Ext.ext | apply Ext.drew) | (with_reducible refine Ext.setCell ?_ _ _ ?_; rotate_left; focus (first | omega | (simp only [zs1, zs2, zs3, size_ext]; omega))))) hb | (intro b o hb; (try simp only [size_ext, zs1, zs2, zs3] at hb); go_simp; try rfl))
              clear hK K
              try simp only [Act.put, zp1, zp2, zp3, zp4, zp5, zp6]
              refine wpOrd_call rfl rfl rfl Try.call39 (fun R hR => ?_)
              go_simp
              refine (Hcr0.out _ (by repeat (first | (with_reducible first | exact Ext.refl _ | exact Ext.same _ _ _ _ | assumption | apply Ext.alloc | apply Ext.ext | apply Ext.drew) | (with_reducible refine Ext.setCell ?_ _ _ ?_; rotate_left; focus (first | omega | (simp only [zs1, zs2, zs3, size_ext]; omega))) | (with_reducible refine Ext.trans ?_ (by assumption))))).mono ?_
              rintro e w1 ⟨C0, cm0, ck0, C1, cm1, ck1, rfl, hy15, E15, d15, rfl⟩
              refine hR _ _ ⟨_, rfl, ?_, ?_⟩
              · (first | exact fun b o hb => Ext.cellOf (by repeat (first | (with_reducible first | exact Ext.refl _ | exact Ext.same _ _ _ _ | assumption | apply Ext.alloc | apply Ext.ext | apply Ext.drew) | (with_reducible refine Ext.setCell ?_ _ _ ?_; rotate_left; focus (first | omega | (simp only [zs1, zs2, zs3, size_ext]; omega))))) hb | (intro b o hb; (try simp only [size_ext, zs1, zs2, zs3] at hb); go_simp; try rfl))
              clear hR R
              simp only [Act.put, zp1, zp2, zp3, zp4, zp5, zp6]
              refine wpOrd_call rfl rfl rfl Try.call38 (fun R hR => ?_)
              go_simp
              refine (Hop.out _ _ _ _ _ _ _ (by first | assumption | exact DrvY.of_ext (by assumption) (by repeat (first | (with_reducible first | exact Ext.refl _ | exact Ext.same _ _ _ _ | assumption | apply Ext.alloc | apply Ext.ext | apply Ext.drew) | (with_reducible refine Ext.setCell ?_ _ _ ?_; rotate_left; focus (first | omega | (simp only [zs1, zs2, zs3, size_ext]; omega))) | (with_reducible refine Ext.trans ?_ (by assumption)))))).mono ?_
              rintro e w1 ⟨oD0, om2, ok2, oD1, om3, ok3, Am2, nm2, cm2, og2, og3, of2, oh2, rfl, hnm2, hrm2, E16, d16, rfl⟩
              refine hR _ _ ⟨_, rfl, ?_, ?_⟩
              · (first | exact fun b o hb => Ext.cellOf (by repeat (first | (with_reducible first | exact Ext.refl _ | exact Ext.same _ _ _ _ | assumption | apply Ext.alloc | apply Ext.ext | apply Ext.drew) | (with_reducible refine Ext.setCell ?_ _ _ ?_; rotate_left; focus (first | omega | (simp only [zs1, zs2, zs3, size_ext]; omega))))) hb | (intro b o hb; (try simp only [size_ext, zs1, zs2, zs3] at hb); go_simp; try rfl))
              clear hR R
              simp only [Act.put, zp1, zp2, zp3, zp4, zp5, zp6]
              repeat ((first | refine wpOrd_pass rfl rfl ?_ | (refine wpOrd_free (v := ?_) rfl rfl (fun _ hS => ?_) ?_; rotate_left; focus (go_simp; try with_reducible rfl))); simp only [Act.put, zp1, zp2, zp3, zp4, zp5, zp6])
              refine wpOrd_act rfl rfl (fun K hK => ?_)
              go_simp
              refine hK _ _ ⟨?_, ?_⟩
              · (first | exact fun b o hb => Ext.cellOf (by repeat (first | (with_reducible first | exact Ext.refl _ | exact Ext.same _ _ _ _ | assumption | apply Ext.alloc | apply Ext.ext | apply Ext.drew) | (with_reducible refine Ext.setCell ?_ _ _ ?_; rotate_left; focus (first | omega | (simp only [zs1, zs2, zs3, size_ext]; omega))))) hb | (intro b o hb; (try simp only [size_ext, zs1, zs2, zs3] at hb); go_simp; try rfl))
              clear hK K
              try simp only [Act.put, zp1, zp2, zp3, zp4, zp5, zp6]
              refine wpOrd_act rfl rfl (fun K hK => ?_)
              go_simp
              refine hK _ _ ⟨?_, ?_⟩
              · (first | exact fun b o hb => Ext.cellOf (by repeat (first | (with_reducible first | exact Ext.refl _ | exact Ext.same _ _ _ _ | assumption | apply Ext.alloc | apply Ext.ext | apply Ext.drew) | (with_reducible refine Ext.setCell ?_ _ _ ?_; rotate_left; focus (first | omega | (simp only [zs1, zs2, zs3, size_ext]; omega))))) hb | (intro b o hb; (try simp only [size_ext, zs1, zs2, zs3] at hb); go_simp; try rfl))
              clear hK K
              try simp only [Act.put, zp1, zp2, zp3, zp4, zp5, zp6]
              repeat ((first | refine wpOrd_pass rfl rfl ?_ | (refine wpOrd_free (v := ?_) rfl rfl (fun _ hS => ?_) ?_; rotate_left; focus (go_simp; try with_reducible rfl))); simp only [Act.put, zp1, zp2, zp3, zp4, zp5, zp6])
              refine wpOrd_nil ?_
            all_goals
              go_wp2_with fail
              refine (Hop2.out _ (by repeat (first | (with_reducible first | exact Ext.refl _ | exact Ext.same _ _ _ _ | assumption | apply Ext.alloc | apply Ext.ext | apply Ext.drew) | (with_reducible refine Ext.setCell ?_ _ _ ?_; rotate_left; focus (first | omega | (simp only [zs1, zs2, zs3, size_ext]; omega))) | (with_reducible refine Ext.trans ?_ (by assumption))))).mono ?_
              rintro e w1 ⟨pD0, pm2, pk2, pD1, pm3, pk3, Am3, nm3, cm3, pg2, pg3, pf2, ph2, rfl, hnm3, hrm3, E90, d90, rfl⟩
              go_wp2_with (go_at_call 20; refine (Hsm.out _ _ _ _ _ _ _ (by first | exact hnm2.out | exact hnm3.out | exact HnmL.out) (by first | exact hnm2.out | exact hnm3.out | exact HnmL.out) (by first | (have hq2 := hrm2.read; (with_reducible repeat (first | assumption | apply Recs.ext | apply Recs.alloc | apply Recs.drew | (refine Recs.of_ext ?_ (by assumption)))); done) | exact (RecsA.moved2 (base := 0) hrm2 (by repeat (first | (with_reducible first | exact Ext.refl _ | exact Ext.same _ _ _ _ | assumption | apply Ext.alloc | apply Ext.ext | apply Ext.drew) | (with_reducible refine Ext.setCell ?_ _ _ ?_; rotate_left; focus (first | omega | (simp only [zs1, zs2, zs3, size_ext]; omega))) | (with_reducible refine Ext.trans ?_ (by assumption)))) (by simp) (Nat.le_refl _) (Nat.zero_le _)).read) (by first | (have hq2 := hrm2.read; (with_reducible repeat (first | assumption | apply Recs.ext | apply Recs.alloc | apply Recs.drew | (refine Recs.of_ext ?_ (by assumption)))); done) | exact (RecsA.moved2 (base := 0) hrm2 (by repeat (first | (with_reducible first | exact Ext.refl _ | exact Ext.same _ _ _ _ | assumption | apply Ext.alloc | apply Ext.ext | apply Ext.drew) | (with_reducible refine Ext.setCell ?_ _ _ ?_; rotate_left; focus (first | omega | (simp only [zs1, zs2, zs3, size_ext]; omega))) | (with_reducible refine Ext.trans ?_ (by assumption)))) (by simp) (Nat.le_refl _) (Nat.zero_le _)).read)).mono ?_; rintro e w1 ⟨rfl, E91, d91, rfl⟩)
              exact ⟨⟨j + 1, by omega, by go_num, E3r.out.trans (by repeat (first | (with_reducible first | exact Ext.refl _ | exact Ext.same _ _ _ _ | assumption | apply Ext.alloc | apply Ext.ext | apply Ext.drew) | (with_reducible refine Ext.setCell ?_ _ _ ?_; rotate_left; focus (first | omega | (simp only [zs1, zs2, zs3, size_ext]; omega)))))⟩, by simp [intOf]; omega⟩
          · obtain rfl : j = 4 := by omega
            have hds4 := HDS3.out.of_ext E3r.out
            obtain ⟨a0, q0, r0, a1, q1, r1, u0, u1, u2, u3, hdd⟩ := hds4.at_ 3 d3 rfl
            have lg := hds4.hi
            have hdy := hdd.read
            obtain ⟨S0, hS0⟩ : ∃ S, d3.f0.firm = S := ⟨_, rfl⟩
            obtain ⟨S1, hS1⟩ : ∃ S, d3.f1.firm = S := ⟨_, rfl⟩
            rw [hS0] at u1
            rw [hS1] at u3
            have c0 : wr.cell? ⟨g, 12, none⟩ = some (.slice a0 q0 r0) := u0
            have c1 : wr.cell? ⟨g, 13, none⟩ = some (.int .i64 S0) := u1
            have c2 : wr.cell? ⟨g, 14, none⟩ = some (.slice a1 q1 r1) := u2
            have c3 : wr.cell? ⟨g, 15, none⟩ = some (.int .i64 S1) := u3
            have Hop3 : Hid (Calls Try.prog 38 #[drvV a0 q0 r0 S0 a1 q1 r1 S1] wr fun e w' => ∃ D0 m2 k2 D1 m3 k3 Am2 nm2 cm2 g2 g3, e = .returned (.tuple #[drvV D0 m2 k2 g2 D1 m3 k3 g3, memV Am2 nm2 cm2 (1 - fi) (ge + 1), .int .i64 0]) ∧ Hid (L.length = nm2) ∧ Recs w' Am2 L ∧ Ext wr w') := hid (by
              have h := Open_y a0 q0 r0 a1 q1 r1 d3 wr hdy
              rw [hS0, hS1, Ho3.out, Hm3.out] at h
              refine h.mono ?_
              rintro e w' ⟨D0, m2, k2, D1, m3, k3, Am2, nm2, cm2, rfl, -, hmx, hxx⟩
              exact ⟨D0, m2, k2, D1, m3, k3, Am2, nm2, cm2, _, _, rfl, hid hmx.l.symm, hmx.recs, hxx⟩)
            have b10 := B10n.out.of_ext E3r.out
            have q100 := b10.cell (i := 0) rfl
            have q101 := b10.cell (i := 1) rfl
            have q102 := b10.cell (i := 2) rfl
            have m10 := b10.lt
            have hrg := (HMS3.out.of_ext E3r.out).r.read
            have hle := hid hLs
            clear hds4 hdd hdy u0 u1 u2 u3 hS0 hS1 b10
            go_wp2_with fail
            refine Hop3.out.mono ?_
            rintro e w1 ⟨pD0, pm2, pk2, pD1, pm3, pk3, Am3, nm3, cm3, pg2, pg3, rfl, hnm3, hrm3, E90, d90, rfl⟩
            have hB := HB.out
            have e3 := E3.out
            have e33 := E3r.out
            go_wp2_with (first | (go_at_call 40; refine (SameMemory_any _ _ _ _ _ _ _ _ _ _ L L (by exact hnm3.out) (by exact HngL.out) (by have := hnm3.out; omega) _ (by with_reducible repeat (first | assumption | apply Recs.ext | apply Recs.alloc | apply Recs.drew | (refine Recs.of_ext ?_ (by assumption)))) (by with_reducible repeat (first | assumption | apply Recs.ext | apply Recs.alloc | apply Recs.drew | (refine Recs.of_ext ?_ (by assumption))))).mono ?_; rintro e w1 ⟨rfl, E91, d91, rfl⟩; rw [memEqB_iff.2 rfl]) | (go_at_call 17; refine (sane_any _).mono ?_; rintro e w1 ⟨rfl, E1, d1, rfl⟩))
            go_ret
            exact ⟨ret_val rfl, Ext.trans e3 (Ext.trans e33 (by repeat (first | (with_reducible first | exact Ext.refl _ | exact Ext.same _ _ _ _ | assumption | apply Ext.alloc | apply Ext.ext | apply Ext.drew) | (with_reducible refine Ext.setCell ?_ _ _ ?_; rotate_left; focus (first | omega | (simp only [zs1, zs2, zs3, size_ext]; omega))))))⟩
      clear hK
      by_cases hkn : k < n
      all_goals
        go_wp2_with fail
        exact hrest _ _ _ _ _ _ _ _ _ _ _ _
end Go.Proofs.Ytekjdeibnfaehaa
