/- What is done with a drive: it is opened. -/
import Derived.Test.YtekjdeibnfaehaaDone
set_option linter.unusedSimpArgs false
set_option linter.unusedVariables false
namespace Go.Proofs.Ytekjdeibnfaehaa
open Go Go.RowKit

set_option maxRecDepth 100000 in
set_option maxHeartbeats 16000000 in
theorem done_open (p : PlayD) (ll : List Rec) (kk : Nat) (cnt : Int) (N : Nat) (hok : PlayOk p ll kk cnt N) (hN : N < 80) (a : ActD) (ha : ActOk a) (base : Nat) (w : World) (hb : base ≤ w.heap.size) (A0 : Option Addr) (n0 c0 : Nat) (A1 : Option Addr) (n1 c1 : Nat) (Am : Option Addr) (nm cm : Nat) (Af : Option Addr) (nf cf : Nat) (Al : Option Addr) (nl cl : Nat) (hp : PlayI base w p A0 n0 c0 A1 n1 c1 Am nm cm Af nf Al nl cl) (h7 : a.act % 7 = 3) : Calls Try.prog 35 #[playV A0 n0 c0 p.d.f0.firm A1 n1 c1 p.d.f1.firm Am nm cm p.m.file p.m.gen Af nf cf Al nl cl p.ok, actV a] w fun e w' => ∃ v, e = .returned v ∧ PlayR base w' (doneP p a) v ∧ Ext w w' := by
  obtain ⟨hs0, hs1, hsf, hsl, hsm⟩ := play_sizes hok
  obtain ⟨hoe, hom, -⟩ := hok.jour.reopen
  have hD : Hid (doneP p a = ⟨openD p.d, openM p.d, (openM p.d).recs, [], true⟩) := hid (by
    rw [doneP, if_neg (by omega), if_neg (by omega), if_neg (by omega), if_pos h7, hok.ok, hoe, hom, memEqB_iff.2 rfl]; rfl)
  have hk := hok.ok
  obtain ⟨hdA, hmA, hfl, hfA, hll, hlc, hlA⟩ := hp
  have hop := fun P (hx : Ext w P) => Open_any A0 n0 c0 A1 n1 c1 p.d hdA.l0 hdA.l1 hdA.h0 hdA.h1 hdA.k0 hdA.k1 P (hdA.of_ext hx).b0 (hdA.of_ext hx).b1
  rw [hom, hoe] at hop
  have Hmr := hid hmA.r.read
  have Hml := hid hmA.l
  have Hmm := hid (show nm ≤ 9223372036854775807 by have := hmA.l; omega)
  rw [hk]
  obtain ⟨F0, hF0⟩ : ∃ x, p.d.f0.firm = x := ⟨_, rfl⟩
  obtain ⟨F1, hF1⟩ : ∃ x, p.d.f1.firm = x := ⟨_, rfl⟩
  rw [hF0, hF1] at hop
  rw [hF0, hF1]
  obtain ⟨Y, hY⟩ : ∃ Y, openD p.d = Y := ⟨_, rfl⟩
  have HD := hD.out
  rw [hY, hom] at HD
  rw [hY] at hop
  have HD2 := hid HD
  obtain ⟨S0, hS0⟩ : ∃ x, Y.f0.firm = x := ⟨_, rfl⟩
  obtain ⟨S1, hS1⟩ : ∃ x, Y.f1.firm = x := ⟨_, rfl⟩
  rw [hS0, hS1] at hop
  obtain ⟨file, hfile⟩ : ∃ x, p.m.file = x := ⟨_, rfl⟩
  obtain ⟨gen, hgen⟩ : ∃ x, p.m.gen = x := ⟨_, rfl⟩
  have HV := hid (And.intro hS0 (And.intro hS1 (And.intro hfile hgen)))
  rw [hfile, hgen] at hop
  rw [hfile, hgen]
  have Hop := hid hop
  clear hdA hfA hlA hD HD hk hF0 hF1 hY hfl hll hs0 hs1 hsf hsl hsm hS0 hS1 hfile hgen hmA hlc hop hoe hom
  obtain ⟨B, hB⟩ : ∃ B : Nat, w.heap.size = B := ⟨_, rfl⟩
  have HB := hid hB
  clear hB
  go_enter Try.func35, Try.ntmps35
  go_wp2_with fail
  refine (Mod_any _ _ (by omega) (by omega) _).mono ?_
  rintro e w1 ⟨rfl, rfl⟩
  rw [h7]
  go_wp2_with fail
  refine (Hop.out _ (by repeat (first | (with_reducible first | exact Ext.refl _ | exact Ext.same _ _ _ _ | assumption | apply Ext.alloc | apply Ext.ext | apply Ext.drew) | (with_reducible refine Ext.setCell ?_ _ _ ?_; rotate_left; focus (first | omega | (simp only [zs1, zs2, zs3, size_ext]; omega)))))).mono ?_
  rintro e P2 ⟨D0, q0, e0, D1, q1, e1, Am2, nm2, cm2, rfl, hdx, hmx, x2⟩
  have z2 : Hid (B + 3 ≤ P2.heap.size) := hid (by have q := x2.below.size; have := HB.out; simp only [World.size_alloc] at q; omega)
  have b2 : BoxC P2 B [.slice A0 n0 c0, .int .i64 F0, .slice A1 n1 c1, .int .i64 F1, .slice Am nm cm, .int .i64 file, .int .i64 gen, .slice Af nf cf, .slice Al nl cl, .bool true] 68 := BoxC.of_ext (((BoxC.new_at _ _ HB.out.symm).alloc _).alloc _) x2
  have b4 : BoxC P2 (B + 1 + 1) [.slice none 0 0, .int .i64 0, .slice none 0 0, .int .i64 0, .slice none 0 0, .int .i64 0, .int .i64 0, .slice none 0 0, .slice none 0 0, .bool false] 68 := BoxC.of_ext (BoxC.new_at _ _ (by simp only [World.size_alloc]; have := HB.out; omega)) x2
  have E2 : Hid (Ext w P2) := hid (Ext.trans (by repeat (first | (with_reducible first | exact Ext.refl _ | exact Ext.same _ _ _ _ | assumption | apply Ext.alloc | apply Ext.ext | apply Ext.drew) | (with_reducible refine Ext.setCell ?_ _ _ ?_; rotate_left; focus (first | omega | (simp only [zs1, zs2, zs3, size_ext]; omega))))) x2)
  have hdB := hid (hdx.anc.mono (base' := B + 3) (by simp only [World.size_alloc]; have := HB.out; omega))
  have hmB := hid (hmx.anc.mono (base' := B + 3) (by simp only [World.size_alloc]; have := HB.out; omega))
  have Hnm := hid hmB.out.l
  have Hsame : Hid (∀ (P : World) (cg c2 : Nat), Ext P2 P → Calls Try.prog 40 #[memV Am2 nm2 cg file gen, memV Am nm c2 file gen] P fun e w' => e = .returned (.bool true) ∧ Ext P w') := hid fun P cg c2 hx => by
    have h := SameMemory_any Am2 Am nm2 cg nm c2 file gen file gen p.m.recs p.m.recs Hnm.out Hml.out (by have := Hnm.out; have := Hml.out; have := Hmm.out; omega) P (hmB.out.r.read.of_ext hx) ((Hmr.out.of_ext E2.out).of_ext hx)
    rw [memEqB_iff.2 rfl] at h
    exact h
  have B2 := hid b2
  have B4 := hid b4
  simp only [HB.out]
  clear b2 b4 x2 hdx hmx Hop
  go_wp2_with fail
  obtain ⟨B5, hB5⟩ : ∃ B5, P2.heap.size = B5 := ⟨_, rfl⟩
  obtain ⟨P3, hP3⟩ : ∃ P3, (P2.alloc (.cells #[.slice D0 q0 e0, .int .i64 S0, .slice D1 q1 e1, .int .i64 S1] 62)).alloc (.cells #[.slice Am2 nm2 cm2, .int .i64 file, .int .i64 gen] 64) = P3 := ⟨_, rfl⟩
  simp only [hP3, hB5]
  have x23 : Ext P2 P3 := by rw [← hP3]; exact ((Ext.refl _).alloc _).alloc _
  have b5 : BoxC P3 B5 [.slice D0 q0 e0, .int .i64 S0, .slice D1 q1 e1, .int .i64 S1] 62 := by rw [← hP3]; exact (BoxC.new_at _ _ hB5.symm).alloc _
  have b6 : BoxC P3 (B5 + 1) [.slice Am2 nm2 cm2, .int .i64 file, .int .i64 gen] 64 := by rw [← hP3]; exact BoxC.new_at _ _ (by rw [World.size_alloc, hB5])
  have b2 := B2.out.of_ext x23
  have b4 := B4.out.of_ext x23
  have E3 : Hid (Ext w P3) := hid (Ext.trans E2.out x23)
  have HD3 := hid (hdB.out.of_ext x23)
  have HM3 := hid (hmB.out.of_ext x23)
  have z3 : B + 3 ≤ B5 := by have := z2.out; omega
  have Q24 := b2.cell (i := 4) rfl
  have Q25 := b2.cell (i := 5) rfl
  have Q26 := b2.cell (i := 6) rfl
  have Q29 := b2.cell (i := 9) rfl
  have Q40 := b4.cell (i := 0) rfl
  have Q41 := b4.cell (i := 1) rfl
  have Q42 := b4.cell (i := 2) rfl
  have Q43 := b4.cell (i := 3) rfl
  have Q44 := b4.cell (i := 4) rfl
  have Q45 := b4.cell (i := 5) rfl
  have Q46 := b4.cell (i := 6) rfl
  have Q47 := b4.cell (i := 7) rfl
  have Q48 := b4.cell (i := 8) rfl
  have Q49 := b4.cell (i := 9) rfl
  have Q50 := b5.cell (i := 0) rfl
  have Q51 := b5.cell (i := 1) rfl
  have Q52 := b5.cell (i := 2) rfl
  have Q53 := b5.cell (i := 3) rfl
  have Q60 := b6.cell (i := 0) rfl
  have Q61 := b6.cell (i := 1) rfl
  have Q62 := b6.cell (i := 2) rfl
  have fz := b4.frozen
  have l2 := b2.lt
  have l4 := b4.lt
  have l5 := b5.lt
  have l6 := b6.lt
  have ne2 : ¬ (B = B + 1 + 1) := by omega
  have ne5 : ¬ (B5 = B + 1 + 1) := by omega
  have ne6 : ¬ (B5 + 1 = B + 1 + 1) := by omega
  have ne6d : ¬ (B5 = B + 1) := by omega
  have X23 := hid x23
  clear b2 b4 b5 b6 hP3 x23 B2 B4 E2 hdB hmB z2 hB5
  refine wp_region_ord_but (B + 1 + 1) (.f 0 (.f 1 (.f 2 (.f 3 (.f 4 (.f 5 (.f 6 (.f 7 (.f 8 (.f 9 (.f 10 (.f 11 (.f 12 (.f 13 (.a 14 (.f 15 (.f 16 (.a 17 .d)))))))))))))))))) (by kernel_rfl) (by kernel_rfl) ?_
  repeat ((first | refine wpOrd_pass rfl rfl ?_ | (refine wpOrd_free (v := ?_) rfl rfl (fun _ hS => ?_) ?_; rotate_left; focus (go_simp; try with_reducible rfl))); simp only [Act.put, zp1, zp2, zp3, zp4, zp5, zp6])
  refine ord_bool (j := 6) rfl (fun hb6 => ?_) (fun hb6 => ?_)
  rotate_left
  focus
   try (exfalso; first | (simp at hb6; done) | (simp at hb6; omega))
   all_goals
    (try simp only [hb6])
    repeat ((first | refine wpOrd_pass rfl rfl ?_ | (refine wpOrd_free (v := ?_) rfl rfl (fun _ hS => ?_) ?_; rotate_left; focus (go_simp; try with_reducible rfl))); simp only [Act.put, zp1, zp2, zp3, zp4, zp5, zp6])
    refine wpOrd_actPass rfl rfl ?_ ?_
    · (first | (intro b o hb hx; go_simp; done) | (intro b o hb hx; (try (refine (World.cell?_alloc_lt _ _ _ ?_).trans ?_; focus (simp only [size_ext, zs1, zs2, zs3]; omega))); (repeat (refine (World.cell?_setCell_other _ _ _ _ ?_).trans ?_; focus exact fun e => hx (congrArg Addr.block e).symm)); go_simp; done) | (intro b o hb hx; (try rw [show ∀ (X : World) (a : Addr), X.drew.cell? a = X.cell? a from fun _ _ => rfl]); (repeat (refine (World.cell?_setCell_other _ _ _ _ ?_).trans ?_; (focus exact fun e => hx (congrArg Addr.block e).symm))); rfl) | exact fun b o hb _ => Ext.cellOf (by repeat (first | (with_reducible first | exact Ext.refl _ | exact Ext.same _ _ _ _ | assumption | apply Ext.alloc | apply Ext.ext | apply Ext.drew) | (with_reducible refine Ext.setCell ?_ _ _ ?_; rotate_left; focus (first | omega | (simp only [zs1, zs2, zs3, size_ext]; omega))))) hb | (intro b o hb hx; (try simp only [size_ext, World.size_alloc, World.size_drew, World.size_setCell] at hb hx); go_simp; try rfl))
    simp only [Act.put, zp1, zp2, zp3, zp4, zp5, zp6]
    repeat ((first | refine wpOrd_pass rfl rfl ?_ | (refine wpOrd_free (v := ?_) rfl rfl (fun _ hS => ?_) ?_; rotate_left; focus (go_simp; try with_reducible rfl))); simp only [Act.put, zp1, zp2, zp3, zp4, zp5, zp6])
    refine wpOrd_act rfl rfl (fun K hK => ?_)
    go_simp
    refine hK _ _ ⟨?_, ?_⟩
    · (first | (intro b o hb hx; go_simp; done) | (intro b o hb hx; (try (refine (World.cell?_alloc_lt _ _ _ ?_).trans ?_; focus (simp only [size_ext, zs1, zs2, zs3]; omega))); (repeat (refine (World.cell?_setCell_other _ _ _ _ ?_).trans ?_; focus exact fun e => hx (congrArg Addr.block e).symm)); go_simp; done) | (intro b o hb hx; (try rw [show ∀ (X : World) (a : Addr), X.drew.cell? a = X.cell? a from fun _ _ => rfl]); (repeat (refine (World.cell?_setCell_other _ _ _ _ ?_).trans ?_; (focus exact fun e => hx (congrArg Addr.block e).symm))); rfl) | exact fun b o hb _ => Ext.cellOf (by repeat (first | (with_reducible first | exact Ext.refl _ | exact Ext.same _ _ _ _ | assumption | apply Ext.alloc | apply Ext.ext | apply Ext.drew) | (with_reducible refine Ext.setCell ?_ _ _ ?_; rotate_left; focus (first | omega | (simp only [zs1, zs2, zs3, size_ext]; omega))))) hb | (intro b o hb hx; (try simp only [size_ext, World.size_alloc, World.size_drew, World.size_setCell] at hb hx); go_simp; try rfl))
    clear hK K
    try simp only [Act.put, zp1, zp2, zp3, zp4, zp5, zp6]
    refine wpOrd_nil ?_
  rotate_right
  focus
   try (exfalso; first | (simp at hb6; done) | (simp at hb6; omega))
   all_goals
    (try simp only [hb6])
    repeat ((first | refine wpOrd_pass rfl rfl ?_ | (refine wpOrd_free (v := ?_) rfl rfl (fun _ hS => ?_) ?_; rotate_left; focus (go_simp; try with_reducible rfl))); simp only [Act.put, zp1, zp2, zp3, zp4, zp5, zp6])
    refine ord_bool (j := 10) rfl (fun hb10 => ?_) (fun hb10 => ?_)
    rotate_left
    focus
     try (exfalso; first | (simp at hb10; done) | (simp at hb10; omega))
     all_goals
      (try simp only [hb10])
      repeat ((first | refine wpOrd_pass rfl rfl ?_ | (refine wpOrd_free (v := ?_) rfl rfl (fun _ hS => ?_) ?_; rotate_left; focus (go_simp; try with_reducible rfl))); simp only [Act.put, zp1, zp2, zp3, zp4, zp5, zp6])
      refine wpOrd_actPass rfl rfl ?_ ?_
      · (first | (intro b o hb hx; go_simp; done) | (intro b o hb hx; (try (refine (World.cell?_alloc_lt _ _ _ ?_).trans ?_; focus (simp only [size_ext, zs1, zs2, zs3]; omega))); (repeat (refine (World.cell?_setCell_other _ _ _ _ ?_).trans ?_; focus exact fun e => hx (congrArg Addr.block e).symm)); go_simp; done) | (intro b o hb hx; (try rw [show ∀ (X : World) (a : Addr), X.drew.cell? a = X.cell? a from fun _ _ => rfl]); (repeat (refine (World.cell?_setCell_other _ _ _ _ ?_).trans ?_; (focus exact fun e => hx (congrArg Addr.block e).symm))); rfl) | exact fun b o hb _ => Ext.cellOf (by repeat (first | (with_reducible first | exact Ext.refl _ | exact Ext.same _ _ _ _ | assumption | apply Ext.alloc | apply Ext.ext | apply Ext.drew) | (with_reducible refine Ext.setCell ?_ _ _ ?_; rotate_left; focus (first | omega | (simp only [zs1, zs2, zs3, size_ext]; omega))))) hb | (intro b o hb hx; (try simp only [size_ext, World.size_alloc, World.size_drew, World.size_setCell] at hb hx); go_simp; try rfl))
      simp only [Act.put, zp1, zp2, zp3, zp4, zp5, zp6]
      repeat ((first | refine wpOrd_pass rfl rfl ?_ | (refine wpOrd_free (v := ?_) rfl rfl (fun _ hS => ?_) ?_; rotate_left; focus (go_simp; try with_reducible rfl))); simp only [Act.put, zp1, zp2, zp3, zp4, zp5, zp6])
      refine wpOrd_act rfl rfl (fun K hK => ?_)
      go_simp
      refine hK _ _ ⟨?_, ?_⟩
      · (first | (intro b o hb hx; go_simp; done) | (intro b o hb hx; (try (refine (World.cell?_alloc_lt _ _ _ ?_).trans ?_; focus (simp only [size_ext, zs1, zs2, zs3]; omega))); (repeat (refine (World.cell?_setCell_other _ _ _ _ ?_).trans ?_; focus exact fun e => hx (congrArg Addr.block e).symm)); go_simp; done) | (intro b o hb hx; (try rw [show ∀ (X : World) (a : Addr), X.drew.cell? a = X.cell? a from fun _ _ => rfl]); (repeat (refine (World.cell?_setCell_other _ _ _ _ ?_).trans ?_; (focus exact fun e => hx (congrArg Addr.block e).symm))); rfl) | exact fun b o hb _ => Ext.cellOf (by repeat (first | (with_reducible first | exact Ext.refl _ | exact Ext.same _ _ _ _ | assumption | apply Ext.alloc | apply Ext.ext | apply Ext.drew) | (with_reducible refine Ext.setCell ?_ _ _ ?_; rotate_left; focus (first | omega | (simp only [zs1, zs2, zs3, size_ext]; omega))))) hb | (intro b o hb hx; (try simp only [size_ext, World.size_alloc, World.size_drew, World.size_setCell] at hb hx); go_simp; try rfl))
      clear hK K
      try simp only [Act.put, zp1, zp2, zp3, zp4, zp5, zp6]
      refine wpOrd_nil ?_
    rotate_right
    focus
     try (exfalso; first | (simp at hb10; done) | (simp at hb10; omega))
     all_goals
      (try simp only [hb10])
      repeat ((first | refine wpOrd_pass rfl rfl ?_ | (refine wpOrd_free (v := ?_) rfl rfl (fun _ hS => ?_) ?_; rotate_left; focus (go_simp; try with_reducible rfl))); simp only [Act.put, zp1, zp2, zp3, zp4, zp5, zp6])
      refine wpOrd_call rfl rfl rfl Try.call40 (fun R hR => ?_)
      go_simp
      refine (Hsame.out _ _ _ (Ext.trans X23.out (by repeat (first | (with_reducible first | exact Ext.refl _ | exact Ext.same _ _ _ _ | assumption | apply Ext.alloc | apply Ext.ext | apply Ext.drew) | (with_reducible refine Ext.setCell ?_ _ _ ?_; rotate_left; focus (first | omega | (simp only [zs1, zs2, zs3, size_ext]; omega))) | (with_reducible refine Ext.trans ?_ (by assumption)))))).mono ?_
      rintro e w1 ⟨rfl, E1, d1, rfl⟩
      refine hR _ _ ⟨_, rfl, ?_, ?_⟩
      · (first | (intro b o hb hx; go_simp; done) | (intro b o hb hx; (try (refine (World.cell?_alloc_lt _ _ _ ?_).trans ?_; focus (simp only [size_ext, zs1, zs2, zs3]; omega))); (repeat (refine (World.cell?_setCell_other _ _ _ _ ?_).trans ?_; focus exact fun e => hx (congrArg Addr.block e).symm)); go_simp; done) | (intro b o hb hx; (try rw [show ∀ (X : World) (a : Addr), X.drew.cell? a = X.cell? a from fun _ _ => rfl]); (repeat (refine (World.cell?_setCell_other _ _ _ _ ?_).trans ?_; (focus exact fun e => hx (congrArg Addr.block e).symm))); rfl) | exact fun b o hb _ => Ext.cellOf (by repeat (first | (with_reducible first | exact Ext.refl _ | exact Ext.same _ _ _ _ | assumption | apply Ext.alloc | apply Ext.ext | apply Ext.drew) | (with_reducible refine Ext.setCell ?_ _ _ ?_; rotate_left; focus (first | omega | (simp only [zs1, zs2, zs3, size_ext]; omega))))) hb | (intro b o hb hx; (try simp only [size_ext, World.size_alloc, World.size_drew, World.size_setCell] at hb hx); go_simp; try rfl))
      clear hR R
      simp only [Act.put, zp1, zp2, zp3, zp4, zp5, zp6]
      repeat ((first | refine wpOrd_pass rfl rfl ?_ | (refine wpOrd_free (v := ?_) rfl rfl (fun _ hS => ?_) ?_; rotate_left; focus (go_simp; try with_reducible rfl))); simp only [Act.put, zp1, zp2, zp3, zp4, zp5, zp6])
      refine wpOrd_act rfl rfl (fun K hK => ?_)
      go_simp
      refine hK _ _ ⟨?_, ?_⟩
      · (first | (intro b o hb hx; go_simp; done) | (intro b o hb hx; (try (refine (World.cell?_alloc_lt _ _ _ ?_).trans ?_; focus (simp only [size_ext, zs1, zs2, zs3]; omega))); (repeat (refine (World.cell?_setCell_other _ _ _ _ ?_).trans ?_; focus exact fun e => hx (congrArg Addr.block e).symm)); go_simp; done) | (intro b o hb hx; (try rw [show ∀ (X : World) (a : Addr), X.drew.cell? a = X.cell? a from fun _ _ => rfl]); (repeat (refine (World.cell?_setCell_other _ _ _ _ ?_).trans ?_; (focus exact fun e => hx (congrArg Addr.block e).symm))); rfl) | exact fun b o hb _ => Ext.cellOf (by repeat (first | (with_reducible first | exact Ext.refl _ | exact Ext.same _ _ _ _ | assumption | apply Ext.alloc | apply Ext.ext | apply Ext.drew) | (with_reducible refine Ext.setCell ?_ _ _ ?_; rotate_left; focus (first | omega | (simp only [zs1, zs2, zs3, size_ext]; omega))))) hb | (intro b o hb hx; (try simp only [size_ext, World.size_alloc, World.size_drew, World.size_setCell] at hb hx); go_simp; try rfl))
      clear hK K
      try simp only [Act.put, zp1, zp2, zp3, zp4, zp5, zp6]
      refine wpOrd_nil ?_
  go_wp2_with fail
  have hd3 := HD3.out
  have hm3 := HM3.out
  have hB := HB.out
  have e3 := E3.out
  refine bodyPost_ret (v := playV D0 q0 e0 S0 D1 q1 e1 S1 Am2 nm2 cm2 file gen Am2 nm2 cm2 none 0 0 true) (by simp [results, Try.results35, go_sem, l4, Q40, Q41, Q42, Q43, Q44, Q45, Q46, Q47, Q48, Q49]) rfl ?_
  obtain ⟨v0, v1, v2, v3⟩ := HV.out
  refine ⟨_, rfl, ?_, (by repeat (first | (with_reducible first | exact Ext.refl _ | exact Ext.same _ _ _ _ | assumption | apply Ext.alloc | apply Ext.ext | apply Ext.drew) | (with_reducible refine Ext.setCell ?_ _ _ ?_; rotate_left; focus (first | omega | (simp only [zs1, zs2, zs3, size_ext]; omega))) | (with_reducible refine Ext.trans ?_ (by assumption))))⟩
  rw [HD2.out]
  exact ⟨D0, q0, e0, D1, q1, e1, Am2, nm2, cm2, Am2, nm2, cm2, none, 0, 0, by simp only [v0, v1, v2, v3], ⟨DrvA.mono (base := B + 3) (by repeat (first | (with_reducible assumption) | with_reducible refine DrvA.set ?_ (by omega) | with_reducible refine MemA.set ?_ (by omega) | with_reducible refine RecsA.set ?_ (by omega) | with_reducible refine BytA.set ?_ (by omega) | with_reducible apply DrvA.alloc | with_reducible apply DrvA.ext | with_reducible apply DrvA.drew | with_reducible apply MemA.alloc | with_reducible apply MemA.ext | with_reducible apply MemA.drew | with_reducible apply RecsA.alloc | with_reducible apply RecsA.ext | with_reducible apply RecsA.drew)) (by omega), MemA.mono (base := B + 3) (by repeat (first | (with_reducible assumption) | with_reducible refine DrvA.set ?_ (by omega) | with_reducible refine MemA.set ?_ (by omega) | with_reducible refine RecsA.set ?_ (by omega) | with_reducible refine BytA.set ?_ (by omega) | with_reducible apply DrvA.alloc | with_reducible apply DrvA.ext | with_reducible apply DrvA.drew | with_reducible apply MemA.alloc | with_reducible apply MemA.ext | with_reducible apply MemA.drew | with_reducible apply RecsA.alloc | with_reducible apply RecsA.ext | with_reducible apply RecsA.drew)) (by omega), Hnm.out, RecsA.mono (base := B + 3) (MemA.r (M := p.m) (n := nm2) (c := cm2) (by repeat (first | (with_reducible assumption) | with_reducible refine DrvA.set ?_ (by omega) | with_reducible refine MemA.set ?_ (by omega) | with_reducible refine RecsA.set ?_ (by omega) | with_reducible refine BytA.set ?_ (by omega) | with_reducible apply DrvA.alloc | with_reducible apply DrvA.ext | with_reducible apply DrvA.drew | with_reducible apply MemA.alloc | with_reducible apply MemA.ext | with_reducible apply MemA.drew | with_reducible apply RecsA.alloc | with_reducible apply RecsA.ext | with_reducible apply RecsA.drew))) (by omega), rfl, Nat.le_refl _, RecsA.nil _ _ _⟩⟩
end Go.Proofs.Ytekjdeibnfaehaa
