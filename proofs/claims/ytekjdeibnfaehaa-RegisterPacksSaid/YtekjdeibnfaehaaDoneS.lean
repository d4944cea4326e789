/- What is done with a drive: all is made firm. -/
import Derived.Test.YtekjdeibnfaehaaDone
set_option linter.unusedSimpArgs false
set_option linter.unusedVariables false
namespace Go.Proofs.Ytekjdeibnfaehaa
open Go Go.RowKit

theorem DrvO.anc {base : Nat} {w : World} {D : DriveD} {v : Value} (h : DrvO base w D v) : ∃ A0 n0 c0 A1 n1 c1, v = drvV A0 n0 c0 D.f0.firm A1 n1 c1 D.f1.firm ∧ DrvA base w D A0 n0 c0 A1 n1 c1 := by
  obtain ⟨A0, A1, hv, h0, h1⟩ := h
  exact ⟨A0, _, _, A1, _, _, hv, ⟨rfl, rfl, Nat.le_refl _, Nat.le_refl _, h0.cap, h1.cap, h0.anc, h1.anc⟩⟩
set_option maxRecDepth 100000 in
set_option maxHeartbeats 16000000 in
theorem done_sync (p : PlayD) (ll : List Rec) (kk : Nat) (cnt : Int) (N : Nat) (hok : PlayOk p ll kk cnt N) (hN : N < 80) (a : ActD) (ha : ActOk a) (base : Nat) (w : World) (hb : base ≤ w.heap.size) (A0 : Option Addr) (n0 c0 : Nat) (A1 : Option Addr) (n1 c1 : Nat) (Am : Option Addr) (nm cm : Nat) (Af : Option Addr) (nf cf : Nat) (Al : Option Addr) (nl cl : Nat) (hp : PlayI base w p A0 n0 c0 A1 n1 c1 Am nm cm Af nf Al nl cl) (h7 : a.act % 7 = 1) : Calls Try.prog 35 #[playV A0 n0 c0 p.d.f0.firm A1 n1 c1 p.d.f1.firm Am nm cm p.m.file p.m.gen Af nf cf Al nl cl p.ok, actV a] w fun e w' => ∃ v, e = .returned v ∧ PlayR base w' (doneP p a) v ∧ Ext w w' := by
  obtain ⟨hs0, hs1, hsf, hsl, hsm⟩ := play_sizes hok
  have hD : Hid (doneP p a = ⟨syncD p.d, p.m, p.m.recs, [], true⟩) := hid (by rw [doneP, if_neg (by omega), if_pos h7, hok.ok])
  have hk := hok.ok
  obtain ⟨hdA, hmA, hfl, hfA, hll, hlc, hlA⟩ := hp
  have hsy : ∀ P, Ext w P → Calls Try.prog 73 #[drvV A0 n0 c0 p.d.f0.firm A1 n1 c1 p.d.f1.firm] P fun e w' => ∃ C0 m0 d0 C1 m1 d1, e = .returned (drvV C0 m0 d0 (syncD p.d).f0.firm C1 m1 d1 (syncD p.d).f1.firm) ∧ DrvA P.heap.size w' (syncD p.d) C0 m0 d0 C1 m1 d1 ∧ Ext P w' := fun P hx => by
    have hy := hdA.of_ext hx
    have i0 := hdA.l0
    have i1 := hdA.l1
    refine (Sync_own A0 n0 c0 A1 n1 c1 p.d hdA.l0 hdA.l1 (by omega) (by omega) P hy.b0 hy.b1).mono ?_
    rintro e w' ⟨v, rfl, hv, hx'⟩
    obtain ⟨C0, m0, d0, C1, m1, d1, rfl, hd⟩ := hv.anc
    exact ⟨C0, m0, d0, C1, m1, d1, rfl, hd, hx'⟩
  have HMA := hid hmA
  rw [hk]
  obtain ⟨F0, hF0⟩ : ∃ x, p.d.f0.firm = x := ⟨_, rfl⟩
  obtain ⟨F1, hF1⟩ : ∃ x, p.d.f1.firm = x := ⟨_, rfl⟩
  rw [hF0, hF1] at hsy
  rw [hF0, hF1]
  obtain ⟨Y, hY⟩ : ∃ Y, syncD p.d = Y := ⟨_, rfl⟩
  have HD := hD.out
  rw [hY] at HD hsy
  have HD2 := hid HD
  obtain ⟨S0, hS0⟩ : ∃ x, Y.f0.firm = x := ⟨_, rfl⟩
  obtain ⟨S1, hS1⟩ : ∃ x, Y.f1.firm = x := ⟨_, rfl⟩
  rw [hS0, hS1] at hsy
  obtain ⟨file, hfile⟩ : ∃ x, p.m.file = x := ⟨_, rfl⟩
  obtain ⟨gen, hgen⟩ : ∃ x, p.m.gen = x := ⟨_, rfl⟩
  have HV := hid (And.intro hS0 (And.intro hS1 (And.intro hfile hgen)))
  rw [hfile, hgen]
  have Hsy0 := hid hsy
  clear hdA hfA hlA hD HD hk hF0 hF1 hY hfl hll hs0 hs1 hsf hsl hsm hS0 hS1 hfile hgen hmA hlc hsy
  obtain ⟨B, hB⟩ : ∃ B : Nat, w.heap.size = B := ⟨_, rfl⟩
  have HB := hid hB
  clear hB
  go_enter Try.func35, Try.ntmps35
  go_wp2_with fail
  refine (Mod_any _ _ (by omega) (by omega) _).mono ?_
  rintro e w1 ⟨rfl, rfl⟩
  rw [h7]
  go_wp2_with fail
  obtain ⟨P3, hP3⟩ : ∃ P3, ((w.alloc (.cells #[.slice A0 n0 c0, .int .i64 F0, .slice A1 n1 c1, .int .i64 F1, .slice Am nm cm, .int .i64 file, .int .i64 gen, .slice Af nf cf, .slice Al nl cl, .bool true] 68)).alloc (.cells #[.int .i64 a.act, .int .i64 a.x.a0, .int .i64 a.x.a1, .int .i64 a.x.a2, .int .i64 a.x.a3, .int .i64 a.x.a4, .int .i64 a.x.a5, .int .i64 a.x.a6, .string a.x.text, .int .i64 a.k0, .int .i64 a.k1] 74)).alloc (.cells #[.slice none 0 0, .int .i64 0, .slice none 0 0, .int .i64 0, .slice none 0 0, .int .i64 0, .int .i64 0, .slice none 0 0, .slice none 0 0, .bool false] 68) = P3 := ⟨_, rfl⟩
  simp only [hP3, HB.out]
  have E3 : Hid (Ext w P3) := hid (by rw [← hP3]; exact (by repeat (first | (with_reducible first | exact Ext.refl _ | exact Ext.same _ _ _ _ | assumption | apply Ext.alloc | apply Ext.ext | apply Ext.drew) | (with_reducible refine Ext.setCell ?_ _ _ ?_; rotate_left; focus (first | omega | (simp only [zs1, zs2, zs3, size_ext]; omega))))))
  have b2 : BoxC P3 B [.slice A0 n0 c0, .int .i64 F0, .slice A1 n1 c1, .int .i64 F1, .slice Am nm cm, .int .i64 file, .int .i64 gen, .slice Af nf cf, .slice Al nl cl, .bool true] 68 := by rw [← hP3]; exact ((BoxC.new_at _ _ HB.out.symm).alloc _).alloc _
  have b4 : BoxC P3 (B + 1 + 1) [.slice none 0 0, .int .i64 0, .slice none 0 0, .int .i64 0, .slice none 0 0, .int .i64 0, .int .i64 0, .slice none 0 0, .slice none 0 0, .bool false] 68 := by rw [← hP3]; exact BoxC.new_at _ _ (by simp only [World.size_alloc]; have := HB.out; omega)
  have z3 : Hid (P3.heap.size = B + 3) := hid (by rw [← hP3]; simp only [World.size_alloc]; have := HB.out; omega)
  have Hsy : Hid (∀ P, Ext P3 P → Calls Try.prog 73 #[drvV A0 n0 c0 F0 A1 n1 c1 F1] P fun e w' => ∃ C0 m0 d0 C1 m1 d1, e = .returned (drvV C0 m0 d0 S0 C1 m1 d1 S1) ∧ DrvA (B + 3) w' Y C0 m0 d0 C1 m1 d1 ∧ Ext P w') := hid fun P hx => by
    refine (Hsy0.out P (E3.out.trans hx)).mono ?_
    rintro e w' ⟨C0, m0, d0, C1, m1, d1, rfl, hd, hx'⟩
    exact ⟨C0, m0, d0, C1, m1, d1, rfl, hd.mono (by have := hx.below.size; have := z3.out; omega), hx'⟩
  have Q20 := b2.cell (i := 0) rfl
  have Q21 := b2.cell (i := 1) rfl
  have Q22 := b2.cell (i := 2) rfl
  have Q23 := b2.cell (i := 3) rfl
  have Q24 := b2.cell (i := 4) rfl
  have Q25 := b2.cell (i := 5) rfl
  have Q26 := b2.cell (i := 6) rfl
  have Q29 := b2.cell (i := 9) rfl
  have Q40 := b4.cell (i := 0) rfl
  have Q41 := b4.cell (i := 1) rfl
  have Q42 := b4.cell (i := 2) rfl
  have Q43 := b4.cell (i := 3) rfl
  have Q44 := b4.cell (i := 4) rfl
  have Q45 := b4.cell (i := 5) rfl
  have Q46 := b4.cell (i := 6) rfl
  have Q47 := b4.cell (i := 7) rfl
  have Q48 := b4.cell (i := 8) rfl
  have Q49 := b4.cell (i := 9) rfl
  have fz := b4.frozen
  have l2 := b2.lt
  have l4 := b4.lt
  have ne2 : ¬ (B = B + 1 + 1) := by omega
  clear b2 b4 hP3 Hsy0
  refine wp_region_ord_but (B + 1 + 1) (.f 0 (.f 1 (.f 3 (.f 4 (.f 5 (.f 6 (.f 7 (.f 8 (.f 9 (.a 2 (.f 10 (.a 11 .d)))))))))))) (by kernel_rfl) (by kernel_rfl) ?_
  repeat ((first | refine wpOrd_pass rfl rfl ?_ | (refine wpOrd_free (v := ?_) rfl rfl (fun _ hS => ?_) ?_; rotate_left; focus (go_simp; try with_reducible rfl))); simp only [Act.put, zp1, zp2, zp3, zp4, zp5, zp6])
  refine wpOrd_call rfl rfl rfl Try.call73 (fun R hR => ?_)
  go_simp
  refine (Hsy.out _ (by repeat (first | (with_reducible first | exact Ext.refl _ | exact Ext.same _ _ _ _ | assumption | apply Ext.alloc | apply Ext.ext | apply Ext.drew) | (with_reducible refine Ext.setCell ?_ _ _ ?_; rotate_left; focus (first | omega | (simp only [zs1, zs2, zs3, size_ext]; omega))) | (with_reducible refine Ext.trans ?_ (by assumption))))).mono ?_
  rintro e w1 ⟨C0, m0, k0, C1, m1, k1, rfl, hdS, E1, d1, rfl⟩
  refine hR _ _ ⟨_, rfl, ?_, ?_⟩
  · (first | (intro b o hb hx; go_simp; done) | (intro b o hb hx; (try (refine (World.cell?_alloc_lt _ _ _ ?_).trans ?_; focus (simp only [size_ext, zs1, zs2, zs3]; omega))); (repeat (refine (World.cell?_setCell_other _ _ _ _ ?_).trans ?_; focus exact fun e => hx (congrArg Addr.block e).symm)); go_simp; done) | (intro b o hb hx; (try rw [show ∀ (X : World) (a : Addr), X.drew.cell? a = X.cell? a from fun _ _ => rfl]); (repeat (refine (World.cell?_setCell_other _ _ _ _ ?_).trans ?_; (focus exact fun e => hx (congrArg Addr.block e).symm))); rfl) | exact fun b o hb _ => Ext.cellOf (by repeat (first | (with_reducible first | exact Ext.refl _ | exact Ext.same _ _ _ _ | assumption | apply Ext.alloc | apply Ext.ext | apply Ext.drew) | (with_reducible refine Ext.setCell ?_ _ _ ?_; rotate_left; focus (first | omega | (simp only [zs1, zs2, zs3, size_ext]; omega))))) hb | (intro b o hb hx; (try simp only [size_ext, World.size_alloc, World.size_drew, World.size_setCell] at hb hx); go_simp; try rfl))
  clear hR R
  simp only [Act.put, zp1, zp2, zp3, zp4, zp5, zp6]
  repeat ((first | refine wpOrd_pass rfl rfl ?_ | (refine wpOrd_free (v := ?_) rfl rfl (fun _ hS => ?_) ?_; rotate_left; focus (go_simp; try with_reducible rfl))); simp only [Act.put, zp1, zp2, zp3, zp4, zp5, zp6])
  refine wpOrd_act rfl rfl (fun K hK => ?_)
  go_simp
  refine hK _ _ ⟨?_, ?_⟩
  · (first | (intro b o hb hx; go_simp; done) | (intro b o hb hx; (try (refine (World.cell?_alloc_lt _ _ _ ?_).trans ?_; focus (simp only [size_ext, zs1, zs2, zs3]; omega))); (repeat (refine (World.cell?_setCell_other _ _ _ _ ?_).trans ?_; focus exact fun e => hx (congrArg Addr.block e).symm)); go_simp; done) | (intro b o hb hx; (try rw [show ∀ (X : World) (a : Addr), X.drew.cell? a = X.cell? a from fun _ _ => rfl]); (repeat (refine (World.cell?_setCell_other _ _ _ _ ?_).trans ?_; (focus exact fun e => hx (congrArg Addr.block e).symm))); rfl) | exact fun b o hb _ => Ext.cellOf (by repeat (first | (with_reducible first | exact Ext.refl _ | exact Ext.same _ _ _ _ | assumption | apply Ext.alloc | apply Ext.ext | apply Ext.drew) | (with_reducible refine Ext.setCell ?_ _ _ ?_; rotate_left; focus (first | omega | (simp only [zs1, zs2, zs3, size_ext]; omega))))) hb | (intro b o hb hx; (try simp only [size_ext, World.size_alloc, World.size_drew, World.size_setCell] at hb hx); go_simp; try rfl))
  clear hK K
  try simp only [Act.put, zp1, zp2, zp3, zp4, zp5, zp6]
  refine wpOrd_nil ?_
  go_wp2_with fail
  have hB := HB.out
  have e3 := E3.out
  refine bodyPost_ret (v := playV C0 m0 k0 S0 C1 m1 k1 S1 Am nm cm file gen Am nm cm none 0 0 true) (by simp [results, Try.results35, go_sem, l4, Q40, Q41, Q42, Q43, Q44, Q45, Q46, Q47, Q48, Q49]) rfl ?_
  obtain ⟨v0, v1, v2, v3⟩ := HV.out
  refine ⟨_, rfl, ?_, (by repeat (first | (with_reducible first | exact Ext.refl _ | exact Ext.same _ _ _ _ | assumption | apply Ext.alloc | apply Ext.ext | apply Ext.drew) | (with_reducible refine Ext.setCell ?_ _ _ ?_; rotate_left; focus (first | omega | (simp only [zs1, zs2, zs3, size_ext]; omega))) | (with_reducible refine Ext.trans ?_ (by assumption))))⟩
  rw [HD2.out]
  exact ⟨C0, m0, k0, C1, m1, k1, Am, nm, cm, Am, nm, cm, none, 0, 0, by simp only [v0, v1, v2, v3], ⟨DrvA.moved2 hdS (Ext.refl _) (by simp) (by show P3.heap.size ≤ B + 3; have := z3.out; omega) (by omega), HMA.out.of_ext (by repeat (first | (with_reducible first | exact Ext.refl _ | exact Ext.same _ _ _ _ | assumption | apply Ext.alloc | apply Ext.ext | apply Ext.drew) | (with_reducible refine Ext.setCell ?_ _ _ ?_; rotate_left; focus (first | omega | (simp only [zs1, zs2, zs3, size_ext]; omega))) | (with_reducible refine Ext.trans ?_ (by assumption)))), HMA.out.l, HMA.out.r.of_ext (by repeat (first | (with_reducible first | exact Ext.refl _ | exact Ext.same _ _ _ _ | assumption | apply Ext.alloc | apply Ext.ext | apply Ext.drew) | (with_reducible refine Ext.setCell ?_ _ _ ?_; rotate_left; focus (first | omega | (simp only [zs1, zs2, zs3, size_ext]; omega))) | (with_reducible refine Ext.trans ?_ (by assumption)))), rfl, Nat.le_refl _, RecsA.nil _ _ _⟩⟩
end Go.Proofs.Ytekjdeibnfaehaa
