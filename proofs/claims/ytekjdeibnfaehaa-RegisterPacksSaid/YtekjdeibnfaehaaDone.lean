/- What is done with a drive: each kind of act. -/
import Derived.Test.YtekjdeibnfaehaaPack
import Derived.Test.YtekjdeibnfaehaaBegin
import Derived.Test.YtekjdeibnfaehaaMade2
set_option linter.unusedSimpArgs false
set_option linter.unusedVariables false
namespace Go.Proofs.Ytekjdeibnfaehaa
open Go Go.RowKit

section
variable {base n c b i : Nat} {P : World} {A A0 A1 : Option Addr} {D : DriveD} {M : MemD} {n0 c0 n1 c1 : Nat}
theorem DrvA.alloc (h : DrvA base P D A0 n0 c0 A1 n1 c1) (o : Obj) : DrvA base (P.alloc o) D A0 n0 c0 A1 n1 c1 := h.of_ext ((Ext.refl P).alloc o)
theorem DrvA.ext (h : DrvA base P D A0 n0 c0 A1 n1 c1) (E : Array Obj) (d : Nat) : DrvA base (P.ext E d) D A0 n0 c0 A1 n1 c1 := h.of_ext ((Ext.refl P).ext E d)
theorem DrvA.drew (h : DrvA base P D A0 n0 c0 A1 n1 c1) : DrvA base P.drew D A0 n0 c0 A1 n1 c1 := h.of_ext (Ext.refl P).drew
theorem MemA.alloc (h : MemA base P M A n c) (o : Obj) : MemA base (P.alloc o) M A n c := h.of_ext ((Ext.refl P).alloc o)
theorem MemA.ext (h : MemA base P M A n c) (E : Array Obj) (d : Nat) : MemA base (P.ext E d) M A n c := h.of_ext ((Ext.refl P).ext E d)
theorem MemA.drew (h : MemA base P M A n c) : MemA base P.drew M A n c := h.of_ext (Ext.refl P).drew
theorem RecsA.ext {l : List Rec} (h : RecsA base P A l) (E : Array Obj) (d : Nat) : RecsA base (P.ext E d) A l := h.of_ext ((Ext.refl P).ext E d)
end
@[go_sem] theorem cell?_dx (w : World) (E : Array Obj) (d n i : Nat) (hn : n < w.heap.size) : (w.drew.ext E d).cell? ⟨n, i, none⟩ = w.cell? ⟨n, i, none⟩ := cell?_ext w.drew E d n i none hn
@[go_sem] theorem frozen?_dx (w : World) (E : Array Obj) (d n i : Nat) (hn : n < w.heap.size) : (w.drew.ext E d).frozen? ⟨n, i, none⟩ = w.frozen? ⟨n, i, none⟩ := frozen?_ext w.drew E d n i none hn
@[go_sem] theorem setCell_dx (w : World) (E : Array Obj) (d n i : Nat) (v : Value) (hn : n < w.heap.size) : (w.drew.ext E d).setCell ⟨n, i, none⟩ v = (w.setCell ⟨n, i, none⟩ v).drew.ext E d := setCell_ext w.drew E d n i none v hn
abbrev playV (A0 : Option Addr) (n0 c0 : Nat) (f0 : Int) (A1 : Option Addr) (n1 c1 : Nat) (f1 : Int) (Am : Option Addr) (nm cm : Nat) (fi ge : Int) (Af : Option Addr) (nf cf : Nat) (Al : Option Addr) (nl cl : Nat) (ok : Bool) : Value :=
  .agg #[.slice A0 n0 c0, .int .i64 f0, .slice A1 n1 c1, .int .i64 f1, .slice Am nm cm, .int .i64 fi, .int .i64 ge, .slice Af nf cf, .slice Al nl cl, .bool ok]
abbrev actV (a : ActD) : Value := .agg #[.int .i64 a.act, .int .i64 a.x.a0, .int .i64 a.x.a1, .int .i64 a.x.a2, .int .i64 a.x.a3, .int .i64 a.x.a4, .int .i64 a.x.a5, .int .i64 a.x.a6, .string a.x.text, .int .i64 a.k0, .int .i64 a.k1]
/-- A play whose rows lie above a block. -/
structure PlayA (base : Nat) (w : World) (p : PlayD) (A0 : Option Addr) (n0 c0 : Nat) (A1 : Option Addr) (n1 c1 : Nat) (Am : Option Addr) (nm cm : Nat) (Af : Option Addr) (nf : Nat) (Al : Option Addr) (nl cl : Nat) : Prop where
  d : DrvA base w p.d A0 n0 c0 A1 n1 c1
  m : MemA base w p.m Am nm cm
  fl : p.firm.length = nf
  f : RecsA base w Af p.firm
  ll : p.later.length = nl
  lc : nl ≤ cl
  l : RecsA base w Al p.later
/-- A play whose rows lie above a block, but for the drive's. -/
structure PlayI (base : Nat) (w : World) (p : PlayD) (A0 : Option Addr) (n0 c0 : Nat) (A1 : Option Addr) (n1 c1 : Nat) (Am : Option Addr) (nm cm : Nat) (Af : Option Addr) (nf : Nat) (Al : Option Addr) (nl cl : Nat) : Prop where
  d : DrvY w p.d A0 n0 c0 A1 n1 c1
  m : MemA base w p.m Am nm cm
  fl : p.firm.length = nf
  f : RecsA base w Af p.firm
  ll : p.later.length = nl
  lc : nl ≤ cl
  l : RecsA base w Al p.later
theorem PlayA.weak {base : Nat} {w : World} {p : PlayD} {A0 : Option Addr} {n0 c0 : Nat} {A1 : Option Addr} {n1 c1 : Nat} {Am : Option Addr} {nm cm : Nat} {Af : Option Addr} {nf : Nat} {Al : Option Addr} {nl cl : Nat} (h : PlayA base w p A0 n0 c0 A1 n1 c1 Am nm cm Af nf Al nl cl) : PlayI base w p A0 n0 c0 A1 n1 c1 Am nm cm Af nf Al nl cl := ⟨h.d.read, h.m, h.fl, h.f, h.ll, h.lc, h.l⟩
theorem PlayI.of_ext {base : Nat} {w w' : World} {p : PlayD} {A0 : Option Addr} {n0 c0 : Nat} {A1 : Option Addr} {n1 c1 : Nat} {Am : Option Addr} {nm cm : Nat} {Af : Option Addr} {nf : Nat} {Al : Option Addr} {nl cl : Nat} (h : PlayI base w p A0 n0 c0 A1 n1 c1 Am nm cm Af nf Al nl cl) (hx : Ext w w') : PlayI base w' p A0 n0 c0 A1 n1 c1 Am nm cm Af nf Al nl cl :=
  ⟨h.d.of_ext hx, h.m.of_ext hx, h.fl, h.f.of_ext hx, h.ll, h.lc, h.l.of_ext hx⟩
def PlayR (base : Nat) (w : World) (p : PlayD) (v : Value) : Prop := ∃ A0 n0 c0 A1 n1 c1 Am nm cm Af nf cf Al nl cl,
  v = playV A0 n0 c0 p.d.f0.firm A1 n1 c1 p.d.f1.firm Am nm cm p.m.file p.m.gen Af nf cf Al nl cl p.ok ∧ PlayA base w p A0 n0 c0 A1 n1 c1 Am nm cm Af nf Al nl cl
theorem PlayA.of_ext {base : Nat} {w w' : World} {p : PlayD} {A0 : Option Addr} {n0 c0 : Nat} {A1 : Option Addr} {n1 c1 : Nat} {Am : Option Addr} {nm cm : Nat} {Af : Option Addr} {nf : Nat} {Al : Option Addr} {nl cl : Nat} (h : PlayA base w p A0 n0 c0 A1 n1 c1 Am nm cm Af nf Al nl cl) (hx : Ext w w') : PlayA base w' p A0 n0 c0 A1 n1 c1 Am nm cm Af nf Al nl cl :=
  ⟨h.d.of_ext hx, h.m.of_ext hx, h.fl, h.f.of_ext hx, h.ll, h.lc, h.l.of_ext hx⟩
theorem play_sizes {p : PlayD} {ll : List Rec} {kk : Nat} {cnt : Int} {N : Nat} (h : PlayOk p ll kk cnt N) : p.d.f0.bytes.length ≤ 100000 ∧ p.d.f1.bytes.length ≤ 100000 ∧ p.firm.length ≤ N ∧ p.later.length ≤ N ∧ p.m.recs.length ≤ N := by
  obtain ⟨h1, h2⟩ := driveOk_len h.jour.drive
  have hm := h.many
  refine ⟨h1, h2, ?_, ?_, ?_⟩
  · rw [h.firm, (ordL_perm _).length_eq, List.length_take]; omega
  · rw [h.later, List.length_drop]; omega
  · rw [h.jour.recs, (ordL_perm _).length_eq]; exact hm

set_option maxRecDepth 100000 in
set_option maxHeartbeats 16000000 in
theorem done_crash (p : PlayD) (ll : List Rec) (kk : Nat) (cnt : Int) (N : Nat) (hok : PlayOk p ll kk cnt N) (hN : N < 80) (a : ActD) (ha : ActOk a) (base : Nat) (w : World) (hb : base ≤ w.heap.size) (A0 : Option Addr) (n0 c0 : Nat) (A1 : Option Addr) (n1 c1 : Nat) (Am : Option Addr) (nm cm : Nat) (Af : Option Addr) (nf cf : Nat) (Al : Option Addr) (nl cl : Nat) (hp : PlayI base w p A0 n0 c0 A1 n1 c1 Am nm cm Af nf Al nl cl) (h7 : a.act % 7 = 0) : Calls Try.prog 35 #[playV A0 n0 c0 p.d.f0.firm A1 n1 c1 p.d.f1.firm Am nm cm p.m.file p.m.gen Af nf cf Al nl cl p.ok, actV a] w fun e w' => ∃ v, e = .returned v ∧ PlayR base w' (doneP p a) v ∧ Ext w w' := by
  obtain ⟨hs0, hs1, hsf, hsl, hsm⟩ := play_sizes hok
  have hsv := hok.surv a.k0 a.k1
  have hD : Hid (doneP p a = ⟨openD (crashD p.d a.k0 a.k1), openM (crashD p.d a.k0 a.k1), (openM (crashD p.d a.k0 a.k1)).recs, [], true⟩) := hid (by rw [doneP, if_pos h7, hsv, hok.ok]; rfl)
  have hk := hok.ok
  obtain ⟨hdA, hmA, hfl, hfA, hll, hlc, hlA⟩ := hp
  have hcr := fun P (hx : Ext w P) => Crash_y A0 n0 c0 A1 n1 c1 p.d a.k0 a.k1 P (hdA.of_ext hx) (by rw [← hdA.l0]; omega) (by rw [← hdA.l1]; omega) ha.2.1.1 ha.2.1.2 ha.2.2.1.1 ha.2.2.1.2
  have hfew := openM_few (crashD p.d a.k0 a.k1)
  simp only [survB, Bool.and_eq_true, decide_eq_true_eq] at hsv
  obtain ⟨hoe, hbg⟩ := hsv
  have hFr := hid hfA.read
  have hLr := hid hlA.read
  rw [hk]
  obtain ⟨F0, hF0⟩ : ∃ x, p.d.f0.firm = x := ⟨_, rfl⟩
  obtain ⟨F1, hF1⟩ : ∃ x, p.d.f1.firm = x := ⟨_, rfl⟩
  rw [hF0, hF1] at hcr
  rw [hF0, hF1]
  obtain ⟨X, hX⟩ : ∃ X, crashD p.d a.k0 a.k1 = X := ⟨_, rfl⟩
  rw [hX] at hoe hbg hcr hfew
  have HD := hD.out
  rw [hX] at HD
  have HD2 := hid HD
  have Hcr := hid hcr
  have Hbg := hid hbg
  have Hfl := hid hfl
  have Hll := hid hll
  have Hsf := hid (show nf + nl ≤ 90000 by omega)
  clear hdA hmA hfA hlA hD HD hk hF0 hF1 hX hcr hbg hfl hll hs0 hs1 hsf hsl hsm
  obtain ⟨file, hfile⟩ : ∃ x, p.m.file = x := ⟨_, rfl⟩
  obtain ⟨gen, hgen⟩ : ∃ x, p.m.gen = x := ⟨_, rfl⟩
  rw [hfile, hgen]
  clear hfile hgen
  obtain ⟨B, hB⟩ : ∃ B : Nat, w.heap.size = B := ⟨_, rfl⟩
  have HB := hid hB
  clear hB
  go_enter Try.func35, Try.ntmps35
  go_wp2_with fail
  refine (Mod_any _ _ (by omega) (by omega) _).mono ?_
  rintro e w1 ⟨rfl, rfl⟩
  rw [h7]
  go_wp2_with fail
  refine (Hcr.out _ (by repeat (first | (with_reducible first | exact Ext.refl _ | exact Ext.same _ _ _ _ | assumption | apply Ext.alloc | apply Ext.ext | apply Ext.drew) | (with_reducible refine Ext.setCell ?_ _ _ ?_; rotate_left; focus (first | omega | (simp only [zs1, zs2, zs3, size_ext]; omega)))))).mono ?_
  rintro e P1 ⟨C0, m0, d0, C1, m1, d1, rfl, hy, x1⟩
  have z1 : Hid (B + 3 ≤ P1.heap.size) := hid (by have q := x1.below.size; have := HB.out; simp only [World.size_alloc] at q; omega)
  have b2 : BoxC P1 B [.slice A0 n0 c0, .int .i64 F0, .slice A1 n1 c1, .int .i64 F1, .slice Am nm cm, .int .i64 file, .int .i64 gen, .slice Af nf cf, .slice Al nl cl, .bool true] 68 := BoxC.of_ext (((BoxC.new_at _ _ HB.out.symm).alloc _).alloc _) x1
  have b4 : BoxC P1 (B + 1 + 1) [.slice none 0 0, .int .i64 0, .slice none 0 0, .int .i64 0, .slice none 0 0, .int .i64 0, .int .i64 0, .slice none 0 0, .slice none 0 0, .bool false] 68 := BoxC.of_ext (BoxC.new_at _ _ (by simp only [World.size_alloc]; have := HB.out; omega)) x1
  have E1 : Hid (Ext w P1) := hid (Ext.trans (by repeat (first | (with_reducible first | exact Ext.refl _ | exact Ext.same _ _ _ _ | assumption | apply Ext.alloc | apply Ext.ext | apply Ext.drew) | (with_reducible refine Ext.setCell ?_ _ _ ?_; rotate_left; focus (first | omega | (simp only [zs1, zs2, zs3, size_ext]; omega))))) x1)
  have B2 := hid b2
  have B4 := hid b4
  have Hop := hid (Open_any C0 m0 d0 C1 m1 d1 X hy.l0 hy.l1 hy.h0 hy.h1 hy.k0 hy.k1 P1 hy.b0 hy.b1)
  simp only [HB.out]
  clear x1 b2 b4 hy Hcr
  generalize X.f0.firm = X0 at Hop
  generalize X.f1.firm = X1 at Hop
  go_wp2_with fail
  refine Hop.out.mono ?_
  rintro e P2 ⟨D0, q0, e0, D1, q1, e1, Am2, nm2, cm2, rfl, hdx, hmx, x2⟩
  have z2 : Hid (B + 3 ≤ P1.heap.size ∧ B + 3 ≤ P2.heap.size) := hid (by have q := x2.below.size; have := z1.out; omega)
  have hdB := hid (hdx.anc.mono (base' := B + 3) (by have := z1.out; omega))
  have hmB := hid (hmx.anc.mono (base' := B + 3) (by have := z1.out; omega))
  have b2 := B2.out.of_ext x2
  have b4 := B4.out.of_ext x2
  have E2 : Hid (Ext w P2) := hid (Ext.trans E1.out x2)
  rw [hoe]
  have hnm := hmB.out.l
  have Hnm := hid hnm
  rw [hnm] at hfew
  clear hnm
  obtain ⟨Y, hY⟩ : ∃ Y, openD X = Y := ⟨_, rfl⟩
  obtain ⟨M2, hM2⟩ : ∃ M2, openM X = M2 := ⟨_, rfl⟩
  rw [hY, hM2] at HD2
  rw [hY] at hdB
  rw [hM2] at hmB Hbg Hnm
  rw [hY, hM2]
  obtain ⟨G0, hG0⟩ : ∃ x, Y.f0.firm = x := ⟨_, rfl⟩
  obtain ⟨G1, hG1⟩ : ∃ x, Y.f1.firm = x := ⟨_, rfl⟩
  obtain ⟨fi2, hfi2⟩ : ∃ x, M2.file = x := ⟨_, rfl⟩
  obtain ⟨ge2, hge2⟩ : ∃ x, M2.gen = x := ⟨_, rfl⟩
  have HV := hid (And.intro hG0 (And.intro hG1 (And.intro hfi2 hge2)))
  rw [hG0, hG1, hfi2, hge2]
  have Hbeg : Hid (∀ (P : World) (cg c2 : Nat), Ext P2 P → Calls Try.prog 72 #[regV Am2 nm2 cg, regV Af nf c2, .slice Al nl cl] P fun e w' => e = .returned (.bool true) ∧ Ext P w') := hid fun P cg c2 hx => by
    have h := begins_any Am2 Af Al nm2 cg nf c2 nl cl M2.recs p.firm p.later Hnm.out Hfl.out Hll.out hlc (by omega) Hsf.out P (hmB.out.r.read.of_ext hx) ((hFr.out.of_ext E2.out).of_ext hx) ((hLr.out.of_ext E2.out).of_ext hx)
    rw [Hbg.out] at h
    exact h
  clear hG0 hG1 hfi2 hge2 hY hM2 hdx hmx x2 B2 B4 E1 z1 Hop hoe
  have B2 := hid b2
  have B4 := hid b4
  clear b2 b4
  go_wp2_with fail
  obtain ⟨B5, hB5⟩ : ∃ B5, P2.heap.size = B5 := ⟨_, rfl⟩
  obtain ⟨P3, hP3⟩ : ∃ P3, (P2.alloc (.cells #[.slice D0 q0 e0, .int .i64 G0, .slice D1 q1 e1, .int .i64 G1] 62)).alloc (.cells #[.slice Am2 nm2 cm2, .int .i64 fi2, .int .i64 ge2] 64) = P3 := ⟨_, rfl⟩
  simp only [hP3, hB5]
  have x23 : Ext P2 P3 := by rw [← hP3]; exact ((Ext.refl _).alloc _).alloc _
  have b5 : BoxC P3 B5 [.slice D0 q0 e0, .int .i64 G0, .slice D1 q1 e1, .int .i64 G1] 62 := by rw [← hP3]; exact (BoxC.new_at _ _ hB5.symm).alloc _
  have b6 : BoxC P3 (B5 + 1) [.slice Am2 nm2 cm2, .int .i64 fi2, .int .i64 ge2] 64 := by rw [← hP3]; exact BoxC.new_at _ _ (by rw [World.size_alloc, hB5])
  have b2 := B2.out.of_ext x23
  have b4 := B4.out.of_ext x23
  have E3 : Hid (Ext w P3) := hid (Ext.trans E2.out x23)
  have hd3 := hdB.out.of_ext x23
  have hm3 := hmB.out.of_ext x23
  have z3 : B + 3 ≤ B5 := by have := z2.out; omega
  have Q27 := b2.cell (i := 7) rfl
  have Q28 := b2.cell (i := 8) rfl
  have Q29 := b2.cell (i := 9) rfl
  have Q40 := b4.cell (i := 0) rfl
  have Q41 := b4.cell (i := 1) rfl
  have Q42 := b4.cell (i := 2) rfl
  have Q43 := b4.cell (i := 3) rfl
  have Q44 := b4.cell (i := 4) rfl
  have Q45 := b4.cell (i := 5) rfl
  have Q46 := b4.cell (i := 6) rfl
  have Q47 := b4.cell (i := 7) rfl
  have Q48 := b4.cell (i := 8) rfl
  have Q49 := b4.cell (i := 9) rfl
  have Q50 := b5.cell (i := 0) rfl
  have Q51 := b5.cell (i := 1) rfl
  have Q52 := b5.cell (i := 2) rfl
  have Q53 := b5.cell (i := 3) rfl
  have Q60 := b6.cell (i := 0) rfl
  have Q61 := b6.cell (i := 1) rfl
  have Q62 := b6.cell (i := 2) rfl
  have fz := b4.frozen
  have l2 := b2.lt
  have l4 := b4.lt
  have l5 := b5.lt
  have l6 := b6.lt
  have ne2 : ¬ (B = B + 1 + 1) := by omega
  have ne5 : ¬ (B5 = B + 1 + 1) := by omega
  have ne6 : ¬ (B5 + 1 = B + 1 + 1) := by omega
  have ne6d : ¬ (B5 = B + 1) := by omega
  have HD3 := hid hd3
  have HM3 := hid hm3
  have X23 := hid x23
  clear b2 b4 b5 b6 hP3 x23 B2 B4 E2 hdB hmB z2 hd3 hm3 hB5
  refine wp_region_ord_but (B + 1 + 1) (.f 0 (.f 1 (.f 2 (.f 3 (.f 4 (.f 5 (.f 6 (.f 7 (.f 8 (.f 9 (.f 10 (.f 11 (.f 12 (.f 13 (.f 14 (.f 15 (.f 16 (.a 17 (.f 18 (.f 19 (.a 20 .d))))))))))))))))))))) (by kernel_rfl) (by kernel_rfl) ?_
  repeat ((first | refine wpOrd_pass rfl rfl ?_ | (refine wpOrd_free (v := ?_) rfl rfl (fun _ hS => ?_) ?_; rotate_left; focus (go_simp; try with_reducible rfl))); simp only [Act.put, zp1, zp2, zp3, zp4, zp5, zp6])
  refine ord_bool (j := 6) rfl (fun hb6 => ?_) (fun hb6 => ?_)
  rotate_left
  focus
   try (exfalso; first | (simp at hb6; done) | (simp at hb6; omega))
   all_goals
    (try simp only [hb6])
    repeat ((first | refine wpOrd_pass rfl rfl ?_ | (refine wpOrd_free (v := ?_) rfl rfl (fun _ hS => ?_) ?_; rotate_left; focus (go_simp; try with_reducible rfl))); simp only [Act.put, zp1, zp2, zp3, zp4, zp5, zp6])
    refine wpOrd_actPass rfl rfl ?_ ?_
    · (first | (intro b o hb hx; go_simp; done) | (intro b o hb hx; (try (refine (World.cell?_alloc_lt _ _ _ ?_).trans ?_; focus (simp only [size_ext, zs1, zs2, zs3]; omega))); (repeat (refine (World.cell?_setCell_other _ _ _ _ ?_).trans ?_; focus exact fun e => hx (congrArg Addr.block e).symm)); go_simp; done) | (intro b o hb hx; (try rw [show ∀ (X : World) (a : Addr), X.drew.cell? a = X.cell? a from fun _ _ => rfl]); (repeat (refine (World.cell?_setCell_other _ _ _ _ ?_).trans ?_; (focus exact fun e => hx (congrArg Addr.block e).symm))); rfl) | exact fun b o hb _ => Ext.cellOf (by repeat (first | (with_reducible first | exact Ext.refl _ | exact Ext.same _ _ _ _ | assumption | apply Ext.alloc | apply Ext.ext | apply Ext.drew) | (with_reducible refine Ext.setCell ?_ _ _ ?_; rotate_left; focus (first | omega | (simp only [zs1, zs2, zs3, size_ext]; omega))))) hb | (intro b o hb hx; (try simp only [size_ext, World.size_alloc, World.size_drew, World.size_setCell] at hb hx); go_simp; try rfl))
    simp only [Act.put, zp1, zp2, zp3, zp4, zp5, zp6]
    repeat ((first | refine wpOrd_pass rfl rfl ?_ | (refine wpOrd_free (v := ?_) rfl rfl (fun _ hS => ?_) ?_; rotate_left; focus (go_simp; try with_reducible rfl))); simp only [Act.put, zp1, zp2, zp3, zp4, zp5, zp6])
    refine wpOrd_act rfl rfl (fun K hK => ?_)
    go_simp
    refine hK _ _ ⟨?_, ?_⟩
    · (first | (intro b o hb hx; go_simp; done) | (intro b o hb hx; (try (refine (World.cell?_alloc_lt _ _ _ ?_).trans ?_; focus (simp only [size_ext, zs1, zs2, zs3]; omega))); (repeat (refine (World.cell?_setCell_other _ _ _ _ ?_).trans ?_; focus exact fun e => hx (congrArg Addr.block e).symm)); go_simp; done) | (intro b o hb hx; (try rw [show ∀ (X : World) (a : Addr), X.drew.cell? a = X.cell? a from fun _ _ => rfl]); (repeat (refine (World.cell?_setCell_other _ _ _ _ ?_).trans ?_; (focus exact fun e => hx (congrArg Addr.block e).symm))); rfl) | exact fun b o hb _ => Ext.cellOf (by repeat (first | (with_reducible first | exact Ext.refl _ | exact Ext.same _ _ _ _ | assumption | apply Ext.alloc | apply Ext.ext | apply Ext.drew) | (with_reducible refine Ext.setCell ?_ _ _ ?_; rotate_left; focus (first | omega | (simp only [zs1, zs2, zs3, size_ext]; omega))))) hb | (intro b o hb hx; (try simp only [size_ext, World.size_alloc, World.size_drew, World.size_setCell] at hb hx); go_simp; try rfl))
    clear hK K
    try simp only [Act.put, zp1, zp2, zp3, zp4, zp5, zp6]
    refine wpOrd_nil ?_
  rotate_right
  focus
   try (exfalso; first | (simp at hb6; done) | (simp at hb6; omega))
   all_goals
    (try simp only [hb6])
    repeat ((first | refine wpOrd_pass rfl rfl ?_ | (refine wpOrd_free (v := ?_) rfl rfl (fun _ hS => ?_) ?_; rotate_left; focus (go_simp; try with_reducible rfl))); simp only [Act.put, zp1, zp2, zp3, zp4, zp5, zp6])
    refine ord_bool (j := 10) rfl (fun hb10 => ?_) (fun hb10 => ?_)
    rotate_left
    focus
     try (exfalso; first | (simp at hb10; done) | (simp at hb10; omega))
     all_goals
      (try simp only [hb10])
      repeat ((first | refine wpOrd_pass rfl rfl ?_ | (refine wpOrd_free (v := ?_) rfl rfl (fun _ hS => ?_) ?_; rotate_left; focus (go_simp; try with_reducible rfl))); simp only [Act.put, zp1, zp2, zp3, zp4, zp5, zp6])
      refine wpOrd_actPass rfl rfl ?_ ?_
      · (first | (intro b o hb hx; go_simp; done) | (intro b o hb hx; (try (refine (World.cell?_alloc_lt _ _ _ ?_).trans ?_; focus (simp only [size_ext, zs1, zs2, zs3]; omega))); (repeat (refine (World.cell?_setCell_other _ _ _ _ ?_).trans ?_; focus exact fun e => hx (congrArg Addr.block e).symm)); go_simp; done) | (intro b o hb hx; (try rw [show ∀ (X : World) (a : Addr), X.drew.cell? a = X.cell? a from fun _ _ => rfl]); (repeat (refine (World.cell?_setCell_other _ _ _ _ ?_).trans ?_; (focus exact fun e => hx (congrArg Addr.block e).symm))); rfl) | exact fun b o hb _ => Ext.cellOf (by repeat (first | (with_reducible first | exact Ext.refl _ | exact Ext.same _ _ _ _ | assumption | apply Ext.alloc | apply Ext.ext | apply Ext.drew) | (with_reducible refine Ext.setCell ?_ _ _ ?_; rotate_left; focus (first | omega | (simp only [zs1, zs2, zs3, size_ext]; omega))))) hb | (intro b o hb hx; (try simp only [size_ext, World.size_alloc, World.size_drew, World.size_setCell] at hb hx); go_simp; try rfl))
      simp only [Act.put, zp1, zp2, zp3, zp4, zp5, zp6]
      repeat ((first | refine wpOrd_pass rfl rfl ?_ | (refine wpOrd_free (v := ?_) rfl rfl (fun _ hS => ?_) ?_; rotate_left; focus (go_simp; try with_reducible rfl))); simp only [Act.put, zp1, zp2, zp3, zp4, zp5, zp6])
      refine wpOrd_act rfl rfl (fun K hK => ?_)
      go_simp
      refine hK _ _ ⟨?_, ?_⟩
      · (first | (intro b o hb hx; go_simp; done) | (intro b o hb hx; (try (refine (World.cell?_alloc_lt _ _ _ ?_).trans ?_; focus (simp only [size_ext, zs1, zs2, zs3]; omega))); (repeat (refine (World.cell?_setCell_other _ _ _ _ ?_).trans ?_; focus exact fun e => hx (congrArg Addr.block e).symm)); go_simp; done) | (intro b o hb hx; (try rw [show ∀ (X : World) (a : Addr), X.drew.cell? a = X.cell? a from fun _ _ => rfl]); (repeat (refine (World.cell?_setCell_other _ _ _ _ ?_).trans ?_; (focus exact fun e => hx (congrArg Addr.block e).symm))); rfl) | exact fun b o hb _ => Ext.cellOf (by repeat (first | (with_reducible first | exact Ext.refl _ | exact Ext.same _ _ _ _ | assumption | apply Ext.alloc | apply Ext.ext | apply Ext.drew) | (with_reducible refine Ext.setCell ?_ _ _ ?_; rotate_left; focus (first | omega | (simp only [zs1, zs2, zs3, size_ext]; omega))))) hb | (intro b o hb hx; (try simp only [size_ext, World.size_alloc, World.size_drew, World.size_setCell] at hb hx); go_simp; try rfl))
      clear hK K
      try simp only [Act.put, zp1, zp2, zp3, zp4, zp5, zp6]
      refine wpOrd_nil ?_
    rotate_right
    focus
     try (exfalso; first | (simp at hb10; done) | (simp at hb10; omega))
     all_goals
      (try simp only [hb10])
      repeat ((first | refine wpOrd_pass rfl rfl ?_ | (refine wpOrd_free (v := ?_) rfl rfl (fun _ hS => ?_) ?_; rotate_left; focus (go_simp; try with_reducible rfl))); simp only [Act.put, zp1, zp2, zp3, zp4, zp5, zp6])
      refine wpOrd_call rfl rfl rfl Try.call72 (fun R hR => ?_)
      go_simp
      refine (Hbeg.out _ _ _ (Ext.trans X23.out (by repeat (first | (with_reducible first | exact Ext.refl _ | exact Ext.same _ _ _ _ | assumption | apply Ext.alloc | apply Ext.ext | apply Ext.drew) | (with_reducible refine Ext.setCell ?_ _ _ ?_; rotate_left; focus (first | omega | (simp only [zs1, zs2, zs3, size_ext]; omega))) | (with_reducible refine Ext.trans ?_ (by assumption)))))).mono ?_
      rintro e w1 ⟨rfl, E1, d1, rfl⟩
      refine hR _ _ ⟨_, rfl, ?_, ?_⟩
      · (first | (intro b o hb hx; go_simp; done) | (intro b o hb hx; (try (refine (World.cell?_alloc_lt _ _ _ ?_).trans ?_; focus (simp only [size_ext, zs1, zs2, zs3]; omega))); (repeat (refine (World.cell?_setCell_other _ _ _ _ ?_).trans ?_; focus exact fun e => hx (congrArg Addr.block e).symm)); go_simp; done) | (intro b o hb hx; (try rw [show ∀ (X : World) (a : Addr), X.drew.cell? a = X.cell? a from fun _ _ => rfl]); (repeat (refine (World.cell?_setCell_other _ _ _ _ ?_).trans ?_; (focus exact fun e => hx (congrArg Addr.block e).symm))); rfl) | exact fun b o hb _ => Ext.cellOf (by repeat (first | (with_reducible first | exact Ext.refl _ | exact Ext.same _ _ _ _ | assumption | apply Ext.alloc | apply Ext.ext | apply Ext.drew) | (with_reducible refine Ext.setCell ?_ _ _ ?_; rotate_left; focus (first | omega | (simp only [zs1, zs2, zs3, size_ext]; omega))))) hb | (intro b o hb hx; (try simp only [size_ext, World.size_alloc, World.size_drew, World.size_setCell] at hb hx); go_simp; try rfl))
      clear hR R
      simp only [Act.put, zp1, zp2, zp3, zp4, zp5, zp6]
      repeat ((first | refine wpOrd_pass rfl rfl ?_ | (refine wpOrd_free (v := ?_) rfl rfl (fun _ hS => ?_) ?_; rotate_left; focus (go_simp; try with_reducible rfl))); simp only [Act.put, zp1, zp2, zp3, zp4, zp5, zp6])
      refine wpOrd_act rfl rfl (fun K hK => ?_)
      go_simp
      refine hK _ _ ⟨?_, ?_⟩
      · (first | (intro b o hb hx; go_simp; done) | (intro b o hb hx; (try (refine (World.cell?_alloc_lt _ _ _ ?_).trans ?_; focus (simp only [size_ext, zs1, zs2, zs3]; omega))); (repeat (refine (World.cell?_setCell_other _ _ _ _ ?_).trans ?_; focus exact fun e => hx (congrArg Addr.block e).symm)); go_simp; done) | (intro b o hb hx; (try rw [show ∀ (X : World) (a : Addr), X.drew.cell? a = X.cell? a from fun _ _ => rfl]); (repeat (refine (World.cell?_setCell_other _ _ _ _ ?_).trans ?_; (focus exact fun e => hx (congrArg Addr.block e).symm))); rfl) | exact fun b o hb _ => Ext.cellOf (by repeat (first | (with_reducible first | exact Ext.refl _ | exact Ext.same _ _ _ _ | assumption | apply Ext.alloc | apply Ext.ext | apply Ext.drew) | (with_reducible refine Ext.setCell ?_ _ _ ?_; rotate_left; focus (first | omega | (simp only [zs1, zs2, zs3, size_ext]; omega))))) hb | (intro b o hb hx; (try simp only [size_ext, World.size_alloc, World.size_drew, World.size_setCell] at hb hx); go_simp; try rfl))
      clear hK K
      try simp only [Act.put, zp1, zp2, zp3, zp4, zp5, zp6]
      refine wpOrd_nil ?_
  go_wp2_with fail
  have hd3 := HD3.out
  have hm3 := HM3.out
  have hB := HB.out
  have e3 := E3.out
  refine bodyPost_ret (v := playV D0 q0 e0 G0 D1 q1 e1 G1 Am2 nm2 cm2 fi2 ge2 Am2 nm2 cm2 none 0 0 true) (by simp [results, Try.results35, go_sem, l4, Q40, Q41, Q42, Q43, Q44, Q45, Q46, Q47, Q48, Q49]) rfl ?_
  obtain ⟨v0, v1, v2, v3⟩ := HV.out
  refine ⟨_, rfl, ?_, (by repeat (first | (with_reducible first | exact Ext.refl _ | exact Ext.same _ _ _ _ | assumption | apply Ext.alloc | apply Ext.ext | apply Ext.drew) | (with_reducible refine Ext.setCell ?_ _ _ ?_; rotate_left; focus (first | omega | (simp only [zs1, zs2, zs3, size_ext]; omega))) | (with_reducible refine Ext.trans ?_ (by assumption))))⟩
  rw [HD2.out]
  exact ⟨D0, q0, e0, D1, q1, e1, Am2, nm2, cm2, Am2, nm2, cm2, none, 0, 0, by simp only [v0, v1, v2, v3], ⟨DrvA.mono (base := B + 3) (by repeat (first | (with_reducible assumption) | with_reducible refine DrvA.set ?_ (by omega) | with_reducible refine MemA.set ?_ (by omega) | with_reducible refine RecsA.set ?_ (by omega) | with_reducible refine BytA.set ?_ (by omega) | with_reducible apply DrvA.alloc | with_reducible apply DrvA.ext | with_reducible apply DrvA.drew | with_reducible apply MemA.alloc | with_reducible apply MemA.ext | with_reducible apply MemA.drew | with_reducible apply RecsA.alloc | with_reducible apply RecsA.ext | with_reducible apply RecsA.drew)) (by omega), MemA.mono (base := B + 3) (by repeat (first | (with_reducible assumption) | with_reducible refine DrvA.set ?_ (by omega) | with_reducible refine MemA.set ?_ (by omega) | with_reducible refine RecsA.set ?_ (by omega) | with_reducible refine BytA.set ?_ (by omega) | with_reducible apply DrvA.alloc | with_reducible apply DrvA.ext | with_reducible apply DrvA.drew | with_reducible apply MemA.alloc | with_reducible apply MemA.ext | with_reducible apply MemA.drew | with_reducible apply RecsA.alloc | with_reducible apply RecsA.ext | with_reducible apply RecsA.drew)) (by omega), Hnm.out, RecsA.mono (base := B + 3) (MemA.r (M := M2) (n := nm2) (c := cm2) (by repeat (first | (with_reducible assumption) | with_reducible refine DrvA.set ?_ (by omega) | with_reducible refine MemA.set ?_ (by omega) | with_reducible refine RecsA.set ?_ (by omega) | with_reducible refine BytA.set ?_ (by omega) | with_reducible apply DrvA.alloc | with_reducible apply DrvA.ext | with_reducible apply DrvA.drew | with_reducible apply MemA.alloc | with_reducible apply MemA.ext | with_reducible apply MemA.drew | with_reducible apply RecsA.alloc | with_reducible apply RecsA.ext | with_reducible apply RecsA.drew))) (by omega), rfl, Nat.le_refl _, RecsA.nil _ _ _⟩⟩
end Go.Proofs.Ytekjdeibnfaehaa
