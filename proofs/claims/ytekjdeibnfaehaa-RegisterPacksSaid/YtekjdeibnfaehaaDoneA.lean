/- What is done with a drive: a record is appended. -/
import Derived.Test.YtekjdeibnfaehaaApp3
set_option linter.unusedSimpArgs false
set_option linter.unusedVariables false
namespace Go.Proofs.Ytekjdeibnfaehaa
open Go Go.RowKit

set_option maxRecDepth 100000 in
set_option maxHeartbeats 16000000 in
theorem done_app (p : PlayD) (ll : List Rec) (kk : Nat) (cnt : Int) (N : Nat) (hok : PlayOk p ll kk cnt N) (hN : N < 80) (a : ActD) (ha : ActOk a) (base : Nat) (w : World) (hb : base ≤ w.heap.size) (A0 : Option Addr) (n0 c0 : Nat) (A1 : Option Addr) (n1 c1 : Nat) (Am : Option Addr) (nm cm : Nat) (Af : Option Addr) (nf cf : Nat) (Al : Option Addr) (nl cl : Nat) (hp : PlayI base w p A0 n0 c0 A1 n1 c1 Am nm cm Af nf Al nl cl) (h70 : ¬ a.act % 7 = 0) (h71 : ¬ a.act % 7 = 1) (h72 : ¬ a.act % 7 = 2) (h73 : ¬ a.act % 7 = 3) : Calls Try.prog 35 #[playV A0 n0 c0 p.d.f0.firm A1 n1 c1 p.d.f1.firm Am nm cm p.m.file p.m.gen Af nf cf Al nl cl p.ok, actV a] w fun e w' => ∃ v, e = .returned v ∧ PlayR base w' (doneP p a) v ∧ Ext w w' := by
  obtain ⟨hs0, hs1, hsf, hsl, hsm⟩ := play_sizes hok
  obtain ⟨hro, hae⟩ := hok.app hN a.x
  have hD : Hid (doneP p a = ⟨appD p.d p.m (madeR p.m.recs a.x), appM p.d p.m (madeR p.m.recs a.x), p.firm, p.later ++ [madeR p.m.recs a.x], true⟩) := hid (by
    rw [doneP, if_neg h70, if_neg h71, if_neg h72, if_neg h73, if_pos hae, hok.ok])
  have hk := hok.ok
  have hsq := checkB_sq (memOk_facts hok.jour.mem).2.2.2.1
  obtain ⟨hdA, hmA, hfl, hfA, hll, hlc, hlA⟩ := hp
  have hml := hmA.l
  have hmk := fun P (hx : Ext w P) => Made_any Am cm nm p.m.recs a.x hml (by omega) hsq ha.2.2.2 P (hmA.r.read.of_ext hx)
  have hap := fun P (hx : Ext w P) => Append_any A0 n0 c0 A1 n1 c1 p.d Am nm cm p.m (madeR p.m.recs a.x) hml (by omega) (by have := (recNum_of hro).text; omega) P (hdA.of_ext hx) (hmA.r.read.of_ext hx)
  rw [hae] at hap
  have hLr := hlA.read
  have HfA := hid hfA
  have Hfl := hid hfl
  have Hln := hid (show p.later.length ≤ 90 by omega)
  have Hll := hid hll
  have HLR := hid hLr
  rw [hk]
  obtain ⟨r, hr⟩ : ∃ r, madeR p.m.recs a.x = r := ⟨_, rfl⟩
  rw [hr] at hmk hap
  obtain ⟨F0, hF0⟩ : ∃ x, p.d.f0.firm = x := ⟨_, rfl⟩
  obtain ⟨F1, hF1⟩ : ∃ x, p.d.f1.firm = x := ⟨_, rfl⟩
  rw [hF0, hF1] at hap
  rw [hF0, hF1]
  have HD := hD.out
  rw [hr] at HD
  obtain ⟨Y, hY⟩ : ∃ Y, appD p.d p.m r = Y := ⟨_, rfl⟩
  obtain ⟨M2, hM2⟩ : ∃ M2, appM p.d p.m r = M2 := ⟨_, rfl⟩
  rw [hY, hM2] at HD hap
  have HD2 := hid HD
  obtain ⟨S0, hS0⟩ : ∃ x, Y.f0.firm = x := ⟨_, rfl⟩
  obtain ⟨S1, hS1⟩ : ∃ x, Y.f1.firm = x := ⟨_, rfl⟩
  obtain ⟨fi2, hfi2⟩ : ∃ x, M2.file = x := ⟨_, rfl⟩
  obtain ⟨ge2, hge2⟩ : ∃ x, M2.gen = x := ⟨_, rfl⟩
  have HV := hid (And.intro hS0 (And.intro hS1 (And.intro hfi2 hge2)))
  obtain ⟨file, hfile⟩ : ∃ x, p.m.file = x := ⟨_, rfl⟩
  obtain ⟨gen, hgen⟩ : ∃ x, p.m.gen = x := ⟨_, rfl⟩
  rw [hS0, hS1, hfi2, hge2, hfile, hgen] at hap
  rw [hfile, hgen]
  have Hmk := hid hmk
  have Hap := hid hap
  clear hdA hfA hlA hD HD hk hF0 hF1 hY hM2 hr hfl hll hs0 hs1 hsf hsl hsm hS0 hS1 hfi2 hge2 hfile hgen hmA hlc hmk hap hae hro hsq hml hLr
  obtain ⟨B, hB⟩ : ∃ B : Nat, w.heap.size = B := ⟨_, rfl⟩
  have HB := hid hB
  clear hB
  have g0 : (a.act % 7 == 0) = false := by simpa using h70
  have g1 : (a.act % 7 == 1) = false := by simpa using h71
  have g2 : (a.act % 7 == 2) = false := by simpa using h72
  have g3 : (a.act % 7 == 3) = false := by simpa using h73
  clear h70 h71 h72 h73
  go_enter Try.func35, Try.ntmps35
  go_wp2_with fail
  refine (Mod_any _ _ (by omega) (by omega) _).mono ?_
  rintro e w1 ⟨rfl, rfl⟩
  go_wp2_with fail
  refine (Hmk.out _ (by repeat (first | (with_reducible first | exact Ext.refl _ | exact Ext.same _ _ _ _ | assumption | apply Ext.alloc | apply Ext.ext | apply Ext.drew) | (with_reducible refine Ext.setCell ?_ _ _ ?_; rotate_left; focus (first | omega | (simp only [zs1, zs2, zs3, size_ext]; omega)))))).mono ?_
  rintro e P1 ⟨rfl, x1⟩
  have z1 : Hid (B + 3 ≤ P1.heap.size) := hid (by have q := x1.below.size; have := HB.out; simp only [World.size_alloc] at q; omega)
  have b2 : BoxC P1 B [.slice A0 n0 c0, .int .i64 F0, .slice A1 n1 c1, .int .i64 F1, .slice Am nm cm, .int .i64 file, .int .i64 gen, .slice Af nf cf, .slice Al nl cl, .bool true] 68 := BoxC.of_ext (((BoxC.new_at _ _ HB.out.symm).alloc _).alloc _) x1
  have b4 : BoxC P1 (B + 1 + 1) [.slice none 0 0, .int .i64 0, .slice none 0 0, .int .i64 0, .slice none 0 0, .int .i64 0, .int .i64 0, .slice none 0 0, .slice none 0 0, .bool false] 68 := BoxC.of_ext (BoxC.new_at _ _ (by simp only [World.size_alloc]; have := HB.out; omega)) x1
  have E1 : Hid (Ext w P1) := hid (Ext.trans (by repeat (first | (with_reducible first | exact Ext.refl _ | exact Ext.same _ _ _ _ | assumption | apply Ext.alloc | apply Ext.ext | apply Ext.drew) | (with_reducible refine Ext.setCell ?_ _ _ ?_; rotate_left; focus (first | omega | (simp only [zs1, zs2, zs3, size_ext]; omega))))) x1)
  have B2 := hid b2
  have B4 := hid b4
  simp only [HB.out]
  have Q20 := b2.cell (i := 0) rfl
  have Q21 := b2.cell (i := 1) rfl
  have Q22 := b2.cell (i := 2) rfl
  have Q23 := b2.cell (i := 3) rfl
  have Q24 := b2.cell (i := 4) rfl
  have Q25 := b2.cell (i := 5) rfl
  have Q26 := b2.cell (i := 6) rfl
  have l2 := b2.lt
  clear b2 b4 x1 Hmk
  go_wp2_with fail
  refine (Hap.out _ (E1.out.alloc _)).mono ?_
  rintro e P2 ⟨D0, q0, e0, D1, q1, e1, Ag, ng, cg, rfl, hdz, hmx, x2⟩
  obtain ⟨B14, hB14⟩ : ∃ B : Nat, P1.heap.size = B := ⟨_, rfl⟩
  have z2 : Hid (B + 3 ≤ B14 ∧ B14 + 1 ≤ P2.heap.size) := hid (by have q := x2.below.size; have := z1.out; simp only [World.size_alloc] at q; omega)
  have hdB := hid (hdz.anc.mono (base' := B + 3) (by simp only [World.size_alloc]; have := z1.out; omega))
  have hmB := hid (hmx.anc.mono (base' := B + 3) (by simp only [World.size_alloc]; have := z1.out; omega))
  have b14 : BoxC P2 B14 [.int .i64 r.ao, .int .i64 r.sq, .int .i64 r.kind, .int .i64 r.ship, .int .i64 r.day, .int .i64 r.known, .int .i64 r.wo, .int .i64 r.ws, .int .i64 r.to, .int .i64 r.til, .string r.text] 25 := (BoxC.new_at _ _ hB14.symm).of_ext x2
  have B2' := hid ((B2.out.alloc _).of_ext x2)
  have B4' := hid ((B4.out.alloc _).of_ext x2)
  have E2 : Hid (Ext w P2) := hid (Ext.trans (E1.out.alloc _) x2)
  have B14' := hid b14
  have Hnm : Hid (M2.recs.length = ng) := hid hmB.out.l
  simp only [hB14]
  clear b14 hB14 hdz hmx x2 Hap B2 B4 E1 z1 Q20 Q21 Q22 Q23 Q24 Q25 Q26 l2
  go_wp2_with fail
  obtain ⟨B5, hB5⟩ : ∃ B5, P2.heap.size = B5 := ⟨_, rfl⟩
  obtain ⟨P3, hP3⟩ : ∃ P3, (P2.alloc (.cells #[.slice D0 q0 e0, .int .i64 S0, .slice D1 q1 e1, .int .i64 S1] 62)).alloc (.cells #[.slice Ag ng cg, .int .i64 fi2, .int .i64 ge2] 64) = P3 := ⟨_, rfl⟩
  simp only [hP3, hB5]
  have x23 : Ext P2 P3 := by rw [← hP3]; exact ((Ext.refl _).alloc _).alloc _
  have b5 : BoxC P3 B5 [.slice D0 q0 e0, .int .i64 S0, .slice D1 q1 e1, .int .i64 S1] 62 := by rw [← hP3]; exact (BoxC.new_at _ _ hB5.symm).alloc _
  have b6 : BoxC P3 (B5 + 1) [.slice Ag ng cg, .int .i64 fi2, .int .i64 ge2] 64 := by rw [← hP3]; exact BoxC.new_at _ _ (by rw [World.size_alloc, hB5])
  have b2 := B2'.out.of_ext x23
  have b4 := B4'.out.of_ext x23
  have b7 := B14'.out.of_ext x23
  have EW3 : Hid (Ext w P3) := hid (Ext.trans E2.out x23)
  have HD3 := hid (hdB.out.of_ext x23)
  have HM3 := hid (hmB.out.of_ext x23)
  have HL7 : Hid (Sl 11 P3 Al nl (p.later.flatMap encRec)) := hid (by have q := HLR.out.of_ext EW3.out; rw [Recs, Hll.out] at q; exact q)
  have z3 : B + 3 ≤ B14 ∧ B14 + 1 ≤ B5 := by have := z2.out; omega
  have Q27 := b2.cell (i := 7) rfl
  have Q28 := b2.cell (i := 8) rfl
  have Q29 := b2.cell (i := 9) rfl
  have Q40 := b4.cell (i := 0) rfl
  have Q41 := b4.cell (i := 1) rfl
  have Q42 := b4.cell (i := 2) rfl
  have Q43 := b4.cell (i := 3) rfl
  have Q44 := b4.cell (i := 4) rfl
  have Q45 := b4.cell (i := 5) rfl
  have Q46 := b4.cell (i := 6) rfl
  have Q47 := b4.cell (i := 7) rfl
  have Q48 := b4.cell (i := 8) rfl
  have Q49 := b4.cell (i := 9) rfl
  have Q50 := b5.cell (i := 0) rfl
  have Q51 := b5.cell (i := 1) rfl
  have Q52 := b5.cell (i := 2) rfl
  have Q53 := b5.cell (i := 3) rfl
  have Q60 := b6.cell (i := 0) rfl
  have Q61 := b6.cell (i := 1) rfl
  have Q62 := b6.cell (i := 2) rfl
  have Q70 := b7.cell (i := 0) rfl
  have Q71 := b7.cell (i := 1) rfl
  have Q72 := b7.cell (i := 2) rfl
  have Q73 := b7.cell (i := 3) rfl
  have Q74 := b7.cell (i := 4) rfl
  have Q75 := b7.cell (i := 5) rfl
  have Q76 := b7.cell (i := 6) rfl
  have Q77 := b7.cell (i := 7) rfl
  have Q78 := b7.cell (i := 8) rfl
  have Q79 := b7.cell (i := 9) rfl
  have Q710 := b7.cell (i := 10) rfl
  have fz := b4.frozen
  have l2 := b2.lt
  have l4 := b4.lt
  have l5 := b5.lt
  have l6 := b6.lt
  have l7 := b7.lt
  have ne2 : ¬ (B = B + 1 + 1) := by omega
  have ne5 : ¬ (B5 = B + 1 + 1) := by omega
  have ne6 : ¬ (B5 + 1 = B + 1 + 1) := by omega
  have ne6d : ¬ (B5 = B + 1) := by omega
  have ne7 : ¬ (B14 = B + 1 + 1) := by omega
  have X23 := hid x23
  clear b2 b4 b5 b6 b7 hP3 x23 B2' B4' B14' E2 hdB hmB z2 hB5
  refine wp_region_ord_but (B + 1 + 1) (.f 0 (.f 1 (.f 2 (.f 3 (.f 5 (.f 6 (.f 8 (.f 11 (.f 12 (.k 4 (.k 7 (.a 9 (.a 10 (.f 13 (.a 14 .d)))) 9 (.a 7 (.a 10 (.f 13 (.a 14 .d))))) 9 (.a 4 (.a 7 (.a 10 (.f 13 (.a 14 .d))))))))))))))) (by kernel_rfl) (by kernel_rfl) ?_
  repeat ((first | refine wpOrd_pass rfl rfl ?_ | (refine wpOrd_free (v := ?_) rfl rfl (fun _ hS => ?_) ?_; rotate_left; focus (go_simp; try with_reducible rfl))); simp only [Act.put, zp1, zp2, zp3, zp4, zp5, zp6])
  refine wpOrd_fork ?_ ?_
  focus
   refine wpOrd_act rfl rfl (fun K hK => ?_)
   go_simp
   refine hK _ _ ⟨?_, ?_⟩
   · (first | (intro b o hb hx; go_simp; done) | (intro b o hb hx; (try (refine (World.cell?_alloc_lt _ _ _ ?_).trans ?_; focus (simp only [size_ext, zs1, zs2, zs3]; omega))); (repeat (refine (World.cell?_setCell_other _ _ _ _ ?_).trans ?_; focus exact fun e => hx (congrArg Addr.block e).symm)); go_simp; done) | (intro b o hb hx; (try rw [show ∀ (X : World) (a : Addr), X.drew.cell? a = X.cell? a from fun _ _ => rfl]); (repeat (refine (World.cell?_setCell_other _ _ _ _ ?_).trans ?_; (focus exact fun e => hx (congrArg Addr.block e).symm))); rfl) | exact fun b o hb _ => Ext.cellOf (by repeat (first | (with_reducible first | exact Ext.refl _ | exact Ext.same _ _ _ _ | assumption | apply Ext.alloc | apply Ext.ext | apply Ext.drew) | (with_reducible refine Ext.setCell ?_ _ _ ?_; rotate_left; focus (first | omega | (simp only [zs1, zs2, zs3, size_ext]; omega))))) hb | (intro b o hb hx; (try simp only [size_ext, World.size_alloc, World.size_drew, World.size_setCell] at hb hx); go_simp; try rfl))
   clear hK K
   try simp only [Act.put, zp1, zp2, zp3, zp4, zp5, zp6]
   refine wpOrd_fork ?_ ?_
   focus
    refine wpOrd_arec3 (v := .slice (some ⟨_, 0, none⟩) 0 0) rfl P3 P3.heap.size rfl rfl rfl _ _ rfl p.later rfl (by exact (by repeat (first | (with_reducible first | exact Ext.refl _ | exact Ext.same _ _ _ _ | assumption | apply Ext.alloc | apply Ext.ext | apply Ext.drew) | (with_reducible refine Ext.setCell ?_ _ _ ?_; rotate_left; focus (first | omega | (simp only [zs1, zs2, zs3, size_ext]; omega)))))) (by first | exact OwnR.of_ext (OwnR.empty P3 _ _ rfl (Nat.le_refl _)) (by repeat (first | (with_reducible first | exact Ext.refl _ | exact Ext.same _ _ _ _ | assumption | apply Ext.alloc | apply Ext.ext | apply Ext.drew) | (with_reducible refine Ext.setCell ?_ _ _ ?_; rotate_left; focus (first | omega | (simp only [zs1, zs2, zs3, size_ext]; omega))))) | exact OwnR.of_ext (OwnR.empty (P3.alloc (.cells #[.int .i64 r.ao, .int .i64 r.sq, .int .i64 r.kind, .int .i64 r.ship, .int .i64 r.day, .int .i64 r.known, .int .i64 r.wo, .int .i64 r.ws, .int .i64 r.to, .int .i64 r.til, .string r.text] 25)) _ _ (by simp [World.size_alloc]) (by simp [World.size_alloc])) (by repeat (first | (with_reducible first | exact Ext.refl _ | exact Ext.same _ _ _ _ | assumption | apply Ext.alloc | apply Ext.ext | apply Ext.drew) | (with_reducible refine Ext.setCell ?_ _ _ ?_; rotate_left; focus (first | omega | (simp only [zs1, zs2, zs3, size_ext]; omega)))))) rfl Hll.out.symm (by exact Sl.of_ext HL7.out (by repeat (first | (with_reducible first | exact Ext.refl _ | exact Ext.same _ _ _ _ | assumption | apply Ext.alloc | apply Ext.ext | apply Ext.drew) | (with_reducible refine Ext.setCell ?_ _ _ ?_; rotate_left; focus (first | omega | (simp only [zs1, zs2, zs3, size_ext]; omega)))))) (by have := Hln.out; have := Hll.out; simp only [List.length_nil]; omega) (fun v1 E1 d1 ho1 hk1 hz1 => ?_)
    try have HR2 : Hid (Sl 11 (P3.ext E1 d1) (some ⟨P3.heap.size + 1, 0, none⟩) 1 (encRec r)) := hid (Sl.of_cells (Sl.drew (Sl_at (W := P3.alloc (.cells #[] 25)) (encRec r) 25 11 1 (P3.heap.size + 1) rfl (by simp [World.size_alloc]))) (by refine Nat.lt_of_lt_of_le ?_ hz1; simp only [zs1, zs2]; omega) (fun j => hk1 _ j (by simp only [zs1, zs2]; omega) (by simp [Value.ownBlock])))
    try have HR3 : Hid (Sl 11 (P3.ext E1 d1) (some ⟨P3.heap.size, 0, none⟩) 1 (encRec r)) := hid (Sl.of_cells (Sl.drew (Sl.alloc (Sl_at (W := P3) (encRec r) 25 11 1 P3.heap.size rfl rfl) (.cells #[] 25))) (by refine Nat.lt_of_lt_of_le ?_ hz1; simp only [zs1, zs2]; omega) (fun j => hk1 _ j (by simp only [zs1, zs2]; omega) (by simp [Value.ownBlock])))
    clear hk1 hz1
    obtain ⟨Av, mv, cv, rfl, hmv, hcv, hsv⟩ := ho1.open
    have HO7 := hid ho1
    have HMV := hid hmv
    clear ho1 hcv hsv hmv
    refine ⟨?_, ?_⟩
    · (first | (intro b o hb hx; go_simp; done) | (intro b o hb hx; (try (refine (World.cell?_alloc_lt _ _ _ ?_).trans ?_; focus (simp only [size_ext, zs1, zs2, zs3]; omega))); (repeat (refine (World.cell?_setCell_other _ _ _ _ ?_).trans ?_; focus exact fun e => hx (congrArg Addr.block e).symm)); go_simp; done) | (intro b o hb hx; (try rw [show ∀ (X : World) (a : Addr), X.drew.cell? a = X.cell? a from fun _ _ => rfl]); (repeat (refine (World.cell?_setCell_other _ _ _ _ ?_).trans ?_; (focus exact fun e => hx (congrArg Addr.block e).symm))); rfl) | exact fun b o hb _ => Ext.cellOf (by repeat (first | (with_reducible first | exact Ext.refl _ | exact Ext.same _ _ _ _ | assumption | apply Ext.alloc | apply Ext.ext | apply Ext.drew) | (with_reducible refine Ext.setCell ?_ _ _ ?_; rotate_left; focus (first | omega | (simp only [zs1, zs2, zs3, size_ext]; omega))))) hb | (intro b o hb hx; (try simp only [size_ext, World.size_alloc, World.size_drew, World.size_setCell] at hb hx); go_simp; try rfl))
    try simp only [Act.put, zp1, zp2, zp3, zp4, zp5, zp6]
    refine wpOrd_act rfl rfl (fun K hK => ?_)
    go_simp
    refine hK _ _ ⟨?_, ?_⟩
    · (first | (intro b o hb hx; go_simp; done) | (intro b o hb hx; (try (refine (World.cell?_alloc_lt _ _ _ ?_).trans ?_; focus (simp only [size_ext, zs1, zs2, zs3]; omega))); (repeat (refine (World.cell?_setCell_other _ _ _ _ ?_).trans ?_; focus exact fun e => hx (congrArg Addr.block e).symm)); go_simp; done) | (intro b o hb hx; (try rw [show ∀ (X : World) (a : Addr), X.drew.cell? a = X.cell? a from fun _ _ => rfl]); (repeat (refine (World.cell?_setCell_other _ _ _ _ ?_).trans ?_; (focus exact fun e => hx (congrArg Addr.block e).symm))); rfl) | exact fun b o hb _ => Ext.cellOf (by repeat (first | (with_reducible first | exact Ext.refl _ | exact Ext.same _ _ _ _ | assumption | apply Ext.alloc | apply Ext.ext | apply Ext.drew) | (with_reducible refine Ext.setCell ?_ _ _ ?_; rotate_left; focus (first | omega | (simp only [zs1, zs2, zs3, size_ext]; omega))))) hb | (intro b o hb hx; (try simp only [size_ext, World.size_alloc, World.size_drew, World.size_setCell] at hb hx); go_simp; try rfl))
    clear hK K
    try simp only [Act.put, zp1, zp2, zp3, zp4, zp5, zp6]
    refine wpOrd_arec3 rfl P3 P3.heap.size rfl rfl rfl _ _ rfl [r] rfl (by exact (by repeat (first | (with_reducible first | exact Ext.refl _ | exact Ext.same _ _ _ _ | assumption | apply Ext.alloc | apply Ext.ext | apply Ext.drew) | (with_reducible refine Ext.setCell ?_ _ _ ?_; rotate_left; focus (first | omega | (simp only [zs1, zs2, zs3, size_ext]; omega)))))) (by exact OwnR.of_ext HO7.out (by repeat (first | (with_reducible first | exact Ext.refl _ | exact Ext.same _ _ _ _ | assumption | apply Ext.alloc | apply Ext.ext | apply Ext.drew) | (with_reducible refine Ext.setCell ?_ _ _ ?_; rotate_left; focus (first | omega | (simp only [zs1, zs2, zs3, size_ext]; omega)))))) rfl rfl (by first | exact Sl.of_ext HR2.out (by repeat (first | (with_reducible first | exact Ext.refl _ | exact Ext.same _ _ _ _ | assumption | apply Ext.alloc | apply Ext.ext | apply Ext.drew) | (with_reducible refine Ext.setCell ?_ _ _ ?_; rotate_left; focus (first | omega | (simp only [zs1, zs2, zs3, size_ext]; omega))))) | exact Sl.of_ext HR3.out (by repeat (first | (with_reducible first | exact Ext.refl _ | exact Ext.same _ _ _ _ | assumption | apply Ext.alloc | apply Ext.ext | apply Ext.drew) | (with_reducible refine Ext.setCell ?_ _ _ ?_; rotate_left; focus (first | omega | (simp only [zs1, zs2, zs3, size_ext]; omega))))) | exact Sl_at (encRec r) _ 11 1 _ rfl (by simp [World.size_alloc]) | exact Sl.drew (Sl_at (encRec r) _ 11 1 _ rfl (by simp [World.size_alloc]))) (by have := Hln.out; have := Hll.out; simp only [List.length_append, List.length_nil, List.length_cons]; omega) (fun v2 E2 d2 ho2 hk2 hz2 => ?_)
    clear hk2 hz2
    obtain ⟨Aw, mw, cw, rfl, hmw, hcw, hsw⟩ := ho2.open
    have HO10 := hid ho2
    have HMW := hid hmw
    have HCW := hid hcw
    clear ho2 hcw hsw hmw
    refine ⟨?_, ?_⟩
    · (first | (intro b o hb hx; go_simp; done) | (intro b o hb hx; (try (refine (World.cell?_alloc_lt _ _ _ ?_).trans ?_; focus (simp only [size_ext, zs1, zs2, zs3]; omega))); (repeat (refine (World.cell?_setCell_other _ _ _ _ ?_).trans ?_; focus exact fun e => hx (congrArg Addr.block e).symm)); go_simp; done) | (intro b o hb hx; (try rw [show ∀ (X : World) (a : Addr), X.drew.cell? a = X.cell? a from fun _ _ => rfl]); (repeat (refine (World.cell?_setCell_other _ _ _ _ ?_).trans ?_; (focus exact fun e => hx (congrArg Addr.block e).symm))); rfl) | exact fun b o hb _ => Ext.cellOf (by repeat (first | (with_reducible first | exact Ext.refl _ | exact Ext.same _ _ _ _ | assumption | apply Ext.alloc | apply Ext.ext | apply Ext.drew) | (with_reducible refine Ext.setCell ?_ _ _ ?_; rotate_left; focus (first | omega | (simp only [zs1, zs2, zs3, size_ext]; omega))))) hb | (intro b o hb hx; (try simp only [size_ext, World.size_alloc, World.size_drew, World.size_setCell] at hb hx); go_simp; try rfl))
    try simp only [Act.put, zp1, zp2, zp3, zp4, zp5, zp6]
    repeat ((first | refine wpOrd_pass rfl rfl ?_ | (refine wpOrd_free (v := ?_) rfl rfl (fun _ hS => ?_) ?_; rotate_left; focus (go_simp; try with_reducible rfl))); simp only [Act.put, zp1, zp2, zp3, zp4, zp5, zp6])
    refine wpOrd_act rfl rfl (fun K hK => ?_)
    go_simp
    refine hK _ _ ⟨?_, ?_⟩
    · (first | (intro b o hb hx; go_simp; done) | (intro b o hb hx; (try (refine (World.cell?_alloc_lt _ _ _ ?_).trans ?_; focus (simp only [size_ext, zs1, zs2, zs3]; omega))); (repeat (refine (World.cell?_setCell_other _ _ _ _ ?_).trans ?_; focus exact fun e => hx (congrArg Addr.block e).symm)); go_simp; done) | (intro b o hb hx; (try rw [show ∀ (X : World) (a : Addr), X.drew.cell? a = X.cell? a from fun _ _ => rfl]); (repeat (refine (World.cell?_setCell_other _ _ _ _ ?_).trans ?_; (focus exact fun e => hx (congrArg Addr.block e).symm))); rfl) | exact fun b o hb _ => Ext.cellOf (by repeat (first | (with_reducible first | exact Ext.refl _ | exact Ext.same _ _ _ _ | assumption | apply Ext.alloc | apply Ext.ext | apply Ext.drew) | (with_reducible refine Ext.setCell ?_ _ _ ?_; rotate_left; focus (first | omega | (simp only [zs1, zs2, zs3, size_ext]; omega))))) hb | (intro b o hb hx; (try simp only [size_ext, World.size_alloc, World.size_drew, World.size_setCell] at hb hx); go_simp; try rfl))
    clear hK K
    try simp only [Act.put, zp1, zp2, zp3, zp4, zp5, zp6]
    refine wpOrd_nil ?_
   rotate_right
   focus
    refine wpOrd_act rfl rfl (fun K hK => ?_)
    go_simp
    refine hK _ _ ⟨?_, ?_⟩
    · (first | (intro b o hb hx; go_simp; done) | (intro b o hb hx; (try (refine (World.cell?_alloc_lt _ _ _ ?_).trans ?_; focus (simp only [size_ext, zs1, zs2, zs3]; omega))); (repeat (refine (World.cell?_setCell_other _ _ _ _ ?_).trans ?_; focus exact fun e => hx (congrArg Addr.block e).symm)); go_simp; done) | (intro b o hb hx; (try rw [show ∀ (X : World) (a : Addr), X.drew.cell? a = X.cell? a from fun _ _ => rfl]); (repeat (refine (World.cell?_setCell_other _ _ _ _ ?_).trans ?_; (focus exact fun e => hx (congrArg Addr.block e).symm))); rfl) | exact fun b o hb _ => Ext.cellOf (by repeat (first | (with_reducible first | exact Ext.refl _ | exact Ext.same _ _ _ _ | assumption | apply Ext.alloc | apply Ext.ext | apply Ext.drew) | (with_reducible refine Ext.setCell ?_ _ _ ?_; rotate_left; focus (first | omega | (simp only [zs1, zs2, zs3, size_ext]; omega))))) hb | (intro b o hb hx; (try simp only [size_ext, World.size_alloc, World.size_drew, World.size_setCell] at hb hx); go_simp; try rfl))
    clear hK K
    try simp only [Act.put, zp1, zp2, zp3, zp4, zp5, zp6]
    refine wpOrd_arec3 (v := .slice (some ⟨_, 0, none⟩) 0 0) rfl P3 P3.heap.size rfl rfl rfl _ _ rfl p.later rfl (by exact (by repeat (first | (with_reducible first | exact Ext.refl _ | exact Ext.same _ _ _ _ | assumption | apply Ext.alloc | apply Ext.ext | apply Ext.drew) | (with_reducible refine Ext.setCell ?_ _ _ ?_; rotate_left; focus (first | omega | (simp only [zs1, zs2, zs3, size_ext]; omega)))))) (by first | exact OwnR.of_ext (OwnR.empty P3 _ _ rfl (Nat.le_refl _)) (by repeat (first | (with_reducible first | exact Ext.refl _ | exact Ext.same _ _ _ _ | assumption | apply Ext.alloc | apply Ext.ext | apply Ext.drew) | (with_reducible refine Ext.setCell ?_ _ _ ?_; rotate_left; focus (first | omega | (simp only [zs1, zs2, zs3, size_ext]; omega))))) | exact OwnR.of_ext (OwnR.empty (P3.alloc (.cells #[.int .i64 r.ao, .int .i64 r.sq, .int .i64 r.kind, .int .i64 r.ship, .int .i64 r.day, .int .i64 r.known, .int .i64 r.wo, .int .i64 r.ws, .int .i64 r.to, .int .i64 r.til, .string r.text] 25)) _ _ (by simp [World.size_alloc]) (by simp [World.size_alloc])) (by repeat (first | (with_reducible first | exact Ext.refl _ | exact Ext.same _ _ _ _ | assumption | apply Ext.alloc | apply Ext.ext | apply Ext.drew) | (with_reducible refine Ext.setCell ?_ _ _ ?_; rotate_left; focus (first | omega | (simp only [zs1, zs2, zs3, size_ext]; omega)))))) rfl Hll.out.symm (by exact Sl.of_ext HL7.out (by repeat (first | (with_reducible first | exact Ext.refl _ | exact Ext.same _ _ _ _ | assumption | apply Ext.alloc | apply Ext.ext | apply Ext.drew) | (with_reducible refine Ext.setCell ?_ _ _ ?_; rotate_left; focus (first | omega | (simp only [zs1, zs2, zs3, size_ext]; omega)))))) (by have := Hln.out; have := Hll.out; simp only [List.length_nil]; omega) (fun v3 E3 d3 ho3 hk3 hz3 => ?_)
    try have HR2 : Hid (Sl 11 (P3.ext E3 d3) (some ⟨P3.heap.size + 1, 0, none⟩) 1 (encRec r)) := hid (Sl.of_cells (Sl.drew (Sl_at (W := P3.alloc (.cells #[] 25)) (encRec r) 25 11 1 (P3.heap.size + 1) rfl (by simp [World.size_alloc]))) (by refine Nat.lt_of_lt_of_le ?_ hz3; simp only [zs1, zs2]; omega) (fun j => hk3 _ j (by simp only [zs1, zs2]; omega) (by simp [Value.ownBlock])))
    try have HR3 : Hid (Sl 11 (P3.ext E3 d3) (some ⟨P3.heap.size, 0, none⟩) 1 (encRec r)) := hid (Sl.of_cells (Sl.drew (Sl.alloc (Sl_at (W := P3) (encRec r) 25 11 1 P3.heap.size rfl rfl) (.cells #[] 25))) (by refine Nat.lt_of_lt_of_le ?_ hz3; simp only [zs1, zs2]; omega) (fun j => hk3 _ j (by simp only [zs1, zs2]; omega) (by simp [Value.ownBlock])))
    clear hk3 hz3
    obtain ⟨Av, mv, cv, rfl, hmv, hcv, hsv⟩ := ho3.open
    have HO7 := hid ho3
    have HMV := hid hmv
    clear ho3 hcv hsv hmv
    refine ⟨?_, ?_⟩
    · (first | (intro b o hb hx; go_simp; done) | (intro b o hb hx; (try (refine (World.cell?_alloc_lt _ _ _ ?_).trans ?_; focus (simp only [size_ext, zs1, zs2, zs3]; omega))); (repeat (refine (World.cell?_setCell_other _ _ _ _ ?_).trans ?_; focus exact fun e => hx (congrArg Addr.block e).symm)); go_simp; done) | (intro b o hb hx; (try rw [show ∀ (X : World) (a : Addr), X.drew.cell? a = X.cell? a from fun _ _ => rfl]); (repeat (refine (World.cell?_setCell_other _ _ _ _ ?_).trans ?_; (focus exact fun e => hx (congrArg Addr.block e).symm))); rfl) | exact fun b o hb _ => Ext.cellOf (by repeat (first | (with_reducible first | exact Ext.refl _ | exact Ext.same _ _ _ _ | assumption | apply Ext.alloc | apply Ext.ext | apply Ext.drew) | (with_reducible refine Ext.setCell ?_ _ _ ?_; rotate_left; focus (first | omega | (simp only [zs1, zs2, zs3, size_ext]; omega))))) hb | (intro b o hb hx; (try simp only [size_ext, World.size_alloc, World.size_drew, World.size_setCell] at hb hx); go_simp; try rfl))
    try simp only [Act.put, zp1, zp2, zp3, zp4, zp5, zp6]
    refine wpOrd_arec3 rfl P3 P3.heap.size rfl rfl rfl _ _ rfl [r] rfl (by exact (by repeat (first | (with_reducible first | exact Ext.refl _ | exact Ext.same _ _ _ _ | assumption | apply Ext.alloc | apply Ext.ext | apply Ext.drew) | (with_reducible refine Ext.setCell ?_ _ _ ?_; rotate_left; focus (first | omega | (simp only [zs1, zs2, zs3, size_ext]; omega)))))) (by exact OwnR.of_ext HO7.out (by repeat (first | (with_reducible first | exact Ext.refl _ | exact Ext.same _ _ _ _ | assumption | apply Ext.alloc | apply Ext.ext | apply Ext.drew) | (with_reducible refine Ext.setCell ?_ _ _ ?_; rotate_left; focus (first | omega | (simp only [zs1, zs2, zs3, size_ext]; omega)))))) rfl rfl (by first | exact Sl.of_ext HR2.out (by repeat (first | (with_reducible first | exact Ext.refl _ | exact Ext.same _ _ _ _ | assumption | apply Ext.alloc | apply Ext.ext | apply Ext.drew) | (with_reducible refine Ext.setCell ?_ _ _ ?_; rotate_left; focus (first | omega | (simp only [zs1, zs2, zs3, size_ext]; omega))))) | exact Sl.of_ext HR3.out (by repeat (first | (with_reducible first | exact Ext.refl _ | exact Ext.same _ _ _ _ | assumption | apply Ext.alloc | apply Ext.ext | apply Ext.drew) | (with_reducible refine Ext.setCell ?_ _ _ ?_; rotate_left; focus (first | omega | (simp only [zs1, zs2, zs3, size_ext]; omega))))) | exact Sl_at (encRec r) _ 11 1 _ rfl (by simp [World.size_alloc]) | exact Sl.drew (Sl_at (encRec r) _ 11 1 _ rfl (by simp [World.size_alloc]))) (by have := Hln.out; have := Hll.out; simp only [List.length_append, List.length_nil, List.length_cons]; omega) (fun v4 E4 d4 ho4 hk4 hz4 => ?_)
    clear hk4 hz4
    obtain ⟨Aw, mw, cw, rfl, hmw, hcw, hsw⟩ := ho4.open
    have HO10 := hid ho4
    have HMW := hid hmw
    have HCW := hid hcw
    clear ho4 hcw hsw hmw
    refine ⟨?_, ?_⟩
    · (first | (intro b o hb hx; go_simp; done) | (intro b o hb hx; (try (refine (World.cell?_alloc_lt _ _ _ ?_).trans ?_; focus (simp only [size_ext, zs1, zs2, zs3]; omega))); (repeat (refine (World.cell?_setCell_other _ _ _ _ ?_).trans ?_; focus exact fun e => hx (congrArg Addr.block e).symm)); go_simp; done) | (intro b o hb hx; (try rw [show ∀ (X : World) (a : Addr), X.drew.cell? a = X.cell? a from fun _ _ => rfl]); (repeat (refine (World.cell?_setCell_other _ _ _ _ ?_).trans ?_; (focus exact fun e => hx (congrArg Addr.block e).symm))); rfl) | exact fun b o hb _ => Ext.cellOf (by repeat (first | (with_reducible first | exact Ext.refl _ | exact Ext.same _ _ _ _ | assumption | apply Ext.alloc | apply Ext.ext | apply Ext.drew) | (with_reducible refine Ext.setCell ?_ _ _ ?_; rotate_left; focus (first | omega | (simp only [zs1, zs2, zs3, size_ext]; omega))))) hb | (intro b o hb hx; (try simp only [size_ext, World.size_alloc, World.size_drew, World.size_setCell] at hb hx); go_simp; try rfl))
    try simp only [Act.put, zp1, zp2, zp3, zp4, zp5, zp6]
    repeat ((first | refine wpOrd_pass rfl rfl ?_ | (refine wpOrd_free (v := ?_) rfl rfl (fun _ hS => ?_) ?_; rotate_left; focus (go_simp; try with_reducible rfl))); simp only [Act.put, zp1, zp2, zp3, zp4, zp5, zp6])
    refine wpOrd_act rfl rfl (fun K hK => ?_)
    go_simp
    refine hK _ _ ⟨?_, ?_⟩
    · (first | (intro b o hb hx; go_simp; done) | (intro b o hb hx; (try (refine (World.cell?_alloc_lt _ _ _ ?_).trans ?_; focus (simp only [size_ext, zs1, zs2, zs3]; omega))); (repeat (refine (World.cell?_setCell_other _ _ _ _ ?_).trans ?_; focus exact fun e => hx (congrArg Addr.block e).symm)); go_simp; done) | (intro b o hb hx; (try rw [show ∀ (X : World) (a : Addr), X.drew.cell? a = X.cell? a from fun _ _ => rfl]); (repeat (refine (World.cell?_setCell_other _ _ _ _ ?_).trans ?_; (focus exact fun e => hx (congrArg Addr.block e).symm))); rfl) | exact fun b o hb _ => Ext.cellOf (by repeat (first | (with_reducible first | exact Ext.refl _ | exact Ext.same _ _ _ _ | assumption | apply Ext.alloc | apply Ext.ext | apply Ext.drew) | (with_reducible refine Ext.setCell ?_ _ _ ?_; rotate_left; focus (first | omega | (simp only [zs1, zs2, zs3, size_ext]; omega))))) hb | (intro b o hb hx; (try simp only [size_ext, World.size_alloc, World.size_drew, World.size_setCell] at hb hx); go_simp; try rfl))
    clear hK K
    try simp only [Act.put, zp1, zp2, zp3, zp4, zp5, zp6]
    refine wpOrd_nil ?_
  rotate_right
  focus
   refine wpOrd_act rfl rfl (fun K hK => ?_)
   go_simp
   refine hK _ _ ⟨?_, ?_⟩
   · (first | (intro b o hb hx; go_simp; done) | (intro b o hb hx; (try (refine (World.cell?_alloc_lt _ _ _ ?_).trans ?_; focus (simp only [size_ext, zs1, zs2, zs3]; omega))); (repeat (refine (World.cell?_setCell_other _ _ _ _ ?_).trans ?_; focus exact fun e => hx (congrArg Addr.block e).symm)); go_simp; done) | (intro b o hb hx; (try rw [show ∀ (X : World) (a : Addr), X.drew.cell? a = X.cell? a from fun _ _ => rfl]); (repeat (refine (World.cell?_setCell_other _ _ _ _ ?_).trans ?_; (focus exact fun e => hx (congrArg Addr.block e).symm))); rfl) | exact fun b o hb _ => Ext.cellOf (by repeat (first | (with_reducible first | exact Ext.refl _ | exact Ext.same _ _ _ _ | assumption | apply Ext.alloc | apply Ext.ext | apply Ext.drew) | (with_reducible refine Ext.setCell ?_ _ _ ?_; rotate_left; focus (first | omega | (simp only [zs1, zs2, zs3, size_ext]; omega))))) hb | (intro b o hb hx; (try simp only [size_ext, World.size_alloc, World.size_drew, World.size_setCell] at hb hx); go_simp; try rfl))
   clear hK K
   try simp only [Act.put, zp1, zp2, zp3, zp4, zp5, zp6]
   refine wpOrd_act rfl rfl (fun K hK => ?_)
   go_simp
   refine hK _ _ ⟨?_, ?_⟩
   · (first | (intro b o hb hx; go_simp; done) | (intro b o hb hx; (try (refine (World.cell?_alloc_lt _ _ _ ?_).trans ?_; focus (simp only [size_ext, zs1, zs2, zs3]; omega))); (repeat (refine (World.cell?_setCell_other _ _ _ _ ?_).trans ?_; focus exact fun e => hx (congrArg Addr.block e).symm)); go_simp; done) | (intro b o hb hx; (try rw [show ∀ (X : World) (a : Addr), X.drew.cell? a = X.cell? a from fun _ _ => rfl]); (repeat (refine (World.cell?_setCell_other _ _ _ _ ?_).trans ?_; (focus exact fun e => hx (congrArg Addr.block e).symm))); rfl) | exact fun b o hb _ => Ext.cellOf (by repeat (first | (with_reducible first | exact Ext.refl _ | exact Ext.same _ _ _ _ | assumption | apply Ext.alloc | apply Ext.ext | apply Ext.drew) | (with_reducible refine Ext.setCell ?_ _ _ ?_; rotate_left; focus (first | omega | (simp only [zs1, zs2, zs3, size_ext]; omega))))) hb | (intro b o hb hx; (try simp only [size_ext, World.size_alloc, World.size_drew, World.size_setCell] at hb hx); go_simp; try rfl))
   clear hK K
   try simp only [Act.put, zp1, zp2, zp3, zp4, zp5, zp6]
   refine wpOrd_arec3 (v := .slice (some ⟨_, 0, none⟩) 0 0) rfl P3 P3.heap.size rfl rfl rfl _ _ rfl p.later rfl (by exact (by repeat (first | (with_reducible first | exact Ext.refl _ | exact Ext.same _ _ _ _ | assumption | apply Ext.alloc | apply Ext.ext | apply Ext.drew) | (with_reducible refine Ext.setCell ?_ _ _ ?_; rotate_left; focus (first | omega | (simp only [zs1, zs2, zs3, size_ext]; omega)))))) (by first | exact OwnR.of_ext (OwnR.empty P3 _ _ rfl (Nat.le_refl _)) (by repeat (first | (with_reducible first | exact Ext.refl _ | exact Ext.same _ _ _ _ | assumption | apply Ext.alloc | apply Ext.ext | apply Ext.drew) | (with_reducible refine Ext.setCell ?_ _ _ ?_; rotate_left; focus (first | omega | (simp only [zs1, zs2, zs3, size_ext]; omega))))) | exact OwnR.of_ext (OwnR.empty (P3.alloc (.cells #[.int .i64 r.ao, .int .i64 r.sq, .int .i64 r.kind, .int .i64 r.ship, .int .i64 r.day, .int .i64 r.known, .int .i64 r.wo, .int .i64 r.ws, .int .i64 r.to, .int .i64 r.til, .string r.text] 25)) _ _ (by simp [World.size_alloc]) (by simp [World.size_alloc])) (by repeat (first | (with_reducible first | exact Ext.refl _ | exact Ext.same _ _ _ _ | assumption | apply Ext.alloc | apply Ext.ext | apply Ext.drew) | (with_reducible refine Ext.setCell ?_ _ _ ?_; rotate_left; focus (first | omega | (simp only [zs1, zs2, zs3, size_ext]; omega)))))) rfl Hll.out.symm (by exact Sl.of_ext HL7.out (by repeat (first | (with_reducible first | exact Ext.refl _ | exact Ext.same _ _ _ _ | assumption | apply Ext.alloc | apply Ext.ext | apply Ext.drew) | (with_reducible refine Ext.setCell ?_ _ _ ?_; rotate_left; focus (first | omega | (simp only [zs1, zs2, zs3, size_ext]; omega)))))) (by have := Hln.out; have := Hll.out; simp only [List.length_nil]; omega) (fun v5 E5 d5 ho5 hk5 hz5 => ?_)
   try have HR2 : Hid (Sl 11 (P3.ext E5 d5) (some ⟨P3.heap.size + 1, 0, none⟩) 1 (encRec r)) := hid (Sl.of_cells (Sl.drew (Sl_at (W := P3.alloc (.cells #[] 25)) (encRec r) 25 11 1 (P3.heap.size + 1) rfl (by simp [World.size_alloc]))) (by refine Nat.lt_of_lt_of_le ?_ hz5; simp only [zs1, zs2]; omega) (fun j => hk5 _ j (by simp only [zs1, zs2]; omega) (by simp [Value.ownBlock])))
   try have HR3 : Hid (Sl 11 (P3.ext E5 d5) (some ⟨P3.heap.size, 0, none⟩) 1 (encRec r)) := hid (Sl.of_cells (Sl.drew (Sl.alloc (Sl_at (W := P3) (encRec r) 25 11 1 P3.heap.size rfl rfl) (.cells #[] 25))) (by refine Nat.lt_of_lt_of_le ?_ hz5; simp only [zs1, zs2]; omega) (fun j => hk5 _ j (by simp only [zs1, zs2]; omega) (by simp [Value.ownBlock])))
   clear hk5 hz5
   obtain ⟨Av, mv, cv, rfl, hmv, hcv, hsv⟩ := ho5.open
   have HO7 := hid ho5
   have HMV := hid hmv
   clear ho5 hcv hsv hmv
   refine ⟨?_, ?_⟩
   · (first | (intro b o hb hx; go_simp; done) | (intro b o hb hx; (try (refine (World.cell?_alloc_lt _ _ _ ?_).trans ?_; focus (simp only [size_ext, zs1, zs2, zs3]; omega))); (repeat (refine (World.cell?_setCell_other _ _ _ _ ?_).trans ?_; focus exact fun e => hx (congrArg Addr.block e).symm)); go_simp; done) | (intro b o hb hx; (try rw [show ∀ (X : World) (a : Addr), X.drew.cell? a = X.cell? a from fun _ _ => rfl]); (repeat (refine (World.cell?_setCell_other _ _ _ _ ?_).trans ?_; (focus exact fun e => hx (congrArg Addr.block e).symm))); rfl) | exact fun b o hb _ => Ext.cellOf (by repeat (first | (with_reducible first | exact Ext.refl _ | exact Ext.same _ _ _ _ | assumption | apply Ext.alloc | apply Ext.ext | apply Ext.drew) | (with_reducible refine Ext.setCell ?_ _ _ ?_; rotate_left; focus (first | omega | (simp only [zs1, zs2, zs3, size_ext]; omega))))) hb | (intro b o hb hx; (try simp only [size_ext, World.size_alloc, World.size_drew, World.size_setCell] at hb hx); go_simp; try rfl))
   try simp only [Act.put, zp1, zp2, zp3, zp4, zp5, zp6]
   refine wpOrd_arec3 rfl P3 P3.heap.size rfl rfl rfl _ _ rfl [r] rfl (by exact (by repeat (first | (with_reducible first | exact Ext.refl _ | exact Ext.same _ _ _ _ | assumption | apply Ext.alloc | apply Ext.ext | apply Ext.drew) | (with_reducible refine Ext.setCell ?_ _ _ ?_; rotate_left; focus (first | omega | (simp only [zs1, zs2, zs3, size_ext]; omega)))))) (by exact OwnR.of_ext HO7.out (by repeat (first | (with_reducible first | exact Ext.refl _ | exact Ext.same _ _ _ _ | assumption | apply Ext.alloc | apply Ext.ext | apply Ext.drew) | (with_reducible refine Ext.setCell ?_ _ _ ?_; rotate_left; focus (first | omega | (simp only [zs1, zs2, zs3, size_ext]; omega)))))) rfl rfl (by first | exact Sl.of_ext HR2.out (by repeat (first | (with_reducible first | exact Ext.refl _ | exact Ext.same _ _ _ _ | assumption | apply Ext.alloc | apply Ext.ext | apply Ext.drew) | (with_reducible refine Ext.setCell ?_ _ _ ?_; rotate_left; focus (first | omega | (simp only [zs1, zs2, zs3, size_ext]; omega))))) | exact Sl.of_ext HR3.out (by repeat (first | (with_reducible first | exact Ext.refl _ | exact Ext.same _ _ _ _ | assumption | apply Ext.alloc | apply Ext.ext | apply Ext.drew) | (with_reducible refine Ext.setCell ?_ _ _ ?_; rotate_left; focus (first | omega | (simp only [zs1, zs2, zs3, size_ext]; omega))))) | exact Sl_at (encRec r) _ 11 1 _ rfl (by simp [World.size_alloc]) | exact Sl.drew (Sl_at (encRec r) _ 11 1 _ rfl (by simp [World.size_alloc]))) (by have := Hln.out; have := Hll.out; simp only [List.length_append, List.length_nil, List.length_cons]; omega) (fun v6 E6 d6 ho6 hk6 hz6 => ?_)
   clear hk6 hz6
   obtain ⟨Aw, mw, cw, rfl, hmw, hcw, hsw⟩ := ho6.open
   have HO10 := hid ho6
   have HMW := hid hmw
   have HCW := hid hcw
   clear ho6 hcw hsw hmw
   refine ⟨?_, ?_⟩
   · (first | (intro b o hb hx; go_simp; done) | (intro b o hb hx; (try (refine (World.cell?_alloc_lt _ _ _ ?_).trans ?_; focus (simp only [size_ext, zs1, zs2, zs3]; omega))); (repeat (refine (World.cell?_setCell_other _ _ _ _ ?_).trans ?_; focus exact fun e => hx (congrArg Addr.block e).symm)); go_simp; done) | (intro b o hb hx; (try rw [show ∀ (X : World) (a : Addr), X.drew.cell? a = X.cell? a from fun _ _ => rfl]); (repeat (refine (World.cell?_setCell_other _ _ _ _ ?_).trans ?_; (focus exact fun e => hx (congrArg Addr.block e).symm))); rfl) | exact fun b o hb _ => Ext.cellOf (by repeat (first | (with_reducible first | exact Ext.refl _ | exact Ext.same _ _ _ _ | assumption | apply Ext.alloc | apply Ext.ext | apply Ext.drew) | (with_reducible refine Ext.setCell ?_ _ _ ?_; rotate_left; focus (first | omega | (simp only [zs1, zs2, zs3, size_ext]; omega))))) hb | (intro b o hb hx; (try simp only [size_ext, World.size_alloc, World.size_drew, World.size_setCell] at hb hx); go_simp; try rfl))
   try simp only [Act.put, zp1, zp2, zp3, zp4, zp5, zp6]
   repeat ((first | refine wpOrd_pass rfl rfl ?_ | (refine wpOrd_free (v := ?_) rfl rfl (fun _ hS => ?_) ?_; rotate_left; focus (go_simp; try with_reducible rfl))); simp only [Act.put, zp1, zp2, zp3, zp4, zp5, zp6])
   refine wpOrd_act rfl rfl (fun K hK => ?_)
   go_simp
   refine hK _ _ ⟨?_, ?_⟩
   · (first | (intro b o hb hx; go_simp; done) | (intro b o hb hx; (try (refine (World.cell?_alloc_lt _ _ _ ?_).trans ?_; focus (simp only [size_ext, zs1, zs2, zs3]; omega))); (repeat (refine (World.cell?_setCell_other _ _ _ _ ?_).trans ?_; focus exact fun e => hx (congrArg Addr.block e).symm)); go_simp; done) | (intro b o hb hx; (try rw [show ∀ (X : World) (a : Addr), X.drew.cell? a = X.cell? a from fun _ _ => rfl]); (repeat (refine (World.cell?_setCell_other _ _ _ _ ?_).trans ?_; (focus exact fun e => hx (congrArg Addr.block e).symm))); rfl) | exact fun b o hb _ => Ext.cellOf (by repeat (first | (with_reducible first | exact Ext.refl _ | exact Ext.same _ _ _ _ | assumption | apply Ext.alloc | apply Ext.ext | apply Ext.drew) | (with_reducible refine Ext.setCell ?_ _ _ ?_; rotate_left; focus (first | omega | (simp only [zs1, zs2, zs3, size_ext]; omega))))) hb | (intro b o hb hx; (try simp only [size_ext, World.size_alloc, World.size_drew, World.size_setCell] at hb hx); go_simp; try rfl))
   clear hK K
   try simp only [Act.put, zp1, zp2, zp3, zp4, zp5, zp6]
   refine wpOrd_nil ?_
  all_goals
    go_wp2_with fail
  all_goals
    have hd3 := HD3.out
    have hm3 := HM3.out
    have hB := HB.out
    have e3 := EW3.out
    have hsz := e3.below.size
    have ho := HO10.out
    have hmw := HMW.out
    rw [List.nil_append] at ho hmw
    refine bodyPost_ret (v := playV D0 q0 e0 S0 D1 q1 e1 S1 Ag ng cg fi2 ge2 Af nf cf Aw mw cw true) (by simp [results, Try.results35, go_sem, l4, Q40, Q41, Q42, Q43, Q44, Q45, Q46, Q47, Q48, Q49]) rfl ?_
    obtain ⟨v0, v1, v2, v3⟩ := HV.out
    refine ⟨_, rfl, ?_, (by repeat (first | (with_reducible first | exact Ext.refl _ | exact Ext.same _ _ _ _ | assumption | apply Ext.alloc | apply Ext.ext | apply Ext.drew) | (with_reducible refine Ext.setCell ?_ _ _ ?_; rotate_left; focus (first | omega | (simp only [zs1, zs2, zs3, size_ext]; omega))) | (with_reducible refine Ext.trans ?_ (by assumption))))⟩
    rw [HD2.out]
    exact ⟨D0, q0, e0, D1, q1, e1, Ag, ng, cg, Af, nf, cf, Aw, mw, cw, by simp only [v0, v1, v2, v3], ⟨DrvA.mono (base := B + 3) (by repeat (first | (with_reducible assumption) | with_reducible refine DrvA.set ?_ (by omega) | with_reducible refine MemA.set ?_ (by omega) | with_reducible refine RecsA.set ?_ (by omega) | with_reducible refine BytA.set ?_ (by omega) | with_reducible apply DrvA.alloc | with_reducible apply DrvA.ext | with_reducible apply DrvA.drew | with_reducible apply MemA.alloc | with_reducible apply MemA.ext | with_reducible apply MemA.drew | with_reducible apply RecsA.alloc | with_reducible apply RecsA.ext | with_reducible apply RecsA.drew)) (by omega), MemA.mono (base := B + 3) (by repeat (first | (with_reducible assumption) | with_reducible refine DrvA.set ?_ (by omega) | with_reducible refine MemA.set ?_ (by omega) | with_reducible refine RecsA.set ?_ (by omega) | with_reducible refine BytA.set ?_ (by omega) | with_reducible apply DrvA.alloc | with_reducible apply DrvA.ext | with_reducible apply DrvA.drew | with_reducible apply MemA.alloc | with_reducible apply MemA.ext | with_reducible apply MemA.drew | with_reducible apply RecsA.alloc | with_reducible apply RecsA.ext | with_reducible apply RecsA.drew)) (by omega), Hfl.out, HfA.out.of_ext (by repeat (first | (with_reducible first | exact Ext.refl _ | exact Ext.same _ _ _ _ | assumption | apply Ext.alloc | apply Ext.ext | apply Ext.drew) | (with_reducible refine Ext.setCell ?_ _ _ ?_; rotate_left; focus (first | omega | (simp only [zs1, zs2, zs3, size_ext]; omega))) | (with_reducible refine Ext.trans ?_ (by assumption)))), hmw.symm, HCW.out, RecsA.moved2 ho.anc (Ext.refl _) (by simp) (Nat.le_refl _) (by omega)⟩⟩
end Go.Proofs.Ytekjdeibnfaehaa
