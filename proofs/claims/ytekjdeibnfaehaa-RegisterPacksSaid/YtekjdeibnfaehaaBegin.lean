/- What the statements on power ask: that a register is that of some records and of a beginning of others. -/
import Derived.Test.YtekjdeibnfaehaaAnc
import Derived.Test.YtekjdeibnfaehaaArgs
import Derived.Test.YtekjdeibnfaehaaSameM
set_option linter.unusedSimpArgs false
set_option linter.unusedVariables false
namespace Go.Proofs.Ytekjdeibnfaehaa
open Go Go.RowKit

set_option maxRecDepth 100000 in
set_option maxHeartbeats 2000000 in
theorem rInsert_any (A : Option Addr) (c n : Nat) (l : List Rec) (r : Rec) (hn : l.length = n) (hbig : n ≤ 100000) (w : World) (hr : Recs w A l) :
    Calls Try.prog 104 #[regV A n c, recV r] w fun e w' => ∃ A' n' c', e = .returned (regV A' n' c') ∧ Hid (n' = (insG l r).length) ∧ OwnR w.heap.size w' (.slice A' n' c') (insG l r) ∧ Ext w w' := by
  go_enter Try.func104, Try.ntmps104
  go_wp2_with (go_at_call 60; refine (rinsert_own _ _ _ _ _ (by first | rfl | assumption) (by omega) _ (by with_reducible repeat (first | assumption | apply Recs.ext | apply Recs.alloc | apply Recs.drew | (refine Recs.of_ext ?_ (by assumption))))).mono ?_; rintro e w1 ⟨Ai1, ni1, ci1, rfl, hni1, hvi1, E1, d1, rfl⟩)
  refine bodyPost_ret (v := regV Ai1 ni1 ci1) (by simp [results, Try.results104, go_sem]) rfl ?_
  refine ⟨_, _, _, rfl, hni1, ?_, (by repeat (first | (with_reducible first | exact Ext.refl _ | exact Ext.same _ _ _ _ | assumption | apply Ext.alloc | apply Ext.ext | apply Ext.drew) | (with_reducible refine Ext.setCell ?_ _ _ ?_; rotate_left; focus (first | omega | (simp only [zs1, zs2, zs3, size_ext]; omega)))))⟩
  ((try simp only [alloc_ext, ext_ext, size_ext, World.size_alloc, Array.size_push, Array.size_append] at *); refine OwnR.moved (by assumption) ?_ ?_ ?_; (focus (simp only [World.size_alloc, size_ext])); (focus (simp only [World.size_alloc, size_ext]; try omega)); (focus omega))
theorem run_slice_recj {A : Option Addr} {n c k : Nat} (hk : k ≤ n) (hn : n ≤ c) (w : World) : (Instr.slice 36 (.slice A n c) (some (.int .i64 k)) none none).run Try.prog w = .ok (.slice (if c = k then A else A.map (·.add (k * 11))) (n - k) (c - k)) w := by
  have hi := sizeOf_rec w
  by_cases hc : c = k <;> simp [Instr.slice, run_underlying Try.underlying36, Instr.sliceBounds, run_sliceBound, hk, hn, hi, hc]
theorem run_slice_recs {g o k m mc : Nat} (h0 : 0 < m) (hmc : m ≤ mc) : ∃ B', (∀ w, (Instr.slice 36 (.slice (some ⟨g, o + k * 11, none⟩) m mc) (some (.int .i64 1)) none none).run Try.prog w = .ok (.slice B' (m - 1) (mc - 1)) w) ∧ (0 < m - 1 → B' = some ⟨g, o + (k + 1) * 11, none⟩) := by
  refine ⟨_, fun w => run_slice_recj (k := 1) h0 hmc w, fun h => ?_⟩
  rw [if_neg (by omega)]
  show some (Addr.add _ _) = _
  rw [Addr.add_lit, Nat.add_mul, Nat.add_assoc]
theorem begins_hit {g F : List Rec} (h : recsEqB g F = true) (l : List Rec) : beginsB g F l = true := by
  cases l with
  | nil => exact h
  | cons x l => rw [beginsB, h]; rfl
theorem begins_next {g F : List Rec} (h : recsEqB g F = false) (l : List Rec) {k : Nat} (hk : k < l.length) : beginsB g F (l.drop k) = beginsB g (insG F l[k]) (l.drop (k + 1)) := by
  rw [List.drop_eq_getElem_cons hk, beginsB, h]; rfl
theorem begins_end {g F : List Rec} (h : recsEqB g F = false) (l : List Rec) {k : Nat} (hk : k = l.length) : beginsB g F (l.drop k) = false := by
  subst hk
  rw [List.drop_length]; exact h
theorem insG_length (l : List Rec) (r : Rec) : (insG l r).length = l.length + 1 := by
  have h : (l.takeWhile (fun x => !aheadB r x)).length + (l.dropWhile (fun x => !aheadB r x)).length = l.length := by
    rw [← List.length_append, List.takeWhile_append_dropWhile]
  unfold insG
  rw [List.length_append, List.length_cons]
  omega
def lenV : Value → Nat
  | .slice _ n _ => n
  | _ => 0
/-- What is there while beginnings are tried. -/
structure BegW (w wr : World) (A : Option Addr) (n c : Nat) (g firm later : List Rec) (k : Nat) (F : List Rec) (Af : Option Addr) (nf cf : Nat) : Prop where
  ext : Ext ((w.alloc (.cells #[.slice A n c] 38)).alloc (.cells #[.slice Af nf cf] 38)) wr
  len : F.length = nf
  few : nf = firm.length + k
  own : Recs w Af F ∨ OwnR (w.heap.size + 1 + 1) wr (.slice Af nf cf) F
  eq : beginsB g firm later = beginsB g F (later.drop k)
set_option maxRecDepth 100000 in
set_option maxHeartbeats 8000000 in
theorem begins_any (A B C : Option Addr) (n c m d p q : Nat) (g firm later : List Rec) (hn : g.length = n) (hm : firm.length = m) (hp : later.length = p) (hpq : p ≤ q) (hbn : n ≤ 9223372036854775807) (hbig : m + p ≤ 90000) (w : World) (hg : Recs w A g) (hf : Recs w B firm) (hl : Recs w C later) :
    Calls Try.prog 72 #[regV A n c, regV B m d, .slice C p q] w fun e w' => e = .returned (.bool (beginsB g firm later)) ∧ Ext w w' := by
  obtain ⟨g0, o0, hC⟩ : ∃ g0 o0, 0 < p → C = some ⟨g0, o0, none⟩ := by
    by_cases h : 0 < p
    · obtain ⟨g0, o0, hC, _⟩ := hl.2 (by omega)
      exact ⟨g0, o0, fun _ => hC⟩
    · exact ⟨0, 0, fun h' => absurd h' h⟩
  have HC := hid hC
  clear hC
  go_enter Try.func72, Try.ntmps72
  go_wp2_with fail
  go_loopw [2] (fun v wr => ∃ (k u uc : Nat) (Bk : Option Addr) (F : List Rec) (Af : Option Addr) (nf cf : Nat), k + u = p ∧ u ≤ uc ∧ v = .slice Bk u uc ∧ (0 < u → Bk = some ⟨g0, o0 + k * 11, none⟩) ∧ BegW w wr A n c g firm later k F Af nf cf) (fun v _ => lenV v)
  case atStart =>
    refine ⟨0, p, q, C, firm, B, m, d, by omega, hpq, rfl, fun h => by rw [HC.out h]; simp, ⟨Ext.refl _, hm, by omega, .inl hf, rfl⟩⟩
  case round =>
    obtain ⟨k, u, uc, Bk, F, Af, nf, cf, hku, huc, rfl, hBk, ⟨⟨E9, d9, rfl⟩, hF, hfew, hown, heq⟩⟩ := hrel
    have hrf := hown.elim (fun h => ((h.alloc (.cells #[.slice A n c] 38)).alloc (.cells #[.slice Af nf cf] 38)).ext E9 d9) OwnR.of_slice
    have hgr := ((hg.alloc (.cells #[.slice A n c] 38)).alloc (.cells #[.slice Af nf cf] 38)).ext E9 d9
    have HF := hid hF
    have Heq := hid heq
    have Hfew := hid hfew
    have HBk := hid hBk
    clear hF heq hown hBk hfew
    cases hsm : recsEqB g F with
    | true =>
      have HE := hid (begins_hit hsm (later.drop k))
      go_wp2_with (go_at_call 20; refine (Same_any _ _ _ _ _ _ g F hn HF.out (by omega) _ (by with_reducible repeat (first | assumption | apply Recs.ext | apply Recs.alloc | apply Recs.drew | (refine Recs.of_ext ?_ (by assumption)))) (by with_reducible repeat (first | assumption | apply Recs.ext | apply Recs.alloc | apply Recs.drew | (refine Recs.of_ext ?_ (by assumption))))).mono ?_; rintro e w1 ⟨rfl, E1, d1, rfl⟩; rw [hsm])
      go_ret
      exact ⟨ret_val (by rw [Heq.out, HE.out]; rfl), (by repeat (first | (with_reducible first | exact Ext.refl _ | exact Ext.same _ _ _ _ | assumption | apply Ext.alloc | apply Ext.ext | apply Ext.drew) | (with_reducible refine Ext.setCell ?_ _ _ ?_; rotate_left; focus (first | omega | (simp only [zs1, zs2, zs3, size_ext]; omega)))))⟩
    | false =>
      by_cases hu : u = 0
      · subst hu
        have HE := hid (begins_end hsm later (by omega : k = later.length))
        go_wp2_with (go_at_call 20; refine (Same_any _ _ _ _ _ _ g F hn HF.out (by omega) _ (by with_reducible repeat (first | assumption | apply Recs.ext | apply Recs.alloc | apply Recs.drew | (refine Recs.of_ext ?_ (by assumption)))) (by with_reducible repeat (first | assumption | apply Recs.ext | apply Recs.alloc | apply Recs.drew | (refine Recs.of_ext ?_ (by assumption))))).mono ?_; rintro e w1 ⟨rfl, E1, d1, rfl⟩; rw [hsm])
        go_ret
        exact ⟨ret_val (by rw [Heq.out, HE.out]; rfl), (by repeat (first | (with_reducible first | exact Ext.refl _ | exact Ext.same _ _ _ _ | assumption | apply Ext.alloc | apply Ext.ext | apply Ext.drew) | (with_reducible refine Ext.setCell ?_ _ _ ?_; rotate_left; focus (first | omega | (simp only [zs1, zs2, zs3, size_ext]; omega)))))⟩
      · have hu0 : 0 < u := by omega
        have hB := HBk.out hu0
        subst hB
        have hC := HC.out (by omega)
        subst hC
        have hk : k < later.length := by omega
        have HE := hid (begins_next hsm later hk)
        obtain ⟨h0, h1, h2, h3, h4, h5, h6, h7, h8, h9, h10⟩ := hl.row hk
        obtain ⟨r, hrk⟩ : ∃ r, later[k] = r := ⟨_, rfl⟩
        rw [hrk] at h0 h1 h2 h3 h4 h5 h6 h7 h8 h9 h10
        obtain ⟨g1, o1, hA1, hgl, -⟩ := hl.2 (by omega)
        obtain ⟨rfl, rfl⟩ : g0 = g1 ∧ o0 = o1 := by cases hA1; exact ⟨rfl, rfl⟩
        clear hA1
        obtain ⟨B', hsl, hB'⟩ := run_slice_recs (g := g0) (o := o0) (k := k) hu0 huc
        have HB' := hid hB'
        have Hrk := hid hrk
        have hsvd := fun d' => Recs.of_ext hrf (Ext.same _ _ _ d')
        have hub : ((u : Int) == 0) = false := by simp; omega
        clear hrk hB'
        go_wp2_with (go_at_call 20; refine (Same_any _ _ _ _ _ _ g F hn HF.out (by omega) _ (by with_reducible repeat (first | assumption | apply Recs.ext | apply Recs.alloc | apply Recs.drew | (refine Recs.of_ext ?_ (by assumption)))) (by with_reducible repeat (first | assumption | apply Recs.ext | apply Recs.alloc | apply Recs.drew | (refine Recs.of_ext ?_ (by assumption))))).mono ?_; rintro e w1 ⟨rfl, E1, d1, rfl⟩; rw [hsm])
        refine wp_region_ord (.f 1 (.f 2 (.f 3 (.a 0 (.a 4 (.a 5 .d)))))) (Ext ((w.alloc (.cells #[.slice A n c] 38)))) (by kernel_rfl) (by kernel_rfl) (by repeat (first | (with_reducible first | exact Ext.refl _ | exact Ext.same _ _ _ _ | assumption | apply Ext.alloc | apply Ext.ext | apply Ext.drew) | (with_reducible refine Ext.setCell ?_ _ _ ?_; rotate_left; focus (first | omega | (simp only [zs1, zs2, zs3, size_ext]; omega))) | (with_reducible refine Ext.trans ?_ (by assumption)))) ?_
        repeat ((first | refine wpOrd_pass rfl rfl ?_ | (refine wpOrd_free (v := ?_) rfl rfl (fun _ hS => ?_) ?_; rotate_left; focus (obtain ⟨E9, d9, rfl⟩ := hS; go_simp; try with_reducible rfl))); simp only [Act.put, zp1, zp2, zp3, zp4, zp5, zp6])
        refine wpOrd_act rfl rfl (fun K hK => ?_)
        go_simp
        refine hK _ _ ⟨?_, ?_⟩
        · exact (by repeat (first | (with_reducible first | exact Ext.refl _ | exact Ext.same _ _ _ _ | assumption | apply Ext.alloc | apply Ext.ext | apply Ext.drew) | (with_reducible refine Ext.setCell ?_ _ _ ?_; rotate_left; focus (first | omega | (simp only [zs1, zs2, zs3, size_ext]; omega))) | (with_reducible refine Ext.trans ?_ (by assumption))))
        clear hK K
        try simp only [Act.put, zp1, zp2, zp3, zp4, zp5, zp6]
        refine wpOrd_call rfl rfl rfl Try.call104 (fun R hR => ?_)
        go_simp
        refine (rInsert_any _ _ _ F r HF.out (by have := Hfew.out; omega) _ (by with_reducible repeat (first | assumption | exact hsvd _ | apply Recs.ext | apply Recs.alloc | apply Recs.drew | (refine Recs.of_ext ?_ (by assumption))))).mono ?_
        rintro e w1 ⟨Ai201, ni201, ci201, rfl, hni201, hvi201, E201, d201, rfl⟩
        refine hR _ _ ⟨_, rfl, ?_, ?_⟩
        · exact (by repeat (first | (with_reducible first | exact Ext.refl _ | exact Ext.same _ _ _ _ | assumption | apply Ext.alloc | apply Ext.ext | apply Ext.drew) | (with_reducible refine Ext.setCell ?_ _ _ ?_; rotate_left; focus (first | omega | (simp only [zs1, zs2, zs3, size_ext]; omega))) | (with_reducible refine Ext.trans ?_ (by assumption))))
        clear hR R
        simp only [Act.put, zp1, zp2, zp3, zp4, zp5, zp6]
        refine wpOrd_act rfl rfl (fun K hK => ?_)
        go_simp
        refine hK _ _ ⟨?_, ?_⟩
        · exact (by repeat (first | (with_reducible first | exact Ext.refl _ | exact Ext.same _ _ _ _ | assumption | apply Ext.alloc | apply Ext.ext | apply Ext.drew) | (with_reducible refine Ext.setCell ?_ _ _ ?_; rotate_left; focus (first | omega | (simp only [zs1, zs2, zs3, size_ext]; omega))) | (with_reducible refine Ext.trans ?_ (by assumption))))
        clear hK K
        try simp only [Act.put, zp1, zp2, zp3, zp4, zp5, zp6]
        refine wpOrd_nil ?_
        all_goals
          go_wp2_with fail
        all_goals
          first | have Ho := hvi201 | have Ho := hvi200 | have Ho := hvi202
          first | have Hn := hni201.out | have Hn := hni200.out | have Hn := hni202.out
          refine ⟨⟨k + 1, u - 1, uc - 1, B', insG F r, _, _, _, by omega, by omega, rfl, HB'.out, ⟨(by repeat (first | (with_reducible first | exact Ext.refl _ | exact Ext.same _ _ _ _ | assumption | apply Ext.alloc | apply Ext.ext | apply Ext.drew) | (with_reducible refine Ext.setCell ?_ _ _ ?_; rotate_left; focus (first | omega | (simp only [zs1, zs2, zs3, size_ext]; omega))))), Hn.symm, ?_, .inr ?_, ?_⟩⟩, by simp [lenV]; omega⟩
          · have h1 := Hfew.out
            have h2 := HF.out
            rw [insG_length] at Hn
            omega
          · exact OwnR.moved2 Ho (by repeat (first | (with_reducible first | exact Ext.refl _ | exact Ext.same _ _ _ _ | assumption | apply Ext.alloc | apply Ext.ext | apply Ext.drew) | (with_reducible refine Ext.setCell ?_ _ _ ?_; rotate_left; focus (first | omega | (simp only [zs1, zs2, zs3, size_ext]; omega))))) (by simp [World.size_alloc]) (Nat.le_refl _) (by simp [World.size_alloc]; omega)
          · rw [Heq.out, HE.out, Hrk.out]
/-- Behind a failure the drive opens, with a beginning. -/
def survD (D : DriveD) (firm later : List Rec) (k0 k1 : Int) : Bool := decide (openE (crashD D k0 k1) = 0) && beginsB (openM (crashD D k0 k1)).recs firm later
set_option maxRecDepth 100000 in
set_option maxHeartbeats 8000000 in
theorem survives_any (A0 : Option Addr) (n0 c0 : Nat) (A1 : Option Addr) (n1 c1 : Nat) (D : DriveD) (B C : Option Addr) (m d p q : Nat) (firm later : List Rec) (k0 k1 : Int) (hm : firm.length = m) (hp : later.length = p) (hpq : p ≤ q) (hbig : m + p ≤ 90000) (hs0 : n0 ≤ 140737488355328) (hs1 : n1 ≤ 140737488355328)
    (hk0 : I64 k0) (hk1 : I64 k1) (w : World) (hD : DrvY w D A0 n0 c0 A1 n1 c1) (hf : Recs w B firm) (hl : Recs w C later) :
    Calls Try.prog 36 #[drvV A0 n0 c0 D.f0.firm A1 n1 c1 D.f1.firm, regV B m d, .slice C p q, .agg #[.int .i64 k0, .int .i64 k1]] w fun e w' => e = .returned (.bool (survD D firm later k0 k1)) ∧ Ext w w' := by
  have hfew := openM_few (crashD D k0 k1)
  obtain ⟨hk0, hk0'⟩ := hk0
  obtain ⟨hk1, hk1'⟩ := hk1
  obtain ⟨f0, hf0⟩ : ∃ f0, D.f0.firm = f0 := ⟨_, rfl⟩
  obtain ⟨f1, hf1⟩ : ∃ f1, D.f1.firm = f1 := ⟨_, rfl⟩
  have HD : ∀ w', Ext w w' → Calls Try.prog 39 #[drvV A0 n0 c0 f0 A1 n1 c1 f1, .agg #[.int .i64 k0, .int .i64 k1]] w' fun e w2 => ∃ B0 m0 d0 B1 m1 d1 g0 g1, e = .returned (drvV B0 m0 d0 g0 B1 m1 d1 g1) ∧ Hid ((crashD D k0 k1).f0.firm = g0 ∧ (crashD D k0 k1).f1.firm = g1) ∧ DrvY w2 (crashD D k0 k1) B0 m0 d0 B1 m1 d1 ∧ Ext w' w2 := by
    intro w' hx
    have h := Crash_y A0 n0 c0 A1 n1 c1 D k0 k1 w' (hD.of_ext hx) hs0 hs1 hk0 hk0' hk1 hk1'
    rw [hf0, hf1] at h
    refine h.mono ?_
    rintro e w2 ⟨B0, m0, d0, B1, m1, d1, rfl, hy, hx2⟩
    exact ⟨B0, m0, d0, B1, m1, d1, _, _, rfl, hid ⟨rfl, rfl⟩, hy, hx2⟩
  rw [hf0, hf1]
  obtain ⟨X, hX⟩ : ∃ X, crashD D k0 k1 = X := ⟨_, rfl⟩
  have HS : Hid (survD D firm later k0 k1 = (decide (openE X = 0) && beginsB (openM X).recs firm later)) := hid (by rw [survD, hX])
  rw [hX] at HD hfew
  have HD2 := hid HD
  have Hfew := hid hfew
  clear hf0 hf1 hX HD hD hfew
  go_enter Try.func36, Try.ntmps36
  go_wp2_with fail
  refine (HD2.out _ (by repeat (first | (with_reducible first | exact Ext.refl _ | exact Ext.same _ _ _ _ | assumption | apply Ext.alloc | apply Ext.ext | apply Ext.drew) | (with_reducible refine Ext.setCell ?_ _ _ ?_; rotate_left; focus (first | omega | (simp only [zs1, zs2, zs3, size_ext]; omega)))))).mono ?_
  rintro e w1 ⟨B0, m0, d0, B1, m1, d1, g0, g1, rfl, hg, hy, Ec, dc, rfl⟩
  go_wp2_with fail
  have ho := Open_y B0 m0 d0 B1 m1 d1 X _ hy
  rw [hg.out.1, hg.out.2] at ho
  refine ho.mono ?_
  rintro e w1 ⟨Bo, no, co, Bp, np, cp, Bm, nm, cm, rfl, hd, hmx, Eo, d_o, rfl⟩
  have hrm := hmx.recs
  have Hnm := hid hmx.l
  obtain ⟨E, hE⟩ : ∃ E, openE X = E := ⟨_, rfl⟩
  rw [hE]
  have HS2 : Hid (survD D firm later k0 k1 = (decide (E = 0) && beginsB (openM X).recs firm later)) := hid (by rw [HS.out, hE])
  clear HS ho hE hd hmx hy hg
  by_cases h0 : E = 0
  · subst h0
    have HS3 : Hid (survD D firm later k0 k1 = beginsB (openM X).recs firm later) := hid (by rw [HS2.out]; simp)
    go_wp2_with (go_at_call 72; refine (begins_any _ _ _ _ _ _ _ _ _ (openM X).recs firm later (Hnm.out.symm) hm hp hpq (by have := Hfew.out; have := Hnm.out; omega) hbig _ (by with_reducible repeat (first | assumption | apply Recs.ext | apply Recs.alloc | apply Recs.drew | (refine Recs.of_ext ?_ (by assumption)))) (by with_reducible repeat (first | assumption | apply Recs.ext | apply Recs.alloc | apply Recs.drew | (refine Recs.of_ext ?_ (by assumption)))) (by with_reducible repeat (first | assumption | apply Recs.ext | apply Recs.alloc | apply Recs.drew | (refine Recs.of_ext ?_ (by assumption))))).mono ?_; rintro e w1 ⟨rfl, E9, d9, rfl⟩)
    go_ret
    exact ⟨ret_val (by rw [HS3.out]; rfl), (by repeat (first | (with_reducible first | exact Ext.refl _ | exact Ext.same _ _ _ _ | assumption | apply Ext.alloc | apply Ext.ext | apply Ext.drew) | (with_reducible refine Ext.setCell ?_ _ _ ?_; rotate_left; focus (first | omega | (simp only [zs1, zs2, zs3, size_ext]; omega)))))⟩
  · have b0 : (E == 0) = false := by simpa using h0
    have HS3 : Hid (survD D firm later k0 k1 = false) := hid (by rw [HS2.out]; simp [h0])
    go_wp2_with fail
    go_ret
    exact ⟨ret_val (by rw [HS3.out]; rfl), (by repeat (first | (with_reducible first | exact Ext.refl _ | exact Ext.same _ _ _ _ | assumption | apply Ext.alloc | apply Ext.ext | apply Ext.drew) | (with_reducible refine Ext.setCell ?_ _ _ ?_; rotate_left; focus (first | omega | (simp only [zs1, zs2, zs3, size_ext]; omega)))))⟩
end Go.Proofs.Ytekjdeibnfaehaa
