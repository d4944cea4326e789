/- The reference's Open. -/
import Derived.Test.YtekjdeibnfaehaaGreatROrd
set_option linter.unusedSimpArgs false
set_option linter.unusedVariables false
namespace Go.Proofs.YtekjdeibnfaehaaGreat
open Go Go.RowKit

theorem rdG_pos {l : List UInt8} : (rdG l = 0 ∧ pageOk l = false) ∨ (1 ≤ rdG l ∧ pageOk l = true) := by
  cases h : pageOk l with
  | false => exact .inl ⟨(rd_no h).1, rfl⟩
  | true =>
    refine .inr ⟨?_, rfl⟩
    rw [(rd_yes h).1]
    simp only [pageOk, Bool.and_eq_true, inB_spec] at h
    omega
theorem rdG_nonneg (l : List UInt8) : 0 ≤ rdG l := by rcases rdG_pos (l := l) with ⟨h, _⟩ | ⟨h, _⟩ <;> omega
theorem rdR_ok (l : List UInt8) : ∀ r ∈ rdR l, recOk r = true := by
  unfold rdR
  split
  · exact recsB_ok l
  · intro r hr; cases hr
theorem rdR_len (l : List UInt8) : (rdR l).length ≤ l.length := by
  unfold rdR
  split
  · exact recsB_le l
  · exact Nat.zero_le _
theorem rdN_len (l : List UInt8) : rdN l ≤ l.length := by
  unfold rdN
  split
  · rename_i h
    exact longB_le (isHead_of_page h)
  · exact Nat.zero_le _
theorem regOk_apart {l : List Rec} (h : ∀ r ∈ l, recOk r = true) {n : Nat} (hn : n = l.length) : (decide (Apart l) && decide (n ≤ 80)) = regOk l := by
  subst hn
  have : l.all recOk = true := List.all_eq_true.2 h
  unfold regOk
  rw [this, Bool.and_true, Bool.and_comm]
theorem open_none {D : DriveD} (hd : driveOk D = true) (h0 : rdG D.f0.bytes = 0) (h1 : rdG D.f1.bytes = 0) : openE D = 74 ∧ openD D = noDrive ∧ openM D = noMem := by
  rcases rdG_pos (l := D.f0.bytes) with ⟨_, p0⟩ | ⟨p0, _⟩
  · rcases rdG_pos (l := D.f1.bytes) with ⟨_, p1⟩ | ⟨p1, _⟩
    · exact openE_none hd (fun h => by rw [atI_none p0 p1] at h; omega)
    · omega
  · omega
theorem at_zero {D : DriveD} (h : ¬(rdG D.f0.bytes = 0 ∧ rdG D.f1.bytes = 0)) (hle : ¬(rdG D.f0.bytes < rdG D.f1.bytes)) : pageOk D.f0.bytes = true ∧ atI D = 0 := by
  rcases rdG_pos (l := D.f0.bytes) with ⟨q0, p0⟩ | ⟨q0, p0⟩
  · have := rdG_nonneg D.f1.bytes
    exfalso
    rcases rdG_pos (l := D.f1.bytes) with ⟨q1, _⟩ | ⟨q1, _⟩
    · exact h ⟨q0, q1⟩
    · omega
  · refine ⟨p0, atI_zero p0 fun p1 => ?_⟩
    rw [(rd_yes p0).1, (rd_yes p1).1] at hle
    omega
theorem at_one {D : DriveD} (hlt : rdG D.f0.bytes < rdG D.f1.bytes) : pageOk D.f1.bytes = true ∧ atI D = 1 := by
  rcases rdG_pos (l := D.f1.bytes) with ⟨q1, p1⟩ | ⟨q1, p1⟩
  · have := rdG_nonneg D.f0.bytes
    omega
  · refine ⟨p1, atI_one p1 fun p0 => ?_⟩
    rw [(rd_yes p0).1, (rd_yes p1).1] at hlt
    exact hlt
theorem open_bad {D : DriveD} (hd : driveOk D = true) (h : regOk (recsB (bestB D)) = false) : openE D = 74 ∧ openD D = noDrive ∧ openM D = noMem :=
  openE_none hd fun h2 => by rw [h] at h2; exact absurd h2.2 (by simp)
theorem open_good {D : DriveD} (hd : driveOk D = true) (h : 0 ≤ atI D) (h2 : regOk (recsB (bestB D)) = true) :
    openE D = 0 ∧ openD D = withFile noDrive (atI D) ⟨(bestB D).take (longB (bestB D)), longB (bestB D)⟩ ∧ openM D = ⟨ordL (recsB (bestB D)), atI D, genB (bestB D)⟩ := by
  have he := openE_ok hd h h2
  exact ⟨he, by rw [openD, if_pos he], by rw [openM, if_pos he]⟩
set_option maxRecDepth 100000 in
set_option maxHeartbeats 16000000 in
theorem rOpen_any (A0 : Option Addr) (n0 c0 : Nat) (A1 : Option Addr) (n1 c1 : Nat) (D : DriveD) (w : World) (hD : DrvY w D A0 n0 c0 A1 n1 c1) :
    Calls Tryz.prog 16 #[drvV A0 n0 c0 D.f0.firm A1 n1 c1 D.f1.firm] w fun e w' => ∃ B0 m0 d0 B1 m1 d1 Am nm cm, e = .returned (.tuple #[drvV B0 m0 d0 (openD D).f0.firm B1 m1 d1 (openD D).f1.firm, memV Am nm cm (openM D).file (openM D).gen, .int .i64 (openE D)]) ∧
      DrvX w.heap.size w' (openD D) B0 m0 d0 B1 m1 d1 ∧ MemX w.heap.size w' (openM D) Am nm cm ∧ Ext w w' := by
  obtain ⟨hl0, hl1, hc0, hc1, hbig0, hbig1, hb0, hb1⟩ := hD
  have hdo := driveOk_eq D n0 n1 hl0 hl1
  cases hk : dOk n0 D.f0.firm n1 D.f1.firm with
  | false =>
    rw [hk] at hdo
    obtain ⟨e1, e2, e3⟩ := openE_bad hdo
    rw [e1, e2, e3]
    clear hdo e1 e2 e3
    go_enter Tryz.func16, Tryz.ntmps16
    go_wp2_with (go_at_call 59; refine (risDrive_any _ _ _ _ _ _ _ _ _).mono ?_; rintro e w1 ⟨rfl, E1, d1, rfl⟩)
    refine bodyPost_ret (v := .tuple #[drvV none 0 0 0 none 0 0 0, memV none 0 0 0 0, .int .i64 73]) (by simp [results, Tryz.results16, go_sem]) rfl ?_
    exact ⟨none, 0, 0, none, 0, 0, none, 0, 0, rfl, DrvX.zero _ _, MemX.zero _ _, (by repeat (first | (with_reducible first | exact Ext.refl _ | exact Ext.same _ _ _ _ | assumption | apply Ext.alloc | apply Ext.ext | apply Ext.drew) | (with_reducible refine Ext.setCell ?_ _ _ ?_; rotate_left; focus (first | omega | (simp only [zs1, zs2, zs3, size_ext]; omega)))))⟩
  | true =>
    obtain ⟨hs0, hs1⟩ : n0 ≤ 100000 ∧ n1 ≤ 100000 := by
      simp only [dOk, fOk, Bool.and_eq_true, decide_eq_true_eq] at hk
      exact ⟨hk.1.2, hk.2.2⟩
    rw [hk] at hdo
    have Hdo := hid hdo
    have HZ := hid (open_none (D := D) hdo)
    have H0 := hid (at_zero (D := D))
    have H1 := hid (at_one (D := D))
    have nn0 := rdG_nonneg D.f0.bytes
    have nn1 := rdG_nonneg D.f1.bytes
    obtain ⟨a, ha⟩ : ∃ a, rdG D.f0.bytes = a := ⟨_, rfl⟩
    obtain ⟨b, hb⟩ : ∃ b, rdG D.f1.bytes = b := ⟨_, rfl⟩
    rw [ha] at HZ H0 H1 nn0
    rw [hb] at HZ H0 H1 nn1
    have HA := hid ha
    have HB := hid hb
    clear hdo ha hb
    by_cases hz : a = 0 ∧ b = 0
    · obtain ⟨rfl, rfl⟩ := hz
      have HE := hid (HZ.out rfl rfl)
      clear HZ H0 H1
      go_enter Tryz.func16, Tryz.ntmps16
      go_wp2_with (go_at_call 59; refine (risDrive_any _ _ _ _ _ _ _ _ _).mono ?_; rintro e w1 ⟨rfl, E1, d1, rfl⟩)
      refine (read_any _ _ _ D.f0.bytes hl0 hc0 hbig0 hs0 _ (by with_reducible repeat (first | assumption | apply Byt.ext | apply Byt.alloc | apply Byt.drew | (refine Byt.of_ext ?_ (by assumption))))).mono ?_
      rintro e w1 ⟨Ar0, nr0, cr0, rfl, hnr0, hor0, E2, d2, rfl⟩
      rw [HA.out]
      clear hor0 hnr0
      go_wp2_with fail
      refine (read_any _ _ _ D.f1.bytes hl1 hc1 hbig1 hs1 _ (by with_reducible repeat (first | assumption | apply Byt.ext | apply Byt.alloc | apply Byt.drew | (refine Byt.of_ext ?_ (by assumption))))).mono ?_
      rintro e w1 ⟨Ar1, nr1, cr1, rfl, hnr1, hor1, E3, d3, rfl⟩
      rw [HB.out]
      clear hor1 hnr1
      go_wp2_with fail
      refine bodyPost_ret (v := .tuple #[drvV none 0 0 0 none 0 0 0, memV none 0 0 0 0, .int .i64 74]) (by simp [results, Tryz.results16, go_sem]) rfl ?_
      obtain ⟨e1, e2, e3⟩ := HE.out
      rw [e1, e2, e3]
      exact ⟨none, 0, 0, none, 0, 0, none, 0, 0, rfl, DrvX.zero _ _, MemX.zero _ _, (by repeat (first | (with_reducible first | exact Ext.refl _ | exact Ext.same _ _ _ _ | assumption | apply Ext.alloc | apply Ext.ext | apply Ext.drew) | (with_reducible refine Ext.setCell ?_ _ _ ?_; rotate_left; focus (first | omega | (simp only [zs1, zs2, zs3, size_ext]; omega)))))⟩
    · have hzb : ((a == 0) && (b == 0)) = false := by
        rcases Int.lt_or_eq_of_le nn0 with h | h
        · rw [show (a == 0) = false from by simp; omega]; rfl
        · rw [show (b == 0) = false from by simp; omega]; exact Bool.and_false _
      by_cases hlt : a < b
      · obtain ⟨hp, hat⟩ := H1.out hlt
        have hbest : bestB D = D.f1.bytes := by rw [bestB, hat]; rfl
        obtain ⟨e1, e2, e3⟩ := rd_yes hp
        have hok := rdR_ok D.f1.bytes
        have hrl := rdR_len D.f1.bytes
        have hNl := rdN_len D.f1.bytes
        rw [hl1] at hrl hNl
        obtain ⟨L, hL⟩ : ∃ L, rdR D.f1.bytes = L := ⟨_, rfl⟩
        obtain ⟨N, hN⟩ : ∃ N, rdN D.f1.bytes = N := ⟨_, rfl⟩
        rw [hL] at hok hrl
        rw [hN] at hNl
        have HBAD : Hid (regOk L = false → openE D = 74 ∧ openD D = noDrive ∧ openM D = noMem) := hid (fun h => open_bad Hdo.out (by rw [hbest, ← e2, hL]; exact h))
        have HOK : Hid (regOk L = true → openE D = 0 ∧ openD D = ⟨noFile, ⟨D.f1.bytes.take N, N⟩⟩ ∧ openM D = ⟨ordL L, 1, b⟩) := hid (fun h => by
          obtain ⟨q1, q2, q3⟩ := open_good Hdo.out (by omega) (by rw [hbest, ← e2, hL]; exact h)
          refine ⟨q1, ?_, ?_⟩
          · rw [q2, hat, hbest, ← e3, hN]; rfl
          · rw [q3, hat, hbest, ← e2, hL, ← e1, HB.out])
        have HLr := hid hL
        have HNr := hid hN
        have Hok := hid hok
        clear HZ H0 H1 hp hat hbest e1 e2 e3 hL hN hok
        go_enter Tryz.func16, Tryz.ntmps16
        go_wp2_with (go_at_call 59; refine (risDrive_any _ _ _ _ _ _ _ _ _).mono ?_; rintro e w1 ⟨rfl, E1, d1, rfl⟩)
        refine (read_any _ _ _ D.f0.bytes hl0 hc0 hbig0 hs0 _ (by with_reducible repeat (first | assumption | apply Byt.ext | apply Byt.alloc | apply Byt.drew | (refine Byt.of_ext ?_ (by assumption))))).mono ?_
        rintro e w1 ⟨Ar0, nr0, cr0, rfl, hnr0, hor0, E2, d2, rfl⟩
        rw [HA.out]
        clear hor0 hnr0
        go_wp2_with fail
        refine (read_any _ _ _ D.f1.bytes hl1 hc1 hbig1 hs1 _ (by with_reducible repeat (first | assumption | apply Byt.ext | apply Byt.alloc | apply Byt.drew | (refine Byt.of_ext ?_ (by assumption))))).mono ?_
        rintro e w1 ⟨Ar1, nr1, cr1, rfl, hnr1, hor1, E3, d3, rfl⟩
        rw [HB.out]
        clear hor1 hnr1
        go_wp2_with fail
        all_goals
          refine (read_any _ _ _ D.f1.bytes hl1 hc1 hbig1 hs1 _ (by with_reducible repeat (first | assumption | apply Byt.ext | apply Byt.alloc | apply Byt.drew | (refine Byt.of_ext ?_ (by assumption))))).mono ?_
          rintro e w1 ⟨Ar, nr, cr, rfl, hnr, hor, E4, d4, rfl⟩
          rw [HB.out, HNr.out]
          rw [HLr.out] at hnr hor
          have hrr := hor.of_slice
          have Hnr := hid hnr.out
          have hnrb : nr ≤ 100000 := by have := hnr.out; omega
          clear hnr hor
          go_wp2_with fail
          refine (ordered_any _ _ _ L Hnr.out.symm hnrb _ (by with_reducible repeat (first | assumption | apply Recs.ext | apply Recs.alloc | apply Recs.drew | (refine Recs.of_ext ?_ (by assumption))))).mono ?_
          rintro e w1 ⟨Ao, no, co, lo, rfl, hno, hoo, hlo, E5, d5, rfl⟩
          rw [regOk_apart Hok.out Hnr.out]
          have Hno := hid hno.out
          have Hoo := hid hoo
          clear hno hoo
          cases hro : regOk L with
          | false =>
            have HE := hid (HBAD.out hro)
            clear HBAD HOK hro
            go_wp2_with fail
            refine bodyPost_ret (v := .tuple #[drvV none 0 0 0 none 0 0 0, memV none 0 0 0 0, .int .i64 74]) (by simp [results, Tryz.results16, go_sem]) rfl ?_
            obtain ⟨e1, e2, e3⟩ := HE.out
            rw [e1, e2, e3]
            exact ⟨none, 0, 0, none, 0, 0, none, 0, 0, rfl, DrvX.zero _ _, MemX.zero _ _, (by repeat (first | (with_reducible first | exact Ext.refl _ | exact Ext.same _ _ _ _ | assumption | apply Ext.alloc | apply Ext.ext | apply Ext.drew) | (with_reducible refine Ext.setCell ?_ _ _ ?_; rotate_left; focus (first | omega | (simp only [zs1, zs2, zs3, size_ext]; omega)))))⟩
          | true =>
            have HE := hid (HOK.out hro)
            have Hlo : Hid (lo = ordL L) := hid (hlo.out (by simp only [regOk, Bool.and_eq_true, decide_eq_true_eq] at hro; exact hro.2))
            clear HBAD HOK hro hlo
            go_wp2_with fail
            refine (cut_any _ _ _ _ D.f1.bytes N hl1 (by omega) hc1 (by omega) _ (by with_reducible repeat (first | assumption | apply Byt.ext | apply Byt.alloc | apply Byt.drew | (refine Byt.of_ext ?_ (by assumption))))).mono ?_
            rintro e w1 ⟨Af, cf, rfl, hbf, E6, d6, rfl⟩
            have Hbf := hid hbf
            clear hbf hrr
            have hle1 : w.heap.size + 1 + 1 + 1 ≤ w.heap.size + 1 + 1 + 1 + E1.size + E2.size + E3.size + E4.size + E5.size := by omega
            have hle2 : w.heap.size + 1 + 1 + 1 ≤ w.heap.size + 1 + 1 + 1 + E1.size + E2.size + E3.size + E4.size + E5.size + 1 := by omega
            have hlt1 : w.heap.size + 1 + 1 + 1 + E1.size + E2.size + E3.size + E4.size + E5.size < w.heap.size + 1 + 1 + 1 + E1.size + E2.size + E3.size + E4.size + E5.size + 1 + 1 + E6.size := by omega
            have hlt2 : w.heap.size + 1 + 1 + 1 + E1.size + E2.size + E3.size + E4.size + E5.size + 1 < w.heap.size + 1 + 1 + 1 + E1.size + E2.size + E3.size + E4.size + E5.size + 1 + 1 + E6.size := by omega
            go_wp2_with fail
            refine wp_region_ord_from (w.heap.size + 1 + 1 + 1) (.f 0 (.f 1 (.f 2 (.f 3 (.f 4 (.a 5 (.a 6 (.f 7 .d)))))))) (by kernel_rfl) (by kernel_rfl) ?_
            repeat ((first | refine wpOrd_pass rfl rfl ?_ | (refine wpOrd_free (v := ?_) rfl rfl (fun _ hS => ?_) ?_; rotate_left; focus (go_simp; try with_reducible rfl))); simp only [Act.put, zp1, zp2, zp3, zp4, zp5, zp6])
            refine wpOrd_act rfl rfl (fun K hK => ?_)
            go_simp
            refine hK _ _ ⟨?_, ?_⟩
            · exact SameL.out (by repeat (first | (with_reducible refine SameE.same ?_; (repeat (first | with_reducible exact SameE.refl _ _ | (with_reducible refine SameE.base ?_ ?_ _ _; (focus ((try simp only [World.size_alloc, size_ext, World.size_drew]); (try omega))); (focus ((try simp only [World.size_alloc, size_ext, World.size_drew]); omega))) | with_reducible apply SameE.alloc | with_reducible apply SameE.ext | with_reducible apply SameE.drewL | with_reducible apply SameE.drewR)); done) | with_reducible apply SameL.extL | with_reducible apply SameL.allocL | with_reducible apply SameL.drewL))
            clear hK K
            try simp only [Act.put, zp1, zp2, zp3, zp4, zp5, zp6]
            refine wpOrd_act rfl rfl (fun K hK => ?_)
            go_simp
            refine hK _ _ ⟨?_, ?_⟩
            · exact SameL.out (by repeat (first | (with_reducible refine SameE.same ?_; (repeat (first | with_reducible exact SameE.refl _ _ | (with_reducible refine SameE.base ?_ ?_ _ _; (focus ((try simp only [World.size_alloc, size_ext, World.size_drew]); (try omega))); (focus ((try simp only [World.size_alloc, size_ext, World.size_drew]); omega))) | with_reducible apply SameE.alloc | with_reducible apply SameE.ext | with_reducible apply SameE.drewL | with_reducible apply SameE.drewR)); done) | with_reducible apply SameL.extL | with_reducible apply SameL.allocL | with_reducible apply SameL.drewL))
            clear hK K
            try simp only [Act.put, zp1, zp2, zp3, zp4, zp5, zp6]
            repeat ((first | refine wpOrd_pass rfl rfl ?_ | (refine wpOrd_free (v := ?_) rfl rfl (fun _ hS => ?_) ?_; rotate_left; focus (go_simp; try with_reducible rfl))); simp only [Act.put, zp1, zp2, zp3, zp4, zp5, zp6])
            refine wpOrd_nil ?_
            all_goals
              go_wp2_with fail
            all_goals
              refine bodyPost_ret (v := .tuple #[drvV none 0 0 0 Af N cf N, memV Ao no co 1 b, .int .i64 0]) (by simp [results, Tryz.results16, go_sem]) rfl ?_
              obtain ⟨e1, e2, e3⟩ := HE.out
              rw [e1, e2, e3]
              refine ⟨none, 0, 0, Af, N, cf, Ao, no, co, rfl, ⟨rfl, by simp [hl1]; omega, OwnB.none _ _, ?_⟩, ⟨by rw [← Hlo.out]; exact Hno.out, ?_⟩, (by repeat (first | (with_reducible first | exact Ext.refl _ | exact Ext.same _ _ _ _ | assumption | apply Ext.alloc | apply Ext.ext | apply Ext.drew) | (with_reducible refine Ext.setCell ?_ _ _ ?_; rotate_left; focus (first | omega | (simp only [zs1, zs2, zs3, size_ext]; omega)))))⟩
              · exact OwnB.moved2 Hbf.out (by repeat (first | (with_reducible first | exact Ext.refl _ | exact Ext.same _ _ _ _ | assumption | apply Ext.alloc | apply Ext.ext | apply Ext.drew) | (with_reducible refine Ext.setCell ?_ _ _ ?_; rotate_left; focus (first | omega | (simp only [zs1, zs2, zs3, size_ext]; omega))))) (by simp [World.size_alloc]) (by simp [World.size_alloc]) (by simp [World.size_alloc]; try omega)
              · rw [← Hlo.out]
                exact OwnR.moved2 Hoo.out (by repeat (first | (with_reducible first | exact Ext.refl _ | exact Ext.same _ _ _ _ | assumption | apply Ext.alloc | apply Ext.ext | apply Ext.drew) | (with_reducible refine Ext.setCell ?_ _ _ ?_; rotate_left; focus (first | omega | (simp only [zs1, zs2, zs3, size_ext]; omega))))) (by simp [World.size_alloc]) (by simp [World.size_alloc]) (by simp [World.size_alloc]; try omega)
      · obtain ⟨hp, hat⟩ := H0.out hz hlt
        have hbest : bestB D = D.f0.bytes := by rw [bestB, hat]; rfl
        obtain ⟨e1, e2, e3⟩ := rd_yes hp
        have hok := rdR_ok D.f0.bytes
        have hrl := rdR_len D.f0.bytes
        have hNl := rdN_len D.f0.bytes
        rw [hl0] at hrl hNl
        obtain ⟨L, hL⟩ : ∃ L, rdR D.f0.bytes = L := ⟨_, rfl⟩
        obtain ⟨N, hN⟩ : ∃ N, rdN D.f0.bytes = N := ⟨_, rfl⟩
        rw [hL] at hok hrl
        rw [hN] at hNl
        have HBAD : Hid (regOk L = false → openE D = 74 ∧ openD D = noDrive ∧ openM D = noMem) := hid (fun h => open_bad Hdo.out (by rw [hbest, ← e2, hL]; exact h))
        have HOK : Hid (regOk L = true → openE D = 0 ∧ openD D = ⟨⟨D.f0.bytes.take N, N⟩, noFile⟩ ∧ openM D = ⟨ordL L, 0, a⟩) := hid (fun h => by
          obtain ⟨q1, q2, q3⟩ := open_good Hdo.out (by omega) (by rw [hbest, ← e2, hL]; exact h)
          refine ⟨q1, ?_, ?_⟩
          · rw [q2, hat, hbest, ← e3, hN]; rfl
          · rw [q3, hat, hbest, ← e2, hL, ← e1, HA.out])
        have HLr := hid hL
        have HNr := hid hN
        have Hok := hid hok
        clear HZ H0 H1 hp hat hbest e1 e2 e3 hL hN hok
        go_enter Tryz.func16, Tryz.ntmps16
        go_wp2_with (go_at_call 59; refine (risDrive_any _ _ _ _ _ _ _ _ _).mono ?_; rintro e w1 ⟨rfl, E1, d1, rfl⟩)
        refine (read_any _ _ _ D.f0.bytes hl0 hc0 hbig0 hs0 _ (by with_reducible repeat (first | assumption | apply Byt.ext | apply Byt.alloc | apply Byt.drew | (refine Byt.of_ext ?_ (by assumption))))).mono ?_
        rintro e w1 ⟨Ar0, nr0, cr0, rfl, hnr0, hor0, E2, d2, rfl⟩
        rw [HA.out]
        clear hor0 hnr0
        go_wp2_with fail
        refine (read_any _ _ _ D.f1.bytes hl1 hc1 hbig1 hs1 _ (by with_reducible repeat (first | assumption | apply Byt.ext | apply Byt.alloc | apply Byt.drew | (refine Byt.of_ext ?_ (by assumption))))).mono ?_
        rintro e w1 ⟨Ar1, nr1, cr1, rfl, hnr1, hor1, E3, d3, rfl⟩
        rw [HB.out]
        clear hor1 hnr1
        go_wp2_with fail
        all_goals
          refine (read_any _ _ _ D.f0.bytes hl0 hc0 hbig0 hs0 _ (by with_reducible repeat (first | assumption | apply Byt.ext | apply Byt.alloc | apply Byt.drew | (refine Byt.of_ext ?_ (by assumption))))).mono ?_
          rintro e w1 ⟨Ar, nr, cr, rfl, hnr, hor, E4, d4, rfl⟩
          rw [HA.out, HNr.out]
          rw [HLr.out] at hnr hor
          have hrr := hor.of_slice
          have Hnr := hid hnr.out
          have hnrb : nr ≤ 100000 := by have := hnr.out; omega
          clear hnr hor
          go_wp2_with fail
          refine (ordered_any _ _ _ L Hnr.out.symm hnrb _ (by with_reducible repeat (first | assumption | apply Recs.ext | apply Recs.alloc | apply Recs.drew | (refine Recs.of_ext ?_ (by assumption))))).mono ?_
          rintro e w1 ⟨Ao, no, co, lo, rfl, hno, hoo, hlo, E5, d5, rfl⟩
          rw [regOk_apart Hok.out Hnr.out]
          have Hno := hid hno.out
          have Hoo := hid hoo
          clear hno hoo
          cases hro : regOk L with
          | false =>
            have HE := hid (HBAD.out hro)
            clear HBAD HOK hro
            go_wp2_with fail
            refine bodyPost_ret (v := .tuple #[drvV none 0 0 0 none 0 0 0, memV none 0 0 0 0, .int .i64 74]) (by simp [results, Tryz.results16, go_sem]) rfl ?_
            obtain ⟨e1, e2, e3⟩ := HE.out
            rw [e1, e2, e3]
            exact ⟨none, 0, 0, none, 0, 0, none, 0, 0, rfl, DrvX.zero _ _, MemX.zero _ _, (by repeat (first | (with_reducible first | exact Ext.refl _ | exact Ext.same _ _ _ _ | assumption | apply Ext.alloc | apply Ext.ext | apply Ext.drew) | (with_reducible refine Ext.setCell ?_ _ _ ?_; rotate_left; focus (first | omega | (simp only [zs1, zs2, zs3, size_ext]; omega)))))⟩
          | true =>
            have HE := hid (HOK.out hro)
            have Hlo : Hid (lo = ordL L) := hid (hlo.out (by simp only [regOk, Bool.and_eq_true, decide_eq_true_eq] at hro; exact hro.2))
            clear HBAD HOK hro hlo
            go_wp2_with fail
            refine (cut_any _ _ _ _ D.f0.bytes N hl0 (by omega) hc0 (by omega) _ (by with_reducible repeat (first | assumption | apply Byt.ext | apply Byt.alloc | apply Byt.drew | (refine Byt.of_ext ?_ (by assumption))))).mono ?_
            rintro e w1 ⟨Af, cf, rfl, hbf, E6, d6, rfl⟩
            have Hbf := hid hbf
            clear hbf hrr
            have hle1 : w.heap.size + 1 + 1 + 1 ≤ w.heap.size + 1 + 1 + 1 + E1.size + E2.size + E3.size + E4.size + E5.size := by omega
            have hle2 : w.heap.size + 1 + 1 + 1 ≤ w.heap.size + 1 + 1 + 1 + E1.size + E2.size + E3.size + E4.size + E5.size + 1 := by omega
            have hlt1 : w.heap.size + 1 + 1 + 1 + E1.size + E2.size + E3.size + E4.size + E5.size < w.heap.size + 1 + 1 + 1 + E1.size + E2.size + E3.size + E4.size + E5.size + 1 + 1 + E6.size := by omega
            have hlt2 : w.heap.size + 1 + 1 + 1 + E1.size + E2.size + E3.size + E4.size + E5.size + 1 < w.heap.size + 1 + 1 + 1 + E1.size + E2.size + E3.size + E4.size + E5.size + 1 + 1 + E6.size := by omega
            go_wp2_with fail
            refine wp_region_ord_from (w.heap.size + 1 + 1 + 1) (.f 0 (.f 1 (.f 2 (.f 3 (.f 4 (.a 5 (.a 6 (.f 7 .d)))))))) (by kernel_rfl) (by kernel_rfl) ?_
            repeat ((first | refine wpOrd_pass rfl rfl ?_ | (refine wpOrd_free (v := ?_) rfl rfl (fun _ hS => ?_) ?_; rotate_left; focus (go_simp; try with_reducible rfl))); simp only [Act.put, zp1, zp2, zp3, zp4, zp5, zp6])
            refine wpOrd_act rfl rfl (fun K hK => ?_)
            go_simp
            refine hK _ _ ⟨?_, ?_⟩
            · exact SameL.out (by repeat (first | (with_reducible refine SameE.same ?_; (repeat (first | with_reducible exact SameE.refl _ _ | (with_reducible refine SameE.base ?_ ?_ _ _; (focus ((try simp only [World.size_alloc, size_ext, World.size_drew]); (try omega))); (focus ((try simp only [World.size_alloc, size_ext, World.size_drew]); omega))) | with_reducible apply SameE.alloc | with_reducible apply SameE.ext | with_reducible apply SameE.drewL | with_reducible apply SameE.drewR)); done) | with_reducible apply SameL.extL | with_reducible apply SameL.allocL | with_reducible apply SameL.drewL))
            clear hK K
            try simp only [Act.put, zp1, zp2, zp3, zp4, zp5, zp6]
            refine wpOrd_act rfl rfl (fun K hK => ?_)
            go_simp
            refine hK _ _ ⟨?_, ?_⟩
            · exact SameL.out (by repeat (first | (with_reducible refine SameE.same ?_; (repeat (first | with_reducible exact SameE.refl _ _ | (with_reducible refine SameE.base ?_ ?_ _ _; (focus ((try simp only [World.size_alloc, size_ext, World.size_drew]); (try omega))); (focus ((try simp only [World.size_alloc, size_ext, World.size_drew]); omega))) | with_reducible apply SameE.alloc | with_reducible apply SameE.ext | with_reducible apply SameE.drewL | with_reducible apply SameE.drewR)); done) | with_reducible apply SameL.extL | with_reducible apply SameL.allocL | with_reducible apply SameL.drewL))
            clear hK K
            try simp only [Act.put, zp1, zp2, zp3, zp4, zp5, zp6]
            repeat ((first | refine wpOrd_pass rfl rfl ?_ | (refine wpOrd_free (v := ?_) rfl rfl (fun _ hS => ?_) ?_; rotate_left; focus (go_simp; try with_reducible rfl))); simp only [Act.put, zp1, zp2, zp3, zp4, zp5, zp6])
            refine wpOrd_nil ?_
            all_goals
              go_wp2_with fail
            all_goals
              refine bodyPost_ret (v := .tuple #[drvV Af N cf N none 0 0 0, memV Ao no co 0 a, .int .i64 0]) (by simp [results, Tryz.results16, go_sem]) rfl ?_
              obtain ⟨e1, e2, e3⟩ := HE.out
              rw [e1, e2, e3]
              refine ⟨Af, N, cf, none, 0, 0, Ao, no, co, rfl, ⟨by simp [hl0]; omega, rfl, ?_, OwnB.none _ _⟩, ⟨by rw [← Hlo.out]; exact Hno.out, ?_⟩, (by repeat (first | (with_reducible first | exact Ext.refl _ | exact Ext.same _ _ _ _ | assumption | apply Ext.alloc | apply Ext.ext | apply Ext.drew) | (with_reducible refine Ext.setCell ?_ _ _ ?_; rotate_left; focus (first | omega | (simp only [zs1, zs2, zs3, size_ext]; omega)))))⟩
              · exact OwnB.moved2 Hbf.out (by repeat (first | (with_reducible first | exact Ext.refl _ | exact Ext.same _ _ _ _ | assumption | apply Ext.alloc | apply Ext.ext | apply Ext.drew) | (with_reducible refine Ext.setCell ?_ _ _ ?_; rotate_left; focus (first | omega | (simp only [zs1, zs2, zs3, size_ext]; omega))))) (by simp [World.size_alloc]) (by simp [World.size_alloc]) (by simp [World.size_alloc]; try omega)
              · rw [← Hlo.out]
                exact OwnR.moved2 Hoo.out (by repeat (first | (with_reducible first | exact Ext.refl _ | exact Ext.same _ _ _ _ | assumption | apply Ext.alloc | apply Ext.ext | apply Ext.drew) | (with_reducible refine Ext.setCell ?_ _ _ ?_; rotate_left; focus (first | omega | (simp only [zs1, zs2, zs3, size_ext]; omega))))) (by simp [World.size_alloc]) (by simp [World.size_alloc]) (by simp [World.size_alloc]; try omega)
end Go.Proofs.YtekjdeibnfaehaaGreat
