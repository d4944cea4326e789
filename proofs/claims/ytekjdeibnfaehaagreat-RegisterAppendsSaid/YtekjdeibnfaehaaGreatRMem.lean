/- The reference's isMemory. -/
import Derived.Test.YtekjdeibnfaehaaGreatROpen
import Derived.Test.YtekjdeibnfaehaaGreatSameM
set_option linter.unusedSimpArgs false
set_option linter.unusedVariables false
namespace Go.Proofs.YtekjdeibnfaehaaGreat
open Go Go.RowKit

theorem rmem_eq0 (L0 L1 : List UInt8) (f0 f1 : Int) (l : List Rec) (gen : Int) : memOk ⟨⟨L0, f0⟩, ⟨L1, f1⟩⟩ ⟨l, 0, gen⟩ = (driveOk ⟨⟨L0, f0⟩, ⟨L1, f1⟩⟩ && (decide (L1 = []) && (pageOk L0 && (decide (genB L0 = gen) && (decide (longB L0 = L0.length) && (regOk (recsB L0) && recsEqB (ordL (recsB L0)) l)))))) := by
  simp [memOk, inB, fileAt]
set_option maxRecDepth 100000 in
set_option maxHeartbeats 16000000 in
theorem rmem_any0 (A0 : Option Addr) (n0 c0 : Nat) (A1 : Option Addr) (n1 c1 : Nat) (L0 L1 : List UInt8) (f0 f1 : Int) (Am : Option Addr) (nm cm : Nat) (l : List Rec) (gen : Int) (hm : l.length = nm) (hmb : nm ≤ 9223372036854775807) (ht : TxtBig l) (w : World)
    (hD : DrvY w ⟨⟨L0, f0⟩, ⟨L1, f1⟩⟩ A0 n0 c0 A1 n1 c1) (hr : Recs w Am l) :
    Calls Tryz.prog 75 #[drvV A0 n0 c0 f0 A1 n1 c1 f1, memV Am nm cm 0 gen] w fun e w' => e = .returned (.bool (memOk ⟨⟨L0, f0⟩, ⟨L1, f1⟩⟩ ⟨l, 0, gen⟩)) ∧ Ext w w' := by
  obtain ⟨hl0, hl1, hc0, hc1, hbig0, hbig1, hb0, hb1⟩ := hD
  simp only [] at hl0 hl1 hb0 hb1
  have hdo := driveOk_eq ⟨⟨L0, f0⟩, ⟨L1, f1⟩⟩ n0 n1 hl0 hl1
  simp only [] at hdo
  have heq := rmem_eq0 L0 L1 f0 f1 l gen
  cases hk : dOk n0 f0 n1 f1 with
  | false =>
    have HM := hid (show memOk ⟨⟨L0, f0⟩, ⟨L1, f1⟩⟩ ⟨l, 0, gen⟩ = false by rw [heq, hdo, hk]; rfl)
    clear heq hdo
    go_enter Tryz.func75, Tryz.ntmps75
    go_wp2_with (go_at_call 59; refine (risDrive_any _ _ _ _ _ _ _ _ _).mono ?_; rintro e w1 ⟨rfl, E1, d1, rfl⟩)
    go_ret
    exact ⟨ret_val (by rw [HM.out]; rfl), (by repeat (first | (with_reducible first | exact Ext.refl _ | exact Ext.same _ _ _ _ | assumption | apply Ext.alloc | apply Ext.ext | apply Ext.drew) | (with_reducible refine Ext.setCell ?_ _ _ ?_; rotate_left; focus (first | omega | (simp only [zs1, zs2, zs3, size_ext]; omega)))))⟩
  | true =>
    rw [hdo, hk, Bool.true_and] at heq
    obtain ⟨hs0, hs1⟩ : n0 ≤ 100000 ∧ n1 ≤ 100000 := by
      simp only [dOk, fOk, Bool.and_eq_true, decide_eq_true_eq] at hk
      exact ⟨hk.1.2, hk.2.2⟩
    have hin : inB 0 0 1 = true := by decide
    cases hc : checkB l with
    | false =>
      have he := errReg_bad hc
      have HM := hid (show memOk ⟨⟨L0, f0⟩, ⟨L1, f1⟩⟩ ⟨l, 0, gen⟩ = false by
        cases h : memOk ⟨⟨L0, f0⟩, ⟨L1, f1⟩⟩ ⟨l, 0, gen⟩ with
        | false => rfl
        | true => have := (memOk_facts h).2.2.2.1; rw [hc] at this; cases this)
      clear heq hdo hc
      go_enter Tryz.func75, Tryz.ntmps75
      go_wp2_with (first | (go_at_call 59; refine (risDrive_any _ _ _ _ _ _ _ _ _).mono ?_; rintro e w1 ⟨rfl, E1, d1, rfl⟩) | (go_at_call 92; refine (rin_any _ _ _ _).mono ?_; rintro e w1 ⟨rfl, rfl⟩) | (go_at_call 84; refine (rCheck_any _ _ _ _ (by first | rfl | assumption) (by omega) (by assumption) _ (by with_reducible repeat (first | assumption | apply Recs.ext | apply Recs.alloc | apply Recs.drew | (refine Recs.of_ext ?_ (by assumption))))).mono ?_; rintro e w1 ⟨rfl, E1, d1, rfl⟩))
      go_ret
      exact ⟨ret_val (by rw [HM.out]; rfl), (by repeat (first | (with_reducible first | exact Ext.refl _ | exact Ext.same _ _ _ _ | assumption | apply Ext.alloc | apply Ext.ext | apply Ext.drew) | (with_reducible refine Ext.setCell ?_ _ _ ?_; rotate_left; focus (first | omega | (simp only [zs1, zs2, zs3, size_ext]; omega)))))⟩
    | true =>
      have he := errReg_ok hc
      have h80 := (checkB_iff.1 hc).1
      by_cases hz : n1 = 0
      · have hnil : L1 = [] := List.eq_nil_of_length_eq_zero (by omega)
        rw [decide_eq_true hnil, Bool.true_and] at heq
        have HQ := hid heq
        have hrl := rdR_len L0
        have Hrl := hid hrl
        clear heq hdo hc hnil hrl
        subst hz
        go_enter Tryz.func75, Tryz.ntmps75
        go_wp2_with (first | (go_at_call 59; refine (risDrive_any _ _ _ _ _ _ _ _ _).mono ?_; rintro e w1 ⟨rfl, E1, d1, rfl⟩) | (go_at_call 92; refine (rin_any _ _ _ _).mono ?_; rintro e w1 ⟨rfl, rfl⟩) | (go_at_call 84; refine (rCheck_any _ _ _ _ (by first | rfl | assumption) (by omega) (by assumption) _ (by with_reducible repeat (first | assumption | apply Recs.ext | apply Recs.alloc | apply Recs.drew | (refine Recs.of_ext ?_ (by assumption))))).mono ?_; rintro e w1 ⟨rfl, E1, d1, rfl⟩))
        refine (read_any _ _ _ L0 hl0 hc0 hbig0 hs0 _ (by with_reducible repeat (first | assumption | apply Byt.ext | apply Byt.alloc | apply Byt.drew | (refine Byt.of_ext ?_ (by assumption))))).mono ?_
        rintro e w1 ⟨Ar, nr, cr, rfl, hnr, hor, E2, d2, rfl⟩
        have hrr := OwnR.of_slice hor
        have Hnr := hid hnr.out
        clear hor hnr
        go_wp2_with fail
        refine (ordered_any _ _ _ (rdR L0) Hnr.out.symm (by have := Hnr.out; have := Hrl.out; omega) _ (by with_reducible repeat (first | assumption | apply Recs.ext | apply Recs.alloc | apply Recs.drew | (refine Recs.of_ext ?_ (by assumption))))).mono ?_
        rintro e w1 ⟨Ao, no, co, lo, rfl, hno, hoo, hap, E3, d3, rfl⟩
        have hro := OwnR.of_slice hoo
        have Hno := hid hno.out
        clear hoo hno
        obtain ⟨ok, hok⟩ : ∃ ok, (decide (Apart (rdR L0)) && decide (nr ≤ 80)) = ok := ⟨_, rfl⟩
        rw [hok]
        have Hok := hid hok
        obtain ⟨rn, hrn⟩ : ∃ rn, rdN L0 = rn := ⟨_, rfl⟩
        obtain ⟨rg, hrg⟩ : ∃ rg, rdG L0 = rg := ⟨_, rfl⟩
        rw [hrn, hrg]
        have Hrn := hid hrn
        have Hrg := hid hrg
        clear hok hrn hrg
        cases hp : pageOk L0 with
        | false =>
          obtain ⟨g1, g2, g3⟩ := rd_no hp
          obtain rfl : rg = 0 := by rw [← Hrg.out, g1]
          have HM := hid (show memOk ⟨⟨L0, f0⟩, ⟨L1, f1⟩⟩ ⟨l, 0, gen⟩ = false by rw [HQ.out, hp]; rfl)
          clear g1 g2 g3 hp
          cases ok
          all_goals
            go_wp2_with fail
            refine bodyPost_ret (v := .bool false) (by simp [results, Tryz.results75, go_sem]) rfl ?_
            exact ⟨by rw [HM.out], (by repeat (first | (with_reducible first | exact Ext.refl _ | exact Ext.same _ _ _ _ | assumption | apply Ext.alloc | apply Ext.ext | apply Ext.drew) | (with_reducible refine Ext.setCell ?_ _ _ ?_; rotate_left; focus (first | omega | (simp only [zs1, zs2, zs3, size_ext]; omega)))))⟩
        | true =>
          obtain ⟨g1, g2, g3⟩ := rd_yes hp
          rw [g2] at Hok Hnr hap
          have hgp : 1 ≤ rg := by
            rw [← Hrg.out]
            rcases rdG_pos (l := L0) with ⟨_, h⟩ | ⟨h, _⟩
            · rw [hp] at h; cases h
            · exact h
          have hreg : ok = regOk (recsB L0) := by
            rw [← Hok.out, regOk_apart (by rw [← g2]; exact rdR_ok L0) Hnr.out]
          rw [hp, Bool.true_and, ← hreg, show genB L0 = rg from by rw [← Hrg.out, g1], show longB L0 = rn from by rw [← Hrn.out, g3], hl0] at HQ
          clear g1 g2 g3 hp
          cases ok with
          | false =>
            have HM := hid (show memOk ⟨⟨L0, f0⟩, ⟨L1, f1⟩⟩ ⟨l, 0, gen⟩ = false by rw [HQ.out]; simp)
            clear HQ hreg hap Hok
            go_wp2_with fail
            go_ret
            exact ⟨ret_val (by rw [HM.out]; rfl), (by repeat (first | (with_reducible first | exact Ext.refl _ | exact Ext.same _ _ _ _ | assumption | apply Ext.alloc | apply Ext.ext | apply Ext.drew) | (with_reducible refine Ext.setCell ?_ _ _ ?_; rotate_left; focus (first | omega | (simp only [zs1, zs2, zs3, size_ext]; omega)))))⟩
          | true =>
            have hlo : lo = ordL (recsB L0) := hap.out (by
              have := Hok.out
              simp only [Bool.and_eq_true, decide_eq_true_eq] at this
              exact this.1)
            have hlen := hid (show no ≤ 200000 by
              have q := Hok.out
              simp only [Bool.and_eq_true, decide_eq_true_eq] at q
              rw [Hno.out, hlo, (ordL_perm _).length_eq, ← Hnr.out]
              omega)
            rw [← hlo] at HQ
            have HQ2 := hid HQ.out
            clear HQ hlo hreg hap
            cases k1 : (rg == gen) with
            | false =>
              have HM := hid (show memOk ⟨⟨L0, f0⟩, ⟨L1, f1⟩⟩ ⟨l, 0, gen⟩ = false by
                rw [HQ2.out]
                have : ¬ rg = gen := by simpa using k1
                simp [this])
              clear HQ2
              go_wp2_with fail
              go_ret
              exact ⟨ret_val (by rw [HM.out]; rfl), (by repeat (first | (with_reducible first | exact Ext.refl _ | exact Ext.same _ _ _ _ | assumption | apply Ext.alloc | apply Ext.ext | apply Ext.drew) | (with_reducible refine Ext.setCell ?_ _ _ ?_; rotate_left; focus (first | omega | (simp only [zs1, zs2, zs3, size_ext]; omega)))))⟩
            | true =>
              cases k2 : ((rn : Int) == (n0 : Int)) with
              | false =>
                have HM := hid (show memOk ⟨⟨L0, f0⟩, ⟨L1, f1⟩⟩ ⟨l, 0, gen⟩ = false by
                  rw [HQ2.out]
                  have h9 : ¬ (rn : Int) = n0 := by simpa using k2
                  have : ¬ rn = n0 := fun h => h9 (by rw [h])
                  simp [this])
                clear HQ2
                go_wp2_with fail
                go_ret
                exact ⟨ret_val (by rw [HM.out]; rfl), (by repeat (first | (with_reducible first | exact Ext.refl _ | exact Ext.same _ _ _ _ | assumption | apply Ext.alloc | apply Ext.ext | apply Ext.drew) | (with_reducible refine Ext.setCell ?_ _ _ ?_; rotate_left; focus (first | omega | (simp only [zs1, zs2, zs3, size_ext]; omega)))))⟩
              | true =>
                have HM := hid (show memOk ⟨⟨L0, f0⟩, ⟨L1, f1⟩⟩ ⟨l, 0, gen⟩ = recsEqB lo l by
                  rw [HQ2.out]
                  have h9 : (rn : Int) = n0 := by simpa using k2
                  have h1 : rn = n0 := by omega
                  simp [eq_of_beq k1, h1])
                clear HQ2
                go_wp2_with (go_at_call 53; refine (Same_any _ _ _ _ _ _ lo l Hno.out.symm hm (by have := hlen.out; omega) _ (by with_reducible repeat (first | assumption | apply Recs.ext | apply Recs.alloc | apply Recs.drew | (refine Recs.of_ext ?_ (by assumption)))) (by with_reducible repeat (first | assumption | apply Recs.ext | apply Recs.alloc | apply Recs.drew | (refine Recs.of_ext ?_ (by assumption))))).mono ?_; rintro e w1 ⟨rfl, E5, d5, rfl⟩)
                go_ret
                exact ⟨ret_val (by rw [HM.out]; rfl), (by repeat (first | (with_reducible first | exact Ext.refl _ | exact Ext.same _ _ _ _ | assumption | apply Ext.alloc | apply Ext.ext | apply Ext.drew) | (with_reducible refine Ext.setCell ?_ _ _ ?_; rotate_left; focus (first | omega | (simp only [zs1, zs2, zs3, size_ext]; omega)))))⟩
      · have hnil : ¬ L1 = [] := fun h => hz (by rw [← hl1, h]; rfl)
        rw [decide_eq_false hnil, Bool.false_and] at heq
        have HM := hid heq
        clear heq hdo hc hnil
        go_enter Tryz.func75, Tryz.ntmps75
        go_wp2_with (first | (go_at_call 59; refine (risDrive_any _ _ _ _ _ _ _ _ _).mono ?_; rintro e w1 ⟨rfl, E1, d1, rfl⟩) | (go_at_call 92; refine (rin_any _ _ _ _).mono ?_; rintro e w1 ⟨rfl, rfl⟩) | (go_at_call 84; refine (rCheck_any _ _ _ _ (by first | rfl | assumption) (by omega) (by assumption) _ (by with_reducible repeat (first | assumption | apply Recs.ext | apply Recs.alloc | apply Recs.drew | (refine Recs.of_ext ?_ (by assumption))))).mono ?_; rintro e w1 ⟨rfl, E1, d1, rfl⟩))
        go_ret
        exact ⟨ret_val (by rw [HM.out]; rfl), (by repeat (first | (with_reducible first | exact Ext.refl _ | exact Ext.same _ _ _ _ | assumption | apply Ext.alloc | apply Ext.ext | apply Ext.drew) | (with_reducible refine Ext.setCell ?_ _ _ ?_; rotate_left; focus (first | omega | (simp only [zs1, zs2, zs3, size_ext]; omega)))))⟩
theorem rmem_eq1 (L0 L1 : List UInt8) (f0 f1 : Int) (l : List Rec) (gen : Int) : memOk ⟨⟨L0, f0⟩, ⟨L1, f1⟩⟩ ⟨l, 1, gen⟩ = (driveOk ⟨⟨L0, f0⟩, ⟨L1, f1⟩⟩ && (decide (L0 = []) && (pageOk L1 && (decide (genB L1 = gen) && (decide (longB L1 = L1.length) && (regOk (recsB L1) && recsEqB (ordL (recsB L1)) l)))))) := by
  simp [memOk, inB, fileAt]
set_option maxRecDepth 100000 in
set_option maxHeartbeats 16000000 in
theorem rmem_any1 (A0 : Option Addr) (n0 c0 : Nat) (A1 : Option Addr) (n1 c1 : Nat) (L0 L1 : List UInt8) (f0 f1 : Int) (Am : Option Addr) (nm cm : Nat) (l : List Rec) (gen : Int) (hm : l.length = nm) (hmb : nm ≤ 9223372036854775807) (ht : TxtBig l) (w : World)
    (hD : DrvY w ⟨⟨L0, f0⟩, ⟨L1, f1⟩⟩ A0 n0 c0 A1 n1 c1) (hr : Recs w Am l) :
    Calls Tryz.prog 75 #[drvV A0 n0 c0 f0 A1 n1 c1 f1, memV Am nm cm 1 gen] w fun e w' => e = .returned (.bool (memOk ⟨⟨L0, f0⟩, ⟨L1, f1⟩⟩ ⟨l, 1, gen⟩)) ∧ Ext w w' := by
  obtain ⟨hl0, hl1, hc0, hc1, hbig0, hbig1, hb0, hb1⟩ := hD
  simp only [] at hl0 hl1 hb0 hb1
  have hdo := driveOk_eq ⟨⟨L0, f0⟩, ⟨L1, f1⟩⟩ n0 n1 hl0 hl1
  simp only [] at hdo
  have heq := rmem_eq1 L0 L1 f0 f1 l gen
  cases hk : dOk n0 f0 n1 f1 with
  | false =>
    have HM := hid (show memOk ⟨⟨L0, f0⟩, ⟨L1, f1⟩⟩ ⟨l, 1, gen⟩ = false by rw [heq, hdo, hk]; rfl)
    clear heq hdo
    go_enter Tryz.func75, Tryz.ntmps75
    go_wp2_with (go_at_call 59; refine (risDrive_any _ _ _ _ _ _ _ _ _).mono ?_; rintro e w1 ⟨rfl, E1, d1, rfl⟩)
    go_ret
    exact ⟨ret_val (by rw [HM.out]; rfl), (by repeat (first | (with_reducible first | exact Ext.refl _ | exact Ext.same _ _ _ _ | assumption | apply Ext.alloc | apply Ext.ext | apply Ext.drew) | (with_reducible refine Ext.setCell ?_ _ _ ?_; rotate_left; focus (first | omega | (simp only [zs1, zs2, zs3, size_ext]; omega)))))⟩
  | true =>
    rw [hdo, hk, Bool.true_and] at heq
    obtain ⟨hs0, hs1⟩ : n0 ≤ 100000 ∧ n1 ≤ 100000 := by
      simp only [dOk, fOk, Bool.and_eq_true, decide_eq_true_eq] at hk
      exact ⟨hk.1.2, hk.2.2⟩
    have hin : inB 1 0 1 = true := by decide
    cases hc : checkB l with
    | false =>
      have he := errReg_bad hc
      have HM := hid (show memOk ⟨⟨L0, f0⟩, ⟨L1, f1⟩⟩ ⟨l, 1, gen⟩ = false by
        cases h : memOk ⟨⟨L0, f0⟩, ⟨L1, f1⟩⟩ ⟨l, 1, gen⟩ with
        | false => rfl
        | true => have := (memOk_facts h).2.2.2.1; rw [hc] at this; cases this)
      clear heq hdo hc
      go_enter Tryz.func75, Tryz.ntmps75
      go_wp2_with (first | (go_at_call 59; refine (risDrive_any _ _ _ _ _ _ _ _ _).mono ?_; rintro e w1 ⟨rfl, E1, d1, rfl⟩) | (go_at_call 92; refine (rin_any _ _ _ _).mono ?_; rintro e w1 ⟨rfl, rfl⟩) | (go_at_call 84; refine (rCheck_any _ _ _ _ (by first | rfl | assumption) (by omega) (by assumption) _ (by with_reducible repeat (first | assumption | apply Recs.ext | apply Recs.alloc | apply Recs.drew | (refine Recs.of_ext ?_ (by assumption))))).mono ?_; rintro e w1 ⟨rfl, E1, d1, rfl⟩))
      go_ret
      exact ⟨ret_val (by rw [HM.out]; rfl), (by repeat (first | (with_reducible first | exact Ext.refl _ | exact Ext.same _ _ _ _ | assumption | apply Ext.alloc | apply Ext.ext | apply Ext.drew) | (with_reducible refine Ext.setCell ?_ _ _ ?_; rotate_left; focus (first | omega | (simp only [zs1, zs2, zs3, size_ext]; omega)))))⟩
    | true =>
      have he := errReg_ok hc
      have h80 := (checkB_iff.1 hc).1
      by_cases hz : n0 = 0
      · have hnil : L0 = [] := List.eq_nil_of_length_eq_zero (by omega)
        rw [decide_eq_true hnil, Bool.true_and] at heq
        have HQ := hid heq
        have hrl := rdR_len L1
        have Hrl := hid hrl
        clear heq hdo hc hnil hrl
        subst hz
        go_enter Tryz.func75, Tryz.ntmps75
        go_wp2_with (first | (go_at_call 59; refine (risDrive_any _ _ _ _ _ _ _ _ _).mono ?_; rintro e w1 ⟨rfl, E1, d1, rfl⟩) | (go_at_call 92; refine (rin_any _ _ _ _).mono ?_; rintro e w1 ⟨rfl, rfl⟩) | (go_at_call 84; refine (rCheck_any _ _ _ _ (by first | rfl | assumption) (by omega) (by assumption) _ (by with_reducible repeat (first | assumption | apply Recs.ext | apply Recs.alloc | apply Recs.drew | (refine Recs.of_ext ?_ (by assumption))))).mono ?_; rintro e w1 ⟨rfl, E1, d1, rfl⟩))
        refine (read_any _ _ _ L1 hl1 hc1 hbig1 hs1 _ (by with_reducible repeat (first | assumption | apply Byt.ext | apply Byt.alloc | apply Byt.drew | (refine Byt.of_ext ?_ (by assumption))))).mono ?_
        rintro e w1 ⟨Ar, nr, cr, rfl, hnr, hor, E2, d2, rfl⟩
        have hrr := OwnR.of_slice hor
        have Hnr := hid hnr.out
        clear hor hnr
        go_wp2_with fail
        refine (ordered_any _ _ _ (rdR L1) Hnr.out.symm (by have := Hnr.out; have := Hrl.out; omega) _ (by with_reducible repeat (first | assumption | apply Recs.ext | apply Recs.alloc | apply Recs.drew | (refine Recs.of_ext ?_ (by assumption))))).mono ?_
        rintro e w1 ⟨Ao, no, co, lo, rfl, hno, hoo, hap, E3, d3, rfl⟩
        have hro := OwnR.of_slice hoo
        have Hno := hid hno.out
        clear hoo hno
        obtain ⟨ok, hok⟩ : ∃ ok, (decide (Apart (rdR L1)) && decide (nr ≤ 80)) = ok := ⟨_, rfl⟩
        rw [hok]
        have Hok := hid hok
        obtain ⟨rn, hrn⟩ : ∃ rn, rdN L1 = rn := ⟨_, rfl⟩
        obtain ⟨rg, hrg⟩ : ∃ rg, rdG L1 = rg := ⟨_, rfl⟩
        rw [hrn, hrg]
        have Hrn := hid hrn
        have Hrg := hid hrg
        clear hok hrn hrg
        cases hp : pageOk L1 with
        | false =>
          obtain ⟨g1, g2, g3⟩ := rd_no hp
          obtain rfl : rg = 0 := by rw [← Hrg.out, g1]
          have HM := hid (show memOk ⟨⟨L0, f0⟩, ⟨L1, f1⟩⟩ ⟨l, 1, gen⟩ = false by rw [HQ.out, hp]; rfl)
          clear g1 g2 g3 hp
          cases ok
          all_goals
            go_wp2_with fail
            refine bodyPost_ret (v := .bool false) (by simp [results, Tryz.results75, go_sem]) rfl ?_
            exact ⟨by rw [HM.out], (by repeat (first | (with_reducible first | exact Ext.refl _ | exact Ext.same _ _ _ _ | assumption | apply Ext.alloc | apply Ext.ext | apply Ext.drew) | (with_reducible refine Ext.setCell ?_ _ _ ?_; rotate_left; focus (first | omega | (simp only [zs1, zs2, zs3, size_ext]; omega)))))⟩
        | true =>
          obtain ⟨g1, g2, g3⟩ := rd_yes hp
          rw [g2] at Hok Hnr hap
          have hgp : 1 ≤ rg := by
            rw [← Hrg.out]
            rcases rdG_pos (l := L1) with ⟨_, h⟩ | ⟨h, _⟩
            · rw [hp] at h; cases h
            · exact h
          have hreg : ok = regOk (recsB L1) := by
            rw [← Hok.out, regOk_apart (by rw [← g2]; exact rdR_ok L1) Hnr.out]
          rw [hp, Bool.true_and, ← hreg, show genB L1 = rg from by rw [← Hrg.out, g1], show longB L1 = rn from by rw [← Hrn.out, g3], hl1] at HQ
          clear g1 g2 g3 hp
          cases ok with
          | false =>
            have HM := hid (show memOk ⟨⟨L0, f0⟩, ⟨L1, f1⟩⟩ ⟨l, 1, gen⟩ = false by rw [HQ.out]; simp)
            clear HQ hreg hap Hok
            go_wp2_with fail
            go_ret
            exact ⟨ret_val (by rw [HM.out]; rfl), (by repeat (first | (with_reducible first | exact Ext.refl _ | exact Ext.same _ _ _ _ | assumption | apply Ext.alloc | apply Ext.ext | apply Ext.drew) | (with_reducible refine Ext.setCell ?_ _ _ ?_; rotate_left; focus (first | omega | (simp only [zs1, zs2, zs3, size_ext]; omega)))))⟩
          | true =>
            have hlo : lo = ordL (recsB L1) := hap.out (by
              have := Hok.out
              simp only [Bool.and_eq_true, decide_eq_true_eq] at this
              exact this.1)
            have hlen := hid (show no ≤ 200000 by
              have q := Hok.out
              simp only [Bool.and_eq_true, decide_eq_true_eq] at q
              rw [Hno.out, hlo, (ordL_perm _).length_eq, ← Hnr.out]
              omega)
            rw [← hlo] at HQ
            have HQ2 := hid HQ.out
            clear HQ hlo hreg hap
            cases k1 : (rg == gen) with
            | false =>
              have HM := hid (show memOk ⟨⟨L0, f0⟩, ⟨L1, f1⟩⟩ ⟨l, 1, gen⟩ = false by
                rw [HQ2.out]
                have : ¬ rg = gen := by simpa using k1
                simp [this])
              clear HQ2
              go_wp2_with fail
              go_ret
              exact ⟨ret_val (by rw [HM.out]; rfl), (by repeat (first | (with_reducible first | exact Ext.refl _ | exact Ext.same _ _ _ _ | assumption | apply Ext.alloc | apply Ext.ext | apply Ext.drew) | (with_reducible refine Ext.setCell ?_ _ _ ?_; rotate_left; focus (first | omega | (simp only [zs1, zs2, zs3, size_ext]; omega)))))⟩
            | true =>
              cases k2 : ((rn : Int) == (n1 : Int)) with
              | false =>
                have HM := hid (show memOk ⟨⟨L0, f0⟩, ⟨L1, f1⟩⟩ ⟨l, 1, gen⟩ = false by
                  rw [HQ2.out]
                  have h9 : ¬ (rn : Int) = n1 := by simpa using k2
                  have : ¬ rn = n1 := fun h => h9 (by rw [h])
                  simp [this])
                clear HQ2
                go_wp2_with fail
                go_ret
                exact ⟨ret_val (by rw [HM.out]; rfl), (by repeat (first | (with_reducible first | exact Ext.refl _ | exact Ext.same _ _ _ _ | assumption | apply Ext.alloc | apply Ext.ext | apply Ext.drew) | (with_reducible refine Ext.setCell ?_ _ _ ?_; rotate_left; focus (first | omega | (simp only [zs1, zs2, zs3, size_ext]; omega)))))⟩
              | true =>
                have HM := hid (show memOk ⟨⟨L0, f0⟩, ⟨L1, f1⟩⟩ ⟨l, 1, gen⟩ = recsEqB lo l by
                  rw [HQ2.out]
                  have h9 : (rn : Int) = n1 := by simpa using k2
                  have h1 : rn = n1 := by omega
                  simp [eq_of_beq k1, h1])
                clear HQ2
                go_wp2_with (go_at_call 53; refine (Same_any _ _ _ _ _ _ lo l Hno.out.symm hm (by have := hlen.out; omega) _ (by with_reducible repeat (first | assumption | apply Recs.ext | apply Recs.alloc | apply Recs.drew | (refine Recs.of_ext ?_ (by assumption)))) (by with_reducible repeat (first | assumption | apply Recs.ext | apply Recs.alloc | apply Recs.drew | (refine Recs.of_ext ?_ (by assumption))))).mono ?_; rintro e w1 ⟨rfl, E5, d5, rfl⟩)
                go_ret
                exact ⟨ret_val (by rw [HM.out]; rfl), (by repeat (first | (with_reducible first | exact Ext.refl _ | exact Ext.same _ _ _ _ | assumption | apply Ext.alloc | apply Ext.ext | apply Ext.drew) | (with_reducible refine Ext.setCell ?_ _ _ ?_; rotate_left; focus (first | omega | (simp only [zs1, zs2, zs3, size_ext]; omega)))))⟩
      · have hnil : ¬ L0 = [] := fun h => hz (by rw [← hl0, h]; rfl)
        rw [decide_eq_false hnil, Bool.false_and] at heq
        have HM := hid heq
        clear heq hdo hc hnil
        go_enter Tryz.func75, Tryz.ntmps75
        go_wp2_with (first | (go_at_call 59; refine (risDrive_any _ _ _ _ _ _ _ _ _).mono ?_; rintro e w1 ⟨rfl, E1, d1, rfl⟩) | (go_at_call 92; refine (rin_any _ _ _ _).mono ?_; rintro e w1 ⟨rfl, rfl⟩) | (go_at_call 84; refine (rCheck_any _ _ _ _ (by first | rfl | assumption) (by omega) (by assumption) _ (by with_reducible repeat (first | assumption | apply Recs.ext | apply Recs.alloc | apply Recs.drew | (refine Recs.of_ext ?_ (by assumption))))).mono ?_; rintro e w1 ⟨rfl, E1, d1, rfl⟩))
        go_ret
        exact ⟨ret_val (by rw [HM.out]; rfl), (by repeat (first | (with_reducible first | exact Ext.refl _ | exact Ext.same _ _ _ _ | assumption | apply Ext.alloc | apply Ext.ext | apply Ext.drew) | (with_reducible refine Ext.setCell ?_ _ _ ?_; rotate_left; focus (first | omega | (simp only [zs1, zs2, zs3, size_ext]; omega)))))⟩
end Go.Proofs.YtekjdeibnfaehaaGreat
