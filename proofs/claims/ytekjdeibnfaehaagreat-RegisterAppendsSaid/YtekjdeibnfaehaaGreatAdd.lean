/- Add, both. -/
import Derived.Test.YtekjdeibnfaehaaGreatPut
set_option linter.unusedSimpArgs false
set_option linter.unusedVariables false
namespace Go.Proofs.YtekjdeibnfaehaaGreat
open Go.RowKit

@[go_sem] theorem lt_add_6 (a b c d e f g h : Nat) (hh : a < b) : a < b + c + d + e + f + g + h := by omega
@[go_sem] theorem lt_add_7 (a b c d e f g h i : Nat) (hh : a < b) : a < b + c + d + e + f + g + h + i := by omega
@[go_sem] theorem lt_add_8 (a b c d e f g h i j : Nat) (hh : a < b) : a < b + c + d + e + f + g + h + i + j := by omega
@[go_sem] theorem lt_add_9 (a b c d e f g h i j k : Nat) (hh : a < b) : a < b + c + d + e + f + g + h + i + j + k := by omega
theorem addE_bad {l : List Rec} {r : Rec} (h : checkB l = false) : addE l r = 71 := by simp [addE, h]
theorem addL_bad {l : List Rec} {r : Rec} (h : checkB l = false) : addL l r = [] := by simp [addL, h]
theorem addE_rec {l : List Rec} {r : Rec} (h : checkB l = true) (h2 : recOk r = false) : addE l r = 70 := by simp [addE, h, h2]
theorem addL_rec {l : List Rec} {r : Rec} (h : checkB l = true) (h2 : recOk r = false) : addL l r = [] := by simp [addL, h, h2]
theorem addE_ok {l : List Rec} {r : Rec} (h : checkB l = true) (h2 : recOk r = true) : addE l r = putE l r := by simp [addE, h, h2]
theorem addL_ok {l : List Rec} {r : Rec} (h : checkB l = true) (h2 : recOk r = true) : addL l r = putL l r := by simp [addL, h, h2]
theorem errReg_ok {l : List Rec} (h : checkB l = true) : errReg l = 0 := by simp [errReg, h]
theorem errReg_bad {l : List Rec} (h : checkB l = false) : errReg l = 71 := by simp [errReg, h]
theorem errRec_ok {r : Rec} (h : recOk r = true) : errRec r = 0 := by simp [errRec, h]
theorem errRec_bad {r : Rec} (h : recOk r = false) : errRec r = 70 := by simp [errRec, h]
set_option maxRecDepth 100000 in
set_option maxHeartbeats 4000000 in
theorem rAdd_any (A : Option Addr) (c n : Nat) (l : List Rec) (r : Rec) (hn : l.length = n) (hbig : n ≤ 9223372036854775807) (ht : TxtBig l) (hrt : r.text.size ≤ 9223372036854775807) (w : World) (hr : Recs w A l) :
    Calls Tryz.prog 76 #[regV A n c, recV r] w fun e w' => ∃ A' n' c', e = .returned (.tuple #[regV A' n' c', .int .i64 (addE l r)]) ∧ Hid (n' = (addL l r).length) ∧ OwnR w.heap.size w' (.slice A' n' c') (addL l r) ∧ Ext w w' := by
  cases hc : checkB l with
  | false =>
    have he := errReg_bad hc
    have HE := hid (addE_bad (r := r) hc)
    have HL := hid (addL_bad (r := r) hc)
    clear hc
    go_enter Tryz.func76, Tryz.ntmps76
    go_wp2_with (go_at_call 84; refine (rCheck_any _ _ _ _ (by first | rfl | assumption) (by omega) (by assumption) _ (by with_reducible repeat (first | assumption | apply Recs.ext | apply Recs.alloc | apply Recs.drew | (refine Recs.of_ext ?_ (by assumption))))).mono ?_; rintro e w1 ⟨rfl, E1, d1, rfl⟩)
    refine bodyPost_ret (v := .tuple #[regV none 0 0, .int .i64 71]) (by simp [results, Tryz.results76, go_sem]) rfl ?_
    exact ⟨_, _, _, by rw [HE.out], hid (by rw [HL.out]; rfl), by rw [HL.out]; exact OwnR.none _ _, (by repeat (first | (with_reducible first | exact Ext.refl _ | exact Ext.same _ _ _ _ | assumption | apply Ext.alloc | apply Ext.ext | apply Ext.drew) | (with_reducible refine Ext.setCell ?_ _ _ ?_; rotate_left; focus (first | omega | (simp only [zs1, zs2, zs3, size_ext]; omega)))))⟩
  | true =>
    have he := errReg_ok hc
    obtain ⟨h80, _, hs⟩ := checkB_iff.1 hc
    cases hk : recOk r with
    | false =>
      have he2 := errRec_bad hk
      have HE := hid (addE_rec hc hk)
      have HL := hid (addL_rec hc hk)
      clear hc
      go_enter Tryz.func76, Tryz.ntmps76
      go_wp2_with (first | (go_at_call 84; refine (rCheck_any _ _ _ _ (by first | rfl | assumption) (by omega) (by assumption) _ (by with_reducible repeat (first | assumption | apply Recs.ext | apply Recs.alloc | apply Recs.drew | (refine Recs.of_ext ?_ (by assumption))))).mono ?_; rintro e w1 ⟨rfl, E1, d1, rfl⟩) | (go_at_call 109; refine (rCheckRecord_any _ _ (by assumption)).mono ?_; rintro e w1 ⟨rfl, E, d, rfl⟩))
      refine bodyPost_ret (v := .tuple #[regV none 0 0, .int .i64 70]) (by simp [results, Tryz.results76, go_sem]) rfl ?_
      exact ⟨_, _, _, by rw [HE.out], hid (by rw [HL.out]; rfl), by rw [HL.out]; exact OwnR.none _ _, (by repeat (first | (with_reducible first | exact Ext.refl _ | exact Ext.same _ _ _ _ | assumption | apply Ext.alloc | apply Ext.ext | apply Ext.drew) | (with_reducible refine Ext.setCell ?_ _ _ ?_; rotate_left; focus (first | omega | (simp only [zs1, zs2, zs3, size_ext]; omega)))))⟩
    | true =>
      have he2 := errRec_ok hk
      have hE0 := addE_ok hc hk
      have hL0 := addL_ok hc hk
      clear hc
      cases hh : hasR l r.ao r.sq with
      | true =>
        obtain ⟨hp, ha⟩ := (hasR_pos hs r.ao r.sq).1 hh
        have hf := findR_some hs hp ha
        have hE := hE0.trans (putE_hit hf)
        have hL := hL0.trans (putL_hit hf)
        have hfi := findI_pos hs _ _ hh
        obtain ⟨g, of, rfl, hg⟩ := hr.addr (by omega)
        have hrow := hr.row hp
        obtain ⟨q, hq⟩ : ∃ q, l[posR l r.ao r.sq] = q := ⟨_, rfl⟩
        obtain ⟨k, hk⟩ : ∃ k, posR l r.ao r.sq = k := ⟨_, rfl⟩
        rw [hq] at hrow hE hL
        rw [hk] at hrow hp hfi
        obtain ⟨h0, h1, h2, h3, h4, h5, h6, h7, h8, h9, h10⟩ := hrow
        have hkn : k < n := by omega
        clear hq ha hf hE0 hL0
        cases heq : recEqB q r with
        | true =>
          have HE : Hid (addE l r = 0) := hid (by rw [hE, heq]; rfl)
          have HL : Hid (addL l r = l) := hid (by rw [hL, heq]; rfl)
          clear hE hL
          go_enter Tryz.func76, Tryz.ntmps76
          go_wp2_with (first | (go_at_call 84; refine (rCheck_any _ _ _ _ (by first | rfl | assumption) (by omega) (by assumption) _ (by with_reducible repeat (first | assumption | apply Recs.ext | apply Recs.alloc | apply Recs.drew | (refine Recs.of_ext ?_ (by assumption))))).mono ?_; rintro e w1 ⟨rfl, E1, d1, rfl⟩) | (go_at_call 109; refine (rCheckRecord_any _ _ (by assumption)).mono ?_; rintro e w1 ⟨rfl, E, d, rfl⟩) | (go_at_call 85; refine (rfind_any _ _ _ _ _ _ (by first | rfl | assumption) (by omega) _ (by with_reducible repeat (first | assumption | apply Recs.ext | apply Recs.alloc | apply Recs.drew | (refine Recs.of_ext ?_ (by assumption))))).mono ?_; rintro e w1 ⟨rfl, E1, d1, rfl⟩))
          refine wp_region_ord_same (.f 0 (.f 1 (.f 2 (.f 3 (.f 4 (.f 5 (.f 6 (.f 7 (.f 8 (.f 9 (.f 10 .d))))))))))) (by kernel_rfl) (by kernel_rfl) ?_
          repeat ((first | refine wpOrd_pass rfl rfl ?_ | (refine wpOrd_free (v := ?_) rfl rfl (fun _ hS => ?_) ?_; rotate_left; focus (go_simp; try with_reducible rfl))); simp only [Act.put, zp1, zp2, zp3, zp4, zp5, zp6])
          refine ord_bool (j := 2) rfl (fun hb2 => ?_) (fun hb2 => ?_)
          rotate_left
          focus
           try (exfalso; first | (simp at hb2; done) | (simp at hb2; omega))
           all_goals
            (try simp only [hb2])
            repeat ((first | refine wpOrd_pass rfl rfl ?_ | (refine wpOrd_free (v := ?_) rfl rfl (fun _ hS => ?_) ?_; rotate_left; focus (go_simp; try with_reducible rfl))); simp only [Act.put, zp1, zp2, zp3, zp4, zp5, zp6])
            refine wpOrd_nil ?_
          rotate_right
          focus
           try (exfalso; first | (simp at hb2; done) | (simp at hb2; omega))
           all_goals
            (try simp only [hb2])
            repeat ((first | refine wpOrd_pass rfl rfl ?_ | (refine wpOrd_free (v := ?_) rfl rfl (fun _ hS => ?_) ?_; rotate_left; focus (go_simp; try with_reducible rfl))); simp only [Act.put, zp1, zp2, zp3, zp4, zp5, zp6])
            refine wpOrd_nil ?_
          go_wp2_with (go_at_call 131; refine (rcopied_any _ _ _ _ (by first | rfl | assumption) (by omega) _ (by with_reducible repeat (first | assumption | apply Recs.ext | apply Recs.alloc | apply Recs.drew | (refine Recs.of_ext ?_ (by assumption))))).mono ?_; rintro e w1 ⟨Ac1, nc1, cc1, rfl, hnc1, hvc1, E1, d1, rfl⟩)
          refine bodyPost_ret (v := .tuple #[regV Ac1 nc1 cc1, .int .i64 0]) (by simp [results, Tryz.results76, go_sem]) rfl ?_
          refine ⟨_, _, _, by rw [HE.out], hid (by rw [HL.out]; exact hnc1.out), ?_, (by repeat (first | (with_reducible first | exact Ext.refl _ | exact Ext.same _ _ _ _ | assumption | apply Ext.alloc | apply Ext.ext | apply Ext.drew) | (with_reducible refine Ext.setCell ?_ _ _ ?_; rotate_left; focus (first | omega | (simp only [zs1, zs2, zs3, size_ext]; omega)))))⟩
          rw [HL.out]
          ((try simp only [alloc_ext, ext_ext, size_ext, World.size_alloc, Array.size_push, Array.size_append] at *); refine OwnR.moved (by assumption) ?_ ?_ ?_; (focus (simp only [World.size_alloc, size_ext])); (focus (simp only [World.size_alloc, size_ext]; try omega)); (focus omega))
        | false =>
          have HE : Hid (addE l r = 72) := hid (by rw [hE, heq]; rfl)
          have HL : Hid (addL l r = []) := hid (by rw [hL, heq]; rfl)
          clear hE hL
          go_enter Tryz.func76, Tryz.ntmps76
          go_wp2_with (first | (go_at_call 84; refine (rCheck_any _ _ _ _ (by first | rfl | assumption) (by omega) (by assumption) _ (by with_reducible repeat (first | assumption | apply Recs.ext | apply Recs.alloc | apply Recs.drew | (refine Recs.of_ext ?_ (by assumption))))).mono ?_; rintro e w1 ⟨rfl, E1, d1, rfl⟩) | (go_at_call 109; refine (rCheckRecord_any _ _ (by assumption)).mono ?_; rintro e w1 ⟨rfl, E, d, rfl⟩) | (go_at_call 85; refine (rfind_any _ _ _ _ _ _ (by first | rfl | assumption) (by omega) _ (by with_reducible repeat (first | assumption | apply Recs.ext | apply Recs.alloc | apply Recs.drew | (refine Recs.of_ext ?_ (by assumption))))).mono ?_; rintro e w1 ⟨rfl, E1, d1, rfl⟩))
          refine wp_region_ord_same (.f 0 (.f 1 (.f 2 (.f 3 (.f 4 (.f 5 (.f 6 (.f 7 (.f 8 (.f 9 (.f 10 .d))))))))))) (by kernel_rfl) (by kernel_rfl) ?_
          repeat ((first | refine wpOrd_pass rfl rfl ?_ | (refine wpOrd_free (v := ?_) rfl rfl (fun _ hS => ?_) ?_; rotate_left; focus (go_simp; try with_reducible rfl))); simp only [Act.put, zp1, zp2, zp3, zp4, zp5, zp6])
          refine ord_bool (j := 2) rfl (fun hb2 => ?_) (fun hb2 => ?_)
          rotate_left
          focus
           try (exfalso; first | (simp at hb2; done) | (simp at hb2; omega))
           all_goals
            (try simp only [hb2])
            repeat ((first | refine wpOrd_pass rfl rfl ?_ | (refine wpOrd_free (v := ?_) rfl rfl (fun _ hS => ?_) ?_; rotate_left; focus (go_simp; try with_reducible rfl))); simp only [Act.put, zp1, zp2, zp3, zp4, zp5, zp6])
            refine wpOrd_nil ?_
          rotate_right
          focus
           try (exfalso; first | (simp at hb2; done) | (simp at hb2; omega))
           all_goals
            (try simp only [hb2])
            repeat ((first | refine wpOrd_pass rfl rfl ?_ | (refine wpOrd_free (v := ?_) rfl rfl (fun _ hS => ?_) ?_; rotate_left; focus (go_simp; try with_reducible rfl))); simp only [Act.put, zp1, zp2, zp3, zp4, zp5, zp6])
            refine wpOrd_nil ?_
          go_wp2_with fail
          refine bodyPost_ret (v := .tuple #[regV none 0 0, .int .i64 72]) (by simp [results, Tryz.results76, go_sem]) rfl ?_
          exact ⟨_, _, _, by rw [HE.out], hid (by rw [HL.out]; rfl), by rw [HL.out]; exact OwnR.none _ _, (by repeat (first | (with_reducible first | exact Ext.refl _ | exact Ext.same _ _ _ _ | assumption | apply Ext.alloc | apply Ext.ext | apply Ext.drew) | (with_reducible refine Ext.setCell ?_ _ _ ?_; rotate_left; focus (first | omega | (simp only [zs1, zs2, zs3, size_ext]; omega)))))⟩
      | false =>
        have hf := findR_none hh
        have hE := hE0.trans (putE_new hf)
        have hL := hL0.trans (putL_new hf)
        have hfi : findI l r.ao r.sq = -1 := by simp [findI, hh]
        have hI := insG_eq hs hh
        clear hf hE0 hL0
        by_cases h80' : n = 80
        · have HE : Hid (addE l r = 2) := hid (by rw [hE, hn, if_pos h80'])
          have HL : Hid (addL l r = []) := hid (by rw [hL, hn, if_pos h80'])
          clear hE hL hI
          subst h80'
          go_enter Tryz.func76, Tryz.ntmps76
          go_wp2_with (first | (go_at_call 84; refine (rCheck_any _ _ _ _ (by first | rfl | assumption) (by omega) (by assumption) _ (by with_reducible repeat (first | assumption | apply Recs.ext | apply Recs.alloc | apply Recs.drew | (refine Recs.of_ext ?_ (by assumption))))).mono ?_; rintro e w1 ⟨rfl, E1, d1, rfl⟩) | (go_at_call 109; refine (rCheckRecord_any _ _ (by assumption)).mono ?_; rintro e w1 ⟨rfl, E, d, rfl⟩) | (go_at_call 85; refine (rfind_any _ _ _ _ _ _ (by first | rfl | assumption) (by omega) _ (by with_reducible repeat (first | assumption | apply Recs.ext | apply Recs.alloc | apply Recs.drew | (refine Recs.of_ext ?_ (by assumption))))).mono ?_; rintro e w1 ⟨rfl, E1, d1, rfl⟩))
          refine wp_region_ord_same (.f 0 (.f 1 (.f 2 (.f 3 (.f 4 (.f 5 (.f 6 (.f 7 (.f 8 (.f 9 (.f 10 .d))))))))))) (by kernel_rfl) (by kernel_rfl) ?_
          repeat ((first | refine wpOrd_pass rfl rfl ?_ | (refine wpOrd_free (v := ?_) rfl rfl (fun _ hS => ?_) ?_; rotate_left; focus (go_simp; try with_reducible rfl))); simp only [Act.put, zp1, zp2, zp3, zp4, zp5, zp6])
          refine ord_bool (j := 2) rfl (fun hb2 => ?_) (fun hb2 => ?_)
          rotate_left
          focus
           try (exfalso; first | (simp at hb2; done) | (simp at hb2; omega))
           all_goals
            (try simp only [hb2])
            repeat ((first | refine wpOrd_pass rfl rfl ?_ | (refine wpOrd_free (v := ?_) rfl rfl (fun _ hS => ?_) ?_; rotate_left; focus (go_simp; try with_reducible rfl))); simp only [Act.put, zp1, zp2, zp3, zp4, zp5, zp6])
            refine wpOrd_nil ?_
          rotate_right
          focus
           try (exfalso; first | (simp at hb2; done) | (simp at hb2; omega))
           all_goals
            (try simp only [hb2])
            repeat ((first | refine wpOrd_pass rfl rfl ?_ | (refine wpOrd_free (v := ?_) rfl rfl (fun _ hS => ?_) ?_; rotate_left; focus (go_simp; try with_reducible rfl))); simp only [Act.put, zp1, zp2, zp3, zp4, zp5, zp6])
            refine wpOrd_nil ?_
          go_wp2_with fail
          refine bodyPost_ret (v := .tuple #[regV none 0 0, .int .i64 2]) (by simp [results, Tryz.results76, go_sem]) rfl ?_
          exact ⟨_, _, _, by rw [HE.out], hid (by rw [HL.out]; rfl), by rw [HL.out]; exact OwnR.none _ _, (by repeat (first | (with_reducible first | exact Ext.refl _ | exact Ext.same _ _ _ _ | assumption | apply Ext.alloc | apply Ext.ext | apply Ext.drew) | (with_reducible refine Ext.setCell ?_ _ _ ?_; rotate_left; focus (first | omega | (simp only [zs1, zs2, zs3, size_ext]; omega)))))⟩
        · have HE : Hid (addE l r = 0) := hid (by rw [hE, hn, if_neg h80'])
          have HL : Hid (addL l r = insG l r) := hid (by rw [hL, hn, if_neg h80', hI])
          clear hE hL hI
          go_enter Tryz.func76, Tryz.ntmps76
          go_wp2_with (first | (go_at_call 84; refine (rCheck_any _ _ _ _ (by first | rfl | assumption) (by omega) (by assumption) _ (by with_reducible repeat (first | assumption | apply Recs.ext | apply Recs.alloc | apply Recs.drew | (refine Recs.of_ext ?_ (by assumption))))).mono ?_; rintro e w1 ⟨rfl, E1, d1, rfl⟩) | (go_at_call 109; refine (rCheckRecord_any _ _ (by assumption)).mono ?_; rintro e w1 ⟨rfl, E, d, rfl⟩) | (go_at_call 85; refine (rfind_any _ _ _ _ _ _ (by first | rfl | assumption) (by omega) _ (by with_reducible repeat (first | assumption | apply Recs.ext | apply Recs.alloc | apply Recs.drew | (refine Recs.of_ext ?_ (by assumption))))).mono ?_; rintro e w1 ⟨rfl, E1, d1, rfl⟩))
          refine wp_region_ord_same (.f 0 (.f 1 (.f 2 (.f 3 (.f 4 (.f 5 (.f 6 (.f 7 (.f 8 (.f 9 (.f 10 .d))))))))))) (by kernel_rfl) (by kernel_rfl) ?_
          repeat ((first | refine wpOrd_pass rfl rfl ?_ | (refine wpOrd_free (v := ?_) rfl rfl (fun _ hS => ?_) ?_; rotate_left; focus (go_simp; try with_reducible rfl))); simp only [Act.put, zp1, zp2, zp3, zp4, zp5, zp6])
          refine ord_bool (j := 2) rfl (fun hb2 => ?_) (fun hb2 => ?_)
          rotate_left
          focus
           try (exfalso; first | (simp at hb2; done) | (simp at hb2; omega))
           all_goals
            (try simp only [hb2])
            repeat ((first | refine wpOrd_pass rfl rfl ?_ | (refine wpOrd_free (v := ?_) rfl rfl (fun _ hS => ?_) ?_; rotate_left; focus (go_simp; try with_reducible rfl))); simp only [Act.put, zp1, zp2, zp3, zp4, zp5, zp6])
            refine wpOrd_nil ?_
          rotate_right
          focus
           try (exfalso; first | (simp at hb2; done) | (simp at hb2; omega))
           all_goals
            (try simp only [hb2])
            repeat ((first | refine wpOrd_pass rfl rfl ?_ | (refine wpOrd_free (v := ?_) rfl rfl (fun _ hS => ?_) ?_; rotate_left; focus (go_simp; try with_reducible rfl))); simp only [Act.put, zp1, zp2, zp3, zp4, zp5, zp6])
            refine wpOrd_nil ?_
          go_wp2_with (go_at_call 127; refine (rinsert_own _ _ _ _ _ (by first | rfl | assumption) (by omega) _ (by with_reducible repeat (first | assumption | apply Recs.ext | apply Recs.alloc | apply Recs.drew | (refine Recs.of_ext ?_ (by assumption))))).mono ?_; rintro e w1 ⟨Ai1, ni1, ci1, rfl, hni1, hvi1, E1, d1, rfl⟩)
          refine bodyPost_ret (v := .tuple #[regV Ai1 ni1 ci1, .int .i64 0]) (by simp [results, Tryz.results76, go_sem]) rfl ?_
          refine ⟨_, _, _, by rw [HE.out], hid (by rw [HL.out]; exact hni1.out), ?_, (by repeat (first | (with_reducible first | exact Ext.refl _ | exact Ext.same _ _ _ _ | assumption | apply Ext.alloc | apply Ext.ext | apply Ext.drew) | (with_reducible refine Ext.setCell ?_ _ _ ?_; rotate_left; focus (first | omega | (simp only [zs1, zs2, zs3, size_ext]; omega)))))⟩
          rw [HL.out]
          ((try simp only [alloc_ext, ext_ext, size_ext, World.size_alloc, Array.size_push, Array.size_append] at *); refine OwnR.moved (by assumption) ?_ ?_ ?_; (focus (simp only [World.size_alloc, size_ext])); (focus (simp only [World.size_alloc, size_ext]; try omega)); (focus omega))
end Go.Proofs.YtekjdeibnfaehaaGreat
