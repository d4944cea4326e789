/- The reference's known and Standing. -/
import Derived.Test.YtekjdeibnfaehaaGreatTellS
set_option linter.unusedSimpArgs false
set_option linter.unusedVariables false
namespace Go.Proofs.YtekjdeibnfaehaaGreat
open Go.RowKit

set_option maxRecDepth 100000 in
set_option maxHeartbeats 8000000 in
theorem rStands_any (A : Option Addr) (c n : Nat) (l : List Rec) (o s : Int) (hn : l.length = n) (hbig : n ≤ 9223372036854775807) (ht : TxtBig l) (w : World) (hr : Recs w A l) :
    Calls Tryz.prog 25 #[regV A n c, .agg #[.int .i64 o, .int .i64 s]] w fun e w' => e = .returned (.tuple #[.bool (standsB l o s), .int .i64 (standsE l o s)]) ∧ Ext w w' := by
  cases hc : checkB l with
  | false =>
    have he := errReg_bad hc
    have HE := hid (standsE_bad (o := o) (s := s) hc)
    have HB := hid (standsB_bad (o := o) (s := s) hc)
    clear hc
    go_enter Tryz.func25, Tryz.ntmps25
    go_wp2_with (go_at_call 84; refine (rCheck_any _ _ _ _ (by first | rfl | assumption) (by omega) (by assumption) _ (by with_reducible repeat (first | assumption | apply Recs.ext | apply Recs.alloc | apply Recs.drew | (refine Recs.of_ext ?_ (by assumption))))).mono ?_; rintro e w1 ⟨rfl, E1, d1, rfl⟩)
    go_ret2
    exact ⟨ret_val (by rw [HE.out, HB.out]; rfl), (by repeat (first | (with_reducible first | exact Ext.refl _ | exact Ext.same _ _ _ _ | assumption | apply Ext.alloc | apply Ext.ext | apply Ext.drew) | (with_reducible refine Ext.setCell ?_ _ _ ?_; rotate_left; focus (first | omega | (simp only [zs1, zs2, zs3, size_ext]; omega)))))⟩
  | true =>
    have he := errReg_ok hc
    obtain ⟨h80, _, hs⟩ := checkB_iff.1 hc
    cases hh : hasR l o s with
    | false =>
      have HE := hid (standsE_none hc hh)
      have HB := hid (standsB_none hc hh)
      have hf : findI l o s = -1 := by rw [findI, hh]; rfl
      clear hc
      go_enter Tryz.func25, Tryz.ntmps25
      go_wp2_with (first | (go_at_call 84; refine (rCheck_any _ _ _ _ (by first | rfl | assumption) (by omega) (by assumption) _ (by with_reducible repeat (first | assumption | apply Recs.ext | apply Recs.alloc | apply Recs.drew | (refine Recs.of_ext ?_ (by assumption))))).mono ?_; rintro e w1 ⟨rfl, E1, d1, rfl⟩) | (go_at_call 85; refine (rfind_any _ _ _ _ _ _ (by first | rfl | assumption) (by omega) _ (by with_reducible repeat (first | assumption | apply Recs.ext | apply Recs.alloc | apply Recs.drew | (refine Recs.of_ext ?_ (by assumption))))).mono ?_; rintro e w1 ⟨rfl, E1, d1, rfl⟩))
      go_ret2
      exact ⟨ret_val (by rw [HE.out, HB.out]; rfl), (by repeat (first | (with_reducible first | exact Ext.refl _ | exact Ext.same _ _ _ _ | assumption | apply Ext.alloc | apply Ext.ext | apply Ext.drew) | (with_reducible refine Ext.setCell ?_ _ _ ?_; rotate_left; focus (first | omega | (simp only [zs1, zs2, zs3, size_ext]; omega)))))⟩
    | true =>
      have HE := hid (standsE_ok hc hh)
      have HB := hid (standsB_ok hc hh)
      obtain ⟨hp, _⟩ := (hasR_pos hs o s).1 hh
      have hps : posR l o s < (standL l).length := by rw [standL_length]; exact hp
      have hg : (standL l).getD (posR l o s) false = (standL l)[posR l o s] := by simp [List.getD_eq_getElem?_getD, hps]
      have hf := findI_pos hs o s hh
      obtain ⟨k, hk⟩ : ∃ k, posR l o s = k := ⟨_, rfl⟩
      obtain ⟨b, hb⟩ : ∃ b, (standL l)[posR l o s] = b := ⟨_, rfl⟩
      rw [hb] at hg
      rw [hk] at hf
      have HG := hid hg
      have Hb : Hid ((standL l)[k]? = some b) := hid (by subst hk; rw [List.getElem?_eq_getElem hps, hb])
      have hkn : k < n := by omega
      have h80' : n ≤ 80 := by omega
      clear hc hb hg
      go_enter Tryz.func25, Tryz.ntmps25
      go_wp2_with (first | (go_at_call 86; refine (rstands_any _ _ _ l (by assumption) (by omega) _ (by with_reducible repeat (first | assumption | apply Recs.ext | apply Recs.alloc | apply Recs.drew | (refine Recs.of_ext ?_ (by assumption))))).mono ?_; rintro e w1 ⟨rfl, hss, E2, d2, rfl⟩; have hck := hss.out.2 k b Hb.out; have hcl := hss.out.1; simp only [World.size_alloc, size_ext] at hck hcl; clear hss) | (go_at_call 84; refine (rCheck_any _ _ _ _ (by first | rfl | assumption) (by omega) (by assumption) _ (by with_reducible repeat (first | assumption | apply Recs.ext | apply Recs.alloc | apply Recs.drew | (refine Recs.of_ext ?_ (by assumption))))).mono ?_; rintro e w1 ⟨rfl, E1, d1, rfl⟩) | (go_at_call 85; refine (rfind_any _ _ _ _ _ _ (by first | rfl | assumption) (by omega) _ (by with_reducible repeat (first | assumption | apply Recs.ext | apply Recs.alloc | apply Recs.drew | (refine Recs.of_ext ?_ (by assumption))))).mono ?_; rintro e w1 ⟨rfl, E1, d1, rfl⟩))
      go_ret2
      exact ⟨ret_val (by rw [HE.out, HB.out, HG.out]; rfl), (by repeat (first | (with_reducible first | exact Ext.refl _ | exact Ext.same _ _ _ _ | assumption | apply Ext.alloc | apply Ext.ext | apply Ext.drew) | (with_reducible refine Ext.setCell ?_ _ _ ?_; rotate_left; focus (first | omega | (simp only [zs1, zs2, zs3, size_ext]; omega)))))⟩
theorem knownL_take (l : List Rec) (d : Int) {k : Nat} (hk : k < l.length) : knownL (l.take (k + 1)) d = knownL (l.take k) d ++ if decide (l[k].known ≤ d) = true then [l[k]] else [] := by
  rw [List.take_succ_eq_append_getElem hk, knownL, List.filter_append]
  unfold knownL
  congr 1
  cases h : decide (l[k].known ≤ d) <;> simp [h]
theorem knownL_le (l : List Rec) (d : Int) : (knownL l d).length ≤ l.length := List.length_filter_le _ _
set_option maxRecDepth 100000 in
set_option maxHeartbeats 8000000 in
theorem rknown_any (A : Option Addr) (c n : Nat) (l : List Rec) (d : Int) (hn : l.length = n) (hbig : n ≤ 100000) (w : World) (hr : Recs w A l) :
    Calls Tryz.prog 93 #[regV A n c, .int .i64 d] w fun e w' => ∃ A' n' c', e = .returned (.slice A' n' c') ∧ Hid (n' = (knownL l d).length) ∧ Recs w' A' (knownL l d) ∧ Ext w w' := by
  go_enter Tryz.func93, Tryz.ntmps93
  go_wp2_with fail
  go_loopw [5, 6] (fun v i wr => ∃ k : Nat, k ≤ n ∧ i = .int .i64 k ∧ Ext (w.alloc (.cells #[.slice A n c] 34)) wr ∧ OwnR (w.heap.size + 1) wr v (knownL (l.take k) d)) (fun _ i _ => n - (intOf i).toNat)
  case atStart => exact ⟨0, Nat.zero_le _, rfl, Ext.refl _, OwnR.none _ _⟩
  case round =>
    obtain ⟨k, hk, rfl, ⟨E9, d9, rfl⟩, hown⟩ := hrel
    have Hown := hid hown
    clear hown
    by_cases hlt : k < n
    · have hm : k < l.length := by omega
      obtain ⟨g, of, rfl, hg⟩ := hr.addr (by omega)
      have hrow := hr.row hm
      have hst := knownL_take l d hm
      have hle := knownL_le (l.take k) d
      rw [List.length_take] at hle
      obtain ⟨r, hrk⟩ : ∃ r, l[k] = r := ⟨_, rfl⟩
      rw [hrk] at hrow hst
      obtain ⟨h0, h1, h2, h3, h4, h5, h6, h7, h8, h9, h10⟩ := hrow
      have Hle := hid (show (knownL (l.take k) d).length ≤ k by omega)
      clear hrk hle
      cases hkn : decide (r.known ≤ d) with
      | true =>
        rw [hkn, if_pos rfl] at hst
        have Hst := hid hst
        have hkn' := of_decide_eq_true hkn
        clear hst hkn
        go_wp2_with (at_builtin; refine wpList_arec rfl (w.alloc (.cells #[.slice (some ⟨g, of, none⟩) n c] 34)) (w.heap.size + 1) (by simp [World.size_alloc]) rfl _ _ rfl [r] rfl (by exact (by repeat (first | (with_reducible first | exact Ext.refl _ | exact Ext.same _ _ _ _ | assumption | apply Ext.alloc | apply Ext.ext | apply Ext.drew) | (with_reducible refine Ext.setCell ?_ _ _ ?_; rotate_left; focus (first | omega | (simp only [zs1, zs2, zs3, size_ext]; omega)))))) (by exact Hown.out.of_ext (by repeat (first | (with_reducible first | exact Ext.refl _ | exact Ext.same _ _ _ _ | assumption | apply Ext.alloc | apply Ext.ext | apply Ext.drew) | (with_reducible refine Ext.setCell ?_ _ _ ?_; rotate_left; focus (first | omega | (simp only [zs1, zs2, zs3, size_ext]; omega)))))) rfl rfl (Sl_at (encRec r) _ 11 1 _ rfl (by simp [World.size_alloc])) (by have := Hle.out; simp only [List.length_cons, List.length_nil]; omega) (fun v1 E1 d1 ho1 => ?_))
        exact ⟨⟨k + 1, by omega, by go_num, (Ext.refl _).ext _ _, by rw [Hst.out]; exact ho1⟩, by simp [intOf]; omega⟩
      | false =>
        rw [hkn] at hst
        have Hst := hid hst
        have hkn' := of_decide_eq_false hkn
        clear hst hkn
        go_wp2_with fail
        exact ⟨⟨k + 1, by omega, by go_num, (by repeat (first | (with_reducible first | exact Ext.refl _ | exact Ext.same _ _ _ _ | assumption | apply Ext.alloc | apply Ext.ext | apply Ext.drew) | (with_reducible refine Ext.setCell ?_ _ _ ?_; rotate_left; focus (first | omega | (simp only [zs1, zs2, zs3, size_ext]; omega))))), by rw [Hst.out]; simpa using Hown.out.of_ext (by repeat (first | (with_reducible first | exact Ext.refl _ | exact Ext.same _ _ _ _ | assumption | apply Ext.alloc | apply Ext.ext | apply Ext.drew) | (with_reducible refine Ext.setCell ?_ _ _ ?_; rotate_left; focus (first | omega | (simp only [zs1, zs2, zs3, size_ext]; omega)))))⟩, by simp [intOf]; omega⟩
    · obtain rfl : k = n := by omega
      have hO := Hown.out
      rw [List.take_of_length_le (show l.length ≤ k by omega)] at hO
      obtain ⟨Av, mv, cv, rfl, hmv, hcv, hsv⟩ := hO.open
      have HM := hid hmv
      have Hsv := hid hsv
      clear Hown hmv hcv hsv hO
      go_wp2_with fail
      go_ret
      exact ⟨Av, mv, cv, rfl, HM, Hsv.out.of_ext (by repeat (first | (with_reducible first | exact Ext.refl _ | exact Ext.same _ _ _ _ | assumption | apply Ext.alloc | apply Ext.ext | apply Ext.drew) | (with_reducible refine Ext.setCell ?_ _ _ ?_; rotate_left; focus (first | omega | (simp only [zs1, zs2, zs3, size_ext]; omega))))), (by repeat (first | (with_reducible first | exact Ext.refl _ | exact Ext.same _ _ _ _ | assumption | apply Ext.alloc | apply Ext.ext | apply Ext.drew) | (with_reducible refine Ext.setCell ?_ _ _ ?_; rotate_left; focus (first | omega | (simp only [zs1, zs2, zs3, size_ext]; omega)))))⟩
set_option maxRecDepth 100000 in
set_option maxHeartbeats 8000000 in
theorem rStanding_any (A : Option Addr) (c n : Nat) (l : List Rec) (s d : Int) (hn : l.length = n) (hbig : n ≤ 9223372036854775807) (ht : TxtBig l) (w : World) (hr : Recs w A l) :
    Calls Tryz.prog 27 #[regV A n c, .int .i64 s, .int .i64 d] w fun e w' => ∃ A' n' c', e = .returned (.tuple #[.slice A' n' c', .int .i64 (standingE l s d)]) ∧ Hid (n' = (standingR l s d).length) ∧ Recs w' A' (standingR l s d) ∧ Ext w w' := by
  cases hc : checkB l with
  | false =>
    have he := errReg_bad hc
    have HE := hid (standingE_bad (s := s) (d := d) hc)
    have HR := hid (standingR_err HE.out (by decide))
    clear hc
    go_enter Tryz.func27, Tryz.ntmps27
    go_wp2_with (go_at_call 84; refine (rCheck_any _ _ _ _ (by first | rfl | assumption) (by omega) (by assumption) _ (by with_reducible repeat (first | assumption | apply Recs.ext | apply Recs.alloc | apply Recs.drew | (refine Recs.of_ext ?_ (by assumption))))).mono ?_; rintro e w1 ⟨rfl, E1, d1, rfl⟩)
    go_ret2
    exact ⟨none, 0, 0, ret_val (by rw [HE.out]; rfl), hid (by rw [HR.out]; rfl), by rw [HR.out]; exact Recs.nil _ _, (by repeat (first | (with_reducible first | exact Ext.refl _ | exact Ext.same _ _ _ _ | assumption | apply Ext.alloc | apply Ext.ext | apply Ext.drew) | (with_reducible refine Ext.setCell ?_ _ _ ?_; rotate_left; focus (first | omega | (simp only [zs1, zs2, zs3, size_ext]; omega)))))⟩
  | true =>
    have he := errReg_ok hc
    obtain ⟨h80, _, hs⟩ := checkB_iff.1 hc
    cases h1 : inB s 1 999 with
    | false =>
      have HE := hid (standingE_ship (d := d) hc h1)
      have HR := hid (standingR_err HE.out (by decide))
      clear hc
      go_enter Tryz.func27, Tryz.ntmps27
      go_wp2_with (first | (go_at_call 84; refine (rCheck_any _ _ _ _ (by first | rfl | assumption) (by omega) (by assumption) _ (by with_reducible repeat (first | assumption | apply Recs.ext | apply Recs.alloc | apply Recs.drew | (refine Recs.of_ext ?_ (by assumption))))).mono ?_; rintro e w1 ⟨rfl, E1, d1, rfl⟩) | (go_at_call 92; refine (rin_any _ _ _ _).mono ?_; rintro e w1 ⟨rfl, rfl⟩))
      go_ret2
      exact ⟨none, 0, 0, ret_val (by rw [HE.out]; rfl), hid (by rw [HR.out]; rfl), by rw [HR.out]; exact Recs.nil _ _, (by repeat (first | (with_reducible first | exact Ext.refl _ | exact Ext.same _ _ _ _ | assumption | apply Ext.alloc | apply Ext.ext | apply Ext.drew) | (with_reducible refine Ext.setCell ?_ _ _ ?_; rotate_left; focus (first | omega | (simp only [zs1, zs2, zs3, size_ext]; omega)))))⟩
    | true =>
      cases h2 : inB d 0 100000 with
      | false =>
        have HE := hid (standingE_day hc h1 h2)
        have HR := hid (standingR_err HE.out (by decide))
        clear hc
        go_enter Tryz.func27, Tryz.ntmps27
        go_wp2_with (first | (go_at_call 84; refine (rCheck_any _ _ _ _ (by first | rfl | assumption) (by omega) (by assumption) _ (by with_reducible repeat (first | assumption | apply Recs.ext | apply Recs.alloc | apply Recs.drew | (refine Recs.of_ext ?_ (by assumption))))).mono ?_; rintro e w1 ⟨rfl, E1, d1, rfl⟩) | (go_at_call 92; refine (rin_any _ _ _ _).mono ?_; rintro e w1 ⟨rfl, rfl⟩))
        go_ret2
        exact ⟨none, 0, 0, ret_val (by rw [HE.out]; rfl), hid (by rw [HR.out]; rfl), by rw [HR.out]; exact Recs.nil _ _, (by repeat (first | (with_reducible first | exact Ext.refl _ | exact Ext.same _ _ _ _ | assumption | apply Ext.alloc | apply Ext.ext | apply Ext.drew) | (with_reducible refine Ext.setCell ?_ _ _ ?_; rotate_left; focus (first | omega | (simp only [zs1, zs2, zs3, size_ext]; omega)))))⟩
      | true =>
        have HE := hid (standingE_ok hc h1 h2)
        have HR := hid (standingR_ok HE.out)
        have h80' : n ≤ 80 := by omega
        have hkl : (knownL l d).length ≤ 80 := Nat.le_trans (List.length_filter_le _ _) h80
        clear hc
        go_enter Tryz.func27, Tryz.ntmps27
        go_wp2_with (first | (go_at_call 93; refine (rknown_any _ _ _ l d (by assumption) (by omega) _ (by with_reducible repeat (first | assumption | apply Recs.ext | apply Recs.alloc | apply Recs.drew | (refine Recs.of_ext ?_ (by assumption))))).mono ?_; rintro e w1 ⟨Ad, nd, cd, rfl, hnd, hrd, E2, d2, rfl⟩) | (go_at_call 86; refine (rstands_any _ _ _ (knownL l d) (Hid.out hnd).symm (by have := hnd.out; omega) _ (by with_reducible repeat (first | assumption | apply Recs.ext | apply Recs.alloc | apply Recs.drew | (refine Recs.of_ext ?_ (by assumption))))).mono ?_; rintro e w1 ⟨rfl, hss, E3, d3, rfl⟩) | (go_at_call 84; refine (rCheck_any _ _ _ _ (by first | rfl | assumption) (by omega) (by assumption) _ (by with_reducible repeat (first | assumption | apply Recs.ext | apply Recs.alloc | apply Recs.drew | (refine Recs.of_ext ?_ (by assumption))))).mono ?_; rintro e w1 ⟨rfl, E1, d1, rfl⟩) | (go_at_call 92; refine (rin_any _ _ _ _).mono ?_; rintro e w1 ⟨rfl, rfl⟩))
        have hclk := hss.out.1
        simp only [World.size_alloc, size_ext] at hclk
        go_loopw [10, 11] (fun v i wr => ∃ (k : Nat) (X : World), k ≤ nd ∧ i = .int .i64 k ∧ PickW w X wr Ad (w.heap.size + 1 + E1.size + E2.size) (knownL l d) s k v) (fun _ i _ => nd - (intOf i).toNat)
        case atStart =>
          refine ⟨0, _, Nat.zero_le _, rfl, ⟨?_, hrd.ext _ _, ?_, fun j b hb => ?_, Ext.refl _, OwnR.none _ _⟩⟩
          · exact (by repeat (first | (with_reducible first | exact Ext.refl _ | exact Ext.same _ _ _ _ | assumption | apply Ext.alloc | apply Ext.ext | apply Ext.drew) | (with_reducible refine Ext.setCell ?_ _ _ ?_; rotate_left; focus (first | omega | (simp only [zs1, zs2, zs3, size_ext]; omega)))))
          · have := hss.out.1
            simpa only [World.size_alloc, size_ext] using this
          · have := hss.out.2 j b hb
            simpa only [World.size_alloc, size_ext] using this
        case round =>
          obtain ⟨k, X, hk, rfl, hP⟩ := hrel
          obtain ⟨hP1, hP2, hP3, hP4, ⟨E9, d9, rfl⟩, hP6⟩ := hP
          have Hown := hid hP6
          have HP1 := hid hP1
          have HP4 := hid hP4
          clear hP6 hP1 hP4 hss hrd
          by_cases hlt : k < nd
          · have hm : k < (knownL l d).length := by have := hnd.out; omega
            have hl : k < (standL (knownL l d)).length := by rw [standL_length]; exact hm
            obtain ⟨b, hb⟩ : ∃ b, (standL (knownL l d))[k]? = some b := ⟨_, List.getElem?_eq_getElem hl⟩
            have hstep := pick_step s (knownL l d) hm b hb
            have hcb := HP4.out k b hb
            obtain ⟨g, of, rfl, hg⟩ := hP2.addr (by omega)
            have hrow := hP2.row hm
            have hpl := pick_length s ((knownL l d).take k) ((standL (knownL l d)).take k)
            have hpl2 : ((knownL l d).take k).length ≤ 80 := by rw [List.length_take]; omega
            have hkk : k < nd ∧ k < n := by have := hnd.out; have := knownL_le l d; omega
            obtain ⟨_, hkn⟩ := hkk
            obtain ⟨r, hrk⟩ : ∃ r, (knownL l d)[k] = r := ⟨_, rfl⟩
            rw [hrk] at hrow hstep
            obtain ⟨h0, h1, h2, h3, h4, h5, h6, h7, h8, h9, h10⟩ := hrow
            have Hpl := hid (Nat.le_trans hpl hpl2)
            clear hrk hb hpl hpl2
            have again : wantB s r b = false → PickW w X (X.ext E9 d9) (some ⟨g, of, none⟩) (w.heap.size + 1 + E1.size + E2.size) (knownL l d) s (k + 1) _ := fun hw => by
              rw [hw] at hstep
              exact ⟨HP1.out, hP2, hP3, HP4.out, (Ext.refl _).ext _ _, by rw [hstep]; simpa using Hown.out⟩
            have Again := hid again
            have Step := hid hstep
            clear again hstep
            cases b with
            | false =>
              have HA := hid (Again.out (by simp [wantB]))
              clear Again Step
              go_wp2_with fail
              exact ⟨⟨k + 1, X, by omega, by go_num, HA.out⟩, by simp [intOf]; omega⟩
            | true =>
              by_cases k2 : 2 ≤ r.kind
              · cases ks : (r.ship == s) with
                | true =>
                  have HS := Step.out
                  rw [if_pos (by simp [wantB, k2, eq_of_beq ks])] at HS
                  have HS' := hid HS
                  clear Again Step HS
                  go_wp2_with (at_builtin; refine wpList_arec rfl X X.heap.size rfl rfl _ _ rfl [r] rfl (by exact (by repeat (first | (with_reducible first | exact Ext.refl _ | exact Ext.same _ _ _ _ | assumption | apply Ext.alloc | apply Ext.ext | apply Ext.drew) | (with_reducible refine Ext.setCell ?_ _ _ ?_; rotate_left; focus (first | omega | (simp only [zs1, zs2, zs3, size_ext]; omega)))))) (by exact Hown.out.of_ext (by repeat (first | (with_reducible first | exact Ext.refl _ | exact Ext.same _ _ _ _ | assumption | apply Ext.alloc | apply Ext.ext | apply Ext.drew) | (with_reducible refine Ext.setCell ?_ _ _ ?_; rotate_left; focus (first | omega | (simp only [zs1, zs2, zs3, size_ext]; omega)))))) rfl rfl (Sl_at (encRec r) _ 11 1 _ rfl (by simp [World.size_alloc])) (by have := Hpl.out; simp only [List.length_cons, List.length_nil]; omega) (fun v1 E1 d1 ho1 => ?_))
                  exact ⟨⟨k + 1, X, by omega, by go_num, ⟨HP1.out, hP2, hP3, HP4.out, (Ext.refl _).ext _ _, by rw [HS'.out]; exact ho1⟩⟩, by simp [intOf]; omega⟩
                | false =>
                  have HA := hid (Again.out (by simp only [wantB]; have : ¬ r.ship = s := by simpa using ks
                                                simp [this]))
                  clear Again Step
                  go_wp2_with fail
                  exact ⟨⟨k + 1, X, by omega, by go_num, HA.out⟩, by simp [intOf]; omega⟩
              · have HA := hid (Again.out (by simp [wantB, k2]))
                clear Again Step
                go_wp2_with fail
                exact ⟨⟨k + 1, X, by omega, by go_num, HA.out⟩, by simp [intOf]; omega⟩
          · obtain rfl : k = nd := by omega
            have hall : pickL s ((knownL l d).take k) ((standL (knownL l d)).take k) = standingL l s d := by
              rw [hnd.out, List.take_length, ← standL_length, List.take_length]; rfl
            have hO := Hown.out
            rw [hall] at hO
            obtain ⟨Av, mv, cv, rfl, hmv, hcv, hsv⟩ := hO.open
            have HM := hid hmv
            clear Hown hmv hcv hall
            go_wp2_with fail
            go_ret2
            exact ⟨Av, mv, cv, ret_val (by rw [HE.out]; rfl), hid (by rw [HR.out]; exact HM.out), by rw [HR.out]; exact hsv, HP1.out.ext _ _⟩
end Go.Proofs.YtekjdeibnfaehaaGreat
