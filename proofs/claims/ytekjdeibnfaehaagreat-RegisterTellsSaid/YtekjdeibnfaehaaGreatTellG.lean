/- Free, both; lists of runs compared. -/
import Derived.Test.YtekjdeibnfaehaaGreatTellF
set_option linter.unusedSimpArgs false
set_option linter.unusedVariables false
namespace Go.Proofs.YtekjdeibnfaehaaGreat
open Go.RowKit

theorem gapped_length : ∀ (L : List (Int × Int)) (lo hi : Int), Gapped L → (∀ x ∈ L, lo ≤ x.1 ∧ x.2 ≤ hi) → (L.length : Int) ≤ if hi + 1 < lo then 0 else hi + 1 - lo
  | [], lo, hi, _, _ => by simp only [List.length_nil]; split <;> omega
  | x :: L, lo, hi, h, hb => by
    obtain ⟨h1, h2, h3⟩ := Gapped.cons.1 h
    have hx := hb x (by simp)
    have ih := gapped_length L (x.2 + 1) hi h3 (fun y hy => by
      have := h2 y hy
      have := hb y (by simp [hy])
      omega)
    rw [List.length_cons, if_neg (by omega)]
    revert ih
    split <;> intro ih <;> omega
theorem runs_bound {L : List (Int × Int)} {lo hi : Int} (h : Gapped L) (hr : ∀ d, inRuns L d → lo ≤ d ∧ d ≤ hi) : ∀ x ∈ L, lo ≤ x.1 ∧ x.2 ≤ hi := fun x hx =>
  ⟨(hr x.1 ⟨x, hx, Int.le_refl _, h.1 x hx⟩).1, (hr x.2 ⟨x, hx, h.1 x hx, Int.le_refl _⟩).2⟩
theorem freeP_length {P : List (Int × Int)} (hp : ∀ p ∈ P, p.1 ≤ p.2) {a b : Int} (ha : 0 ≤ a) (hab : a ≤ b) (hb : b ≤ 100000) : (freeP P a b).length ≤ 100001 := by
  obtain ⟨h1, h2⟩ := free_spec hp hab
  have := gapped_length _ a b h1 (runs_bound h1 fun d hd => ((h2 d).1 hd).1)
  rw [if_neg (by omega)] at this
  omega
theorem freeE_bad {l : List Rec} {s a b : Int} (h : checkB l = false) : freeE l s a b = 71 := by simp [freeE, h]
theorem freeE_ship {l : List Rec} {s a b : Int} (h : checkB l = true) (h2 : inB s 1 999 = false) : freeE l s a b = 1 := by simp [freeE, h, h2]
theorem freeE_day0 {l : List Rec} {s a b : Int} (h : checkB l = true) (h2 : inB s 1 999 = true) (h3 : inB a 0 100000 = false) : freeE l s a b = 6 := by simp [freeE, h, h2, h3]
theorem freeE_day1 {l : List Rec} {s a b : Int} (h : checkB l = true) (h2 : inB s 1 999 = true) (h3 : inB a 0 100000 = true) (h4 : inB b 0 100000 = false) : freeE l s a b = 6 := by simp [freeE, h, h2, h3, h4]
theorem freeE_span {l : List Rec} {s a b : Int} (h : checkB l = true) (h2 : inB s 1 999 = true) (h3 : inB a 0 100000 = true) (h4 : inB b 0 100000 = true) (h5 : b < a) : freeE l s a b = 1 := by simp [freeE, h, h2, h3, h4, h5]
theorem freeE_ok {l : List Rec} {s a b : Int} (h : checkB l = true) (h2 : inB s 1 999 = true) (h3 : inB a 0 100000 = true) (h4 : inB b 0 100000 = true) (h5 : ¬ b < a) : freeE l s a b = 0 := by simp [freeE, h, h2, h3, h4, h5]
theorem freeR_err {l : List Rec} {s a b e : Int} (h : freeE l s a b = e) (he : e ≠ 0) : freeR l s a b = [] := by rw [freeR, if_neg (by rw [h]; exact he)]
theorem freeR_ok {l : List Rec} {s a b : Int} (h : freeE l s a b = 0) : freeR l s a b = freeP (leasesOf l s) a b := by rw [freeR, if_pos h]
set_option maxRecDepth 100000 in
set_option maxHeartbeats 8000000 in
theorem Free_err (A : Option Addr) (c n : Nat) (l : List Rec) (s a b : Int) (hn : l.length = n) (hbig : n ≤ 9223372036854775807) (ht : TxtBig l) (herr : freeE l s a b ≠ 0) (w : World) (hr : Recs w A l) :
    Calls Tryz.prog 30 #[regV A n c, .int .i64 s, .int .i64 a, .int .i64 b] w fun e w' => ∃ A' n' c', e = .returned (.tuple #[.slice A' n' c', .int .i64 (freeE l s a b)]) ∧ Hid (n' = (freeR l s a b).length) ∧ Rngs w' A' (freeR l s a b) ∧ Ext w w' := by
  cases hc : checkB l with
  | false =>
    have he := errReg_bad hc
    have HE := hid (freeE_bad (s := s) (a := a) (b := b) hc)
    have HR := hid (freeR_err HE.out (by decide))
    clear hc herr
    go_enter Tryz.func30, Tryz.ntmps30
    go_wp2_with (go_at_call 81; refine (Check_any _ _ _ _ (by first | rfl | assumption) (by omega) (by assumption) _ (by with_reducible repeat (first | assumption | apply Recs.ext | apply Recs.alloc | apply Recs.drew | (refine Recs.of_ext ?_ (by assumption))))).mono ?_; rintro e w1 ⟨rfl, E1, d1, rfl⟩)
    go_ret2
    exact ⟨none, 0, 0, ret_val (by rw [HE.out]; rfl), hid (by rw [HR.out]; rfl), by rw [HR.out]; exact Rngs.nil _ _, (by repeat (first | (with_reducible first | exact Ext.refl _ | exact Ext.same _ _ _ _ | assumption | apply Ext.alloc | apply Ext.ext | apply Ext.drew) | (with_reducible refine Ext.setCell ?_ _ _ ?_; rotate_left; focus (first | omega | (simp only [zs1, zs2, zs3, size_ext]; omega)))))⟩
  | true =>
    have he := errReg_ok hc
    cases h1 : inB s 1 999 with
    | false =>
      have HE := hid (freeE_ship (a := a) (b := b) hc h1)
      have HR := hid (freeR_err HE.out (by decide))
      clear hc herr
      go_enter Tryz.func30, Tryz.ntmps30
      go_wp2_with (first | (go_at_call 81; refine (Check_any _ _ _ _ (by first | rfl | assumption) (by omega) (by assumption) _ (by with_reducible repeat (first | assumption | apply Recs.ext | apply Recs.alloc | apply Recs.drew | (refine Recs.of_ext ?_ (by assumption))))).mono ?_; rintro e w1 ⟨rfl, E1, d1, rfl⟩) | (go_at_call 87; refine (isShip_any _ _).mono ?_; rintro e w1 ⟨rfl, rfl⟩))
      go_ret2
      exact ⟨none, 0, 0, ret_val (by rw [HE.out]; rfl), hid (by rw [HR.out]; rfl), by rw [HR.out]; exact Rngs.nil _ _, (by repeat (first | (with_reducible first | exact Ext.refl _ | exact Ext.same _ _ _ _ | assumption | apply Ext.alloc | apply Ext.ext | apply Ext.drew) | (with_reducible refine Ext.setCell ?_ _ _ ?_; rotate_left; focus (first | omega | (simp only [zs1, zs2, zs3, size_ext]; omega)))))⟩
    | true =>
      cases h2 : inB a 0 100000 with
      | false =>
        have HE := hid (freeE_day0 (b := b) hc h1 h2)
        have HR := hid (freeR_err HE.out (by decide))
        clear hc herr
        go_enter Tryz.func30, Tryz.ntmps30
        go_wp2_with (first | (go_at_call 81; refine (Check_any _ _ _ _ (by first | rfl | assumption) (by omega) (by assumption) _ (by with_reducible repeat (first | assumption | apply Recs.ext | apply Recs.alloc | apply Recs.drew | (refine Recs.of_ext ?_ (by assumption))))).mono ?_; rintro e w1 ⟨rfl, E1, d1, rfl⟩) | (go_at_call 87; refine (isShip_any _ _).mono ?_; rintro e w1 ⟨rfl, rfl⟩) | (go_at_call 88; refine (isDay_any _ _).mono ?_; rintro e w1 ⟨rfl, rfl⟩))
        go_ret2
        exact ⟨none, 0, 0, ret_val (by rw [HE.out]; rfl), hid (by rw [HR.out]; rfl), by rw [HR.out]; exact Rngs.nil _ _, (by repeat (first | (with_reducible first | exact Ext.refl _ | exact Ext.same _ _ _ _ | assumption | apply Ext.alloc | apply Ext.ext | apply Ext.drew) | (with_reducible refine Ext.setCell ?_ _ _ ?_; rotate_left; focus (first | omega | (simp only [zs1, zs2, zs3, size_ext]; omega)))))⟩
      | true =>
        cases h3 : inB b 0 100000 with
        | false =>
          have HE := hid (freeE_day1 hc h1 h2 h3)
          have HR := hid (freeR_err HE.out (by decide))
          clear hc herr
          go_enter Tryz.func30, Tryz.ntmps30
          go_wp2_with (first | (go_at_call 81; refine (Check_any _ _ _ _ (by first | rfl | assumption) (by omega) (by assumption) _ (by with_reducible repeat (first | assumption | apply Recs.ext | apply Recs.alloc | apply Recs.drew | (refine Recs.of_ext ?_ (by assumption))))).mono ?_; rintro e w1 ⟨rfl, E1, d1, rfl⟩) | (go_at_call 87; refine (isShip_any _ _).mono ?_; rintro e w1 ⟨rfl, rfl⟩) | (go_at_call 88; refine (isDay_any _ _).mono ?_; rintro e w1 ⟨rfl, rfl⟩))
          go_ret2
          exact ⟨none, 0, 0, ret_val (by rw [HE.out]; rfl), hid (by rw [HR.out]; rfl), by rw [HR.out]; exact Rngs.nil _ _, (by repeat (first | (with_reducible first | exact Ext.refl _ | exact Ext.same _ _ _ _ | assumption | apply Ext.alloc | apply Ext.ext | apply Ext.drew) | (with_reducible refine Ext.setCell ?_ _ _ ?_; rotate_left; focus (first | omega | (simp only [zs1, zs2, zs3, size_ext]; omega)))))⟩
        | true =>
          by_cases h4 : b < a
          · have HE := hid (freeE_span hc h1 h2 h3 h4)
            have HR := hid (freeR_err HE.out (by decide))
            clear hc herr
            go_enter Tryz.func30, Tryz.ntmps30
            go_wp2_with (first | (go_at_call 81; refine (Check_any _ _ _ _ (by first | rfl | assumption) (by omega) (by assumption) _ (by with_reducible repeat (first | assumption | apply Recs.ext | apply Recs.alloc | apply Recs.drew | (refine Recs.of_ext ?_ (by assumption))))).mono ?_; rintro e w1 ⟨rfl, E1, d1, rfl⟩) | (go_at_call 87; refine (isShip_any _ _).mono ?_; rintro e w1 ⟨rfl, rfl⟩) | (go_at_call 88; refine (isDay_any _ _).mono ?_; rintro e w1 ⟨rfl, rfl⟩))
            go_ret2
            exact ⟨none, 0, 0, ret_val (by rw [HE.out]; rfl), hid (by rw [HR.out]; rfl), by rw [HR.out]; exact Rngs.nil _ _, (by repeat (first | (with_reducible first | exact Ext.refl _ | exact Ext.same _ _ _ _ | assumption | apply Ext.alloc | apply Ext.ext | apply Ext.drew) | (with_reducible refine Ext.setCell ?_ _ _ ?_; rotate_left; focus (first | omega | (simp only [zs1, zs2, zs3, size_ext]; omega)))))⟩
          · exact absurd (freeE_ok hc h1 h2 h3 h4) herr
theorem freeE_parts {l : List Rec} {s a b : Int} (h : freeE l s a b = 0) : checkB l = true ∧ inB s 1 999 = true ∧ inB a 0 100000 = true ∧ inB b 0 100000 = true ∧ ¬ b < a := by
  unfold freeE at h
  split at h
  · rename_i h1
    split at h
    · rename_i h2
      split at h
      · rename_i h3
        rw [Bool.and_eq_true] at h3
        split at h
        · cases h
        · rename_i h4; exact ⟨h1, h2, h3.1, h3.2, h4⟩
      · cases h
    · cases h
  · cases h
theorem leases_take_ok {l : List Rec} (h : checkB l = true) (s : Int) (k : Nat) : ∀ p ∈ leasesOf (l.take k) s, p.1 ≤ p.2 :=
  leases_ok (fun r hr => (checkB_iff.1 h).2.1 r (List.mem_of_mem_take hr)) s
set_option maxRecDepth 100000 in
set_option maxHeartbeats 8000000 in
theorem Free_ok (A : Option Addr) (c n : Nat) (l : List Rec) (s a b : Int) (hn : l.length = n) (hbig : n ≤ 9223372036854775807) (ht : TxtBig l) (herr : freeE l s a b = 0) (w : World) (hr : Recs w A l) :
    Calls Tryz.prog 30 #[regV A n c, .int .i64 s, .int .i64 a, .int .i64 b] w fun e w' => ∃ A' n' c', e = .returned (.tuple #[.slice A' n' c', .int .i64 (freeE l s a b)]) ∧ Hid (n' = (freeR l s a b).length) ∧ Rngs w' A' (freeR l s a b) ∧ Ext w w' := by
  obtain ⟨hc, h1, h2, h3, h4⟩ := freeE_parts herr
  have he := errReg_ok hc
  obtain ⟨h80, hall, _⟩ := checkB_iff.1 hc
  have h80' : n ≤ 80 := by omega
  have HE := hid herr
  have HR := hid (freeR_ok herr)
  have HC := hid hc
  have Hall := hid hall
  obtain ⟨ha0, ha1⟩ := inB_spec.1 h2
  obtain ⟨hb0, hb1⟩ := inB_spec.1 h3
  clear hc hall herr
  go_enter Tryz.func30, Tryz.ntmps30
  go_wp2_with (first | (go_at_call 81; refine (Check_any _ _ _ _ (by first | rfl | assumption) (by omega) (by assumption) _ (by with_reducible repeat (first | assumption | apply Recs.ext | apply Recs.alloc | apply Recs.drew | (refine Recs.of_ext ?_ (by assumption))))).mono ?_; rintro e w1 ⟨rfl, E1, d1, rfl⟩) | (go_at_call 87; refine (isShip_any _ _).mono ?_; rintro e w1 ⟨rfl, rfl⟩) | (go_at_call 88; refine (isDay_any _ _).mono ?_; rintro e w1 ⟨rfl, rfl⟩))
  go_loopw [10, 41] (fun v i wr => ∃ (k : Nat) (A' : Option Addr) (n' c' : Nat), k ≤ n ∧ i = .int .i64 k ∧ v = .slice A' n' c' ∧ Hid (n' = (freeP (leasesOf (l.take k) s) a b).length) ∧ Ext (w.alloc (.cells #[.slice A n c] 34)) wr ∧ Rngs wr A' (freeP (leasesOf (l.take k) s) a b)) (fun _ i _ => n - (intOf i).toNat)
  case atStart => exact ⟨0, _, _, _, Nat.zero_le _, rfl, rfl, hid rfl, (by repeat (first | (with_reducible first | exact Ext.refl _ | exact Ext.same _ _ _ _ | assumption | apply Ext.alloc | apply Ext.ext | apply Ext.drew) | (with_reducible refine Ext.setCell ?_ _ _ ?_; rotate_left; focus (first | omega | (simp only [zs1, zs2, zs3, size_ext]; omega))))), Sl_at (encRng (a, b)) _ 2 1 _ rfl (by simp [World.size_alloc])⟩
  case round =>
    obtain ⟨k, A', n', c', hk, rfl, rfl, hn', ⟨E9, d9, rfl⟩, hrg⟩ := hrel
    by_cases hlt : k < n
    · have hm : k < l.length := by omega
      obtain ⟨g, of, rfl, hg⟩ := hr.addr (by omega)
      have hrow := hr.row hm
      have hst := free_take l s a b hm
      have hlen := freeP_length (leases_take_ok HC.out s k) ha0 (show a ≤ b by omega) hb1
      have hday : onShip s l[k] = true → 0 ≤ l[k].day ∧ l[k].day ≤ l[k].til ∧ l[k].til ≤ 100000 := lease_days (Hall.out _ (List.getElem_mem hm))
      obtain ⟨r, hrk⟩ : ∃ r, l[k] = r := ⟨_, rfl⟩
      rw [hrk] at hrow hst hday
      obtain ⟨q0, q1, q2, q3, q4, q5, q6, q7, q8, q9, q10⟩ := hrow
      have Hst := hid hst
      have Hday := hid hday
      have Hlen := hid hlen
      clear hrk hst hday hlen
      cases k1 : (r.kind == 1) with
      | false =>
        have hs : onShip s r = false := by
          have : ¬ r.kind = 1 := by simpa using k1
          simp [onShip, this]
        have HS := Hst.out
        rw [hs] at HS
        have HS2 := hid HS
        clear HS hs Hst Hday
        go_wp2_with fail
        exact ⟨⟨k + 1, _, _, _, by omega, by go_num, rfl, hid (by rw [hn'.out, HS2.out]; rfl), (by repeat (first | (with_reducible first | exact Ext.refl _ | exact Ext.same _ _ _ _ | assumption | apply Ext.alloc | apply Ext.ext | apply Ext.drew) | (with_reducible refine Ext.setCell ?_ _ _ ?_; rotate_left; focus (first | omega | (simp only [zs1, zs2, zs3, size_ext]; omega))))), by rw [HS2.out]; exact hrg.of_ext (by repeat (first | (with_reducible first | exact Ext.refl _ | exact Ext.same _ _ _ _ | assumption | apply Ext.alloc | apply Ext.ext | apply Ext.drew) | (with_reducible refine Ext.setCell ?_ _ _ ?_; rotate_left; focus (first | omega | (simp only [zs1, zs2, zs3, size_ext]; omega)))))⟩, by simp [intOf]; omega⟩
      | true =>
        cases k2 : (r.ship == s) with
        | false =>
          have hs : onShip s r = false := by
            have : ¬ r.ship = s := by simpa using k2
            simp [onShip, this]
          have HS := Hst.out
          rw [hs] at HS
          have HS2 := hid HS
          clear HS hs Hst Hday
          go_wp2_with fail
          exact ⟨⟨k + 1, _, _, _, by omega, by go_num, rfl, hid (by rw [hn'.out, HS2.out]; rfl), (by repeat (first | (with_reducible first | exact Ext.refl _ | exact Ext.same _ _ _ _ | assumption | apply Ext.alloc | apply Ext.ext | apply Ext.drew) | (with_reducible refine Ext.setCell ?_ _ _ ?_; rotate_left; focus (first | omega | (simp only [zs1, zs2, zs3, size_ext]; omega))))), by rw [HS2.out]; exact hrg.of_ext (by repeat (first | (with_reducible first | exact Ext.refl _ | exact Ext.same _ _ _ _ | assumption | apply Ext.alloc | apply Ext.ext | apply Ext.drew) | (with_reducible refine Ext.setCell ?_ _ _ ?_; rotate_left; focus (first | omega | (simp only [zs1, zs2, zs3, size_ext]; omega)))))⟩, by simp [intOf]; omega⟩
        | true =>
          have hs : onShip s r = true := by simp [onShip, eq_of_beq k1, eq_of_beq k2]
          obtain ⟨d0, d1, d2⟩ := Hday.out hs
          have HS := Hst.out
          rw [hs, if_pos rfl] at HS
          have HS2 := hid HS
          clear HS hs Hst Hday
          go_wp2_with (go_at_call 96; refine (cutR_any _ _ _ (freeP (leasesOf (l.take k) s) a b) _ _ (Hid.out hn').symm (by have := Hlen.out; have := hn'.out; omega) (by omega) (by omega) (by omega) (by omega) _ (by exact Rngs.of_ext hrg (by repeat (first | (with_reducible first | exact Ext.refl _ | exact Ext.same _ _ _ _ | assumption | apply Ext.alloc | apply Ext.ext | apply Ext.drew) | (with_reducible refine Ext.setCell ?_ _ _ ?_; rotate_left; focus (first | omega | (simp only [zs1, zs2, zs3, size_ext]; omega))))))).mono ?_; rintro e w1 ⟨Ac, nc, cc, rfl, hnc, hrc, Ec, dc, rfl⟩)
          exact ⟨⟨k + 1, _, _, _, by omega, by go_num, rfl, hid (by rw [hnc.out, HS2.out]), (by repeat (first | (with_reducible first | exact Ext.refl _ | exact Ext.same _ _ _ _ | assumption | apply Ext.alloc | apply Ext.ext | apply Ext.drew) | (with_reducible refine Ext.setCell ?_ _ _ ?_; rotate_left; focus (first | omega | (simp only [zs1, zs2, zs3, size_ext]; omega))))), by rw [HS2.out]; exact hrc⟩, by simp [intOf]; omega⟩
    · obtain rfl : k = n := by omega
      rw [List.take_of_length_le (show l.length ≤ k by omega)] at hn' hrg
      go_wp2_with fail
      go_ret2
      exact ⟨_, _, _, ret_val (by rw [HE.out]; rfl), hid (by rw [HR.out]; exact hn'.out), by rw [HR.out]; exact hrg, (by repeat (first | (with_reducible first | exact Ext.refl _ | exact Ext.same _ _ _ _ | assumption | apply Ext.alloc | apply Ext.ext | apply Ext.drew) | (with_reducible refine Ext.setCell ?_ _ _ ?_; rotate_left; focus (first | omega | (simp only [zs1, zs2, zs3, size_ext]; omega)))))⟩
theorem Free_any (A : Option Addr) (c n : Nat) (l : List Rec) (s a b : Int) (hn : l.length = n) (hbig : n ≤ 9223372036854775807) (ht : TxtBig l) (w : World) (hr : Recs w A l) :
    Calls Tryz.prog 30 #[regV A n c, .int .i64 s, .int .i64 a, .int .i64 b] w fun e w' => ∃ A' n' c', e = .returned (.tuple #[.slice A' n' c', .int .i64 (freeE l s a b)]) ∧ Hid (n' = (freeR l s a b).length) ∧ Rngs w' A' (freeR l s a b) ∧ Ext w w' := by
  by_cases h : freeE l s a b = 0
  · exact Free_ok A c n l s a b hn hbig ht h w hr
  · exact Free_err A c n l s a b hn hbig ht h w hr
end Go.Proofs.YtekjdeibnfaehaaGreat
