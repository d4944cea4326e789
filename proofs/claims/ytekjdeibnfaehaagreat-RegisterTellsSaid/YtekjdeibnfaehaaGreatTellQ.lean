/- The reference's Free; lists of runs compared. -/
import Derived.Test.YtekjdeibnfaehaaGreatTellG
set_option linter.unusedSimpArgs false
set_option linter.unusedVariables false
namespace Go.Proofs.YtekjdeibnfaehaaGreat
open Go.RowKit

theorem endP_snoc (at_ : Int) : ∀ (P : List (Int × Int)) (hi : Int) (p : Int × Int), endP at_ hi (P ++ [p]) = if at_ < p.1 then min (endP at_ hi P) (p.1 - 1) else endP at_ hi P
  | [], hi, p => by
    simp only [List.nil_append, endP]
    (repeat' split) <;> omega
  | q :: P, hi, p => by
    simp only [List.cons_append, endP]
    exact endP_snoc at_ P _ p
theorem end_take (l : List Rec) (s at_ hi : Int) {k : Nat} (hk : k < l.length) : endP at_ hi (leasesOf (l.take (k + 1)) s) = if onShip s l[k] = true then (if at_ < l[k].day then min (endP at_ hi (leasesOf (l.take k) s)) (l[k].day - 1) else endP at_ hi (leasesOf (l.take k) s)) else endP at_ hi (leasesOf (l.take k) s) := by
  rw [leasesOf_take l s hk]
  cases h : onShip s l[k]
  · simp
  · simp only [if_true]
    rw [endP_snoc]
theorem FreeAt.length {P : List (Int × Int)} {lo hi at_ : Int} {L : List (Int × Int)} (h : FreeAt P lo hi at_ L) (h0 : 0 ≤ lo) (h1 : hi ≤ 100000) : L.length ≤ 100002 := by
  have := gapped_length _ lo hi h.gapped (runs_bound h.gapped fun d hd => by have := (h.runs d).1 hd; have := h.top; omega)
  revert this
  split <;> intro <;> omega
/-- Where the reference has come to. -/
def topI (b at_ : Int) : Int := if b < at_ then b + 1 else at_
set_option maxRecDepth 100000 in
set_option maxHeartbeats 8000000 in
theorem rFree_err (A : Option Addr) (c n : Nat) (l : List Rec) (s a b : Int) (hn : l.length = n) (hbig : n ≤ 9223372036854775807) (ht : TxtBig l) (herr : freeE l s a b ≠ 0) (w : World) (hr : Recs w A l) :
    Calls Tryz.prog 31 #[regV A n c, .int .i64 s, .agg #[.int .i64 a, .int .i64 b]] w fun e w' => ∃ A' n' c', e = .returned (.tuple #[.slice A' n' c', .int .i64 (freeE l s a b)]) ∧ Hid (n' = (freeR l s a b).length) ∧ Rngs w' A' (freeR l s a b) ∧ Ext w w' := by
  cases hc : checkB l with
  | false =>
    have he := errReg_bad hc
    have HE := hid (freeE_bad (s := s) (a := a) (b := b) hc)
    have HR := hid (freeR_err HE.out (by decide))
    clear hc herr
    go_enter Tryz.func31, Tryz.ntmps31
    go_wp2_with (go_at_call 84; refine (rCheck_any _ _ _ _ (by first | rfl | assumption) (by omega) (by assumption) _ (by with_reducible repeat (first | assumption | apply Recs.ext | apply Recs.alloc | apply Recs.drew | (refine Recs.of_ext ?_ (by assumption))))).mono ?_; rintro e w1 ⟨rfl, E1, d1, rfl⟩)
    go_ret2
    exact ⟨none, 0, 0, ret_val (by rw [HE.out]; rfl), hid (by rw [HR.out]; rfl), by rw [HR.out]; exact Rngs.nil _ _, (by repeat (first | (with_reducible first | exact Ext.refl _ | exact Ext.same _ _ _ _ | assumption | apply Ext.alloc | apply Ext.ext | apply Ext.drew) | (with_reducible refine Ext.setCell ?_ _ _ ?_; rotate_left; focus (first | omega | (simp only [zs1, zs2, zs3, size_ext]; omega)))))⟩
  | true =>
    have he := errReg_ok hc
    cases h1 : inB s 1 999 with
    | false =>
      have HE := hid (freeE_ship (a := a) (b := b) hc h1)
      have HR := hid (freeR_err HE.out (by decide))
      clear hc herr
      go_enter Tryz.func31, Tryz.ntmps31
      go_wp2_with (first | (go_at_call 84; refine (rCheck_any _ _ _ _ (by first | rfl | assumption) (by omega) (by assumption) _ (by with_reducible repeat (first | assumption | apply Recs.ext | apply Recs.alloc | apply Recs.drew | (refine Recs.of_ext ?_ (by assumption))))).mono ?_; rintro e w1 ⟨rfl, E1, d1, rfl⟩) | (go_at_call 92; refine (rin_any _ _ _ _).mono ?_; rintro e w1 ⟨rfl, rfl⟩))
      go_ret2
      exact ⟨none, 0, 0, ret_val (by rw [HE.out]; rfl), hid (by rw [HR.out]; rfl), by rw [HR.out]; exact Rngs.nil _ _, (by repeat (first | (with_reducible first | exact Ext.refl _ | exact Ext.same _ _ _ _ | assumption | apply Ext.alloc | apply Ext.ext | apply Ext.drew) | (with_reducible refine Ext.setCell ?_ _ _ ?_; rotate_left; focus (first | omega | (simp only [zs1, zs2, zs3, size_ext]; omega)))))⟩
    | true =>
      cases h2 : inB a 0 100000 with
      | false =>
        have HE := hid (freeE_day0 (b := b) hc h1 h2)
        have HR := hid (freeR_err HE.out (by decide))
        clear hc herr
        go_enter Tryz.func31, Tryz.ntmps31
        go_wp2_with (first | (go_at_call 84; refine (rCheck_any _ _ _ _ (by first | rfl | assumption) (by omega) (by assumption) _ (by with_reducible repeat (first | assumption | apply Recs.ext | apply Recs.alloc | apply Recs.drew | (refine Recs.of_ext ?_ (by assumption))))).mono ?_; rintro e w1 ⟨rfl, E1, d1, rfl⟩) | (go_at_call 92; refine (rin_any _ _ _ _).mono ?_; rintro e w1 ⟨rfl, rfl⟩))
        go_ret2
        exact ⟨none, 0, 0, ret_val (by rw [HE.out]; rfl), hid (by rw [HR.out]; rfl), by rw [HR.out]; exact Rngs.nil _ _, (by repeat (first | (with_reducible first | exact Ext.refl _ | exact Ext.same _ _ _ _ | assumption | apply Ext.alloc | apply Ext.ext | apply Ext.drew) | (with_reducible refine Ext.setCell ?_ _ _ ?_; rotate_left; focus (first | omega | (simp only [zs1, zs2, zs3, size_ext]; omega)))))⟩
      | true =>
        cases h3 : inB b 0 100000 with
        | false =>
          have HE := hid (freeE_day1 hc h1 h2 h3)
          have HR := hid (freeR_err HE.out (by decide))
          clear hc herr
          go_enter Tryz.func31, Tryz.ntmps31
          go_wp2_with (first | (go_at_call 84; refine (rCheck_any _ _ _ _ (by first | rfl | assumption) (by omega) (by assumption) _ (by with_reducible repeat (first | assumption | apply Recs.ext | apply Recs.alloc | apply Recs.drew | (refine Recs.of_ext ?_ (by assumption))))).mono ?_; rintro e w1 ⟨rfl, E1, d1, rfl⟩) | (go_at_call 92; refine (rin_any _ _ _ _).mono ?_; rintro e w1 ⟨rfl, rfl⟩))
          go_ret2
          exact ⟨none, 0, 0, ret_val (by rw [HE.out]; rfl), hid (by rw [HR.out]; rfl), by rw [HR.out]; exact Rngs.nil _ _, (by repeat (first | (with_reducible first | exact Ext.refl _ | exact Ext.same _ _ _ _ | assumption | apply Ext.alloc | apply Ext.ext | apply Ext.drew) | (with_reducible refine Ext.setCell ?_ _ _ ?_; rotate_left; focus (first | omega | (simp only [zs1, zs2, zs3, size_ext]; omega)))))⟩
        | true =>
          by_cases h4 : b < a
          · have HE := hid (freeE_span hc h1 h2 h3 h4)
            have HR := hid (freeR_err HE.out (by decide))
            clear hc herr
            go_enter Tryz.func31, Tryz.ntmps31
            go_wp2_with (first | (go_at_call 84; refine (rCheck_any _ _ _ _ (by first | rfl | assumption) (by omega) (by assumption) _ (by with_reducible repeat (first | assumption | apply Recs.ext | apply Recs.alloc | apply Recs.drew | (refine Recs.of_ext ?_ (by assumption))))).mono ?_; rintro e w1 ⟨rfl, E1, d1, rfl⟩) | (go_at_call 92; refine (rin_any _ _ _ _).mono ?_; rintro e w1 ⟨rfl, rfl⟩))
            go_ret2
            exact ⟨none, 0, 0, ret_val (by rw [HE.out]; rfl), hid (by rw [HR.out]; rfl), by rw [HR.out]; exact Rngs.nil _ _, (by repeat (first | (with_reducible first | exact Ext.refl _ | exact Ext.same _ _ _ _ | assumption | apply Ext.alloc | apply Ext.ext | apply Ext.drew) | (with_reducible refine Ext.setCell ?_ _ _ ?_; rotate_left; focus (first | omega | (simp only [zs1, zs2, zs3, size_ext]; omega)))))⟩
          · exact absurd (freeE_ok hc h1 h2 h3 h4) herr
set_option maxRecDepth 100000 in
set_option maxHeartbeats 16000000 in
theorem rFree_ok (A : Option Addr) (c n : Nat) (l : List Rec) (s a b : Int) (hn : l.length = n) (hbig : n ≤ 9223372036854775807) (ht : TxtBig l) (herr : freeE l s a b = 0) (w : World) (hr : Recs w A l) :
    Calls Tryz.prog 31 #[regV A n c, .int .i64 s, .agg #[.int .i64 a, .int .i64 b]] w fun e w' => ∃ A' n' c', e = .returned (.tuple #[.slice A' n' c', .int .i64 (freeE l s a b)]) ∧ Hid (n' = (freeR l s a b).length) ∧ Rngs w' A' (freeR l s a b) ∧ Ext w w' := by
  obtain ⟨hc, h1, h2, h3, h4⟩ := freeE_parts herr
  have he := errReg_ok hc
  obtain ⟨h80, hall, _⟩ := checkB_iff.1 hc
  have h80' : n ≤ 80 := by omega
  have HE := hid herr
  have HR := hid (freeR_ok herr)
  have Hall := hid hall
  have HP := hid (leases_ok hall s)
  obtain ⟨ha0, ha1⟩ := inB_spec.1 h2
  obtain ⟨hb0, hb1⟩ := inB_spec.1 h3
  clear hc hall herr
  go_enter Tryz.func31, Tryz.ntmps31
  go_wp2_with (first | (go_at_call 84; refine (rCheck_any _ _ _ _ (by first | rfl | assumption) (by omega) (by assumption) _ (by with_reducible repeat (first | assumption | apply Recs.ext | apply Recs.alloc | apply Recs.drew | (refine Recs.of_ext ?_ (by assumption))))).mono ?_; rintro e w1 ⟨rfl, E1, d1, rfl⟩) | (go_at_call 92; refine (rin_any _ _ _ _).mono ?_; rintro e w1 ⟨rfl, rfl⟩))
  go_loopw [8, 9] (fun v i wr => ∃ (at_ : Int) (L : List (Int × Int)), i = .int .i64 at_ ∧ 0 ≤ at_ ∧ at_ ≤ 100001 ∧ Hid (FreeAt (leasesOf l s) a b (topI b at_) L) ∧ Ext ((w.alloc (.cells #[.slice A n c] 34)).alloc (.cells #[.int .i64 a, .int .i64 b] 28)) wr ∧ OwnG (w.heap.size + 1 + 1) wr v L) (fun _ i _ => (b + 1 - intOf i).toNat)
  case atStart => exact ⟨a, [], rfl, by omega, by omega, hid (by rw [topI, if_neg (by omega)]; exact FreeAt.start _ (by omega)), (by repeat (first | (with_reducible first | exact Ext.refl _ | exact Ext.same _ _ _ _ | assumption | apply Ext.alloc | apply Ext.ext | apply Ext.drew) | (with_reducible refine Ext.setCell ?_ _ _ ?_; rotate_left; focus (first | omega | (simp only [zs1, zs2, zs3, size_ext]; omega))))), OwnG.none _ _⟩
  case round =>
    obtain ⟨at_, L, rfl, hat0, hat1, hfa, ⟨E9, d9, rfl⟩, hown⟩ := hrel
    have Hown := hid hown
    clear hown
    by_cases hlt : at_ ≤ b
    · have hF := hfa.out
      rw [topI, if_neg (by omega)] at hF
      have hlen := hF.length ha0 hb1
      have HF := hid hF
      have Hlen := hid hlen
      clear hfa hF hlen
      rcases held_cases l s at_ with ⟨k, hk, e1, e2, e3⟩ | ⟨e1, e2, e3⟩
      · obtain ⟨g, of, rfl, hg⟩ := hr.addr (by omega)
        have hrow := hr.row hk
        obtain ⟨e4, e5, e6⟩ := lsB_iff.1 e3
        obtain ⟨e7, e8, e9⟩ := lease_days (Hall.out _ (List.getElem_mem hk)) e4
        have hmem := leasesOf_mem.2 ⟨_, List.getElem_mem hk, e4, rfl⟩
        obtain ⟨r, hrk⟩ : ∃ r, l[k] = r := ⟨_, rfl⟩
        rw [hrk] at hrow e5 e6 e7 e8 e9 hmem
        obtain ⟨q0, q1, q2, q3, q4, q5, q6, q7, q8, q9, q10⟩ := hrow
        obtain ⟨s1, s2⟩ := HF.out.skip hlt hmem e5 e6
        have HS : Hid (FreeAt (leasesOf l s) a b (topI b (r.til + 1)) L) := hid (by
          rw [topI]
          by_cases hb : b < r.til
          · rw [if_pos (by omega)]; exact s2 hb
          · have := s1 (by show r.til + 1 ≤ b + 1; omega)
            split
            · rw [show b + 1 = r.til + 1 by omega]; exact this
            · exact this)
        have hw : IntKind.i64.wrap (r.til + 1) = r.til + 1 := IntWalk.i64_in _ (by omega)
        have hkn : k < n := by omega
        clear hrk e2 e3 e4 e5 e7 e8 hmem s1 s2 HF Hlen q0 q1 q2 q3 q4 q5 q6 q7 q8 q10
        go_wp2_with (go_at_call 95; refine (rheld_any _ _ _ _ _ _ (by first | rfl | assumption) (by omega) _ (by with_reducible repeat (first | assumption | apply Recs.ext | apply Recs.alloc | apply Recs.drew | (refine Recs.of_ext ?_ (by assumption))))).mono ?_; rintro e w1 ⟨rfl, E1, d1, rfl⟩)
        exact ⟨⟨r.til + 1, L, rfl, by omega, by omega, HS, (by repeat (first | (with_reducible first | exact Ext.refl _ | exact Ext.same _ _ _ _ | assumption | apply Ext.alloc | apply Ext.ext | apply Ext.drew) | (with_reducible refine Ext.setCell ?_ _ _ ?_; rotate_left; focus (first | omega | (simp only [zs1, zs2, zs3, size_ext]; omega))))), Hown.out.of_ext (by repeat (first | (with_reducible first | exact Ext.refl _ | exact Ext.same _ _ _ _ | assumption | apply Ext.alloc | apply Ext.ext | apply Ext.drew) | (with_reducible refine Ext.setCell ?_ _ _ ?_; rotate_left; focus (first | omega | (simp only [zs1, zs2, zs3, size_ext]; omega)))))⟩, by simp only [intOf]; omega⟩
      · have hno : ¬ heldP (leasesOf l s) at_ := fun h => by
          obtain ⟨r, hr', h⟩ := heldP_iff.1 h
          rw [e3 r hr'] at h; cases h
        have HN := hid (HF.out.run hlt hno HP.out)
        have e0 := endP_spec at_ (leasesOf l s) b hlt
        have e00 := endP_le at_ (leasesOf l s) b
        have HB : Hid (at_ ≤ endP at_ b (leasesOf l s) ∧ endP at_ b (leasesOf l s) ≤ b) := hid ⟨e0.1, e00⟩
        clear e2 e3 hno HF e0 e00
        go_wp2_with (go_at_call 95; refine (rheld_any _ _ _ _ _ _ (by first | rfl | assumption) (by omega) _ (by with_reducible repeat (first | assumption | apply Recs.ext | apply Recs.alloc | apply Recs.drew | (refine Recs.of_ext ?_ (by assumption))))).mono ?_; rintro e w1 ⟨rfl, E1, d1, rfl⟩)
        go_loopw [11, 12] (fun tv jv wr => ∃ (j : Nat) (to : Int), j ≤ n ∧ jv = .int .i64 j ∧ tv = .int .i64 to ∧ Hid (to = endP at_ b (leasesOf (l.take j) s)) ∧ Ext ((w.alloc (.cells #[.slice A n c] 34)).alloc (.cells #[.int .i64 a, .int .i64 b] 28)) wr ∧ OwnG (w.heap.size + 1 + 1) wr u8 L) (fun _ jv _ => n - (intOf jv).toNat)
        case atStart => exact ⟨0, b, by omega, rfl, rfl, hid rfl, (by repeat (first | (with_reducible first | exact Ext.refl _ | exact Ext.same _ _ _ _ | assumption | apply Ext.alloc | apply Ext.ext | apply Ext.drew) | (with_reducible refine Ext.setCell ?_ _ _ ?_; rotate_left; focus (first | omega | (simp only [zs1, zs2, zs3, size_ext]; omega))))), Hown.out.of_ext (by repeat (first | (with_reducible first | exact Ext.refl _ | exact Ext.same _ _ _ _ | assumption | apply Ext.alloc | apply Ext.ext | apply Ext.drew) | (with_reducible refine Ext.setCell ?_ _ _ ?_; rotate_left; focus (first | omega | (simp only [zs1, zs2, zs3, size_ext]; omega)))))⟩
        case round =>
          obtain ⟨j, to, hj, rfl, rfl, hto, ⟨E8, d8, rfl⟩, hown⟩ := hrel
          have Hown2 := hid hown
          clear hown Hown
          by_cases hlj : j < n
          · have hm : j < l.length := by omega
            obtain ⟨g, of, rfl, hg⟩ := hr.addr (by omega)
            have hrow := hr.row hm
            have hst := end_take l s at_ b hm
            rw [← hto.out] at hst
            have hday : onShip s l[j] = true → 0 ≤ l[j].day ∧ l[j].day ≤ l[j].til ∧ l[j].til ≤ 100000 := lease_days (Hall.out _ (List.getElem_mem hm))
            obtain ⟨r, hrk⟩ : ∃ r, l[j] = r := ⟨_, rfl⟩
            rw [hrk] at hrow hst hday
            obtain ⟨q0, q1, q2, q3, q4, q5, q6, q7, q8, q9, q10⟩ := hrow
            have Hst := hid hst
            have Hday := hid hday
            clear hrk hst hday hto
            cases k1 : (r.kind == 1) with
            | false =>
              have hs : onShip s r = false := by
                have : ¬ r.kind = 1 := by simpa using k1
                simp [onShip, this]
              have HS := Hst.out
              rw [hs] at HS
              have HS2 := hid HS
              clear HS hs Hst Hday
              go_wp2_with fail
              exact ⟨⟨j + 1, to, by omega, by go_num, rfl, hid (by rw [HS2.out]; rfl), (by repeat (first | (with_reducible first | exact Ext.refl _ | exact Ext.same _ _ _ _ | assumption | apply Ext.alloc | apply Ext.ext | apply Ext.drew) | (with_reducible refine Ext.setCell ?_ _ _ ?_; rotate_left; focus (first | omega | (simp only [zs1, zs2, zs3, size_ext]; omega))))), Hown2.out.of_ext (by repeat (first | (with_reducible first | exact Ext.refl _ | exact Ext.same _ _ _ _ | assumption | apply Ext.alloc | apply Ext.ext | apply Ext.drew) | (with_reducible refine Ext.setCell ?_ _ _ ?_; rotate_left; focus (first | omega | (simp only [zs1, zs2, zs3, size_ext]; omega)))))⟩, by simp [intOf]; omega⟩
            | true =>
              cases k2 : (r.ship == s) with
              | false =>
                have hs : onShip s r = false := by
                  have : ¬ r.ship = s := by simpa using k2
                  simp [onShip, this]
                have HS := Hst.out
                rw [hs] at HS
                have HS2 := hid HS
                clear HS hs Hst Hday
                go_wp2_with fail
                exact ⟨⟨j + 1, to, by omega, by go_num, rfl, hid (by rw [HS2.out]; rfl), (by repeat (first | (with_reducible first | exact Ext.refl _ | exact Ext.same _ _ _ _ | assumption | apply Ext.alloc | apply Ext.ext | apply Ext.drew) | (with_reducible refine Ext.setCell ?_ _ _ ?_; rotate_left; focus (first | omega | (simp only [zs1, zs2, zs3, size_ext]; omega))))), Hown2.out.of_ext (by repeat (first | (with_reducible first | exact Ext.refl _ | exact Ext.same _ _ _ _ | assumption | apply Ext.alloc | apply Ext.ext | apply Ext.drew) | (with_reducible refine Ext.setCell ?_ _ _ ?_; rotate_left; focus (first | omega | (simp only [zs1, zs2, zs3, size_ext]; omega)))))⟩, by simp [intOf]; omega⟩
              | true =>
                have hs : onShip s r = true := by simp [onShip, eq_of_beq k1, eq_of_beq k2]
                obtain ⟨z0, z1, z2⟩ := Hday.out hs
                have HS := Hst.out
                rw [hs, if_pos rfl] at HS
                have hw : IntKind.i64.wrap (r.day - 1) = r.day - 1 := IntWalk.i64_in _ (by omega)
                by_cases k3 : at_ < r.day
                · rw [if_pos k3] at HS
                  have HS2 := hid HS
                  clear HS hs Hst Hday
                  go_wp2_with fail
                  exact ⟨⟨j + 1, _, by omega, by go_num, rfl, HS2.out.symm, (by repeat (first | (with_reducible first | exact Ext.refl _ | exact Ext.same _ _ _ _ | assumption | apply Ext.alloc | apply Ext.ext | apply Ext.drew) | (with_reducible refine Ext.setCell ?_ _ _ ?_; rotate_left; focus (first | omega | (simp only [zs1, zs2, zs3, size_ext]; omega))))), Hown2.out.of_ext (by repeat (first | (with_reducible first | exact Ext.refl _ | exact Ext.same _ _ _ _ | assumption | apply Ext.alloc | apply Ext.ext | apply Ext.drew) | (with_reducible refine Ext.setCell ?_ _ _ ?_; rotate_left; focus (first | omega | (simp only [zs1, zs2, zs3, size_ext]; omega)))))⟩, by simp [intOf]; omega⟩
                · rw [if_neg k3] at HS
                  have HS2 := hid HS
                  clear HS hs Hst Hday
                  go_wp2_with fail
                  exact ⟨⟨j + 1, to, by omega, by go_num, rfl, hid HS2.out.symm, (by repeat (first | (with_reducible first | exact Ext.refl _ | exact Ext.same _ _ _ _ | assumption | apply Ext.alloc | apply Ext.ext | apply Ext.drew) | (with_reducible refine Ext.setCell ?_ _ _ ?_; rotate_left; focus (first | omega | (simp only [zs1, zs2, zs3, size_ext]; omega))))), Hown2.out.of_ext (by repeat (first | (with_reducible first | exact Ext.refl _ | exact Ext.same _ _ _ _ | assumption | apply Ext.alloc | apply Ext.ext | apply Ext.drew) | (with_reducible refine Ext.setCell ?_ _ _ ?_; rotate_left; focus (first | omega | (simp only [zs1, zs2, zs3, size_ext]; omega)))))⟩, by simp [intOf]; omega⟩
          · have e9 := hto.out
            rw [List.take_of_length_le (show l.length ≤ j by omega)] at e9
            have HNa := HN.out
            have HBa := HB.out
            rw [← e9] at HNa HBa
            obtain ⟨y1, y2⟩ := HBa
            have HN2 : Hid (FreeAt (leasesOf l s) a b (topI b (to + 1)) (L ++ [(at_, to)])) := hid (by
              rw [topI]
              split
              · rw [show b + 1 = to + 1 by omega]; exact HNa
              · exact HNa)
            have hw : IntKind.i64.wrap (to + 1) = to + 1 := IntWalk.i64_in _ (by omega)
            clear HNa HN HB e9 hto
            go_wp2_with (at_builtin; refine wpList_arng rfl ((w.alloc (.cells #[.slice A n c] 34)).alloc (.cells #[.int .i64 a, .int .i64 b] 28)) (w.heap.size + 1 + 1) (by simp [World.size_alloc]) rfl _ _ rfl [(at_, to)] rfl (by exact (by repeat (first | (with_reducible first | exact Ext.refl _ | exact Ext.same _ _ _ _ | assumption | apply Ext.alloc | apply Ext.ext | apply Ext.drew) | (with_reducible refine Ext.setCell ?_ _ _ ?_; rotate_left; focus (first | omega | (simp only [zs1, zs2, zs3, size_ext]; omega)))))) (by exact Hown2.out.of_ext (by repeat (first | (with_reducible first | exact Ext.refl _ | exact Ext.same _ _ _ _ | assumption | apply Ext.alloc | apply Ext.ext | apply Ext.drew) | (with_reducible refine Ext.setCell ?_ _ _ ?_; rotate_left; focus (first | omega | (simp only [zs1, zs2, zs3, size_ext]; omega)))))) rfl rfl (Sl_at (encRng (at_, to)) _ 2 1 _ rfl (by simp [World.size_alloc])) (by have := Hlen.out; simp only [List.length_cons, List.length_nil]; omega) (fun v1 E1 d1 ho1 => ?_))
            exact ⟨⟨to + 1, _, rfl, by omega, by omega, HN2, (Ext.refl _).ext _ _, ho1⟩, by simp only [intOf]; omega⟩
    · have hF := hfa.out
      rw [topI, if_pos (by omega)] at hF
      have hd := hF.done (by omega) HP.out
      have hO := Hown.out
      rw [hd] at hO
      obtain ⟨Av, mv, cv, rfl, hmv, hcv, hsv⟩ := hO.open
      have HM := hid hmv
      have Hsv := hid hsv
      clear Hown hmv hcv hsv hO hd hF hfa
      go_wp2_with fail
      go_ret2
      exact ⟨Av, mv, ⟨cv, ret_val (by rw [HE.out]; rfl)⟩, hid (by rw [HR.out]; exact HM.out), by rw [HR.out]; exact Hsv.out.of_ext (by repeat (first | (with_reducible first | exact Ext.refl _ | exact Ext.same _ _ _ _ | assumption | apply Ext.alloc | apply Ext.ext | apply Ext.drew) | (with_reducible refine Ext.setCell ?_ _ _ ?_; rotate_left; focus (first | omega | (simp only [zs1, zs2, zs3, size_ext]; omega))))), (by repeat (first | (with_reducible first | exact Ext.refl _ | exact Ext.same _ _ _ _ | assumption | apply Ext.alloc | apply Ext.ext | apply Ext.drew) | (with_reducible refine Ext.setCell ?_ _ _ ?_; rotate_left; focus (first | omega | (simp only [zs1, zs2, zs3, size_ext]; omega)))))⟩
theorem rFree_any (A : Option Addr) (c n : Nat) (l : List Rec) (s a b : Int) (hn : l.length = n) (hbig : n ≤ 9223372036854775807) (ht : TxtBig l) (w : World) (hr : Recs w A l) :
    Calls Tryz.prog 31 #[regV A n c, .int .i64 s, .agg #[.int .i64 a, .int .i64 b]] w fun e w' => ∃ A' n' c', e = .returned (.tuple #[.slice A' n' c', .int .i64 (freeE l s a b)]) ∧ Hid (n' = (freeR l s a b).length) ∧ Rngs w' A' (freeR l s a b) ∧ Ext w w' := by
  by_cases h : freeE l s a b = 0
  · exact rFree_ok A c n l s a b hn hbig ht h w hr
  · exact rFree_err A c n l s a b hn hbig ht h w hr
end Go.Proofs.YtekjdeibnfaehaaGreat
