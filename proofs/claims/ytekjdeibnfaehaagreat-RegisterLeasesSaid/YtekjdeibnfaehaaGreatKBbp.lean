/- Texts of a proof. -/
import Derived.Test.YtekjdeibnfaehaaGreatKBbn
import Derived.Test.YtekjdeibnfaehaaGreatKBal
/- Who holds a lease, both. -/
set_option linter.unusedSimpArgs false
set_option linter.unusedVariables false
namespace Go.Proofs.YtekjdeibnfaehaaGreat
open Go.RowKit

set_option maxRecDepth 100000 in
set_option maxHeartbeats 8000000 in
theorem rheld_any (A : Option Addr) (c n : Nat) (l : List Rec) (s d : Int) (hn : l.length = n) (hbig : n ≤ 100000) (w : World) (hr : Recs w A l) :
    Calls Tryz.prog 95 #[regV A n c, .int .i64 s, .int .i64 d] w fun e w' => e = .returned (.int .i64 (heldI l s d)) ∧ Ext w w' := by
  go_enter Tryz.func95, Tryz.ntmps95
  go_wp2_with fail
  go_loopw [7] (fun i wr => ∃ k : Nat, k ≤ n ∧ i = .int .i64 k ∧ Ext (w.alloc (.cells #[.slice A n c] 34)) wr ∧ (∀ t (ht : t < l.length), t < k → lsB s d l[t] = false)) (fun i _ => n - (intOf i).toNat)
  case atStart => exact ⟨0, Nat.zero_le _, rfl, Ext.refl _, fun t _ h => absurd h (Nat.not_lt_zero _)⟩
  case round =>
    obtain ⟨k, hk, rfl, ⟨E0, d0, rfl⟩, hno⟩ := hrel
    have Hno := hid hno
    clear hno
    by_cases hlt : k < n
    · have hm : k < l.length := by omega
      obtain ⟨g, of, rfl, hg⟩ := hr.addr (by omega)
      have hrow := hr.row hm
      obtain ⟨r, hrk⟩ : ∃ r, l[k] = r := ⟨_, rfl⟩
      rw [hrk] at hrow
      obtain ⟨h0, h1, h2, h3, h4, h5, h6, h7, h8, h9, h10⟩ := hrow
      have Hrk := hid hrk
      clear hrk
      have Hit : Hid (lsB s d r = true → heldI l s d = k) := hid fun h => heldI_hit hm (by rw [Hrk.out]; exact h) (fun t h1 h2 => Hno.out t h1 h2)
      have Miss : Hid (lsB s d r = false → ∀ t (ht : t < l.length), t < k + 1 → lsB s d l[t] = false) := hid fun h t h1 h2 => by
        by_cases he : t = k
        · subst he; rw [Hrk.out]; exact h
        · exact Hno.out t h1 (by omega)
      clear Hrk Hno
      cases k1 : (r.kind == 1) with
      | false =>
        have HM := hid (Miss.out (by have : ¬ r.kind = 1 := by simpa using k1
                                     simp [lsB, this]))
        clear Miss Hit
        go_wp2_with fail
        exact ⟨⟨k + 1, by omega, by go_num, exI, HM.out⟩, by simp [intOf]; omega⟩
      | true =>
        cases k2 : (r.ship == s) with
        | false =>
          have HM := hid (Miss.out (by have : ¬ r.ship = s := by simpa using k2
                                       simp [lsB, this]))
          clear Miss Hit
          go_wp2_with fail
          exact ⟨⟨k + 1, by omega, by go_num, exI, HM.out⟩, by simp [intOf]; omega⟩
        | true =>
          have e : lsB s d r = inB d r.day r.til := by simp [lsB, eq_of_beq k1, eq_of_beq k2]
          rw [e] at Hit Miss
          clear e
          cases k3 : inB d r.day r.til with
          | false =>
            have HM := hid (Miss.out k3)
            clear Miss Hit
            go_wp2_with (go_at_call 92; refine (rin_any _ _ _ _).mono ?_; rintro e w1 ⟨rfl, rfl⟩)
            exact ⟨⟨k + 1, by omega, by go_num, exI, HM.out⟩, by simp [intOf]; omega⟩
          | true =>
            have HT := hid (Hit.out k3)
            clear Miss Hit
            go_wp2_with (go_at_call 92; refine (rin_any _ _ _ _).mono ?_; rintro e w1 ⟨rfl, rfl⟩)
            go_ret
            exact ⟨ret_val (by rw [HT.out]; rfl), exI⟩
    · obtain rfl : k = n := by omega
      have hf : heldI l s d = -1 := heldI_none (fun t ht => Hno.out t ht (by omega))
      have Hf := hid hf
      clear hf
      go_wp2_with fail
      go_ret
      exact ⟨ret_val (by rw [Hf.out]; rfl), exI⟩
def heldT (l : List Rec) (s d : Int) : Int := ((heldR l s d).map Rec.to).getD 0
def heldS (l : List Rec) (s d : Int) : Bool := (heldR l s d).isSome
set_option maxRecDepth 100000 in
set_option maxHeartbeats 8000000 in
theorem holder_any (A : Option Addr) (c n : Nat) (l : List Rec) (s d : Int) (hn : l.length = n) (hbig : n ≤ 100000) (w : World) (hr : Recs w A l) :
    Calls Tryz.prog 94 #[regV A n c, .int .i64 s, .int .i64 d] w fun e w' => e = .returned (.tuple #[.int .i64 (heldT l s d), .bool (heldS l s d)]) ∧ Ext w w' := by
  go_enter Tryz.func94, Tryz.ntmps94
  go_wp2_with fail
  go_loopw [13] (fun i wr => ∃ k : Nat, k ≤ n ∧ i = .int .i64 k ∧ Ext (w.alloc (.cells #[.slice A n c] 34)) wr ∧ (∀ t (ht : t < l.length), t < k → lsB s d l[t] = false)) (fun i _ => n - (intOf i).toNat)
  case atStart => exact ⟨0, Nat.zero_le _, rfl, Ext.refl _, fun t _ h => absurd h (Nat.not_lt_zero _)⟩
  case round =>
    obtain ⟨k, hk, rfl, ⟨E0, d0, rfl⟩, hno⟩ := hrel
    have Hno := hid hno
    clear hno
    by_cases hlt : k < n
    · have hm : k < l.length := by omega
      obtain ⟨g, of, rfl, hg⟩ := hr.addr (by omega)
      have hrow := hr.row hm
      obtain ⟨r, hrk⟩ : ∃ r, l[k] = r := ⟨_, rfl⟩
      rw [hrk] at hrow
      obtain ⟨h0, h1, h2, h3, h4, h5, h6, h7, h8, h9, h10⟩ := hrow
      have Hrk := hid hrk
      clear hrk
      have Hit : Hid (lsB s d r = true → heldR l s d = some r) := hid fun h => by
        rw [heldR_hit hm (by rw [Hrk.out]; exact h) (fun t h1 h2 => Hno.out t h1 h2), Hrk.out]
      have Miss : Hid (lsB s d r = false → ∀ t (ht : t < l.length), t < k + 1 → lsB s d l[t] = false) := hid fun h t h1 h2 => by
        by_cases he : t = k
        · subst he; rw [Hrk.out]; exact h
        · exact Hno.out t h1 (by omega)
      clear Hrk Hno
      cases k1 : (r.kind == 1) with
      | false =>
        have HM := hid (Miss.out (by have : ¬ r.kind = 1 := by simpa using k1
                                     simp [lsB, this]))
        clear Miss Hit
        go_wp2_with fail
        exact ⟨⟨k + 1, by omega, by go_num, exI, HM.out⟩, by simp [intOf]; omega⟩
      | true =>
        cases k2 : (r.ship == s) with
        | false =>
          have HM := hid (Miss.out (by have : ¬ r.ship = s := by simpa using k2
                                       simp [lsB, this]))
          clear Miss Hit
          go_wp2_with fail
          exact ⟨⟨k + 1, by omega, by go_num, exI, HM.out⟩, by simp [intOf]; omega⟩
        | true =>
          have e : lsB s d r = inB d r.day r.til := by simp [lsB, eq_of_beq k1, eq_of_beq k2]
          rw [e] at Hit Miss
          clear e
          cases k3 : inB d r.day r.til with
          | false =>
            have HM := hid (Miss.out k3)
            clear Miss Hit
            go_wp2_with (go_at_call 117; refine (in_any _ _ _ _).mono ?_; rintro e w1 ⟨rfl, rfl⟩)
            exact ⟨⟨k + 1, by omega, by go_num, exI, HM.out⟩, by simp [intOf]; omega⟩
          | true =>
            have HT := hid (Hit.out k3)
            clear Miss Hit
            go_wp2_with (go_at_call 117; refine (in_any _ _ _ _).mono ?_; rintro e w1 ⟨rfl, rfl⟩)
            go_ret2
            exact ⟨ret_val (by rw [heldT, heldS, HT.out]; rfl), exI⟩
    · obtain rfl : k = n := by omega
      have hf : heldR l s d = none := heldR_none (fun t ht => Hno.out t ht (by omega))
      have Hf := hid hf
      clear hf
      go_wp2_with fail
      go_ret2
      exact ⟨ret_val (by rw [heldT, heldS, Hf.out]; rfl), exI⟩
theorem holdE_bad {l : List Rec} {s d : Int} (h : checkB l = false) : holdE l s d = 71 := by simp [holdE, h]
theorem holdE_ship {l : List Rec} {s d : Int} (h : checkB l = true) (h2 : inB s 1 999 = false) : holdE l s d = 1 := by simp [holdE, h, h2]
theorem holdE_day {l : List Rec} {s d : Int} (h : checkB l = true) (h2 : inB s 1 999 = true) (h3 : inB d 0 100000 = false) : holdE l s d = 6 := by simp [holdE, h, h2, h3]
theorem holdE_no {l : List Rec} {s d : Int} (h : checkB l = true) (h2 : inB s 1 999 = true) (h3 : inB d 0 100000 = true) (h4 : heldS l s d = false) : holdE l s d = 3 := by
  rw [heldS] at h4; simp [holdE, h, h2, h3, h4]
theorem holdE_ok {l : List Rec} {s d : Int} (h : checkB l = true) (h2 : inB s 1 999 = true) (h3 : inB d 0 100000 = true) (h4 : heldS l s d = true) : holdE l s d = 0 := by
  rw [heldS] at h4; simp [holdE, h, h2, h3, h4]
theorem holdN_err {l : List Rec} {s d e : Int} (h : holdE l s d = e) (he : e ≠ 0) : holdN l s d = 0 := by rw [holdN, if_neg (by rw [h]; exact he)]
theorem holdN_ok {l : List Rec} {s d : Int} (h : holdE l s d = 0) : holdN l s d = heldT l s d := by rw [holdN, if_pos h]; rfl
set_option maxRecDepth 100000 in
set_option maxHeartbeats 8000000 in
theorem Holder_any (A : Option Addr) (c n : Nat) (l : List Rec) (s d : Int) (hn : l.length = n) (hbig : n ≤ 9223372036854775807) (ht : TxtBig l) (w : World) (hr : Recs w A l) :
    Calls Tryz.prog 28 #[regV A n c, .int .i64 s, .int .i64 d] w fun e w' => e = .returned (.tuple #[.int .i64 (holdN l s d), .int .i64 (holdE l s d)]) ∧ Ext w w' := by
  cases hc : checkB l with
  | false =>
    have he := errReg_bad hc
    have HE := hid (holdE_bad (s := s) (d := d) hc)
    have HN := hid (holdN_err HE.out (by decide))
    clear hc
    go_enter Tryz.func28, Tryz.ntmps28
    go_wp2_with (go_at_call 81; refine (Check_any _ _ _ _ (by first | rfl | assumption) (by omega) (by assumption) _ (recI ‹_›)).mono ?_; rintro e w1 ⟨rfl, E1, d1, rfl⟩)
    go_ret2
    exact ⟨ret_val (by rw [HE.out, HN.out]; rfl), exI⟩
  | true =>
    have he := errReg_ok hc
    obtain ⟨h80, _, hs⟩ := checkB_iff.1 hc
    cases h1 : inB s 1 999 with
    | false =>
      have HE := hid (holdE_ship (d := d) hc h1)
      have HN := hid (holdN_err HE.out (by decide))
      clear hc
      go_enter Tryz.func28, Tryz.ntmps28
      go_wp2_with (first | (go_at_call 81; refine (Check_any _ _ _ _ (by first | rfl | assumption) (by omega) (by assumption) _ (recI ‹_›)).mono ?_; rintro e w1 ⟨rfl, E1, d1, rfl⟩) | (go_at_call 87; refine (isShip_any _ _).mono ?_; rintro e w1 ⟨rfl, rfl⟩))
      go_ret2
      exact ⟨ret_val (by rw [HE.out, HN.out]; rfl), exI⟩
    | true =>
      cases h2 : inB d 0 100000 with
      | false =>
        have HE := hid (holdE_day hc h1 h2)
        have HN := hid (holdN_err HE.out (by decide))
        clear hc
        go_enter Tryz.func28, Tryz.ntmps28
        go_wp2_with (first | (go_at_call 81; refine (Check_any _ _ _ _ (by first | rfl | assumption) (by omega) (by assumption) _ (recI ‹_›)).mono ?_; rintro e w1 ⟨rfl, E1, d1, rfl⟩) | (go_at_call 87; refine (isShip_any _ _).mono ?_; rintro e w1 ⟨rfl, rfl⟩) | (go_at_call 88; refine (isDay_any _ _).mono ?_; rintro e w1 ⟨rfl, rfl⟩))
        go_ret2
        exact ⟨ret_val (by rw [HE.out, HN.out]; rfl), exI⟩
      | true =>
        have h80' : n ≤ 80 := by omega
        cases h3 : heldS l s d with
        | false =>
          have HE := hid (holdE_no hc h1 h2 h3)
          have HN := hid (holdN_err HE.out (by decide))
          clear hc
          go_enter Tryz.func28, Tryz.ntmps28
          go_wp2_with (first | (go_at_call 81; refine (Check_any _ _ _ _ (by first | rfl | assumption) (by omega) (by assumption) _ (recI ‹_›)).mono ?_; rintro e w1 ⟨rfl, E1, d1, rfl⟩) | (go_at_call 87; refine (isShip_any _ _).mono ?_; rintro e w1 ⟨rfl, rfl⟩) | (go_at_call 88; refine (isDay_any _ _).mono ?_; rintro e w1 ⟨rfl, rfl⟩) | (go_at_call 94; refine (holder_any _ _ _ _ _ _ (by first | rfl | assumption) (by omega) _ (recI ‹_›)).mono ?_; rintro e w1 ⟨rfl, E1, d1, rfl⟩))
          go_ret2
          exact ⟨ret_val (by rw [HE.out, HN.out]; rfl), exI⟩
        | true =>
          have HE := hid (holdE_ok hc h1 h2 h3)
          have HN := hid (holdN_ok HE.out)
          clear hc
          go_enter Tryz.func28, Tryz.ntmps28
          go_wp2_with (first | (go_at_call 81; refine (Check_any _ _ _ _ (by first | rfl | assumption) (by omega) (by assumption) _ (recI ‹_›)).mono ?_; rintro e w1 ⟨rfl, E1, d1, rfl⟩) | (go_at_call 87; refine (isShip_any _ _).mono ?_; rintro e w1 ⟨rfl, rfl⟩) | (go_at_call 88; refine (isDay_any _ _).mono ?_; rintro e w1 ⟨rfl, rfl⟩) | (go_at_call 94; refine (holder_any _ _ _ _ _ _ (by first | rfl | assumption) (by omega) _ (recI ‹_›)).mono ?_; rintro e w1 ⟨rfl, E1, d1, rfl⟩))
          go_ret2
          exact ⟨ret_val (by rw [HE.out, HN.out]; rfl), exI⟩
end Go.Proofs.YtekjdeibnfaehaaGreat
