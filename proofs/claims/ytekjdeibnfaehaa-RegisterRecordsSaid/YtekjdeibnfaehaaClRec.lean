/- RegisterRecords: the walk. -/
import Derived.Test.YtekjdeibnfaehaaArg
set_option linter.unusedSimpArgs false
set_option linter.unusedVariables false
namespace Go.Proofs.Ytekjdeibnfaehaa
open Go Go.RowKit

theorem recEqB_rfl (r : Rec) : recEqB r r = true := recEqB_iff.2 rfl
theorem eR_ok {r : Rec} (h : recOk r = true) : errRec r = 0 := by rw [errRec, h]; rfl
theorem eR_no {r : Rec} (h : recOk r = false) : errRec r = 70 := by rw [errRec, h]; rfl
theorem eL_ok {r : Rec} (h : recOk r = true) : encL r = recB r := by rw [encL, h]; rfl
theorem eD_ok {l : List UInt8} (h : decOk l = true) : errDec l = 0 := by rw [errDec, h]; rfl
theorem eD_no {l : List UInt8} (h : decOk l = false) : errDec l = 70 := by rw [errDec, h]; rfl
/-- What is encoded is decoded. -/
theorem dec_enc {r : Rec} (h : recOk r = true) : decV (encL r) = r ∧ errDec (encL r) = 0 := by
  have h1 : decOk (encL r) = true := by rw [eL_ok h]; exact decOk_recB h
  refine ⟨?_, eD_ok h1⟩
  rw [decV, h1, eL_ok h, decR_recB r (recNum_of h)]
  rfl
/-- The other way round. -/
theorem enc_dec {l : List UInt8} (h : decOk l = true) : recOk (decV l) = true ∧ encL (decV l) = l := by
  have hv : decV l = decR l := by rw [decV, h]; rfl
  have h2 := h
  simp only [decOk, Bool.and_eq_true] at h2
  rw [hv]
  exact ⟨h2.2, by rw [eL_ok h2.2]; exact recB_decR _ h2.1⟩
set_option maxRecDepth 100000 in
set_option maxHeartbeats 16000000 in
theorem records_walk (r : Rec) (A : Option Addr) (n c : Nat) (l : List UInt8) (hs : r.text.size ≤ 9223372036854775807) (hn : l.length = n) (hnc : n ≤ c) (hbig : c ≤ 9223372036854775807) (w : World) (hb : Byt w A l) :
    Calls Try.prog 3 #[recV r, .slice A n c] w fun e w' => e = .returned (.bool true) ∧ Ext w w' := by
  have hrr := recEqB_rfl r
  obtain ⟨x, hx⟩ : ∃ x, decV l = x := ⟨_, rfl⟩
  have hxx := recEqB_rfl x
  have HV := hid hx
  cases hk : recOk r with
  | false =>
    have HER := hid (eR_no hk)
    have HR := HER
    have HE2 := HER
    cases hd : decOk l with
    | false =>
      have HD := hid (eD_no hd)
      have HX := HD
      have HEX := HD
      clear hx hd
      go_enter Try.func3, Try.ntmps3
      go_wp2_with (first | (go_at_call 10; refine (Encode_cap _ _ (by assumption)).mono ?_; rintro e w1 ⟨A1, c1, rfl, hb1, hcc1, E1, d1, rfl⟩; (try rw [HX.out] at hb1 hcc1 ⊢); obtain ⟨hq1, hq2⟩ := hcc1.out; (try rw [HER.out]); (try rw [HEX.out])) | (go_at_call 12; refine (Decode_any _ _ _ _ (by first | exact hn | rfl) (by omega) (by omega) _ (by with_reducible repeat (first | assumption | apply Byt.ext | apply Byt.alloc | apply Byt.drew | (refine Byt.of_ext ?_ (by assumption))))).mono ?_; rintro e w1 ⟨rfl, E1, d1, rfl⟩; (first | rw [HV.out, HD.out] | rw [HR.out, HE2.out])) | (go_at_call 11; refine (rEncode_any _ _ (by assumption)).mono ?_; rintro e w1 ⟨A2, c2, rfl, hb2, E1, d1, rfl⟩; rw [HER.out]) | (go_at_call 13; refine (rDecode_any _ _ _ l hn (by omega) (by omega) _ (by with_reducible repeat (first | assumption | apply Byt.ext | apply Byt.alloc | apply Byt.drew | (refine Byt.of_ext ?_ (by assumption))))).mono ?_; rintro e w1 ⟨rfl, E1, d1, rfl⟩; rw [HV.out, HD.out]) | (go_at_call 17; refine (sane_any _).mono ?_; rintro e w1 ⟨rfl, E1, d1, rfl⟩))
      refine wp_region_ord_same (.f 0 (.f 2 (.a 1 (.a 3 (.f 4 (.f 5 (.f 6 (.f 7 (.f 8 (.f 9 (.f 10 (.f 11 (.f 12 (.f 13 (.f 14 (.f 15 (.f 16 (.f 17 (.a 18 (.f 19 (.f 20 (.f 21 (.f 22 (.f 23 (.f 24 (.f 25 .d)))))))))))))))))))))))))) (by kernel_rfl) (by kernel_rfl) ?_
      repeat (first | (refine wpOrd_pass rfl rfl ?_; simp only [Act.put, List.getElem_toArray, List.getElem_cons_succ, List.getElem_cons_zero, List.setIfInBounds_toArray, List.set_cons_zero, List.set_cons_succ]) | (refine wpOrd_free (v := ?_) rfl rfl (fun _ hS => ?_) ?_; rotate_left; (focus (go_simp; try with_reducible rfl)); simp only [Act.put, List.getElem_toArray, List.getElem_cons_succ, List.getElem_cons_zero, List.setIfInBounds_toArray, List.set_cons_zero, List.set_cons_succ]))
      refine wpOrd_call rfl rfl rfl Try.call14 (fun R hR => ?_)
      go_simp
      refine (CheckRecord_any _ _ (by assumption)).mono ?_
      rintro e w1 ⟨rfl, E1, d1, rfl⟩
      refine hR _ _ ⟨_, rfl, ?_, ?_⟩
      · (first | exact fun b o hb => Ext.cellOf (by repeat (first | with_reducible exact Ext.refl _ | with_reducible exact Ext.same _ _ _ _ | with_reducible assumption | with_reducible apply Ext.alloc | with_reducible apply Ext.ext | with_reducible apply Ext.drew | (with_reducible refine Ext.setCell ?_ _ _ ?_; rotate_left; (focus (first | omega | (simp only [World.size_alloc, World.size_drew, size_ext, World.size_setCell]; omega)))))) hb | (intro b o hb; (try simp only [size_ext, World.size_alloc, World.size_drew, World.size_setCell] at hb); go_simp; try rfl))
      clear hR R
      simp only [Act.put, List.getElem_toArray, List.getElem_cons_succ, List.getElem_cons_zero, List.setIfInBounds_toArray, List.set_cons_zero, List.set_cons_succ]
      refine wpOrd_call rfl rfl rfl Try.call15 (fun R hR => ?_)
      go_simp
      refine (rCheckRecord_any _ _ (by assumption)).mono ?_
      rintro e w1 ⟨rfl, E, d, rfl⟩
      refine hR _ _ ⟨_, rfl, ?_, ?_⟩
      · (first | exact fun b o hb => Ext.cellOf (by repeat (first | with_reducible exact Ext.refl _ | with_reducible exact Ext.same _ _ _ _ | with_reducible assumption | with_reducible apply Ext.alloc | with_reducible apply Ext.ext | with_reducible apply Ext.drew | (with_reducible refine Ext.setCell ?_ _ _ ?_; rotate_left; (focus (first | omega | (simp only [World.size_alloc, World.size_drew, size_ext, World.size_setCell]; omega)))))) hb | (intro b o hb; (try simp only [size_ext, World.size_alloc, World.size_drew, World.size_setCell] at hb); go_simp; try rfl))
      clear hR R
      simp only [Act.put, List.getElem_toArray, List.getElem_cons_succ, List.getElem_cons_zero, List.setIfInBounds_toArray, List.set_cons_zero, List.set_cons_succ]
      repeat (first | (refine wpOrd_pass rfl rfl ?_; simp only [Act.put, List.getElem_toArray, List.getElem_cons_succ, List.getElem_cons_zero, List.setIfInBounds_toArray, List.set_cons_zero, List.set_cons_succ]) | (refine wpOrd_free (v := ?_) rfl rfl (fun _ hS => ?_) ?_; rotate_left; (focus (go_simp; try with_reducible rfl)); simp only [Act.put, List.getElem_toArray, List.getElem_cons_succ, List.getElem_cons_zero, List.setIfInBounds_toArray, List.set_cons_zero, List.set_cons_succ]))
      refine ord_bool (j := 5) rfl (fun hb5 => ?_) (fun hb5 => ?_)
      rotate_left
      focus
        try (exfalso; first | (simp at hb5; done) | (simp at hb5; omega))
        all_goals
          (try simp only [hb5])
          repeat (first | (refine wpOrd_pass rfl rfl ?_; simp only [Act.put, List.getElem_toArray, List.getElem_cons_succ, List.getElem_cons_zero, List.setIfInBounds_toArray, List.set_cons_zero, List.set_cons_succ]) | (refine wpOrd_free (v := ?_) rfl rfl (fun _ hS => ?_) ?_; rotate_left; (focus (go_simp; try with_reducible rfl)); simp only [Act.put, List.getElem_toArray, List.getElem_cons_succ, List.getElem_cons_zero, List.setIfInBounds_toArray, List.set_cons_zero, List.set_cons_succ]))
          refine ord_bool (j := 10) rfl (fun hb10 => ?_) (fun hb10 => ?_)
          rotate_left
          focus
            try (exfalso; first | (simp at hb10; done) | (simp at hb10; omega))
            all_goals
              (try simp only [hb10])
              repeat (first | (refine wpOrd_pass rfl rfl ?_; simp only [Act.put, List.getElem_toArray, List.getElem_cons_succ, List.getElem_cons_zero, List.setIfInBounds_toArray, List.set_cons_zero, List.set_cons_succ]) | (refine wpOrd_free (v := ?_) rfl rfl (fun _ hS => ?_) ?_; rotate_left; (focus (go_simp; try with_reducible rfl)); simp only [Act.put, List.getElem_toArray, List.getElem_cons_succ, List.getElem_cons_zero, List.setIfInBounds_toArray, List.set_cons_zero, List.set_cons_succ]))
              refine ord_bool (j := 15) rfl (fun hb15 => ?_) (fun hb15 => ?_)
              rotate_left
              focus
                try (exfalso; first | (simp at hb15; done) | (simp at hb15; omega))
                all_goals
                  (try simp only [hb15])
                  repeat (first | (refine wpOrd_pass rfl rfl ?_; simp only [Act.put, List.getElem_toArray, List.getElem_cons_succ, List.getElem_cons_zero, List.setIfInBounds_toArray, List.set_cons_zero, List.set_cons_succ]) | (refine wpOrd_free (v := ?_) rfl rfl (fun _ hS => ?_) ?_; rotate_left; (focus (go_simp; try with_reducible rfl)); simp only [Act.put, List.getElem_toArray, List.getElem_cons_succ, List.getElem_cons_zero, List.setIfInBounds_toArray, List.set_cons_zero, List.set_cons_succ]))
                  refine wpOrd_call rfl rfl rfl Try.call16 (fun R hR => ?_)
                  go_simp
                  refine (SameBytes_any _ _ _ _ _ _ _ _ _ (by first | rfl | assumption) (by first | rfl | assumption) (by with_reducible repeat (first | assumption | apply Byt.ext | apply Byt.alloc | apply Byt.drew | (refine Byt.of_ext ?_ (by assumption)))) (by with_reducible repeat (first | assumption | apply Byt.ext | apply Byt.alloc | apply Byt.drew | (refine Byt.of_ext ?_ (by assumption))))).mono ?_
                  rintro e w1 ⟨rfl, rfl⟩
                  refine hR _ _ ⟨_, rfl, ?_, ?_⟩
                  · (first | exact fun b o hb => Ext.cellOf (by repeat (first | with_reducible exact Ext.refl _ | with_reducible exact Ext.same _ _ _ _ | with_reducible assumption | with_reducible apply Ext.alloc | with_reducible apply Ext.ext | with_reducible apply Ext.drew | (with_reducible refine Ext.setCell ?_ _ _ ?_; rotate_left; (focus (first | omega | (simp only [World.size_alloc, World.size_drew, size_ext, World.size_setCell]; omega)))))) hb | (intro b o hb; (try simp only [size_ext, World.size_alloc, World.size_drew, World.size_setCell] at hb); go_simp; try rfl))
                  clear hR R
                  simp only [Act.put, List.getElem_toArray, List.getElem_cons_succ, List.getElem_cons_zero, List.setIfInBounds_toArray, List.set_cons_zero, List.set_cons_succ]
                  repeat (first | (refine wpOrd_pass rfl rfl ?_; simp only [Act.put, List.getElem_toArray, List.getElem_cons_succ, List.getElem_cons_zero, List.setIfInBounds_toArray, List.set_cons_zero, List.set_cons_succ]) | (refine wpOrd_free (v := ?_) rfl rfl (fun _ hS => ?_) ?_; rotate_left; (focus (go_simp; try with_reducible rfl)); simp only [Act.put, List.getElem_toArray, List.getElem_cons_succ, List.getElem_cons_zero, List.setIfInBounds_toArray, List.set_cons_zero, List.set_cons_succ]))
                  refine ord_bool (j := 21) rfl (fun hb21 => ?_) (fun hb21 => ?_)
                  rotate_left
                  focus
                    try (exfalso; first | (simp at hb21; done) | (simp at hb21; omega))
                    all_goals
                      (try simp only [hb21])
                      repeat (first | (refine wpOrd_pass rfl rfl ?_; simp only [Act.put, List.getElem_toArray, List.getElem_cons_succ, List.getElem_cons_zero, List.setIfInBounds_toArray, List.set_cons_zero, List.set_cons_succ]) | (refine wpOrd_free (v := ?_) rfl rfl (fun _ hS => ?_) ?_; rotate_left; (focus (go_simp; try with_reducible rfl)); simp only [Act.put, List.getElem_toArray, List.getElem_cons_succ, List.getElem_cons_zero, List.setIfInBounds_toArray, List.set_cons_zero, List.set_cons_succ]))
                      refine wpOrd_nil ?_
                  rotate_right
                  focus
                    try (exfalso; first | (simp at hb21; done) | (simp at hb21; omega))
                    all_goals
                      (try simp only [hb21])
                      repeat (first | (refine wpOrd_pass rfl rfl ?_; simp only [Act.put, List.getElem_toArray, List.getElem_cons_succ, List.getElem_cons_zero, List.setIfInBounds_toArray, List.set_cons_zero, List.set_cons_succ]) | (refine wpOrd_free (v := ?_) rfl rfl (fun _ hS => ?_) ?_; rotate_left; (focus (go_simp; try with_reducible rfl)); simp only [Act.put, List.getElem_toArray, List.getElem_cons_succ, List.getElem_cons_zero, List.setIfInBounds_toArray, List.set_cons_zero, List.set_cons_succ]))
                      refine wpOrd_nil ?_
              rotate_right
              focus
                try (exfalso; first | (simp at hb15; done) | (simp at hb15; omega))
                all_goals
                  (try simp only [hb15])
                  repeat (first | (refine wpOrd_pass rfl rfl ?_; simp only [Act.put, List.getElem_toArray, List.getElem_cons_succ, List.getElem_cons_zero, List.setIfInBounds_toArray, List.set_cons_zero, List.set_cons_succ]) | (refine wpOrd_free (v := ?_) rfl rfl (fun _ hS => ?_) ?_; rotate_left; (focus (go_simp; try with_reducible rfl)); simp only [Act.put, List.getElem_toArray, List.getElem_cons_succ, List.getElem_cons_zero, List.setIfInBounds_toArray, List.set_cons_zero, List.set_cons_succ]))
                  refine wpOrd_actPass rfl rfl ?_ ?_
                  · (first | exact fun b o hb => Ext.cellOf (by repeat (first | with_reducible exact Ext.refl _ | with_reducible exact Ext.same _ _ _ _ | with_reducible assumption | with_reducible apply Ext.alloc | with_reducible apply Ext.ext | with_reducible apply Ext.drew | (with_reducible refine Ext.setCell ?_ _ _ ?_; rotate_left; (focus (first | omega | (simp only [World.size_alloc, World.size_drew, size_ext, World.size_setCell]; omega)))))) hb | (intro b o hb; (try simp only [size_ext, World.size_alloc, World.size_drew, World.size_setCell] at hb); go_simp; try rfl))
                  simp only [Act.put, List.getElem_toArray, List.getElem_cons_succ, List.getElem_cons_zero, List.setIfInBounds_toArray, List.set_cons_zero, List.set_cons_succ]
                  repeat (first | (refine wpOrd_pass rfl rfl ?_; simp only [Act.put, List.getElem_toArray, List.getElem_cons_succ, List.getElem_cons_zero, List.setIfInBounds_toArray, List.set_cons_zero, List.set_cons_succ]) | (refine wpOrd_free (v := ?_) rfl rfl (fun _ hS => ?_) ?_; rotate_left; (focus (go_simp; try with_reducible rfl)); simp only [Act.put, List.getElem_toArray, List.getElem_cons_succ, List.getElem_cons_zero, List.setIfInBounds_toArray, List.set_cons_zero, List.set_cons_succ]))
                  refine wpOrd_nil ?_
          rotate_right
          focus
            try (exfalso; first | (simp at hb10; done) | (simp at hb10; omega))
            all_goals
              (try simp only [hb10])
              repeat (first | (refine wpOrd_pass rfl rfl ?_; simp only [Act.put, List.getElem_toArray, List.getElem_cons_succ, List.getElem_cons_zero, List.setIfInBounds_toArray, List.set_cons_zero, List.set_cons_succ]) | (refine wpOrd_free (v := ?_) rfl rfl (fun _ hS => ?_) ?_; rotate_left; (focus (go_simp; try with_reducible rfl)); simp only [Act.put, List.getElem_toArray, List.getElem_cons_succ, List.getElem_cons_zero, List.setIfInBounds_toArray, List.set_cons_zero, List.set_cons_succ]))
              refine wpOrd_actPass rfl rfl ?_ ?_
              · (first | exact fun b o hb => Ext.cellOf (by repeat (first | with_reducible exact Ext.refl _ | with_reducible exact Ext.same _ _ _ _ | with_reducible assumption | with_reducible apply Ext.alloc | with_reducible apply Ext.ext | with_reducible apply Ext.drew | (with_reducible refine Ext.setCell ?_ _ _ ?_; rotate_left; (focus (first | omega | (simp only [World.size_alloc, World.size_drew, size_ext, World.size_setCell]; omega)))))) hb | (intro b o hb; (try simp only [size_ext, World.size_alloc, World.size_drew, World.size_setCell] at hb); go_simp; try rfl))
              simp only [Act.put, List.getElem_toArray, List.getElem_cons_succ, List.getElem_cons_zero, List.setIfInBounds_toArray, List.set_cons_zero, List.set_cons_succ]
              repeat (first | (refine wpOrd_pass rfl rfl ?_; simp only [Act.put, List.getElem_toArray, List.getElem_cons_succ, List.getElem_cons_zero, List.setIfInBounds_toArray, List.set_cons_zero, List.set_cons_succ]) | (refine wpOrd_free (v := ?_) rfl rfl (fun _ hS => ?_) ?_; rotate_left; (focus (go_simp; try with_reducible rfl)); simp only [Act.put, List.getElem_toArray, List.getElem_cons_succ, List.getElem_cons_zero, List.setIfInBounds_toArray, List.set_cons_zero, List.set_cons_succ]))
              refine wpOrd_nil ?_
      rotate_right
      focus
        try (exfalso; first | (simp at hb5; done) | (simp at hb5; omega))
        all_goals
          (try simp only [hb5])
          repeat (first | (refine wpOrd_pass rfl rfl ?_; simp only [Act.put, List.getElem_toArray, List.getElem_cons_succ, List.getElem_cons_zero, List.setIfInBounds_toArray, List.set_cons_zero, List.set_cons_succ]) | (refine wpOrd_free (v := ?_) rfl rfl (fun _ hS => ?_) ?_; rotate_left; (focus (go_simp; try with_reducible rfl)); simp only [Act.put, List.getElem_toArray, List.getElem_cons_succ, List.getElem_cons_zero, List.setIfInBounds_toArray, List.set_cons_zero, List.set_cons_succ]))
          refine wpOrd_actPass rfl rfl ?_ ?_
          · (first | exact fun b o hb => Ext.cellOf (by repeat (first | with_reducible exact Ext.refl _ | with_reducible exact Ext.same _ _ _ _ | with_reducible assumption | with_reducible apply Ext.alloc | with_reducible apply Ext.ext | with_reducible apply Ext.drew | (with_reducible refine Ext.setCell ?_ _ _ ?_; rotate_left; (focus (first | omega | (simp only [World.size_alloc, World.size_drew, size_ext, World.size_setCell]; omega)))))) hb | (intro b o hb; (try simp only [size_ext, World.size_alloc, World.size_drew, World.size_setCell] at hb); go_simp; try rfl))
          simp only [Act.put, List.getElem_toArray, List.getElem_cons_succ, List.getElem_cons_zero, List.setIfInBounds_toArray, List.set_cons_zero, List.set_cons_succ]
          repeat (first | (refine wpOrd_pass rfl rfl ?_; simp only [Act.put, List.getElem_toArray, List.getElem_cons_succ, List.getElem_cons_zero, List.setIfInBounds_toArray, List.set_cons_zero, List.set_cons_succ]) | (refine wpOrd_free (v := ?_) rfl rfl (fun _ hS => ?_) ?_; rotate_left; (focus (go_simp; try with_reducible rfl)); simp only [Act.put, List.getElem_toArray, List.getElem_cons_succ, List.getElem_cons_zero, List.setIfInBounds_toArray, List.set_cons_zero, List.set_cons_succ]))
          refine wpOrd_nil ?_
      all_goals
        go_wp2_with (first | (go_at_call 10; refine (Encode_cap _ _ (by assumption)).mono ?_; rintro e w1 ⟨A1, c1, rfl, hb1, hcc1, E1, d1, rfl⟩; (try rw [HX.out] at hb1 hcc1 ⊢); obtain ⟨hq1, hq2⟩ := hcc1.out; (try rw [HER.out]); (try rw [HEX.out])) | (go_at_call 12; refine (Decode_any _ _ _ _ (by first | exact hn | rfl) (by omega) (by omega) _ (by with_reducible repeat (first | assumption | apply Byt.ext | apply Byt.alloc | apply Byt.drew | (refine Byt.of_ext ?_ (by assumption))))).mono ?_; rintro e w1 ⟨rfl, E1, d1, rfl⟩; (first | rw [HV.out, HD.out] | rw [HR.out, HE2.out])) | (go_at_call 11; refine (rEncode_any _ _ (by assumption)).mono ?_; rintro e w1 ⟨A2, c2, rfl, hb2, E1, d1, rfl⟩; rw [HER.out]) | (go_at_call 13; refine (rDecode_any _ _ _ l hn (by omega) (by omega) _ (by with_reducible repeat (first | assumption | apply Byt.ext | apply Byt.alloc | apply Byt.drew | (refine Byt.of_ext ?_ (by assumption))))).mono ?_; rintro e w1 ⟨rfl, E1, d1, rfl⟩; rw [HV.out, HD.out]) | (go_at_call 17; refine (sane_any _).mono ?_; rintro e w1 ⟨rfl, E1, d1, rfl⟩) | (go_at_call 16; refine (SameBytes_any _ _ _ _ _ _ _ _ _ (by first | rfl | assumption) (by first | rfl | assumption) (by with_reducible repeat (first | assumption | apply Byt.ext | apply Byt.alloc | apply Byt.drew | (refine Byt.of_ext ?_ (by assumption)))) (by with_reducible repeat (first | assumption | apply Byt.ext | apply Byt.alloc | apply Byt.drew | (refine Byt.of_ext ?_ (by assumption))))).mono ?_; rintro e w1 ⟨rfl, rfl⟩))
      all_goals
        go_ret
        exact ⟨ret_val rfl, (by repeat (first | with_reducible exact Ext.refl _ | with_reducible exact Ext.same _ _ _ _ | with_reducible assumption | with_reducible apply Ext.alloc | with_reducible apply Ext.ext | with_reducible apply Ext.drew | (with_reducible refine Ext.setCell ?_ _ _ ?_; rotate_left; (focus (first | omega | (simp only [World.size_alloc, World.size_drew, size_ext, World.size_setCell]; omega))))))⟩
    | true =>
      have HD := hid (eD_ok hd)
      obtain ⟨hxo, hxl⟩ := enc_dec hd
      rw [hx] at hxo hxl
      have hxs : x.text.size ≤ 9223372036854775807 := by have := recOk_text hxo; omega
      have HX := hid hxl
      have HEX := hid (eR_ok hxo)
      clear hx hd hxo hxl
      go_enter Try.func3, Try.ntmps3
      go_wp2_with (first | (go_at_call 10; refine (Encode_cap _ _ (by assumption)).mono ?_; rintro e w1 ⟨A1, c1, rfl, hb1, hcc1, E1, d1, rfl⟩; (try rw [HX.out] at hb1 hcc1 ⊢); obtain ⟨hq1, hq2⟩ := hcc1.out; (try rw [HER.out]); (try rw [HEX.out])) | (go_at_call 12; refine (Decode_any _ _ _ _ (by first | exact hn | rfl) (by omega) (by omega) _ (by with_reducible repeat (first | assumption | apply Byt.ext | apply Byt.alloc | apply Byt.drew | (refine Byt.of_ext ?_ (by assumption))))).mono ?_; rintro e w1 ⟨rfl, E1, d1, rfl⟩; (first | rw [HV.out, HD.out] | rw [HR.out, HE2.out])) | (go_at_call 11; refine (rEncode_any _ _ (by assumption)).mono ?_; rintro e w1 ⟨A2, c2, rfl, hb2, E1, d1, rfl⟩; rw [HER.out]) | (go_at_call 13; refine (rDecode_any _ _ _ l hn (by omega) (by omega) _ (by with_reducible repeat (first | assumption | apply Byt.ext | apply Byt.alloc | apply Byt.drew | (refine Byt.of_ext ?_ (by assumption))))).mono ?_; rintro e w1 ⟨rfl, E1, d1, rfl⟩; rw [HV.out, HD.out]) | (go_at_call 17; refine (sane_any _).mono ?_; rintro e w1 ⟨rfl, E1, d1, rfl⟩))
      refine wp_region_ord_same (.f 0 (.f 2 (.a 1 (.a 3 (.f 4 (.f 5 (.f 6 (.f 7 (.f 8 (.f 9 (.f 10 (.f 11 (.f 12 (.f 13 (.f 14 (.f 15 (.f 16 (.f 17 (.a 18 (.f 19 (.f 20 (.f 21 (.f 22 (.f 23 (.f 24 (.f 25 .d)))))))))))))))))))))))))) (by kernel_rfl) (by kernel_rfl) ?_
      repeat (first | (refine wpOrd_pass rfl rfl ?_; simp only [Act.put, List.getElem_toArray, List.getElem_cons_succ, List.getElem_cons_zero, List.setIfInBounds_toArray, List.set_cons_zero, List.set_cons_succ]) | (refine wpOrd_free (v := ?_) rfl rfl (fun _ hS => ?_) ?_; rotate_left; (focus (go_simp; try with_reducible rfl)); simp only [Act.put, List.getElem_toArray, List.getElem_cons_succ, List.getElem_cons_zero, List.setIfInBounds_toArray, List.set_cons_zero, List.set_cons_succ]))
      refine wpOrd_call rfl rfl rfl Try.call14 (fun R hR => ?_)
      go_simp
      refine (CheckRecord_any _ _ (by assumption)).mono ?_
      rintro e w1 ⟨rfl, E1, d1, rfl⟩
      refine hR _ _ ⟨_, rfl, ?_, ?_⟩
      · (first | exact fun b o hb => Ext.cellOf (by repeat (first | with_reducible exact Ext.refl _ | with_reducible exact Ext.same _ _ _ _ | with_reducible assumption | with_reducible apply Ext.alloc | with_reducible apply Ext.ext | with_reducible apply Ext.drew | (with_reducible refine Ext.setCell ?_ _ _ ?_; rotate_left; (focus (first | omega | (simp only [World.size_alloc, World.size_drew, size_ext, World.size_setCell]; omega)))))) hb | (intro b o hb; (try simp only [size_ext, World.size_alloc, World.size_drew, World.size_setCell] at hb); go_simp; try rfl))
      clear hR R
      simp only [Act.put, List.getElem_toArray, List.getElem_cons_succ, List.getElem_cons_zero, List.setIfInBounds_toArray, List.set_cons_zero, List.set_cons_succ]
      refine wpOrd_call rfl rfl rfl Try.call15 (fun R hR => ?_)
      go_simp
      refine (rCheckRecord_any _ _ (by assumption)).mono ?_
      rintro e w1 ⟨rfl, E, d, rfl⟩
      refine hR _ _ ⟨_, rfl, ?_, ?_⟩
      · (first | exact fun b o hb => Ext.cellOf (by repeat (first | with_reducible exact Ext.refl _ | with_reducible exact Ext.same _ _ _ _ | with_reducible assumption | with_reducible apply Ext.alloc | with_reducible apply Ext.ext | with_reducible apply Ext.drew | (with_reducible refine Ext.setCell ?_ _ _ ?_; rotate_left; (focus (first | omega | (simp only [World.size_alloc, World.size_drew, size_ext, World.size_setCell]; omega)))))) hb | (intro b o hb; (try simp only [size_ext, World.size_alloc, World.size_drew, World.size_setCell] at hb); go_simp; try rfl))
      clear hR R
      simp only [Act.put, List.getElem_toArray, List.getElem_cons_succ, List.getElem_cons_zero, List.setIfInBounds_toArray, List.set_cons_zero, List.set_cons_succ]
      repeat (first | (refine wpOrd_pass rfl rfl ?_; simp only [Act.put, List.getElem_toArray, List.getElem_cons_succ, List.getElem_cons_zero, List.setIfInBounds_toArray, List.set_cons_zero, List.set_cons_succ]) | (refine wpOrd_free (v := ?_) rfl rfl (fun _ hS => ?_) ?_; rotate_left; (focus (go_simp; try with_reducible rfl)); simp only [Act.put, List.getElem_toArray, List.getElem_cons_succ, List.getElem_cons_zero, List.setIfInBounds_toArray, List.set_cons_zero, List.set_cons_succ]))
      refine ord_bool (j := 5) rfl (fun hb5 => ?_) (fun hb5 => ?_)
      rotate_left
      focus
        try (exfalso; first | (simp at hb5; done) | (simp at hb5; omega))
        all_goals
          (try simp only [hb5])
          repeat (first | (refine wpOrd_pass rfl rfl ?_; simp only [Act.put, List.getElem_toArray, List.getElem_cons_succ, List.getElem_cons_zero, List.setIfInBounds_toArray, List.set_cons_zero, List.set_cons_succ]) | (refine wpOrd_free (v := ?_) rfl rfl (fun _ hS => ?_) ?_; rotate_left; (focus (go_simp; try with_reducible rfl)); simp only [Act.put, List.getElem_toArray, List.getElem_cons_succ, List.getElem_cons_zero, List.setIfInBounds_toArray, List.set_cons_zero, List.set_cons_succ]))
          refine ord_bool (j := 10) rfl (fun hb10 => ?_) (fun hb10 => ?_)
          rotate_left
          focus
            try (exfalso; first | (simp at hb10; done) | (simp at hb10; omega))
            all_goals
              (try simp only [hb10])
              repeat (first | (refine wpOrd_pass rfl rfl ?_; simp only [Act.put, List.getElem_toArray, List.getElem_cons_succ, List.getElem_cons_zero, List.setIfInBounds_toArray, List.set_cons_zero, List.set_cons_succ]) | (refine wpOrd_free (v := ?_) rfl rfl (fun _ hS => ?_) ?_; rotate_left; (focus (go_simp; try with_reducible rfl)); simp only [Act.put, List.getElem_toArray, List.getElem_cons_succ, List.getElem_cons_zero, List.setIfInBounds_toArray, List.set_cons_zero, List.set_cons_succ]))
              refine ord_bool (j := 15) rfl (fun hb15 => ?_) (fun hb15 => ?_)
              rotate_left
              focus
                try (exfalso; first | (simp at hb15; done) | (simp at hb15; omega))
                all_goals
                  (try simp only [hb15])
                  repeat (first | (refine wpOrd_pass rfl rfl ?_; simp only [Act.put, List.getElem_toArray, List.getElem_cons_succ, List.getElem_cons_zero, List.setIfInBounds_toArray, List.set_cons_zero, List.set_cons_succ]) | (refine wpOrd_free (v := ?_) rfl rfl (fun _ hS => ?_) ?_; rotate_left; (focus (go_simp; try with_reducible rfl)); simp only [Act.put, List.getElem_toArray, List.getElem_cons_succ, List.getElem_cons_zero, List.setIfInBounds_toArray, List.set_cons_zero, List.set_cons_succ]))
                  refine wpOrd_call rfl rfl rfl Try.call16 (fun R hR => ?_)
                  go_simp
                  refine (SameBytes_any _ _ _ _ _ _ _ _ _ (by first | rfl | assumption) (by first | rfl | assumption) (by with_reducible repeat (first | assumption | apply Byt.ext | apply Byt.alloc | apply Byt.drew | (refine Byt.of_ext ?_ (by assumption)))) (by with_reducible repeat (first | assumption | apply Byt.ext | apply Byt.alloc | apply Byt.drew | (refine Byt.of_ext ?_ (by assumption))))).mono ?_
                  rintro e w1 ⟨rfl, rfl⟩
                  refine hR _ _ ⟨_, rfl, ?_, ?_⟩
                  · (first | exact fun b o hb => Ext.cellOf (by repeat (first | with_reducible exact Ext.refl _ | with_reducible exact Ext.same _ _ _ _ | with_reducible assumption | with_reducible apply Ext.alloc | with_reducible apply Ext.ext | with_reducible apply Ext.drew | (with_reducible refine Ext.setCell ?_ _ _ ?_; rotate_left; (focus (first | omega | (simp only [World.size_alloc, World.size_drew, size_ext, World.size_setCell]; omega)))))) hb | (intro b o hb; (try simp only [size_ext, World.size_alloc, World.size_drew, World.size_setCell] at hb); go_simp; try rfl))
                  clear hR R
                  simp only [Act.put, List.getElem_toArray, List.getElem_cons_succ, List.getElem_cons_zero, List.setIfInBounds_toArray, List.set_cons_zero, List.set_cons_succ]
                  repeat (first | (refine wpOrd_pass rfl rfl ?_; simp only [Act.put, List.getElem_toArray, List.getElem_cons_succ, List.getElem_cons_zero, List.setIfInBounds_toArray, List.set_cons_zero, List.set_cons_succ]) | (refine wpOrd_free (v := ?_) rfl rfl (fun _ hS => ?_) ?_; rotate_left; (focus (go_simp; try with_reducible rfl)); simp only [Act.put, List.getElem_toArray, List.getElem_cons_succ, List.getElem_cons_zero, List.setIfInBounds_toArray, List.set_cons_zero, List.set_cons_succ]))
                  refine ord_bool (j := 21) rfl (fun hb21 => ?_) (fun hb21 => ?_)
                  rotate_left
                  focus
                    try (exfalso; first | (simp at hb21; done) | (simp at hb21; omega))
                    all_goals
                      (try simp only [hb21])
                      repeat (first | (refine wpOrd_pass rfl rfl ?_; simp only [Act.put, List.getElem_toArray, List.getElem_cons_succ, List.getElem_cons_zero, List.setIfInBounds_toArray, List.set_cons_zero, List.set_cons_succ]) | (refine wpOrd_free (v := ?_) rfl rfl (fun _ hS => ?_) ?_; rotate_left; (focus (go_simp; try with_reducible rfl)); simp only [Act.put, List.getElem_toArray, List.getElem_cons_succ, List.getElem_cons_zero, List.setIfInBounds_toArray, List.set_cons_zero, List.set_cons_succ]))
                      refine wpOrd_nil ?_
                  rotate_right
                  focus
                    try (exfalso; first | (simp at hb21; done) | (simp at hb21; omega))
                    all_goals
                      (try simp only [hb21])
                      repeat (first | (refine wpOrd_pass rfl rfl ?_; simp only [Act.put, List.getElem_toArray, List.getElem_cons_succ, List.getElem_cons_zero, List.setIfInBounds_toArray, List.set_cons_zero, List.set_cons_succ]) | (refine wpOrd_free (v := ?_) rfl rfl (fun _ hS => ?_) ?_; rotate_left; (focus (go_simp; try with_reducible rfl)); simp only [Act.put, List.getElem_toArray, List.getElem_cons_succ, List.getElem_cons_zero, List.setIfInBounds_toArray, List.set_cons_zero, List.set_cons_succ]))
                      refine wpOrd_nil ?_
              rotate_right
              focus
                try (exfalso; first | (simp at hb15; done) | (simp at hb15; omega))
                all_goals
                  (try simp only [hb15])
                  repeat (first | (refine wpOrd_pass rfl rfl ?_; simp only [Act.put, List.getElem_toArray, List.getElem_cons_succ, List.getElem_cons_zero, List.setIfInBounds_toArray, List.set_cons_zero, List.set_cons_succ]) | (refine wpOrd_free (v := ?_) rfl rfl (fun _ hS => ?_) ?_; rotate_left; (focus (go_simp; try with_reducible rfl)); simp only [Act.put, List.getElem_toArray, List.getElem_cons_succ, List.getElem_cons_zero, List.setIfInBounds_toArray, List.set_cons_zero, List.set_cons_succ]))
                  refine wpOrd_actPass rfl rfl ?_ ?_
                  · (first | exact fun b o hb => Ext.cellOf (by repeat (first | with_reducible exact Ext.refl _ | with_reducible exact Ext.same _ _ _ _ | with_reducible assumption | with_reducible apply Ext.alloc | with_reducible apply Ext.ext | with_reducible apply Ext.drew | (with_reducible refine Ext.setCell ?_ _ _ ?_; rotate_left; (focus (first | omega | (simp only [World.size_alloc, World.size_drew, size_ext, World.size_setCell]; omega)))))) hb | (intro b o hb; (try simp only [size_ext, World.size_alloc, World.size_drew, World.size_setCell] at hb); go_simp; try rfl))
                  simp only [Act.put, List.getElem_toArray, List.getElem_cons_succ, List.getElem_cons_zero, List.setIfInBounds_toArray, List.set_cons_zero, List.set_cons_succ]
                  repeat (first | (refine wpOrd_pass rfl rfl ?_; simp only [Act.put, List.getElem_toArray, List.getElem_cons_succ, List.getElem_cons_zero, List.setIfInBounds_toArray, List.set_cons_zero, List.set_cons_succ]) | (refine wpOrd_free (v := ?_) rfl rfl (fun _ hS => ?_) ?_; rotate_left; (focus (go_simp; try with_reducible rfl)); simp only [Act.put, List.getElem_toArray, List.getElem_cons_succ, List.getElem_cons_zero, List.setIfInBounds_toArray, List.set_cons_zero, List.set_cons_succ]))
                  refine wpOrd_nil ?_
          rotate_right
          focus
            try (exfalso; first | (simp at hb10; done) | (simp at hb10; omega))
            all_goals
              (try simp only [hb10])
              repeat (first | (refine wpOrd_pass rfl rfl ?_; simp only [Act.put, List.getElem_toArray, List.getElem_cons_succ, List.getElem_cons_zero, List.setIfInBounds_toArray, List.set_cons_zero, List.set_cons_succ]) | (refine wpOrd_free (v := ?_) rfl rfl (fun _ hS => ?_) ?_; rotate_left; (focus (go_simp; try with_reducible rfl)); simp only [Act.put, List.getElem_toArray, List.getElem_cons_succ, List.getElem_cons_zero, List.setIfInBounds_toArray, List.set_cons_zero, List.set_cons_succ]))
              refine wpOrd_actPass rfl rfl ?_ ?_
              · (first | exact fun b o hb => Ext.cellOf (by repeat (first | with_reducible exact Ext.refl _ | with_reducible exact Ext.same _ _ _ _ | with_reducible assumption | with_reducible apply Ext.alloc | with_reducible apply Ext.ext | with_reducible apply Ext.drew | (with_reducible refine Ext.setCell ?_ _ _ ?_; rotate_left; (focus (first | omega | (simp only [World.size_alloc, World.size_drew, size_ext, World.size_setCell]; omega)))))) hb | (intro b o hb; (try simp only [size_ext, World.size_alloc, World.size_drew, World.size_setCell] at hb); go_simp; try rfl))
              simp only [Act.put, List.getElem_toArray, List.getElem_cons_succ, List.getElem_cons_zero, List.setIfInBounds_toArray, List.set_cons_zero, List.set_cons_succ]
              repeat (first | (refine wpOrd_pass rfl rfl ?_; simp only [Act.put, List.getElem_toArray, List.getElem_cons_succ, List.getElem_cons_zero, List.setIfInBounds_toArray, List.set_cons_zero, List.set_cons_succ]) | (refine wpOrd_free (v := ?_) rfl rfl (fun _ hS => ?_) ?_; rotate_left; (focus (go_simp; try with_reducible rfl)); simp only [Act.put, List.getElem_toArray, List.getElem_cons_succ, List.getElem_cons_zero, List.setIfInBounds_toArray, List.set_cons_zero, List.set_cons_succ]))
              refine wpOrd_nil ?_
      rotate_right
      focus
        try (exfalso; first | (simp at hb5; done) | (simp at hb5; omega))
        all_goals
          (try simp only [hb5])
          repeat (first | (refine wpOrd_pass rfl rfl ?_; simp only [Act.put, List.getElem_toArray, List.getElem_cons_succ, List.getElem_cons_zero, List.setIfInBounds_toArray, List.set_cons_zero, List.set_cons_succ]) | (refine wpOrd_free (v := ?_) rfl rfl (fun _ hS => ?_) ?_; rotate_left; (focus (go_simp; try with_reducible rfl)); simp only [Act.put, List.getElem_toArray, List.getElem_cons_succ, List.getElem_cons_zero, List.setIfInBounds_toArray, List.set_cons_zero, List.set_cons_succ]))
          refine wpOrd_actPass rfl rfl ?_ ?_
          · (first | exact fun b o hb => Ext.cellOf (by repeat (first | with_reducible exact Ext.refl _ | with_reducible exact Ext.same _ _ _ _ | with_reducible assumption | with_reducible apply Ext.alloc | with_reducible apply Ext.ext | with_reducible apply Ext.drew | (with_reducible refine Ext.setCell ?_ _ _ ?_; rotate_left; (focus (first | omega | (simp only [World.size_alloc, World.size_drew, size_ext, World.size_setCell]; omega)))))) hb | (intro b o hb; (try simp only [size_ext, World.size_alloc, World.size_drew, World.size_setCell] at hb); go_simp; try rfl))
          simp only [Act.put, List.getElem_toArray, List.getElem_cons_succ, List.getElem_cons_zero, List.setIfInBounds_toArray, List.set_cons_zero, List.set_cons_succ]
          repeat (first | (refine wpOrd_pass rfl rfl ?_; simp only [Act.put, List.getElem_toArray, List.getElem_cons_succ, List.getElem_cons_zero, List.setIfInBounds_toArray, List.set_cons_zero, List.set_cons_succ]) | (refine wpOrd_free (v := ?_) rfl rfl (fun _ hS => ?_) ?_; rotate_left; (focus (go_simp; try with_reducible rfl)); simp only [Act.put, List.getElem_toArray, List.getElem_cons_succ, List.getElem_cons_zero, List.setIfInBounds_toArray, List.set_cons_zero, List.set_cons_succ]))
          refine wpOrd_nil ?_
      all_goals
        go_wp2_with (first | (go_at_call 10; refine (Encode_cap _ _ (by assumption)).mono ?_; rintro e w1 ⟨A1, c1, rfl, hb1, hcc1, E1, d1, rfl⟩; (try rw [HX.out] at hb1 hcc1 ⊢); obtain ⟨hq1, hq2⟩ := hcc1.out; (try rw [HER.out]); (try rw [HEX.out])) | (go_at_call 12; refine (Decode_any _ _ _ _ (by first | exact hn | rfl) (by omega) (by omega) _ (by with_reducible repeat (first | assumption | apply Byt.ext | apply Byt.alloc | apply Byt.drew | (refine Byt.of_ext ?_ (by assumption))))).mono ?_; rintro e w1 ⟨rfl, E1, d1, rfl⟩; (first | rw [HV.out, HD.out] | rw [HR.out, HE2.out])) | (go_at_call 11; refine (rEncode_any _ _ (by assumption)).mono ?_; rintro e w1 ⟨A2, c2, rfl, hb2, E1, d1, rfl⟩; rw [HER.out]) | (go_at_call 13; refine (rDecode_any _ _ _ l hn (by omega) (by omega) _ (by with_reducible repeat (first | assumption | apply Byt.ext | apply Byt.alloc | apply Byt.drew | (refine Byt.of_ext ?_ (by assumption))))).mono ?_; rintro e w1 ⟨rfl, E1, d1, rfl⟩; rw [HV.out, HD.out]) | (go_at_call 17; refine (sane_any _).mono ?_; rintro e w1 ⟨rfl, E1, d1, rfl⟩) | (go_at_call 16; refine (SameBytes_any _ _ _ _ _ _ _ _ _ (by first | rfl | assumption) (by first | rfl | assumption) (by with_reducible repeat (first | assumption | apply Byt.ext | apply Byt.alloc | apply Byt.drew | (refine Byt.of_ext ?_ (by assumption)))) (by with_reducible repeat (first | assumption | apply Byt.ext | apply Byt.alloc | apply Byt.drew | (refine Byt.of_ext ?_ (by assumption))))).mono ?_; rintro e w1 ⟨rfl, rfl⟩))
      all_goals
        go_ret
        exact ⟨ret_val rfl, (by repeat (first | with_reducible exact Ext.refl _ | with_reducible exact Ext.same _ _ _ _ | with_reducible assumption | with_reducible apply Ext.alloc | with_reducible apply Ext.ext | with_reducible apply Ext.drew | (with_reducible refine Ext.setCell ?_ _ _ ?_; rotate_left; (focus (first | omega | (simp only [World.size_alloc, World.size_drew, size_ext, World.size_setCell]; omega))))))⟩
  | true =>
    have HER := hid (eR_ok hk)
    have HR := hid (dec_enc hk).1
    have HE2 := hid (dec_enc hk).2
    cases hd : decOk l with
    | false =>
      have HD := hid (eD_no hd)
      have HX := HD
      have HEX := HD
      clear hx hd
      go_enter Try.func3, Try.ntmps3
      go_wp2_with (first | (go_at_call 10; refine (Encode_cap _ _ (by assumption)).mono ?_; rintro e w1 ⟨A1, c1, rfl, hb1, hcc1, E1, d1, rfl⟩; (try rw [HX.out] at hb1 hcc1 ⊢); obtain ⟨hq1, hq2⟩ := hcc1.out; (try rw [HER.out]); (try rw [HEX.out])) | (go_at_call 12; refine (Decode_any _ _ _ _ (by first | exact hn | rfl) (by omega) (by omega) _ (by with_reducible repeat (first | assumption | apply Byt.ext | apply Byt.alloc | apply Byt.drew | (refine Byt.of_ext ?_ (by assumption))))).mono ?_; rintro e w1 ⟨rfl, E1, d1, rfl⟩; (first | rw [HV.out, HD.out] | rw [HR.out, HE2.out])) | (go_at_call 11; refine (rEncode_any _ _ (by assumption)).mono ?_; rintro e w1 ⟨A2, c2, rfl, hb2, E1, d1, rfl⟩; rw [HER.out]) | (go_at_call 13; refine (rDecode_any _ _ _ l hn (by omega) (by omega) _ (by with_reducible repeat (first | assumption | apply Byt.ext | apply Byt.alloc | apply Byt.drew | (refine Byt.of_ext ?_ (by assumption))))).mono ?_; rintro e w1 ⟨rfl, E1, d1, rfl⟩; rw [HV.out, HD.out]) | (go_at_call 17; refine (sane_any _).mono ?_; rintro e w1 ⟨rfl, E1, d1, rfl⟩))
      refine wp_region_ord_same (.f 0 (.f 2 (.a 1 (.a 3 (.f 4 (.f 5 (.f 6 (.f 7 (.f 8 (.f 9 (.f 10 (.f 11 (.f 12 (.f 13 (.f 14 (.f 15 (.f 16 (.f 17 (.a 18 (.f 19 (.f 20 (.f 21 (.f 22 (.f 23 (.f 24 (.f 25 .d)))))))))))))))))))))))))) (by kernel_rfl) (by kernel_rfl) ?_
      repeat (first | (refine wpOrd_pass rfl rfl ?_; simp only [Act.put, List.getElem_toArray, List.getElem_cons_succ, List.getElem_cons_zero, List.setIfInBounds_toArray, List.set_cons_zero, List.set_cons_succ]) | (refine wpOrd_free (v := ?_) rfl rfl (fun _ hS => ?_) ?_; rotate_left; (focus (go_simp; try with_reducible rfl)); simp only [Act.put, List.getElem_toArray, List.getElem_cons_succ, List.getElem_cons_zero, List.setIfInBounds_toArray, List.set_cons_zero, List.set_cons_succ]))
      refine wpOrd_call rfl rfl rfl Try.call14 (fun R hR => ?_)
      go_simp
      refine (CheckRecord_any _ _ (by assumption)).mono ?_
      rintro e w1 ⟨rfl, E1, d1, rfl⟩
      refine hR _ _ ⟨_, rfl, ?_, ?_⟩
      · (first | exact fun b o hb => Ext.cellOf (by repeat (first | with_reducible exact Ext.refl _ | with_reducible exact Ext.same _ _ _ _ | with_reducible assumption | with_reducible apply Ext.alloc | with_reducible apply Ext.ext | with_reducible apply Ext.drew | (with_reducible refine Ext.setCell ?_ _ _ ?_; rotate_left; (focus (first | omega | (simp only [World.size_alloc, World.size_drew, size_ext, World.size_setCell]; omega)))))) hb | (intro b o hb; (try simp only [size_ext, World.size_alloc, World.size_drew, World.size_setCell] at hb); go_simp; try rfl))
      clear hR R
      simp only [Act.put, List.getElem_toArray, List.getElem_cons_succ, List.getElem_cons_zero, List.setIfInBounds_toArray, List.set_cons_zero, List.set_cons_succ]
      refine wpOrd_call rfl rfl rfl Try.call15 (fun R hR => ?_)
      go_simp
      refine (rCheckRecord_any _ _ (by assumption)).mono ?_
      rintro e w1 ⟨rfl, E, d, rfl⟩
      refine hR _ _ ⟨_, rfl, ?_, ?_⟩
      · (first | exact fun b o hb => Ext.cellOf (by repeat (first | with_reducible exact Ext.refl _ | with_reducible exact Ext.same _ _ _ _ | with_reducible assumption | with_reducible apply Ext.alloc | with_reducible apply Ext.ext | with_reducible apply Ext.drew | (with_reducible refine Ext.setCell ?_ _ _ ?_; rotate_left; (focus (first | omega | (simp only [World.size_alloc, World.size_drew, size_ext, World.size_setCell]; omega)))))) hb | (intro b o hb; (try simp only [size_ext, World.size_alloc, World.size_drew, World.size_setCell] at hb); go_simp; try rfl))
      clear hR R
      simp only [Act.put, List.getElem_toArray, List.getElem_cons_succ, List.getElem_cons_zero, List.setIfInBounds_toArray, List.set_cons_zero, List.set_cons_succ]
      repeat (first | (refine wpOrd_pass rfl rfl ?_; simp only [Act.put, List.getElem_toArray, List.getElem_cons_succ, List.getElem_cons_zero, List.setIfInBounds_toArray, List.set_cons_zero, List.set_cons_succ]) | (refine wpOrd_free (v := ?_) rfl rfl (fun _ hS => ?_) ?_; rotate_left; (focus (go_simp; try with_reducible rfl)); simp only [Act.put, List.getElem_toArray, List.getElem_cons_succ, List.getElem_cons_zero, List.setIfInBounds_toArray, List.set_cons_zero, List.set_cons_succ]))
      refine ord_bool (j := 5) rfl (fun hb5 => ?_) (fun hb5 => ?_)
      rotate_left
      focus
        try (exfalso; first | (simp at hb5; done) | (simp at hb5; omega))
        all_goals
          (try simp only [hb5])
          repeat (first | (refine wpOrd_pass rfl rfl ?_; simp only [Act.put, List.getElem_toArray, List.getElem_cons_succ, List.getElem_cons_zero, List.setIfInBounds_toArray, List.set_cons_zero, List.set_cons_succ]) | (refine wpOrd_free (v := ?_) rfl rfl (fun _ hS => ?_) ?_; rotate_left; (focus (go_simp; try with_reducible rfl)); simp only [Act.put, List.getElem_toArray, List.getElem_cons_succ, List.getElem_cons_zero, List.setIfInBounds_toArray, List.set_cons_zero, List.set_cons_succ]))
          refine ord_bool (j := 10) rfl (fun hb10 => ?_) (fun hb10 => ?_)
          rotate_left
          focus
            try (exfalso; first | (simp at hb10; done) | (simp at hb10; omega))
            all_goals
              (try simp only [hb10])
              repeat (first | (refine wpOrd_pass rfl rfl ?_; simp only [Act.put, List.getElem_toArray, List.getElem_cons_succ, List.getElem_cons_zero, List.setIfInBounds_toArray, List.set_cons_zero, List.set_cons_succ]) | (refine wpOrd_free (v := ?_) rfl rfl (fun _ hS => ?_) ?_; rotate_left; (focus (go_simp; try with_reducible rfl)); simp only [Act.put, List.getElem_toArray, List.getElem_cons_succ, List.getElem_cons_zero, List.setIfInBounds_toArray, List.set_cons_zero, List.set_cons_succ]))
              refine ord_bool (j := 15) rfl (fun hb15 => ?_) (fun hb15 => ?_)
              rotate_left
              focus
                try (exfalso; first | (simp at hb15; done) | (simp at hb15; omega))
                all_goals
                  (try simp only [hb15])
                  repeat (first | (refine wpOrd_pass rfl rfl ?_; simp only [Act.put, List.getElem_toArray, List.getElem_cons_succ, List.getElem_cons_zero, List.setIfInBounds_toArray, List.set_cons_zero, List.set_cons_succ]) | (refine wpOrd_free (v := ?_) rfl rfl (fun _ hS => ?_) ?_; rotate_left; (focus (go_simp; try with_reducible rfl)); simp only [Act.put, List.getElem_toArray, List.getElem_cons_succ, List.getElem_cons_zero, List.setIfInBounds_toArray, List.set_cons_zero, List.set_cons_succ]))
                  refine wpOrd_call rfl rfl rfl Try.call16 (fun R hR => ?_)
                  go_simp
                  refine (SameBytes_any _ _ _ _ _ _ _ _ _ (by first | rfl | assumption) (by first | rfl | assumption) (by with_reducible repeat (first | assumption | apply Byt.ext | apply Byt.alloc | apply Byt.drew | (refine Byt.of_ext ?_ (by assumption)))) (by with_reducible repeat (first | assumption | apply Byt.ext | apply Byt.alloc | apply Byt.drew | (refine Byt.of_ext ?_ (by assumption))))).mono ?_
                  rintro e w1 ⟨rfl, rfl⟩
                  refine hR _ _ ⟨_, rfl, ?_, ?_⟩
                  · (first | exact fun b o hb => Ext.cellOf (by repeat (first | with_reducible exact Ext.refl _ | with_reducible exact Ext.same _ _ _ _ | with_reducible assumption | with_reducible apply Ext.alloc | with_reducible apply Ext.ext | with_reducible apply Ext.drew | (with_reducible refine Ext.setCell ?_ _ _ ?_; rotate_left; (focus (first | omega | (simp only [World.size_alloc, World.size_drew, size_ext, World.size_setCell]; omega)))))) hb | (intro b o hb; (try simp only [size_ext, World.size_alloc, World.size_drew, World.size_setCell] at hb); go_simp; try rfl))
                  clear hR R
                  simp only [Act.put, List.getElem_toArray, List.getElem_cons_succ, List.getElem_cons_zero, List.setIfInBounds_toArray, List.set_cons_zero, List.set_cons_succ]
                  repeat (first | (refine wpOrd_pass rfl rfl ?_; simp only [Act.put, List.getElem_toArray, List.getElem_cons_succ, List.getElem_cons_zero, List.setIfInBounds_toArray, List.set_cons_zero, List.set_cons_succ]) | (refine wpOrd_free (v := ?_) rfl rfl (fun _ hS => ?_) ?_; rotate_left; (focus (go_simp; try with_reducible rfl)); simp only [Act.put, List.getElem_toArray, List.getElem_cons_succ, List.getElem_cons_zero, List.setIfInBounds_toArray, List.set_cons_zero, List.set_cons_succ]))
                  refine ord_bool (j := 21) rfl (fun hb21 => ?_) (fun hb21 => ?_)
                  rotate_left
                  focus
                    try (exfalso; first | (simp at hb21; done) | (simp at hb21; omega))
                    all_goals
                      (try simp only [hb21])
                      repeat (first | (refine wpOrd_pass rfl rfl ?_; simp only [Act.put, List.getElem_toArray, List.getElem_cons_succ, List.getElem_cons_zero, List.setIfInBounds_toArray, List.set_cons_zero, List.set_cons_succ]) | (refine wpOrd_free (v := ?_) rfl rfl (fun _ hS => ?_) ?_; rotate_left; (focus (go_simp; try with_reducible rfl)); simp only [Act.put, List.getElem_toArray, List.getElem_cons_succ, List.getElem_cons_zero, List.setIfInBounds_toArray, List.set_cons_zero, List.set_cons_succ]))
                      refine wpOrd_nil ?_
                  rotate_right
                  focus
                    try (exfalso; first | (simp at hb21; done) | (simp at hb21; omega))
                    all_goals
                      (try simp only [hb21])
                      repeat (first | (refine wpOrd_pass rfl rfl ?_; simp only [Act.put, List.getElem_toArray, List.getElem_cons_succ, List.getElem_cons_zero, List.setIfInBounds_toArray, List.set_cons_zero, List.set_cons_succ]) | (refine wpOrd_free (v := ?_) rfl rfl (fun _ hS => ?_) ?_; rotate_left; (focus (go_simp; try with_reducible rfl)); simp only [Act.put, List.getElem_toArray, List.getElem_cons_succ, List.getElem_cons_zero, List.setIfInBounds_toArray, List.set_cons_zero, List.set_cons_succ]))
                      refine wpOrd_nil ?_
              rotate_right
              focus
                try (exfalso; first | (simp at hb15; done) | (simp at hb15; omega))
                all_goals
                  (try simp only [hb15])
                  repeat (first | (refine wpOrd_pass rfl rfl ?_; simp only [Act.put, List.getElem_toArray, List.getElem_cons_succ, List.getElem_cons_zero, List.setIfInBounds_toArray, List.set_cons_zero, List.set_cons_succ]) | (refine wpOrd_free (v := ?_) rfl rfl (fun _ hS => ?_) ?_; rotate_left; (focus (go_simp; try with_reducible rfl)); simp only [Act.put, List.getElem_toArray, List.getElem_cons_succ, List.getElem_cons_zero, List.setIfInBounds_toArray, List.set_cons_zero, List.set_cons_succ]))
                  refine wpOrd_actPass rfl rfl ?_ ?_
                  · (first | exact fun b o hb => Ext.cellOf (by repeat (first | with_reducible exact Ext.refl _ | with_reducible exact Ext.same _ _ _ _ | with_reducible assumption | with_reducible apply Ext.alloc | with_reducible apply Ext.ext | with_reducible apply Ext.drew | (with_reducible refine Ext.setCell ?_ _ _ ?_; rotate_left; (focus (first | omega | (simp only [World.size_alloc, World.size_drew, size_ext, World.size_setCell]; omega)))))) hb | (intro b o hb; (try simp only [size_ext, World.size_alloc, World.size_drew, World.size_setCell] at hb); go_simp; try rfl))
                  simp only [Act.put, List.getElem_toArray, List.getElem_cons_succ, List.getElem_cons_zero, List.setIfInBounds_toArray, List.set_cons_zero, List.set_cons_succ]
                  repeat (first | (refine wpOrd_pass rfl rfl ?_; simp only [Act.put, List.getElem_toArray, List.getElem_cons_succ, List.getElem_cons_zero, List.setIfInBounds_toArray, List.set_cons_zero, List.set_cons_succ]) | (refine wpOrd_free (v := ?_) rfl rfl (fun _ hS => ?_) ?_; rotate_left; (focus (go_simp; try with_reducible rfl)); simp only [Act.put, List.getElem_toArray, List.getElem_cons_succ, List.getElem_cons_zero, List.setIfInBounds_toArray, List.set_cons_zero, List.set_cons_succ]))
                  refine wpOrd_nil ?_
          rotate_right
          focus
            try (exfalso; first | (simp at hb10; done) | (simp at hb10; omega))
            all_goals
              (try simp only [hb10])
              repeat (first | (refine wpOrd_pass rfl rfl ?_; simp only [Act.put, List.getElem_toArray, List.getElem_cons_succ, List.getElem_cons_zero, List.setIfInBounds_toArray, List.set_cons_zero, List.set_cons_succ]) | (refine wpOrd_free (v := ?_) rfl rfl (fun _ hS => ?_) ?_; rotate_left; (focus (go_simp; try with_reducible rfl)); simp only [Act.put, List.getElem_toArray, List.getElem_cons_succ, List.getElem_cons_zero, List.setIfInBounds_toArray, List.set_cons_zero, List.set_cons_succ]))
              refine wpOrd_actPass rfl rfl ?_ ?_
              · (first | exact fun b o hb => Ext.cellOf (by repeat (first | with_reducible exact Ext.refl _ | with_reducible exact Ext.same _ _ _ _ | with_reducible assumption | with_reducible apply Ext.alloc | with_reducible apply Ext.ext | with_reducible apply Ext.drew | (with_reducible refine Ext.setCell ?_ _ _ ?_; rotate_left; (focus (first | omega | (simp only [World.size_alloc, World.size_drew, size_ext, World.size_setCell]; omega)))))) hb | (intro b o hb; (try simp only [size_ext, World.size_alloc, World.size_drew, World.size_setCell] at hb); go_simp; try rfl))
              simp only [Act.put, List.getElem_toArray, List.getElem_cons_succ, List.getElem_cons_zero, List.setIfInBounds_toArray, List.set_cons_zero, List.set_cons_succ]
              repeat (first | (refine wpOrd_pass rfl rfl ?_; simp only [Act.put, List.getElem_toArray, List.getElem_cons_succ, List.getElem_cons_zero, List.setIfInBounds_toArray, List.set_cons_zero, List.set_cons_succ]) | (refine wpOrd_free (v := ?_) rfl rfl (fun _ hS => ?_) ?_; rotate_left; (focus (go_simp; try with_reducible rfl)); simp only [Act.put, List.getElem_toArray, List.getElem_cons_succ, List.getElem_cons_zero, List.setIfInBounds_toArray, List.set_cons_zero, List.set_cons_succ]))
              refine wpOrd_nil ?_
      rotate_right
      focus
        try (exfalso; first | (simp at hb5; done) | (simp at hb5; omega))
        all_goals
          (try simp only [hb5])
          repeat (first | (refine wpOrd_pass rfl rfl ?_; simp only [Act.put, List.getElem_toArray, List.getElem_cons_succ, List.getElem_cons_zero, List.setIfInBounds_toArray, List.set_cons_zero, List.set_cons_succ]) | (refine wpOrd_free (v := ?_) rfl rfl (fun _ hS => ?_) ?_; rotate_left; (focus (go_simp; try with_reducible rfl)); simp only [Act.put, List.getElem_toArray, List.getElem_cons_succ, List.getElem_cons_zero, List.setIfInBounds_toArray, List.set_cons_zero, List.set_cons_succ]))
          refine wpOrd_actPass rfl rfl ?_ ?_
          · (first | exact fun b o hb => Ext.cellOf (by repeat (first | with_reducible exact Ext.refl _ | with_reducible exact Ext.same _ _ _ _ | with_reducible assumption | with_reducible apply Ext.alloc | with_reducible apply Ext.ext | with_reducible apply Ext.drew | (with_reducible refine Ext.setCell ?_ _ _ ?_; rotate_left; (focus (first | omega | (simp only [World.size_alloc, World.size_drew, size_ext, World.size_setCell]; omega)))))) hb | (intro b o hb; (try simp only [size_ext, World.size_alloc, World.size_drew, World.size_setCell] at hb); go_simp; try rfl))
          simp only [Act.put, List.getElem_toArray, List.getElem_cons_succ, List.getElem_cons_zero, List.setIfInBounds_toArray, List.set_cons_zero, List.set_cons_succ]
          repeat (first | (refine wpOrd_pass rfl rfl ?_; simp only [Act.put, List.getElem_toArray, List.getElem_cons_succ, List.getElem_cons_zero, List.setIfInBounds_toArray, List.set_cons_zero, List.set_cons_succ]) | (refine wpOrd_free (v := ?_) rfl rfl (fun _ hS => ?_) ?_; rotate_left; (focus (go_simp; try with_reducible rfl)); simp only [Act.put, List.getElem_toArray, List.getElem_cons_succ, List.getElem_cons_zero, List.setIfInBounds_toArray, List.set_cons_zero, List.set_cons_succ]))
          refine wpOrd_nil ?_
      all_goals
        go_wp2_with (first | (go_at_call 10; refine (Encode_cap _ _ (by assumption)).mono ?_; rintro e w1 ⟨A1, c1, rfl, hb1, hcc1, E1, d1, rfl⟩; (try rw [HX.out] at hb1 hcc1 ⊢); obtain ⟨hq1, hq2⟩ := hcc1.out; (try rw [HER.out]); (try rw [HEX.out])) | (go_at_call 12; refine (Decode_any _ _ _ _ (by first | exact hn | rfl) (by omega) (by omega) _ (by with_reducible repeat (first | assumption | apply Byt.ext | apply Byt.alloc | apply Byt.drew | (refine Byt.of_ext ?_ (by assumption))))).mono ?_; rintro e w1 ⟨rfl, E1, d1, rfl⟩; (first | rw [HV.out, HD.out] | rw [HR.out, HE2.out])) | (go_at_call 11; refine (rEncode_any _ _ (by assumption)).mono ?_; rintro e w1 ⟨A2, c2, rfl, hb2, E1, d1, rfl⟩; rw [HER.out]) | (go_at_call 13; refine (rDecode_any _ _ _ l hn (by omega) (by omega) _ (by with_reducible repeat (first | assumption | apply Byt.ext | apply Byt.alloc | apply Byt.drew | (refine Byt.of_ext ?_ (by assumption))))).mono ?_; rintro e w1 ⟨rfl, E1, d1, rfl⟩; rw [HV.out, HD.out]) | (go_at_call 17; refine (sane_any _).mono ?_; rintro e w1 ⟨rfl, E1, d1, rfl⟩) | (go_at_call 16; refine (SameBytes_any _ _ _ _ _ _ _ _ _ (by first | rfl | assumption) (by first | rfl | assumption) (by with_reducible repeat (first | assumption | apply Byt.ext | apply Byt.alloc | apply Byt.drew | (refine Byt.of_ext ?_ (by assumption)))) (by with_reducible repeat (first | assumption | apply Byt.ext | apply Byt.alloc | apply Byt.drew | (refine Byt.of_ext ?_ (by assumption))))).mono ?_; rintro e w1 ⟨rfl, rfl⟩))
      all_goals
        go_ret
        exact ⟨ret_val rfl, (by repeat (first | with_reducible exact Ext.refl _ | with_reducible exact Ext.same _ _ _ _ | with_reducible assumption | with_reducible apply Ext.alloc | with_reducible apply Ext.ext | with_reducible apply Ext.drew | (with_reducible refine Ext.setCell ?_ _ _ ?_; rotate_left; (focus (first | omega | (simp only [World.size_alloc, World.size_drew, size_ext, World.size_setCell]; omega))))))⟩
    | true =>
      have HD := hid (eD_ok hd)
      obtain ⟨hxo, hxl⟩ := enc_dec hd
      rw [hx] at hxo hxl
      have hxs : x.text.size ≤ 9223372036854775807 := by have := recOk_text hxo; omega
      have HX := hid hxl
      have HEX := hid (eR_ok hxo)
      clear hx hd hxo hxl
      go_enter Try.func3, Try.ntmps3
      go_wp2_with (first | (go_at_call 10; refine (Encode_cap _ _ (by assumption)).mono ?_; rintro e w1 ⟨A1, c1, rfl, hb1, hcc1, E1, d1, rfl⟩; (try rw [HX.out] at hb1 hcc1 ⊢); obtain ⟨hq1, hq2⟩ := hcc1.out; (try rw [HER.out]); (try rw [HEX.out])) | (go_at_call 12; refine (Decode_any _ _ _ _ (by first | exact hn | rfl) (by omega) (by omega) _ (by with_reducible repeat (first | assumption | apply Byt.ext | apply Byt.alloc | apply Byt.drew | (refine Byt.of_ext ?_ (by assumption))))).mono ?_; rintro e w1 ⟨rfl, E1, d1, rfl⟩; (first | rw [HV.out, HD.out] | rw [HR.out, HE2.out])) | (go_at_call 11; refine (rEncode_any _ _ (by assumption)).mono ?_; rintro e w1 ⟨A2, c2, rfl, hb2, E1, d1, rfl⟩; rw [HER.out]) | (go_at_call 13; refine (rDecode_any _ _ _ l hn (by omega) (by omega) _ (by with_reducible repeat (first | assumption | apply Byt.ext | apply Byt.alloc | apply Byt.drew | (refine Byt.of_ext ?_ (by assumption))))).mono ?_; rintro e w1 ⟨rfl, E1, d1, rfl⟩; rw [HV.out, HD.out]) | (go_at_call 17; refine (sane_any _).mono ?_; rintro e w1 ⟨rfl, E1, d1, rfl⟩))
      refine wp_region_ord_same (.f 0 (.f 2 (.a 1 (.a 3 (.f 4 (.f 5 (.f 6 (.f 7 (.f 8 (.f 9 (.f 10 (.f 11 (.f 12 (.f 13 (.f 14 (.f 15 (.f 16 (.f 17 (.a 18 (.f 19 (.f 20 (.f 21 (.f 22 (.f 23 (.f 24 (.f 25 .d)))))))))))))))))))))))))) (by kernel_rfl) (by kernel_rfl) ?_
      repeat (first | (refine wpOrd_pass rfl rfl ?_; simp only [Act.put, List.getElem_toArray, List.getElem_cons_succ, List.getElem_cons_zero, List.setIfInBounds_toArray, List.set_cons_zero, List.set_cons_succ]) | (refine wpOrd_free (v := ?_) rfl rfl (fun _ hS => ?_) ?_; rotate_left; (focus (go_simp; try with_reducible rfl)); simp only [Act.put, List.getElem_toArray, List.getElem_cons_succ, List.getElem_cons_zero, List.setIfInBounds_toArray, List.set_cons_zero, List.set_cons_succ]))
      refine wpOrd_call rfl rfl rfl Try.call14 (fun R hR => ?_)
      go_simp
      refine (CheckRecord_any _ _ (by assumption)).mono ?_
      rintro e w1 ⟨rfl, E1, d1, rfl⟩
      refine hR _ _ ⟨_, rfl, ?_, ?_⟩
      · (first | exact fun b o hb => Ext.cellOf (by repeat (first | with_reducible exact Ext.refl _ | with_reducible exact Ext.same _ _ _ _ | with_reducible assumption | with_reducible apply Ext.alloc | with_reducible apply Ext.ext | with_reducible apply Ext.drew | (with_reducible refine Ext.setCell ?_ _ _ ?_; rotate_left; (focus (first | omega | (simp only [World.size_alloc, World.size_drew, size_ext, World.size_setCell]; omega)))))) hb | (intro b o hb; (try simp only [size_ext, World.size_alloc, World.size_drew, World.size_setCell] at hb); go_simp; try rfl))
      clear hR R
      simp only [Act.put, List.getElem_toArray, List.getElem_cons_succ, List.getElem_cons_zero, List.setIfInBounds_toArray, List.set_cons_zero, List.set_cons_succ]
      refine wpOrd_call rfl rfl rfl Try.call15 (fun R hR => ?_)
      go_simp
      refine (rCheckRecord_any _ _ (by assumption)).mono ?_
      rintro e w1 ⟨rfl, E, d, rfl⟩
      refine hR _ _ ⟨_, rfl, ?_, ?_⟩
      · (first | exact fun b o hb => Ext.cellOf (by repeat (first | with_reducible exact Ext.refl _ | with_reducible exact Ext.same _ _ _ _ | with_reducible assumption | with_reducible apply Ext.alloc | with_reducible apply Ext.ext | with_reducible apply Ext.drew | (with_reducible refine Ext.setCell ?_ _ _ ?_; rotate_left; (focus (first | omega | (simp only [World.size_alloc, World.size_drew, size_ext, World.size_setCell]; omega)))))) hb | (intro b o hb; (try simp only [size_ext, World.size_alloc, World.size_drew, World.size_setCell] at hb); go_simp; try rfl))
      clear hR R
      simp only [Act.put, List.getElem_toArray, List.getElem_cons_succ, List.getElem_cons_zero, List.setIfInBounds_toArray, List.set_cons_zero, List.set_cons_succ]
      repeat (first | (refine wpOrd_pass rfl rfl ?_; simp only [Act.put, List.getElem_toArray, List.getElem_cons_succ, List.getElem_cons_zero, List.setIfInBounds_toArray, List.set_cons_zero, List.set_cons_succ]) | (refine wpOrd_free (v := ?_) rfl rfl (fun _ hS => ?_) ?_; rotate_left; (focus (go_simp; try with_reducible rfl)); simp only [Act.put, List.getElem_toArray, List.getElem_cons_succ, List.getElem_cons_zero, List.setIfInBounds_toArray, List.set_cons_zero, List.set_cons_succ]))
      refine ord_bool (j := 5) rfl (fun hb5 => ?_) (fun hb5 => ?_)
      rotate_left
      focus
        try (exfalso; first | (simp at hb5; done) | (simp at hb5; omega))
        all_goals
          (try simp only [hb5])
          repeat (first | (refine wpOrd_pass rfl rfl ?_; simp only [Act.put, List.getElem_toArray, List.getElem_cons_succ, List.getElem_cons_zero, List.setIfInBounds_toArray, List.set_cons_zero, List.set_cons_succ]) | (refine wpOrd_free (v := ?_) rfl rfl (fun _ hS => ?_) ?_; rotate_left; (focus (go_simp; try with_reducible rfl)); simp only [Act.put, List.getElem_toArray, List.getElem_cons_succ, List.getElem_cons_zero, List.setIfInBounds_toArray, List.set_cons_zero, List.set_cons_succ]))
          refine ord_bool (j := 10) rfl (fun hb10 => ?_) (fun hb10 => ?_)
          rotate_left
          focus
            try (exfalso; first | (simp at hb10; done) | (simp at hb10; omega))
            all_goals
              (try simp only [hb10])
              repeat (first | (refine wpOrd_pass rfl rfl ?_; simp only [Act.put, List.getElem_toArray, List.getElem_cons_succ, List.getElem_cons_zero, List.setIfInBounds_toArray, List.set_cons_zero, List.set_cons_succ]) | (refine wpOrd_free (v := ?_) rfl rfl (fun _ hS => ?_) ?_; rotate_left; (focus (go_simp; try with_reducible rfl)); simp only [Act.put, List.getElem_toArray, List.getElem_cons_succ, List.getElem_cons_zero, List.setIfInBounds_toArray, List.set_cons_zero, List.set_cons_succ]))
              refine ord_bool (j := 15) rfl (fun hb15 => ?_) (fun hb15 => ?_)
              rotate_left
              focus
                try (exfalso; first | (simp at hb15; done) | (simp at hb15; omega))
                all_goals
                  (try simp only [hb15])
                  repeat (first | (refine wpOrd_pass rfl rfl ?_; simp only [Act.put, List.getElem_toArray, List.getElem_cons_succ, List.getElem_cons_zero, List.setIfInBounds_toArray, List.set_cons_zero, List.set_cons_succ]) | (refine wpOrd_free (v := ?_) rfl rfl (fun _ hS => ?_) ?_; rotate_left; (focus (go_simp; try with_reducible rfl)); simp only [Act.put, List.getElem_toArray, List.getElem_cons_succ, List.getElem_cons_zero, List.setIfInBounds_toArray, List.set_cons_zero, List.set_cons_succ]))
                  refine wpOrd_call rfl rfl rfl Try.call16 (fun R hR => ?_)
                  go_simp
                  refine (SameBytes_any _ _ _ _ _ _ _ _ _ (by first | rfl | assumption) (by first | rfl | assumption) (by with_reducible repeat (first | assumption | apply Byt.ext | apply Byt.alloc | apply Byt.drew | (refine Byt.of_ext ?_ (by assumption)))) (by with_reducible repeat (first | assumption | apply Byt.ext | apply Byt.alloc | apply Byt.drew | (refine Byt.of_ext ?_ (by assumption))))).mono ?_
                  rintro e w1 ⟨rfl, rfl⟩
                  refine hR _ _ ⟨_, rfl, ?_, ?_⟩
                  · (first | exact fun b o hb => Ext.cellOf (by repeat (first | with_reducible exact Ext.refl _ | with_reducible exact Ext.same _ _ _ _ | with_reducible assumption | with_reducible apply Ext.alloc | with_reducible apply Ext.ext | with_reducible apply Ext.drew | (with_reducible refine Ext.setCell ?_ _ _ ?_; rotate_left; (focus (first | omega | (simp only [World.size_alloc, World.size_drew, size_ext, World.size_setCell]; omega)))))) hb | (intro b o hb; (try simp only [size_ext, World.size_alloc, World.size_drew, World.size_setCell] at hb); go_simp; try rfl))
                  clear hR R
                  simp only [Act.put, List.getElem_toArray, List.getElem_cons_succ, List.getElem_cons_zero, List.setIfInBounds_toArray, List.set_cons_zero, List.set_cons_succ]
                  repeat (first | (refine wpOrd_pass rfl rfl ?_; simp only [Act.put, List.getElem_toArray, List.getElem_cons_succ, List.getElem_cons_zero, List.setIfInBounds_toArray, List.set_cons_zero, List.set_cons_succ]) | (refine wpOrd_free (v := ?_) rfl rfl (fun _ hS => ?_) ?_; rotate_left; (focus (go_simp; try with_reducible rfl)); simp only [Act.put, List.getElem_toArray, List.getElem_cons_succ, List.getElem_cons_zero, List.setIfInBounds_toArray, List.set_cons_zero, List.set_cons_succ]))
                  refine ord_bool (j := 21) rfl (fun hb21 => ?_) (fun hb21 => ?_)
                  rotate_left
                  focus
                    try (exfalso; first | (simp at hb21; done) | (simp at hb21; omega))
                    all_goals
                      (try simp only [hb21])
                      repeat (first | (refine wpOrd_pass rfl rfl ?_; simp only [Act.put, List.getElem_toArray, List.getElem_cons_succ, List.getElem_cons_zero, List.setIfInBounds_toArray, List.set_cons_zero, List.set_cons_succ]) | (refine wpOrd_free (v := ?_) rfl rfl (fun _ hS => ?_) ?_; rotate_left; (focus (go_simp; try with_reducible rfl)); simp only [Act.put, List.getElem_toArray, List.getElem_cons_succ, List.getElem_cons_zero, List.setIfInBounds_toArray, List.set_cons_zero, List.set_cons_succ]))
                      refine wpOrd_nil ?_
                  rotate_right
                  focus
                    try (exfalso; first | (simp at hb21; done) | (simp at hb21; omega))
                    all_goals
                      (try simp only [hb21])
                      repeat (first | (refine wpOrd_pass rfl rfl ?_; simp only [Act.put, List.getElem_toArray, List.getElem_cons_succ, List.getElem_cons_zero, List.setIfInBounds_toArray, List.set_cons_zero, List.set_cons_succ]) | (refine wpOrd_free (v := ?_) rfl rfl (fun _ hS => ?_) ?_; rotate_left; (focus (go_simp; try with_reducible rfl)); simp only [Act.put, List.getElem_toArray, List.getElem_cons_succ, List.getElem_cons_zero, List.setIfInBounds_toArray, List.set_cons_zero, List.set_cons_succ]))
                      refine wpOrd_nil ?_
              rotate_right
              focus
                try (exfalso; first | (simp at hb15; done) | (simp at hb15; omega))
                all_goals
                  (try simp only [hb15])
                  repeat (first | (refine wpOrd_pass rfl rfl ?_; simp only [Act.put, List.getElem_toArray, List.getElem_cons_succ, List.getElem_cons_zero, List.setIfInBounds_toArray, List.set_cons_zero, List.set_cons_succ]) | (refine wpOrd_free (v := ?_) rfl rfl (fun _ hS => ?_) ?_; rotate_left; (focus (go_simp; try with_reducible rfl)); simp only [Act.put, List.getElem_toArray, List.getElem_cons_succ, List.getElem_cons_zero, List.setIfInBounds_toArray, List.set_cons_zero, List.set_cons_succ]))
                  refine wpOrd_actPass rfl rfl ?_ ?_
                  · (first | exact fun b o hb => Ext.cellOf (by repeat (first | with_reducible exact Ext.refl _ | with_reducible exact Ext.same _ _ _ _ | with_reducible assumption | with_reducible apply Ext.alloc | with_reducible apply Ext.ext | with_reducible apply Ext.drew | (with_reducible refine Ext.setCell ?_ _ _ ?_; rotate_left; (focus (first | omega | (simp only [World.size_alloc, World.size_drew, size_ext, World.size_setCell]; omega)))))) hb | (intro b o hb; (try simp only [size_ext, World.size_alloc, World.size_drew, World.size_setCell] at hb); go_simp; try rfl))
                  simp only [Act.put, List.getElem_toArray, List.getElem_cons_succ, List.getElem_cons_zero, List.setIfInBounds_toArray, List.set_cons_zero, List.set_cons_succ]
                  repeat (first | (refine wpOrd_pass rfl rfl ?_; simp only [Act.put, List.getElem_toArray, List.getElem_cons_succ, List.getElem_cons_zero, List.setIfInBounds_toArray, List.set_cons_zero, List.set_cons_succ]) | (refine wpOrd_free (v := ?_) rfl rfl (fun _ hS => ?_) ?_; rotate_left; (focus (go_simp; try with_reducible rfl)); simp only [Act.put, List.getElem_toArray, List.getElem_cons_succ, List.getElem_cons_zero, List.setIfInBounds_toArray, List.set_cons_zero, List.set_cons_succ]))
                  refine wpOrd_nil ?_
          rotate_right
          focus
            try (exfalso; first | (simp at hb10; done) | (simp at hb10; omega))
            all_goals
              (try simp only [hb10])
              repeat (first | (refine wpOrd_pass rfl rfl ?_; simp only [Act.put, List.getElem_toArray, List.getElem_cons_succ, List.getElem_cons_zero, List.setIfInBounds_toArray, List.set_cons_zero, List.set_cons_succ]) | (refine wpOrd_free (v := ?_) rfl rfl (fun _ hS => ?_) ?_; rotate_left; (focus (go_simp; try with_reducible rfl)); simp only [Act.put, List.getElem_toArray, List.getElem_cons_succ, List.getElem_cons_zero, List.setIfInBounds_toArray, List.set_cons_zero, List.set_cons_succ]))
              refine wpOrd_actPass rfl rfl ?_ ?_
              · (first | exact fun b o hb => Ext.cellOf (by repeat (first | with_reducible exact Ext.refl _ | with_reducible exact Ext.same _ _ _ _ | with_reducible assumption | with_reducible apply Ext.alloc | with_reducible apply Ext.ext | with_reducible apply Ext.drew | (with_reducible refine Ext.setCell ?_ _ _ ?_; rotate_left; (focus (first | omega | (simp only [World.size_alloc, World.size_drew, size_ext, World.size_setCell]; omega)))))) hb | (intro b o hb; (try simp only [size_ext, World.size_alloc, World.size_drew, World.size_setCell] at hb); go_simp; try rfl))
              simp only [Act.put, List.getElem_toArray, List.getElem_cons_succ, List.getElem_cons_zero, List.setIfInBounds_toArray, List.set_cons_zero, List.set_cons_succ]
              repeat (first | (refine wpOrd_pass rfl rfl ?_; simp only [Act.put, List.getElem_toArray, List.getElem_cons_succ, List.getElem_cons_zero, List.setIfInBounds_toArray, List.set_cons_zero, List.set_cons_succ]) | (refine wpOrd_free (v := ?_) rfl rfl (fun _ hS => ?_) ?_; rotate_left; (focus (go_simp; try with_reducible rfl)); simp only [Act.put, List.getElem_toArray, List.getElem_cons_succ, List.getElem_cons_zero, List.setIfInBounds_toArray, List.set_cons_zero, List.set_cons_succ]))
              refine wpOrd_nil ?_
      rotate_right
      focus
        try (exfalso; first | (simp at hb5; done) | (simp at hb5; omega))
        all_goals
          (try simp only [hb5])
          repeat (first | (refine wpOrd_pass rfl rfl ?_; simp only [Act.put, List.getElem_toArray, List.getElem_cons_succ, List.getElem_cons_zero, List.setIfInBounds_toArray, List.set_cons_zero, List.set_cons_succ]) | (refine wpOrd_free (v := ?_) rfl rfl (fun _ hS => ?_) ?_; rotate_left; (focus (go_simp; try with_reducible rfl)); simp only [Act.put, List.getElem_toArray, List.getElem_cons_succ, List.getElem_cons_zero, List.setIfInBounds_toArray, List.set_cons_zero, List.set_cons_succ]))
          refine wpOrd_actPass rfl rfl ?_ ?_
          · (first | exact fun b o hb => Ext.cellOf (by repeat (first | with_reducible exact Ext.refl _ | with_reducible exact Ext.same _ _ _ _ | with_reducible assumption | with_reducible apply Ext.alloc | with_reducible apply Ext.ext | with_reducible apply Ext.drew | (with_reducible refine Ext.setCell ?_ _ _ ?_; rotate_left; (focus (first | omega | (simp only [World.size_alloc, World.size_drew, size_ext, World.size_setCell]; omega)))))) hb | (intro b o hb; (try simp only [size_ext, World.size_alloc, World.size_drew, World.size_setCell] at hb); go_simp; try rfl))
          simp only [Act.put, List.getElem_toArray, List.getElem_cons_succ, List.getElem_cons_zero, List.setIfInBounds_toArray, List.set_cons_zero, List.set_cons_succ]
          repeat (first | (refine wpOrd_pass rfl rfl ?_; simp only [Act.put, List.getElem_toArray, List.getElem_cons_succ, List.getElem_cons_zero, List.setIfInBounds_toArray, List.set_cons_zero, List.set_cons_succ]) | (refine wpOrd_free (v := ?_) rfl rfl (fun _ hS => ?_) ?_; rotate_left; (focus (go_simp; try with_reducible rfl)); simp only [Act.put, List.getElem_toArray, List.getElem_cons_succ, List.getElem_cons_zero, List.setIfInBounds_toArray, List.set_cons_zero, List.set_cons_succ]))
          refine wpOrd_nil ?_
      all_goals
        go_wp2_with (first | (go_at_call 10; refine (Encode_cap _ _ (by assumption)).mono ?_; rintro e w1 ⟨A1, c1, rfl, hb1, hcc1, E1, d1, rfl⟩; (try rw [HX.out] at hb1 hcc1 ⊢); obtain ⟨hq1, hq2⟩ := hcc1.out; (try rw [HER.out]); (try rw [HEX.out])) | (go_at_call 12; refine (Decode_any _ _ _ _ (by first | exact hn | rfl) (by omega) (by omega) _ (by with_reducible repeat (first | assumption | apply Byt.ext | apply Byt.alloc | apply Byt.drew | (refine Byt.of_ext ?_ (by assumption))))).mono ?_; rintro e w1 ⟨rfl, E1, d1, rfl⟩; (first | rw [HV.out, HD.out] | rw [HR.out, HE2.out])) | (go_at_call 11; refine (rEncode_any _ _ (by assumption)).mono ?_; rintro e w1 ⟨A2, c2, rfl, hb2, E1, d1, rfl⟩; rw [HER.out]) | (go_at_call 13; refine (rDecode_any _ _ _ l hn (by omega) (by omega) _ (by with_reducible repeat (first | assumption | apply Byt.ext | apply Byt.alloc | apply Byt.drew | (refine Byt.of_ext ?_ (by assumption))))).mono ?_; rintro e w1 ⟨rfl, E1, d1, rfl⟩; rw [HV.out, HD.out]) | (go_at_call 17; refine (sane_any _).mono ?_; rintro e w1 ⟨rfl, E1, d1, rfl⟩) | (go_at_call 16; refine (SameBytes_any _ _ _ _ _ _ _ _ _ (by first | rfl | assumption) (by first | rfl | assumption) (by with_reducible repeat (first | assumption | apply Byt.ext | apply Byt.alloc | apply Byt.drew | (refine Byt.of_ext ?_ (by assumption)))) (by with_reducible repeat (first | assumption | apply Byt.ext | apply Byt.alloc | apply Byt.drew | (refine Byt.of_ext ?_ (by assumption))))).mono ?_; rintro e w1 ⟨rfl, rfl⟩))
      all_goals
        go_ret
        exact ⟨ret_val rfl, (by repeat (first | with_reducible exact Ext.refl _ | with_reducible exact Ext.same _ _ _ _ | with_reducible assumption | with_reducible apply Ext.alloc | with_reducible apply Ext.ext | with_reducible apply Ext.drew | (with_reducible refine Ext.setCell ?_ _ _ ?_; rotate_left; (focus (first | omega | (simp only [World.size_alloc, World.size_drew, size_ext, World.size_setCell]; omega))))))⟩
end Go.Proofs.Ytekjdeibnfaehaa
