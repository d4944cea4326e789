/- Valid registers, in the reference. -/
import Derived.Test.YtekjdeibnfaehaaGreatCheck
set_option linter.unusedSimpArgs false
set_option linter.unusedVariables false
namespace Go.Proofs.YtekjdeibnfaehaaGreat
open Go.RowKit

set_option maxHeartbeats 1000000 in
theorem Ahead_any (o1 s1 o2 s2 : Int) (w : World) :
    Calls Tryz.prog 136 #[.agg #[.int .i64 o1, .int .i64 s1], .agg #[.int .i64 o2, .int .i64 s2]] w fun e w' => e = .returned (.bool (ltP o1 s1 o2 s2)) ∧ Ext w w' := by
  go_enter Tryz.func136, Tryz.ntmps136
  go_wp2_with fail
  all_goals
    go_ret
    refine ⟨ret_val ?_, (by repeat (first | (with_reducible first | exact Ext.refl _ | exact Ext.same _ _ _ _ | assumption | apply Ext.alloc | apply Ext.ext | apply Ext.drew) | (with_reducible refine Ext.setCell ?_ _ _ ?_; rotate_left; focus (first | omega | (simp only [zs1, zs2, zs3, size_ext]; omega)))))⟩
    show Value.bool _ = _
    first | (simp [ltP, *]; done) | (simp [ltP]; omega) | (simp_all [ltP]; done) | (simp_all [ltP]; omega)

theorem errRec_zero {r : Rec} : (errRec r != 0) = !recOk r := by unfold errRec; cases recOk r <;> rfl
set_option maxRecDepth 100000 in
set_option maxHeartbeats 4000000 in
theorem rCheck_any (A : Option Addr) (c n : Nat) (l : List Rec) (hn : l.length = n) (hbig : n ≤ 9223372036854775807) (ht : TxtBig l) (w : World) (hr : Recs w A l) :
    Calls Tryz.prog 84 #[regV A n c] w fun e w' => e = .returned (.int .i64 (errReg l)) ∧ Ext w w' := by
  by_cases h80 : 80 < n
  · have he : errReg l = 71 := by rw [errReg, checkB_long (by omega)]; rfl
    rw [he]
    clear he
    go_enter Tryz.func84, Tryz.ntmps84
    go_wp2_with fail
    go_ret
    exact ⟨rfl, (by repeat (first | (with_reducible first | exact Ext.refl _ | exact Ext.same _ _ _ _ | assumption | apply Ext.alloc | apply Ext.ext | apply Ext.drew) | (with_reducible refine Ext.setCell ?_ _ _ ?_; rotate_left; focus (first | omega | (simp only [zs1, zs2, zs3, size_ext]; omega)))))⟩
  · have h80' : n ≤ 80 := by omega
    go_enter Tryz.func84, Tryz.ntmps84
    go_wp2_with fail
    go_loopw [3] (fun i wr => ∃ k : Nat, k ≤ n ∧ i = .int .i64 k ∧ Ext (w.alloc (.cells #[.slice A n c] 34)) wr ∧ PreOk l k) (fun i _ => n - (intOf i).toNat)
    case atStart => exact ⟨0, Nat.zero_le _, rfl, Ext.refl _, PreOk.zero _⟩
    case round =>
      obtain ⟨k, hk, rfl, ⟨E0, d0, rfl⟩, hpre⟩ := hrel
      by_cases hlt : k < n
      · obtain ⟨g, o, rfl, hg⟩ := hr.addr (by omega)
        have hks : k < l.length := by omega
        have hrow := hr.row hks
        have htk := ht _ (List.getElem_mem hks)
        obtain ⟨r, hrk⟩ : ∃ r, l[k] = r := ⟨_, rfl⟩
        rw [hrk] at hrow htk
        have Hrk := hid hrk
        clear hrk
        obtain ⟨h0, h1, h2, h3, h4, h5, h6, h7, h8, h9, h10⟩ := hrow
        have bad1 : recOk r = false → errReg l = 71 := fun h => by
          rw [errReg, checkB_rec hks (by rw [Hrk.out]; exact h)]; rfl
        have herr : (errRec r != 0) = !recOk r := errRec_zero
        by_cases hk0 : 0 < k
        · obtain ⟨q0, q1, _⟩ := hr.row (i := k - 1) (by omega)
          obtain ⟨p, hpk⟩ : ∃ p, l[k - 1]'(by omega) = p := ⟨_, rfl⟩
          rw [hpk] at q0 q1
          have bad2 : ltP p.ao p.sq r.ao r.sq = false → errReg l = 71 := fun h => by
            rw [errReg, checkB_unsorted hks (by omega)]; · rfl
            rw [hpk, Hrk.out, aheadB]; exact h
          have good : recOk r = true → ltP p.ao p.sq r.ao r.sq = true → PreOk l (k + 1) := fun h1 h2 => hpre.succ hks (by rw [Hrk.out]; exact h1) (.inr (by
            rw [hpk, Hrk.out, aheadB]; exact h2))
          clear hpk
          have Bad1 := hid bad1
          have Bad2 := hid bad2
          have Good := hid good
          clear bad1 bad2 good hpre
          have hi1 : (1 : Int) ≤ (k : Int) := by omega
          have hi2 : (k : Int) - 1 < (n : Int) := by omega
          have hi0 : (0 : Int) ≤ (k : Int) - 1 := by omega
          have hi3 : IntKind.i64.wrap ((k : Int) - 1) = (k : Int) - 1 := IntWalk.i64_in _ (by omega)
          have hi4 : ((k : Int) - 1).toNat = k - 1 := by omega
          go_wp2_with fail
          refine wp_region_ord_same (.f 0 (.f 1 (.f 2 (.f 3 (.f 4 (.a 5 (.f 6 (.f 7 (.f 8 (.f 9 (.f 10 (.f 11 (.f 12 (.f 13 (.f 14 (.f 15 (.f 16 (.f 17 (.f 18 (.f 19 (.f 20 (.f 21 (.f 22 (.f 23 (.a 24 (.f 25 (.f 26 (.f 27 .d)))))))))))))))))))))))))))) (by kernel_rfl) (by kernel_rfl) ?_
          repeat ((first | refine wpOrd_pass rfl rfl ?_ | (refine wpOrd_free (v := ?_) rfl rfl (fun _ hS => ?_) ?_; rotate_left; focus (go_simp; try with_reducible rfl))); simp only [Act.put, zp1, zp2, zp3, zp4, zp5, zp6])
          refine wpOrd_call rfl rfl rfl Tryz.call109 (fun R hR => ?_)
          go_simp
          refine (rCheckRecord_any _ _ (by assumption)).mono ?_
          rintro e w1 ⟨rfl, E, d, rfl⟩
          refine hR _ _ ⟨_, rfl, ?_, ?_⟩
          · (first | exact fun b o hb => Ext.cellOf (by repeat (first | (with_reducible first | exact Ext.refl _ | exact Ext.same _ _ _ _ | assumption | apply Ext.alloc | apply Ext.ext | apply Ext.drew) | (with_reducible refine Ext.setCell ?_ _ _ ?_; rotate_left; focus (first | omega | (simp only [zs1, zs2, zs3, size_ext]; omega))))) hb | (intro b o hb; (try simp only [size_ext, zs1, zs2, zs3] at hb); go_simp; try rfl))
          clear hR R
          simp only [Act.put, zp1, zp2, zp3, zp4, zp5, zp6]
          repeat ((first | refine wpOrd_pass rfl rfl ?_ | (refine wpOrd_free (v := ?_) rfl rfl (fun _ hS => ?_) ?_; rotate_left; focus (go_simp; try with_reducible rfl))); simp only [Act.put, zp1, zp2, zp3, zp4, zp5, zp6])
          refine ord_bool (j := 7) rfl (fun hb7 => ?_) (fun hb7 => ?_)
          rotate_left
          focus
           try (exfalso; first | (simp at hb7; done) | (simp at hb7; omega))
           all_goals
            (try simp only [hb7])
            repeat ((first | refine wpOrd_pass rfl rfl ?_ | (refine wpOrd_free (v := ?_) rfl rfl (fun _ hS => ?_) ?_; rotate_left; focus (go_simp; try with_reducible rfl))); simp only [Act.put, zp1, zp2, zp3, zp4, zp5, zp6])
            refine ord_bool (j := 10) rfl (fun hb10 => ?_) (fun hb10 => ?_)
            rotate_left
            focus
             try (exfalso; first | (simp at hb10; done) | (simp at hb10; omega))
             all_goals
              (try simp only [hb10])
              repeat ((first | refine wpOrd_pass rfl rfl ?_ | (refine wpOrd_free (v := ?_) rfl rfl (fun _ hS => ?_) ?_; rotate_left; focus (go_simp; try with_reducible rfl))); simp only [Act.put, zp1, zp2, zp3, zp4, zp5, zp6])
              refine wpOrd_actPass rfl rfl ?_ ?_
              · (first | exact fun b o hb => Ext.cellOf (by repeat (first | (with_reducible first | exact Ext.refl _ | exact Ext.same _ _ _ _ | assumption | apply Ext.alloc | apply Ext.ext | apply Ext.drew) | (with_reducible refine Ext.setCell ?_ _ _ ?_; rotate_left; focus (first | omega | (simp only [zs1, zs2, zs3, size_ext]; omega))))) hb | (intro b o hb; (try simp only [size_ext, zs1, zs2, zs3] at hb); go_simp; try rfl))
              simp only [Act.put, zp1, zp2, zp3, zp4, zp5, zp6]
              repeat ((first | refine wpOrd_pass rfl rfl ?_ | (refine wpOrd_free (v := ?_) rfl rfl (fun _ hS => ?_) ?_; rotate_left; focus (go_simp; try with_reducible rfl))); simp only [Act.put, zp1, zp2, zp3, zp4, zp5, zp6])
              refine wpOrd_nil ?_
            rotate_right
            focus
             try (exfalso; first | (simp at hb10; done) | (simp at hb10; omega))
             all_goals
              (try simp only [hb10])
              repeat ((first | refine wpOrd_pass rfl rfl ?_ | (refine wpOrd_free (v := ?_) rfl rfl (fun _ hS => ?_) ?_; rotate_left; focus (go_simp; try with_reducible rfl))); simp only [Act.put, zp1, zp2, zp3, zp4, zp5, zp6])
              refine wpOrd_call rfl rfl rfl Tryz.call136 (fun R hR => ?_)
              go_simp
              refine (Ahead_any _ _ _ _ _).mono ?_
              rintro e w1 ⟨rfl, E2, d2, rfl⟩
              refine hR _ _ ⟨_, rfl, ?_, ?_⟩
              · (first | exact fun b o hb => Ext.cellOf (by repeat (first | (with_reducible first | exact Ext.refl _ | exact Ext.same _ _ _ _ | assumption | apply Ext.alloc | apply Ext.ext | apply Ext.drew) | (with_reducible refine Ext.setCell ?_ _ _ ?_; rotate_left; focus (first | omega | (simp only [zs1, zs2, zs3, size_ext]; omega))))) hb | (intro b o hb; (try simp only [size_ext, zs1, zs2, zs3] at hb); go_simp; try rfl))
              clear hR R
              simp only [Act.put, zp1, zp2, zp3, zp4, zp5, zp6]
              repeat ((first | refine wpOrd_pass rfl rfl ?_ | (refine wpOrd_free (v := ?_) rfl rfl (fun _ hS => ?_) ?_; rotate_left; focus (go_simp; try with_reducible rfl))); simp only [Act.put, zp1, zp2, zp3, zp4, zp5, zp6])
              refine wpOrd_nil ?_
          rotate_right
          focus
           try (exfalso; first | (simp at hb7; done) | (simp at hb7; omega))
           all_goals
            (try simp only [hb7])
            repeat ((first | refine wpOrd_pass rfl rfl ?_ | (refine wpOrd_free (v := ?_) rfl rfl (fun _ hS => ?_) ?_; rotate_left; focus (go_simp; try with_reducible rfl))); simp only [Act.put, zp1, zp2, zp3, zp4, zp5, zp6])
            refine wpOrd_actPass rfl rfl ?_ ?_
            · (first | exact fun b o hb => Ext.cellOf (by repeat (first | (with_reducible first | exact Ext.refl _ | exact Ext.same _ _ _ _ | assumption | apply Ext.alloc | apply Ext.ext | apply Ext.drew) | (with_reducible refine Ext.setCell ?_ _ _ ?_; rotate_left; focus (first | omega | (simp only [zs1, zs2, zs3, size_ext]; omega))))) hb | (intro b o hb; (try simp only [size_ext, zs1, zs2, zs3] at hb); go_simp; try rfl))
            simp only [Act.put, zp1, zp2, zp3, zp4, zp5, zp6]
            repeat ((first | refine wpOrd_pass rfl rfl ?_ | (refine wpOrd_free (v := ?_) rfl rfl (fun _ hS => ?_) ?_; rotate_left; focus (go_simp; try with_reducible rfl))); simp only [Act.put, zp1, zp2, zp3, zp4, zp5, zp6])
            refine wpOrd_nil ?_
          all_goals
            go_wp2_with fail
          all_goals first
            | (go_ret; exact ⟨ret_val (by show Value.int .i64 _ = _; rw [Bad1.out (by simpa using hb7)]), (by repeat (first | (with_reducible first | exact Ext.refl _ | exact Ext.same _ _ _ _ | assumption | apply Ext.alloc | apply Ext.ext | apply Ext.drew) | (with_reducible refine Ext.setCell ?_ _ _ ?_; rotate_left; focus (first | omega | (simp only [zs1, zs2, zs3, size_ext]; omega)))))⟩)
            | (go_ret; exact ⟨ret_val (by show Value.int .i64 _ = _; rw [Bad2.out (by first | assumption | simp_all)]), (by repeat (first | (with_reducible first | exact Ext.refl _ | exact Ext.same _ _ _ _ | assumption | apply Ext.alloc | apply Ext.ext | apply Ext.drew) | (with_reducible refine Ext.setCell ?_ _ _ ?_; rotate_left; focus (first | omega | (simp only [zs1, zs2, zs3, size_ext]; omega)))))⟩)
            | exact ⟨⟨k + 1, by omega, by go_num, (by repeat (first | (with_reducible first | exact Ext.refl _ | exact Ext.same _ _ _ _ | assumption | apply Ext.alloc | apply Ext.ext | apply Ext.drew) | (with_reducible refine Ext.setCell ?_ _ _ ?_; rotate_left; focus (first | omega | (simp only [zs1, zs2, zs3, size_ext]; omega))))), Good.out (by simpa using hb7) (by first | assumption | simp_all)⟩, by simp [intOf]; omega⟩
        · have Bad1 := hid bad1
          have good : recOk r = true → PreOk l (k + 1) := fun h1 => hpre.succ hks (by rw [Hrk.out]; exact h1) (.inl (by omega))
          have Good := hid good
          clear bad1 good hpre
          go_wp2_with fail
          refine wp_region_ord_same (.f 0 (.f 1 (.f 2 (.f 3 (.f 4 (.a 5 (.f 6 (.f 7 (.f 8 (.f 9 (.f 10 (.f 11 (.f 12 (.f 13 (.f 14 (.f 15 (.f 16 (.f 17 (.f 18 (.f 19 (.f 20 (.f 21 (.f 22 (.f 23 (.a 24 (.f 25 (.f 26 (.f 27 .d)))))))))))))))))))))))))))) (by kernel_rfl) (by kernel_rfl) ?_
          repeat ((first | refine wpOrd_pass rfl rfl ?_ | (refine wpOrd_free (v := ?_) rfl rfl (fun _ hS => ?_) ?_; rotate_left; focus (go_simp; try with_reducible rfl))); simp only [Act.put, zp1, zp2, zp3, zp4, zp5, zp6])
          refine wpOrd_call rfl rfl rfl Tryz.call109 (fun R hR => ?_)
          go_simp
          refine (rCheckRecord_any _ _ (by assumption)).mono ?_
          rintro e w1 ⟨rfl, E, d, rfl⟩
          refine hR _ _ ⟨_, rfl, ?_, ?_⟩
          · (first | exact fun b o hb => Ext.cellOf (by repeat (first | (with_reducible first | exact Ext.refl _ | exact Ext.same _ _ _ _ | assumption | apply Ext.alloc | apply Ext.ext | apply Ext.drew) | (with_reducible refine Ext.setCell ?_ _ _ ?_; rotate_left; focus (first | omega | (simp only [zs1, zs2, zs3, size_ext]; omega))))) hb | (intro b o hb; (try simp only [size_ext, zs1, zs2, zs3] at hb); go_simp; try rfl))
          clear hR R
          simp only [Act.put, zp1, zp2, zp3, zp4, zp5, zp6]
          repeat ((first | refine wpOrd_pass rfl rfl ?_ | (refine wpOrd_free (v := ?_) rfl rfl (fun _ hS => ?_) ?_; rotate_left; focus (go_simp; try with_reducible rfl))); simp only [Act.put, zp1, zp2, zp3, zp4, zp5, zp6])
          refine ord_bool (j := 7) rfl (fun hb7 => ?_) (fun hb7 => ?_)
          rotate_left
          focus
           try (exfalso; first | (simp at hb7; done) | (simp at hb7; omega))
           all_goals
            (try simp only [hb7])
            repeat ((first | refine wpOrd_pass rfl rfl ?_ | (refine wpOrd_free (v := ?_) rfl rfl (fun _ hS => ?_) ?_; rotate_left; focus (go_simp; try with_reducible rfl))); simp only [Act.put, zp1, zp2, zp3, zp4, zp5, zp6])
            refine ord_bool (j := 10) rfl (fun hb10 => ?_) (fun hb10 => ?_)
            rotate_left
            focus
             try (exfalso; first | (simp at hb10; done) | (simp at hb10; omega))
             all_goals
              (try simp only [hb10])
              repeat ((first | refine wpOrd_pass rfl rfl ?_ | (refine wpOrd_free (v := ?_) rfl rfl (fun _ hS => ?_) ?_; rotate_left; focus (go_simp; try with_reducible rfl))); simp only [Act.put, zp1, zp2, zp3, zp4, zp5, zp6])
              refine wpOrd_actPass rfl rfl ?_ ?_
              · (first | exact fun b o hb => Ext.cellOf (by repeat (first | (with_reducible first | exact Ext.refl _ | exact Ext.same _ _ _ _ | assumption | apply Ext.alloc | apply Ext.ext | apply Ext.drew) | (with_reducible refine Ext.setCell ?_ _ _ ?_; rotate_left; focus (first | omega | (simp only [zs1, zs2, zs3, size_ext]; omega))))) hb | (intro b o hb; (try simp only [size_ext, zs1, zs2, zs3] at hb); go_simp; try rfl))
              simp only [Act.put, zp1, zp2, zp3, zp4, zp5, zp6]
              repeat ((first | refine wpOrd_pass rfl rfl ?_ | (refine wpOrd_free (v := ?_) rfl rfl (fun _ hS => ?_) ?_; rotate_left; focus (go_simp; try with_reducible rfl))); simp only [Act.put, zp1, zp2, zp3, zp4, zp5, zp6])
              refine wpOrd_nil ?_
            rotate_right
            focus
             try (exfalso; first | (simp at hb10; done) | (simp at hb10; omega))
             all_goals
              (try simp only [hb10])
              repeat ((first | refine wpOrd_pass rfl rfl ?_ | (refine wpOrd_free (v := ?_) rfl rfl (fun _ hS => ?_) ?_; rotate_left; focus (go_simp; try with_reducible rfl))); simp only [Act.put, zp1, zp2, zp3, zp4, zp5, zp6])
              refine wpOrd_call rfl rfl rfl Tryz.call136 (fun R hR => ?_)
              go_simp
              refine (Ahead_any _ _ _ _ _).mono ?_
              rintro e w1 ⟨rfl, E2, d2, rfl⟩
              refine hR _ _ ⟨_, rfl, ?_, ?_⟩
              · (first | exact fun b o hb => Ext.cellOf (by repeat (first | (with_reducible first | exact Ext.refl _ | exact Ext.same _ _ _ _ | assumption | apply Ext.alloc | apply Ext.ext | apply Ext.drew) | (with_reducible refine Ext.setCell ?_ _ _ ?_; rotate_left; focus (first | omega | (simp only [zs1, zs2, zs3, size_ext]; omega))))) hb | (intro b o hb; (try simp only [size_ext, zs1, zs2, zs3] at hb); go_simp; try rfl))
              clear hR R
              simp only [Act.put, zp1, zp2, zp3, zp4, zp5, zp6]
              repeat ((first | refine wpOrd_pass rfl rfl ?_ | (refine wpOrd_free (v := ?_) rfl rfl (fun _ hS => ?_) ?_; rotate_left; focus (go_simp; try with_reducible rfl))); simp only [Act.put, zp1, zp2, zp3, zp4, zp5, zp6])
              refine wpOrd_nil ?_
          rotate_right
          focus
           try (exfalso; first | (simp at hb7; done) | (simp at hb7; omega))
           all_goals
            (try simp only [hb7])
            repeat ((first | refine wpOrd_pass rfl rfl ?_ | (refine wpOrd_free (v := ?_) rfl rfl (fun _ hS => ?_) ?_; rotate_left; focus (go_simp; try with_reducible rfl))); simp only [Act.put, zp1, zp2, zp3, zp4, zp5, zp6])
            refine wpOrd_actPass rfl rfl ?_ ?_
            · (first | exact fun b o hb => Ext.cellOf (by repeat (first | (with_reducible first | exact Ext.refl _ | exact Ext.same _ _ _ _ | assumption | apply Ext.alloc | apply Ext.ext | apply Ext.drew) | (with_reducible refine Ext.setCell ?_ _ _ ?_; rotate_left; focus (first | omega | (simp only [zs1, zs2, zs3, size_ext]; omega))))) hb | (intro b o hb; (try simp only [size_ext, zs1, zs2, zs3] at hb); go_simp; try rfl))
            simp only [Act.put, zp1, zp2, zp3, zp4, zp5, zp6]
            repeat ((first | refine wpOrd_pass rfl rfl ?_ | (refine wpOrd_free (v := ?_) rfl rfl (fun _ hS => ?_) ?_; rotate_left; focus (go_simp; try with_reducible rfl))); simp only [Act.put, zp1, zp2, zp3, zp4, zp5, zp6])
            refine wpOrd_nil ?_
          all_goals
            go_wp2_with fail
          all_goals first
            | (go_ret; exact ⟨ret_val (by show Value.int .i64 _ = _; rw [Bad1.out (by simpa using hb7)]), (by repeat (first | (with_reducible first | exact Ext.refl _ | exact Ext.same _ _ _ _ | assumption | apply Ext.alloc | apply Ext.ext | apply Ext.drew) | (with_reducible refine Ext.setCell ?_ _ _ ?_; rotate_left; focus (first | omega | (simp only [zs1, zs2, zs3, size_ext]; omega)))))⟩)
            | exact ⟨⟨k + 1, by omega, by go_num, (by repeat (first | (with_reducible first | exact Ext.refl _ | exact Ext.same _ _ _ _ | assumption | apply Ext.alloc | apply Ext.ext | apply Ext.drew) | (with_reducible refine Ext.setCell ?_ _ _ ?_; rotate_left; focus (first | omega | (simp only [zs1, zs2, zs3, size_ext]; omega))))), Good.out (by simpa using hb7)⟩, by simp [intOf]; omega⟩
      · obtain rfl : k = n := by omega
        have he : errReg l = 0 := by
          subst hn
          rw [errReg, hpre.done (by omega)]; rfl
        have HE := hid he
        clear he hpre
        go_wp2_with fail
        go_ret
        exact ⟨ret_val (by rw [HE.out]; rfl), (by repeat (first | (with_reducible first | exact Ext.refl _ | exact Ext.same _ _ _ _ | assumption | apply Ext.alloc | apply Ext.ext | apply Ext.drew) | (with_reducible refine Ext.setCell ?_ _ _ ?_; rotate_left; focus (first | omega | (simp only [zs1, zs2, zs3, size_ext]; omega)))))⟩
end Go.Proofs.YtekjdeibnfaehaaGreat
