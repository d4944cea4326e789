/- The reference's way of putting records in order. -/
import Derived.Test.YtekjdeibnfaehaaGreatRead
import Derived.Test.YtekjdeibnfaehaaGreatSameM
set_option linter.unusedSimpArgs false
set_option linter.unusedVariables false
namespace Go.Proofs.YtekjdeibnfaehaaGreat
open Go Go.RowKit

theorem findI_at {l : List Rec} (h : Sorted l) {o s : Int} (hh : hasR l o s = true) : ∃ p : Nat, findI l o s = p := ⟨_, findI_pos h o s hh⟩
theorem findI_no {l : List Rec} {o s : Int} (hh : hasR l o s = false) : findI l o s = -1 := by rw [findI, hh]; rfl
set_option maxRecDepth 100000 in
set_option maxHeartbeats 8000000 in
theorem ordered_any (A : Option Addr) (n c : Nat) (l : List Rec) (hn : l.length = n) (hbig : n ≤ 100000) (w : World) (hr : Recs w A l) :
    Calls Tryz.prog 68 #[.slice A n c] w fun e w' => ∃ A' n' c' l', e = .returned (.tuple #[regV A' n' c', .bool (decide (Apart l) && decide (n ≤ 80))]) ∧ Hid (n' = l'.length) ∧ OwnR w.heap.size w' (.slice A' n' c') l' ∧ Hid (Apart l → l' = ordL l) ∧ Ext w w' := by
  go_enter Tryz.func68, Tryz.ntmps68
  go_wp2_with fail
  go_loopw [5] (fun i wr => ∃ (k : Nat) (v : Value), k ≤ n ∧ i = .int .i64 k ∧ Ext ((w.alloc (.cells #[.slice none 0 0] 34)).alloc (.cells #[v] 34)) wr ∧ OwnR (w.heap.size + 1 + 1) wr v (ordL (l.take k)) ∧ Hid (Apart (l.take k))) (fun i _ => n - (intOf i).toNat)
  case atStart => exact ⟨0, _, Nat.zero_le _, rfl, Ext.refl _, by simpa [ordL] using OwnR.none _ _, hid (by simp [Apart])⟩
  case round =>
    obtain ⟨k, v, hk, rfl, ⟨E9, d9, rfl⟩, hown, hap⟩ := hrel
    have Hown := hid hown
    clear hown
    obtain ⟨Av, nv, cv, rfl, hnv, hcv, hsv⟩ := Hown.out.open
    have hsort := ordL_sorted hap.out
    have hlen := (ordL_perm (l.take k)).length_eq
    rw [List.length_take] at hlen
    by_cases hlt : k < n
    · have hm : k < l.length := by omega
      obtain ⟨g, of, rfl, hg⟩ := hr.addr (by omega)
      obtain ⟨h0, h1, h2, h3, h4, h5, h6, h7, h8, h9, h10⟩ := hr.row hm
      have hst := ordL_take_succ l k hm
      have hasu := apart_take_succ l k hm
      obtain ⟨q, hq⟩ : ∃ q, l[k] = q := ⟨_, rfl⟩
      rw [hq] at h0 h1 h2 h3 h4 h5 h6 h7 h8 h9 h10 hst hasu
      have hnv2 : nv ≤ 100000 := by omega
      obtain ⟨gl, hgl⟩ : ∃ gl, ordL (l.take k) = gl := ⟨_, rfl⟩
      have hsvd := fun d' => Recs.of_ext hsv (Ext.same _ _ _ d')
      rw [hgl] at hsvd hst hasu hsort hnv
      have hnl : gl.length = nv := hnv.symm
      have Hst := hid hst
      have Hasu := hid hasu
      have Hgl := hid hgl
      have Hsort := hid hsort
      have Hnl := hid hnl
      clear hst hasu hgl hsort hnl hnv hlen hq hsv
      cases hh : hasR gl q.ao q.sq with
      | true =>
        obtain ⟨p, hfi⟩ := findI_at Hsort.out hh
        have HN : Hid (¬ Apart l) := hid (fun ha => by
          have := (Hasu.out.1 (List.Pairwise.sublist (List.take_sublist _ _) ha)).2
          rw [hh] at this
          cases this)
        have HE : Hid ((decide (Apart l) && decide (n ≤ 80)) = false) := hid (by rw [decide_eq_false HN.out]; rfl)
        clear hh
        go_wp2_with fail
        refine wp_region_ord_same (.f 0 (.f 1 (.f 2 (.f 3 (.f 4 (.f 5 (.a 6 (.f 7 .d)))))))) (by kernel_rfl) (by kernel_rfl) ?_
        repeat ((first | refine wpOrd_pass rfl rfl ?_ | (refine wpOrd_free (v := ?_) rfl rfl (fun _ hS => ?_) ?_; rotate_left; focus (go_simp; try with_reducible rfl))); simp only [Act.put, zp1, zp2, zp3, zp4, zp5, zp6])
        refine wpOrd_call rfl rfl rfl Tryz.call85 (fun R hR => ?_)
        go_simp
        refine (rfind_any _ _ _ gl _ _ Hnl.out (by omega) _ (by with_reducible repeat (first | assumption | exact hsvd _ | apply Recs.ext | apply Recs.alloc | apply Recs.drew | (refine Recs.of_ext ?_ (by assumption))))).mono ?_
        rintro e w1 ⟨rfl, E1, d1, rfl⟩
        refine hR _ _ ⟨_, rfl, ?_, ?_⟩
        · (first | exact fun b o hb => Ext.cellOf (by repeat (first | (with_reducible first | exact Ext.refl _ | exact Ext.same _ _ _ _ | assumption | apply Ext.alloc | apply Ext.ext | apply Ext.drew) | (with_reducible refine Ext.setCell ?_ _ _ ?_; rotate_left; focus (first | omega | (simp only [zs1, zs2, zs3, size_ext]; omega))))) hb | (intro b o hb; (try simp only [size_ext, zs1, zs2, zs3] at hb); go_simp; try rfl))
        clear hR R
        simp only [Act.put, zp1, zp2, zp3, zp4, zp5, zp6]
        repeat ((first | refine wpOrd_pass rfl rfl ?_ | (refine wpOrd_free (v := ?_) rfl rfl (fun _ hS => ?_) ?_; rotate_left; focus (go_simp; try with_reducible rfl))); simp only [Act.put, zp1, zp2, zp3, zp4, zp5, zp6])
        refine wpOrd_nil ?_
        all_goals
          go_wp2_with fail
        all_goals
          refine bodyPost_ret (v := .tuple #[regV none 0 0, .bool false]) (by simp [results, Tryz.results68, go_sem]) rfl ?_
          exact ⟨none, 0, 0, [], by rw [HE.out], hid rfl, OwnR.none _ _, hid (fun h => absurd h HN.out), (by repeat (first | (with_reducible first | exact Ext.refl _ | exact Ext.same _ _ _ _ | assumption | apply Ext.alloc | apply Ext.ext | apply Ext.drew) | (with_reducible refine Ext.setCell ?_ _ _ ?_; rotate_left; focus (first | omega | (simp only [zs1, zs2, zs3, size_ext]; omega)))))⟩
      | false =>
        have hfi := findI_no hh
        have HI : Hid (insG gl q = ordL (l.take (k + 1))) := hid (by rw [Hst.out, insG_eq Hsort.out hh])
        have HA : Hid (Apart (l.take (k + 1))) := hid (Hasu.out.2 ⟨hap.out, hh⟩)
        clear hh
        go_wp2_with fail
        refine wp_region_ord_same (.f 0 (.f 1 (.f 2 (.f 3 (.f 4 (.f 5 (.a 6 (.f 7 .d)))))))) (by kernel_rfl) (by kernel_rfl) ?_
        repeat ((first | refine wpOrd_pass rfl rfl ?_ | (refine wpOrd_free (v := ?_) rfl rfl (fun _ hS => ?_) ?_; rotate_left; focus (go_simp; try with_reducible rfl))); simp only [Act.put, zp1, zp2, zp3, zp4, zp5, zp6])
        refine wpOrd_call rfl rfl rfl Tryz.call85 (fun R hR => ?_)
        go_simp
        refine (rfind_any _ _ _ gl _ _ Hnl.out (by omega) _ (by with_reducible repeat (first | assumption | exact hsvd _ | apply Recs.ext | apply Recs.alloc | apply Recs.drew | (refine Recs.of_ext ?_ (by assumption))))).mono ?_
        rintro e w1 ⟨rfl, E1, d1, rfl⟩
        refine hR _ _ ⟨_, rfl, ?_, ?_⟩
        · (first | exact fun b o hb => Ext.cellOf (by repeat (first | (with_reducible first | exact Ext.refl _ | exact Ext.same _ _ _ _ | assumption | apply Ext.alloc | apply Ext.ext | apply Ext.drew) | (with_reducible refine Ext.setCell ?_ _ _ ?_; rotate_left; focus (first | omega | (simp only [zs1, zs2, zs3, size_ext]; omega))))) hb | (intro b o hb; (try simp only [size_ext, zs1, zs2, zs3] at hb); go_simp; try rfl))
        clear hR R
        simp only [Act.put, zp1, zp2, zp3, zp4, zp5, zp6]
        repeat ((first | refine wpOrd_pass rfl rfl ?_ | (refine wpOrd_free (v := ?_) rfl rfl (fun _ hS => ?_) ?_; rotate_left; focus (go_simp; try with_reducible rfl))); simp only [Act.put, zp1, zp2, zp3, zp4, zp5, zp6])
        refine wpOrd_nil ?_
        all_goals
          go_wp2_with fail
        all_goals
          refine wp_region_ord (.f 1 (.f 2 (.f 3 (.f 4 (.a 0 (.a 5 (.a 6 .d))))))) (Ext ((w.alloc (.cells #[.slice none 0 0] 34)))) (by kernel_rfl) (by kernel_rfl) (by repeat (first | (with_reducible first | exact Ext.refl _ | exact Ext.same _ _ _ _ | assumption | apply Ext.alloc | apply Ext.ext | apply Ext.drew) | (with_reducible refine Ext.setCell ?_ _ _ ?_; rotate_left; focus (first | omega | (simp only [zs1, zs2, zs3, size_ext]; omega))) | (with_reducible refine Ext.trans ?_ (by assumption)))) ?_
          repeat ((first | refine wpOrd_pass rfl rfl ?_ | (refine wpOrd_free (v := ?_) rfl rfl (fun _ hS => ?_) ?_; rotate_left; focus (obtain ⟨E9, d9, rfl⟩ := hS; go_simp; try with_reducible rfl))); simp only [Act.put, zp1, zp2, zp3, zp4, zp5, zp6])
          refine wpOrd_act rfl rfl (fun K hK => ?_)
          go_simp
          refine hK _ _ ⟨?_, ?_⟩
          · exact (by repeat (first | (with_reducible first | exact Ext.refl _ | exact Ext.same _ _ _ _ | assumption | apply Ext.alloc | apply Ext.ext | apply Ext.drew) | (with_reducible refine Ext.setCell ?_ _ _ ?_; rotate_left; focus (first | omega | (simp only [zs1, zs2, zs3, size_ext]; omega))) | (with_reducible refine Ext.trans ?_ (by assumption))))
          clear hK K
          try simp only [Act.put, zp1, zp2, zp3, zp4, zp5, zp6]
          refine wpOrd_call rfl rfl rfl Tryz.call127 (fun R hR => ?_)
          go_simp
          refine (rinsert_own _ _ _ gl q Hnl.out (by omega) _ (by with_reducible repeat (first | assumption | exact hsvd _ | apply Recs.ext | apply Recs.alloc | apply Recs.drew | (refine Recs.of_ext ?_ (by assumption))))).mono ?_
          rintro e w1 ⟨Ai201, ni201, ci201, rfl, hni201, hvi201, E201, d201, rfl⟩
          refine hR _ _ ⟨_, rfl, ?_, ?_⟩
          · exact (by repeat (first | (with_reducible first | exact Ext.refl _ | exact Ext.same _ _ _ _ | assumption | apply Ext.alloc | apply Ext.ext | apply Ext.drew) | (with_reducible refine Ext.setCell ?_ _ _ ?_; rotate_left; focus (first | omega | (simp only [zs1, zs2, zs3, size_ext]; omega))) | (with_reducible refine Ext.trans ?_ (by assumption))))
          clear hR R
          simp only [Act.put, zp1, zp2, zp3, zp4, zp5, zp6]
          refine wpOrd_act rfl rfl (fun K hK => ?_)
          go_simp
          refine hK _ _ ⟨?_, ?_⟩
          · exact (by repeat (first | (with_reducible first | exact Ext.refl _ | exact Ext.same _ _ _ _ | assumption | apply Ext.alloc | apply Ext.ext | apply Ext.drew) | (with_reducible refine Ext.setCell ?_ _ _ ?_; rotate_left; focus (first | omega | (simp only [zs1, zs2, zs3, size_ext]; omega))) | (with_reducible refine Ext.trans ?_ (by assumption))))
          clear hK K
          try simp only [Act.put, zp1, zp2, zp3, zp4, zp5, zp6]
          refine wpOrd_nil ?_
        all_goals
          go_wp2_with fail
        all_goals
          first | have Ho := hvi201 | have Ho := hvi200 | have Ho := hvi202
          refine ⟨⟨k + 1, _, by omega, by go_num, (by repeat (first | (with_reducible first | exact Ext.refl _ | exact Ext.same _ _ _ _ | assumption | apply Ext.alloc | apply Ext.ext | apply Ext.drew) | (with_reducible refine Ext.setCell ?_ _ _ ?_; rotate_left; focus (first | omega | (simp only [zs1, zs2, zs3, size_ext]; omega))))), ?_, HA.out⟩, by simp [intOf]; omega⟩
          rw [← HI.out]
          exact OwnR.moved2 Ho (by repeat (first | (with_reducible first | exact Ext.refl _ | exact Ext.same _ _ _ _ | assumption | apply Ext.alloc | apply Ext.ext | apply Ext.drew) | (with_reducible refine Ext.setCell ?_ _ _ ?_; rotate_left; focus (first | omega | (simp only [zs1, zs2, zs3, size_ext]; omega))))) (by simp [World.size_alloc]) (Nat.le_refl _) (by simp [World.size_alloc]; omega)
    · obtain rfl : k = n := by omega
      have HT : Hid (l.take k = l) := hid (List.take_of_length_le (by omega))
      have HA : Hid (Apart l) := hid (by have := hap.out; rwa [HT.out] at this)
      have HE : Hid ((decide (Apart l) && decide (k ≤ 80)) = decide (k ≤ 80)) := hid (by rw [decide_eq_true HA.out]; rfl)
      have Hnv := hid hnv
      clear hnv hlen hcv hsv hsort
      go_wp2_with fail
      refine bodyPost_ret (v := .tuple #[regV Av nv cv, .bool (decide ((k : Int) ≤ 80))]) (by simp [results, Tryz.results68, go_sem]) rfl ?_
      refine ⟨Av, nv, cv, ordL (l.take k), by rw [HE.out, show decide ((k : Int) ≤ 80) = decide (k ≤ 80) from decide_eq_decide.2 (by omega)], hid Hnv.out, ?_, hid (fun _ => by rw [HT.out]), (by repeat (first | (with_reducible first | exact Ext.refl _ | exact Ext.same _ _ _ _ | assumption | apply Ext.alloc | apply Ext.ext | apply Ext.drew) | (with_reducible refine Ext.setCell ?_ _ _ ?_; rotate_left; focus (first | omega | (simp only [zs1, zs2, zs3, size_ext]; omega)))))⟩
      exact OwnR.moved2 Hown.out (by repeat (first | (with_reducible first | exact Ext.refl _ | exact Ext.same _ _ _ _ | assumption | apply Ext.alloc | apply Ext.ext | apply Ext.drew) | (with_reducible refine Ext.setCell ?_ _ _ ?_; rotate_left; focus (first | omega | (simp only [zs1, zs2, zs3, size_ext]; omega))))) (by simp [World.size_alloc]) (by simp [World.size_alloc]) (by omega)
end Go.Proofs.YtekjdeibnfaehaaGreat
