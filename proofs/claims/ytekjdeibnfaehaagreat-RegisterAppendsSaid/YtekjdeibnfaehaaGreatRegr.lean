/- register: the register of a page. -/
import Derived.Test.YtekjdeibnfaehaaGreatSort
set_option linter.unusedSimpArgs false
set_option linter.unusedVariables false
namespace Go.Proofs.YtekjdeibnfaehaaGreat
open Go Go.RowKit

set_option maxRecDepth 100000 in
set_option maxHeartbeats 4000000 in
theorem register_any (g ct : Int) (A : Option Addr) (n c : Nat) (l : List Rec) (hn : l.length = n) (hbig : n ≤ 100000) (ht : TxtBig l) (w : World) (hr : Recs w A l) :
    Calls Tryz.prog 65 #[.agg #[.int .i64 g, .int .i64 ct, .slice A n c]] w fun e w' => ∃ A' n' c', e = .returned (.tuple #[regV A' n' c', .bool (regOk l)]) ∧ Hid (n' = l.length) ∧ (∃ l', Hid (regOk l = true → l' = ordL l) ∧ OwnR w.heap.size w' (.slice A' n' c') l') ∧ Ext w w' := by
  have eg : ∀ args w, (callFunc 121 args).run Tryz.prog w = .ok (.enter 121 args) w := enters_of Tryz.func121 (by kernel_rfl) rfl
  have Eg := hid eg
  clear eg
  cases hk : regOk l with
  | false =>
    go_enter Tryz.func65, Tryz.ntmps65
    go_wp2_with (go_at_call 90; refine (Clone_own _ _ _ _ (by first | rfl | assumption) (by omega) _ (by with_reducible repeat (first | assumption | apply Recs.ext | apply Recs.alloc | apply Recs.drew | (refine Recs.of_ext ?_ (by assumption))))).mono ?_; rintro e w1 ⟨Ac1, nc1, cc1, rfl, hnc1, hvc1, E1, d1, rfl⟩)
    have hvc2 : OwnR (w.heap.size + 1 + 1) (((w.alloc (.cells #[.int .i64 g, .int .i64 ct, .slice A n c] 114)).alloc (.cells #[.slice none 0 0] 34)).ext E1 d1) (.slice Ac1 nc1 cc1) l := by simpa using hvc1
    refine (sort_own (w.heap.size + 1 + 1) _ _ _ l _ (Hid.out hnc1).symm (by have := Hid.out hnc1; omega) hvc2 _ Eg.out sortcmp_gr).mono ?_
    rintro e w1 ⟨rfl, l', hperm, hpw, ho2, hb2⟩
    obtain ⟨E2, d2, rfl⟩ : Ext ((w.alloc (.cells #[.int .i64 g, .int .i64 ct, .slice A n c] 114)).alloc (.cells #[.slice none 0 0] 34)) w1 := Ext.of_below (Below.trans (Ext.below ((Ext.refl _).ext E1 d1)) (by simpa using hb2))
    have hnl : Hid (nc1 = l.length) := hnc1
    have hlp : l'.length = nc1 := by rw [hperm.length_eq]; exact (Hid.out hnc1).symm
    have ht' : TxtBig l' := fun r hr => ht r (hperm.mem_iff.1 hr)
    have hck : checkB l' = regOk l := checkB_of_order hperm hpw.out
    have hrc : Recs (((w.alloc (.cells #[.int .i64 g, .int .i64 ct, .slice A n c] 114)).alloc (.cells #[.slice none 0 0] 34)).ext E2 d2) Ac1 l' := by
      obtain ⟨A9, c9, h9, -, h10⟩ := ho2.slice
      cases h9
      exact h10
    have Ho2 := hid ho2
    have Hperm := hid hperm
    rw [hk] at hck
    have he := errReg_bad hck
    clear hvc1 hvc2 hperm hpw ho2 hb2 hnc1 hck hk
    have hsm : nc1 ≤ 9223372036854775807 := by have := hnl.out; omega
    go_wp2_with fail
    refine wp_region_ord (.k 0 (.a 1 (.a 2 (.f 3 (.a 4 (.f 5 .d))))) 1 (.k 0 (.a 2 (.f 3 (.a 4 (.f 5 .d)))) 2 (.f 3 (.a 0 (.a 4 (.f 5 .d)))))) (Ext (w.alloc (.cells #[.int .i64 g, .int .i64 ct, .slice A n c] 114))) (by kernel_rfl) (by kernel_rfl) (by repeat (first | (with_reducible first | exact Ext.refl _ | exact Ext.same _ _ _ _ | assumption | apply Ext.alloc | apply Ext.ext | apply Ext.drew) | (with_reducible refine Ext.setCell ?_ _ _ ?_; rotate_left; focus (first | omega | (simp only [zs1, zs2, zs3, size_ext]; omega))) | (with_reducible refine Ext.trans ?_ (by assumption)))) ?_
    refine wpOrd_fork ?_ ?_
    focus
     refine wpOrd_act rfl rfl (fun K hK => ?_)
     go_simp
     refine hK _ _ ⟨?_, ?_⟩
     · exact (by repeat (first | (with_reducible first | exact Ext.refl _ | exact Ext.same _ _ _ _ | assumption | apply Ext.alloc | apply Ext.ext | apply Ext.drew) | (with_reducible refine Ext.setCell ?_ _ _ ?_; rotate_left; focus (first | omega | (simp only [zs1, zs2, zs3, size_ext]; omega))) | (with_reducible refine Ext.trans ?_ (by assumption))))
     clear hK K
     try simp only [Act.put, zp1, zp2, zp3, zp4, zp5, zp6]
     refine wpOrd_act rfl rfl (fun K hK => ?_)
     go_simp
     refine hK _ _ ⟨?_, ?_⟩
     · exact (by repeat (first | (with_reducible first | exact Ext.refl _ | exact Ext.same _ _ _ _ | assumption | apply Ext.alloc | apply Ext.ext | apply Ext.drew) | (with_reducible refine Ext.setCell ?_ _ _ ?_; rotate_left; focus (first | omega | (simp only [zs1, zs2, zs3, size_ext]; omega))) | (with_reducible refine Ext.trans ?_ (by assumption))))
     clear hK K
     try simp only [Act.put, zp1, zp2, zp3, zp4, zp5, zp6]
     refine wpOrd_call rfl rfl rfl Tryz.call81 (fun R hR => ?_)
     go_simp
     refine (Check_any _ _ _ _ (by first | rfl | assumption) (by omega) (by assumption) _ (by with_reducible repeat (first | assumption | apply Recs.ext | apply Recs.alloc | apply Recs.drew | (refine Recs.of_ext ?_ (by assumption))))).mono ?_
     rintro e w1 ⟨rfl, E201, d201, rfl⟩
     refine hR _ _ ⟨_, rfl, ?_, ?_⟩
     · exact (by repeat (first | (with_reducible first | exact Ext.refl _ | exact Ext.same _ _ _ _ | assumption | apply Ext.alloc | apply Ext.ext | apply Ext.drew) | (with_reducible refine Ext.setCell ?_ _ _ ?_; rotate_left; focus (first | omega | (simp only [zs1, zs2, zs3, size_ext]; omega))) | (with_reducible refine Ext.trans ?_ (by assumption))))
     clear hR R
     simp only [Act.put, zp1, zp2, zp3, zp4, zp5, zp6]
     repeat ((first | refine wpOrd_pass rfl rfl ?_ | (refine wpOrd_free (v := ?_) rfl rfl (fun _ hS => ?_) ?_; rotate_left; focus (obtain ⟨E9, d9, rfl⟩ := hS; go_simp; try with_reducible rfl))); simp only [Act.put, zp1, zp2, zp3, zp4, zp5, zp6])
     refine wpOrd_act rfl rfl (fun K hK => ?_)
     go_simp
     refine hK _ _ ⟨?_, ?_⟩
     · exact (by repeat (first | (with_reducible first | exact Ext.refl _ | exact Ext.same _ _ _ _ | assumption | apply Ext.alloc | apply Ext.ext | apply Ext.drew) | (with_reducible refine Ext.setCell ?_ _ _ ?_; rotate_left; focus (first | omega | (simp only [zs1, zs2, zs3, size_ext]; omega))) | (with_reducible refine Ext.trans ?_ (by assumption))))
     clear hK K
     try simp only [Act.put, zp1, zp2, zp3, zp4, zp5, zp6]
     repeat ((first | refine wpOrd_pass rfl rfl ?_ | (refine wpOrd_free (v := ?_) rfl rfl (fun _ hS => ?_) ?_; rotate_left; focus (obtain ⟨E9, d9, rfl⟩ := hS; go_simp; try with_reducible rfl))); simp only [Act.put, zp1, zp2, zp3, zp4, zp5, zp6])
     refine wpOrd_nil ?_
    rotate_right
    focus
     refine wpOrd_act rfl rfl (fun K hK => ?_)
     go_simp
     refine hK _ _ ⟨?_, ?_⟩
     · exact (by repeat (first | (with_reducible first | exact Ext.refl _ | exact Ext.same _ _ _ _ | assumption | apply Ext.alloc | apply Ext.ext | apply Ext.drew) | (with_reducible refine Ext.setCell ?_ _ _ ?_; rotate_left; focus (first | omega | (simp only [zs1, zs2, zs3, size_ext]; omega))) | (with_reducible refine Ext.trans ?_ (by assumption))))
     clear hK K
     try simp only [Act.put, zp1, zp2, zp3, zp4, zp5, zp6]
     refine wpOrd_fork ?_ ?_
     focus
      refine wpOrd_act rfl rfl (fun K hK => ?_)
      go_simp
      refine hK _ _ ⟨?_, ?_⟩
      · exact (by repeat (first | (with_reducible first | exact Ext.refl _ | exact Ext.same _ _ _ _ | assumption | apply Ext.alloc | apply Ext.ext | apply Ext.drew) | (with_reducible refine Ext.setCell ?_ _ _ ?_; rotate_left; focus (first | omega | (simp only [zs1, zs2, zs3, size_ext]; omega))) | (with_reducible refine Ext.trans ?_ (by assumption))))
      clear hK K
      try simp only [Act.put, zp1, zp2, zp3, zp4, zp5, zp6]
      refine wpOrd_call rfl rfl rfl Tryz.call81 (fun R hR => ?_)
      go_simp
      refine (Check_any _ _ _ _ (by first | rfl | assumption) (by omega) (by assumption) _ (by with_reducible repeat (first | assumption | apply Recs.ext | apply Recs.alloc | apply Recs.drew | (refine Recs.of_ext ?_ (by assumption))))).mono ?_
      rintro e w1 ⟨rfl, E202, d202, rfl⟩
      refine hR _ _ ⟨_, rfl, ?_, ?_⟩
      · exact (by repeat (first | (with_reducible first | exact Ext.refl _ | exact Ext.same _ _ _ _ | assumption | apply Ext.alloc | apply Ext.ext | apply Ext.drew) | (with_reducible refine Ext.setCell ?_ _ _ ?_; rotate_left; focus (first | omega | (simp only [zs1, zs2, zs3, size_ext]; omega))) | (with_reducible refine Ext.trans ?_ (by assumption))))
      clear hR R
      simp only [Act.put, zp1, zp2, zp3, zp4, zp5, zp6]
      repeat ((first | refine wpOrd_pass rfl rfl ?_ | (refine wpOrd_free (v := ?_) rfl rfl (fun _ hS => ?_) ?_; rotate_left; focus (obtain ⟨E9, d9, rfl⟩ := hS; go_simp; try with_reducible rfl))); simp only [Act.put, zp1, zp2, zp3, zp4, zp5, zp6])
      refine wpOrd_act rfl rfl (fun K hK => ?_)
      go_simp
      refine hK _ _ ⟨?_, ?_⟩
      · exact (by repeat (first | (with_reducible first | exact Ext.refl _ | exact Ext.same _ _ _ _ | assumption | apply Ext.alloc | apply Ext.ext | apply Ext.drew) | (with_reducible refine Ext.setCell ?_ _ _ ?_; rotate_left; focus (first | omega | (simp only [zs1, zs2, zs3, size_ext]; omega))) | (with_reducible refine Ext.trans ?_ (by assumption))))
      clear hK K
      try simp only [Act.put, zp1, zp2, zp3, zp4, zp5, zp6]
      repeat ((first | refine wpOrd_pass rfl rfl ?_ | (refine wpOrd_free (v := ?_) rfl rfl (fun _ hS => ?_) ?_; rotate_left; focus (obtain ⟨E9, d9, rfl⟩ := hS; go_simp; try with_reducible rfl))); simp only [Act.put, zp1, zp2, zp3, zp4, zp5, zp6])
      refine wpOrd_nil ?_
     rotate_right
     focus
      refine wpOrd_call rfl rfl rfl Tryz.call81 (fun R hR => ?_)
      go_simp
      refine (Check_any _ _ _ _ (by first | rfl | assumption) (by omega) (by assumption) _ (by with_reducible repeat (first | assumption | apply Recs.ext | apply Recs.alloc | apply Recs.drew | (refine Recs.of_ext ?_ (by assumption))))).mono ?_
      rintro e w1 ⟨rfl, E203, d203, rfl⟩
      refine hR _ _ ⟨_, rfl, ?_, ?_⟩
      · exact (by repeat (first | (with_reducible first | exact Ext.refl _ | exact Ext.same _ _ _ _ | assumption | apply Ext.alloc | apply Ext.ext | apply Ext.drew) | (with_reducible refine Ext.setCell ?_ _ _ ?_; rotate_left; focus (first | omega | (simp only [zs1, zs2, zs3, size_ext]; omega))) | (with_reducible refine Ext.trans ?_ (by assumption))))
      clear hR R
      simp only [Act.put, zp1, zp2, zp3, zp4, zp5, zp6]
      repeat ((first | refine wpOrd_pass rfl rfl ?_ | (refine wpOrd_free (v := ?_) rfl rfl (fun _ hS => ?_) ?_; rotate_left; focus (obtain ⟨E9, d9, rfl⟩ := hS; go_simp; try with_reducible rfl))); simp only [Act.put, zp1, zp2, zp3, zp4, zp5, zp6])
      refine wpOrd_act rfl rfl (fun K hK => ?_)
      go_simp
      refine hK _ _ ⟨?_, ?_⟩
      · exact (by repeat (first | (with_reducible first | exact Ext.refl _ | exact Ext.same _ _ _ _ | assumption | apply Ext.alloc | apply Ext.ext | apply Ext.drew) | (with_reducible refine Ext.setCell ?_ _ _ ?_; rotate_left; focus (first | omega | (simp only [zs1, zs2, zs3, size_ext]; omega))) | (with_reducible refine Ext.trans ?_ (by assumption))))
      clear hK K
      try simp only [Act.put, zp1, zp2, zp3, zp4, zp5, zp6]
      refine wpOrd_act rfl rfl (fun K hK => ?_)
      go_simp
      refine hK _ _ ⟨?_, ?_⟩
      · exact (by repeat (first | (with_reducible first | exact Ext.refl _ | exact Ext.same _ _ _ _ | assumption | apply Ext.alloc | apply Ext.ext | apply Ext.drew) | (with_reducible refine Ext.setCell ?_ _ _ ?_; rotate_left; focus (first | omega | (simp only [zs1, zs2, zs3, size_ext]; omega))) | (with_reducible refine Ext.trans ?_ (by assumption))))
      clear hK K
      try simp only [Act.put, zp1, zp2, zp3, zp4, zp5, zp6]
      repeat ((first | refine wpOrd_pass rfl rfl ?_ | (refine wpOrd_free (v := ?_) rfl rfl (fun _ hS => ?_) ?_; rotate_left; focus (obtain ⟨E9, d9, rfl⟩ := hS; go_simp; try with_reducible rfl))); simp only [Act.put, zp1, zp2, zp3, zp4, zp5, zp6])
      refine wpOrd_nil ?_
    go_wp2_with fail
    all_goals
      refine bodyPost_ret (v := .tuple #[regV Ac1 nc1 cc1, .bool false]) (by simp [results, Tryz.results65, go_sem]) rfl ?_
      refine ⟨Ac1, nc1, cc1, rfl, hnl, ⟨l', hid (fun h => absurd h (by decide)), ?_⟩, (by repeat (first | (with_reducible first | exact Ext.refl _ | exact Ext.same _ _ _ _ | assumption | apply Ext.alloc | apply Ext.ext | apply Ext.drew) | (with_reducible refine Ext.setCell ?_ _ _ ?_; rotate_left; focus (first | omega | (simp only [zs1, zs2, zs3, size_ext]; omega)))))⟩
      refine OwnR.of_ext (OwnR.moved (X' := (w.alloc (.cells #[.int .i64 g, .int .i64 ct, .slice A n c] 114)).alloc (.cells #[.slice Ac1 nc1 cc1] 34)) (d' := d2) (base := w.heap.size) Ho2.out (by simp) (by simp) (by omega)) (by repeat (first | (with_reducible first | exact Ext.refl _ | exact Ext.same _ _ _ _ | assumption | apply Ext.alloc | apply Ext.ext | apply Ext.drew) | (with_reducible refine Ext.setCell ?_ _ _ ?_; rotate_left; focus (first | omega | (simp only [zs1, zs2, zs3, size_ext]; omega)))))
  | true =>
    go_enter Tryz.func65, Tryz.ntmps65
    go_wp2_with (go_at_call 90; refine (Clone_own _ _ _ _ (by first | rfl | assumption) (by omega) _ (by with_reducible repeat (first | assumption | apply Recs.ext | apply Recs.alloc | apply Recs.drew | (refine Recs.of_ext ?_ (by assumption))))).mono ?_; rintro e w1 ⟨Ac1, nc1, cc1, rfl, hnc1, hvc1, E1, d1, rfl⟩)
    have hvc2 : OwnR (w.heap.size + 1 + 1) (((w.alloc (.cells #[.int .i64 g, .int .i64 ct, .slice A n c] 114)).alloc (.cells #[.slice none 0 0] 34)).ext E1 d1) (.slice Ac1 nc1 cc1) l := by simpa using hvc1
    refine (sort_own (w.heap.size + 1 + 1) _ _ _ l _ (Hid.out hnc1).symm (by have := Hid.out hnc1; omega) hvc2 _ Eg.out sortcmp_gr).mono ?_
    rintro e w1 ⟨rfl, l', hperm, hpw, ho2, hb2⟩
    obtain ⟨E2, d2, rfl⟩ : Ext ((w.alloc (.cells #[.int .i64 g, .int .i64 ct, .slice A n c] 114)).alloc (.cells #[.slice none 0 0] 34)) w1 := Ext.of_below (Below.trans (Ext.below ((Ext.refl _).ext E1 d1)) (by simpa using hb2))
    have hnl : Hid (nc1 = l.length) := hnc1
    have hlp : l'.length = nc1 := by rw [hperm.length_eq]; exact (Hid.out hnc1).symm
    have ht' : TxtBig l' := fun r hr => ht r (hperm.mem_iff.1 hr)
    have hck : checkB l' = regOk l := checkB_of_order hperm hpw.out
    have hrc : Recs (((w.alloc (.cells #[.int .i64 g, .int .i64 ct, .slice A n c] 114)).alloc (.cells #[.slice none 0 0] 34)).ext E2 d2) Ac1 l' := by
      obtain ⟨A9, c9, h9, -, h10⟩ := ho2.slice
      cases h9
      exact h10
    have Ho2 := hid ho2
    have Hperm := hid hperm
    rw [hk] at hck
    have he := errReg_ok hck
    have HO := hid (ordL_of_order hperm hck)
    clear hvc1 hvc2 hperm hpw ho2 hb2 hnc1 hck hk
    have hsm : nc1 ≤ 9223372036854775807 := by have := hnl.out; omega
    go_wp2_with fail
    refine wp_region_ord (.k 0 (.a 1 (.a 2 (.f 3 (.a 4 (.f 5 .d))))) 1 (.k 0 (.a 2 (.f 3 (.a 4 (.f 5 .d)))) 2 (.f 3 (.a 0 (.a 4 (.f 5 .d)))))) (Ext (w.alloc (.cells #[.int .i64 g, .int .i64 ct, .slice A n c] 114))) (by kernel_rfl) (by kernel_rfl) (by repeat (first | (with_reducible first | exact Ext.refl _ | exact Ext.same _ _ _ _ | assumption | apply Ext.alloc | apply Ext.ext | apply Ext.drew) | (with_reducible refine Ext.setCell ?_ _ _ ?_; rotate_left; focus (first | omega | (simp only [zs1, zs2, zs3, size_ext]; omega))) | (with_reducible refine Ext.trans ?_ (by assumption)))) ?_
    refine wpOrd_fork ?_ ?_
    focus
     refine wpOrd_act rfl rfl (fun K hK => ?_)
     go_simp
     refine hK _ _ ⟨?_, ?_⟩
     · exact (by repeat (first | (with_reducible first | exact Ext.refl _ | exact Ext.same _ _ _ _ | assumption | apply Ext.alloc | apply Ext.ext | apply Ext.drew) | (with_reducible refine Ext.setCell ?_ _ _ ?_; rotate_left; focus (first | omega | (simp only [zs1, zs2, zs3, size_ext]; omega))) | (with_reducible refine Ext.trans ?_ (by assumption))))
     clear hK K
     try simp only [Act.put, zp1, zp2, zp3, zp4, zp5, zp6]
     refine wpOrd_act rfl rfl (fun K hK => ?_)
     go_simp
     refine hK _ _ ⟨?_, ?_⟩
     · exact (by repeat (first | (with_reducible first | exact Ext.refl _ | exact Ext.same _ _ _ _ | assumption | apply Ext.alloc | apply Ext.ext | apply Ext.drew) | (with_reducible refine Ext.setCell ?_ _ _ ?_; rotate_left; focus (first | omega | (simp only [zs1, zs2, zs3, size_ext]; omega))) | (with_reducible refine Ext.trans ?_ (by assumption))))
     clear hK K
     try simp only [Act.put, zp1, zp2, zp3, zp4, zp5, zp6]
     refine wpOrd_call rfl rfl rfl Tryz.call81 (fun R hR => ?_)
     go_simp
     refine (Check_any _ _ _ _ (by first | rfl | assumption) (by omega) (by assumption) _ (by with_reducible repeat (first | assumption | apply Recs.ext | apply Recs.alloc | apply Recs.drew | (refine Recs.of_ext ?_ (by assumption))))).mono ?_
     rintro e w1 ⟨rfl, E201, d201, rfl⟩
     refine hR _ _ ⟨_, rfl, ?_, ?_⟩
     · exact (by repeat (first | (with_reducible first | exact Ext.refl _ | exact Ext.same _ _ _ _ | assumption | apply Ext.alloc | apply Ext.ext | apply Ext.drew) | (with_reducible refine Ext.setCell ?_ _ _ ?_; rotate_left; focus (first | omega | (simp only [zs1, zs2, zs3, size_ext]; omega))) | (with_reducible refine Ext.trans ?_ (by assumption))))
     clear hR R
     simp only [Act.put, zp1, zp2, zp3, zp4, zp5, zp6]
     repeat ((first | refine wpOrd_pass rfl rfl ?_ | (refine wpOrd_free (v := ?_) rfl rfl (fun _ hS => ?_) ?_; rotate_left; focus (obtain ⟨E9, d9, rfl⟩ := hS; go_simp; try with_reducible rfl))); simp only [Act.put, zp1, zp2, zp3, zp4, zp5, zp6])
     refine wpOrd_act rfl rfl (fun K hK => ?_)
     go_simp
     refine hK _ _ ⟨?_, ?_⟩
     · exact (by repeat (first | (with_reducible first | exact Ext.refl _ | exact Ext.same _ _ _ _ | assumption | apply Ext.alloc | apply Ext.ext | apply Ext.drew) | (with_reducible refine Ext.setCell ?_ _ _ ?_; rotate_left; focus (first | omega | (simp only [zs1, zs2, zs3, size_ext]; omega))) | (with_reducible refine Ext.trans ?_ (by assumption))))
     clear hK K
     try simp only [Act.put, zp1, zp2, zp3, zp4, zp5, zp6]
     repeat ((first | refine wpOrd_pass rfl rfl ?_ | (refine wpOrd_free (v := ?_) rfl rfl (fun _ hS => ?_) ?_; rotate_left; focus (obtain ⟨E9, d9, rfl⟩ := hS; go_simp; try with_reducible rfl))); simp only [Act.put, zp1, zp2, zp3, zp4, zp5, zp6])
     refine wpOrd_nil ?_
    rotate_right
    focus
     refine wpOrd_act rfl rfl (fun K hK => ?_)
     go_simp
     refine hK _ _ ⟨?_, ?_⟩
     · exact (by repeat (first | (with_reducible first | exact Ext.refl _ | exact Ext.same _ _ _ _ | assumption | apply Ext.alloc | apply Ext.ext | apply Ext.drew) | (with_reducible refine Ext.setCell ?_ _ _ ?_; rotate_left; focus (first | omega | (simp only [zs1, zs2, zs3, size_ext]; omega))) | (with_reducible refine Ext.trans ?_ (by assumption))))
     clear hK K
     try simp only [Act.put, zp1, zp2, zp3, zp4, zp5, zp6]
     refine wpOrd_fork ?_ ?_
     focus
      refine wpOrd_act rfl rfl (fun K hK => ?_)
      go_simp
      refine hK _ _ ⟨?_, ?_⟩
      · exact (by repeat (first | (with_reducible first | exact Ext.refl _ | exact Ext.same _ _ _ _ | assumption | apply Ext.alloc | apply Ext.ext | apply Ext.drew) | (with_reducible refine Ext.setCell ?_ _ _ ?_; rotate_left; focus (first | omega | (simp only [zs1, zs2, zs3, size_ext]; omega))) | (with_reducible refine Ext.trans ?_ (by assumption))))
      clear hK K
      try simp only [Act.put, zp1, zp2, zp3, zp4, zp5, zp6]
      refine wpOrd_call rfl rfl rfl Tryz.call81 (fun R hR => ?_)
      go_simp
      refine (Check_any _ _ _ _ (by first | rfl | assumption) (by omega) (by assumption) _ (by with_reducible repeat (first | assumption | apply Recs.ext | apply Recs.alloc | apply Recs.drew | (refine Recs.of_ext ?_ (by assumption))))).mono ?_
      rintro e w1 ⟨rfl, E202, d202, rfl⟩
      refine hR _ _ ⟨_, rfl, ?_, ?_⟩
      · exact (by repeat (first | (with_reducible first | exact Ext.refl _ | exact Ext.same _ _ _ _ | assumption | apply Ext.alloc | apply Ext.ext | apply Ext.drew) | (with_reducible refine Ext.setCell ?_ _ _ ?_; rotate_left; focus (first | omega | (simp only [zs1, zs2, zs3, size_ext]; omega))) | (with_reducible refine Ext.trans ?_ (by assumption))))
      clear hR R
      simp only [Act.put, zp1, zp2, zp3, zp4, zp5, zp6]
      repeat ((first | refine wpOrd_pass rfl rfl ?_ | (refine wpOrd_free (v := ?_) rfl rfl (fun _ hS => ?_) ?_; rotate_left; focus (obtain ⟨E9, d9, rfl⟩ := hS; go_simp; try with_reducible rfl))); simp only [Act.put, zp1, zp2, zp3, zp4, zp5, zp6])
      refine wpOrd_act rfl rfl (fun K hK => ?_)
      go_simp
      refine hK _ _ ⟨?_, ?_⟩
      · exact (by repeat (first | (with_reducible first | exact Ext.refl _ | exact Ext.same _ _ _ _ | assumption | apply Ext.alloc | apply Ext.ext | apply Ext.drew) | (with_reducible refine Ext.setCell ?_ _ _ ?_; rotate_left; focus (first | omega | (simp only [zs1, zs2, zs3, size_ext]; omega))) | (with_reducible refine Ext.trans ?_ (by assumption))))
      clear hK K
      try simp only [Act.put, zp1, zp2, zp3, zp4, zp5, zp6]
      repeat ((first | refine wpOrd_pass rfl rfl ?_ | (refine wpOrd_free (v := ?_) rfl rfl (fun _ hS => ?_) ?_; rotate_left; focus (obtain ⟨E9, d9, rfl⟩ := hS; go_simp; try with_reducible rfl))); simp only [Act.put, zp1, zp2, zp3, zp4, zp5, zp6])
      refine wpOrd_nil ?_
     rotate_right
     focus
      refine wpOrd_call rfl rfl rfl Tryz.call81 (fun R hR => ?_)
      go_simp
      refine (Check_any _ _ _ _ (by first | rfl | assumption) (by omega) (by assumption) _ (by with_reducible repeat (first | assumption | apply Recs.ext | apply Recs.alloc | apply Recs.drew | (refine Recs.of_ext ?_ (by assumption))))).mono ?_
      rintro e w1 ⟨rfl, E203, d203, rfl⟩
      refine hR _ _ ⟨_, rfl, ?_, ?_⟩
      · exact (by repeat (first | (with_reducible first | exact Ext.refl _ | exact Ext.same _ _ _ _ | assumption | apply Ext.alloc | apply Ext.ext | apply Ext.drew) | (with_reducible refine Ext.setCell ?_ _ _ ?_; rotate_left; focus (first | omega | (simp only [zs1, zs2, zs3, size_ext]; omega))) | (with_reducible refine Ext.trans ?_ (by assumption))))
      clear hR R
      simp only [Act.put, zp1, zp2, zp3, zp4, zp5, zp6]
      repeat ((first | refine wpOrd_pass rfl rfl ?_ | (refine wpOrd_free (v := ?_) rfl rfl (fun _ hS => ?_) ?_; rotate_left; focus (obtain ⟨E9, d9, rfl⟩ := hS; go_simp; try with_reducible rfl))); simp only [Act.put, zp1, zp2, zp3, zp4, zp5, zp6])
      refine wpOrd_act rfl rfl (fun K hK => ?_)
      go_simp
      refine hK _ _ ⟨?_, ?_⟩
      · exact (by repeat (first | (with_reducible first | exact Ext.refl _ | exact Ext.same _ _ _ _ | assumption | apply Ext.alloc | apply Ext.ext | apply Ext.drew) | (with_reducible refine Ext.setCell ?_ _ _ ?_; rotate_left; focus (first | omega | (simp only [zs1, zs2, zs3, size_ext]; omega))) | (with_reducible refine Ext.trans ?_ (by assumption))))
      clear hK K
      try simp only [Act.put, zp1, zp2, zp3, zp4, zp5, zp6]
      refine wpOrd_act rfl rfl (fun K hK => ?_)
      go_simp
      refine hK _ _ ⟨?_, ?_⟩
      · exact (by repeat (first | (with_reducible first | exact Ext.refl _ | exact Ext.same _ _ _ _ | assumption | apply Ext.alloc | apply Ext.ext | apply Ext.drew) | (with_reducible refine Ext.setCell ?_ _ _ ?_; rotate_left; focus (first | omega | (simp only [zs1, zs2, zs3, size_ext]; omega))) | (with_reducible refine Ext.trans ?_ (by assumption))))
      clear hK K
      try simp only [Act.put, zp1, zp2, zp3, zp4, zp5, zp6]
      repeat ((first | refine wpOrd_pass rfl rfl ?_ | (refine wpOrd_free (v := ?_) rfl rfl (fun _ hS => ?_) ?_; rotate_left; focus (obtain ⟨E9, d9, rfl⟩ := hS; go_simp; try with_reducible rfl))); simp only [Act.put, zp1, zp2, zp3, zp4, zp5, zp6])
      refine wpOrd_nil ?_
    go_wp2_with fail
    all_goals
      refine bodyPost_ret (v := .tuple #[regV Ac1 nc1 cc1, .bool true]) (by simp [results, Tryz.results65, go_sem]) rfl ?_
      refine ⟨Ac1, nc1, cc1, rfl, hnl, ⟨l', hid (fun _ => HO.out), ?_⟩, (by repeat (first | (with_reducible first | exact Ext.refl _ | exact Ext.same _ _ _ _ | assumption | apply Ext.alloc | apply Ext.ext | apply Ext.drew) | (with_reducible refine Ext.setCell ?_ _ _ ?_; rotate_left; focus (first | omega | (simp only [zs1, zs2, zs3, size_ext]; omega)))))⟩
      refine OwnR.of_ext (OwnR.moved (X' := (w.alloc (.cells #[.int .i64 g, .int .i64 ct, .slice A n c] 114)).alloc (.cells #[.slice Ac1 nc1 cc1] 34)) (d' := d2) (base := w.heap.size) Ho2.out (by simp) (by simp) (by omega)) (by repeat (first | (with_reducible first | exact Ext.refl _ | exact Ext.same _ _ _ _ | assumption | apply Ext.alloc | apply Ext.ext | apply Ext.drew) | (with_reducible refine Ext.setCell ?_ _ _ ?_; rotate_left; focus (first | omega | (simp only [zs1, zs2, zs3, size_ext]; omega)))))
end Go.Proofs.YtekjdeibnfaehaaGreat
