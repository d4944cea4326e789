/- sane. -/
import Derived.Test.YtekjdeibnfaehaaGreatSameR
set_option linter.unusedSimpArgs false
set_option linter.unusedVariables false
namespace Go.Proofs.YtekjdeibnfaehaaGreat
open Go Go.RowKit

theorem th_big : TxtBig thR := by
  intro r hr
  simp only [thR, List.mem_cons, List.not_mem_nil, or_false] at hr
  rcases hr with rfl | rfl | rfl <;> decide
theorem newDrive_y {base c : Nat} {w : World} {A : Option Addr} (h : OwnB base w (.slice A 10 c) (headB 1 0)) : DrvY w newDrive A 10 c none 0 0 :=
  ⟨headB_length 1 0, rfl, h.le, Nat.le_refl _, h.cap, by omega, h.of_byt_slice, Byt.nil _ _⟩
set_option maxRecDepth 100000 in
set_option maxHeartbeats 16000000 in
theorem sane_any (w : World) : Calls Tryz.prog 18 #[] w fun e w' => e = .returned (.bool true) ∧ Ext w w' := by
  have Hbig := hid th_big
  go_enter Tryz.func18, Tryz.ntmps18
  go_wp2_with (first | (go_at_call 69; refine (Encode_any evR _ (by decide)).mono ?_; rintro e w1 ⟨A1, c1, rfl, hb1, E1, d1, rfl⟩; rw [ev_len, ev_err]) | (go_at_call 24; refine (Stands_any _ 3 3 thR _ _ rfl (by omega) Hbig.out _ (by with_reducible repeat (first | assumption | apply Recs.ext | apply Recs.alloc | apply Recs.drew | (refine Recs.of_ext ?_ (by assumption))))).mono ?_; rintro e w1 ⟨rfl, E1, d1, rfl⟩; rw [th_stands, th_standsE]) | (go_at_call 26; refine (Standing_any _ 3 3 thR _ _ rfl (by omega) Hbig.out _ (by with_reducible repeat (first | assumption | apply Recs.ext | apply Recs.alloc | apply Recs.drew | (refine Recs.of_ext ?_ (by assumption))))).mono ?_; rintro e w1 ⟨Ag, ng, cg, rfl, hng, hrg, E1, d1, rfl⟩; (first | (rw [th_noneE]; replace hng := hng.out; rw [th_none] at hng; subst hng) | (rw [th_someE]; replace hng := hng.out; rw [th_some] at hng; subst hng)); clear hrg) | (go_at_call 70; refine (event_any _).mono ?_; rintro e w1 ⟨rfl, E1, d1, rfl⟩) | (go_at_call 71; refine (three_any _).mono ?_; rintro e w1 ⟨At1, rfl, hrt1, E1, d1, rfl⟩) | (go_at_call 72; refine (New_any _).mono ?_; rintro e w1 ⟨Aw1, cw1, rfl, how1, E1, d1, rfl⟩))
  have Hnd := hid (newDrive_y how1)
  clear how1
  refine wp_region_ord (.k3 0 (.k 1 (.a 2 (.a 3 (.f 4 (.f 5 (.f 6 (.f 7 (.a 8 (.a 9 (.f 10 .d))))))))) 2 (.a 1 (.a 3 (.f 4 (.f 5 (.f 6 (.f 7 (.a 8 (.a 9 (.f 10 .d)))))))))) 1 (.k 0 (.a 2 (.a 3 (.f 4 (.f 5 (.f 6 (.f 7 (.a 8 (.a 9 (.f 10 .d))))))))) 2 (.a 0 (.a 3 (.f 4 (.f 5 (.f 6 (.f 7 (.a 8 (.a 9 (.f 10 .d)))))))))) 2 (.k 0 (.a 1 (.a 3 (.f 4 (.f 5 (.f 6 (.f 7 (.a 8 (.a 9 (.f 10 .d))))))))) 1 (.a 0 (.a 3 (.f 4 (.f 5 (.f 6 (.f 7 (.a 8 (.a 9 (.f 10 .d))))))))))) (Ext (w)) (by kernel_rfl) (by kernel_rfl) (by repeat (first | (with_reducible first | exact Ext.refl _ | exact Ext.same _ _ _ _ | assumption | apply Ext.alloc | apply Ext.ext | apply Ext.drew) | (with_reducible refine Ext.setCell ?_ _ _ ?_; rotate_left; focus (first | omega | (simp only [zs1, zs2, zs3, size_ext]; omega))) | (with_reducible refine Ext.trans ?_ (by assumption)))) ?_
  refine wpOrd_fork3 ?_ ?_ ?_
  focus
   refine wpOrd_act rfl rfl (fun K hK => ?_)
   go_simp
   refine hK _ _ ⟨?_, ?_⟩
   · exact (by repeat (first | (with_reducible first | exact Ext.refl _ | exact Ext.same _ _ _ _ | assumption | apply Ext.alloc | apply Ext.ext | apply Ext.drew) | (with_reducible refine Ext.setCell ?_ _ _ ?_; rotate_left; focus (first | omega | (simp only [zs1, zs2, zs3, size_ext]; omega))) | (with_reducible refine Ext.trans ?_ (by assumption))))
   clear hK K
   try simp only [Act.put, zp1, zp2, zp3, zp4, zp5, zp6]
   refine wpOrd_fork ?_ ?_
   focus
    refine wpOrd_act rfl rfl (fun K hK => ?_)
    go_simp
    refine hK _ _ ⟨?_, ?_⟩
    · exact (by repeat (first | (with_reducible first | exact Ext.refl _ | exact Ext.same _ _ _ _ | assumption | apply Ext.alloc | apply Ext.ext | apply Ext.drew) | (with_reducible refine Ext.setCell ?_ _ _ ?_; rotate_left; focus (first | omega | (simp only [zs1, zs2, zs3, size_ext]; omega))) | (with_reducible refine Ext.trans ?_ (by assumption))))
    clear hK K
    try simp only [Act.put, zp1, zp2, zp3, zp4, zp5, zp6]
    refine wpOrd_call rfl rfl rfl Tryz.call70 (fun R hR => ?_)
    go_simp
    refine (event_any _).mono ?_
    rintro e w1 ⟨rfl, Ee, de, rfl⟩
    refine hR _ _ ⟨_, rfl, ?_, ?_⟩
    · exact (by repeat (first | (with_reducible first | exact Ext.refl _ | exact Ext.same _ _ _ _ | assumption | apply Ext.alloc | apply Ext.ext | apply Ext.drew) | (with_reducible refine Ext.setCell ?_ _ _ ?_; rotate_left; focus (first | omega | (simp only [zs1, zs2, zs3, size_ext]; omega))) | (with_reducible refine Ext.trans ?_ (by assumption))))
    clear hR R
    simp only [Act.put, zp1, zp2, zp3, zp4, zp5, zp6]
    refine wpOrd_call rfl rfl rfl Tryz.call19 (fun R hR => ?_)
    go_simp
    refine (Append_any _ 10 _ _ _ _ newDrive _ 0 _ newMem evR rfl (by omega) (by decide) _ (DrvY.of_ext Hnd.out (by repeat (first | (with_reducible first | exact Ext.refl _ | exact Ext.same _ _ _ _ | assumption | apply Ext.alloc | apply Ext.ext | apply Ext.drew) | (with_reducible refine Ext.setCell ?_ _ _ ?_; rotate_left; focus (first | omega | (simp only [zs1, zs2, zs3, size_ext]; omega))) | (with_reducible refine Ext.trans ?_ (by assumption))))) (Recs.nil _ _)).mono ?_
    rintro e w1 ⟨Ba, na, ca, Bb, nb, cb, Bm, nmm, cmm, rfl, hdz, hmx, Ea, da, rfl⟩
    refine hR _ _ ⟨_, rfl, ?_, ?_⟩
    · exact (by repeat (first | (with_reducible first | exact Ext.refl _ | exact Ext.same _ _ _ _ | assumption | apply Ext.alloc | apply Ext.ext | apply Ext.drew) | (with_reducible refine Ext.setCell ?_ _ _ ?_; rotate_left; focus (first | omega | (simp only [zs1, zs2, zs3, size_ext]; omega))) | (with_reducible refine Ext.trans ?_ (by assumption))))
    clear hR R
    simp only [Act.put, zp1, zp2, zp3, zp4, zp5, zp6]
    repeat ((first | refine wpOrd_pass rfl rfl ?_ | (refine wpOrd_free (v := ?_) rfl rfl (fun _ hS => ?_) ?_; rotate_left; focus (obtain ⟨E9, d9, rfl⟩ := hS; go_simp; try with_reducible rfl))); simp only [Act.put, zp1, zp2, zp3, zp4, zp5, zp6])
    refine wpOrd_act rfl rfl (fun K hK => ?_)
    go_simp
    refine hK _ _ ⟨?_, ?_⟩
    · exact (by repeat (first | (with_reducible first | exact Ext.refl _ | exact Ext.same _ _ _ _ | assumption | apply Ext.alloc | apply Ext.ext | apply Ext.drew) | (with_reducible refine Ext.setCell ?_ _ _ ?_; rotate_left; focus (first | omega | (simp only [zs1, zs2, zs3, size_ext]; omega))) | (with_reducible refine Ext.trans ?_ (by assumption))))
    clear hK K
    try simp only [Act.put, zp1, zp2, zp3, zp4, zp5, zp6]
    refine wpOrd_act rfl rfl (fun K hK => ?_)
    go_simp
    refine hK _ _ ⟨?_, ?_⟩
    · exact (by repeat (first | (with_reducible first | exact Ext.refl _ | exact Ext.same _ _ _ _ | assumption | apply Ext.alloc | apply Ext.ext | apply Ext.drew) | (with_reducible refine Ext.setCell ?_ _ _ ?_; rotate_left; focus (first | omega | (simp only [zs1, zs2, zs3, size_ext]; omega))) | (with_reducible refine Ext.trans ?_ (by assumption))))
    clear hK K
    try simp only [Act.put, zp1, zp2, zp3, zp4, zp5, zp6]
    repeat ((first | refine wpOrd_pass rfl rfl ?_ | (refine wpOrd_free (v := ?_) rfl rfl (fun _ hS => ?_) ?_; rotate_left; focus (obtain ⟨E9, d9, rfl⟩ := hS; go_simp; try with_reducible rfl))); simp only [Act.put, zp1, zp2, zp3, zp4, zp5, zp6])
    refine wpOrd_nil ?_
   rotate_right
   focus
    refine wpOrd_call rfl rfl rfl Tryz.call70 (fun R hR => ?_)
    go_simp
    refine (event_any _).mono ?_
    rintro e w1 ⟨rfl, Ee, de, rfl⟩
    refine hR _ _ ⟨_, rfl, ?_, ?_⟩
    · exact (by repeat (first | (with_reducible first | exact Ext.refl _ | exact Ext.same _ _ _ _ | assumption | apply Ext.alloc | apply Ext.ext | apply Ext.drew) | (with_reducible refine Ext.setCell ?_ _ _ ?_; rotate_left; focus (first | omega | (simp only [zs1, zs2, zs3, size_ext]; omega))) | (with_reducible refine Ext.trans ?_ (by assumption))))
    clear hR R
    simp only [Act.put, zp1, zp2, zp3, zp4, zp5, zp6]
    refine wpOrd_act rfl rfl (fun K hK => ?_)
    go_simp
    refine hK _ _ ⟨?_, ?_⟩
    · exact (by repeat (first | (with_reducible first | exact Ext.refl _ | exact Ext.same _ _ _ _ | assumption | apply Ext.alloc | apply Ext.ext | apply Ext.drew) | (with_reducible refine Ext.setCell ?_ _ _ ?_; rotate_left; focus (first | omega | (simp only [zs1, zs2, zs3, size_ext]; omega))) | (with_reducible refine Ext.trans ?_ (by assumption))))
    clear hK K
    try simp only [Act.put, zp1, zp2, zp3, zp4, zp5, zp6]
    refine wpOrd_call rfl rfl rfl Tryz.call19 (fun R hR => ?_)
    go_simp
    refine (Append_any _ 10 _ _ _ _ newDrive _ 0 _ newMem evR rfl (by omega) (by decide) _ (DrvY.of_ext Hnd.out (by repeat (first | (with_reducible first | exact Ext.refl _ | exact Ext.same _ _ _ _ | assumption | apply Ext.alloc | apply Ext.ext | apply Ext.drew) | (with_reducible refine Ext.setCell ?_ _ _ ?_; rotate_left; focus (first | omega | (simp only [zs1, zs2, zs3, size_ext]; omega))) | (with_reducible refine Ext.trans ?_ (by assumption))))) (Recs.nil _ _)).mono ?_
    rintro e w1 ⟨Ba, na, ca, Bb, nb, cb, Bm, nmm, cmm, rfl, hdz, hmx, Ea, da, rfl⟩
    refine hR _ _ ⟨_, rfl, ?_, ?_⟩
    · exact (by repeat (first | (with_reducible first | exact Ext.refl _ | exact Ext.same _ _ _ _ | assumption | apply Ext.alloc | apply Ext.ext | apply Ext.drew) | (with_reducible refine Ext.setCell ?_ _ _ ?_; rotate_left; focus (first | omega | (simp only [zs1, zs2, zs3, size_ext]; omega))) | (with_reducible refine Ext.trans ?_ (by assumption))))
    clear hR R
    simp only [Act.put, zp1, zp2, zp3, zp4, zp5, zp6]
    repeat ((first | refine wpOrd_pass rfl rfl ?_ | (refine wpOrd_free (v := ?_) rfl rfl (fun _ hS => ?_) ?_; rotate_left; focus (obtain ⟨E9, d9, rfl⟩ := hS; go_simp; try with_reducible rfl))); simp only [Act.put, zp1, zp2, zp3, zp4, zp5, zp6])
    refine wpOrd_act rfl rfl (fun K hK => ?_)
    go_simp
    refine hK _ _ ⟨?_, ?_⟩
    · exact (by repeat (first | (with_reducible first | exact Ext.refl _ | exact Ext.same _ _ _ _ | assumption | apply Ext.alloc | apply Ext.ext | apply Ext.drew) | (with_reducible refine Ext.setCell ?_ _ _ ?_; rotate_left; focus (first | omega | (simp only [zs1, zs2, zs3, size_ext]; omega))) | (with_reducible refine Ext.trans ?_ (by assumption))))
    clear hK K
    try simp only [Act.put, zp1, zp2, zp3, zp4, zp5, zp6]
    refine wpOrd_act rfl rfl (fun K hK => ?_)
    go_simp
    refine hK _ _ ⟨?_, ?_⟩
    · exact (by repeat (first | (with_reducible first | exact Ext.refl _ | exact Ext.same _ _ _ _ | assumption | apply Ext.alloc | apply Ext.ext | apply Ext.drew) | (with_reducible refine Ext.setCell ?_ _ _ ?_; rotate_left; focus (first | omega | (simp only [zs1, zs2, zs3, size_ext]; omega))) | (with_reducible refine Ext.trans ?_ (by assumption))))
    clear hK K
    try simp only [Act.put, zp1, zp2, zp3, zp4, zp5, zp6]
    repeat ((first | refine wpOrd_pass rfl rfl ?_ | (refine wpOrd_free (v := ?_) rfl rfl (fun _ hS => ?_) ?_; rotate_left; focus (obtain ⟨E9, d9, rfl⟩ := hS; go_simp; try with_reducible rfl))); simp only [Act.put, zp1, zp2, zp3, zp4, zp5, zp6])
    refine wpOrd_nil ?_
  rotate_right
  focus
   refine wpOrd_call rfl rfl rfl Tryz.call70 (fun R hR => ?_)
   go_simp
   refine (event_any _).mono ?_
   rintro e w1 ⟨rfl, Ee, de, rfl⟩
   refine hR _ _ ⟨_, rfl, ?_, ?_⟩
   · exact (by repeat (first | (with_reducible first | exact Ext.refl _ | exact Ext.same _ _ _ _ | assumption | apply Ext.alloc | apply Ext.ext | apply Ext.drew) | (with_reducible refine Ext.setCell ?_ _ _ ?_; rotate_left; focus (first | omega | (simp only [zs1, zs2, zs3, size_ext]; omega))) | (with_reducible refine Ext.trans ?_ (by assumption))))
   clear hR R
   simp only [Act.put, zp1, zp2, zp3, zp4, zp5, zp6]
   refine wpOrd_fork ?_ ?_
   focus
    refine wpOrd_act rfl rfl (fun K hK => ?_)
    go_simp
    refine hK _ _ ⟨?_, ?_⟩
    · exact (by repeat (first | (with_reducible first | exact Ext.refl _ | exact Ext.same _ _ _ _ | assumption | apply Ext.alloc | apply Ext.ext | apply Ext.drew) | (with_reducible refine Ext.setCell ?_ _ _ ?_; rotate_left; focus (first | omega | (simp only [zs1, zs2, zs3, size_ext]; omega))) | (with_reducible refine Ext.trans ?_ (by assumption))))
    clear hK K
    try simp only [Act.put, zp1, zp2, zp3, zp4, zp5, zp6]
    refine wpOrd_act rfl rfl (fun K hK => ?_)
    go_simp
    refine hK _ _ ⟨?_, ?_⟩
    · exact (by repeat (first | (with_reducible first | exact Ext.refl _ | exact Ext.same _ _ _ _ | assumption | apply Ext.alloc | apply Ext.ext | apply Ext.drew) | (with_reducible refine Ext.setCell ?_ _ _ ?_; rotate_left; focus (first | omega | (simp only [zs1, zs2, zs3, size_ext]; omega))) | (with_reducible refine Ext.trans ?_ (by assumption))))
    clear hK K
    try simp only [Act.put, zp1, zp2, zp3, zp4, zp5, zp6]
    refine wpOrd_call rfl rfl rfl Tryz.call19 (fun R hR => ?_)
    go_simp
    refine (Append_any _ 10 _ _ _ _ newDrive _ 0 _ newMem evR rfl (by omega) (by decide) _ (DrvY.of_ext Hnd.out (by repeat (first | (with_reducible first | exact Ext.refl _ | exact Ext.same _ _ _ _ | assumption | apply Ext.alloc | apply Ext.ext | apply Ext.drew) | (with_reducible refine Ext.setCell ?_ _ _ ?_; rotate_left; focus (first | omega | (simp only [zs1, zs2, zs3, size_ext]; omega))) | (with_reducible refine Ext.trans ?_ (by assumption))))) (Recs.nil _ _)).mono ?_
    rintro e w1 ⟨Ba, na, ca, Bb, nb, cb, Bm, nmm, cmm, rfl, hdz, hmx, Ea, da, rfl⟩
    refine hR _ _ ⟨_, rfl, ?_, ?_⟩
    · exact (by repeat (first | (with_reducible first | exact Ext.refl _ | exact Ext.same _ _ _ _ | assumption | apply Ext.alloc | apply Ext.ext | apply Ext.drew) | (with_reducible refine Ext.setCell ?_ _ _ ?_; rotate_left; focus (first | omega | (simp only [zs1, zs2, zs3, size_ext]; omega))) | (with_reducible refine Ext.trans ?_ (by assumption))))
    clear hR R
    simp only [Act.put, zp1, zp2, zp3, zp4, zp5, zp6]
    repeat ((first | refine wpOrd_pass rfl rfl ?_ | (refine wpOrd_free (v := ?_) rfl rfl (fun _ hS => ?_) ?_; rotate_left; focus (obtain ⟨E9, d9, rfl⟩ := hS; go_simp; try with_reducible rfl))); simp only [Act.put, zp1, zp2, zp3, zp4, zp5, zp6])
    refine wpOrd_act rfl rfl (fun K hK => ?_)
    go_simp
    refine hK _ _ ⟨?_, ?_⟩
    · exact (by repeat (first | (with_reducible first | exact Ext.refl _ | exact Ext.same _ _ _ _ | assumption | apply Ext.alloc | apply Ext.ext | apply Ext.drew) | (with_reducible refine Ext.setCell ?_ _ _ ?_; rotate_left; focus (first | omega | (simp only [zs1, zs2, zs3, size_ext]; omega))) | (with_reducible refine Ext.trans ?_ (by assumption))))
    clear hK K
    try simp only [Act.put, zp1, zp2, zp3, zp4, zp5, zp6]
    refine wpOrd_act rfl rfl (fun K hK => ?_)
    go_simp
    refine hK _ _ ⟨?_, ?_⟩
    · exact (by repeat (first | (with_reducible first | exact Ext.refl _ | exact Ext.same _ _ _ _ | assumption | apply Ext.alloc | apply Ext.ext | apply Ext.drew) | (with_reducible refine Ext.setCell ?_ _ _ ?_; rotate_left; focus (first | omega | (simp only [zs1, zs2, zs3, size_ext]; omega))) | (with_reducible refine Ext.trans ?_ (by assumption))))
    clear hK K
    try simp only [Act.put, zp1, zp2, zp3, zp4, zp5, zp6]
    repeat ((first | refine wpOrd_pass rfl rfl ?_ | (refine wpOrd_free (v := ?_) rfl rfl (fun _ hS => ?_) ?_; rotate_left; focus (obtain ⟨E9, d9, rfl⟩ := hS; go_simp; try with_reducible rfl))); simp only [Act.put, zp1, zp2, zp3, zp4, zp5, zp6])
    refine wpOrd_nil ?_
   rotate_right
   focus
    refine wpOrd_act rfl rfl (fun K hK => ?_)
    go_simp
    refine hK _ _ ⟨?_, ?_⟩
    · exact (by repeat (first | (with_reducible first | exact Ext.refl _ | exact Ext.same _ _ _ _ | assumption | apply Ext.alloc | apply Ext.ext | apply Ext.drew) | (with_reducible refine Ext.setCell ?_ _ _ ?_; rotate_left; focus (first | omega | (simp only [zs1, zs2, zs3, size_ext]; omega))) | (with_reducible refine Ext.trans ?_ (by assumption))))
    clear hK K
    try simp only [Act.put, zp1, zp2, zp3, zp4, zp5, zp6]
    refine wpOrd_act rfl rfl (fun K hK => ?_)
    go_simp
    refine hK _ _ ⟨?_, ?_⟩
    · exact (by repeat (first | (with_reducible first | exact Ext.refl _ | exact Ext.same _ _ _ _ | assumption | apply Ext.alloc | apply Ext.ext | apply Ext.drew) | (with_reducible refine Ext.setCell ?_ _ _ ?_; rotate_left; focus (first | omega | (simp only [zs1, zs2, zs3, size_ext]; omega))) | (with_reducible refine Ext.trans ?_ (by assumption))))
    clear hK K
    try simp only [Act.put, zp1, zp2, zp3, zp4, zp5, zp6]
    refine wpOrd_call rfl rfl rfl Tryz.call19 (fun R hR => ?_)
    go_simp
    refine (Append_any _ 10 _ _ _ _ newDrive _ 0 _ newMem evR rfl (by omega) (by decide) _ (DrvY.of_ext Hnd.out (by repeat (first | (with_reducible first | exact Ext.refl _ | exact Ext.same _ _ _ _ | assumption | apply Ext.alloc | apply Ext.ext | apply Ext.drew) | (with_reducible refine Ext.setCell ?_ _ _ ?_; rotate_left; focus (first | omega | (simp only [zs1, zs2, zs3, size_ext]; omega))) | (with_reducible refine Ext.trans ?_ (by assumption))))) (Recs.nil _ _)).mono ?_
    rintro e w1 ⟨Ba, na, ca, Bb, nb, cb, Bm, nmm, cmm, rfl, hdz, hmx, Ea, da, rfl⟩
    refine hR _ _ ⟨_, rfl, ?_, ?_⟩
    · exact (by repeat (first | (with_reducible first | exact Ext.refl _ | exact Ext.same _ _ _ _ | assumption | apply Ext.alloc | apply Ext.ext | apply Ext.drew) | (with_reducible refine Ext.setCell ?_ _ _ ?_; rotate_left; focus (first | omega | (simp only [zs1, zs2, zs3, size_ext]; omega))) | (with_reducible refine Ext.trans ?_ (by assumption))))
    clear hR R
    simp only [Act.put, zp1, zp2, zp3, zp4, zp5, zp6]
    repeat ((first | refine wpOrd_pass rfl rfl ?_ | (refine wpOrd_free (v := ?_) rfl rfl (fun _ hS => ?_) ?_; rotate_left; focus (obtain ⟨E9, d9, rfl⟩ := hS; go_simp; try with_reducible rfl))); simp only [Act.put, zp1, zp2, zp3, zp4, zp5, zp6])
    refine wpOrd_act rfl rfl (fun K hK => ?_)
    go_simp
    refine hK _ _ ⟨?_, ?_⟩
    · exact (by repeat (first | (with_reducible first | exact Ext.refl _ | exact Ext.same _ _ _ _ | assumption | apply Ext.alloc | apply Ext.ext | apply Ext.drew) | (with_reducible refine Ext.setCell ?_ _ _ ?_; rotate_left; focus (first | omega | (simp only [zs1, zs2, zs3, size_ext]; omega))) | (with_reducible refine Ext.trans ?_ (by assumption))))
    clear hK K
    try simp only [Act.put, zp1, zp2, zp3, zp4, zp5, zp6]
    refine wpOrd_act rfl rfl (fun K hK => ?_)
    go_simp
    refine hK _ _ ⟨?_, ?_⟩
    · exact (by repeat (first | (with_reducible first | exact Ext.refl _ | exact Ext.same _ _ _ _ | assumption | apply Ext.alloc | apply Ext.ext | apply Ext.drew) | (with_reducible refine Ext.setCell ?_ _ _ ?_; rotate_left; focus (first | omega | (simp only [zs1, zs2, zs3, size_ext]; omega))) | (with_reducible refine Ext.trans ?_ (by assumption))))
    clear hK K
    try simp only [Act.put, zp1, zp2, zp3, zp4, zp5, zp6]
    repeat ((first | refine wpOrd_pass rfl rfl ?_ | (refine wpOrd_free (v := ?_) rfl rfl (fun _ hS => ?_) ?_; rotate_left; focus (obtain ⟨E9, d9, rfl⟩ := hS; go_simp; try with_reducible rfl))); simp only [Act.put, zp1, zp2, zp3, zp4, zp5, zp6])
    refine wpOrd_nil ?_
  rotate_right
  focus
   refine wpOrd_act rfl rfl (fun K hK => ?_)
   go_simp
   refine hK _ _ ⟨?_, ?_⟩
   · exact (by repeat (first | (with_reducible first | exact Ext.refl _ | exact Ext.same _ _ _ _ | assumption | apply Ext.alloc | apply Ext.ext | apply Ext.drew) | (with_reducible refine Ext.setCell ?_ _ _ ?_; rotate_left; focus (first | omega | (simp only [zs1, zs2, zs3, size_ext]; omega))) | (with_reducible refine Ext.trans ?_ (by assumption))))
   clear hK K
   try simp only [Act.put, zp1, zp2, zp3, zp4, zp5, zp6]
   refine wpOrd_fork ?_ ?_
   focus
    refine wpOrd_act rfl rfl (fun K hK => ?_)
    go_simp
    refine hK _ _ ⟨?_, ?_⟩
    · exact (by repeat (first | (with_reducible first | exact Ext.refl _ | exact Ext.same _ _ _ _ | assumption | apply Ext.alloc | apply Ext.ext | apply Ext.drew) | (with_reducible refine Ext.setCell ?_ _ _ ?_; rotate_left; focus (first | omega | (simp only [zs1, zs2, zs3, size_ext]; omega))) | (with_reducible refine Ext.trans ?_ (by assumption))))
    clear hK K
    try simp only [Act.put, zp1, zp2, zp3, zp4, zp5, zp6]
    refine wpOrd_call rfl rfl rfl Tryz.call70 (fun R hR => ?_)
    go_simp
    refine (event_any _).mono ?_
    rintro e w1 ⟨rfl, Ee, de, rfl⟩
    refine hR _ _ ⟨_, rfl, ?_, ?_⟩
    · exact (by repeat (first | (with_reducible first | exact Ext.refl _ | exact Ext.same _ _ _ _ | assumption | apply Ext.alloc | apply Ext.ext | apply Ext.drew) | (with_reducible refine Ext.setCell ?_ _ _ ?_; rotate_left; focus (first | omega | (simp only [zs1, zs2, zs3, size_ext]; omega))) | (with_reducible refine Ext.trans ?_ (by assumption))))
    clear hR R
    simp only [Act.put, zp1, zp2, zp3, zp4, zp5, zp6]
    refine wpOrd_call rfl rfl rfl Tryz.call19 (fun R hR => ?_)
    go_simp
    refine (Append_any _ 10 _ _ _ _ newDrive _ 0 _ newMem evR rfl (by omega) (by decide) _ (DrvY.of_ext Hnd.out (by repeat (first | (with_reducible first | exact Ext.refl _ | exact Ext.same _ _ _ _ | assumption | apply Ext.alloc | apply Ext.ext | apply Ext.drew) | (with_reducible refine Ext.setCell ?_ _ _ ?_; rotate_left; focus (first | omega | (simp only [zs1, zs2, zs3, size_ext]; omega))) | (with_reducible refine Ext.trans ?_ (by assumption))))) (Recs.nil _ _)).mono ?_
    rintro e w1 ⟨Ba, na, ca, Bb, nb, cb, Bm, nmm, cmm, rfl, hdz, hmx, Ea, da, rfl⟩
    refine hR _ _ ⟨_, rfl, ?_, ?_⟩
    · exact (by repeat (first | (with_reducible first | exact Ext.refl _ | exact Ext.same _ _ _ _ | assumption | apply Ext.alloc | apply Ext.ext | apply Ext.drew) | (with_reducible refine Ext.setCell ?_ _ _ ?_; rotate_left; focus (first | omega | (simp only [zs1, zs2, zs3, size_ext]; omega))) | (with_reducible refine Ext.trans ?_ (by assumption))))
    clear hR R
    simp only [Act.put, zp1, zp2, zp3, zp4, zp5, zp6]
    repeat ((first | refine wpOrd_pass rfl rfl ?_ | (refine wpOrd_free (v := ?_) rfl rfl (fun _ hS => ?_) ?_; rotate_left; focus (obtain ⟨E9, d9, rfl⟩ := hS; go_simp; try with_reducible rfl))); simp only [Act.put, zp1, zp2, zp3, zp4, zp5, zp6])
    refine wpOrd_act rfl rfl (fun K hK => ?_)
    go_simp
    refine hK _ _ ⟨?_, ?_⟩
    · exact (by repeat (first | (with_reducible first | exact Ext.refl _ | exact Ext.same _ _ _ _ | assumption | apply Ext.alloc | apply Ext.ext | apply Ext.drew) | (with_reducible refine Ext.setCell ?_ _ _ ?_; rotate_left; focus (first | omega | (simp only [zs1, zs2, zs3, size_ext]; omega))) | (with_reducible refine Ext.trans ?_ (by assumption))))
    clear hK K
    try simp only [Act.put, zp1, zp2, zp3, zp4, zp5, zp6]
    refine wpOrd_act rfl rfl (fun K hK => ?_)
    go_simp
    refine hK _ _ ⟨?_, ?_⟩
    · exact (by repeat (first | (with_reducible first | exact Ext.refl _ | exact Ext.same _ _ _ _ | assumption | apply Ext.alloc | apply Ext.ext | apply Ext.drew) | (with_reducible refine Ext.setCell ?_ _ _ ?_; rotate_left; focus (first | omega | (simp only [zs1, zs2, zs3, size_ext]; omega))) | (with_reducible refine Ext.trans ?_ (by assumption))))
    clear hK K
    try simp only [Act.put, zp1, zp2, zp3, zp4, zp5, zp6]
    repeat ((first | refine wpOrd_pass rfl rfl ?_ | (refine wpOrd_free (v := ?_) rfl rfl (fun _ hS => ?_) ?_; rotate_left; focus (obtain ⟨E9, d9, rfl⟩ := hS; go_simp; try with_reducible rfl))); simp only [Act.put, zp1, zp2, zp3, zp4, zp5, zp6])
    refine wpOrd_nil ?_
   rotate_right
   focus
    refine wpOrd_call rfl rfl rfl Tryz.call70 (fun R hR => ?_)
    go_simp
    refine (event_any _).mono ?_
    rintro e w1 ⟨rfl, Ee, de, rfl⟩
    refine hR _ _ ⟨_, rfl, ?_, ?_⟩
    · exact (by repeat (first | (with_reducible first | exact Ext.refl _ | exact Ext.same _ _ _ _ | assumption | apply Ext.alloc | apply Ext.ext | apply Ext.drew) | (with_reducible refine Ext.setCell ?_ _ _ ?_; rotate_left; focus (first | omega | (simp only [zs1, zs2, zs3, size_ext]; omega))) | (with_reducible refine Ext.trans ?_ (by assumption))))
    clear hR R
    simp only [Act.put, zp1, zp2, zp3, zp4, zp5, zp6]
    refine wpOrd_act rfl rfl (fun K hK => ?_)
    go_simp
    refine hK _ _ ⟨?_, ?_⟩
    · exact (by repeat (first | (with_reducible first | exact Ext.refl _ | exact Ext.same _ _ _ _ | assumption | apply Ext.alloc | apply Ext.ext | apply Ext.drew) | (with_reducible refine Ext.setCell ?_ _ _ ?_; rotate_left; focus (first | omega | (simp only [zs1, zs2, zs3, size_ext]; omega))) | (with_reducible refine Ext.trans ?_ (by assumption))))
    clear hK K
    try simp only [Act.put, zp1, zp2, zp3, zp4, zp5, zp6]
    refine wpOrd_call rfl rfl rfl Tryz.call19 (fun R hR => ?_)
    go_simp
    refine (Append_any _ 10 _ _ _ _ newDrive _ 0 _ newMem evR rfl (by omega) (by decide) _ (DrvY.of_ext Hnd.out (by repeat (first | (with_reducible first | exact Ext.refl _ | exact Ext.same _ _ _ _ | assumption | apply Ext.alloc | apply Ext.ext | apply Ext.drew) | (with_reducible refine Ext.setCell ?_ _ _ ?_; rotate_left; focus (first | omega | (simp only [zs1, zs2, zs3, size_ext]; omega))) | (with_reducible refine Ext.trans ?_ (by assumption))))) (Recs.nil _ _)).mono ?_
    rintro e w1 ⟨Ba, na, ca, Bb, nb, cb, Bm, nmm, cmm, rfl, hdz, hmx, Ea, da, rfl⟩
    refine hR _ _ ⟨_, rfl, ?_, ?_⟩
    · exact (by repeat (first | (with_reducible first | exact Ext.refl _ | exact Ext.same _ _ _ _ | assumption | apply Ext.alloc | apply Ext.ext | apply Ext.drew) | (with_reducible refine Ext.setCell ?_ _ _ ?_; rotate_left; focus (first | omega | (simp only [zs1, zs2, zs3, size_ext]; omega))) | (with_reducible refine Ext.trans ?_ (by assumption))))
    clear hR R
    simp only [Act.put, zp1, zp2, zp3, zp4, zp5, zp6]
    repeat ((first | refine wpOrd_pass rfl rfl ?_ | (refine wpOrd_free (v := ?_) rfl rfl (fun _ hS => ?_) ?_; rotate_left; focus (obtain ⟨E9, d9, rfl⟩ := hS; go_simp; try with_reducible rfl))); simp only [Act.put, zp1, zp2, zp3, zp4, zp5, zp6])
    refine wpOrd_act rfl rfl (fun K hK => ?_)
    go_simp
    refine hK _ _ ⟨?_, ?_⟩
    · exact (by repeat (first | (with_reducible first | exact Ext.refl _ | exact Ext.same _ _ _ _ | assumption | apply Ext.alloc | apply Ext.ext | apply Ext.drew) | (with_reducible refine Ext.setCell ?_ _ _ ?_; rotate_left; focus (first | omega | (simp only [zs1, zs2, zs3, size_ext]; omega))) | (with_reducible refine Ext.trans ?_ (by assumption))))
    clear hK K
    try simp only [Act.put, zp1, zp2, zp3, zp4, zp5, zp6]
    refine wpOrd_act rfl rfl (fun K hK => ?_)
    go_simp
    refine hK _ _ ⟨?_, ?_⟩
    · exact (by repeat (first | (with_reducible first | exact Ext.refl _ | exact Ext.same _ _ _ _ | assumption | apply Ext.alloc | apply Ext.ext | apply Ext.drew) | (with_reducible refine Ext.setCell ?_ _ _ ?_; rotate_left; focus (first | omega | (simp only [zs1, zs2, zs3, size_ext]; omega))) | (with_reducible refine Ext.trans ?_ (by assumption))))
    clear hK K
    try simp only [Act.put, zp1, zp2, zp3, zp4, zp5, zp6]
    repeat ((first | refine wpOrd_pass rfl rfl ?_ | (refine wpOrd_free (v := ?_) rfl rfl (fun _ hS => ?_) ?_; rotate_left; focus (obtain ⟨E9, d9, rfl⟩ := hS; go_simp; try with_reducible rfl))); simp only [Act.put, zp1, zp2, zp3, zp4, zp5, zp6])
    refine wpOrd_nil ?_
  all_goals
    have hna : na = 39 := by rw [← hdz.l0, ap_len]
    have hnb : nb = 0 := by rw [← hdz.l1, ap_len1]
    have hnm : nmm = 1 := by rw [hmx.l, ap_lenm]
    subst hna hnb hnm
    have Hdz := hid hdz
    have Hmx := hid hmx
    clear hdz hmx
    go_wp2_with (first | (go_at_call 13; refine (Crash_y _ _ _ _ _ _ (appD newDrive newMem evR) _ _ _ (DrvZ.moved2 (base := 0) Hdz.out (by repeat (first | (with_reducible first | exact Ext.refl _ | exact Ext.same _ _ _ _ | assumption | apply Ext.alloc | apply Ext.ext | apply Ext.drew) | (with_reducible refine Ext.setCell ?_ _ _ ?_; rotate_left; focus (first | omega | (simp only [zs1, zs2, zs3, size_ext]; omega))))) (by simp) (by simp) (by omega)).read (by omega) (by omega) (by omega) (by omega) (by omega) (by omega)).mono ?_; rintro e w1 ⟨Ck0, ck0, ckc0, Ck1, ck1, ckc1, rfl, hck, Ec, dc, rfl⟩) | (go_at_call 15; refine (Open_y _ _ _ _ _ _ _ _ hck).mono ?_; rintro e w1 ⟨Bo0, no0, co0, Bo1, no1, co1, Amo, nmo, cmo, rfl, hdo, hmo, Eo, do_, rfl⟩; (first | (rw [op_err28]; have hml := hmo.l; rw [op_len28] at hml; subst hml; clear hmo hdo hck) | (rw [op_err29]; have hml := hmo.l; rw [op_len29] at hml; subst hml; have Hm29 := hid hmo; clear hmo hdo hck))) | (go_at_call 54; refine (Home_any 10 _).mono ?_; rintro e w1 ⟨rfl, rfl⟩; rw [home_ten]; have hfirm := ap_firm) | (go_at_call 53; refine (Same_any _ _ _ _ _ _ (openM (crashD (appD newDrive newMem evR) 29 0)).recs (appM newDrive newMem evR).recs Hm29.out.l.symm Hmx.out.l.symm (by omega) _ (OwnR.of_slice (base := 0) (OwnR.moved2 Hm29.out.r (by repeat (first | (with_reducible first | exact Ext.refl _ | exact Ext.same _ _ _ _ | assumption | apply Ext.alloc | apply Ext.ext | apply Ext.drew) | (with_reducible refine Ext.setCell ?_ _ _ ?_; rotate_left; focus (first | omega | (simp only [zs1, zs2, zs3, size_ext]; omega))))) (by simp) (by simp) (by omega))) (OwnR.of_slice (base := 0) (OwnR.moved2 Hmx.out.r (by repeat (first | (with_reducible first | exact Ext.refl _ | exact Ext.same _ _ _ _ | assumption | apply Ext.alloc | apply Ext.ext | apply Ext.drew) | (with_reducible refine Ext.setCell ?_ _ _ ?_; rotate_left; focus (first | omega | (simp only [zs1, zs2, zs3, size_ext]; omega))))) (by simp) (by simp) (by omega)))).mono ?_; rintro e w1 ⟨rfl, Es, ds, rfl⟩; rw [op_same29]))
  all_goals
    go_ret
    exact ⟨ret_val rfl, (by repeat (first | (with_reducible first | exact Ext.refl _ | exact Ext.same _ _ _ _ | assumption | apply Ext.alloc | apply Ext.ext | apply Ext.drew) | (with_reducible refine Ext.setCell ?_ _ _ ?_; rotate_left; focus (first | omega | (simp only [zs1, zs2, zs3, size_ext]; omega)))))⟩
end Go.Proofs.YtekjdeibnfaehaaGreat
