/- The record that numbers describe. -/
import Derived.Test.YtekjdeibnfaehaaMade
set_option linter.unusedSimpArgs false
set_option linter.unusedVariables false
namespace Go.Proofs.Ytekjdeibnfaehaa
open Go Go.RowKit

abbrev rawV (x : RawD) : Value := .agg #[.int .i64 x.a0, .int .i64 x.a1, .int .i64 x.a2, .int .i64 x.a3, .int .i64 x.a4, .int .i64 x.a5, .int .i64 x.a6, .string x.text]
theorem madeR_of {l : List Rec} {x : RawD} (h : x.a1 % 6 = 0) (h' : 0 < nextN l (x.a0 % 4)) : madeR l x = ⟨x.a0 % 4, nextN l (x.a0 % 4), 0, 0, 0, x.a4 % 60, x.a0 % 4, x.a5 % nextN l (x.a0 % 4), 0, 0, noText⟩ := by
  rw [madeR, if_pos ⟨h, h'⟩]
theorem madeR_lease {l : List Rec} {x : RawD} (h : x.a1 % 6 = 1) : madeR l x = ⟨x.a0 % 4, nextN l (x.a0 % 4), 1, leaseShip (x.a0 % 4) x.a2, x.a3 % 60, x.a4 % 60, 0, 0, x.a5 % 4, x.a3 % 60 + x.a6 % 12, noText⟩ := by
  rw [madeR, if_neg (by omega), if_pos h]
theorem madeR_event {l : List Rec} {x : RawD} (h : ¬ (x.a1 % 6 = 0 ∧ 0 < nextN l (x.a0 % 4))) (h' : ¬ x.a1 % 6 = 1) : madeR l x = ⟨x.a0 % 4, nextN l (x.a0 % 4), 2 + x.a1 % 9, 1 + x.a2 % 20, x.a3 % 60, x.a4 % 60, 0, 0, 0, 0, shownT x.text 40⟩ := by
  rw [madeR, if_neg h, if_neg h']
theorem nextN_small {l : List Rec} (h : SqSmall l) (o : Int) : 0 ≤ nextN l o ∧ nextN l o ≤ 65536 := nextN_bound (by decide) l o h
set_option maxRecDepth 100000 in
set_option maxHeartbeats 16000000 in
theorem Made_any (A : Option Addr) (c n : Nat) (l : List Rec) (x : RawD) (hn : l.length = n) (hbig : n ≤ 100000) (hsq : SqSmall l) (hx : x.text.size ≤ 9223372036854775807) (w : World) (hr : Recs w A l) :
    Calls Try.prog 66 #[regV A n c, rawV x] w fun e w' => e = .returned (recV (madeR l x)) ∧ Ext w w' := by
  have HA := @madeR_of l x
  have HB := @madeR_lease l x
  have HC := @madeR_event l x
  obtain ⟨a0, a1, a2, a3, a4, a5, a6, t⟩ := x
  obtain ⟨N0, N1⟩ := nextN_small hsq (a0 % 4)
  have p0 := Int.emod_nonneg a0 (show (4 : Int) ≠ 0 by decide)
  have p1 := Int.emod_lt_of_pos a0 (show (0 : Int) < 4 by decide)
  have q0 := Int.emod_nonneg a1 (show (6 : Int) ≠ 0 by decide)
  have q1 := Int.emod_lt_of_pos a1 (show (0 : Int) < 6 by decide)
  have s0 := Int.emod_nonneg a2 (show (2 : Int) ≠ 0 by decide)
  have s1 := Int.emod_lt_of_pos a2 (show (0 : Int) < 2 by decide)
  have u0 := Int.emod_nonneg a3 (show (60 : Int) ≠ 0 by decide)
  have u1 := Int.emod_lt_of_pos a3 (show (0 : Int) < 60 by decide)
  have v0 := Int.emod_nonneg a6 (show (12 : Int) ≠ 0 by decide)
  have v1 := Int.emod_lt_of_pos a6 (show (0 : Int) < 12 by decide)
  have y0 := Int.emod_nonneg a2 (show (20 : Int) ≠ 0 by decide)
  have y1 := Int.emod_lt_of_pos a2 (show (0 : Int) < 20 by decide)
  have z0 := Int.emod_nonneg a1 (show (9 : Int) ≠ 0 by decide)
  have z1 := Int.emod_lt_of_pos a1 (show (0 : Int) < 9 by decide)
  by_cases k1 : a1 % 6 = 1
  · have HR := hid (HB k1)
    clear HA HB HC
    by_cases sh : a0 % 4 + 9 * (a2 % 2) = 0
    · have HS := hid (show leaseShip (a0 % 4) a2 = 9 from if_pos sh)
      go_enter Try.func66, Try.ntmps66
      go_wp2_with (go_at_call 30; refine (Mod_any _ _ (by omega) (by omega) _).mono ?_; rintro e w1 ⟨rfl, rfl⟩)
      refine wp_region_ord_same (.f 0 (.f 1 (.f 2 (.f 5 (.f 6 (.f 7 (.k 3 (.f 4 (.k 8 (.f 9 (.a 10 (.a 11 .d))) 10 (.a 8 (.f 9 (.a 11 .d))))) 10 (.a 3 (.f 4 (.a 8 (.f 9 (.a 11 .d)))))))))))) (by kernel_rfl) (by kernel_rfl) ?_
      repeat ((first | refine wpOrd_pass rfl rfl ?_ | (refine wpOrd_free (v := ?_) rfl rfl (fun _ hS => ?_) ?_; rotate_left; focus (go_simp; try with_reducible rfl))); simp only [Act.put, zp1, zp2, zp3, zp4, zp5, zp6])
      refine wpOrd_fork ?_ ?_
      focus
       refine wpOrd_call rfl rfl rfl Try.call64 (fun R hR => ?_)
       go_simp
       refine (rnext_any _ _ _ _ _ (by first | rfl | assumption) (by omega) (by assumption) _ (by with_reducible repeat (first | assumption | apply Recs.ext | apply Recs.alloc | apply Recs.drew | (refine Recs.of_ext ?_ (by assumption))))).mono ?_
       rintro e w1 ⟨rfl, E1, d1, rfl⟩
       refine hR _ _ ⟨_, rfl, ?_, ?_⟩
       · (first | exact fun b o hb => Ext.cellOf (by repeat (first | (with_reducible first | exact Ext.refl _ | exact Ext.same _ _ _ _ | assumption | apply Ext.alloc | apply Ext.ext | apply Ext.drew) | (with_reducible refine Ext.setCell ?_ _ _ ?_; rotate_left; focus (first | omega | (simp only [zs1, zs2, zs3, size_ext]; omega))))) hb | (intro b o hb; (try simp only [size_ext, zs1, zs2, zs3] at hb); go_simp; try rfl))
       clear hR R
       simp only [Act.put, zp1, zp2, zp3, zp4, zp5, zp6]
       repeat ((first | refine wpOrd_pass rfl rfl ?_ | (refine wpOrd_free (v := ?_) rfl rfl (fun _ hS => ?_) ?_; rotate_left; focus (go_simp; try with_reducible rfl))); simp only [Act.put, zp1, zp2, zp3, zp4, zp5, zp6])
       refine wpOrd_fork ?_ ?_
       focus
        refine wpOrd_call rfl rfl rfl Try.call30 (fun R hR => ?_)
        go_simp
        refine (Mod_any _ _ (by omega) (by omega) _).mono ?_
        rintro e w1 ⟨rfl, rfl⟩
        refine hR _ _ ⟨_, rfl, ?_, ?_⟩
        · (first | exact fun b o hb => Ext.cellOf (by repeat (first | (with_reducible first | exact Ext.refl _ | exact Ext.same _ _ _ _ | assumption | apply Ext.alloc | apply Ext.ext | apply Ext.drew) | (with_reducible refine Ext.setCell ?_ _ _ ?_; rotate_left; focus (first | omega | (simp only [zs1, zs2, zs3, size_ext]; omega))))) hb | (intro b o hb; (try simp only [size_ext, zs1, zs2, zs3] at hb); go_simp; try rfl))
        clear hR R
        simp only [Act.put, zp1, zp2, zp3, zp4, zp5, zp6]
        repeat ((first | refine wpOrd_pass rfl rfl ?_ | (refine wpOrd_free (v := ?_) rfl rfl (fun _ hS => ?_) ?_; rotate_left; focus (go_simp; try with_reducible rfl))); simp only [Act.put, zp1, zp2, zp3, zp4, zp5, zp6])
        refine wpOrd_act rfl rfl (fun K hK => ?_)
        go_simp
        refine hK _ _ ⟨?_, ?_⟩
        · (first | exact fun b o hb => Ext.cellOf (by repeat (first | (with_reducible first | exact Ext.refl _ | exact Ext.same _ _ _ _ | assumption | apply Ext.alloc | apply Ext.ext | apply Ext.drew) | (with_reducible refine Ext.setCell ?_ _ _ ?_; rotate_left; focus (first | omega | (simp only [zs1, zs2, zs3, size_ext]; omega))))) hb | (intro b o hb; (try simp only [size_ext, zs1, zs2, zs3] at hb); go_simp; try rfl))
        clear hK K
        try simp only [Act.put, zp1, zp2, zp3, zp4, zp5, zp6]
        refine wpOrd_act rfl rfl (fun K hK => ?_)
        go_simp
        refine hK _ _ ⟨?_, ?_⟩
        · (first | exact fun b o hb => Ext.cellOf (by repeat (first | (with_reducible first | exact Ext.refl _ | exact Ext.same _ _ _ _ | assumption | apply Ext.alloc | apply Ext.ext | apply Ext.drew) | (with_reducible refine Ext.setCell ?_ _ _ ?_; rotate_left; focus (first | omega | (simp only [zs1, zs2, zs3, size_ext]; omega))))) hb | (intro b o hb; (try simp only [size_ext, zs1, zs2, zs3] at hb); go_simp; try rfl))
        clear hK K
        try simp only [Act.put, zp1, zp2, zp3, zp4, zp5, zp6]
        refine wpOrd_nil ?_
       rotate_right
       focus
        refine wpOrd_act rfl rfl (fun K hK => ?_)
        go_simp
        refine hK _ _ ⟨?_, ?_⟩
        · (first | exact fun b o hb => Ext.cellOf (by repeat (first | (with_reducible first | exact Ext.refl _ | exact Ext.same _ _ _ _ | assumption | apply Ext.alloc | apply Ext.ext | apply Ext.drew) | (with_reducible refine Ext.setCell ?_ _ _ ?_; rotate_left; focus (first | omega | (simp only [zs1, zs2, zs3, size_ext]; omega))))) hb | (intro b o hb; (try simp only [size_ext, zs1, zs2, zs3] at hb); go_simp; try rfl))
        clear hK K
        try simp only [Act.put, zp1, zp2, zp3, zp4, zp5, zp6]
        refine wpOrd_call rfl rfl rfl Try.call30 (fun R hR => ?_)
        go_simp
        refine (Mod_any _ _ (by omega) (by omega) _).mono ?_
        rintro e w1 ⟨rfl, rfl⟩
        refine hR _ _ ⟨_, rfl, ?_, ?_⟩
        · (first | exact fun b o hb => Ext.cellOf (by repeat (first | (with_reducible first | exact Ext.refl _ | exact Ext.same _ _ _ _ | assumption | apply Ext.alloc | apply Ext.ext | apply Ext.drew) | (with_reducible refine Ext.setCell ?_ _ _ ?_; rotate_left; focus (first | omega | (simp only [zs1, zs2, zs3, size_ext]; omega))))) hb | (intro b o hb; (try simp only [size_ext, zs1, zs2, zs3] at hb); go_simp; try rfl))
        clear hR R
        simp only [Act.put, zp1, zp2, zp3, zp4, zp5, zp6]
        repeat ((first | refine wpOrd_pass rfl rfl ?_ | (refine wpOrd_free (v := ?_) rfl rfl (fun _ hS => ?_) ?_; rotate_left; focus (go_simp; try with_reducible rfl))); simp only [Act.put, zp1, zp2, zp3, zp4, zp5, zp6])
        refine wpOrd_act rfl rfl (fun K hK => ?_)
        go_simp
        refine hK _ _ ⟨?_, ?_⟩
        · (first | exact fun b o hb => Ext.cellOf (by repeat (first | (with_reducible first | exact Ext.refl _ | exact Ext.same _ _ _ _ | assumption | apply Ext.alloc | apply Ext.ext | apply Ext.drew) | (with_reducible refine Ext.setCell ?_ _ _ ?_; rotate_left; focus (first | omega | (simp only [zs1, zs2, zs3, size_ext]; omega))))) hb | (intro b o hb; (try simp only [size_ext, zs1, zs2, zs3] at hb); go_simp; try rfl))
        clear hK K
        try simp only [Act.put, zp1, zp2, zp3, zp4, zp5, zp6]
        refine wpOrd_nil ?_
      rotate_right
      focus
       refine wpOrd_act rfl rfl (fun K hK => ?_)
       go_simp
       refine hK _ _ ⟨?_, ?_⟩
       · (first | exact fun b o hb => Ext.cellOf (by repeat (first | (with_reducible first | exact Ext.refl _ | exact Ext.same _ _ _ _ | assumption | apply Ext.alloc | apply Ext.ext | apply Ext.drew) | (with_reducible refine Ext.setCell ?_ _ _ ?_; rotate_left; focus (first | omega | (simp only [zs1, zs2, zs3, size_ext]; omega))))) hb | (intro b o hb; (try simp only [size_ext, zs1, zs2, zs3] at hb); go_simp; try rfl))
       clear hK K
       try simp only [Act.put, zp1, zp2, zp3, zp4, zp5, zp6]
       refine wpOrd_call rfl rfl rfl Try.call64 (fun R hR => ?_)
       go_simp
       refine (rnext_any _ _ _ _ _ (by first | rfl | assumption) (by omega) (by assumption) _ (by with_reducible repeat (first | assumption | apply Recs.ext | apply Recs.alloc | apply Recs.drew | (refine Recs.of_ext ?_ (by assumption))))).mono ?_
       rintro e w1 ⟨rfl, E4, d4, rfl⟩
       refine hR _ _ ⟨_, rfl, ?_, ?_⟩
       · (first | exact fun b o hb => Ext.cellOf (by repeat (first | (with_reducible first | exact Ext.refl _ | exact Ext.same _ _ _ _ | assumption | apply Ext.alloc | apply Ext.ext | apply Ext.drew) | (with_reducible refine Ext.setCell ?_ _ _ ?_; rotate_left; focus (first | omega | (simp only [zs1, zs2, zs3, size_ext]; omega))))) hb | (intro b o hb; (try simp only [size_ext, zs1, zs2, zs3] at hb); go_simp; try rfl))
       clear hR R
       simp only [Act.put, zp1, zp2, zp3, zp4, zp5, zp6]
       repeat ((first | refine wpOrd_pass rfl rfl ?_ | (refine wpOrd_free (v := ?_) rfl rfl (fun _ hS => ?_) ?_; rotate_left; focus (go_simp; try with_reducible rfl))); simp only [Act.put, zp1, zp2, zp3, zp4, zp5, zp6])
       refine wpOrd_call rfl rfl rfl Try.call30 (fun R hR => ?_)
       go_simp
       refine (Mod_any _ _ (by omega) (by omega) _).mono ?_
       rintro e w1 ⟨rfl, rfl⟩
       refine hR _ _ ⟨_, rfl, ?_, ?_⟩
       · (first | exact fun b o hb => Ext.cellOf (by repeat (first | (with_reducible first | exact Ext.refl _ | exact Ext.same _ _ _ _ | assumption | apply Ext.alloc | apply Ext.ext | apply Ext.drew) | (with_reducible refine Ext.setCell ?_ _ _ ?_; rotate_left; focus (first | omega | (simp only [zs1, zs2, zs3, size_ext]; omega))))) hb | (intro b o hb; (try simp only [size_ext, zs1, zs2, zs3] at hb); go_simp; try rfl))
       clear hR R
       simp only [Act.put, zp1, zp2, zp3, zp4, zp5, zp6]
       repeat ((first | refine wpOrd_pass rfl rfl ?_ | (refine wpOrd_free (v := ?_) rfl rfl (fun _ hS => ?_) ?_; rotate_left; focus (go_simp; try with_reducible rfl))); simp only [Act.put, zp1, zp2, zp3, zp4, zp5, zp6])
       refine wpOrd_act rfl rfl (fun K hK => ?_)
       go_simp
       refine hK _ _ ⟨?_, ?_⟩
       · (first | exact fun b o hb => Ext.cellOf (by repeat (first | (with_reducible first | exact Ext.refl _ | exact Ext.same _ _ _ _ | assumption | apply Ext.alloc | apply Ext.ext | apply Ext.drew) | (with_reducible refine Ext.setCell ?_ _ _ ?_; rotate_left; focus (first | omega | (simp only [zs1, zs2, zs3, size_ext]; omega))))) hb | (intro b o hb; (try simp only [size_ext, zs1, zs2, zs3] at hb); go_simp; try rfl))
       clear hK K
       try simp only [Act.put, zp1, zp2, zp3, zp4, zp5, zp6]
       refine wpOrd_nil ?_
      all_goals
        go_wp2_with (go_at_call 30; refine (Mod_any _ _ (by omega) (by omega) _).mono ?_; rintro e w1 ⟨rfl, rfl⟩)
        refine wp_region_ord (.f 0 (.f 2 (.f 3 (.f 4 (.k 1 (.a 5 (.f 6 (.f 7 (.a 8 .d)))) 5 (.a 1 (.f 6 (.f 7 (.a 8 .d))))))))) (Ext ((w.alloc (.cells #[.slice A n c] 38)).alloc (.cells #[.int .i64 a0, .int .i64 a1, .int .i64 a2, .int .i64 a3, .int .i64 a4, .int .i64 a5, .int .i64 a6, .string t] 72))) (by kernel_rfl) (by kernel_rfl) (by repeat (first | (with_reducible first | exact Ext.refl _ | exact Ext.same _ _ _ _ | assumption | apply Ext.alloc | apply Ext.ext | apply Ext.drew) | (with_reducible refine Ext.setCell ?_ _ _ ?_; rotate_left; focus (first | omega | (simp only [zs1, zs2, zs3, size_ext]; omega))) | (with_reducible refine Ext.trans ?_ (by assumption)))) ?_
        repeat ((first | refine wpOrd_pass rfl rfl ?_ | (refine wpOrd_free (v := ?_) rfl rfl (fun _ hS => ?_) ?_; rotate_left; focus (obtain ⟨E9, d9, rfl⟩ := hS; go_simp; try with_reducible rfl))); simp only [Act.put, zp1, zp2, zp3, zp4, zp5, zp6])
        refine wpOrd_fork ?_ ?_
        focus
         refine wpOrd_act rfl rfl (fun K hK => ?_)
         go_simp
         refine hK _ _ ⟨?_, ?_⟩
         · exact (by repeat (first | (with_reducible first | exact Ext.refl _ | exact Ext.same _ _ _ _ | assumption | apply Ext.alloc | apply Ext.ext | apply Ext.drew) | (with_reducible refine Ext.setCell ?_ _ _ ?_; rotate_left; focus (first | omega | (simp only [zs1, zs2, zs3, size_ext]; omega))) | (with_reducible refine Ext.trans ?_ (by assumption))))
         clear hK K
         try simp only [Act.put, zp1, zp2, zp3, zp4, zp5, zp6]
         refine wpOrd_call rfl rfl rfl Try.call30 (fun R hR => ?_)
         go_simp
         refine (Mod_any _ _ (by omega) (by omega) _).mono ?_
         rintro e w1 ⟨rfl, rfl⟩
         refine hR _ _ ⟨_, rfl, ?_, ?_⟩
         · exact (by repeat (first | (with_reducible first | exact Ext.refl _ | exact Ext.same _ _ _ _ | assumption | apply Ext.alloc | apply Ext.ext | apply Ext.drew) | (with_reducible refine Ext.setCell ?_ _ _ ?_; rotate_left; focus (first | omega | (simp only [zs1, zs2, zs3, size_ext]; omega))) | (with_reducible refine Ext.trans ?_ (by assumption))))
         clear hR R
         simp only [Act.put, zp1, zp2, zp3, zp4, zp5, zp6]
         repeat ((first | refine wpOrd_pass rfl rfl ?_ | (refine wpOrd_free (v := ?_) rfl rfl (fun _ hS => ?_) ?_; rotate_left; focus (obtain ⟨E9, d9, rfl⟩ := hS; go_simp; try with_reducible rfl))); simp only [Act.put, zp1, zp2, zp3, zp4, zp5, zp6])
         refine wpOrd_act rfl rfl (fun K hK => ?_)
         go_simp
         refine hK _ _ ⟨?_, ?_⟩
         · exact (by repeat (first | (with_reducible first | exact Ext.refl _ | exact Ext.same _ _ _ _ | assumption | apply Ext.alloc | apply Ext.ext | apply Ext.drew) | (with_reducible refine Ext.setCell ?_ _ _ ?_; rotate_left; focus (first | omega | (simp only [zs1, zs2, zs3, size_ext]; omega))) | (with_reducible refine Ext.trans ?_ (by assumption))))
         clear hK K
         try simp only [Act.put, zp1, zp2, zp3, zp4, zp5, zp6]
         refine wpOrd_nil ?_
        rotate_right
        focus
         refine wpOrd_call rfl rfl rfl Try.call30 (fun R hR => ?_)
         go_simp
         refine (Mod_any _ _ (by omega) (by omega) _).mono ?_
         rintro e w1 ⟨rfl, rfl⟩
         refine hR _ _ ⟨_, rfl, ?_, ?_⟩
         · exact (by repeat (first | (with_reducible first | exact Ext.refl _ | exact Ext.same _ _ _ _ | assumption | apply Ext.alloc | apply Ext.ext | apply Ext.drew) | (with_reducible refine Ext.setCell ?_ _ _ ?_; rotate_left; focus (first | omega | (simp only [zs1, zs2, zs3, size_ext]; omega))) | (with_reducible refine Ext.trans ?_ (by assumption))))
         clear hR R
         simp only [Act.put, zp1, zp2, zp3, zp4, zp5, zp6]
         refine wpOrd_act rfl rfl (fun K hK => ?_)
         go_simp
         refine hK _ _ ⟨?_, ?_⟩
         · exact (by repeat (first | (with_reducible first | exact Ext.refl _ | exact Ext.same _ _ _ _ | assumption | apply Ext.alloc | apply Ext.ext | apply Ext.drew) | (with_reducible refine Ext.setCell ?_ _ _ ?_; rotate_left; focus (first | omega | (simp only [zs1, zs2, zs3, size_ext]; omega))) | (with_reducible refine Ext.trans ?_ (by assumption))))
         clear hK K
         try simp only [Act.put, zp1, zp2, zp3, zp4, zp5, zp6]
         repeat ((first | refine wpOrd_pass rfl rfl ?_ | (refine wpOrd_free (v := ?_) rfl rfl (fun _ hS => ?_) ?_; rotate_left; focus (obtain ⟨E9, d9, rfl⟩ := hS; go_simp; try with_reducible rfl))); simp only [Act.put, zp1, zp2, zp3, zp4, zp5, zp6])
         refine wpOrd_act rfl rfl (fun K hK => ?_)
         go_simp
         refine hK _ _ ⟨?_, ?_⟩
         · exact (by repeat (first | (with_reducible first | exact Ext.refl _ | exact Ext.same _ _ _ _ | assumption | apply Ext.alloc | apply Ext.ext | apply Ext.drew) | (with_reducible refine Ext.setCell ?_ _ _ ?_; rotate_left; focus (first | omega | (simp only [zs1, zs2, zs3, size_ext]; omega))) | (with_reducible refine Ext.trans ?_ (by assumption))))
         clear hK K
         try simp only [Act.put, zp1, zp2, zp3, zp4, zp5, zp6]
         refine wpOrd_nil ?_
        all_goals
          go_wp2_with (go_at_call 30; refine (Mod_any _ _ (by omega) (by omega) _).mono ?_; rintro e w1 ⟨rfl, rfl⟩)
          refine bodyPost_ret (v := recV ⟨a0 % 4, nextN l (a0 % 4), 1, 9, a3 % 60, a4 % 60, 0, 0, a5 % 4, a3 % 60 + a6 % 12, noText⟩) (by simp [results, Try.results66, go_sem, noText]) rfl ?_
          exact ⟨by rw [HR.out, HS.out], (by repeat (first | (with_reducible first | exact Ext.refl _ | exact Ext.same _ _ _ _ | assumption | apply Ext.alloc | apply Ext.ext | apply Ext.drew) | (with_reducible refine Ext.setCell ?_ _ _ ?_; rotate_left; focus (first | omega | (simp only [zs1, zs2, zs3, size_ext]; omega)))))⟩
    · have HS := hid (show leaseShip (a0 % 4) a2 = a0 % 4 + 9 * (a2 % 2) from if_neg sh)
      go_enter Try.func66, Try.ntmps66
      go_wp2_with (go_at_call 30; refine (Mod_any _ _ (by omega) (by omega) _).mono ?_; rintro e w1 ⟨rfl, rfl⟩)
      refine wp_region_ord_same (.f 0 (.f 1 (.f 2 (.f 5 (.f 6 (.f 7 (.k 3 (.f 4 (.k 8 (.f 9 (.a 10 (.a 11 .d))) 10 (.a 8 (.f 9 (.a 11 .d))))) 10 (.a 3 (.f 4 (.a 8 (.f 9 (.a 11 .d)))))))))))) (by kernel_rfl) (by kernel_rfl) ?_
      repeat ((first | refine wpOrd_pass rfl rfl ?_ | (refine wpOrd_free (v := ?_) rfl rfl (fun _ hS => ?_) ?_; rotate_left; focus (go_simp; try with_reducible rfl))); simp only [Act.put, zp1, zp2, zp3, zp4, zp5, zp6])
      refine wpOrd_fork ?_ ?_
      focus
       refine wpOrd_call rfl rfl rfl Try.call64 (fun R hR => ?_)
       go_simp
       refine (rnext_any _ _ _ _ _ (by first | rfl | assumption) (by omega) (by assumption) _ (by with_reducible repeat (first | assumption | apply Recs.ext | apply Recs.alloc | apply Recs.drew | (refine Recs.of_ext ?_ (by assumption))))).mono ?_
       rintro e w1 ⟨rfl, E1, d1, rfl⟩
       refine hR _ _ ⟨_, rfl, ?_, ?_⟩
       · (first | exact fun b o hb => Ext.cellOf (by repeat (first | (with_reducible first | exact Ext.refl _ | exact Ext.same _ _ _ _ | assumption | apply Ext.alloc | apply Ext.ext | apply Ext.drew) | (with_reducible refine Ext.setCell ?_ _ _ ?_; rotate_left; focus (first | omega | (simp only [zs1, zs2, zs3, size_ext]; omega))))) hb | (intro b o hb; (try simp only [size_ext, zs1, zs2, zs3] at hb); go_simp; try rfl))
       clear hR R
       simp only [Act.put, zp1, zp2, zp3, zp4, zp5, zp6]
       repeat ((first | refine wpOrd_pass rfl rfl ?_ | (refine wpOrd_free (v := ?_) rfl rfl (fun _ hS => ?_) ?_; rotate_left; focus (go_simp; try with_reducible rfl))); simp only [Act.put, zp1, zp2, zp3, zp4, zp5, zp6])
       refine wpOrd_fork ?_ ?_
       focus
        refine wpOrd_call rfl rfl rfl Try.call30 (fun R hR => ?_)
        go_simp
        refine (Mod_any _ _ (by omega) (by omega) _).mono ?_
        rintro e w1 ⟨rfl, rfl⟩
        refine hR _ _ ⟨_, rfl, ?_, ?_⟩
        · (first | exact fun b o hb => Ext.cellOf (by repeat (first | (with_reducible first | exact Ext.refl _ | exact Ext.same _ _ _ _ | assumption | apply Ext.alloc | apply Ext.ext | apply Ext.drew) | (with_reducible refine Ext.setCell ?_ _ _ ?_; rotate_left; focus (first | omega | (simp only [zs1, zs2, zs3, size_ext]; omega))))) hb | (intro b o hb; (try simp only [size_ext, zs1, zs2, zs3] at hb); go_simp; try rfl))
        clear hR R
        simp only [Act.put, zp1, zp2, zp3, zp4, zp5, zp6]
        repeat ((first | refine wpOrd_pass rfl rfl ?_ | (refine wpOrd_free (v := ?_) rfl rfl (fun _ hS => ?_) ?_; rotate_left; focus (go_simp; try with_reducible rfl))); simp only [Act.put, zp1, zp2, zp3, zp4, zp5, zp6])
        refine wpOrd_act rfl rfl (fun K hK => ?_)
        go_simp
        refine hK _ _ ⟨?_, ?_⟩
        · (first | exact fun b o hb => Ext.cellOf (by repeat (first | (with_reducible first | exact Ext.refl _ | exact Ext.same _ _ _ _ | assumption | apply Ext.alloc | apply Ext.ext | apply Ext.drew) | (with_reducible refine Ext.setCell ?_ _ _ ?_; rotate_left; focus (first | omega | (simp only [zs1, zs2, zs3, size_ext]; omega))))) hb | (intro b o hb; (try simp only [size_ext, zs1, zs2, zs3] at hb); go_simp; try rfl))
        clear hK K
        try simp only [Act.put, zp1, zp2, zp3, zp4, zp5, zp6]
        refine wpOrd_act rfl rfl (fun K hK => ?_)
        go_simp
        refine hK _ _ ⟨?_, ?_⟩
        · (first | exact fun b o hb => Ext.cellOf (by repeat (first | (with_reducible first | exact Ext.refl _ | exact Ext.same _ _ _ _ | assumption | apply Ext.alloc | apply Ext.ext | apply Ext.drew) | (with_reducible refine Ext.setCell ?_ _ _ ?_; rotate_left; focus (first | omega | (simp only [zs1, zs2, zs3, size_ext]; omega))))) hb | (intro b o hb; (try simp only [size_ext, zs1, zs2, zs3] at hb); go_simp; try rfl))
        clear hK K
        try simp only [Act.put, zp1, zp2, zp3, zp4, zp5, zp6]
        refine wpOrd_nil ?_
       rotate_right
       focus
        refine wpOrd_act rfl rfl (fun K hK => ?_)
        go_simp
        refine hK _ _ ⟨?_, ?_⟩
        · (first | exact fun b o hb => Ext.cellOf (by repeat (first | (with_reducible first | exact Ext.refl _ | exact Ext.same _ _ _ _ | assumption | apply Ext.alloc | apply Ext.ext | apply Ext.drew) | (with_reducible refine Ext.setCell ?_ _ _ ?_; rotate_left; focus (first | omega | (simp only [zs1, zs2, zs3, size_ext]; omega))))) hb | (intro b o hb; (try simp only [size_ext, zs1, zs2, zs3] at hb); go_simp; try rfl))
        clear hK K
        try simp only [Act.put, zp1, zp2, zp3, zp4, zp5, zp6]
        refine wpOrd_call rfl rfl rfl Try.call30 (fun R hR => ?_)
        go_simp
        refine (Mod_any _ _ (by omega) (by omega) _).mono ?_
        rintro e w1 ⟨rfl, rfl⟩
        refine hR _ _ ⟨_, rfl, ?_, ?_⟩
        · (first | exact fun b o hb => Ext.cellOf (by repeat (first | (with_reducible first | exact Ext.refl _ | exact Ext.same _ _ _ _ | assumption | apply Ext.alloc | apply Ext.ext | apply Ext.drew) | (with_reducible refine Ext.setCell ?_ _ _ ?_; rotate_left; focus (first | omega | (simp only [zs1, zs2, zs3, size_ext]; omega))))) hb | (intro b o hb; (try simp only [size_ext, zs1, zs2, zs3] at hb); go_simp; try rfl))
        clear hR R
        simp only [Act.put, zp1, zp2, zp3, zp4, zp5, zp6]
        repeat ((first | refine wpOrd_pass rfl rfl ?_ | (refine wpOrd_free (v := ?_) rfl rfl (fun _ hS => ?_) ?_; rotate_left; focus (go_simp; try with_reducible rfl))); simp only [Act.put, zp1, zp2, zp3, zp4, zp5, zp6])
        refine wpOrd_act rfl rfl (fun K hK => ?_)
        go_simp
        refine hK _ _ ⟨?_, ?_⟩
        · (first | exact fun b o hb => Ext.cellOf (by repeat (first | (with_reducible first | exact Ext.refl _ | exact Ext.same _ _ _ _ | assumption | apply Ext.alloc | apply Ext.ext | apply Ext.drew) | (with_reducible refine Ext.setCell ?_ _ _ ?_; rotate_left; focus (first | omega | (simp only [zs1, zs2, zs3, size_ext]; omega))))) hb | (intro b o hb; (try simp only [size_ext, zs1, zs2, zs3] at hb); go_simp; try rfl))
        clear hK K
        try simp only [Act.put, zp1, zp2, zp3, zp4, zp5, zp6]
        refine wpOrd_nil ?_
      rotate_right
      focus
       refine wpOrd_act rfl rfl (fun K hK => ?_)
       go_simp
       refine hK _ _ ⟨?_, ?_⟩
       · (first | exact fun b o hb => Ext.cellOf (by repeat (first | (with_reducible first | exact Ext.refl _ | exact Ext.same _ _ _ _ | assumption | apply Ext.alloc | apply Ext.ext | apply Ext.drew) | (with_reducible refine Ext.setCell ?_ _ _ ?_; rotate_left; focus (first | omega | (simp only [zs1, zs2, zs3, size_ext]; omega))))) hb | (intro b o hb; (try simp only [size_ext, zs1, zs2, zs3] at hb); go_simp; try rfl))
       clear hK K
       try simp only [Act.put, zp1, zp2, zp3, zp4, zp5, zp6]
       refine wpOrd_call rfl rfl rfl Try.call64 (fun R hR => ?_)
       go_simp
       refine (rnext_any _ _ _ _ _ (by first | rfl | assumption) (by omega) (by assumption) _ (by with_reducible repeat (first | assumption | apply Recs.ext | apply Recs.alloc | apply Recs.drew | (refine Recs.of_ext ?_ (by assumption))))).mono ?_
       rintro e w1 ⟨rfl, E4, d4, rfl⟩
       refine hR _ _ ⟨_, rfl, ?_, ?_⟩
       · (first | exact fun b o hb => Ext.cellOf (by repeat (first | (with_reducible first | exact Ext.refl _ | exact Ext.same _ _ _ _ | assumption | apply Ext.alloc | apply Ext.ext | apply Ext.drew) | (with_reducible refine Ext.setCell ?_ _ _ ?_; rotate_left; focus (first | omega | (simp only [zs1, zs2, zs3, size_ext]; omega))))) hb | (intro b o hb; (try simp only [size_ext, zs1, zs2, zs3] at hb); go_simp; try rfl))
       clear hR R
       simp only [Act.put, zp1, zp2, zp3, zp4, zp5, zp6]
       repeat ((first | refine wpOrd_pass rfl rfl ?_ | (refine wpOrd_free (v := ?_) rfl rfl (fun _ hS => ?_) ?_; rotate_left; focus (go_simp; try with_reducible rfl))); simp only [Act.put, zp1, zp2, zp3, zp4, zp5, zp6])
       refine wpOrd_call rfl rfl rfl Try.call30 (fun R hR => ?_)
       go_simp
       refine (Mod_any _ _ (by omega) (by omega) _).mono ?_
       rintro e w1 ⟨rfl, rfl⟩
       refine hR _ _ ⟨_, rfl, ?_, ?_⟩
       · (first | exact fun b o hb => Ext.cellOf (by repeat (first | (with_reducible first | exact Ext.refl _ | exact Ext.same _ _ _ _ | assumption | apply Ext.alloc | apply Ext.ext | apply Ext.drew) | (with_reducible refine Ext.setCell ?_ _ _ ?_; rotate_left; focus (first | omega | (simp only [zs1, zs2, zs3, size_ext]; omega))))) hb | (intro b o hb; (try simp only [size_ext, zs1, zs2, zs3] at hb); go_simp; try rfl))
       clear hR R
       simp only [Act.put, zp1, zp2, zp3, zp4, zp5, zp6]
       repeat ((first | refine wpOrd_pass rfl rfl ?_ | (refine wpOrd_free (v := ?_) rfl rfl (fun _ hS => ?_) ?_; rotate_left; focus (go_simp; try with_reducible rfl))); simp only [Act.put, zp1, zp2, zp3, zp4, zp5, zp6])
       refine wpOrd_act rfl rfl (fun K hK => ?_)
       go_simp
       refine hK _ _ ⟨?_, ?_⟩
       · (first | exact fun b o hb => Ext.cellOf (by repeat (first | (with_reducible first | exact Ext.refl _ | exact Ext.same _ _ _ _ | assumption | apply Ext.alloc | apply Ext.ext | apply Ext.drew) | (with_reducible refine Ext.setCell ?_ _ _ ?_; rotate_left; focus (first | omega | (simp only [zs1, zs2, zs3, size_ext]; omega))))) hb | (intro b o hb; (try simp only [size_ext, zs1, zs2, zs3] at hb); go_simp; try rfl))
       clear hK K
       try simp only [Act.put, zp1, zp2, zp3, zp4, zp5, zp6]
       refine wpOrd_nil ?_
      all_goals
        go_wp2_with (go_at_call 30; refine (Mod_any _ _ (by omega) (by omega) _).mono ?_; rintro e w1 ⟨rfl, rfl⟩)
        refine wp_region_ord (.f 0 (.f 2 (.f 3 (.f 4 (.k 1 (.a 5 (.f 6 (.f 7 (.a 8 .d)))) 5 (.a 1 (.f 6 (.f 7 (.a 8 .d))))))))) (Ext ((w.alloc (.cells #[.slice A n c] 38)).alloc (.cells #[.int .i64 a0, .int .i64 a1, .int .i64 a2, .int .i64 a3, .int .i64 a4, .int .i64 a5, .int .i64 a6, .string t] 72))) (by kernel_rfl) (by kernel_rfl) (by repeat (first | (with_reducible first | exact Ext.refl _ | exact Ext.same _ _ _ _ | assumption | apply Ext.alloc | apply Ext.ext | apply Ext.drew) | (with_reducible refine Ext.setCell ?_ _ _ ?_; rotate_left; focus (first | omega | (simp only [zs1, zs2, zs3, size_ext]; omega))) | (with_reducible refine Ext.trans ?_ (by assumption)))) ?_
        repeat ((first | refine wpOrd_pass rfl rfl ?_ | (refine wpOrd_free (v := ?_) rfl rfl (fun _ hS => ?_) ?_; rotate_left; focus (obtain ⟨E9, d9, rfl⟩ := hS; go_simp; try with_reducible rfl))); simp only [Act.put, zp1, zp2, zp3, zp4, zp5, zp6])
        refine wpOrd_fork ?_ ?_
        focus
         refine wpOrd_act rfl rfl (fun K hK => ?_)
         go_simp
         refine hK _ _ ⟨?_, ?_⟩
         · exact (by repeat (first | (with_reducible first | exact Ext.refl _ | exact Ext.same _ _ _ _ | assumption | apply Ext.alloc | apply Ext.ext | apply Ext.drew) | (with_reducible refine Ext.setCell ?_ _ _ ?_; rotate_left; focus (first | omega | (simp only [zs1, zs2, zs3, size_ext]; omega))) | (with_reducible refine Ext.trans ?_ (by assumption))))
         clear hK K
         try simp only [Act.put, zp1, zp2, zp3, zp4, zp5, zp6]
         refine wpOrd_call rfl rfl rfl Try.call30 (fun R hR => ?_)
         go_simp
         refine (Mod_any _ _ (by omega) (by omega) _).mono ?_
         rintro e w1 ⟨rfl, rfl⟩
         refine hR _ _ ⟨_, rfl, ?_, ?_⟩
         · exact (by repeat (first | (with_reducible first | exact Ext.refl _ | exact Ext.same _ _ _ _ | assumption | apply Ext.alloc | apply Ext.ext | apply Ext.drew) | (with_reducible refine Ext.setCell ?_ _ _ ?_; rotate_left; focus (first | omega | (simp only [zs1, zs2, zs3, size_ext]; omega))) | (with_reducible refine Ext.trans ?_ (by assumption))))
         clear hR R
         simp only [Act.put, zp1, zp2, zp3, zp4, zp5, zp6]
         repeat ((first | refine wpOrd_pass rfl rfl ?_ | (refine wpOrd_free (v := ?_) rfl rfl (fun _ hS => ?_) ?_; rotate_left; focus (obtain ⟨E9, d9, rfl⟩ := hS; go_simp; try with_reducible rfl))); simp only [Act.put, zp1, zp2, zp3, zp4, zp5, zp6])
         refine wpOrd_act rfl rfl (fun K hK => ?_)
         go_simp
         refine hK _ _ ⟨?_, ?_⟩
         · exact (by repeat (first | (with_reducible first | exact Ext.refl _ | exact Ext.same _ _ _ _ | assumption | apply Ext.alloc | apply Ext.ext | apply Ext.drew) | (with_reducible refine Ext.setCell ?_ _ _ ?_; rotate_left; focus (first | omega | (simp only [zs1, zs2, zs3, size_ext]; omega))) | (with_reducible refine Ext.trans ?_ (by assumption))))
         clear hK K
         try simp only [Act.put, zp1, zp2, zp3, zp4, zp5, zp6]
         refine wpOrd_nil ?_
        rotate_right
        focus
         refine wpOrd_call rfl rfl rfl Try.call30 (fun R hR => ?_)
         go_simp
         refine (Mod_any _ _ (by omega) (by omega) _).mono ?_
         rintro e w1 ⟨rfl, rfl⟩
         refine hR _ _ ⟨_, rfl, ?_, ?_⟩
         · exact (by repeat (first | (with_reducible first | exact Ext.refl _ | exact Ext.same _ _ _ _ | assumption | apply Ext.alloc | apply Ext.ext | apply Ext.drew) | (with_reducible refine Ext.setCell ?_ _ _ ?_; rotate_left; focus (first | omega | (simp only [zs1, zs2, zs3, size_ext]; omega))) | (with_reducible refine Ext.trans ?_ (by assumption))))
         clear hR R
         simp only [Act.put, zp1, zp2, zp3, zp4, zp5, zp6]
         refine wpOrd_act rfl rfl (fun K hK => ?_)
         go_simp
         refine hK _ _ ⟨?_, ?_⟩
         · exact (by repeat (first | (with_reducible first | exact Ext.refl _ | exact Ext.same _ _ _ _ | assumption | apply Ext.alloc | apply Ext.ext | apply Ext.drew) | (with_reducible refine Ext.setCell ?_ _ _ ?_; rotate_left; focus (first | omega | (simp only [zs1, zs2, zs3, size_ext]; omega))) | (with_reducible refine Ext.trans ?_ (by assumption))))
         clear hK K
         try simp only [Act.put, zp1, zp2, zp3, zp4, zp5, zp6]
         repeat ((first | refine wpOrd_pass rfl rfl ?_ | (refine wpOrd_free (v := ?_) rfl rfl (fun _ hS => ?_) ?_; rotate_left; focus (obtain ⟨E9, d9, rfl⟩ := hS; go_simp; try with_reducible rfl))); simp only [Act.put, zp1, zp2, zp3, zp4, zp5, zp6])
         refine wpOrd_act rfl rfl (fun K hK => ?_)
         go_simp
         refine hK _ _ ⟨?_, ?_⟩
         · exact (by repeat (first | (with_reducible first | exact Ext.refl _ | exact Ext.same _ _ _ _ | assumption | apply Ext.alloc | apply Ext.ext | apply Ext.drew) | (with_reducible refine Ext.setCell ?_ _ _ ?_; rotate_left; focus (first | omega | (simp only [zs1, zs2, zs3, size_ext]; omega))) | (with_reducible refine Ext.trans ?_ (by assumption))))
         clear hK K
         try simp only [Act.put, zp1, zp2, zp3, zp4, zp5, zp6]
         refine wpOrd_nil ?_
        all_goals
          go_wp2_with (go_at_call 30; refine (Mod_any _ _ (by omega) (by omega) _).mono ?_; rintro e w1 ⟨rfl, rfl⟩)
          refine bodyPost_ret (v := recV ⟨a0 % 4, nextN l (a0 % 4), 1, a0 % 4 + 9 * (a2 % 2), a3 % 60, a4 % 60, 0, 0, a5 % 4, a3 % 60 + a6 % 12, noText⟩) (by simp [results, Try.results66, go_sem, noText]) rfl ?_
          exact ⟨by rw [HR.out, HS.out], (by repeat (first | (with_reducible first | exact Ext.refl _ | exact Ext.same _ _ _ _ | assumption | apply Ext.alloc | apply Ext.ext | apply Ext.drew) | (with_reducible refine Ext.setCell ?_ _ _ ?_; rotate_left; focus (first | omega | (simp only [zs1, zs2, zs3, size_ext]; omega)))))⟩
  · by_cases k0 : a1 % 6 = 0
    · by_cases hN : 0 < nextN l (a0 % 4)
      · have HR := hid (HA k0 hN)
        clear HA HB HC
        obtain ⟨N, hNN⟩ : ∃ N, nextN l (a0 % 4) = N := ⟨_, rfl⟩
        rw [hNN] at N0 N1 hN
        go_enter Try.func66, Try.ntmps66
        go_wp2_with (go_at_call 30; refine (Mod_any _ _ (by omega) (by omega) _).mono ?_; rintro e w1 ⟨rfl, rfl⟩)
        refine wp_region_ord_same (.f 0 (.f 1 (.f 2 (.f 5 (.f 6 (.f 7 (.k 3 (.f 4 (.k 8 (.f 9 (.a 10 (.a 11 .d))) 10 (.a 8 (.f 9 (.a 11 .d))))) 10 (.a 3 (.f 4 (.a 8 (.f 9 (.a 11 .d)))))))))))) (by kernel_rfl) (by kernel_rfl) ?_
        repeat ((first | refine wpOrd_pass rfl rfl ?_ | (refine wpOrd_free (v := ?_) rfl rfl (fun _ hS => ?_) ?_; rotate_left; focus (go_simp; try with_reducible rfl))); simp only [Act.put, zp1, zp2, zp3, zp4, zp5, zp6])
        refine wpOrd_fork ?_ ?_
        focus
         refine wpOrd_call rfl rfl rfl Try.call64 (fun R hR => ?_)
         go_simp
         refine (rnext_any _ _ _ _ _ (by first | rfl | assumption) (by omega) (by assumption) _ (by with_reducible repeat (first | assumption | apply Recs.ext | apply Recs.alloc | apply Recs.drew | (refine Recs.of_ext ?_ (by assumption))))).mono ?_
         rintro e w1 ⟨rfl, E1, d1, rfl⟩
         refine hR _ _ ⟨_, rfl, ?_, ?_⟩
         · (first | exact fun b o hb => Ext.cellOf (by repeat (first | (with_reducible first | exact Ext.refl _ | exact Ext.same _ _ _ _ | assumption | apply Ext.alloc | apply Ext.ext | apply Ext.drew) | (with_reducible refine Ext.setCell ?_ _ _ ?_; rotate_left; focus (first | omega | (simp only [zs1, zs2, zs3, size_ext]; omega))))) hb | (intro b o hb; (try simp only [size_ext, zs1, zs2, zs3] at hb); go_simp; try rfl))
         clear hR R
         simp only [Act.put, zp1, zp2, zp3, zp4, zp5, zp6]
         repeat ((first | refine wpOrd_pass rfl rfl ?_ | (refine wpOrd_free (v := ?_) rfl rfl (fun _ hS => ?_) ?_; rotate_left; focus (go_simp; try with_reducible rfl))); simp only [Act.put, zp1, zp2, zp3, zp4, zp5, zp6])
         refine wpOrd_fork ?_ ?_
         focus
          refine wpOrd_call rfl rfl rfl Try.call30 (fun R hR => ?_)
          go_simp
          refine (Mod_any _ _ (by omega) (by omega) _).mono ?_
          rintro e w1 ⟨rfl, rfl⟩
          refine hR _ _ ⟨_, rfl, ?_, ?_⟩
          · (first | exact fun b o hb => Ext.cellOf (by repeat (first | (with_reducible first | exact Ext.refl _ | exact Ext.same _ _ _ _ | assumption | apply Ext.alloc | apply Ext.ext | apply Ext.drew) | (with_reducible refine Ext.setCell ?_ _ _ ?_; rotate_left; focus (first | omega | (simp only [zs1, zs2, zs3, size_ext]; omega))))) hb | (intro b o hb; (try simp only [size_ext, zs1, zs2, zs3] at hb); go_simp; try rfl))
          clear hR R
          simp only [Act.put, zp1, zp2, zp3, zp4, zp5, zp6]
          repeat ((first | refine wpOrd_pass rfl rfl ?_ | (refine wpOrd_free (v := ?_) rfl rfl (fun _ hS => ?_) ?_; rotate_left; focus (go_simp; try with_reducible rfl))); simp only [Act.put, zp1, zp2, zp3, zp4, zp5, zp6])
          refine wpOrd_act rfl rfl (fun K hK => ?_)
          go_simp
          refine hK _ _ ⟨?_, ?_⟩
          · (first | exact fun b o hb => Ext.cellOf (by repeat (first | (with_reducible first | exact Ext.refl _ | exact Ext.same _ _ _ _ | assumption | apply Ext.alloc | apply Ext.ext | apply Ext.drew) | (with_reducible refine Ext.setCell ?_ _ _ ?_; rotate_left; focus (first | omega | (simp only [zs1, zs2, zs3, size_ext]; omega))))) hb | (intro b o hb; (try simp only [size_ext, zs1, zs2, zs3] at hb); go_simp; try rfl))
          clear hK K
          try simp only [Act.put, zp1, zp2, zp3, zp4, zp5, zp6]
          refine wpOrd_act rfl rfl (fun K hK => ?_)
          go_simp
          refine hK _ _ ⟨?_, ?_⟩
          · (first | exact fun b o hb => Ext.cellOf (by repeat (first | (with_reducible first | exact Ext.refl _ | exact Ext.same _ _ _ _ | assumption | apply Ext.alloc | apply Ext.ext | apply Ext.drew) | (with_reducible refine Ext.setCell ?_ _ _ ?_; rotate_left; focus (first | omega | (simp only [zs1, zs2, zs3, size_ext]; omega))))) hb | (intro b o hb; (try simp only [size_ext, zs1, zs2, zs3] at hb); go_simp; try rfl))
          clear hK K
          try simp only [Act.put, zp1, zp2, zp3, zp4, zp5, zp6]
          refine wpOrd_nil ?_
         rotate_right
         focus
          refine wpOrd_act rfl rfl (fun K hK => ?_)
          go_simp
          refine hK _ _ ⟨?_, ?_⟩
          · (first | exact fun b o hb => Ext.cellOf (by repeat (first | (with_reducible first | exact Ext.refl _ | exact Ext.same _ _ _ _ | assumption | apply Ext.alloc | apply Ext.ext | apply Ext.drew) | (with_reducible refine Ext.setCell ?_ _ _ ?_; rotate_left; focus (first | omega | (simp only [zs1, zs2, zs3, size_ext]; omega))))) hb | (intro b o hb; (try simp only [size_ext, zs1, zs2, zs3] at hb); go_simp; try rfl))
          clear hK K
          try simp only [Act.put, zp1, zp2, zp3, zp4, zp5, zp6]
          refine wpOrd_call rfl rfl rfl Try.call30 (fun R hR => ?_)
          go_simp
          refine (Mod_any _ _ (by omega) (by omega) _).mono ?_
          rintro e w1 ⟨rfl, rfl⟩
          refine hR _ _ ⟨_, rfl, ?_, ?_⟩
          · (first | exact fun b o hb => Ext.cellOf (by repeat (first | (with_reducible first | exact Ext.refl _ | exact Ext.same _ _ _ _ | assumption | apply Ext.alloc | apply Ext.ext | apply Ext.drew) | (with_reducible refine Ext.setCell ?_ _ _ ?_; rotate_left; focus (first | omega | (simp only [zs1, zs2, zs3, size_ext]; omega))))) hb | (intro b o hb; (try simp only [size_ext, zs1, zs2, zs3] at hb); go_simp; try rfl))
          clear hR R
          simp only [Act.put, zp1, zp2, zp3, zp4, zp5, zp6]
          repeat ((first | refine wpOrd_pass rfl rfl ?_ | (refine wpOrd_free (v := ?_) rfl rfl (fun _ hS => ?_) ?_; rotate_left; focus (go_simp; try with_reducible rfl))); simp only [Act.put, zp1, zp2, zp3, zp4, zp5, zp6])
          refine wpOrd_act rfl rfl (fun K hK => ?_)
          go_simp
          refine hK _ _ ⟨?_, ?_⟩
          · (first | exact fun b o hb => Ext.cellOf (by repeat (first | (with_reducible first | exact Ext.refl _ | exact Ext.same _ _ _ _ | assumption | apply Ext.alloc | apply Ext.ext | apply Ext.drew) | (with_reducible refine Ext.setCell ?_ _ _ ?_; rotate_left; focus (first | omega | (simp only [zs1, zs2, zs3, size_ext]; omega))))) hb | (intro b o hb; (try simp only [size_ext, zs1, zs2, zs3] at hb); go_simp; try rfl))
          clear hK K
          try simp only [Act.put, zp1, zp2, zp3, zp4, zp5, zp6]
          refine wpOrd_nil ?_
        rotate_right
        focus
         refine wpOrd_act rfl rfl (fun K hK => ?_)
         go_simp
         refine hK _ _ ⟨?_, ?_⟩
         · (first | exact fun b o hb => Ext.cellOf (by repeat (first | (with_reducible first | exact Ext.refl _ | exact Ext.same _ _ _ _ | assumption | apply Ext.alloc | apply Ext.ext | apply Ext.drew) | (with_reducible refine Ext.setCell ?_ _ _ ?_; rotate_left; focus (first | omega | (simp only [zs1, zs2, zs3, size_ext]; omega))))) hb | (intro b o hb; (try simp only [size_ext, zs1, zs2, zs3] at hb); go_simp; try rfl))
         clear hK K
         try simp only [Act.put, zp1, zp2, zp3, zp4, zp5, zp6]
         refine wpOrd_call rfl rfl rfl Try.call64 (fun R hR => ?_)
         go_simp
         refine (rnext_any _ _ _ _ _ (by first | rfl | assumption) (by omega) (by assumption) _ (by with_reducible repeat (first | assumption | apply Recs.ext | apply Recs.alloc | apply Recs.drew | (refine Recs.of_ext ?_ (by assumption))))).mono ?_
         rintro e w1 ⟨rfl, E4, d4, rfl⟩
         refine hR _ _ ⟨_, rfl, ?_, ?_⟩
         · (first | exact fun b o hb => Ext.cellOf (by repeat (first | (with_reducible first | exact Ext.refl _ | exact Ext.same _ _ _ _ | assumption | apply Ext.alloc | apply Ext.ext | apply Ext.drew) | (with_reducible refine Ext.setCell ?_ _ _ ?_; rotate_left; focus (first | omega | (simp only [zs1, zs2, zs3, size_ext]; omega))))) hb | (intro b o hb; (try simp only [size_ext, zs1, zs2, zs3] at hb); go_simp; try rfl))
         clear hR R
         simp only [Act.put, zp1, zp2, zp3, zp4, zp5, zp6]
         repeat ((first | refine wpOrd_pass rfl rfl ?_ | (refine wpOrd_free (v := ?_) rfl rfl (fun _ hS => ?_) ?_; rotate_left; focus (go_simp; try with_reducible rfl))); simp only [Act.put, zp1, zp2, zp3, zp4, zp5, zp6])
         refine wpOrd_call rfl rfl rfl Try.call30 (fun R hR => ?_)
         go_simp
         refine (Mod_any _ _ (by omega) (by omega) _).mono ?_
         rintro e w1 ⟨rfl, rfl⟩
         refine hR _ _ ⟨_, rfl, ?_, ?_⟩
         · (first | exact fun b o hb => Ext.cellOf (by repeat (first | (with_reducible first | exact Ext.refl _ | exact Ext.same _ _ _ _ | assumption | apply Ext.alloc | apply Ext.ext | apply Ext.drew) | (with_reducible refine Ext.setCell ?_ _ _ ?_; rotate_left; focus (first | omega | (simp only [zs1, zs2, zs3, size_ext]; omega))))) hb | (intro b o hb; (try simp only [size_ext, zs1, zs2, zs3] at hb); go_simp; try rfl))
         clear hR R
         simp only [Act.put, zp1, zp2, zp3, zp4, zp5, zp6]
         repeat ((first | refine wpOrd_pass rfl rfl ?_ | (refine wpOrd_free (v := ?_) rfl rfl (fun _ hS => ?_) ?_; rotate_left; focus (go_simp; try with_reducible rfl))); simp only [Act.put, zp1, zp2, zp3, zp4, zp5, zp6])
         refine wpOrd_act rfl rfl (fun K hK => ?_)
         go_simp
         refine hK _ _ ⟨?_, ?_⟩
         · (first | exact fun b o hb => Ext.cellOf (by repeat (first | (with_reducible first | exact Ext.refl _ | exact Ext.same _ _ _ _ | assumption | apply Ext.alloc | apply Ext.ext | apply Ext.drew) | (with_reducible refine Ext.setCell ?_ _ _ ?_; rotate_left; focus (first | omega | (simp only [zs1, zs2, zs3, size_ext]; omega))))) hb | (intro b o hb; (try simp only [size_ext, zs1, zs2, zs3] at hb); go_simp; try rfl))
         clear hK K
         try simp only [Act.put, zp1, zp2, zp3, zp4, zp5, zp6]
         refine wpOrd_nil ?_
        all_goals
          go_wp2_with (go_at_call 30; refine (Mod_any _ _ (by omega) (by omega) _).mono ?_; rintro e w1 ⟨rfl, rfl⟩)
          refine bodyPost_ret (v := recV ⟨a0 % 4, N, 0, 0, 0, a4 % 60, a0 % 4, a5 % N, 0, 0, noText⟩) (by simp [results, Try.results66, go_sem, noText]) rfl ?_
          exact ⟨by rw [HR.out, hNN], (by repeat (first | (with_reducible first | exact Ext.refl _ | exact Ext.same _ _ _ _ | assumption | apply Ext.alloc | apply Ext.ext | apply Ext.drew) | (with_reducible refine Ext.setCell ?_ _ _ ?_; rotate_left; focus (first | omega | (simp only [zs1, zs2, zs3, size_ext]; omega)))))⟩
      · have HR := hid (HC (fun h => hN h.2) k1)
        have hN0 : nextN l (a0 % 4) = 0 := by omega
        clear HA HB HC
        go_enter Try.func66, Try.ntmps66
        go_wp2_with (go_at_call 30; refine (Mod_any _ _ (by omega) (by omega) _).mono ?_; rintro e w1 ⟨rfl, rfl⟩)
        refine wp_region_ord_same (.f 0 (.f 1 (.f 2 (.f 5 (.f 6 (.f 7 (.k 3 (.f 4 (.k 8 (.f 9 (.a 10 (.a 11 .d))) 10 (.a 8 (.f 9 (.a 11 .d))))) 10 (.a 3 (.f 4 (.a 8 (.f 9 (.a 11 .d)))))))))))) (by kernel_rfl) (by kernel_rfl) ?_
        repeat ((first | refine wpOrd_pass rfl rfl ?_ | (refine wpOrd_free (v := ?_) rfl rfl (fun _ hS => ?_) ?_; rotate_left; focus (go_simp; try with_reducible rfl))); simp only [Act.put, zp1, zp2, zp3, zp4, zp5, zp6])
        refine wpOrd_fork ?_ ?_
        focus
         refine wpOrd_call rfl rfl rfl Try.call64 (fun R hR => ?_)
         go_simp
         refine (rnext_any _ _ _ _ _ (by first | rfl | assumption) (by omega) (by assumption) _ (by with_reducible repeat (first | assumption | apply Recs.ext | apply Recs.alloc | apply Recs.drew | (refine Recs.of_ext ?_ (by assumption))))).mono ?_
         rintro e w1 ⟨rfl, E1, d1, rfl⟩
         refine hR _ _ ⟨_, rfl, ?_, ?_⟩
         · (first | exact fun b o hb => Ext.cellOf (by repeat (first | (with_reducible first | exact Ext.refl _ | exact Ext.same _ _ _ _ | assumption | apply Ext.alloc | apply Ext.ext | apply Ext.drew) | (with_reducible refine Ext.setCell ?_ _ _ ?_; rotate_left; focus (first | omega | (simp only [zs1, zs2, zs3, size_ext]; omega))))) hb | (intro b o hb; (try simp only [size_ext, zs1, zs2, zs3] at hb); go_simp; try rfl))
         clear hR R
         simp only [Act.put, zp1, zp2, zp3, zp4, zp5, zp6]
         repeat ((first | refine wpOrd_pass rfl rfl ?_ | (refine wpOrd_free (v := ?_) rfl rfl (fun _ hS => ?_) ?_; rotate_left; focus (go_simp; try with_reducible rfl))); simp only [Act.put, zp1, zp2, zp3, zp4, zp5, zp6])
         refine wpOrd_fork ?_ ?_
         focus
          refine wpOrd_call rfl rfl rfl Try.call30 (fun R hR => ?_)
          go_simp
          refine (Mod_any _ _ (by omega) (by omega) _).mono ?_
          rintro e w1 ⟨rfl, rfl⟩
          refine hR _ _ ⟨_, rfl, ?_, ?_⟩
          · (first | exact fun b o hb => Ext.cellOf (by repeat (first | (with_reducible first | exact Ext.refl _ | exact Ext.same _ _ _ _ | assumption | apply Ext.alloc | apply Ext.ext | apply Ext.drew) | (with_reducible refine Ext.setCell ?_ _ _ ?_; rotate_left; focus (first | omega | (simp only [zs1, zs2, zs3, size_ext]; omega))))) hb | (intro b o hb; (try simp only [size_ext, zs1, zs2, zs3] at hb); go_simp; try rfl))
          clear hR R
          simp only [Act.put, zp1, zp2, zp3, zp4, zp5, zp6]
          repeat ((first | refine wpOrd_pass rfl rfl ?_ | (refine wpOrd_free (v := ?_) rfl rfl (fun _ hS => ?_) ?_; rotate_left; focus (go_simp; try with_reducible rfl))); simp only [Act.put, zp1, zp2, zp3, zp4, zp5, zp6])
          refine wpOrd_act rfl rfl (fun K hK => ?_)
          go_simp
          refine hK _ _ ⟨?_, ?_⟩
          · (first | exact fun b o hb => Ext.cellOf (by repeat (first | (with_reducible first | exact Ext.refl _ | exact Ext.same _ _ _ _ | assumption | apply Ext.alloc | apply Ext.ext | apply Ext.drew) | (with_reducible refine Ext.setCell ?_ _ _ ?_; rotate_left; focus (first | omega | (simp only [zs1, zs2, zs3, size_ext]; omega))))) hb | (intro b o hb; (try simp only [size_ext, zs1, zs2, zs3] at hb); go_simp; try rfl))
          clear hK K
          try simp only [Act.put, zp1, zp2, zp3, zp4, zp5, zp6]
          refine wpOrd_act rfl rfl (fun K hK => ?_)
          go_simp
          refine hK _ _ ⟨?_, ?_⟩
          · (first | exact fun b o hb => Ext.cellOf (by repeat (first | (with_reducible first | exact Ext.refl _ | exact Ext.same _ _ _ _ | assumption | apply Ext.alloc | apply Ext.ext | apply Ext.drew) | (with_reducible refine Ext.setCell ?_ _ _ ?_; rotate_left; focus (first | omega | (simp only [zs1, zs2, zs3, size_ext]; omega))))) hb | (intro b o hb; (try simp only [size_ext, zs1, zs2, zs3] at hb); go_simp; try rfl))
          clear hK K
          try simp only [Act.put, zp1, zp2, zp3, zp4, zp5, zp6]
          refine wpOrd_nil ?_
         rotate_right
         focus
          refine wpOrd_act rfl rfl (fun K hK => ?_)
          go_simp
          refine hK _ _ ⟨?_, ?_⟩
          · (first | exact fun b o hb => Ext.cellOf (by repeat (first | (with_reducible first | exact Ext.refl _ | exact Ext.same _ _ _ _ | assumption | apply Ext.alloc | apply Ext.ext | apply Ext.drew) | (with_reducible refine Ext.setCell ?_ _ _ ?_; rotate_left; focus (first | omega | (simp only [zs1, zs2, zs3, size_ext]; omega))))) hb | (intro b o hb; (try simp only [size_ext, zs1, zs2, zs3] at hb); go_simp; try rfl))
          clear hK K
          try simp only [Act.put, zp1, zp2, zp3, zp4, zp5, zp6]
          refine wpOrd_call rfl rfl rfl Try.call30 (fun R hR => ?_)
          go_simp
          refine (Mod_any _ _ (by omega) (by omega) _).mono ?_
          rintro e w1 ⟨rfl, rfl⟩
          refine hR _ _ ⟨_, rfl, ?_, ?_⟩
          · (first | exact fun b o hb => Ext.cellOf (by repeat (first | (with_reducible first | exact Ext.refl _ | exact Ext.same _ _ _ _ | assumption | apply Ext.alloc | apply Ext.ext | apply Ext.drew) | (with_reducible refine Ext.setCell ?_ _ _ ?_; rotate_left; focus (first | omega | (simp only [zs1, zs2, zs3, size_ext]; omega))))) hb | (intro b o hb; (try simp only [size_ext, zs1, zs2, zs3] at hb); go_simp; try rfl))
          clear hR R
          simp only [Act.put, zp1, zp2, zp3, zp4, zp5, zp6]
          repeat ((first | refine wpOrd_pass rfl rfl ?_ | (refine wpOrd_free (v := ?_) rfl rfl (fun _ hS => ?_) ?_; rotate_left; focus (go_simp; try with_reducible rfl))); simp only [Act.put, zp1, zp2, zp3, zp4, zp5, zp6])
          refine wpOrd_act rfl rfl (fun K hK => ?_)
          go_simp
          refine hK _ _ ⟨?_, ?_⟩
          · (first | exact fun b o hb => Ext.cellOf (by repeat (first | (with_reducible first | exact Ext.refl _ | exact Ext.same _ _ _ _ | assumption | apply Ext.alloc | apply Ext.ext | apply Ext.drew) | (with_reducible refine Ext.setCell ?_ _ _ ?_; rotate_left; focus (first | omega | (simp only [zs1, zs2, zs3, size_ext]; omega))))) hb | (intro b o hb; (try simp only [size_ext, zs1, zs2, zs3] at hb); go_simp; try rfl))
          clear hK K
          try simp only [Act.put, zp1, zp2, zp3, zp4, zp5, zp6]
          refine wpOrd_nil ?_
        rotate_right
        focus
         refine wpOrd_act rfl rfl (fun K hK => ?_)
         go_simp
         refine hK _ _ ⟨?_, ?_⟩
         · (first | exact fun b o hb => Ext.cellOf (by repeat (first | (with_reducible first | exact Ext.refl _ | exact Ext.same _ _ _ _ | assumption | apply Ext.alloc | apply Ext.ext | apply Ext.drew) | (with_reducible refine Ext.setCell ?_ _ _ ?_; rotate_left; focus (first | omega | (simp only [zs1, zs2, zs3, size_ext]; omega))))) hb | (intro b o hb; (try simp only [size_ext, zs1, zs2, zs3] at hb); go_simp; try rfl))
         clear hK K
         try simp only [Act.put, zp1, zp2, zp3, zp4, zp5, zp6]
         refine wpOrd_call rfl rfl rfl Try.call64 (fun R hR => ?_)
         go_simp
         refine (rnext_any _ _ _ _ _ (by first | rfl | assumption) (by omega) (by assumption) _ (by with_reducible repeat (first | assumption | apply Recs.ext | apply Recs.alloc | apply Recs.drew | (refine Recs.of_ext ?_ (by assumption))))).mono ?_
         rintro e w1 ⟨rfl, E4, d4, rfl⟩
         refine hR _ _ ⟨_, rfl, ?_, ?_⟩
         · (first | exact fun b o hb => Ext.cellOf (by repeat (first | (with_reducible first | exact Ext.refl _ | exact Ext.same _ _ _ _ | assumption | apply Ext.alloc | apply Ext.ext | apply Ext.drew) | (with_reducible refine Ext.setCell ?_ _ _ ?_; rotate_left; focus (first | omega | (simp only [zs1, zs2, zs3, size_ext]; omega))))) hb | (intro b o hb; (try simp only [size_ext, zs1, zs2, zs3] at hb); go_simp; try rfl))
         clear hR R
         simp only [Act.put, zp1, zp2, zp3, zp4, zp5, zp6]
         repeat ((first | refine wpOrd_pass rfl rfl ?_ | (refine wpOrd_free (v := ?_) rfl rfl (fun _ hS => ?_) ?_; rotate_left; focus (go_simp; try with_reducible rfl))); simp only [Act.put, zp1, zp2, zp3, zp4, zp5, zp6])
         refine wpOrd_call rfl rfl rfl Try.call30 (fun R hR => ?_)
         go_simp
         refine (Mod_any _ _ (by omega) (by omega) _).mono ?_
         rintro e w1 ⟨rfl, rfl⟩
         refine hR _ _ ⟨_, rfl, ?_, ?_⟩
         · (first | exact fun b o hb => Ext.cellOf (by repeat (first | (with_reducible first | exact Ext.refl _ | exact Ext.same _ _ _ _ | assumption | apply Ext.alloc | apply Ext.ext | apply Ext.drew) | (with_reducible refine Ext.setCell ?_ _ _ ?_; rotate_left; focus (first | omega | (simp only [zs1, zs2, zs3, size_ext]; omega))))) hb | (intro b o hb; (try simp only [size_ext, zs1, zs2, zs3] at hb); go_simp; try rfl))
         clear hR R
         simp only [Act.put, zp1, zp2, zp3, zp4, zp5, zp6]
         repeat ((first | refine wpOrd_pass rfl rfl ?_ | (refine wpOrd_free (v := ?_) rfl rfl (fun _ hS => ?_) ?_; rotate_left; focus (go_simp; try with_reducible rfl))); simp only [Act.put, zp1, zp2, zp3, zp4, zp5, zp6])
         refine wpOrd_act rfl rfl (fun K hK => ?_)
         go_simp
         refine hK _ _ ⟨?_, ?_⟩
         · (first | exact fun b o hb => Ext.cellOf (by repeat (first | (with_reducible first | exact Ext.refl _ | exact Ext.same _ _ _ _ | assumption | apply Ext.alloc | apply Ext.ext | apply Ext.drew) | (with_reducible refine Ext.setCell ?_ _ _ ?_; rotate_left; focus (first | omega | (simp only [zs1, zs2, zs3, size_ext]; omega))))) hb | (intro b o hb; (try simp only [size_ext, zs1, zs2, zs3] at hb); go_simp; try rfl))
         clear hK K
         try simp only [Act.put, zp1, zp2, zp3, zp4, zp5, zp6]
         refine wpOrd_nil ?_
        all_goals
          go_wp2_with (first | (go_at_call 30; refine (Mod_any _ _ (by omega) (by omega) _).mono ?_; rintro e w1 ⟨rfl, rfl⟩) | (go_at_call 102; refine (Shown40 _ (by first | omega | assumption) _).mono ?_; rintro e w1 ⟨rfl, E1, d1, rfl⟩))
          refine bodyPost_ret (v := recV ⟨a0 % 4, 0, 2 + a1 % 9, 1 + a2 % 20, a3 % 60, a4 % 60, 0, 0, 0, 0, shownT t 40⟩) (by simp [results, Try.results66, go_sem]) rfl ?_
          exact ⟨by rw [HR.out, hN0], (by repeat (first | (with_reducible first | exact Ext.refl _ | exact Ext.same _ _ _ _ | assumption | apply Ext.alloc | apply Ext.ext | apply Ext.drew) | (with_reducible refine Ext.setCell ?_ _ _ ?_; rotate_left; focus (first | omega | (simp only [zs1, zs2, zs3, size_ext]; omega)))))⟩
    · have HR := hid (HC (fun h => k0 h.1) k1)
      clear HA HB HC
      go_enter Try.func66, Try.ntmps66
      go_wp2_with (go_at_call 30; refine (Mod_any _ _ (by omega) (by omega) _).mono ?_; rintro e w1 ⟨rfl, rfl⟩)
      refine wp_region_ord_same (.f 0 (.f 1 (.f 2 (.f 5 (.f 6 (.f 7 (.k 3 (.f 4 (.k 8 (.f 9 (.a 10 (.a 11 .d))) 10 (.a 8 (.f 9 (.a 11 .d))))) 10 (.a 3 (.f 4 (.a 8 (.f 9 (.a 11 .d)))))))))))) (by kernel_rfl) (by kernel_rfl) ?_
      repeat ((first | refine wpOrd_pass rfl rfl ?_ | (refine wpOrd_free (v := ?_) rfl rfl (fun _ hS => ?_) ?_; rotate_left; focus (go_simp; try with_reducible rfl))); simp only [Act.put, zp1, zp2, zp3, zp4, zp5, zp6])
      refine wpOrd_fork ?_ ?_
      focus
       refine wpOrd_call rfl rfl rfl Try.call64 (fun R hR => ?_)
       go_simp
       refine (rnext_any _ _ _ _ _ (by first | rfl | assumption) (by omega) (by assumption) _ (by with_reducible repeat (first | assumption | apply Recs.ext | apply Recs.alloc | apply Recs.drew | (refine Recs.of_ext ?_ (by assumption))))).mono ?_
       rintro e w1 ⟨rfl, E1, d1, rfl⟩
       refine hR _ _ ⟨_, rfl, ?_, ?_⟩
       · (first | exact fun b o hb => Ext.cellOf (by repeat (first | (with_reducible first | exact Ext.refl _ | exact Ext.same _ _ _ _ | assumption | apply Ext.alloc | apply Ext.ext | apply Ext.drew) | (with_reducible refine Ext.setCell ?_ _ _ ?_; rotate_left; focus (first | omega | (simp only [zs1, zs2, zs3, size_ext]; omega))))) hb | (intro b o hb; (try simp only [size_ext, zs1, zs2, zs3] at hb); go_simp; try rfl))
       clear hR R
       simp only [Act.put, zp1, zp2, zp3, zp4, zp5, zp6]
       repeat ((first | refine wpOrd_pass rfl rfl ?_ | (refine wpOrd_free (v := ?_) rfl rfl (fun _ hS => ?_) ?_; rotate_left; focus (go_simp; try with_reducible rfl))); simp only [Act.put, zp1, zp2, zp3, zp4, zp5, zp6])
       refine wpOrd_fork ?_ ?_
       focus
        refine wpOrd_call rfl rfl rfl Try.call30 (fun R hR => ?_)
        go_simp
        refine (Mod_any _ _ (by omega) (by omega) _).mono ?_
        rintro e w1 ⟨rfl, rfl⟩
        refine hR _ _ ⟨_, rfl, ?_, ?_⟩
        · (first | exact fun b o hb => Ext.cellOf (by repeat (first | (with_reducible first | exact Ext.refl _ | exact Ext.same _ _ _ _ | assumption | apply Ext.alloc | apply Ext.ext | apply Ext.drew) | (with_reducible refine Ext.setCell ?_ _ _ ?_; rotate_left; focus (first | omega | (simp only [zs1, zs2, zs3, size_ext]; omega))))) hb | (intro b o hb; (try simp only [size_ext, zs1, zs2, zs3] at hb); go_simp; try rfl))
        clear hR R
        simp only [Act.put, zp1, zp2, zp3, zp4, zp5, zp6]
        repeat ((first | refine wpOrd_pass rfl rfl ?_ | (refine wpOrd_free (v := ?_) rfl rfl (fun _ hS => ?_) ?_; rotate_left; focus (go_simp; try with_reducible rfl))); simp only [Act.put, zp1, zp2, zp3, zp4, zp5, zp6])
        refine wpOrd_act rfl rfl (fun K hK => ?_)
        go_simp
        refine hK _ _ ⟨?_, ?_⟩
        · (first | exact fun b o hb => Ext.cellOf (by repeat (first | (with_reducible first | exact Ext.refl _ | exact Ext.same _ _ _ _ | assumption | apply Ext.alloc | apply Ext.ext | apply Ext.drew) | (with_reducible refine Ext.setCell ?_ _ _ ?_; rotate_left; focus (first | omega | (simp only [zs1, zs2, zs3, size_ext]; omega))))) hb | (intro b o hb; (try simp only [size_ext, zs1, zs2, zs3] at hb); go_simp; try rfl))
        clear hK K
        try simp only [Act.put, zp1, zp2, zp3, zp4, zp5, zp6]
        refine wpOrd_act rfl rfl (fun K hK => ?_)
        go_simp
        refine hK _ _ ⟨?_, ?_⟩
        · (first | exact fun b o hb => Ext.cellOf (by repeat (first | (with_reducible first | exact Ext.refl _ | exact Ext.same _ _ _ _ | assumption | apply Ext.alloc | apply Ext.ext | apply Ext.drew) | (with_reducible refine Ext.setCell ?_ _ _ ?_; rotate_left; focus (first | omega | (simp only [zs1, zs2, zs3, size_ext]; omega))))) hb | (intro b o hb; (try simp only [size_ext, zs1, zs2, zs3] at hb); go_simp; try rfl))
        clear hK K
        try simp only [Act.put, zp1, zp2, zp3, zp4, zp5, zp6]
        refine wpOrd_nil ?_
       rotate_right
       focus
        refine wpOrd_act rfl rfl (fun K hK => ?_)
        go_simp
        refine hK _ _ ⟨?_, ?_⟩
        · (first | exact fun b o hb => Ext.cellOf (by repeat (first | (with_reducible first | exact Ext.refl _ | exact Ext.same _ _ _ _ | assumption | apply Ext.alloc | apply Ext.ext | apply Ext.drew) | (with_reducible refine Ext.setCell ?_ _ _ ?_; rotate_left; focus (first | omega | (simp only [zs1, zs2, zs3, size_ext]; omega))))) hb | (intro b o hb; (try simp only [size_ext, zs1, zs2, zs3] at hb); go_simp; try rfl))
        clear hK K
        try simp only [Act.put, zp1, zp2, zp3, zp4, zp5, zp6]
        refine wpOrd_call rfl rfl rfl Try.call30 (fun R hR => ?_)
        go_simp
        refine (Mod_any _ _ (by omega) (by omega) _).mono ?_
        rintro e w1 ⟨rfl, rfl⟩
        refine hR _ _ ⟨_, rfl, ?_, ?_⟩
        · (first | exact fun b o hb => Ext.cellOf (by repeat (first | (with_reducible first | exact Ext.refl _ | exact Ext.same _ _ _ _ | assumption | apply Ext.alloc | apply Ext.ext | apply Ext.drew) | (with_reducible refine Ext.setCell ?_ _ _ ?_; rotate_left; focus (first | omega | (simp only [zs1, zs2, zs3, size_ext]; omega))))) hb | (intro b o hb; (try simp only [size_ext, zs1, zs2, zs3] at hb); go_simp; try rfl))
        clear hR R
        simp only [Act.put, zp1, zp2, zp3, zp4, zp5, zp6]
        repeat ((first | refine wpOrd_pass rfl rfl ?_ | (refine wpOrd_free (v := ?_) rfl rfl (fun _ hS => ?_) ?_; rotate_left; focus (go_simp; try with_reducible rfl))); simp only [Act.put, zp1, zp2, zp3, zp4, zp5, zp6])
        refine wpOrd_act rfl rfl (fun K hK => ?_)
        go_simp
        refine hK _ _ ⟨?_, ?_⟩
        · (first | exact fun b o hb => Ext.cellOf (by repeat (first | (with_reducible first | exact Ext.refl _ | exact Ext.same _ _ _ _ | assumption | apply Ext.alloc | apply Ext.ext | apply Ext.drew) | (with_reducible refine Ext.setCell ?_ _ _ ?_; rotate_left; focus (first | omega | (simp only [zs1, zs2, zs3, size_ext]; omega))))) hb | (intro b o hb; (try simp only [size_ext, zs1, zs2, zs3] at hb); go_simp; try rfl))
        clear hK K
        try simp only [Act.put, zp1, zp2, zp3, zp4, zp5, zp6]
        refine wpOrd_nil ?_
      rotate_right
      focus
       refine wpOrd_act rfl rfl (fun K hK => ?_)
       go_simp
       refine hK _ _ ⟨?_, ?_⟩
       · (first | exact fun b o hb => Ext.cellOf (by repeat (first | (with_reducible first | exact Ext.refl _ | exact Ext.same _ _ _ _ | assumption | apply Ext.alloc | apply Ext.ext | apply Ext.drew) | (with_reducible refine Ext.setCell ?_ _ _ ?_; rotate_left; focus (first | omega | (simp only [zs1, zs2, zs3, size_ext]; omega))))) hb | (intro b o hb; (try simp only [size_ext, zs1, zs2, zs3] at hb); go_simp; try rfl))
       clear hK K
       try simp only [Act.put, zp1, zp2, zp3, zp4, zp5, zp6]
       refine wpOrd_call rfl rfl rfl Try.call64 (fun R hR => ?_)
       go_simp
       refine (rnext_any _ _ _ _ _ (by first | rfl | assumption) (by omega) (by assumption) _ (by with_reducible repeat (first | assumption | apply Recs.ext | apply Recs.alloc | apply Recs.drew | (refine Recs.of_ext ?_ (by assumption))))).mono ?_
       rintro e w1 ⟨rfl, E4, d4, rfl⟩
       refine hR _ _ ⟨_, rfl, ?_, ?_⟩
       · (first | exact fun b o hb => Ext.cellOf (by repeat (first | (with_reducible first | exact Ext.refl _ | exact Ext.same _ _ _ _ | assumption | apply Ext.alloc | apply Ext.ext | apply Ext.drew) | (with_reducible refine Ext.setCell ?_ _ _ ?_; rotate_left; focus (first | omega | (simp only [zs1, zs2, zs3, size_ext]; omega))))) hb | (intro b o hb; (try simp only [size_ext, zs1, zs2, zs3] at hb); go_simp; try rfl))
       clear hR R
       simp only [Act.put, zp1, zp2, zp3, zp4, zp5, zp6]
       repeat ((first | refine wpOrd_pass rfl rfl ?_ | (refine wpOrd_free (v := ?_) rfl rfl (fun _ hS => ?_) ?_; rotate_left; focus (go_simp; try with_reducible rfl))); simp only [Act.put, zp1, zp2, zp3, zp4, zp5, zp6])
       refine wpOrd_call rfl rfl rfl Try.call30 (fun R hR => ?_)
       go_simp
       refine (Mod_any _ _ (by omega) (by omega) _).mono ?_
       rintro e w1 ⟨rfl, rfl⟩
       refine hR _ _ ⟨_, rfl, ?_, ?_⟩
       · (first | exact fun b o hb => Ext.cellOf (by repeat (first | (with_reducible first | exact Ext.refl _ | exact Ext.same _ _ _ _ | assumption | apply Ext.alloc | apply Ext.ext | apply Ext.drew) | (with_reducible refine Ext.setCell ?_ _ _ ?_; rotate_left; focus (first | omega | (simp only [zs1, zs2, zs3, size_ext]; omega))))) hb | (intro b o hb; (try simp only [size_ext, zs1, zs2, zs3] at hb); go_simp; try rfl))
       clear hR R
       simp only [Act.put, zp1, zp2, zp3, zp4, zp5, zp6]
       repeat ((first | refine wpOrd_pass rfl rfl ?_ | (refine wpOrd_free (v := ?_) rfl rfl (fun _ hS => ?_) ?_; rotate_left; focus (go_simp; try with_reducible rfl))); simp only [Act.put, zp1, zp2, zp3, zp4, zp5, zp6])
       refine wpOrd_act rfl rfl (fun K hK => ?_)
       go_simp
       refine hK _ _ ⟨?_, ?_⟩
       · (first | exact fun b o hb => Ext.cellOf (by repeat (first | (with_reducible first | exact Ext.refl _ | exact Ext.same _ _ _ _ | assumption | apply Ext.alloc | apply Ext.ext | apply Ext.drew) | (with_reducible refine Ext.setCell ?_ _ _ ?_; rotate_left; focus (first | omega | (simp only [zs1, zs2, zs3, size_ext]; omega))))) hb | (intro b o hb; (try simp only [size_ext, zs1, zs2, zs3] at hb); go_simp; try rfl))
       clear hK K
       try simp only [Act.put, zp1, zp2, zp3, zp4, zp5, zp6]
       refine wpOrd_nil ?_
      all_goals
        go_wp2_with (first | (go_at_call 30; refine (Mod_any _ _ (by omega) (by omega) _).mono ?_; rintro e w1 ⟨rfl, rfl⟩) | (go_at_call 102; refine (Shown40 _ (by first | omega | assumption) _).mono ?_; rintro e w1 ⟨rfl, E1, d1, rfl⟩))
        refine bodyPost_ret (v := recV ⟨a0 % 4, nextN l (a0 % 4), 2 + a1 % 9, 1 + a2 % 20, a3 % 60, a4 % 60, 0, 0, 0, 0, shownT t 40⟩) (by simp [results, Try.results66, go_sem]) rfl ?_
        exact ⟨by rw [HR.out], (by repeat (first | (with_reducible first | exact Ext.refl _ | exact Ext.same _ _ _ _ | assumption | apply Ext.alloc | apply Ext.ext | apply Ext.drew) | (with_reducible refine Ext.setCell ?_ _ _ ?_; rotate_left; focus (first | omega | (simp only [zs1, zs2, zs3, size_ext]; omega)))))⟩
end Go.Proofs.Ytekjdeibnfaehaa
