/- A record put into a register. -/
import Derived.Test.YtekjdeibnfaehaaGreatRowK
set_option linter.unusedSimpArgs false
set_option linter.unusedVariables false
namespace Go.Proofs.YtekjdeibnfaehaaGreat
open Go.RowKit

theorem Laid.ext {w : World} {vb : Nat} {r : Rec} (h : Laid w vb r) (E : Array Obj) (d : Nat) : Laid (w.ext E d) vb r :=
  ⟨by rw [heap_ext _ _ _ _ (Array.getElem?_eq_some_iff.1 h.at_).1]; exact h.at_⟩
theorem Laid.alloc {w : World} {vb : Nat} {r : Rec} (h : Laid w vb r) (o : Obj) : Laid (w.alloc o) vb r :=
  ⟨by rw [Below.heap_alloc _ _ _ (Array.getElem?_eq_some_iff.1 h.at_).1]; exact h.at_⟩
theorem Laid.new (w : World) (g : Nat) (r : Rec) (hg : g = w.heap.size) : Laid (w.alloc (.cells (encRec r).toArray 46)) g r := by
  subst hg
  exact ⟨heap_alloc_new w _⟩
theorem OwnR.lies {base n c : Nat} {w : World} {A : Option Addr} {l : List Rec} (h : OwnR base w (.slice A n c) l) : ∀ a, A = some a → base ≤ a.block ∧ a.block < w.heap.size := by
  intro a ha
  rcases h.2 with ⟨hv, _⟩ | ⟨g, cap, cur, hv, hb, hh, _⟩
  · cases hv; cases ha
  · cases hv; cases ha
    exact ⟨hb, (Array.getElem?_eq_some_iff.1 hh).1⟩
theorem putE_hit {l : List Rec} {r x : Rec} (h : findR l r.ao r.sq = some x) : putE l r = if recEqB x r = true then 0 else 72 := by simp [putE, h]
theorem putL_hit {l : List Rec} {r x : Rec} (h : findR l r.ao r.sq = some x) : putL l r = if recEqB x r = true then l else [] := by simp [putL, h]
theorem putE_new {l : List Rec} {r : Rec} (h : findR l r.ao r.sq = none) : putE l r = if l.length = 80 then 2 else 0 := by simp [putE, h]
theorem putL_new {l : List Rec} {r : Rec} (h : findR l r.ao r.sq = none) : putL l r = if l.length = 80 then [] else insR l r := by simp [putL, h]
set_option maxRecDepth 100000 in
set_option maxHeartbeats 8000000 in
theorem put_any (A : Option Addr) (c n : Nat) (l : List Rec) (r : Rec) (hn : l.length = n) (hbig : n ≤ 100000) (hs : Sorted l) (w : World) (hr : Recs w A l) :
    Calls Tryz.prog 130 #[regV A n c, recV r] w fun e w' => ∃ A' n' c', e = .returned (.tuple #[regV A' n' c', .int .i64 (putE l r)]) ∧ Hid (n' = (putL l r).length) ∧ OwnR w.heap.size w' (.slice A' n' c') (putL l r) ∧ Ext w w' := by
  have hps := hasR_pos hs r.ao r.sq
  cases hh : hasR l r.ao r.sq with
  | true =>
    obtain ⟨hp, ha⟩ := hps.1 hh
    have hf := findR_some hs hp ha
    have hE := putE_hit hf
    have hL := putL_hit hf
    obtain ⟨g, of, rfl, hg⟩ := hr.addr (by omega)
    have hrow := hr.row hp
    obtain ⟨q, hq⟩ : ∃ q, l[posR l r.ao r.sq] = q := ⟨_, rfl⟩
    obtain ⟨k, hk⟩ : ∃ k, posR l r.ao r.sq = k := ⟨_, rfl⟩
    rw [hq] at hrow hE hL
    rw [hk] at hrow hp
    obtain ⟨h0, h1, h2, h3, h4, h5, h6, h7, h8, h9, h10⟩ := hrow
    have hkn : k < n := by omega
    clear hq ha hf hps
    cases heq : recEqB q r with
    | true =>
      have HE : Hid (putE l r = 0) := hid (by rw [hE, heq]; rfl)
      have HL : Hid (putL l r = l) := hid (by rw [hL, heq]; rfl)
      clear hE hL
      go_enter Tryz.func130, Tryz.ntmps130
      go_wp2_with (go_at_call 82; refine (find_any _ _ _ _ _ _ (by first | rfl | assumption) (by omega) (by assumption) _ (by with_reducible repeat (first | assumption | apply Recs.ext | apply Recs.alloc | apply Recs.drew | (refine Recs.of_ext ?_ (by assumption))))).mono ?_; rintro e w1 ⟨rfl, E1, d1, rfl⟩)
      refine wp_region_ord_same (.f 0 (.f 1 (.f 2 (.f 3 (.f 4 (.f 5 (.f 6 (.f 7 (.f 8 (.f 9 (.f 10 .d))))))))))) (by kernel_rfl) (by kernel_rfl) ?_
      repeat ((first | refine wpOrd_pass rfl rfl ?_ | (refine wpOrd_free (v := ?_) rfl rfl (fun _ hS => ?_) ?_; rotate_left; focus (go_simp; try with_reducible rfl))); simp only [Act.put, zp1, zp2, zp3, zp4, zp5, zp6])
      refine ord_bool (j := 1) rfl (fun hb1 => ?_) (fun hb1 => ?_)
      rotate_left
      focus
       try (exfalso; first | (simp at hb1; done) | (simp at hb1; omega))
       all_goals
        (try simp only [hb1])
        repeat ((first | refine wpOrd_pass rfl rfl ?_ | (refine wpOrd_free (v := ?_) rfl rfl (fun _ hS => ?_) ?_; rotate_left; focus (go_simp; try with_reducible rfl))); simp only [Act.put, zp1, zp2, zp3, zp4, zp5, zp6])
        refine wpOrd_nil ?_
      rotate_right
      focus
       try (exfalso; first | (simp at hb1; done) | (simp at hb1; omega))
       all_goals
        (try simp only [hb1])
        repeat ((first | refine wpOrd_pass rfl rfl ?_ | (refine wpOrd_free (v := ?_) rfl rfl (fun _ hS => ?_) ?_; rotate_left; focus (go_simp; try with_reducible rfl))); simp only [Act.put, zp1, zp2, zp3, zp4, zp5, zp6])
        refine wpOrd_nil ?_
      go_wp2_with (go_at_call 79; refine (copied_any _ _ _ _ (by first | rfl | assumption) (by omega) _ (by with_reducible repeat (first | assumption | apply Recs.ext | apply Recs.alloc | apply Recs.drew | (refine Recs.of_ext ?_ (by assumption))))).mono ?_; rintro e w1 ⟨Ac1, nc1, cc1, rfl, hnc1, hvc1, E1, d1, rfl⟩)
      refine bodyPost_ret (v := .tuple #[regV Ac1 nc1 cc1, .int .i64 0]) (by simp [results, Tryz.results130, go_sem]) rfl ?_
      exact ⟨_, _, _, by rw [HE.out], hid (by rw [HL.out]; exact hnc1.out), by rw [HL.out]; ((try simp only [alloc_ext, ext_ext, size_ext, World.size_alloc, Array.size_push, Array.size_append] at *); refine OwnR.moved (by assumption) ?_ ?_ ?_; (focus (simp only [World.size_alloc, size_ext])); (focus (simp only [World.size_alloc, size_ext]; try omega)); (focus omega)), (by repeat (first | (with_reducible first | exact Ext.refl _ | exact Ext.same _ _ _ _ | assumption | apply Ext.alloc | apply Ext.ext | apply Ext.drew) | (with_reducible refine Ext.setCell ?_ _ _ ?_; rotate_left; focus (first | omega | (simp only [zs1, zs2, zs3, size_ext]; omega)))))⟩
    | false =>
      have HE : Hid (putE l r = 72) := hid (by rw [hE, heq]; rfl)
      have HL : Hid (putL l r = []) := hid (by rw [hL, heq]; rfl)
      clear hE hL
      go_enter Tryz.func130, Tryz.ntmps130
      go_wp2_with (go_at_call 82; refine (find_any _ _ _ _ _ _ (by first | rfl | assumption) (by omega) (by assumption) _ (by with_reducible repeat (first | assumption | apply Recs.ext | apply Recs.alloc | apply Recs.drew | (refine Recs.of_ext ?_ (by assumption))))).mono ?_; rintro e w1 ⟨rfl, E1, d1, rfl⟩)
      refine wp_region_ord_same (.f 0 (.f 1 (.f 2 (.f 3 (.f 4 (.f 5 (.f 6 (.f 7 (.f 8 (.f 9 (.f 10 .d))))))))))) (by kernel_rfl) (by kernel_rfl) ?_
      repeat ((first | refine wpOrd_pass rfl rfl ?_ | (refine wpOrd_free (v := ?_) rfl rfl (fun _ hS => ?_) ?_; rotate_left; focus (go_simp; try with_reducible rfl))); simp only [Act.put, zp1, zp2, zp3, zp4, zp5, zp6])
      refine ord_bool (j := 1) rfl (fun hb1 => ?_) (fun hb1 => ?_)
      rotate_left
      focus
       try (exfalso; first | (simp at hb1; done) | (simp at hb1; omega))
       all_goals
        (try simp only [hb1])
        repeat ((first | refine wpOrd_pass rfl rfl ?_ | (refine wpOrd_free (v := ?_) rfl rfl (fun _ hS => ?_) ?_; rotate_left; focus (go_simp; try with_reducible rfl))); simp only [Act.put, zp1, zp2, zp3, zp4, zp5, zp6])
        refine wpOrd_nil ?_
      rotate_right
      focus
       try (exfalso; first | (simp at hb1; done) | (simp at hb1; omega))
       all_goals
        (try simp only [hb1])
        repeat ((first | refine wpOrd_pass rfl rfl ?_ | (refine wpOrd_free (v := ?_) rfl rfl (fun _ hS => ?_) ?_; rotate_left; focus (go_simp; try with_reducible rfl))); simp only [Act.put, zp1, zp2, zp3, zp4, zp5, zp6])
        refine wpOrd_nil ?_
      go_wp2_with fail
      refine bodyPost_ret (v := .tuple #[regV none 0 0, .int .i64 72]) (by simp [results, Tryz.results130, go_sem]) rfl ?_
      exact ⟨_, _, _, by rw [HE.out], hid (by rw [HL.out]; rfl), by rw [HL.out]; exact OwnR.none _ _, (by repeat (first | (with_reducible first | exact Ext.refl _ | exact Ext.same _ _ _ _ | assumption | apply Ext.alloc | apply Ext.ext | apply Ext.drew) | (with_reducible refine Ext.setCell ?_ _ _ ?_; rotate_left; focus (first | omega | (simp only [zs1, zs2, zs3, size_ext]; omega)))))⟩
  | false =>
    have hf := findR_none hh
    have hE := putE_new hf
    have hL := putL_new hf
    obtain ⟨k, hk⟩ : ∃ k, posR l r.ao r.sq = k := ⟨_, rfl⟩
    have hkn : k ≤ n := by rw [← hk, ← hn]; exact posR_le _ _ _
    have hI : insR l r = l.take k ++ r :: l.drop k := by rw [insR, hk]
    clear hf hps
    by_cases h80 : n = 80
    · have HE : Hid (putE l r = 2) := hid (by rw [hE, hn, if_pos h80])
      have HL : Hid (putL l r = []) := hid (by rw [hL, hn, if_pos h80])
      clear hE hL hI
      subst h80
      go_enter Tryz.func130, Tryz.ntmps130
      go_wp2_with (go_at_call 82; refine (find_any _ _ _ _ _ _ (by first | rfl | assumption) (by omega) (by assumption) _ (by with_reducible repeat (first | assumption | apply Recs.ext | apply Recs.alloc | apply Recs.drew | (refine Recs.of_ext ?_ (by assumption))))).mono ?_; rintro e w1 ⟨rfl, E1, d1, rfl⟩)
      refine wp_region_ord_same (.f 0 (.f 1 (.f 2 (.f 3 (.f 4 (.f 5 (.f 6 (.f 7 (.f 8 (.f 9 (.f 10 .d))))))))))) (by kernel_rfl) (by kernel_rfl) ?_
      repeat ((first | refine wpOrd_pass rfl rfl ?_ | (refine wpOrd_free (v := ?_) rfl rfl (fun _ hS => ?_) ?_; rotate_left; focus (go_simp; try with_reducible rfl))); simp only [Act.put, zp1, zp2, zp3, zp4, zp5, zp6])
      refine ord_bool (j := 1) rfl (fun hb1 => ?_) (fun hb1 => ?_)
      rotate_left
      focus
       try (exfalso; first | (simp at hb1; done) | (simp at hb1; omega))
       all_goals
        (try simp only [hb1])
        repeat ((first | refine wpOrd_pass rfl rfl ?_ | (refine wpOrd_free (v := ?_) rfl rfl (fun _ hS => ?_) ?_; rotate_left; focus (go_simp; try with_reducible rfl))); simp only [Act.put, zp1, zp2, zp3, zp4, zp5, zp6])
        refine wpOrd_nil ?_
      rotate_right
      focus
       try (exfalso; first | (simp at hb1; done) | (simp at hb1; omega))
       all_goals
        (try simp only [hb1])
        repeat ((first | refine wpOrd_pass rfl rfl ?_ | (refine wpOrd_free (v := ?_) rfl rfl (fun _ hS => ?_) ?_; rotate_left; focus (go_simp; try with_reducible rfl))); simp only [Act.put, zp1, zp2, zp3, zp4, zp5, zp6])
        refine wpOrd_nil ?_
      go_wp2_with fail
      refine bodyPost_ret (v := .tuple #[regV none 0 0, .int .i64 2]) (by simp [results, Tryz.results130, go_sem]) rfl ?_
      exact ⟨_, _, _, by rw [HE.out], hid (by rw [HL.out]; rfl), by rw [HL.out]; exact OwnR.none _ _, (by repeat (first | (with_reducible first | exact Ext.refl _ | exact Ext.same _ _ _ _ | assumption | apply Ext.alloc | apply Ext.ext | apply Ext.drew) | (with_reducible refine Ext.setCell ?_ _ _ ?_; rotate_left; focus (first | omega | (simp only [zs1, zs2, zs3, size_ext]; omega)))))⟩
    · have HE : Hid (putE l r = 0) := hid (by rw [hE, hn, if_neg h80])
      have HL : Hid (putL l r = l.take k ++ r :: l.drop k) := hid (by rw [hL, hn, if_neg h80, hI])
      clear hE hL hI
      go_enter Tryz.func130, Tryz.ntmps130
      go_wp2_with (go_at_call 82; refine (find_any _ _ _ _ _ _ (by first | rfl | assumption) (by omega) (by assumption) _ (by with_reducible repeat (first | assumption | apply Recs.ext | apply Recs.alloc | apply Recs.drew | (refine Recs.of_ext ?_ (by assumption))))).mono ?_; rintro e w1 ⟨rfl, E1, d1, rfl⟩)
      refine wp_region_ord_same (.f 0 (.f 1 (.f 2 (.f 3 (.f 4 (.f 5 (.f 6 (.f 7 (.f 8 (.f 9 (.f 10 .d))))))))))) (by kernel_rfl) (by kernel_rfl) ?_
      repeat ((first | refine wpOrd_pass rfl rfl ?_ | (refine wpOrd_free (v := ?_) rfl rfl (fun _ hS => ?_) ?_; rotate_left; focus (go_simp; try with_reducible rfl))); simp only [Act.put, zp1, zp2, zp3, zp4, zp5, zp6])
      refine ord_bool (j := 1) rfl (fun hb1 => ?_) (fun hb1 => ?_)
      rotate_left
      focus
       try (exfalso; first | (simp at hb1; done) | (simp at hb1; omega))
       all_goals
        (try simp only [hb1])
        repeat ((first | refine wpOrd_pass rfl rfl ?_ | (refine wpOrd_free (v := ?_) rfl rfl (fun _ hS => ?_) ?_; rotate_left; focus (go_simp; try with_reducible rfl))); simp only [Act.put, zp1, zp2, zp3, zp4, zp5, zp6])
        refine wpOrd_nil ?_
      rotate_right
      focus
       try (exfalso; first | (simp at hb1; done) | (simp at hb1; omega))
       all_goals
        (try simp only [hb1])
        repeat ((first | refine wpOrd_pass rfl rfl ?_ | (refine wpOrd_free (v := ?_) rfl rfl (fun _ hS => ?_) ?_; rotate_left; focus (go_simp; try with_reducible rfl))); simp only [Act.put, zp1, zp2, zp3, zp4, zp5, zp6])
        refine wpOrd_nil ?_
      go_wp2_with fail
      refine wp_region_ord (.f 0 (.f 1 (.f 3 (.f 4 (.k 2 (.a 5 (.a 6 (.f 7 (.a 8 (.f 9 .d))))) 5 (.a 2 (.a 6 (.f 7 (.a 8 (.f 9 .d)))))))))) (Ext (((w.alloc (.cells #[.slice A n c] 34)).alloc (.cells #[.int .i64 r.ao, .int .i64 r.sq, .int .i64 r.kind, .int .i64 r.ship, .int .i64 r.day, .int .i64 r.known, .int .i64 r.wo, .int .i64 r.ws, .int .i64 r.to, .int .i64 r.til, .string r.text] 46)))) (by kernel_rfl) (by kernel_rfl) (by repeat (first | (with_reducible first | exact Ext.refl _ | exact Ext.same _ _ _ _ | assumption | apply Ext.alloc | apply Ext.ext | apply Ext.drew) | (with_reducible refine Ext.setCell ?_ _ _ ?_; rotate_left; focus (first | omega | (simp only [zs1, zs2, zs3, size_ext]; omega))) | (with_reducible refine Ext.trans ?_ (by assumption)))) ?_
      repeat ((first | refine wpOrd_pass rfl rfl ?_ | (refine wpOrd_free (v := ?_) rfl rfl (fun _ hS => ?_) ?_; rotate_left; focus (obtain ⟨E9, d9, rfl⟩ := hS; go_simp; try with_reducible rfl))); simp only [Act.put, zp1, zp2, zp3, zp4, zp5, zp6])
      refine wpOrd_fork ?_ ?_
      focus
       refine wpOrd_call rfl rfl rfl Tryz.call90 (fun R hR => ?_)
       go_simp
       refine (Clone_own _ _ _ _ (by first | rfl | assumption) (by omega) _ (by with_reducible repeat (first | assumption | apply Recs.ext | apply Recs.alloc | apply Recs.drew | (refine Recs.of_ext ?_ (by assumption))))).mono ?_
       rintro e w1 ⟨Ac201, nc201, cc201, rfl, hnc201, hvc201, E201, d201, rfl⟩
       refine hR _ _ ⟨_, rfl, ?_, ?_⟩
       · exact (by repeat (first | (with_reducible first | exact Ext.refl _ | exact Ext.same _ _ _ _ | assumption | apply Ext.alloc | apply Ext.ext | apply Ext.drew) | (with_reducible refine Ext.setCell ?_ _ _ ?_; rotate_left; focus (first | omega | (simp only [zs1, zs2, zs3, size_ext]; omega))) | (with_reducible refine Ext.trans ?_ (by assumption))))
       clear hR R
       simp only [Act.put, zp1, zp2, zp3, zp4, zp5, zp6]
       refine wpOrd_act rfl rfl (fun K hK => ?_)
       go_simp
       refine hK _ _ ⟨?_, ?_⟩
       · exact (by repeat (first | (with_reducible first | exact Ext.refl _ | exact Ext.same _ _ _ _ | assumption | apply Ext.alloc | apply Ext.ext | apply Ext.drew) | (with_reducible refine Ext.setCell ?_ _ _ ?_; rotate_left; focus (first | omega | (simp only [zs1, zs2, zs3, size_ext]; omega))) | (with_reducible refine Ext.trans ?_ (by assumption))))
       clear hK K
       try simp only [Act.put, zp1, zp2, zp3, zp4, zp5, zp6]
       refine wpOrd_call rfl rfl rfl Tryz.call160 (fun R hR => ?_)
       go_simp
       refine (Insert_any _ _ _ _ _ _ k l r (Hid.out (by assumption)) (by omega) (by omega) _ (by exact OwnR.of_ext (by assumption) (by repeat (first | (with_reducible first | exact Ext.refl _ | exact Ext.same _ _ _ _ | assumption | apply Ext.alloc | apply Ext.ext | apply Ext.drew) | (with_reducible refine Ext.setCell ?_ _ _ ?_; rotate_left; focus (first | omega | (simp only [zs1, zs2, zs3, size_ext]; omega))) | (with_reducible refine Ext.trans ?_ (by assumption))))) (by exact (by repeat (first | (with_reducible first | exact Ext.refl _ | exact Ext.same _ _ _ _ | assumption | apply Ext.alloc | apply Ext.ext | apply Ext.drew) | (with_reducible refine Ext.setCell ?_ _ _ ?_; rotate_left; focus (first | omega | (simp only [zs1, zs2, zs3, size_ext]; omega))) | (with_reducible refine Ext.trans ?_ (by assumption))))) (by first | exact Laid.new _ _ r (by simp [World.size_alloc]) | exact Laid.ext (Laid.new _ _ r (by simp [World.size_alloc])) _ _) (by intro a ha; obtain ⟨q1, q2⟩ := OwnR.lies (l := l) (by assumption) a ha; simp only [size_ext, World.size_alloc] at q1 q2; omega)).mono ?_
       rintro e w1 ⟨Ai, ni, ci, rfl, hni, hvi, Ei, di, rfl⟩
       refine hR _ _ ⟨_, rfl, ?_, ?_⟩
       · exact (by repeat (first | (with_reducible first | exact Ext.refl _ | exact Ext.same _ _ _ _ | assumption | apply Ext.alloc | apply Ext.ext | apply Ext.drew) | (with_reducible refine Ext.setCell ?_ _ _ ?_; rotate_left; focus (first | omega | (simp only [zs1, zs2, zs3, size_ext]; omega))) | (with_reducible refine Ext.trans ?_ (by assumption))))
       clear hR R
       try simp only [Act.put, zp1, zp2, zp3, zp4, zp5, zp6]
       repeat ((first | refine wpOrd_pass rfl rfl ?_ | (refine wpOrd_free (v := ?_) rfl rfl (fun _ hS => ?_) ?_; rotate_left; focus (obtain ⟨E9, d9, rfl⟩ := hS; go_simp; try with_reducible rfl))); simp only [Act.put, zp1, zp2, zp3, zp4, zp5, zp6])
       refine wpOrd_act rfl rfl (fun K hK => ?_)
       go_simp
       refine hK _ _ ⟨?_, ?_⟩
       · exact (by repeat (first | (with_reducible first | exact Ext.refl _ | exact Ext.same _ _ _ _ | assumption | apply Ext.alloc | apply Ext.ext | apply Ext.drew) | (with_reducible refine Ext.setCell ?_ _ _ ?_; rotate_left; focus (first | omega | (simp only [zs1, zs2, zs3, size_ext]; omega))) | (with_reducible refine Ext.trans ?_ (by assumption))))
       clear hK K
       try simp only [Act.put, zp1, zp2, zp3, zp4, zp5, zp6]
       repeat ((first | refine wpOrd_pass rfl rfl ?_ | (refine wpOrd_free (v := ?_) rfl rfl (fun _ hS => ?_) ?_; rotate_left; focus (obtain ⟨E9, d9, rfl⟩ := hS; go_simp; try with_reducible rfl))); simp only [Act.put, zp1, zp2, zp3, zp4, zp5, zp6])
       refine wpOrd_nil ?_
      rotate_right
      focus
       refine wpOrd_act rfl rfl (fun K hK => ?_)
       go_simp
       refine hK _ _ ⟨?_, ?_⟩
       · exact (by repeat (first | (with_reducible first | exact Ext.refl _ | exact Ext.same _ _ _ _ | assumption | apply Ext.alloc | apply Ext.ext | apply Ext.drew) | (with_reducible refine Ext.setCell ?_ _ _ ?_; rotate_left; focus (first | omega | (simp only [zs1, zs2, zs3, size_ext]; omega))) | (with_reducible refine Ext.trans ?_ (by assumption))))
       clear hK K
       try simp only [Act.put, zp1, zp2, zp3, zp4, zp5, zp6]
       refine wpOrd_call rfl rfl rfl Tryz.call90 (fun R hR => ?_)
       go_simp
       refine (Clone_own _ _ _ _ (by first | rfl | assumption) (by omega) _ (by with_reducible repeat (first | assumption | apply Recs.ext | apply Recs.alloc | apply Recs.drew | (refine Recs.of_ext ?_ (by assumption))))).mono ?_
       rintro e w1 ⟨Ac203, nc203, cc203, rfl, hnc203, hvc203, E203, d203, rfl⟩
       refine hR _ _ ⟨_, rfl, ?_, ?_⟩
       · exact (by repeat (first | (with_reducible first | exact Ext.refl _ | exact Ext.same _ _ _ _ | assumption | apply Ext.alloc | apply Ext.ext | apply Ext.drew) | (with_reducible refine Ext.setCell ?_ _ _ ?_; rotate_left; focus (first | omega | (simp only [zs1, zs2, zs3, size_ext]; omega))) | (with_reducible refine Ext.trans ?_ (by assumption))))
       clear hR R
       simp only [Act.put, zp1, zp2, zp3, zp4, zp5, zp6]
       refine wpOrd_call rfl rfl rfl Tryz.call160 (fun R hR => ?_)
       go_simp
       refine (Insert_any _ _ _ _ _ _ k l r (Hid.out (by assumption)) (by omega) (by omega) _ (by exact OwnR.of_ext (by assumption) (by repeat (first | (with_reducible first | exact Ext.refl _ | exact Ext.same _ _ _ _ | assumption | apply Ext.alloc | apply Ext.ext | apply Ext.drew) | (with_reducible refine Ext.setCell ?_ _ _ ?_; rotate_left; focus (first | omega | (simp only [zs1, zs2, zs3, size_ext]; omega))) | (with_reducible refine Ext.trans ?_ (by assumption))))) (by exact (by repeat (first | (with_reducible first | exact Ext.refl _ | exact Ext.same _ _ _ _ | assumption | apply Ext.alloc | apply Ext.ext | apply Ext.drew) | (with_reducible refine Ext.setCell ?_ _ _ ?_; rotate_left; focus (first | omega | (simp only [zs1, zs2, zs3, size_ext]; omega))) | (with_reducible refine Ext.trans ?_ (by assumption))))) (by first | exact Laid.new _ _ r (by simp [World.size_alloc]) | exact Laid.ext (Laid.new _ _ r (by simp [World.size_alloc])) _ _) (by intro a ha; obtain ⟨q1, q2⟩ := OwnR.lies (l := l) (by assumption) a ha; simp only [size_ext, World.size_alloc] at q1 q2; omega)).mono ?_
       rintro e w1 ⟨Ai, ni, ci, rfl, hni, hvi, Ei, di, rfl⟩
       refine hR _ _ ⟨_, rfl, ?_, ?_⟩
       · exact (by repeat (first | (with_reducible first | exact Ext.refl _ | exact Ext.same _ _ _ _ | assumption | apply Ext.alloc | apply Ext.ext | apply Ext.drew) | (with_reducible refine Ext.setCell ?_ _ _ ?_; rotate_left; focus (first | omega | (simp only [zs1, zs2, zs3, size_ext]; omega))) | (with_reducible refine Ext.trans ?_ (by assumption))))
       clear hR R
       try simp only [Act.put, zp1, zp2, zp3, zp4, zp5, zp6]
       repeat ((first | refine wpOrd_pass rfl rfl ?_ | (refine wpOrd_free (v := ?_) rfl rfl (fun _ hS => ?_) ?_; rotate_left; focus (obtain ⟨E9, d9, rfl⟩ := hS; go_simp; try with_reducible rfl))); simp only [Act.put, zp1, zp2, zp3, zp4, zp5, zp6])
       refine wpOrd_act rfl rfl (fun K hK => ?_)
       go_simp
       refine hK _ _ ⟨?_, ?_⟩
       · exact (by repeat (first | (with_reducible first | exact Ext.refl _ | exact Ext.same _ _ _ _ | assumption | apply Ext.alloc | apply Ext.ext | apply Ext.drew) | (with_reducible refine Ext.setCell ?_ _ _ ?_; rotate_left; focus (first | omega | (simp only [zs1, zs2, zs3, size_ext]; omega))) | (with_reducible refine Ext.trans ?_ (by assumption))))
       clear hK K
       try simp only [Act.put, zp1, zp2, zp3, zp4, zp5, zp6]
       repeat ((first | refine wpOrd_pass rfl rfl ?_ | (refine wpOrd_free (v := ?_) rfl rfl (fun _ hS => ?_) ?_; rotate_left; focus (obtain ⟨E9, d9, rfl⟩ := hS; go_simp; try with_reducible rfl))); simp only [Act.put, zp1, zp2, zp3, zp4, zp5, zp6])
       refine wpOrd_nil ?_
      all_goals
        go_wp2_with fail
      all_goals
        skip
        refine bodyPost_ret (v := .tuple #[regV Ai ni ci, .int .i64 0]) (by simp [results, Tryz.results130, go_sem]) rfl ?_
        refine ⟨_, _, _, by rw [HE.out], hid (by rw [HL.out]; have := hni.out; simp; omega), ?_, (by repeat (first | (with_reducible first | exact Ext.refl _ | exact Ext.same _ _ _ _ | assumption | apply Ext.alloc | apply Ext.ext | apply Ext.drew) | (with_reducible refine Ext.setCell ?_ _ _ ?_; rotate_left; focus (first | omega | (simp only [zs1, zs2, zs3, size_ext]; omega)))))⟩
        rw [HL.out]
        ((try simp only [alloc_ext, ext_ext, size_ext, World.size_alloc, Array.size_push, Array.size_append] at *); refine OwnR.moved (by assumption) ?_ ?_ ?_; (focus (simp only [World.size_alloc, size_ext])); (focus (simp only [World.size_alloc, size_ext]; try omega)); (focus omega))
end Go.Proofs.YtekjdeibnfaehaaGreat
