/- Join. -/
import Derived.Test.YtekjdeibnfaehaaJoinP
set_option linter.unusedSimpArgs false
set_option linter.unusedVariables false
namespace Go.Proofs.Ytekjdeibnfaehaa
open Go Go.RowKit

set_option maxRecDepth 100000 in
set_option maxHeartbeats 1000000 in
theorem joincmp_gr (x y : Rec) (w : World) :
    Calls Try.prog 56 #[recV x, recV y] w fun e w' => e = .returned (.int .i64 (cmpP x.ao x.sq y.ao y.sq)) ∧ Gr w w' := by
  go_enter Try.func56, Try.ntmps56
  go_wp2_with fail
  refine (compare_gr _ _ _ _ _).mono ?_
  rintro e w1 ⟨rfl, q, os, rfl⟩
  go_wp2_with fail
  go_ret
  exact ⟨rfl, Gr.trans (by repeat (first | exact Gr.refl _ | apply Gr.alloc | apply Gr.drew)) ⟨q, os, rfl⟩⟩
/-- What is joined, while it is read. -/
structure JoinW (Y wr : World) (a b : List Rec) (k : Nat) (v : Value) : Prop where
  no : (b.take k).any (clashR a) = false
  ext : Ext Y wr
  own : OwnR Y.heap.size wr v (a ++ newL a (b.take k))
set_option maxRecDepth 100000 in
set_option maxHeartbeats 8000000 in
theorem Join_any (A B : Option Addr) (n c m d : Nat) (a b : List Rec) (hn : a.length = n) (hm : b.length = m) (hbig : n ≤ 9223372036854775807) (hbig2 : m ≤ 9223372036854775807) (ht : TxtBig a) (ht2 : TxtBig b) (w : World) (hr : Recs w A a) (hs : Recs w B b) :
    Calls Try.prog 18 #[regV A n c, regV B m d] w fun e w' => ∃ A' n' c', e = .returned (.tuple #[regV A' n' c', .int .i64 (joinE a b)]) ∧ Hid (n' = (joinL a b).length) ∧ OwnR w.heap.size w' (.slice A' n' c') (joinL a b) ∧ Ext w w' := by
  cases hc : checkB a with
  | false =>
    have he := errReg_bad hc
    have HE := hid (joinE_left (b := b) hc)
    have HL := hid (joinL_err HE.out (by decide))
    clear hc
    go_enter Try.func18, Try.ntmps18
    go_wp2_with (go_at_call 23; refine (Check_any _ _ _ _ (by first | rfl | assumption) (by omega) (by assumption) _ (by with_reducible repeat (first | assumption | apply Recs.ext | apply Recs.alloc | apply Recs.drew | (refine Recs.of_ext ?_ (by assumption))))).mono ?_; rintro e w1 ⟨rfl, E1, d1, rfl⟩)
    refine bodyPost_ret (v := .tuple #[regV none 0 0, .int .i64 71]) (by simp [results, Try.results18, go_sem]) rfl ?_
    exact ⟨_, _, _, by rw [HE.out], hid (by rw [HL.out]; rfl), by rw [HL.out]; exact OwnR.none _ _, (by repeat (first | with_reducible exact Ext.refl _ | with_reducible exact Ext.same _ _ _ _ | with_reducible assumption | with_reducible apply Ext.alloc | with_reducible apply Ext.ext | with_reducible apply Ext.drew | (with_reducible refine Ext.setCell ?_ _ _ ?_; rotate_left; (focus (first | omega | (simp only [World.size_alloc, World.size_drew, size_ext, World.size_setCell]; omega))))))⟩
  | true =>
    have he := errReg_ok hc
    cases hc2 : checkB b with
    | false =>
      have he2 := errReg_bad hc2
      have HE := hid (joinE_right (a := a) hc2)
      have HL := hid (joinL_err HE.out (by decide))
      clear hc hc2
      go_enter Try.func18, Try.ntmps18
      go_wp2_with (go_at_call 23; refine (Check_any _ _ _ _ (by first | rfl | assumption) (by omega) (by assumption) _ (by with_reducible repeat (first | assumption | apply Recs.ext | apply Recs.alloc | apply Recs.drew | (refine Recs.of_ext ?_ (by assumption))))).mono ?_; rintro e w1 ⟨rfl, E1, d1, rfl⟩)
      refine bodyPost_ret (v := .tuple #[regV none 0 0, .int .i64 71]) (by simp [results, Try.results18, go_sem]) rfl ?_
      exact ⟨_, _, _, by rw [HE.out], hid (by rw [HL.out]; rfl), by rw [HL.out]; exact OwnR.none _ _, (by repeat (first | with_reducible exact Ext.refl _ | with_reducible exact Ext.same _ _ _ _ | with_reducible assumption | with_reducible apply Ext.alloc | with_reducible apply Ext.ext | with_reducible apply Ext.drew | (with_reducible refine Ext.setCell ?_ _ _ ?_; rotate_left; (focus (first | omega | (simp only [World.size_alloc, World.size_drew, size_ext, World.size_setCell]; omega))))))⟩
    | true =>
      have he2 := errReg_ok hc2
      obtain ⟨h80, _, hso⟩ := checkB_iff.1 hc
      obtain ⟨g80, _, hso2⟩ := checkB_iff.1 hc2
      have h80' : n ≤ 80 := by omega
      have g80' : m ≤ 80 := by omega
      have HC := hid hc
      have HC2 := hid hc2
      have eg : ∀ args w, (callFunc 56 args).run Try.prog w = .ok (.enter 56 args) w := enters_of Try.func56 (by kernel_rfl) rfl
      have Eg := hid eg
      clear hc hc2 eg
      go_enter Try.func18, Try.ntmps18
      go_wp2_with (first | (go_at_call 23; refine (Check_any _ _ _ _ (by first | rfl | assumption) (by omega) (by assumption) _ (by with_reducible repeat (first | assumption | apply Recs.ext | apply Recs.alloc | apply Recs.drew | (refine Recs.of_ext ?_ (by assumption))))).mono ?_; rintro e w1 ⟨rfl, E1, d1, rfl⟩) | (go_at_call 53; refine (Clone_own _ _ _ _ (by first | rfl | assumption) (by omega) _ (by with_reducible repeat (first | assumption | apply Recs.ext | apply Recs.alloc | apply Recs.drew | (refine Recs.of_ext ?_ (by assumption))))).mono ?_; rintro e w1 ⟨Ac1, nc1, cc1, rfl, hnc1, hvc1, E1, d1, rfl⟩))
      have Hvc := hid hvc1
      clear hvc1
      go_loopw [6, 26] (fun v i wr => ∃ (k : Nat), k ≤ m ∧ i = .int .i64 k ∧ JoinW (((w.alloc (.cells #[.slice A n c] 38)).alloc (.cells #[.slice B m d] 38)).alloc (.cells #[.slice none 0 0] 38)) wr a b k v) (fun _ i _ => m - (intOf i).toNat)
      case atStart =>
        refine ⟨0, Nat.zero_le _, rfl, ⟨by simp, (by repeat (first | with_reducible exact Ext.refl _ | with_reducible exact Ext.same _ _ _ _ | with_reducible assumption | with_reducible apply Ext.alloc | with_reducible apply Ext.ext | with_reducible apply Ext.drew | (with_reducible refine Ext.setCell ?_ _ _ ?_; rotate_left; (focus (first | omega | (simp only [World.size_alloc, World.size_drew, size_ext, World.size_setCell]; omega)))))), ?_⟩⟩
        rw [newL_zero, List.append_nil]
        exact OwnR.base Hvc.out (by simp only [size_ext]; omega)
      case round =>
        obtain ⟨k, hk, rfl, hJ⟩ := hrel
        obtain ⟨hno, ⟨E9, d9, rfl⟩, hown⟩ := hJ
        have Hno := hid hno
        have Hown := hid hown
        have hnl := newL_len a b k
        clear hno hown Hvc
        by_cases hlt : k < m
        · have hkb : k < b.length := by omega
          obtain ⟨g, of, rfl, hg⟩ := hs.addr (by omega)
          have hrow := hs.row hkb
          have o1 := any_take_succ (clashR a) b hkb
          have o2 := newL_take_succ a b k hkb
          have o3 := any_of_get (clashR a) b hkb
          obtain ⟨q, hq⟩ : ∃ q, b[k] = q := ⟨_, rfl⟩
          rw [hq] at hrow o1 o2 o3
          obtain ⟨h0, h1, h2, h3, h4, h5, h6, h7, h8, h9, h10⟩ := hrow
          cases hh : hasR a q.ao q.sq with
          | true =>
            obtain ⟨hp, ha⟩ := (hasR_pos hso q.ao q.sq).1 hh
            obtain ⟨ga, fa, rfl, hga⟩ := hr.addr (by omega)
            have hrx := hr.row hp
            have o4 := clashR_some hso hp ha
            obtain ⟨x, hx⟩ : ∃ x, a[posR a q.ao q.sq] = x := ⟨_, rfl⟩
            obtain ⟨p, hpp⟩ : ∃ p, posR a q.ao q.sq = p := ⟨_, rfl⟩
            rw [hx] at hrx o4
            rw [hpp] at hrx hp
            obtain ⟨x0, x1, x2, x3, x4, x5, x6, x7, x8, x9, x10⟩ := hrx
            have hpn : p < n := by omega
            rw [hh, if_pos rfl, List.append_nil] at o2
            cases heq : recEqB x q with
            | true =>
              rw [heq] at o4
              have HA := hid (show JoinW (((w.alloc (.cells #[.slice (some ⟨ga, fa, none⟩) n c] 38)).alloc (.cells #[.slice (some ⟨g, of, none⟩) m d] 38)).alloc (.cells #[.slice none 0 0] 38)) ((((w.alloc (.cells #[.slice (some ⟨ga, fa, none⟩) n c] 38)).alloc (.cells #[.slice (some ⟨g, of, none⟩) m d] 38)).alloc (.cells #[.slice none 0 0] 38)).ext E9 d9) a b (k + 1) _ from ⟨by rw [o1, Hno.out, o4]; rfl, (Ext.refl _).ext _ _, by rw [o2]; exact Hown.out⟩)
              clear o1 o2 o3 o4 hq ha hx
              go_wp2_with (go_at_call 54; refine (find_any _ _ _ _ _ _ (by first | rfl | assumption) (by omega) (by assumption) _ (by with_reducible repeat (first | assumption | apply Recs.ext | apply Recs.alloc | apply Recs.drew | (refine Recs.of_ext ?_ (by assumption))))).mono ?_; rintro e w1 ⟨rfl, E1, d1, rfl⟩)
              refine wp_region_ord_same (.f 0 (.f 1 (.f 2 (.f 3 (.f 4 (.f 5 (.f 6 (.f 7 (.f 8 (.f 9 .d)))))))))) (by kernel_rfl) (by kernel_rfl) ?_
              repeat (first | (refine wpOrd_pass rfl rfl ?_; simp only [Act.put, List.getElem_toArray, List.getElem_cons_succ, List.getElem_cons_zero, List.setIfInBounds_toArray, List.set_cons_zero, List.set_cons_succ]) | (refine wpOrd_free (v := ?_) rfl rfl (fun _ hS => ?_) ?_; rotate_left; (focus (go_simp; try with_reducible rfl)); simp only [Act.put, List.getElem_toArray, List.getElem_cons_succ, List.getElem_cons_zero, List.setIfInBounds_toArray, List.set_cons_zero, List.set_cons_succ]))
              refine ord_bool (j := 1) rfl (fun hb1 => ?_) (fun hb1 => ?_)
              rotate_left
              focus
                try (exfalso; first | (simp at hb1; done) | (simp at hb1; omega))
                all_goals
                  (try simp only [hb1])
                  repeat (first | (refine wpOrd_pass rfl rfl ?_; simp only [Act.put, List.getElem_toArray, List.getElem_cons_succ, List.getElem_cons_zero, List.setIfInBounds_toArray, List.set_cons_zero, List.set_cons_succ]) | (refine wpOrd_free (v := ?_) rfl rfl (fun _ hS => ?_) ?_; rotate_left; (focus (go_simp; try with_reducible rfl)); simp only [Act.put, List.getElem_toArray, List.getElem_cons_succ, List.getElem_cons_zero, List.setIfInBounds_toArray, List.set_cons_zero, List.set_cons_succ]))
                  refine wpOrd_nil ?_
              rotate_right
              focus
                try (exfalso; first | (simp at hb1; done) | (simp at hb1; omega))
                all_goals
                  (try simp only [hb1])
                  repeat (first | (refine wpOrd_pass rfl rfl ?_; simp only [Act.put, List.getElem_toArray, List.getElem_cons_succ, List.getElem_cons_zero, List.setIfInBounds_toArray, List.set_cons_zero, List.set_cons_succ]) | (refine wpOrd_free (v := ?_) rfl rfl (fun _ hS => ?_) ?_; rotate_left; (focus (go_simp; try with_reducible rfl)); simp only [Act.put, List.getElem_toArray, List.getElem_cons_succ, List.getElem_cons_zero, List.setIfInBounds_toArray, List.set_cons_zero, List.set_cons_succ]))
                  refine wpOrd_nil ?_
              go_wp2_with fail
              exact ⟨⟨k + 1, by omega, by go_num, ⟨HA.out.no, (by repeat (first | with_reducible exact Ext.refl _ | with_reducible exact Ext.same _ _ _ _ | with_reducible assumption | with_reducible apply Ext.alloc | with_reducible apply Ext.ext | with_reducible apply Ext.drew | (with_reducible refine Ext.setCell ?_ _ _ ?_; rotate_left; (focus (first | omega | (simp only [World.size_alloc, World.size_drew, size_ext, World.size_setCell]; omega)))))), HA.out.own.of_ext (by repeat (first | with_reducible exact Ext.refl _ | with_reducible exact Ext.same _ _ _ _ | with_reducible assumption | with_reducible apply Ext.alloc | with_reducible apply Ext.ext | with_reducible apply Ext.drew | (with_reducible refine Ext.setCell ?_ _ _ ?_; rotate_left; (focus (first | omega | (simp only [World.size_alloc, World.size_drew, size_ext, World.size_setCell]; omega))))))⟩⟩, by simp [intOf]; omega⟩
            | false =>
              rw [heq] at o4
              have HE := hid (joinE_two HC.out HC2.out (o3 o4))
              have HL := hid (joinL_err HE.out (by decide))
              clear o1 o2 o3 o4 hq ha hx
              go_wp2_with (go_at_call 54; refine (find_any _ _ _ _ _ _ (by first | rfl | assumption) (by omega) (by assumption) _ (by with_reducible repeat (first | assumption | apply Recs.ext | apply Recs.alloc | apply Recs.drew | (refine Recs.of_ext ?_ (by assumption))))).mono ?_; rintro e w1 ⟨rfl, E1, d1, rfl⟩)
              refine wp_region_ord_same (.f 0 (.f 1 (.f 2 (.f 3 (.f 4 (.f 5 (.f 6 (.f 7 (.f 8 (.f 9 .d)))))))))) (by kernel_rfl) (by kernel_rfl) ?_
              repeat (first | (refine wpOrd_pass rfl rfl ?_; simp only [Act.put, List.getElem_toArray, List.getElem_cons_succ, List.getElem_cons_zero, List.setIfInBounds_toArray, List.set_cons_zero, List.set_cons_succ]) | (refine wpOrd_free (v := ?_) rfl rfl (fun _ hS => ?_) ?_; rotate_left; (focus (go_simp; try with_reducible rfl)); simp only [Act.put, List.getElem_toArray, List.getElem_cons_succ, List.getElem_cons_zero, List.setIfInBounds_toArray, List.set_cons_zero, List.set_cons_succ]))
              refine ord_bool (j := 1) rfl (fun hb1 => ?_) (fun hb1 => ?_)
              rotate_left
              focus
                try (exfalso; first | (simp at hb1; done) | (simp at hb1; omega))
                all_goals
                  (try simp only [hb1])
                  repeat (first | (refine wpOrd_pass rfl rfl ?_; simp only [Act.put, List.getElem_toArray, List.getElem_cons_succ, List.getElem_cons_zero, List.setIfInBounds_toArray, List.set_cons_zero, List.set_cons_succ]) | (refine wpOrd_free (v := ?_) rfl rfl (fun _ hS => ?_) ?_; rotate_left; (focus (go_simp; try with_reducible rfl)); simp only [Act.put, List.getElem_toArray, List.getElem_cons_succ, List.getElem_cons_zero, List.setIfInBounds_toArray, List.set_cons_zero, List.set_cons_succ]))
                  refine wpOrd_nil ?_
              rotate_right
              focus
                try (exfalso; first | (simp at hb1; done) | (simp at hb1; omega))
                all_goals
                  (try simp only [hb1])
                  repeat (first | (refine wpOrd_pass rfl rfl ?_; simp only [Act.put, List.getElem_toArray, List.getElem_cons_succ, List.getElem_cons_zero, List.setIfInBounds_toArray, List.set_cons_zero, List.set_cons_succ]) | (refine wpOrd_free (v := ?_) rfl rfl (fun _ hS => ?_) ?_; rotate_left; (focus (go_simp; try with_reducible rfl)); simp only [Act.put, List.getElem_toArray, List.getElem_cons_succ, List.getElem_cons_zero, List.setIfInBounds_toArray, List.set_cons_zero, List.set_cons_succ]))
                  refine wpOrd_nil ?_
              go_wp2_with fail
              refine bodyPost_ret (v := .tuple #[regV none 0 0, .int .i64 72]) (by simp [results, Try.results18, go_sem]) rfl ?_
              exact ⟨_, _, _, by rw [HE.out], hid (by rw [HL.out]; rfl), by rw [HL.out]; exact OwnR.none _ _, (by repeat (first | with_reducible exact Ext.refl _ | with_reducible exact Ext.same _ _ _ _ | with_reducible assumption | with_reducible apply Ext.alloc | with_reducible apply Ext.ext | with_reducible apply Ext.drew | (with_reducible refine Ext.setCell ?_ _ _ ?_; rotate_left; (focus (first | omega | (simp only [World.size_alloc, World.size_drew, size_ext, World.size_setCell]; omega))))))⟩
          | false =>
            have o4 := clashR_none hh
            rw [hh, if_neg (by decide)] at o2
            have O1 := hid (show (b.take (k + 1)).any (clashR a) = false by rw [o1, Hno.out, o4]; rfl)
            have O2 := hid o2
            clear o1 o2 o3 o4 hq
            go_wp2_with (go_at_call 54; refine (find_any _ _ _ _ _ _ (by first | rfl | assumption) (by omega) (by assumption) _ (by with_reducible repeat (first | assumption | apply Recs.ext | apply Recs.alloc | apply Recs.drew | (refine Recs.of_ext ?_ (by assumption))))).mono ?_; rintro e w1 ⟨rfl, E1, d1, rfl⟩)
            refine wp_region_ord_same (.f 0 (.f 1 (.f 2 (.f 3 (.f 4 (.f 5 (.f 6 (.f 7 (.f 8 (.f 9 .d)))))))))) (by kernel_rfl) (by kernel_rfl) ?_
            repeat (first | (refine wpOrd_pass rfl rfl ?_; simp only [Act.put, List.getElem_toArray, List.getElem_cons_succ, List.getElem_cons_zero, List.setIfInBounds_toArray, List.set_cons_zero, List.set_cons_succ]) | (refine wpOrd_free (v := ?_) rfl rfl (fun _ hS => ?_) ?_; rotate_left; (focus (go_simp; try with_reducible rfl)); simp only [Act.put, List.getElem_toArray, List.getElem_cons_succ, List.getElem_cons_zero, List.setIfInBounds_toArray, List.set_cons_zero, List.set_cons_succ]))
            refine ord_bool (j := 1) rfl (fun hb1 => ?_) (fun hb1 => ?_)
            rotate_left
            focus
              try (exfalso; first | (simp at hb1; done) | (simp at hb1; omega))
              all_goals
                (try simp only [hb1])
                repeat (first | (refine wpOrd_pass rfl rfl ?_; simp only [Act.put, List.getElem_toArray, List.getElem_cons_succ, List.getElem_cons_zero, List.setIfInBounds_toArray, List.set_cons_zero, List.set_cons_succ]) | (refine wpOrd_free (v := ?_) rfl rfl (fun _ hS => ?_) ?_; rotate_left; (focus (go_simp; try with_reducible rfl)); simp only [Act.put, List.getElem_toArray, List.getElem_cons_succ, List.getElem_cons_zero, List.setIfInBounds_toArray, List.set_cons_zero, List.set_cons_succ]))
                refine wpOrd_nil ?_
            rotate_right
            focus
              try (exfalso; first | (simp at hb1; done) | (simp at hb1; omega))
              all_goals
                (try simp only [hb1])
                repeat (first | (refine wpOrd_pass rfl rfl ?_; simp only [Act.put, List.getElem_toArray, List.getElem_cons_succ, List.getElem_cons_zero, List.setIfInBounds_toArray, List.set_cons_zero, List.set_cons_succ]) | (refine wpOrd_free (v := ?_) rfl rfl (fun _ hS => ?_) ?_; rotate_left; (focus (go_simp; try with_reducible rfl)); simp only [Act.put, List.getElem_toArray, List.getElem_cons_succ, List.getElem_cons_zero, List.setIfInBounds_toArray, List.set_cons_zero, List.set_cons_succ]))
                refine wpOrd_nil ?_
            go_wp2_with (at_builtin; refine wpList_arec rfl (((w.alloc (.cells #[.slice A n c] 38)).alloc (.cells #[.slice (some ⟨g, of, none⟩) m d] 38)).alloc (.cells #[.slice none 0 0] 38)) ((((w.alloc (.cells #[.slice A n c] 38)).alloc (.cells #[.slice (some ⟨g, of, none⟩) m d] 38)).alloc (.cells #[.slice none 0 0] 38))).heap.size rfl rfl _ _ rfl [q] rfl (by exact (by repeat (first | with_reducible exact Ext.refl _ | with_reducible exact Ext.same _ _ _ _ | with_reducible assumption | with_reducible apply Ext.alloc | with_reducible apply Ext.ext | with_reducible apply Ext.drew | (with_reducible refine Ext.setCell ?_ _ _ ?_; rotate_left; (focus (first | omega | (simp only [World.size_alloc, World.size_drew, size_ext, World.size_setCell]; omega))))))) (by exact Hown.out.of_ext (by repeat (first | with_reducible exact Ext.refl _ | with_reducible exact Ext.same _ _ _ _ | with_reducible assumption | with_reducible apply Ext.alloc | with_reducible apply Ext.ext | with_reducible apply Ext.drew | (with_reducible refine Ext.setCell ?_ _ _ ?_; rotate_left; (focus (first | omega | (simp only [World.size_alloc, World.size_drew, size_ext, World.size_setCell]; omega))))))) rfl rfl (Sl_at (encRec q) _ 11 1 _ rfl (by simp [World.size_alloc])) (by simp only [List.length_append, List.length_cons, List.length_nil]; omega) (fun v1 E1 d1 ho1 => ?_))
            exact ⟨⟨k + 1, by omega, by go_num, ⟨O1.out, (by repeat (first | with_reducible exact Ext.refl _ | with_reducible exact Ext.same _ _ _ _ | with_reducible assumption | with_reducible apply Ext.alloc | with_reducible apply Ext.ext | with_reducible apply Ext.drew | (with_reducible refine Ext.setCell ?_ _ _ ?_; rotate_left; (focus (first | omega | (simp only [World.size_alloc, World.size_drew, size_ext, World.size_setCell]; omega)))))), by rw [O2.out, ← List.append_assoc]; exact ho1⟩⟩, by simp [intOf]; omega⟩
        · obtain rfl : k = m := by omega
          have htk : b.take k = b := by rw [← hm]; exact List.take_length
          rw [htk] at Hno Hown
          obtain ⟨Av, nv, cv, rfl, hnv, hcv, hsv⟩ := Hown.out.open
          have hml := merge_length a b
          rw [← List.length_append, ← hnv] at hml
          have Hnv := hid hnv
          have Hml := hid hml
          clear hcv hsv htk
          by_cases hlong : 80 < nv
          · have HE := hid (joinE_long HC.out HC2.out Hno.out (by rw [Hml.out]; exact hlong))
            have HL := hid (joinL_err HE.out (by decide))
            clear hnv hml
            go_wp2_with fail
            refine bodyPost_ret (v := .tuple #[regV none 0 0, .int .i64 2]) (by simp [results, Try.results18, go_sem]) rfl ?_
            exact ⟨_, _, _, by rw [HE.out], hid (by rw [HL.out]; rfl), by rw [HL.out]; exact OwnR.none _ _, (by repeat (first | with_reducible exact Ext.refl _ | with_reducible exact Ext.same _ _ _ _ | with_reducible assumption | with_reducible apply Ext.alloc | with_reducible apply Ext.ext | with_reducible apply Ext.drew | (with_reducible refine Ext.setCell ?_ _ _ ?_; rotate_left; (focus (first | omega | (simp only [World.size_alloc, World.size_drew, size_ext, World.size_setCell]; omega))))))⟩
          · have HE := hid (joinE_ok HC.out HC2.out Hno.out (by rw [Hml.out]; exact hlong))
            have HL := hid (joinL_ok HE.out)
            clear hnv hml
            go_wp2_with fail
            refine (sort_own ((((w.alloc (.cells #[.slice A n c] 38)).alloc (.cells #[.slice B k d] 38)).alloc (.cells #[.slice none 0 0] 38))).heap.size _ _ _ (a ++ newL a b) _ Hnv.out.symm (by omega) Hown.out _ Eg.out joincmp_gr).mono ?_
            rintro e w1 ⟨rfl, l', hperm, hpw, ho2, hb2⟩
            obtain ⟨E2, d2, rfl⟩ : Ext (((w.alloc (.cells #[.slice A n c] 38)).alloc (.cells #[.slice B k d] 38)).alloc (.cells #[.slice none 0 0] 38)) w1 := Ext.of_below (Below.trans (Ext.below ((Ext.refl _).ext E9 d9)) hb2)
            obtain rfl : l' = mergeL a b := merge_unique HC.out HC2.out (by rw [Hml.out]; omega) hperm hpw.out
            clear hperm hpw hb2 Hown
            go_wp2_with fail
            refine bodyPost_ret (v := .tuple #[regV Av nv cv, .int .i64 0]) (by simp [results, Try.results18, go_sem]) rfl ?_
            refine ⟨_, _, _, by rw [HE.out], hid (by rw [HL.out, Hml.out]), ?_, (by repeat (first | with_reducible exact Ext.refl _ | with_reducible exact Ext.same _ _ _ _ | with_reducible assumption | with_reducible apply Ext.alloc | with_reducible apply Ext.ext | with_reducible apply Ext.drew | (with_reducible refine Ext.setCell ?_ _ _ ?_; rotate_left; (focus (first | omega | (simp only [World.size_alloc, World.size_drew, size_ext, World.size_setCell]; omega))))))⟩
            rw [HL.out]
            exact OwnR.moved (X := (((w.alloc (.cells #[.slice A n c] 38)).alloc (.cells #[.slice B k d] 38)).alloc (.cells #[.slice none 0 0] 38))) ho2 (by simp [World.size_alloc]) (Nat.le_refl _) (by simp only [World.size_alloc]; omega)
end Go.Proofs.Ytekjdeibnfaehaa
