/- The reference's Join. -/
import Derived.Test.YtekjdeibnfaehaaJoinP
set_option linter.unusedSimpArgs false
set_option linter.unusedVariables false
namespace Go.Proofs.Ytekjdeibnfaehaa
open Go Go.RowKit

set_option maxRecDepth 100000 in
set_option maxHeartbeats 8000000 in
theorem rJoin_any (A B : Option Addr) (n c m d : Nat) (a b : List Rec) (hn : a.length = n) (hm : b.length = m) (hbig : n ≤ 9223372036854775807) (hbig2 : m ≤ 9223372036854775807) (ht : TxtBig a) (ht2 : TxtBig b) (w : World) (hr : Recs w A a) (hs : Recs w B b) :
    Calls Try.prog 19 #[regV A n c, regV B m d] w fun e w' => ∃ A' n' c', e = .returned (.tuple #[regV A' n' c', .int .i64 (joinE a b)]) ∧ Hid (n' = (joinL a b).length) ∧ OwnR w.heap.size w' (.slice A' n' c') (joinL a b) ∧ Ext w w' := by
  cases hc : checkB a with
  | false =>
    have he := errReg_bad hc
    have HE := hid (joinE_left (b := b) hc)
    have HL := hid (joinL_err HE.out (by decide))
    clear hc
    go_enter Try.func19, Try.ntmps19
    go_wp2_with (go_at_call 24; refine (rCheck_any _ _ _ _ (by first | rfl | assumption) (by omega) (by assumption) _ (by with_reducible repeat (first | assumption | apply Recs.ext | apply Recs.alloc | apply Recs.drew | (refine Recs.of_ext ?_ (by assumption))))).mono ?_; rintro e w1 ⟨rfl, E1, d1, rfl⟩)
    refine bodyPost_ret (v := .tuple #[regV none 0 0, .int .i64 71]) (by simp [results, Try.results19, go_sem]) rfl ?_
    exact ⟨_, _, _, by rw [HE.out], hid (by rw [HL.out]; rfl), by rw [HL.out]; exact OwnR.none _ _, (by repeat (first | with_reducible exact Ext.refl _ | with_reducible exact Ext.same _ _ _ _ | with_reducible assumption | with_reducible apply Ext.alloc | with_reducible apply Ext.ext | with_reducible apply Ext.drew | (with_reducible refine Ext.setCell ?_ _ _ ?_; rotate_left; (focus (first | omega | (simp only [World.size_alloc, World.size_drew, size_ext, World.size_setCell]; omega))))))⟩
  | true =>
    have he := errReg_ok hc
    cases hc2 : checkB b with
    | false =>
      have he2 := errReg_bad hc2
      have HE := hid (joinE_right (a := a) hc2)
      have HL := hid (joinL_err HE.out (by decide))
      clear hc hc2
      go_enter Try.func19, Try.ntmps19
      go_wp2_with (go_at_call 24; refine (rCheck_any _ _ _ _ (by first | rfl | assumption) (by omega) (by assumption) _ (by with_reducible repeat (first | assumption | apply Recs.ext | apply Recs.alloc | apply Recs.drew | (refine Recs.of_ext ?_ (by assumption))))).mono ?_; rintro e w1 ⟨rfl, E1, d1, rfl⟩)
      refine bodyPost_ret (v := .tuple #[regV none 0 0, .int .i64 71]) (by simp [results, Try.results19, go_sem]) rfl ?_
      exact ⟨_, _, _, by rw [HE.out], hid (by rw [HL.out]; rfl), by rw [HL.out]; exact OwnR.none _ _, (by repeat (first | with_reducible exact Ext.refl _ | with_reducible exact Ext.same _ _ _ _ | with_reducible assumption | with_reducible apply Ext.alloc | with_reducible apply Ext.ext | with_reducible apply Ext.drew | (with_reducible refine Ext.setCell ?_ _ _ ?_; rotate_left; (focus (first | omega | (simp only [World.size_alloc, World.size_drew, size_ext, World.size_setCell]; omega))))))⟩
    | true =>
      have he2 := errReg_ok hc2
      obtain ⟨h80, _, hso⟩ := checkB_iff.1 hc
      obtain ⟨g80, _, hso2⟩ := checkB_iff.1 hc2
      have h80' : n ≤ 80 := by omega
      have g80' : m ≤ 80 := by omega
      have HC := hid hc
      have HC2 := hid hc2
      clear hc hc2
      go_enter Try.func19, Try.ntmps19
      go_wp2_with (first | (go_at_call 58; refine (rcopied_any _ _ _ _ (by first | rfl | assumption) (by omega) _ (by with_reducible repeat (first | assumption | apply Recs.ext | apply Recs.alloc | apply Recs.drew | (refine Recs.of_ext ?_ (by assumption))))).mono ?_; rintro e w1 ⟨Ac1, nc1, cc1, rfl, hnc1, hvc1, Ec, dc, rfl⟩) | (go_at_call 24; refine (rCheck_any _ _ _ _ (by first | rfl | assumption) (by omega) (by assumption) _ (by with_reducible repeat (first | assumption | apply Recs.ext | apply Recs.alloc | apply Recs.drew | (refine Recs.of_ext ?_ (by assumption))))).mono ?_; rintro e w1 ⟨rfl, E1, d1, rfl⟩))
      obtain ⟨Eb, hEb⟩ : ∃ Eb, Eb = E1 := ⟨_, rfl⟩
      obtain ⟨db, hdb⟩ : ∃ db, db = d1 := ⟨_, rfl⟩
      subst hEb hdb
      obtain ⟨Ea, hEb⟩ : ∃ Ea, Ea = E1 := ⟨_, rfl⟩
      obtain ⟨da, hdb⟩ : ∃ da, da = d1 := ⟨_, rfl⟩
      subst hEb hdb
      have Hvc := hid hvc1
      clear hvc1
      go_loopw [7] (fun i wr => ∃ (k : Nat) (v : Value), k ≤ m ∧ i = .int .i64 k ∧ (b.take k).any (clashR a) = false ∧ Ext (((((((w.alloc (.cells #[.slice A n c] 38)).alloc (.cells #[.slice B m d] 38)).alloc (.cells #[.slice none 0 0] 38)).ext Ea da).ext Eb db).ext Ec dc).alloc (.cells #[v] 38)) wr ∧ OwnR (((w.alloc (.cells #[.slice A n c] 38)).alloc (.cells #[.slice B m d] 38)).alloc (.cells #[.slice none 0 0] 38)).heap.size wr v (mergeL a (b.take k))) (fun i _ => m - (intOf i).toNat)
      case atStart =>
        refine ⟨0, _, Nat.zero_le _, rfl, by simp, Ext.refl _, ?_⟩
        rw [mergeL_zero]
        exact OwnR.base (Hvc.out.alloc _) (by simp only [size_ext]; omega)
      case round =>
        obtain ⟨k, v, hk, rfl, hno, ⟨E9, d9, rfl⟩, hown⟩ := hrel
        have Hno := hid hno
        have Hown := hid hown
        have hml := merge_length a (b.take k)
        have hnl := newL_len a b k
        clear hno hown Hvc
        by_cases hlt : k < m
        · have hkb : k < b.length := by omega
          obtain ⟨g, of, rfl, hg⟩ := hs.addr (by omega)
          have hrow := hs.row hkb
          have o1 := any_take_succ (clashR a) b hkb
          have o2 := merge_take_succ a b k hkb
          have o3 := any_of_get (clashR a) b hkb
          have o5 := @has_merge_new a b hso2 k hkb
          obtain ⟨q, hq⟩ : ∃ q, b[k] = q := ⟨_, rfl⟩
          rw [hq] at hrow o1 o2 o3 o5
          obtain ⟨h0, h1, h2, h3, h4, h5, h6, h7, h8, h9, h10⟩ := hrow
          cases hh : hasR a q.ao q.sq with
          | true =>
            obtain ⟨hp, ha⟩ := (hasR_pos hso q.ao q.sq).1 hh
            have hfi := findI_pos hso _ _ hh
            obtain ⟨ga, fa, rfl, hga⟩ := hr.addr (by omega)
            have hrx := hr.row hp
            have o4 := clashR_some hso hp ha
            obtain ⟨x, hx⟩ : ∃ x, a[posR a q.ao q.sq] = x := ⟨_, rfl⟩
            obtain ⟨p, hpp⟩ : ∃ p, posR a q.ao q.sq = p := ⟨_, rfl⟩
            rw [hx] at hrx o4
            rw [hpp] at hrx hp hfi
            obtain ⟨x0, x1, x2, x3, x4, x5, x6, x7, x8, x9, x10⟩ := hrx
            have hpn : p < n := by omega
            rw [hh, if_pos rfl] at o2
            cases heq : recEqB x q with
            | true =>
              rw [heq] at o4
              have O1 := hid (show (b.take (k + 1)).any (clashR a) = false by rw [o1, Hno.out, o4]; rfl)
              have O2 := hid o2
              clear o1 o2 o3 o4 o5 hq ha hx hml
              go_wp2_with fail
              refine wp_region_ord_same (.f 0 (.f 1 (.f 2 (.f 3 (.f 4 (.f 5 (.f 6 (.a 7 (.f 8 .d))))))))) (by kernel_rfl) (by kernel_rfl) ?_
              repeat (first | (refine wpOrd_pass rfl rfl ?_; simp only [Act.put, List.getElem_toArray, List.getElem_cons_succ, List.getElem_cons_zero, List.setIfInBounds_toArray, List.set_cons_zero, List.set_cons_succ]) | (refine wpOrd_free (v := ?_) rfl rfl (fun _ hS => ?_) ?_; rotate_left; (focus (go_simp; try with_reducible rfl)); simp only [Act.put, List.getElem_toArray, List.getElem_cons_succ, List.getElem_cons_zero, List.setIfInBounds_toArray, List.set_cons_zero, List.set_cons_succ]))
              refine wpOrd_call rfl rfl rfl Try.call59 (fun R hR => ?_)
              go_simp
              refine (rfind_any _ _ _ _ _ _ (by first | rfl | assumption) (by omega) _ (by with_reducible repeat (first | assumption | apply Recs.ext | apply Recs.alloc | apply Recs.drew | (refine Recs.of_ext ?_ (by assumption))))).mono ?_
              rintro e w1 ⟨rfl, E1, d1, rfl⟩
              refine hR _ _ ⟨_, rfl, ?_, ?_⟩
              · (first | exact fun b o hb => Ext.cellOf (by repeat (first | with_reducible exact Ext.refl _ | with_reducible exact Ext.same _ _ _ _ | with_reducible assumption | with_reducible apply Ext.alloc | with_reducible apply Ext.ext | with_reducible apply Ext.drew | (with_reducible refine Ext.setCell ?_ _ _ ?_; rotate_left; (focus (first | omega | (simp only [World.size_alloc, World.size_drew, size_ext, World.size_setCell]; omega)))))) hb | (intro b o hb; (try simp only [size_ext, World.size_alloc, World.size_drew, World.size_setCell] at hb); go_simp; try rfl))
              clear hR R
              simp only [Act.put, List.getElem_toArray, List.getElem_cons_succ, List.getElem_cons_zero, List.setIfInBounds_toArray, List.set_cons_zero, List.set_cons_succ]
              repeat (first | (refine wpOrd_pass rfl rfl ?_; simp only [Act.put, List.getElem_toArray, List.getElem_cons_succ, List.getElem_cons_zero, List.setIfInBounds_toArray, List.set_cons_zero, List.set_cons_succ]) | (refine wpOrd_free (v := ?_) rfl rfl (fun _ hS => ?_) ?_; rotate_left; (focus (go_simp; try with_reducible rfl)); simp only [Act.put, List.getElem_toArray, List.getElem_cons_succ, List.getElem_cons_zero, List.setIfInBounds_toArray, List.set_cons_zero, List.set_cons_succ]))
              refine wpOrd_nil ?_
              go_wp2_with fail
              refine wp_region_ord_same (.f 0 (.f 1 (.f 2 (.f 3 (.f 4 (.f 5 (.f 6 (.f 7 (.f 8 (.f 9 (.f 10 (.f 11 (.f 12 (.f 13 (.f 14 .d))))))))))))))) (by kernel_rfl) (by kernel_rfl) ?_
              repeat (first | (refine wpOrd_pass rfl rfl ?_; simp only [Act.put, List.getElem_toArray, List.getElem_cons_succ, List.getElem_cons_zero, List.setIfInBounds_toArray, List.set_cons_zero, List.set_cons_succ]) | (refine wpOrd_free (v := ?_) rfl rfl (fun _ hS => ?_) ?_; rotate_left; (focus (go_simp; try with_reducible rfl)); simp only [Act.put, List.getElem_toArray, List.getElem_cons_succ, List.getElem_cons_zero, List.setIfInBounds_toArray, List.set_cons_zero, List.set_cons_succ]))
              refine ord_bool (j := 2) rfl (fun hb2 => ?_) (fun hb2 => ?_)
              rotate_left
              focus
                try (exfalso; first | (simp at hb2; done) | (simp at hb2; omega))
                all_goals
                  (try simp only [hb2])
                  repeat (first | (refine wpOrd_pass rfl rfl ?_; simp only [Act.put, List.getElem_toArray, List.getElem_cons_succ, List.getElem_cons_zero, List.setIfInBounds_toArray, List.set_cons_zero, List.set_cons_succ]) | (refine wpOrd_free (v := ?_) rfl rfl (fun _ hS => ?_) ?_; rotate_left; (focus (go_simp; try with_reducible rfl)); simp only [Act.put, List.getElem_toArray, List.getElem_cons_succ, List.getElem_cons_zero, List.setIfInBounds_toArray, List.set_cons_zero, List.set_cons_succ]))
                  refine wpOrd_nil ?_
              rotate_right
              focus
                try (exfalso; first | (simp at hb2; done) | (simp at hb2; omega))
                all_goals
                  (try simp only [hb2])
                  repeat (first | (refine wpOrd_pass rfl rfl ?_; simp only [Act.put, List.getElem_toArray, List.getElem_cons_succ, List.getElem_cons_zero, List.setIfInBounds_toArray, List.set_cons_zero, List.set_cons_succ]) | (refine wpOrd_free (v := ?_) rfl rfl (fun _ hS => ?_) ?_; rotate_left; (focus (go_simp; try with_reducible rfl)); simp only [Act.put, List.getElem_toArray, List.getElem_cons_succ, List.getElem_cons_zero, List.setIfInBounds_toArray, List.set_cons_zero, List.set_cons_succ]))
                  refine wpOrd_nil ?_
              go_wp2_with fail
              exact ⟨⟨k + 1, v, by omega, by go_num, O1.out, (by repeat (first | with_reducible exact Ext.refl _ | with_reducible exact Ext.same _ _ _ _ | with_reducible assumption | with_reducible apply Ext.alloc | with_reducible apply Ext.ext | with_reducible apply Ext.drew | (with_reducible refine Ext.setCell ?_ _ _ ?_; rotate_left; (focus (first | omega | (simp only [World.size_alloc, World.size_drew, size_ext, World.size_setCell]; omega)))))), by rw [O2.out]; exact Hown.out.of_ext (by repeat (first | with_reducible exact Ext.refl _ | with_reducible exact Ext.same _ _ _ _ | with_reducible assumption | with_reducible apply Ext.alloc | with_reducible apply Ext.ext | with_reducible apply Ext.drew | (with_reducible refine Ext.setCell ?_ _ _ ?_; rotate_left; (focus (first | omega | (simp only [World.size_alloc, World.size_drew, size_ext, World.size_setCell]; omega))))))⟩, by simp [intOf]; omega⟩
            | false =>
              rw [heq] at o4
              have HE := hid (joinE_two HC.out HC2.out (o3 o4))
              have HL := hid (joinL_err HE.out (by decide))
              clear o1 o2 o3 o4 o5 hq ha hx hml
              go_wp2_with fail
              refine wp_region_ord_same (.f 0 (.f 1 (.f 2 (.f 3 (.f 4 (.f 5 (.f 6 (.a 7 (.f 8 .d))))))))) (by kernel_rfl) (by kernel_rfl) ?_
              repeat (first | (refine wpOrd_pass rfl rfl ?_; simp only [Act.put, List.getElem_toArray, List.getElem_cons_succ, List.getElem_cons_zero, List.setIfInBounds_toArray, List.set_cons_zero, List.set_cons_succ]) | (refine wpOrd_free (v := ?_) rfl rfl (fun _ hS => ?_) ?_; rotate_left; (focus (go_simp; try with_reducible rfl)); simp only [Act.put, List.getElem_toArray, List.getElem_cons_succ, List.getElem_cons_zero, List.setIfInBounds_toArray, List.set_cons_zero, List.set_cons_succ]))
              refine wpOrd_call rfl rfl rfl Try.call59 (fun R hR => ?_)
              go_simp
              refine (rfind_any _ _ _ _ _ _ (by first | rfl | assumption) (by omega) _ (by with_reducible repeat (first | assumption | apply Recs.ext | apply Recs.alloc | apply Recs.drew | (refine Recs.of_ext ?_ (by assumption))))).mono ?_
              rintro e w1 ⟨rfl, E1, d1, rfl⟩
              refine hR _ _ ⟨_, rfl, ?_, ?_⟩
              · (first | exact fun b o hb => Ext.cellOf (by repeat (first | with_reducible exact Ext.refl _ | with_reducible exact Ext.same _ _ _ _ | with_reducible assumption | with_reducible apply Ext.alloc | with_reducible apply Ext.ext | with_reducible apply Ext.drew | (with_reducible refine Ext.setCell ?_ _ _ ?_; rotate_left; (focus (first | omega | (simp only [World.size_alloc, World.size_drew, size_ext, World.size_setCell]; omega)))))) hb | (intro b o hb; (try simp only [size_ext, World.size_alloc, World.size_drew, World.size_setCell] at hb); go_simp; try rfl))
              clear hR R
              simp only [Act.put, List.getElem_toArray, List.getElem_cons_succ, List.getElem_cons_zero, List.setIfInBounds_toArray, List.set_cons_zero, List.set_cons_succ]
              repeat (first | (refine wpOrd_pass rfl rfl ?_; simp only [Act.put, List.getElem_toArray, List.getElem_cons_succ, List.getElem_cons_zero, List.setIfInBounds_toArray, List.set_cons_zero, List.set_cons_succ]) | (refine wpOrd_free (v := ?_) rfl rfl (fun _ hS => ?_) ?_; rotate_left; (focus (go_simp; try with_reducible rfl)); simp only [Act.put, List.getElem_toArray, List.getElem_cons_succ, List.getElem_cons_zero, List.setIfInBounds_toArray, List.set_cons_zero, List.set_cons_succ]))
              refine wpOrd_nil ?_
              go_wp2_with fail
              refine wp_region_ord_same (.f 0 (.f 1 (.f 2 (.f 3 (.f 4 (.f 5 (.f 6 (.f 7 (.f 8 (.f 9 (.f 10 (.f 11 (.f 12 (.f 13 (.f 14 .d))))))))))))))) (by kernel_rfl) (by kernel_rfl) ?_
              repeat (first | (refine wpOrd_pass rfl rfl ?_; simp only [Act.put, List.getElem_toArray, List.getElem_cons_succ, List.getElem_cons_zero, List.setIfInBounds_toArray, List.set_cons_zero, List.set_cons_succ]) | (refine wpOrd_free (v := ?_) rfl rfl (fun _ hS => ?_) ?_; rotate_left; (focus (go_simp; try with_reducible rfl)); simp only [Act.put, List.getElem_toArray, List.getElem_cons_succ, List.getElem_cons_zero, List.setIfInBounds_toArray, List.set_cons_zero, List.set_cons_succ]))
              refine ord_bool (j := 2) rfl (fun hb2 => ?_) (fun hb2 => ?_)
              rotate_left
              focus
                try (exfalso; first | (simp at hb2; done) | (simp at hb2; omega))
                all_goals
                  (try simp only [hb2])
                  repeat (first | (refine wpOrd_pass rfl rfl ?_; simp only [Act.put, List.getElem_toArray, List.getElem_cons_succ, List.getElem_cons_zero, List.setIfInBounds_toArray, List.set_cons_zero, List.set_cons_succ]) | (refine wpOrd_free (v := ?_) rfl rfl (fun _ hS => ?_) ?_; rotate_left; (focus (go_simp; try with_reducible rfl)); simp only [Act.put, List.getElem_toArray, List.getElem_cons_succ, List.getElem_cons_zero, List.setIfInBounds_toArray, List.set_cons_zero, List.set_cons_succ]))
                  refine wpOrd_nil ?_
              rotate_right
              focus
                try (exfalso; first | (simp at hb2; done) | (simp at hb2; omega))
                all_goals
                  (try simp only [hb2])
                  repeat (first | (refine wpOrd_pass rfl rfl ?_; simp only [Act.put, List.getElem_toArray, List.getElem_cons_succ, List.getElem_cons_zero, List.setIfInBounds_toArray, List.set_cons_zero, List.set_cons_succ]) | (refine wpOrd_free (v := ?_) rfl rfl (fun _ hS => ?_) ?_; rotate_left; (focus (go_simp; try with_reducible rfl)); simp only [Act.put, List.getElem_toArray, List.getElem_cons_succ, List.getElem_cons_zero, List.setIfInBounds_toArray, List.set_cons_zero, List.set_cons_succ]))
                  refine wpOrd_nil ?_
              go_wp2_with fail
              refine bodyPost_ret (v := .tuple #[regV none 0 0, .int .i64 72]) (by simp [results, Try.results19, go_sem]) rfl ?_
              exact ⟨_, _, _, by rw [HE.out], hid (by rw [HL.out]; rfl), by rw [HL.out]; exact OwnR.none _ _, (by repeat (first | with_reducible exact Ext.refl _ | with_reducible exact Ext.same _ _ _ _ | with_reducible assumption | with_reducible apply Ext.alloc | with_reducible apply Ext.ext | with_reducible apply Ext.drew | (with_reducible refine Ext.setCell ?_ _ _ ?_; rotate_left; (focus (first | omega | (simp only [World.size_alloc, World.size_drew, size_ext, World.size_setCell]; omega))))))⟩
          | false =>
            have o4 := clashR_none hh
            have hfi : findI a q.ao q.sq = -1 := by simp [findI, hh]
            rw [hh, if_neg (by decide)] at o2
            have hmg := (merge_sorted hso (List.Pairwise.take (i := k) hso2 : Sorted (b.take k)))
            have O1 := hid (show (b.take (k + 1)).any (clashR a) = false by rw [o1, Hno.out, o4]; rfl)
            have O2 := hid (show mergeL a (b.take (k + 1)) = insG (mergeL a (b.take k)) q by rw [o2, insG_eq hmg (o5 hh)])
            clear o1 o2 o3 o4 o5 hq hmg
            obtain ⟨Av, nv, cv, rfl, hnv, hcv, hsv⟩ := Hown.out.open
            have hnv' : (mergeL a (b.take k)).length = nv := hnv.symm
            have hnv8 : nv ≤ 160 := by omega
            have hsvd := fun d' => Recs.of_ext hsv (Ext.same _ _ _ d')
            clear hml hnv
            go_wp2_with fail
            refine wp_region_ord_same (.f 0 (.f 1 (.f 2 (.f 3 (.f 4 (.f 5 (.f 6 (.a 7 (.f 8 .d))))))))) (by kernel_rfl) (by kernel_rfl) ?_
            repeat (first | (refine wpOrd_pass rfl rfl ?_; simp only [Act.put, List.getElem_toArray, List.getElem_cons_succ, List.getElem_cons_zero, List.setIfInBounds_toArray, List.set_cons_zero, List.set_cons_succ]) | (refine wpOrd_free (v := ?_) rfl rfl (fun _ hS => ?_) ?_; rotate_left; (focus (go_simp; try with_reducible rfl)); simp only [Act.put, List.getElem_toArray, List.getElem_cons_succ, List.getElem_cons_zero, List.setIfInBounds_toArray, List.set_cons_zero, List.set_cons_succ]))
            refine wpOrd_call rfl rfl rfl Try.call59 (fun R hR => ?_)
            go_simp
            refine (rfind_any _ _ _ _ _ _ (by first | rfl | assumption) (by omega) _ (by with_reducible repeat (first | assumption | apply Recs.ext | apply Recs.alloc | apply Recs.drew | (refine Recs.of_ext ?_ (by assumption))))).mono ?_
            rintro e w1 ⟨rfl, E1, d1, rfl⟩
            refine hR _ _ ⟨_, rfl, ?_, ?_⟩
            · (first | exact fun b o hb => Ext.cellOf (by repeat (first | with_reducible exact Ext.refl _ | with_reducible exact Ext.same _ _ _ _ | with_reducible assumption | with_reducible apply Ext.alloc | with_reducible apply Ext.ext | with_reducible apply Ext.drew | (with_reducible refine Ext.setCell ?_ _ _ ?_; rotate_left; (focus (first | omega | (simp only [World.size_alloc, World.size_drew, size_ext, World.size_setCell]; omega)))))) hb | (intro b o hb; (try simp only [size_ext, World.size_alloc, World.size_drew, World.size_setCell] at hb); go_simp; try rfl))
            clear hR R
            simp only [Act.put, List.getElem_toArray, List.getElem_cons_succ, List.getElem_cons_zero, List.setIfInBounds_toArray, List.set_cons_zero, List.set_cons_succ]
            repeat (first | (refine wpOrd_pass rfl rfl ?_; simp only [Act.put, List.getElem_toArray, List.getElem_cons_succ, List.getElem_cons_zero, List.setIfInBounds_toArray, List.set_cons_zero, List.set_cons_succ]) | (refine wpOrd_free (v := ?_) rfl rfl (fun _ hS => ?_) ?_; rotate_left; (focus (go_simp; try with_reducible rfl)); simp only [Act.put, List.getElem_toArray, List.getElem_cons_succ, List.getElem_cons_zero, List.setIfInBounds_toArray, List.set_cons_zero, List.set_cons_succ]))
            refine wpOrd_nil ?_
            go_wp2_with fail
            refine wp_region_ord_same (.f 0 (.f 1 (.f 2 (.f 3 (.f 4 (.f 5 (.f 6 (.f 7 (.f 8 (.f 9 (.f 10 (.f 11 (.f 12 (.f 13 (.f 14 .d))))))))))))))) (by kernel_rfl) (by kernel_rfl) ?_
            repeat (first | (refine wpOrd_pass rfl rfl ?_; simp only [Act.put, List.getElem_toArray, List.getElem_cons_succ, List.getElem_cons_zero, List.setIfInBounds_toArray, List.set_cons_zero, List.set_cons_succ]) | (refine wpOrd_free (v := ?_) rfl rfl (fun _ hS => ?_) ?_; rotate_left; (focus (go_simp; try with_reducible rfl)); simp only [Act.put, List.getElem_toArray, List.getElem_cons_succ, List.getElem_cons_zero, List.setIfInBounds_toArray, List.set_cons_zero, List.set_cons_succ]))
            refine ord_bool (j := 2) rfl (fun hb2 => ?_) (fun hb2 => ?_)
            rotate_left
            focus
              try (exfalso; first | (simp at hb2; done) | (simp at hb2; omega))
              all_goals
                (try simp only [hb2])
                repeat (first | (refine wpOrd_pass rfl rfl ?_; simp only [Act.put, List.getElem_toArray, List.getElem_cons_succ, List.getElem_cons_zero, List.setIfInBounds_toArray, List.set_cons_zero, List.set_cons_succ]) | (refine wpOrd_free (v := ?_) rfl rfl (fun _ hS => ?_) ?_; rotate_left; (focus (go_simp; try with_reducible rfl)); simp only [Act.put, List.getElem_toArray, List.getElem_cons_succ, List.getElem_cons_zero, List.setIfInBounds_toArray, List.set_cons_zero, List.set_cons_succ]))
                refine wpOrd_nil ?_
            rotate_right
            focus
              try (exfalso; first | (simp at hb2; done) | (simp at hb2; omega))
              all_goals
                (try simp only [hb2])
                repeat (first | (refine wpOrd_pass rfl rfl ?_; simp only [Act.put, List.getElem_toArray, List.getElem_cons_succ, List.getElem_cons_zero, List.setIfInBounds_toArray, List.set_cons_zero, List.set_cons_succ]) | (refine wpOrd_free (v := ?_) rfl rfl (fun _ hS => ?_) ?_; rotate_left; (focus (go_simp; try with_reducible rfl)); simp only [Act.put, List.getElem_toArray, List.getElem_cons_succ, List.getElem_cons_zero, List.setIfInBounds_toArray, List.set_cons_zero, List.set_cons_succ]))
                refine wpOrd_nil ?_
            go_wp2_with fail
            refine wp_region_ord (.f 1 (.f 2 (.f 3 (.f 4 (.f 5 (.a 0 (.a 6 (.a 7 .d)))))))) (Ext (((((((w.alloc (.cells #[.slice A n c] 38)).alloc (.cells #[.slice (some ⟨g, of, none⟩) m d] 38)).alloc (.cells #[.slice none 0 0] 38)).ext Ea da).ext Eb db).ext Ec dc))) (by kernel_rfl) (by kernel_rfl) (by repeat (first | with_reducible exact Ext.refl _ | with_reducible exact Ext.same _ _ _ _ | with_reducible assumption | with_reducible apply Ext.alloc | with_reducible apply Ext.ext | with_reducible apply Ext.drew | (with_reducible refine Ext.setCell ?_ _ _ ?_; rotate_left; (focus (first | omega | (simp only [World.size_alloc, World.size_drew, size_ext, World.size_setCell]; omega)))) | (with_reducible refine Ext.trans ?_ (by assumption)))) ?_
            repeat (first | (refine wpOrd_pass rfl rfl ?_; simp only [Act.put, List.getElem_toArray, List.getElem_cons_succ, List.getElem_cons_zero, List.setIfInBounds_toArray, List.set_cons_zero, List.set_cons_succ]) | (refine wpOrd_free (v := ?_) rfl rfl (fun _ hS => ?_) ?_; rotate_left; (focus (obtain ⟨E9, d9, rfl⟩ := hS; go_simp; try with_reducible rfl)); simp only [Act.put, List.getElem_toArray, List.getElem_cons_succ, List.getElem_cons_zero, List.setIfInBounds_toArray, List.set_cons_zero, List.set_cons_succ]))
            refine wpOrd_act rfl rfl (fun K hK => ?_)
            go_simp
            refine hK _ _ ⟨?_, ?_⟩
            · exact (by repeat (first | with_reducible exact Ext.refl _ | with_reducible exact Ext.same _ _ _ _ | with_reducible assumption | with_reducible apply Ext.alloc | with_reducible apply Ext.ext | with_reducible apply Ext.drew | (with_reducible refine Ext.setCell ?_ _ _ ?_; rotate_left; (focus (first | omega | (simp only [World.size_alloc, World.size_drew, size_ext, World.size_setCell]; omega)))) | (with_reducible refine Ext.trans ?_ (by assumption))))
            clear hK K
            try simp only [Act.put, List.getElem_toArray, List.getElem_cons_succ, List.getElem_cons_zero, List.setIfInBounds_toArray, List.set_cons_zero, List.set_cons_succ]
            refine wpOrd_call rfl rfl rfl Try.call60 (fun R hR => ?_)
            go_simp
            refine (rinsert_own _ _ _ _ _ (by first | rfl | assumption) (by omega) _ (by with_reducible repeat (first | assumption | exact hsvd _ | apply Recs.ext | apply Recs.alloc | apply Recs.drew | (refine Recs.of_ext ?_ (by assumption))))).mono ?_
            rintro e w1 ⟨Ai201, ni201, ci201, rfl, hni201, hvi201, E201, d201, rfl⟩
            refine hR _ _ ⟨_, rfl, ?_, ?_⟩
            · exact (by repeat (first | with_reducible exact Ext.refl _ | with_reducible exact Ext.same _ _ _ _ | with_reducible assumption | with_reducible apply Ext.alloc | with_reducible apply Ext.ext | with_reducible apply Ext.drew | (with_reducible refine Ext.setCell ?_ _ _ ?_; rotate_left; (focus (first | omega | (simp only [World.size_alloc, World.size_drew, size_ext, World.size_setCell]; omega)))) | (with_reducible refine Ext.trans ?_ (by assumption))))
            clear hR R
            simp only [Act.put, List.getElem_toArray, List.getElem_cons_succ, List.getElem_cons_zero, List.setIfInBounds_toArray, List.set_cons_zero, List.set_cons_succ]
            refine wpOrd_act rfl rfl (fun K hK => ?_)
            go_simp
            refine hK _ _ ⟨?_, ?_⟩
            · exact (by repeat (first | with_reducible exact Ext.refl _ | with_reducible exact Ext.same _ _ _ _ | with_reducible assumption | with_reducible apply Ext.alloc | with_reducible apply Ext.ext | with_reducible apply Ext.drew | (with_reducible refine Ext.setCell ?_ _ _ ?_; rotate_left; (focus (first | omega | (simp only [World.size_alloc, World.size_drew, size_ext, World.size_setCell]; omega)))) | (with_reducible refine Ext.trans ?_ (by assumption))))
            clear hK K
            try simp only [Act.put, List.getElem_toArray, List.getElem_cons_succ, List.getElem_cons_zero, List.setIfInBounds_toArray, List.set_cons_zero, List.set_cons_succ]
            refine wpOrd_nil ?_
            go_wp2_with fail
            refine ⟨⟨k + 1, _, by omega, by go_num, O1.out, (by repeat (first | with_reducible exact Ext.refl _ | with_reducible exact Ext.same _ _ _ _ | with_reducible assumption | with_reducible apply Ext.alloc | with_reducible apply Ext.ext | with_reducible apply Ext.drew | (with_reducible refine Ext.setCell ?_ _ _ ?_; rotate_left; (focus (first | omega | (simp only [World.size_alloc, World.size_drew, size_ext, World.size_setCell]; omega)))))), ?_⟩, by simp [intOf]; omega⟩
            rw [O2.out]
            have Ho := hvi201
            simp only [ext_ext] at Ho ⊢
            exact OwnR.moved (X := ((((w.alloc (.cells #[.slice A n c] 38)).alloc (.cells #[.slice (some ⟨g, of, none⟩) m d] 38)).alloc (.cells #[.slice none 0 0] 38)).ext (Ea ++ Eb ++ Ec) dc).alloc (.cells #[.slice Av nv cv] 38)) Ho (by simp only [World.size_alloc, size_ext]) (by simp only [World.size_alloc, size_ext]; omega) (by simp only [World.size_alloc, size_ext]; omega)
        · obtain rfl : k = m := by omega
          have htk : b.take k = b := by rw [← hm]; exact List.take_length
          rw [htk] at Hno Hown
          obtain ⟨Av, nv, cv, rfl, hnv, hcv, hsv⟩ := Hown.out.open
          have Hnv := hid hnv
          clear hcv hsv htk hml
          by_cases hlong : 80 < nv
          · have HE := hid (joinE_long HC.out HC2.out Hno.out (by rw [← Hnv.out]; exact hlong))
            have HL := hid (joinL_err HE.out (by decide))
            clear hnv
            go_wp2_with fail
            refine bodyPost_ret (v := .tuple #[regV none 0 0, .int .i64 2]) (by simp [results, Try.results19, go_sem]) rfl ?_
            exact ⟨_, _, _, by rw [HE.out], hid (by rw [HL.out]; rfl), by rw [HL.out]; exact OwnR.none _ _, (by repeat (first | with_reducible exact Ext.refl _ | with_reducible exact Ext.same _ _ _ _ | with_reducible assumption | with_reducible apply Ext.alloc | with_reducible apply Ext.ext | with_reducible apply Ext.drew | (with_reducible refine Ext.setCell ?_ _ _ ?_; rotate_left; (focus (first | omega | (simp only [World.size_alloc, World.size_drew, size_ext, World.size_setCell]; omega))))))⟩
          · have HE := hid (joinE_ok HC.out HC2.out Hno.out (by rw [← Hnv.out]; exact hlong))
            have HL := hid (joinL_ok HE.out)
            clear hnv
            go_wp2_with fail
            refine bodyPost_ret (v := .tuple #[regV Av nv cv, .int .i64 0]) (by simp [results, Try.results19, go_sem]) rfl ?_
            refine ⟨_, _, _, by rw [HE.out], hid (by rw [HL.out, ← Hnv.out]), ?_, (by repeat (first | with_reducible exact Ext.refl _ | with_reducible exact Ext.same _ _ _ _ | with_reducible assumption | with_reducible apply Ext.alloc | with_reducible apply Ext.ext | with_reducible apply Ext.drew | (with_reducible refine Ext.setCell ?_ _ _ ?_; rotate_left; (focus (first | omega | (simp only [World.size_alloc, World.size_drew, size_ext, World.size_setCell]; omega))))))⟩
            rw [HL.out]
            have Ho := Hown.out
            simp only [alloc_ext, ext_ext] at Ho ⊢
            exact OwnR.moved (X := (((w.alloc (.cells #[.slice A n c] 38)).alloc (.cells #[.slice B k d] 38)).alloc (.cells #[.slice none 0 0] 38))) Ho (by simp [World.size_alloc]) (Nat.le_refl _) (by simp only [World.size_alloc]; omega)
end Go.Proofs.Ytekjdeibnfaehaa
