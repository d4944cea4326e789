/- Parts of a register that numbers choose. -/
import Derived.Test.YtekjdeibnfaehaaArgs
import Derived.Test.YtekjdeibnfaehaaPart
set_option linter.unusedSimpArgs false
set_option linter.unusedVariables false
namespace Go.Proofs.Ytekjdeibnfaehaa
open Go Go.RowKit

theorem Ints.at_ {w : World} {A : Option Addr} {l : List Int} (h : Ints w A l) {i : Nat} (hi : i < l.length) : ∃ g o, A = some ⟨g, o, none⟩ ∧ g < w.heap.size ∧ w.cell? ⟨g, o + i, none⟩ = some (.int .i64 l[i]) := by
  obtain ⟨g, o, hA, hg, hc⟩ := h.2 (by omega)
  exact ⟨g, o, hA, hg, hc i _ (by rw [List.getElem?_map, List.getElem?_eq_getElem hi]; rfl)⟩
theorem Ints.of_ext {w w' : World} {A : Option Addr} {l : List Int} (h : Ints w A l) (hx : Ext w w') : Ints w' A l := Sl.of_ext h hx
set_option maxRecDepth 100000 in
set_option maxHeartbeats 2000000 in
theorem At_any (A : Option Addr) (n c : Nat) (l : List Int) (i : Int) (hn : l.length = n) (hbig : n ≤ 4611686018427387904) (w : World) (hr : Ints w A l) :
    Calls Try.prog 83 #[.slice A n c, .int .i64 i] w fun e w' => ∃ v, e = .returned (.int .i64 v) ∧ Ext w w' := by
  by_cases h0 : n = 0
  · subst h0
    go_enter Try.func83, Try.ntmps83
    go_wp2_with fail
    go_ret
    exact ⟨_, ret_val rfl, (by repeat (first | with_reducible exact Ext.refl _ | with_reducible exact Ext.same _ _ _ _ | with_reducible assumption | with_reducible apply Ext.alloc | with_reducible apply Ext.ext | with_reducible apply Ext.drew | (with_reducible refine Ext.setCell ?_ _ _ ?_; rotate_left; (focus (first | omega | (simp only [World.size_alloc, World.size_drew, size_ext, World.size_setCell]; omega))))))⟩
  · have b0 : ((n : Int) == 0) = false := by simpa using h0
    have i0 := Int.emod_nonneg i (show (n : Int) ≠ 0 by omega)
    have i1 := Int.emod_lt_of_pos i (show (0 : Int) < n by omega)
    obtain ⟨k, hk⟩ : ∃ k : Nat, i % (n : Int) = k := ⟨(i % (n : Int)).toNat, by omega⟩
    have hkn : k < n := by omega
    obtain ⟨g, o, rfl, hg, hc⟩ := hr.at_ (i := k) (by omega)
    obtain ⟨v, hv⟩ : ∃ v, l[k] = v := ⟨_, rfl⟩
    rw [hv] at hc
    clear i0 i1 hr hv
    go_enter Try.func83, Try.ntmps83
    go_wp2_with (go_at_call 30; refine (Mod_any _ _ (by omega) (by omega) _).mono ?_; rintro e w1 ⟨rfl, rfl⟩)
    all_goals
      go_ret
      exact ⟨_, ret_val rfl, (by repeat (first | with_reducible exact Ext.refl _ | with_reducible exact Ext.same _ _ _ _ | with_reducible assumption | with_reducible apply Ext.alloc | with_reducible apply Ext.ext | with_reducible apply Ext.drew | (with_reducible refine Ext.setCell ?_ _ _ ?_; rotate_left; (focus (first | omega | (simp only [World.size_alloc, World.size_drew, size_ext, World.size_setCell]; omega))))))⟩

set_option maxRecDepth 100000 in
set_option maxHeartbeats 4000000 in
theorem some_any (A B : Option Addr) (n c m q : Nat) (l : List Rec) (p : List Int) (b : Int) (hn : l.length = n) (hbig : n ≤ 100000) (hm : p.length = m) (hbig2 : m ≤ 4611686018427387904) (hb : b ≠ 0) (w : World) (hr : Recs w A l) (hp : Ints w B p) :
    Calls Try.prog 41 #[regV A n c, .slice B m q, .int .i64 b] w fun e w' => ∃ A' n' c' x, e = .returned (regV A' n' c') ∧ Hid (n' = x.length) ∧ OwnR w.heap.size w' (.slice A' n' c') x ∧ Hid (x.Sublist l) ∧ Ext w w' := by
  have hb0 : (b == 0) = false := by simpa using hb
  go_enter Try.func41, Try.ntmps41
  go_wp2_with fail
  go_loopw [8] (fun i wr => ∃ (k : Nat) (v : Value) (x : List Rec), k ≤ n ∧ i = .int .i64 k ∧ Ext (((w.alloc (.cells #[.slice A n c] 38)).alloc (.cells #[.slice none 0 0] 38)).alloc (.cells #[v] 38)) wr ∧ OwnR (w.heap.size + 1 + 1 + 1) wr v x ∧ Hid (x.Sublist (l.take k))) (fun i _ => n - (intOf i).toNat)
  case atStart => exact ⟨0, _, [], Nat.zero_le _, rfl, Ext.refl _, OwnR.none _ _, hid (List.nil_sublist _)⟩
  case round =>
    obtain ⟨k, v, x, hk, rfl, ⟨E9, d9, rfl⟩, hown, hsub⟩ := hrel
    have Hown := hid hown
    clear hown
    by_cases hlt : k < n
    · have hkl : k < l.length := by omega
      obtain ⟨g0, of, rfl, hg⟩ := hr.addr (by omega)
      have hrow := hr.row hkl
      obtain ⟨y, hy⟩ : ∃ y, l[k] = y := ⟨_, rfl⟩
      rw [hy] at hrow
      obtain ⟨h0, h1, h2, h3, h4, h5, h6, h7, h8, h9, h10⟩ := hrow
      have HY : Hid (l.take (k + 1) = l.take k ++ [y]) := hid (by rw [List.take_succ_eq_append_getElem hkl, hy])
      have Hlen : Hid (x.length ≤ k) := hid (by have := hsub.out.length_le; rw [List.length_take] at this; omega)
      clear hy
      go_wp2_with (first | (go_at_call 83; refine (At_any _ _ _ _ _ (by first | rfl | assumption) (by omega) _ (by first | assumption | (refine Ints.of_ext (by assumption) (by repeat (first | with_reducible exact Ext.refl _ | with_reducible exact Ext.same _ _ _ _ | with_reducible assumption | with_reducible apply Ext.alloc | with_reducible apply Ext.ext | with_reducible apply Ext.drew | (with_reducible refine Ext.setCell ?_ _ _ ?_; rotate_left; (focus (first | omega | (simp only [World.size_alloc, World.size_drew, size_ext, World.size_setCell]; omega))))))))).mono ?_; rintro e w1 ⟨vat1, rfl, E1, d1, rfl⟩) | (go_at_call 30; refine (Mod_any _ _ (by omega) (by omega) _).mono ?_; rintro e w1 ⟨rfl, rfl⟩))
      all_goals first
        | (exact ⟨⟨k + 1, v, x, by omega, by go_num, (by repeat (first | with_reducible exact Ext.refl _ | with_reducible exact Ext.same _ _ _ _ | with_reducible assumption | with_reducible apply Ext.alloc | with_reducible apply Ext.ext | with_reducible apply Ext.drew | (with_reducible refine Ext.setCell ?_ _ _ ?_; rotate_left; (focus (first | omega | (simp only [World.size_alloc, World.size_drew, size_ext, World.size_setCell]; omega)))))), Hown.out.of_ext (by repeat (first | with_reducible exact Ext.refl _ | with_reducible exact Ext.same _ _ _ _ | with_reducible assumption | with_reducible apply Ext.alloc | with_reducible apply Ext.ext | with_reducible apply Ext.drew | (with_reducible refine Ext.setCell ?_ _ _ ?_; rotate_left; (focus (first | omega | (simp only [World.size_alloc, World.size_drew, size_ext, World.size_setCell]; omega)))))), hid (by rw [HY.out]; exact hsub.out.trans (List.sublist_append_left _ _))⟩, by simp [intOf]; omega⟩; done)
        | skip
      refine wp_region_ord (.f 0 (.f 2 (.f 3 (.f 4 (.f 5 (.f 6 (.k 1 (.a 7 (.a 8 (.f 9 (.a 10 .d)))) 7 (.a 1 (.a 8 (.f 9 (.a 10 .d))))))))))) (Ext (((w.alloc (.cells #[.slice (some ⟨g0, of, none⟩) n c] 38)).alloc (.cells #[.slice none 0 0] 38)))) (by kernel_rfl) (by kernel_rfl) (by repeat (first | with_reducible exact Ext.refl _ | with_reducible exact Ext.same _ _ _ _ | with_reducible assumption | with_reducible apply Ext.alloc | with_reducible apply Ext.ext | with_reducible apply Ext.drew | (with_reducible refine Ext.setCell ?_ _ _ ?_; rotate_left; (focus (first | omega | (simp only [World.size_alloc, World.size_drew, size_ext, World.size_setCell]; omega)))) | (with_reducible refine Ext.trans ?_ (by assumption)))) ?_
      repeat (first | (refine wpOrd_pass rfl rfl ?_; simp only [Act.put, List.getElem_toArray, List.getElem_cons_succ, List.getElem_cons_zero, List.setIfInBounds_toArray, List.set_cons_zero, List.set_cons_succ]) | (refine wpOrd_free (v := ?_) rfl rfl (fun _ hS => ?_) ?_; rotate_left; (focus (obtain ⟨E9, d9, rfl⟩ := hS; go_simp; try with_reducible rfl)); simp only [Act.put, List.getElem_toArray, List.getElem_cons_succ, List.getElem_cons_zero, List.setIfInBounds_toArray, List.set_cons_zero, List.set_cons_succ]))
      refine wpOrd_fork ?_ ?_
      focus
        refine wpOrd_act rfl rfl (fun K hK => ?_)
        go_simp
        refine hK _ _ ⟨?_, ?_⟩
        · exact (by repeat (first | with_reducible exact Ext.refl _ | with_reducible exact Ext.same _ _ _ _ | with_reducible assumption | with_reducible apply Ext.alloc | with_reducible apply Ext.ext | with_reducible apply Ext.drew | (with_reducible refine Ext.setCell ?_ _ _ ?_; rotate_left; (focus (first | omega | (simp only [World.size_alloc, World.size_drew, size_ext, World.size_setCell]; omega)))) | (with_reducible refine Ext.trans ?_ (by assumption))))
        clear hK K
        try simp only [Act.put, List.getElem_toArray, List.getElem_cons_succ, List.getElem_cons_zero, List.setIfInBounds_toArray, List.set_cons_zero, List.set_cons_succ]
        refine wpOrd_act rfl rfl (fun K hK => ?_)
        go_simp
        refine hK _ _ ⟨?_, ?_⟩
        · exact (by repeat (first | with_reducible exact Ext.refl _ | with_reducible exact Ext.same _ _ _ _ | with_reducible assumption | with_reducible apply Ext.alloc | with_reducible apply Ext.ext | with_reducible apply Ext.drew | (with_reducible refine Ext.setCell ?_ _ _ ?_; rotate_left; (focus (first | omega | (simp only [World.size_alloc, World.size_drew, size_ext, World.size_setCell]; omega)))) | (with_reducible refine Ext.trans ?_ (by assumption))))
        clear hK K
        try simp only [Act.put, List.getElem_toArray, List.getElem_cons_succ, List.getElem_cons_zero, List.setIfInBounds_toArray, List.set_cons_zero, List.set_cons_succ]
        refine wpOrd_arec rfl (((w.alloc (.cells #[.slice (some ⟨g0, of, none⟩) n c] 38)).alloc (.cells #[.slice none 0 0] 38)).alloc (.cells #[v] 38)) (w.heap.size + 1 + 1 + 1) (by simp [World.size_alloc]) rfl rfl _ _ rfl [y] rfl (by exact (by repeat (first | with_reducible exact Ext.refl _ | with_reducible exact Ext.same _ _ _ _ | with_reducible assumption | with_reducible apply Ext.alloc | with_reducible apply Ext.ext | with_reducible apply Ext.drew | (with_reducible refine Ext.setCell ?_ _ _ ?_; rotate_left; (focus (first | omega | (simp only [World.size_alloc, World.size_drew, size_ext, World.size_setCell]; omega))))))) (by exact Hown.out.of_ext (by repeat (first | with_reducible exact Ext.refl _ | with_reducible exact Ext.same _ _ _ _ | with_reducible assumption | with_reducible apply Ext.alloc | with_reducible apply Ext.ext | with_reducible apply Ext.drew | (with_reducible refine Ext.setCell ?_ _ _ ?_; rotate_left; (focus (first | omega | (simp only [World.size_alloc, World.size_drew, size_ext, World.size_setCell]; omega))))))) rfl rfl (Sl_at (encRec y) _ 11 1 _ rfl (by simp [World.size_alloc])) (by have := Hlen.out; simp; omega) (fun v201 E201 d201 ho201 => ?_)
        obtain ⟨Av, mv, cv, rfl, hmv, hcv, hsv⟩ := ho201.open
        have HoX := hid ho201
        clear ho201 hcv hsv hmv
        refine ⟨?_, ?_⟩
        · exact (by repeat (first | with_reducible exact Ext.refl _ | with_reducible exact Ext.same _ _ _ _ | with_reducible assumption | with_reducible apply Ext.alloc | with_reducible apply Ext.ext | with_reducible apply Ext.drew | (with_reducible refine Ext.setCell ?_ _ _ ?_; rotate_left; (focus (first | omega | (simp only [World.size_alloc, World.size_drew, size_ext, World.size_setCell]; omega)))) | (with_reducible refine Ext.trans ?_ (by assumption))))
        try simp only [Act.put, List.getElem_toArray, List.getElem_cons_succ, List.getElem_cons_zero, List.setIfInBounds_toArray, List.set_cons_zero, List.set_cons_succ]
        repeat (first | (refine wpOrd_pass rfl rfl ?_; simp only [Act.put, List.getElem_toArray, List.getElem_cons_succ, List.getElem_cons_zero, List.setIfInBounds_toArray, List.set_cons_zero, List.set_cons_succ]) | (refine wpOrd_free (v := ?_) rfl rfl (fun _ hS => ?_) ?_; rotate_left; (focus (obtain ⟨E9, d9, rfl⟩ := hS; go_simp; try with_reducible rfl)); simp only [Act.put, List.getElem_toArray, List.getElem_cons_succ, List.getElem_cons_zero, List.setIfInBounds_toArray, List.set_cons_zero, List.set_cons_succ]))
        refine wpOrd_act rfl rfl (fun K hK => ?_)
        go_simp
        refine hK _ _ ⟨?_, ?_⟩
        · exact (by repeat (first | with_reducible exact Ext.refl _ | with_reducible exact Ext.same _ _ _ _ | with_reducible assumption | with_reducible apply Ext.alloc | with_reducible apply Ext.ext | with_reducible apply Ext.drew | (with_reducible refine Ext.setCell ?_ _ _ ?_; rotate_left; (focus (first | omega | (simp only [World.size_alloc, World.size_drew, size_ext, World.size_setCell]; omega)))) | (with_reducible refine Ext.trans ?_ (by assumption))))
        clear hK K
        try simp only [Act.put, List.getElem_toArray, List.getElem_cons_succ, List.getElem_cons_zero, List.setIfInBounds_toArray, List.set_cons_zero, List.set_cons_succ]
        refine wpOrd_nil ?_
      rotate_right
      focus
        refine wpOrd_act rfl rfl (fun K hK => ?_)
        go_simp
        refine hK _ _ ⟨?_, ?_⟩
        · exact (by repeat (first | with_reducible exact Ext.refl _ | with_reducible exact Ext.same _ _ _ _ | with_reducible assumption | with_reducible apply Ext.alloc | with_reducible apply Ext.ext | with_reducible apply Ext.drew | (with_reducible refine Ext.setCell ?_ _ _ ?_; rotate_left; (focus (first | omega | (simp only [World.size_alloc, World.size_drew, size_ext, World.size_setCell]; omega)))) | (with_reducible refine Ext.trans ?_ (by assumption))))
        clear hK K
        try simp only [Act.put, List.getElem_toArray, List.getElem_cons_succ, List.getElem_cons_zero, List.setIfInBounds_toArray, List.set_cons_zero, List.set_cons_succ]
        refine wpOrd_act rfl rfl (fun K hK => ?_)
        go_simp
        refine hK _ _ ⟨?_, ?_⟩
        · exact (by repeat (first | with_reducible exact Ext.refl _ | with_reducible exact Ext.same _ _ _ _ | with_reducible assumption | with_reducible apply Ext.alloc | with_reducible apply Ext.ext | with_reducible apply Ext.drew | (with_reducible refine Ext.setCell ?_ _ _ ?_; rotate_left; (focus (first | omega | (simp only [World.size_alloc, World.size_drew, size_ext, World.size_setCell]; omega)))) | (with_reducible refine Ext.trans ?_ (by assumption))))
        clear hK K
        try simp only [Act.put, List.getElem_toArray, List.getElem_cons_succ, List.getElem_cons_zero, List.setIfInBounds_toArray, List.set_cons_zero, List.set_cons_succ]
        refine wpOrd_arec rfl (((w.alloc (.cells #[.slice (some ⟨g0, of, none⟩) n c] 38)).alloc (.cells #[.slice none 0 0] 38)).alloc (.cells #[v] 38)) (w.heap.size + 1 + 1 + 1) (by simp [World.size_alloc]) rfl rfl _ _ rfl [y] rfl (by exact (by repeat (first | with_reducible exact Ext.refl _ | with_reducible exact Ext.same _ _ _ _ | with_reducible assumption | with_reducible apply Ext.alloc | with_reducible apply Ext.ext | with_reducible apply Ext.drew | (with_reducible refine Ext.setCell ?_ _ _ ?_; rotate_left; (focus (first | omega | (simp only [World.size_alloc, World.size_drew, size_ext, World.size_setCell]; omega))))))) (by exact Hown.out.of_ext (by repeat (first | with_reducible exact Ext.refl _ | with_reducible exact Ext.same _ _ _ _ | with_reducible assumption | with_reducible apply Ext.alloc | with_reducible apply Ext.ext | with_reducible apply Ext.drew | (with_reducible refine Ext.setCell ?_ _ _ ?_; rotate_left; (focus (first | omega | (simp only [World.size_alloc, World.size_drew, size_ext, World.size_setCell]; omega))))))) rfl rfl (Sl_at (encRec y) _ 11 1 _ rfl (by simp [World.size_alloc])) (by have := Hlen.out; simp; omega) (fun v202 E202 d202 ho202 => ?_)
        obtain ⟨Av, mv, cv, rfl, hmv, hcv, hsv⟩ := ho202.open
        have HoX := hid ho202
        clear ho202 hcv hsv hmv
        refine ⟨?_, ?_⟩
        · exact (by repeat (first | with_reducible exact Ext.refl _ | with_reducible exact Ext.same _ _ _ _ | with_reducible assumption | with_reducible apply Ext.alloc | with_reducible apply Ext.ext | with_reducible apply Ext.drew | (with_reducible refine Ext.setCell ?_ _ _ ?_; rotate_left; (focus (first | omega | (simp only [World.size_alloc, World.size_drew, size_ext, World.size_setCell]; omega)))) | (with_reducible refine Ext.trans ?_ (by assumption))))
        try simp only [Act.put, List.getElem_toArray, List.getElem_cons_succ, List.getElem_cons_zero, List.setIfInBounds_toArray, List.set_cons_zero, List.set_cons_succ]
        repeat (first | (refine wpOrd_pass rfl rfl ?_; simp only [Act.put, List.getElem_toArray, List.getElem_cons_succ, List.getElem_cons_zero, List.setIfInBounds_toArray, List.set_cons_zero, List.set_cons_succ]) | (refine wpOrd_free (v := ?_) rfl rfl (fun _ hS => ?_) ?_; rotate_left; (focus (obtain ⟨E9, d9, rfl⟩ := hS; go_simp; try with_reducible rfl)); simp only [Act.put, List.getElem_toArray, List.getElem_cons_succ, List.getElem_cons_zero, List.setIfInBounds_toArray, List.set_cons_zero, List.set_cons_succ]))
        refine wpOrd_act rfl rfl (fun K hK => ?_)
        go_simp
        refine hK _ _ ⟨?_, ?_⟩
        · exact (by repeat (first | with_reducible exact Ext.refl _ | with_reducible exact Ext.same _ _ _ _ | with_reducible assumption | with_reducible apply Ext.alloc | with_reducible apply Ext.ext | with_reducible apply Ext.drew | (with_reducible refine Ext.setCell ?_ _ _ ?_; rotate_left; (focus (first | omega | (simp only [World.size_alloc, World.size_drew, size_ext, World.size_setCell]; omega)))) | (with_reducible refine Ext.trans ?_ (by assumption))))
        clear hK K
        try simp only [Act.put, List.getElem_toArray, List.getElem_cons_succ, List.getElem_cons_zero, List.setIfInBounds_toArray, List.set_cons_zero, List.set_cons_succ]
        refine wpOrd_nil ?_
      all_goals
        go_wp2_with fail
      all_goals first
        | exact ⟨⟨k + 1, _, x ++ [y], by omega, by go_num, (by repeat (first | with_reducible exact Ext.refl _ | with_reducible exact Ext.same _ _ _ _ | with_reducible assumption | with_reducible apply Ext.alloc | with_reducible apply Ext.ext | with_reducible apply Ext.drew | (with_reducible refine Ext.setCell ?_ _ _ ?_; rotate_left; (focus (first | omega | (simp only [World.size_alloc, World.size_drew, size_ext, World.size_setCell]; omega)))))), OwnR.box HoX.out (by simp [World.size_alloc]), hid (by rw [HY.out]; exact hsub.out.append (List.Sublist.refl _))⟩, by simp [intOf]; omega⟩
    · obtain rfl : k = n := by omega
      obtain ⟨v0, m0, c0, rfl, hm0, hc0, hs0⟩ := Hown.out.open
      have Hm0 := hid hm0
      clear hm0 hc0 hs0
      go_wp2_with fail
      refine bodyPost_ret (v := regV v0 m0 c0) (by simp [results, Try.results41, go_sem]) rfl ?_
      refine ⟨_, _, _, x, rfl, hid Hm0.out, ?_, hid (hsub.out.trans (List.take_sublist _ _)), (by repeat (first | with_reducible exact Ext.refl _ | with_reducible exact Ext.same _ _ _ _ | with_reducible assumption | with_reducible apply Ext.alloc | with_reducible apply Ext.ext | with_reducible apply Ext.drew | (with_reducible refine Ext.setCell ?_ _ _ ?_; rotate_left; (focus (first | omega | (simp only [World.size_alloc, World.size_drew, size_ext, World.size_setCell]; omega))))))⟩
      exact OwnR.moved2 Hown.out (by repeat (first | with_reducible exact Ext.refl _ | with_reducible exact Ext.same _ _ _ _ | with_reducible assumption | with_reducible apply Ext.alloc | with_reducible apply Ext.ext | with_reducible apply Ext.drew | (with_reducible refine Ext.setCell ?_ _ _ ?_; rotate_left; (focus (first | omega | (simp only [World.size_alloc, World.size_drew, size_ext, World.size_setCell]; omega)))))) (by simp [World.size_alloc]) (by simp [World.size_alloc]) (by omega)
end Go.Proofs.Ytekjdeibnfaehaa
