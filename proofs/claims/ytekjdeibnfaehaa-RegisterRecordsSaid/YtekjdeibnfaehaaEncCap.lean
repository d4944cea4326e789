/- Encode once more: its bytes in a slice whose room is told. -/
import Derived.Test.YtekjdeibnfaehaaSanes
set_option linter.unusedSimpArgs false
set_option linter.unusedVariables false
namespace Go.Proofs.Ytekjdeibnfaehaa
open Go Go.RowKit

theorem ownB_cap {base n c : Nat} {w : World} {A : Option Addr} {xs : List Value} (h : w.ownsRow base 5 1 (.slice A n c) n xs) : n ≤ c ∧ c ≤ 9223372036854775807 := by
  rcases h.2 with ⟨hv, _⟩ | ⟨g, cap, cur, hv, _, _, hn, hc, _⟩
  · simp only [Value.slice.injEq] at hv
    omega
  · simp only [Value.slice.injEq] at hv
    unfold maxLen at hc
    omega
theorem Concat_at_cap (W : World) (cs : List Value) (e : TypeId) (g n c : Nat) (ls : List (List UInt8)) (hg : g = W.heap.size) (hn : cs.length = n) (hsz : sumL ls ≤ 1000000) (hsz0 : 0 < sumL ls) (hn' : n ≤ 1000000)
    (hv : BytVs W cs ls) :
    Calls Try.prog 88 #[.slice (some ⟨g, 0, none⟩) n c] (W.alloc (.cells cs.toArray e)) fun e w' => ∃ A' c', e = .returned (.slice A' ls.flatten.length c') ∧ Byt w' A' ls.flatten ∧ Hid (ls.flatten.length ≤ c' ∧ c' ≤ 9223372036854775807) ∧ Ext W w' := by
  refine (Concat_at_own W cs e g n c ls hg hn hsz hsz0 hn' hv).mono ?_
  rintro e w' ⟨A', c', rfl, ho, hx⟩
  exact ⟨A', c', rfl, ho.of_byt_slice, hid ⟨ho.le, ho.cap⟩, hx⟩
set_option maxRecDepth 100000 in
set_option maxHeartbeats 2000000 in
theorem bytesOf_cap (r : Rec) (hr : RecNum r) (w : World) :
    Calls Try.prog 43 #[recV r] w fun e w' => ∃ A c, e = .returned (.slice A (recB r).length c) ∧ Byt w' A (recB r) ∧ Hid ((recB r).length ≤ c ∧ c ≤ 9223372036854775807) ∧ Ext w w' := by
  obtain ⟨⟨a0, a1⟩, ⟨b0, b1⟩, ⟨c0, c1⟩, ⟨d0, d1⟩, ⟨e0, e1⟩, ⟨f0, f1⟩, ⟨g0, g1⟩, ⟨h0, h1⟩, ⟨i0, i1⟩, ⟨j0, j1⟩, k0⟩ := hr
  have hsum : sumL (partsB r) = 23 + r.text.size := recB_length r
  go_enter Try.func43, Try.ntmps43
  go_wp2_with fail
  refine wp_region_pend ⟨[(true, 0), (true, 1), (true, 2), (true, 4), (true, 5), (true, 6), (true, 8), (true, 9), (true, 11), (true, 12), (true, 14), (true, 15), (true, 17), (true, 18), (true, 20), (true, 21), (true, 22), (true, 24), (true, 25), (true, 26), (true, 28), (true, 29), (true, 31), (true, 32), (true, 34), (true, 35), (true, 36), (true, 38), (true, 39)], 40, [(false, 3), (false, 7), (false, 10), (false, 13), (false, 16), (false, 19), (false, 23), (false, 27), (false, 30), (false, 33), (false, 37)], (.a 41 (.a 42 (.f 43 .d)))⟩ (TByt r.text) (by kernel_rfl) (by kernel_rfl) rfl rfl (by exact fun _ _ _ h hx => h.later hx) ?_
  repeat (first | (refine wpPend_free (v := ?_) rfl rfl (fun _ hS => ?_) ?_; rotate_left; (focus (obtain ⟨E9, d9, rfl⟩ := hS; go_simp; try with_reducible rfl)); simp only [Act.put, List.getElem_toArray, List.getElem_cons_succ, List.getElem_cons_zero, List.setIfInBounds_toArray, List.set_cons_zero, List.set_cons_succ]))
  refine wpPend_nil (fun W98 hS98 hx98 => ⟨?_, ?_⟩)
  · rintro w1 ⟨E8, d8, rfl⟩
    exact to_bytes _ rfl rfl rfl _
  refine wpPend_call rfl rfl rfl Try.call89 (fun W100 hS100 hx100 R hR => ?_)
  go_simp
  refine (number_i _ _ (by omega) (by omega) (by omega) (by omega) _).mono ?_
  rintro e w1 ⟨A100, c100, rfl, hb100, E100, d100, rfl⟩
  refine hR _ _ ⟨_, rfl, ⟨(by repeat (first | with_reducible exact Ext.refl _ | with_reducible exact Ext.same _ _ _ _ | with_reducible assumption | with_reducible apply Ext.alloc | with_reducible apply Ext.ext | with_reducible apply Ext.drew | (with_reducible refine Ext.setCell ?_ _ _ ?_; rotate_left; (focus (first | omega | (simp only [World.size_alloc, World.size_drew, size_ext, World.size_setCell]; omega)))) | (with_reducible refine Ext.trans ?_ (by assumption)))), (by repeat (first | with_reducible exact Ext.refl _ | with_reducible exact Ext.same _ _ _ _ | with_reducible assumption | with_reducible apply Ext.alloc | with_reducible apply Ext.ext | with_reducible apply Ext.drew | (with_reducible refine Ext.setCell ?_ _ _ ?_; rotate_left; (focus (first | omega | (simp only [World.size_alloc, World.size_drew, size_ext, World.size_setCell]; omega)))) | (with_reducible refine Ext.trans ?_ (by assumption))))⟩, ?_⟩
  clear hR R
  simp only [Act.put, List.getElem_toArray, List.getElem_cons_succ, List.getElem_cons_zero, List.setIfInBounds_toArray, List.set_cons_zero, List.set_cons_succ]
  refine wpPend_call rfl rfl rfl Try.call89 (fun W101 hS101 hx101 R hR => ?_)
  go_simp
  refine (number_i _ _ (by omega) (by omega) (by omega) (by omega) _).mono ?_
  rintro e w1 ⟨A101, c101, rfl, hb101, E101, d101, rfl⟩
  refine hR _ _ ⟨_, rfl, ⟨(by repeat (first | with_reducible exact Ext.refl _ | with_reducible exact Ext.same _ _ _ _ | with_reducible assumption | with_reducible apply Ext.alloc | with_reducible apply Ext.ext | with_reducible apply Ext.drew | (with_reducible refine Ext.setCell ?_ _ _ ?_; rotate_left; (focus (first | omega | (simp only [World.size_alloc, World.size_drew, size_ext, World.size_setCell]; omega)))) | (with_reducible refine Ext.trans ?_ (by assumption)))), (by repeat (first | with_reducible exact Ext.refl _ | with_reducible exact Ext.same _ _ _ _ | with_reducible assumption | with_reducible apply Ext.alloc | with_reducible apply Ext.ext | with_reducible apply Ext.drew | (with_reducible refine Ext.setCell ?_ _ _ ?_; rotate_left; (focus (first | omega | (simp only [World.size_alloc, World.size_drew, size_ext, World.size_setCell]; omega)))) | (with_reducible refine Ext.trans ?_ (by assumption))))⟩, ?_⟩
  clear hR R
  simp only [Act.put, List.getElem_toArray, List.getElem_cons_succ, List.getElem_cons_zero, List.setIfInBounds_toArray, List.set_cons_zero, List.set_cons_succ]
  refine wpPend_call rfl rfl rfl Try.call89 (fun W102 hS102 hx102 R hR => ?_)
  go_simp
  refine (number_i _ _ (by omega) (by omega) (by omega) (by omega) _).mono ?_
  rintro e w1 ⟨A102, c102, rfl, hb102, E102, d102, rfl⟩
  refine hR _ _ ⟨_, rfl, ⟨(by repeat (first | with_reducible exact Ext.refl _ | with_reducible exact Ext.same _ _ _ _ | with_reducible assumption | with_reducible apply Ext.alloc | with_reducible apply Ext.ext | with_reducible apply Ext.drew | (with_reducible refine Ext.setCell ?_ _ _ ?_; rotate_left; (focus (first | omega | (simp only [World.size_alloc, World.size_drew, size_ext, World.size_setCell]; omega)))) | (with_reducible refine Ext.trans ?_ (by assumption)))), (by repeat (first | with_reducible exact Ext.refl _ | with_reducible exact Ext.same _ _ _ _ | with_reducible assumption | with_reducible apply Ext.alloc | with_reducible apply Ext.ext | with_reducible apply Ext.drew | (with_reducible refine Ext.setCell ?_ _ _ ?_; rotate_left; (focus (first | omega | (simp only [World.size_alloc, World.size_drew, size_ext, World.size_setCell]; omega)))) | (with_reducible refine Ext.trans ?_ (by assumption))))⟩, ?_⟩
  clear hR R
  simp only [Act.put, List.getElem_toArray, List.getElem_cons_succ, List.getElem_cons_zero, List.setIfInBounds_toArray, List.set_cons_zero, List.set_cons_succ]
  refine wpPend_call rfl rfl rfl Try.call89 (fun W103 hS103 hx103 R hR => ?_)
  go_simp
  refine (number_i _ _ (by omega) (by omega) (by omega) (by omega) _).mono ?_
  rintro e w1 ⟨A103, c103, rfl, hb103, E103, d103, rfl⟩
  refine hR _ _ ⟨_, rfl, ⟨(by repeat (first | with_reducible exact Ext.refl _ | with_reducible exact Ext.same _ _ _ _ | with_reducible assumption | with_reducible apply Ext.alloc | with_reducible apply Ext.ext | with_reducible apply Ext.drew | (with_reducible refine Ext.setCell ?_ _ _ ?_; rotate_left; (focus (first | omega | (simp only [World.size_alloc, World.size_drew, size_ext, World.size_setCell]; omega)))) | (with_reducible refine Ext.trans ?_ (by assumption)))), (by repeat (first | with_reducible exact Ext.refl _ | with_reducible exact Ext.same _ _ _ _ | with_reducible assumption | with_reducible apply Ext.alloc | with_reducible apply Ext.ext | with_reducible apply Ext.drew | (with_reducible refine Ext.setCell ?_ _ _ ?_; rotate_left; (focus (first | omega | (simp only [World.size_alloc, World.size_drew, size_ext, World.size_setCell]; omega)))) | (with_reducible refine Ext.trans ?_ (by assumption))))⟩, ?_⟩
  clear hR R
  simp only [Act.put, List.getElem_toArray, List.getElem_cons_succ, List.getElem_cons_zero, List.setIfInBounds_toArray, List.set_cons_zero, List.set_cons_succ]
  refine wpPend_call rfl rfl rfl Try.call89 (fun W104 hS104 hx104 R hR => ?_)
  go_simp
  refine (number_i _ _ (by omega) (by omega) (by omega) (by omega) _).mono ?_
  rintro e w1 ⟨A104, c104, rfl, hb104, E104, d104, rfl⟩
  refine hR _ _ ⟨_, rfl, ⟨(by repeat (first | with_reducible exact Ext.refl _ | with_reducible exact Ext.same _ _ _ _ | with_reducible assumption | with_reducible apply Ext.alloc | with_reducible apply Ext.ext | with_reducible apply Ext.drew | (with_reducible refine Ext.setCell ?_ _ _ ?_; rotate_left; (focus (first | omega | (simp only [World.size_alloc, World.size_drew, size_ext, World.size_setCell]; omega)))) | (with_reducible refine Ext.trans ?_ (by assumption)))), (by repeat (first | with_reducible exact Ext.refl _ | with_reducible exact Ext.same _ _ _ _ | with_reducible assumption | with_reducible apply Ext.alloc | with_reducible apply Ext.ext | with_reducible apply Ext.drew | (with_reducible refine Ext.setCell ?_ _ _ ?_; rotate_left; (focus (first | omega | (simp only [World.size_alloc, World.size_drew, size_ext, World.size_setCell]; omega)))) | (with_reducible refine Ext.trans ?_ (by assumption))))⟩, ?_⟩
  clear hR R
  simp only [Act.put, List.getElem_toArray, List.getElem_cons_succ, List.getElem_cons_zero, List.setIfInBounds_toArray, List.set_cons_zero, List.set_cons_succ]
  refine wpPend_call rfl rfl rfl Try.call89 (fun W105 hS105 hx105 R hR => ?_)
  go_simp
  refine (number_i _ _ (by omega) (by omega) (by omega) (by omega) _).mono ?_
  rintro e w1 ⟨A105, c105, rfl, hb105, E105, d105, rfl⟩
  refine hR _ _ ⟨_, rfl, ⟨(by repeat (first | with_reducible exact Ext.refl _ | with_reducible exact Ext.same _ _ _ _ | with_reducible assumption | with_reducible apply Ext.alloc | with_reducible apply Ext.ext | with_reducible apply Ext.drew | (with_reducible refine Ext.setCell ?_ _ _ ?_; rotate_left; (focus (first | omega | (simp only [World.size_alloc, World.size_drew, size_ext, World.size_setCell]; omega)))) | (with_reducible refine Ext.trans ?_ (by assumption)))), (by repeat (first | with_reducible exact Ext.refl _ | with_reducible exact Ext.same _ _ _ _ | with_reducible assumption | with_reducible apply Ext.alloc | with_reducible apply Ext.ext | with_reducible apply Ext.drew | (with_reducible refine Ext.setCell ?_ _ _ ?_; rotate_left; (focus (first | omega | (simp only [World.size_alloc, World.size_drew, size_ext, World.size_setCell]; omega)))) | (with_reducible refine Ext.trans ?_ (by assumption))))⟩, ?_⟩
  clear hR R
  simp only [Act.put, List.getElem_toArray, List.getElem_cons_succ, List.getElem_cons_zero, List.setIfInBounds_toArray, List.set_cons_zero, List.set_cons_succ]
  refine wpPend_call rfl rfl rfl Try.call89 (fun W106 hS106 hx106 R hR => ?_)
  go_simp
  refine (number_i _ _ (by omega) (by omega) (by omega) (by omega) _).mono ?_
  rintro e w1 ⟨A106, c106, rfl, hb106, E106, d106, rfl⟩
  refine hR _ _ ⟨_, rfl, ⟨(by repeat (first | with_reducible exact Ext.refl _ | with_reducible exact Ext.same _ _ _ _ | with_reducible assumption | with_reducible apply Ext.alloc | with_reducible apply Ext.ext | with_reducible apply Ext.drew | (with_reducible refine Ext.setCell ?_ _ _ ?_; rotate_left; (focus (first | omega | (simp only [World.size_alloc, World.size_drew, size_ext, World.size_setCell]; omega)))) | (with_reducible refine Ext.trans ?_ (by assumption)))), (by repeat (first | with_reducible exact Ext.refl _ | with_reducible exact Ext.same _ _ _ _ | with_reducible assumption | with_reducible apply Ext.alloc | with_reducible apply Ext.ext | with_reducible apply Ext.drew | (with_reducible refine Ext.setCell ?_ _ _ ?_; rotate_left; (focus (first | omega | (simp only [World.size_alloc, World.size_drew, size_ext, World.size_setCell]; omega)))) | (with_reducible refine Ext.trans ?_ (by assumption))))⟩, ?_⟩
  clear hR R
  simp only [Act.put, List.getElem_toArray, List.getElem_cons_succ, List.getElem_cons_zero, List.setIfInBounds_toArray, List.set_cons_zero, List.set_cons_succ]
  refine wpPend_call rfl rfl rfl Try.call89 (fun W107 hS107 hx107 R hR => ?_)
  go_simp
  refine (number_i _ _ (by omega) (by omega) (by omega) (by omega) _).mono ?_
  rintro e w1 ⟨A107, c107, rfl, hb107, E107, d107, rfl⟩
  refine hR _ _ ⟨_, rfl, ⟨(by repeat (first | with_reducible exact Ext.refl _ | with_reducible exact Ext.same _ _ _ _ | with_reducible assumption | with_reducible apply Ext.alloc | with_reducible apply Ext.ext | with_reducible apply Ext.drew | (with_reducible refine Ext.setCell ?_ _ _ ?_; rotate_left; (focus (first | omega | (simp only [World.size_alloc, World.size_drew, size_ext, World.size_setCell]; omega)))) | (with_reducible refine Ext.trans ?_ (by assumption)))), (by repeat (first | with_reducible exact Ext.refl _ | with_reducible exact Ext.same _ _ _ _ | with_reducible assumption | with_reducible apply Ext.alloc | with_reducible apply Ext.ext | with_reducible apply Ext.drew | (with_reducible refine Ext.setCell ?_ _ _ ?_; rotate_left; (focus (first | omega | (simp only [World.size_alloc, World.size_drew, size_ext, World.size_setCell]; omega)))) | (with_reducible refine Ext.trans ?_ (by assumption))))⟩, ?_⟩
  clear hR R
  simp only [Act.put, List.getElem_toArray, List.getElem_cons_succ, List.getElem_cons_zero, List.setIfInBounds_toArray, List.set_cons_zero, List.set_cons_succ]
  refine wpPend_call rfl rfl rfl Try.call89 (fun W108 hS108 hx108 R hR => ?_)
  go_simp
  refine (number_i _ _ (by omega) (by omega) (by omega) (by omega) _).mono ?_
  rintro e w1 ⟨A108, c108, rfl, hb108, E108, d108, rfl⟩
  refine hR _ _ ⟨_, rfl, ⟨(by repeat (first | with_reducible exact Ext.refl _ | with_reducible exact Ext.same _ _ _ _ | with_reducible assumption | with_reducible apply Ext.alloc | with_reducible apply Ext.ext | with_reducible apply Ext.drew | (with_reducible refine Ext.setCell ?_ _ _ ?_; rotate_left; (focus (first | omega | (simp only [World.size_alloc, World.size_drew, size_ext, World.size_setCell]; omega)))) | (with_reducible refine Ext.trans ?_ (by assumption)))), (by repeat (first | with_reducible exact Ext.refl _ | with_reducible exact Ext.same _ _ _ _ | with_reducible assumption | with_reducible apply Ext.alloc | with_reducible apply Ext.ext | with_reducible apply Ext.drew | (with_reducible refine Ext.setCell ?_ _ _ ?_; rotate_left; (focus (first | omega | (simp only [World.size_alloc, World.size_drew, size_ext, World.size_setCell]; omega)))) | (with_reducible refine Ext.trans ?_ (by assumption))))⟩, ?_⟩
  clear hR R
  simp only [Act.put, List.getElem_toArray, List.getElem_cons_succ, List.getElem_cons_zero, List.setIfInBounds_toArray, List.set_cons_zero, List.set_cons_succ]
  refine wpPend_call rfl rfl rfl Try.call89 (fun W109 hS109 hx109 R hR => ?_)
  go_simp
  refine (number_i _ _ (by omega) (by omega) (by omega) (by omega) _).mono ?_
  rintro e w1 ⟨A109, c109, rfl, hb109, E109, d109, rfl⟩
  refine hR _ _ ⟨_, rfl, ⟨(by repeat (first | with_reducible exact Ext.refl _ | with_reducible exact Ext.same _ _ _ _ | with_reducible assumption | with_reducible apply Ext.alloc | with_reducible apply Ext.ext | with_reducible apply Ext.drew | (with_reducible refine Ext.setCell ?_ _ _ ?_; rotate_left; (focus (first | omega | (simp only [World.size_alloc, World.size_drew, size_ext, World.size_setCell]; omega)))) | (with_reducible refine Ext.trans ?_ (by assumption)))), (by repeat (first | with_reducible exact Ext.refl _ | with_reducible exact Ext.same _ _ _ _ | with_reducible assumption | with_reducible apply Ext.alloc | with_reducible apply Ext.ext | with_reducible apply Ext.drew | (with_reducible refine Ext.setCell ?_ _ _ ?_; rotate_left; (focus (first | omega | (simp only [World.size_alloc, World.size_drew, size_ext, World.size_setCell]; omega)))) | (with_reducible refine Ext.trans ?_ (by assumption))))⟩, ?_⟩
  clear hR R
  simp only [Act.put, List.getElem_toArray, List.getElem_cons_succ, List.getElem_cons_zero, List.setIfInBounds_toArray, List.set_cons_zero, List.set_cons_succ]
  refine wpPend_call rfl rfl rfl Try.call89 (fun W110 hS110 hx110 R hR => ?_)
  go_simp
  refine (number_i _ _ (by omega) (by omega) (by omega) (by omega) _).mono ?_
  rintro e w1 ⟨A110, c110, rfl, hb110, E110, d110, rfl⟩
  refine hR _ _ ⟨_, rfl, ⟨(by repeat (first | with_reducible exact Ext.refl _ | with_reducible exact Ext.same _ _ _ _ | with_reducible assumption | with_reducible apply Ext.alloc | with_reducible apply Ext.ext | with_reducible apply Ext.drew | (with_reducible refine Ext.setCell ?_ _ _ ?_; rotate_left; (focus (first | omega | (simp only [World.size_alloc, World.size_drew, size_ext, World.size_setCell]; omega)))) | (with_reducible refine Ext.trans ?_ (by assumption)))), (by repeat (first | with_reducible exact Ext.refl _ | with_reducible exact Ext.same _ _ _ _ | with_reducible assumption | with_reducible apply Ext.alloc | with_reducible apply Ext.ext | with_reducible apply Ext.drew | (with_reducible refine Ext.setCell ?_ _ _ ?_; rotate_left; (focus (first | omega | (simp only [World.size_alloc, World.size_drew, size_ext, World.size_setCell]; omega)))) | (with_reducible refine Ext.trans ?_ (by assumption))))⟩, ?_⟩
  clear hR R
  simp only [Act.put, List.getElem_toArray, List.getElem_cons_succ, List.getElem_cons_zero, List.setIfInBounds_toArray, List.set_cons_zero, List.set_cons_succ]
  refine wpPend_nil (fun W99 hS99 hx99 => ?_)
  rintro v9 ⟨A12, c12, rfl, hb12⟩
  simp only [Act.put, List.getElem_toArray, List.getElem_cons_succ, List.getElem_cons_zero, List.setIfInBounds_toArray, List.set_cons_zero, List.set_cons_succ]
  refine wpOrd_act rfl rfl (fun K hK => ?_)
  go_simp
  refine hK _ _ ⟨?_, ?_⟩
  · exact (by repeat (first | with_reducible exact Ext.refl _ | with_reducible exact Ext.same _ _ _ _ | with_reducible assumption | with_reducible apply Ext.alloc | with_reducible apply Ext.ext | with_reducible apply Ext.drew | (with_reducible refine Ext.setCell ?_ _ _ ?_; rotate_left; (focus (first | omega | (simp only [World.size_alloc, World.size_drew, size_ext, World.size_setCell]; omega)))) | (with_reducible refine Ext.trans ?_ (by assumption))))
  clear hK K
  try simp only [Act.put, List.getElem_toArray, List.getElem_cons_succ, List.getElem_cons_zero, List.setIfInBounds_toArray, List.set_cons_zero, List.set_cons_succ]
  refine wpOrd_call rfl rfl rfl Try.call88 (fun R hR => ?_)
  go_simp
  refine (Concat_at_cap _ _ _ _ _ _ (partsB r) (by rfl) (by rfl) (by rw [hsum]; omega) (by rw [hsum]; omega) (by omega) (by exact ⟨⟨_, _, rfl, hb100.of_ext (by repeat (first | exact Ext.refl _ | assumption | apply Ext.ext | (refine Ext.trans ?_ (by assumption))))⟩, ⟨_, _, rfl, hb101.of_ext (by repeat (first | exact Ext.refl _ | assumption | apply Ext.ext | (refine Ext.trans ?_ (by assumption))))⟩, ⟨_, _, rfl, hb102.of_ext (by repeat (first | exact Ext.refl _ | assumption | apply Ext.ext | (refine Ext.trans ?_ (by assumption))))⟩, ⟨_, _, rfl, hb103.of_ext (by repeat (first | exact Ext.refl _ | assumption | apply Ext.ext | (refine Ext.trans ?_ (by assumption))))⟩, ⟨_, _, rfl, hb104.of_ext (by repeat (first | exact Ext.refl _ | assumption | apply Ext.ext | (refine Ext.trans ?_ (by assumption))))⟩, ⟨_, _, rfl, hb105.of_ext (by repeat (first | exact Ext.refl _ | assumption | apply Ext.ext | (refine Ext.trans ?_ (by assumption))))⟩, ⟨_, _, rfl, hb106.of_ext (by repeat (first | exact Ext.refl _ | assumption | apply Ext.ext | (refine Ext.trans ?_ (by assumption))))⟩, ⟨_, _, rfl, hb107.of_ext (by repeat (first | exact Ext.refl _ | assumption | apply Ext.ext | (refine Ext.trans ?_ (by assumption))))⟩, ⟨_, _, rfl, hb108.of_ext (by repeat (first | exact Ext.refl _ | assumption | apply Ext.ext | (refine Ext.trans ?_ (by assumption))))⟩, ⟨_, _, rfl, hb109.of_ext (by repeat (first | exact Ext.refl _ | assumption | apply Ext.ext | (refine Ext.trans ?_ (by assumption))))⟩, ⟨_, _, rfl, hb110.of_ext (by repeat (first | exact Ext.refl _ | assumption | apply Ext.ext | (refine Ext.trans ?_ (by assumption))))⟩, ⟨_, _, rfl, hb12⟩, trivial⟩)).mono ?_
  rintro e w1 ⟨A112, c112, rfl, hb112, hcc112, E112, d112, rfl⟩
  refine hR _ _ ⟨_, rfl, ?_, ?_⟩
  · exact (by repeat (first | with_reducible exact Ext.refl _ | with_reducible exact Ext.same _ _ _ _ | with_reducible assumption | with_reducible apply Ext.alloc | with_reducible apply Ext.ext | with_reducible apply Ext.drew | (with_reducible refine Ext.setCell ?_ _ _ ?_; rotate_left; (focus (first | omega | (simp only [World.size_alloc, World.size_drew, size_ext, World.size_setCell]; omega)))) | (with_reducible refine Ext.trans ?_ (by assumption))))
  clear hR R
  simp only [Act.put, List.getElem_toArray, List.getElem_cons_succ, List.getElem_cons_zero, List.setIfInBounds_toArray, List.set_cons_zero, List.set_cons_succ]
  repeat (first | (refine wpOrd_pass rfl rfl ?_; simp only [Act.put, List.getElem_toArray, List.getElem_cons_succ, List.getElem_cons_zero, List.setIfInBounds_toArray, List.set_cons_zero, List.set_cons_succ]) | (refine wpOrd_free (v := ?_) rfl rfl (fun _ hS => ?_) ?_; rotate_left; (focus (obtain ⟨E9, d9, rfl⟩ := hS; go_simp; try with_reducible rfl)); simp only [Act.put, List.getElem_toArray, List.getElem_cons_succ, List.getElem_cons_zero, List.setIfInBounds_toArray, List.set_cons_zero, List.set_cons_succ]))
  refine wpOrd_nil ?_
  go_wp2_with fail
  go_ret
  exact ⟨A112, c112, ret_val (congrArg (fun n => Value.slice A112 n c112) (by simp [recB])), hb112, hid (by have h9 := hcc112.out; simpa [recB] using h9), by repeat (first | exact Ext.refl _ | assumption | apply Ext.alloc | apply Ext.ext | apply Ext.drew | (refine Ext.trans ?_ (by assumption)))⟩
set_option maxHeartbeats 400000 in
theorem Encode_cap (r : Rec) (w : World) (hs : r.text.size ≤ 9223372036854775807) :
    Calls Try.prog 10 #[recV r] w fun e w' => ∃ A c, e = .returned (.tuple #[.slice A (encL r).length c, .int .i64 (errRec r)]) ∧ Byt w' A (encL r) ∧ Hid ((encL r).length ≤ c ∧ c ≤ 9223372036854775807) ∧ Ext w w' := by
  cases h : recOk r with
  | true =>
    have he : errRec r = 0 := by rw [errRec, h]; rfl
    have hl : encL r = recB r := by rw [encL, h]; rfl
    have hn : RecNum r := recNum_of h
    rw [he, hl]
    have H := hid h
    clear h he hl
    go_enter Try.func10, Try.ntmps10
    go_wp2_with fail
    refine (isRecord_any r _ hs).mono ?_
    rintro e w1 ⟨rfl, E, d, rfl⟩
    rw [H.out]
    go_wp2_with (go_at_call 43; refine (bytesOf_cap _ (by assumption) _).mono ?_; rintro e w1 ⟨A1, c1, rfl, hb1, hcc1, E1, d1, rfl⟩)
    go_ret2
    exact ⟨_, _, rfl, hb1, hcc1, (by repeat (first | with_reducible exact Ext.refl _ | with_reducible exact Ext.same _ _ _ _ | with_reducible assumption | with_reducible apply Ext.alloc | with_reducible apply Ext.ext | with_reducible apply Ext.drew | (with_reducible refine Ext.setCell ?_ _ _ ?_; rotate_left; (focus (first | omega | (simp only [World.size_alloc, World.size_drew, size_ext, World.size_setCell]; omega))))))⟩
  | false =>
    have he : errRec r = 70 := by rw [errRec, h]; rfl
    have hl : encL r = [] := by rw [encL, h]; rfl
    rw [he, hl]
    have H := hid h
    clear h he hl
    go_enter Try.func10, Try.ntmps10
    go_wp2_with fail
    refine (isRecord_any r _ hs).mono ?_
    rintro e w1 ⟨rfl, E, d, rfl⟩
    rw [H.out]
    go_wp2_with fail
    go_ret2
    exact ⟨none, 0, rfl, ⟨rfl, fun h => absurd h (by simp)⟩, hid ⟨Nat.le_refl _, by omega⟩, (by repeat (first | with_reducible exact Ext.refl _ | with_reducible exact Ext.same _ _ _ _ | with_reducible assumption | with_reducible apply Ext.alloc | with_reducible apply Ext.ext | with_reducible apply Ext.drew | (with_reducible refine Ext.setCell ?_ _ _ ?_; rotate_left; (focus (first | omega | (simp only [World.size_alloc, World.size_drew, size_ext, World.size_setCell]; omega))))))⟩
end Go.Proofs.Ytekjdeibnfaehaa
