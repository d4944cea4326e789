/- Records that numbers describe, in the reference. -/
import Derived.Test.YtekjdeibnfaehaaNext
import Derived.Test.YtekjdeibnfaehaaActs
import Derived.Test.YtekjdeibnfaehaaPage
set_option linter.unusedSimpArgs false
set_option linter.unusedVariables false
namespace Go.Proofs.Ytekjdeibnfaehaa
open Go Go.RowKit

set_option maxHeartbeats 1000000 in
theorem Mod_any (a m : Int) (h1 : 1 ≤ m) (h2 : m ≤ 4611686018427387904) (w : World) :
    Calls Try.prog 30 #[.int .i64 a, .int .i64 m] w fun e w' => e = .returned (.int .i64 (a % m)) ∧ w = w' := by
  have e1 := rem_pos a m h1
  have hw := tmod_ways a m h1
  have p0 := Int.emod_nonneg a (show m ≠ 0 by omega)
  have p1 := Int.emod_lt_of_pos a (show 0 < m by omega)
  have b1 : -m ≤ a.tmod m := by omega
  have b2 : a.tmod m ≤ m := by omega
  obtain ⟨r, hr⟩ : ∃ r, a.tmod m = r := ⟨_, rfl⟩
  rw [hr] at e1 b1 b2
  have hm0 : ¬ m = 0 := by omega
  have hw1 : Go.RowKit.wrap64 (r + m) = r + m := IntWalk.wrap64_in _ (by omega)
  obtain ⟨s, hs⟩ : ∃ s, a % m = s := ⟨_, rfl⟩
  rw [hs] at e1 p0 p1 ⊢
  clear hw hs
  go_enter Try.func30, Try.ntmps30
  go_wp2_with fail
  go_ret
  exact ⟨ret_val rfl, rfl⟩
theorem encB_shown (c : UInt8) : encB (shownC c) = .int .u8 (32 + (c.toNat : Int) % 95) := by
  have h : (shownC c).toNat = 32 + c.toNat % 95 := by
    unfold shownC
    rw [UInt8.toNat_ofNat']
    have := Nat.mod_lt c.toNat (show 0 < 95 by decide)
    omega
  unfold encB
  rw [h]
  rfl
theorem shown_snoc (t : ByteArray) {k : Nat} (hk : k < t.size) : (t.data.toList.take (k + 1)).map shownC = (t.data.toList.take k).map shownC ++ [shownC t[k]] := by
  have hl : k < t.data.toList.length := by simpa using hk
  rw [List.take_succ_eq_append_getElem hl, List.map_append]
  rfl
theorem shownT_full (t : ByteArray) (m k : Nat) (h : k = m ∨ k = t.size) (hk : k ≤ m) (hk2 : k ≤ t.size) : (⟨((t.data.toList.take k).map shownC).toArray⟩ : ByteArray) = shownT t m := by
  unfold shownT
  have : t.data.toList.take k = t.data.toList.take m := by
    rcases h with rfl | rfl
    · rfl
    · have h1 : t.data.toList.length ≤ t.size := Nat.le_refl _
      rw [List.take_of_length_le h1, List.take_of_length_le (Nat.le_trans h1 hk)]
  rw [this]
set_option maxRecDepth 100000 in
set_option maxHeartbeats 4000000 in
theorem Shown_any (t : ByteArray) (m : Nat) (hs : t.size ≤ 9223372036854775807) (hm : m ≤ 1000) (w : World) :
    Calls Try.prog 102 #[.string t, .int .i64 m] w fun e w' => e = .returned (.string (shownT t m)) ∧ Ext w w' := by
  go_enter Try.func102, Try.ntmps102
  go_wp2_with fail
  go_loopw [5, 6] (fun v i wr => ∃ k : Nat, k ≤ t.size ∧ k ≤ m ∧ i = .int .i64 k ∧ Ext w wr ∧ OwnB w.heap.size wr v ((t.data.toList.take k).map shownC)) (fun _ i _ => m - (intOf i).toNat)
  case atStart => exact ⟨0, Nat.zero_le _, Nat.zero_le _, rfl, Ext.refl _, OwnB.none _ _⟩
  case round =>
    obtain ⟨k, hk, hkm, rfl, ⟨E9, d9, rfl⟩, hown⟩ := hrel
    have Hown := hid hown
    have hlen : ((t.data.toList.take k).map shownC).length = k := by simp; omega
    have Hlen := hid hlen
    clear hown hlen
    by_cases hlt : k < t.size
    · by_cases hlm : k < m
      · have hstep := shown_snoc t hlt
        have henc := encB_shown t[k]
        have hb := t[k].toNat_lt
        have Hs := hid hstep
        have He := hid henc
        clear hstep henc
        go_wp2_with (at_builtin; refine wpList_abyt rfl w w.heap.size rfl rfl _ _ rfl [shownC t[k]] rfl (by exact (by repeat (first | (with_reducible first | exact Ext.refl _ | exact Ext.same _ _ _ _ | assumption | apply Ext.alloc | apply Ext.ext | apply Ext.drew) | (with_reducible refine Ext.setCell ?_ _ _ ?_; rotate_left; focus (first | omega | (simp only [zs1, zs2, zs3, size_ext]; omega)))))) (by exact OwnB.of_ext Hown.out (by repeat (first | (with_reducible first | exact Ext.refl _ | exact Ext.same _ _ _ _ | assumption | apply Ext.alloc | apply Ext.ext | apply Ext.drew) | (with_reducible refine Ext.setCell ?_ _ _ ?_; rotate_left; focus (first | omega | (simp only [zs1, zs2, zs3, size_ext]; omega)))))) rfl rfl (by unfold Byt; rw [List.map_cons, List.map_nil, He.out]; exact Sl_at [_] _ 1 1 _ rfl (by simp [World.size_alloc])) (by rw [Hlen.out]; simp only [List.length_cons, List.length_nil]; omega) (fun v1 E2 d2 ho1 => ?_))
        exact ⟨⟨k + 1, by omega, by omega, by go_num, (Ext.refl _).ext _ _, by rw [Hs.out]; exact ho1⟩, by simp [intOf]; omega⟩
      · have hfull := shownT_full t m k (.inl (by omega)) hkm hk
        obtain ⟨A2, c2, rfl, hb2⟩ := Hown.out.slice
        have hcv := fun c => run_of_bytes hb2 c
        rw [Hlen.out] at hcv
        simp only [hfull] at hcv
        simp only [Hlen.out]
        clear hb2 hfull
        go_wp2_with fail
        go_ret
        exact ⟨ret_val rfl, (by repeat (first | (with_reducible first | exact Ext.refl _ | exact Ext.same _ _ _ _ | assumption | apply Ext.alloc | apply Ext.ext | apply Ext.drew) | (with_reducible refine Ext.setCell ?_ _ _ ?_; rotate_left; focus (first | omega | (simp only [zs1, zs2, zs3, size_ext]; omega)))))⟩
    · have hfull := shownT_full t m k (.inr (by omega)) hkm hk
      obtain ⟨A2, c2, rfl, hb2⟩ := Hown.out.slice
      have hcv := fun c => run_of_bytes hb2 c
      rw [Hlen.out] at hcv
      simp only [hfull] at hcv
      simp only [Hlen.out]
      clear hb2 hfull
      go_wp2_with fail
      go_ret
      exact ⟨ret_val rfl, (by repeat (first | (with_reducible first | exact Ext.refl _ | exact Ext.same _ _ _ _ | assumption | apply Ext.alloc | apply Ext.ext | apply Ext.drew) | (with_reducible refine Ext.setCell ?_ _ _ ?_; rotate_left; focus (first | omega | (simp only [zs1, zs2, zs3, size_ext]; omega)))))⟩
theorem Shown40 (t : ByteArray) (hs : t.size ≤ 9223372036854775807) (w : World) :
    Calls Try.prog 102 #[.string t, .int .i64 40] w fun e w' => e = .returned (.string (shownT t 40)) ∧ Ext w w' := Shown_any t 40 hs (by decide) w
end Go.Proofs.Ytekjdeibnfaehaa
