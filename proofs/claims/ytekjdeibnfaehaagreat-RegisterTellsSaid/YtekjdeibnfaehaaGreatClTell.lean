/- RegisterTells: the walk. -/
import Derived.Test.YtekjdeibnfaehaaGreatTellK
import Derived.Test.YtekjdeibnfaehaaGreatTellQ
import Derived.Test.YtekjdeibnfaehaaGreatSanes
set_option linter.unusedSimpArgs false
set_option linter.unusedVariables false
namespace Go.Proofs.YtekjdeibnfaehaaGreat
open Go Go.RowKit

section
open Op
@[go_sem ↓] theorem run_neq_rng (a b c d : Int) (w : World) : (binOp .neq 154 (.agg #[.int .i64 a, .int .i64 b]) (.agg #[.int .i64 c, .int .i64 d])).run Tryz.prog w = .ok (.bool (!plcEqB a b c d)) w := by
  by_cases h1 : a = c <;> by_cases h2 : b = d <;> simp [go_sem, plcEqB, h1, h2]
end
set_option maxRecDepth 100000 in
set_option maxHeartbeats 4000000 in
theorem ranges_self (A B : Option Addr) (n c m d : Nat) (L : List (Int × Int)) (hn : L.length = n) (hm : L.length = m) (hbig : n ≤ 9223372036854775807) (w : World) (hr : Rngs w A L) (hs : Rngs w B L) :
    Calls Tryz.prog 33 #[.slice A n c, .slice B m d] w fun e w' => e = .returned (.bool true) ∧ Ext w w' := by
  have hnm : n = m := by omega
  subst hnm
  go_enter Tryz.func33, Tryz.ntmps33
  go_wp2_with fail
  go_loopw [5] (fun i wr => ∃ k : Nat, k ≤ n ∧ i = .int .i64 k ∧ Ext w wr) (fun i _ => n - (intOf i).toNat)
  case atStart => exact ⟨0, Nat.zero_le _, rfl, (by repeat (first | (with_reducible first | exact Ext.refl _ | exact Ext.same _ _ _ _ | assumption | apply Ext.alloc | apply Ext.ext | apply Ext.drew) | (with_reducible refine Ext.setCell ?_ _ _ ?_; rotate_left; focus (first | omega | (simp only [zs1, zs2, zs3, size_ext]; omega)))))⟩
  case round =>
    obtain ⟨k, hk, rfl, ⟨E, dd, rfl⟩⟩ := hrel
    by_cases hlt : k < n
    · have h1 : k < L.length := by omega
      obtain ⟨g, o, rfl, hg⟩ := hr.addr (by omega)
      obtain ⟨g', o', rfl, hg'⟩ := hs.addr (by omega)
      obtain ⟨q0, q1⟩ := hr.row h1
      obtain ⟨p0, p1⟩ := hs.row h1
      obtain ⟨x, hxk⟩ : ∃ x, L[k] = x := ⟨_, rfl⟩
      rw [hxk] at q0 q1 p0 p1
      obtain ⟨x1, x2⟩ := x
      simp only [] at q0 q1 p0 p1
      have heq : plcEqB x1 x2 x1 x2 = true := plcEqB_iff.2 ⟨rfl, rfl⟩
      clear hxk
      go_wp2_with fail
      refine wp_region_ord_same (.f 0 (.f 1 (.f 2 (.f 3 (.f 4 (.f 5 (.f 6 (.f 7 (.f 8 .d))))))))) (by kernel_rfl) (by kernel_rfl) ?_
      repeat ((first | refine wpOrd_pass rfl rfl ?_ | (refine wpOrd_free (v := ?_) rfl rfl (fun _ hS => ?_) ?_; rotate_left; focus (go_simp; try with_reducible rfl))); simp only [Act.put, zp1, zp2, zp3, zp4, zp5, zp6])
      refine wpOrd_nil ?_
      go_wp2_with fail
      exact ⟨⟨k + 1, by omega, by go_num, (by repeat (first | (with_reducible first | exact Ext.refl _ | exact Ext.same _ _ _ _ | assumption | apply Ext.alloc | apply Ext.ext | apply Ext.drew) | (with_reducible refine Ext.setCell ?_ _ _ ?_; rotate_left; focus (first | omega | (simp only [zs1, zs2, zs3, size_ext]; omega)))))⟩, by simp [intOf]; omega⟩
    · obtain rfl : k = n := by omega
      clear hr hs
      go_wp2_with fail
      go_ret
      exact ⟨ret_val rfl, (by repeat (first | (with_reducible first | exact Ext.refl _ | exact Ext.same _ _ _ _ | assumption | apply Ext.alloc | apply Ext.ext | apply Ext.drew) | (with_reducible refine Ext.setCell ?_ _ _ ?_; rotate_left; focus (first | omega | (simp only [zs1, zs2, zs3, size_ext]; omega)))))⟩
theorem records_self (A B : Option Addr) (n c m d : Nat) (l : List Rec) (hn : l.length = n) (hm : l.length = m) (hbig : n ≤ 9223372036854775807) (w : World) (hr : Recs w A l) (hs : Recs w B l) :
    Calls Tryz.prog 32 #[.slice A n c, .slice B m d] w fun e w' => e = .returned (.bool true) ∧ Ext w w' := by
  have h := SameRecords_any A B n c m d l l hn hm hbig w hr hs
  rw [recsEqB_iff.2 rfl] at h
  exact h
theorem standingR_len (l : List Rec) (s d : Int) : (standingR l s d).length ≤ 80 := by
  unfold standingR
  split
  · rename_i h
    unfold standingE at h
    split at h
    · rename_i hc
      have h80 := (checkB_iff.1 hc).1
      have h1 : (knownL l d).length ≤ l.length := List.length_filter_le _ _
      have h2 := pick_length s (knownL l d) (standL (knownL l d))
      exact Nat.le_trans h2 (Nat.le_trans h1 h80)
    · cases h
  · exact Nat.zero_le _
theorem freeR_len (l : List Rec) (s a b : Int) : (freeR l s a b).length ≤ 100001 := by
  unfold freeR
  split
  · rename_i h
    obtain ⟨hc, h1, h2, h3, h4⟩ := freeE_parts h
    obtain ⟨ha0, ha1⟩ := inB_spec.1 h2
    obtain ⟨hb0, hb1⟩ := inB_spec.1 h3
    exact freeP_length (leases_ok (checkB_iff.1 hc).2.1 s) ha0 (by omega) hb1
  · exact Nat.zero_le _
set_option maxRecDepth 100000 in
set_option maxHeartbeats 16000000 in
theorem tells_walk (A : Option Addr) (n c : Nat) (l : List Rec) (o q s d t : Int) (hn : l.length = n) (hbig : n ≤ 9223372036854775807) (ht : TxtBig l) (w : World) (hb : Recs w A l) :
    Calls Tryz.prog 5 #[regV A n c, .agg #[.int .i64 o, .int .i64 q, .int .i64 s, .int .i64 d, .int .i64 t]] w fun e w' => e = .returned (.bool true) ∧ Ext w w' := by
  have Hl1 := hid (standingR_len l s d)
  have Hl2 := hid (freeR_len l s d t)
  go_enter Tryz.func5, Tryz.ntmps5
  go_wp2_with (first | (go_at_call 26; refine (Standing_any _ _ _ l _ _ (by first | rfl | assumption) (by omega) (by assumption) _ (by with_reducible repeat (first | assumption | apply Recs.ext | apply Recs.alloc | apply Recs.drew | (refine Recs.of_ext ?_ (by assumption))))).mono ?_; rintro e w1 ⟨Ag1, ng1, cg1, rfl, hng1, hrg1, Eg1, dg1, rfl⟩; replace hng1 := hng1.out; subst hng1) | (go_at_call 27; refine (rStanding_any _ _ _ l _ _ (by first | rfl | assumption) (by omega) (by assumption) _ (by with_reducible repeat (first | assumption | apply Recs.ext | apply Recs.alloc | apply Recs.drew | (refine Recs.of_ext ?_ (by assumption))))).mono ?_; rintro e w1 ⟨Ag2, ng2, cg2, rfl, hng2, hrg2, Eg2, dg2, rfl⟩; replace hng2 := hng2.out; subst hng2) | (go_at_call 30; refine (Free_any _ _ _ l _ _ _ (by first | rfl | assumption) (by omega) (by assumption) _ (by with_reducible repeat (first | assumption | apply Recs.ext | apply Recs.alloc | apply Recs.drew | (refine Recs.of_ext ?_ (by assumption))))).mono ?_; rintro e w1 ⟨Af1, nf1, cf1, rfl, hnf1, hrf1, Ef1, df1, rfl⟩; replace hnf1 := hnf1.out; subst hnf1) | (go_at_call 31; refine (rFree_any _ _ _ l _ _ _ (by first | rfl | assumption) (by omega) (by assumption) _ (by with_reducible repeat (first | assumption | apply Recs.ext | apply Recs.alloc | apply Recs.drew | (refine Recs.of_ext ?_ (by assumption))))).mono ?_; rintro e w1 ⟨Af2, nf2, cf2, rfl, hnf2, hrf2, Ef2, df2, rfl⟩; replace hnf2 := hnf2.out; subst hnf2) | (go_at_call 32; refine (records_self _ _ _ _ _ _ _ rfl rfl (by have := Hl1.out; omega) _ (by with_reducible repeat (first | assumption | apply Recs.ext | apply Recs.alloc | apply Recs.drew | (refine Recs.of_ext ?_ (by assumption)))) (by with_reducible repeat (first | assumption | apply Recs.ext | apply Recs.alloc | apply Recs.drew | (refine Recs.of_ext ?_ (by assumption))))).mono ?_; rintro e w1 ⟨rfl, Es1, ds1, rfl⟩) | (go_at_call 33; refine (ranges_self _ _ _ _ _ _ _ rfl rfl (by have := Hl2.out; omega) _ (by exact Rngs.of_ext hrf1 (by repeat (first | (with_reducible first | exact Ext.refl _ | exact Ext.same _ _ _ _ | assumption | apply Ext.alloc | apply Ext.ext | apply Ext.drew) | (with_reducible refine Ext.setCell ?_ _ _ ?_; rotate_left; focus (first | omega | (simp only [zs1, zs2, zs3, size_ext]; omega))) | (with_reducible refine Ext.trans ?_ (by assumption))))) (by exact Rngs.of_ext hrf2 (by repeat (first | (with_reducible first | exact Ext.refl _ | exact Ext.same _ _ _ _ | assumption | apply Ext.alloc | apply Ext.ext | apply Ext.drew) | (with_reducible refine Ext.setCell ?_ _ _ ?_; rotate_left; focus (first | omega | (simp only [zs1, zs2, zs3, size_ext]; omega))) | (with_reducible refine Ext.trans ?_ (by assumption)))))).mono ?_; rintro e w1 ⟨rfl, Es2, ds2, rfl⟩) | (go_at_call 24; refine (Stands_any _ _ _ _ _ _ (by first | rfl | assumption) (by omega) (by assumption) _ (by with_reducible repeat (first | assumption | apply Recs.ext | apply Recs.alloc | apply Recs.drew | (refine Recs.of_ext ?_ (by assumption))))).mono ?_; rintro e w1 ⟨rfl, E1, d1, rfl⟩) | (go_at_call 25; refine (rStands_any _ _ _ _ _ _ (by first | rfl | assumption) (by omega) (by assumption) _ (by with_reducible repeat (first | assumption | apply Recs.ext | apply Recs.alloc | apply Recs.drew | (refine Recs.of_ext ?_ (by assumption))))).mono ?_; rintro e w1 ⟨rfl, E1, d1, rfl⟩) | (go_at_call 28; refine (Holder_any _ _ _ _ _ _ (by first | rfl | assumption) (by omega) (by assumption) _ (by with_reducible repeat (first | assumption | apply Recs.ext | apply Recs.alloc | apply Recs.drew | (refine Recs.of_ext ?_ (by assumption))))).mono ?_; rintro e w1 ⟨rfl, E1, d1, rfl⟩) | (go_at_call 29; refine (rHolder_any _ _ _ _ _ _ (by first | rfl | assumption) (by omega) (by assumption) _ (by with_reducible repeat (first | assumption | apply Recs.ext | apply Recs.alloc | apply Recs.drew | (refine Recs.of_ext ?_ (by assumption))))).mono ?_; rintro e w1 ⟨rfl, E1, d1, rfl⟩) | (go_at_call 18; refine (sane_any _).mono ?_; rintro e w1 ⟨rfl, E1, d1, rfl⟩))
  go_ret
  exact ⟨ret_val rfl, (by repeat (first | (with_reducible first | exact Ext.refl _ | exact Ext.same _ _ _ _ | assumption | apply Ext.alloc | apply Ext.ext | apply Ext.drew) | (with_reducible refine Ext.setCell ?_ _ _ ?_; rotate_left; focus (first | omega | (simp only [zs1, zs2, zs3, size_ext]; omega)))))⟩
end Go.Proofs.YtekjdeibnfaehaaGreat
