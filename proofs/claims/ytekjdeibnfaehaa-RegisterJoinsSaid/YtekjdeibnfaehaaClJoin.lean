/- RegisterJoins: the walk. -/
import Derived.Test.YtekjdeibnfaehaaJoin
import Derived.Test.YtekjdeibnfaehaaRJoin
import Derived.Test.YtekjdeibnfaehaaClAdd
set_option linter.unusedSimpArgs false
set_option linter.unusedVariables false
namespace Go.Proofs.Ytekjdeibnfaehaa
open Go Go.RowKit

theorem joinL_len (a b : List Rec) : (joinL a b).length ≤ 80 := by
  unfold joinL
  split
  · rename_i h
    unfold joinE at h
    split at h
    · split at h
      · exact absurd h (by decide)
      · split at h
        · exact absurd h (by decide)
        · omega
    · exact absurd h (by decide)
  · simp
set_option maxRecDepth 100000 in
set_option maxHeartbeats 8000000 in
theorem joins_walk (A B : Option Addr) (n c m d : Nat) (a b : List Rec) (hn : a.length = n) (hm : b.length = m) (hbig : n ≤ 9223372036854775807) (hbig2 : m ≤ 9223372036854775807) (ht : TxtBig a) (ht2 : TxtBig b) (w : World) (hr : Recs w A a) (hs : Recs w B b) :
    Calls Try.prog 4 #[regV A n c, regV B m d] w fun e w' => e = .returned (.bool true) ∧ Ext w w' := by
  have hal := joinL_len a b
  go_enter Try.func4, Try.ntmps4
  go_wp2_with (first | (go_at_call 18; refine (Join_any _ _ _ _ _ _ _ _ (by first | rfl | assumption) (by first | rfl | assumption) (by omega) (by omega) (by assumption) (by assumption) _ (by with_reducible repeat (first | assumption | apply Recs.ext | apply Recs.alloc | apply Recs.drew | (refine Recs.of_ext ?_ (by assumption)))) (by with_reducible repeat (first | assumption | apply Recs.ext | apply Recs.alloc | apply Recs.drew | (refine Recs.of_ext ?_ (by assumption))))).mono ?_; rintro e w1 ⟨Ap1, np1, cp1, rfl, hnp1, hvp1, E1, d1, rfl⟩; have hra := OwnR.of_slice hvp1; (try have hnp1 := hnp1.out); (try subst hnp1); clear hvp1) | (go_at_call 19; refine (rJoin_any _ _ _ _ _ _ _ _ (by first | rfl | assumption) (by first | rfl | assumption) (by omega) (by omega) (by assumption) (by assumption) _ (by with_reducible repeat (first | assumption | apply Recs.ext | apply Recs.alloc | apply Recs.drew | (refine Recs.of_ext ?_ (by assumption)))) (by with_reducible repeat (first | assumption | apply Recs.ext | apply Recs.alloc | apply Recs.drew | (refine Recs.of_ext ?_ (by assumption))))).mono ?_; rintro e w1 ⟨Ap2, np2, cp2, rfl, hnp2, hvp2, E2, d2, rfl⟩; have hrb := OwnR.of_slice hvp2; (try have hnp2 := hnp2.out); (try subst hnp2); clear hvp2))
  go_wp2_with (first | (go_at_call 20; refine (same_self _ _ _ _ _ _ _ (by first | rfl | assumption) (by first | rfl | assumption) (by omega) _ (by with_reducible repeat (first | assumption | apply Recs.ext | apply Recs.alloc | apply Recs.drew | (refine Recs.of_ext ?_ (by assumption)))) (by with_reducible repeat (first | assumption | apply Recs.ext | apply Recs.alloc | apply Recs.drew | (refine Recs.of_ext ?_ (by assumption))))).mono ?_; rintro e w1 ⟨rfl, E1, d1, rfl⟩) | (go_at_call 17; refine (sane_any _).mono ?_; rintro e w1 ⟨rfl, E1, d1, rfl⟩))
  go_ret
  exact ⟨ret_val rfl, (by repeat (first | with_reducible exact Ext.refl _ | with_reducible exact Ext.same _ _ _ _ | with_reducible assumption | with_reducible apply Ext.alloc | with_reducible apply Ext.ext | with_reducible apply Ext.drew | (with_reducible refine Ext.setCell ?_ _ _ ?_; rotate_left; (focus (first | omega | (simp only [World.size_alloc, World.size_drew, size_ext, World.size_setCell]; omega))))))⟩
end Go.Proofs.Ytekjdeibnfaehaa
