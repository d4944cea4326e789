/- Texts of a proof. -/
import Derived.Test.YtekjdeibnfaehaaGreatKAas
/- has: whether a register has a record. -/
set_option linter.unusedSimpArgs false
set_option linter.unusedVariables false
namespace Go.Proofs.YtekjdeibnfaehaaGreat
open Go Go.RowKit

def hasB (l : List Rec) (r : Rec) : Bool := l.any fun x => recEqB x r
theorem hasB_iff {l : List Rec} {r : Rec} : hasB l r = true ↔ r ∈ l := by
  unfold hasB
  rw [List.any_eq_true]
  constructor
  · rintro ⟨x, hx, h⟩
    rw [← recEqB_iff.1 h]
    exact hx
  · exact fun h => ⟨r, h, recEqB_iff.2 rfl⟩
theorem hasB_none {l : List Rec} {r : Rec} (h : ∀ t (ht : t < l.length), recEqB l[t] r = false) : hasB l r = false := by
  unfold hasB
  rw [List.any_eq_false]
  intro x hx
  obtain ⟨t, ht, rfl⟩ := List.getElem_of_mem hx
  rw [h t ht]
  simp
set_option maxRecDepth 100000 in
set_option maxHeartbeats 4000000 in
theorem has_any (A : Option Addr) (c n : Nat) (l : List Rec) (r : Rec) (hn : l.length = n) (hbig : n ≤ 1000000) (w : World) (hr : Recs w A l) :
    Calls Tryz.prog 51 #[regV A n c, recV r] w fun e w' => e = .returned (.bool (hasB l r)) ∧ Ext w w' := by
  go_enter Tryz.func51, Tryz.ntmps51
  go_wp2_with fail
  go_loopw [5] (fun i wr => ∃ k : Nat, k ≤ n ∧ i = .int .i64 k ∧ Ext ((w.alloc (.cells #[.slice A n c] 34)).alloc (.cells #[.int .i64 r.ao, .int .i64 r.sq, .int .i64 r.kind, .int .i64 r.ship, .int .i64 r.day, .int .i64 r.known, .int .i64 r.wo, .int .i64 r.ws, .int .i64 r.to, .int .i64 r.til, .string r.text] 46)) wr ∧ Hid (∀ t (ht : t < l.length), t < k → recEqB l[t] r = false)) (fun i _ => n - (intOf i).toNat)
  case atStart => exact ⟨0, Nat.zero_le _, rfl, Ext.refl _, hid fun t _ h => absurd h (Nat.not_lt_zero _)⟩
  case round =>
    obtain ⟨k, hk, rfl, ⟨E0, d0, rfl⟩, hno⟩ := hrel
    by_cases hlt : k < n
    · have hm : k < l.length := by omega
      obtain ⟨g, of, rfl, hg⟩ := hr.addr (by omega)
      obtain ⟨h0, h1, h2, h3, h4, h5, h6, h7, h8, h9, h10⟩ := hr.row hm
      obtain ⟨x, hrk⟩ : ∃ x, l[k] = x := ⟨_, rfl⟩
      rw [hrk] at h0 h1 h2 h3 h4 h5 h6 h7 h8 h9 h10
      have Hrk := hid hrk
      clear hrk
      cases hat : recEqB x r with
      | true =>
        have Hf : Hid (hasB l r = true) := hid (List.any_eq_true.2 ⟨l[k], List.getElem_mem hm, by rw [Hrk.out]; exact hat⟩)
        go_wp2_with fail
        refine wp_region_ord_same (.f 0 (.f 1 (.f 2 (.f 3 (.f 4 (.f 5 (.f 6 .d))))))) (by kernel_rfl) (by kernel_rfl) ?_
        repeat ((first | refine wpOrd_pass rfl rfl ?_ | (refine wpOrd_free (v := ?_) rfl rfl (fun _ hS => ?_) ?_; rotate_left; focus (go_simp; try with_reducible rfl))); simp only [Act.put, zp])
        refine wpOrd_nil ?_
        go_wp2_with fail
        go_ret
        exact ⟨ret_val (by rw [Hf.out]; rfl), exI⟩
      | false =>
        go_wp2_with fail
        refine wp_region_ord_same (.f 0 (.f 1 (.f 2 (.f 3 (.f 4 (.f 5 (.f 6 .d))))))) (by kernel_rfl) (by kernel_rfl) ?_
        repeat ((first | refine wpOrd_pass rfl rfl ?_ | (refine wpOrd_free (v := ?_) rfl rfl (fun _ hS => ?_) ?_; rotate_left; focus (go_simp; try with_reducible rfl))); simp only [Act.put, zp])
        refine wpOrd_nil ?_
        go_wp2_with fail
        refine ⟨⟨k + 1, by omega, by go_num, exI, hid fun t ht h => ?_⟩, by simp [intOf]; omega⟩
        by_cases hc : t = k
        · subst hc; rw [Hrk.out]; exact hat
        · exact hno.out t ht (by omega)
    · obtain rfl : k = n := by omega
      have hT : Hid (hasB l r = false) := hid (hasB_none fun t ht => hno.out t ht (by omega))
      clear hr
      go_wp2_with fail
      go_ret
      exact ⟨ret_val (by rw [hT.out]; rfl), exI⟩
end Go.Proofs.YtekjdeibnfaehaaGreat
