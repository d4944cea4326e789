/- append to an empty row or a row of one's own, while another new row stands. -/
import Derived.Test.YtekjdeibnfaehaaDone
set_option linter.unusedSimpArgs false
set_option linter.unusedVariables false
namespace Go.Proofs.Ytekjdeibnfaehaa
open Go Go.RowKit

theorem Sl.of_cells {k n r o : Nat} {W W' : World} {xs : List Value} (h : Sl k W (some ⟨r, o, none⟩) n xs) (hs : r < W'.heap.size) (hc : ∀ j, W'.cell? ⟨r, j, none⟩ = W.cell? ⟨r, j, none⟩) : Sl k W' (some ⟨r, o, none⟩) n xs :=
  ⟨h.1, fun hn => by
    obtain ⟨g, o', hA, hg, hcl⟩ := h.2 hn
    cases hA
    exact ⟨r, o, rfl, hs, fun j u hu => (hc _).trans (hcl j u hu)⟩⟩
set_option maxRecDepth 100000 in
theorem append_rec3 {W : World} {N : Nat} (ty : TypeId) {v : Value} {l news : List Rec} (hN : N ≤ W.heap.size) (hown : OwnR N W v l) {A : Option Addr} {m c : Nat} (hm : m = news.length) (hr : Sl 11 W A m (news.flatMap encRec)) (hlen : l.length + news.length ≤ 1000000) :
    ∃ v' W', (Builtin.append_ #[36, 36] ty #[v, .slice A m c]).run Try.prog W = .ok v' W' ∧ Below N W W' ∧ OwnR N W' v' (l ++ news) ∧ (∀ k j, k < W.heap.size → v.ownBlock ≠ some k → W'.cell? ⟨k, j, none⟩ = W.cell? ⟨k, j, none⟩) ∧ W.heap.size ≤ W'.heap.size := by
  obtain ⟨i0, hi, hz0, hz1, hz2⟩ := info_parts info_rec
  rcases A with _ | ad
  · have hm0 : m = 0 := by
      rcases Nat.eq_zero_or_pos m with h0 | h0
      · exact h0
      · obtain ⟨g, o', h, _⟩ := hr.2 h0
        cases h
    have hn : news = [] := List.eq_nil_of_length_eq_zero (by omega)
    subst hn
    subst hm0
    obtain ⟨v', W', h1, h2, h3⟩ := append_rec ty hN hown (c := c) rfl hr hlen
    refine ⟨v, W, ?_, Below.refl _ _, by simpa using hown, fun _ _ _ _ => rfl, Nat.le_refl _⟩
    rcases hown.2 with ⟨rfl, hl0⟩ | ⟨g, cap, cur, rfl, _, _, hnc, _⟩
    · simp [Builtin.append_, run_underlying Try.underlying36, sizeOf, typeInfo, hi, Builtin.lenOf, Builtin.firstCells]
    · simp [Builtin.append_, run_underlying Try.underlying36, sizeOf, typeInfo, hi, Builtin.lenOf, Builtin.firstCells, hnc, storeCells]
  · have hcells : ∀ j u, (news.flatMap encRec)[j]? = some u → W.cell? (ad.add j) = some u := by
      intro j u hu
      rcases Nat.eq_zero_or_pos m with h0 | h0
      · have hn : news = [] := List.eq_nil_of_length_eq_zero (by omega)
        subst hn
        simp at hu
      · obtain ⟨g, o', h, hg, hc⟩ := hr.2 h0
        injection h with h
        subst h
        rw [← hc j u hu]
        unfold Addr.add
        by_cases hj : j = 0
        · subst hj; rfl
        · rw [if_neg hj]
    obtain ⟨v', w', hrun, h2, h3, _, _⟩ := run_append_own_at (P := Try.prog) W N 36 ty 25 i0 _ 11 96 Try.underlying36 hi hz0 hz1 hz2 rfl (by decide) v l.length _ hown ad m c _ hr.1 hcells (encRec_one _) (by unfold maxLen; omega) (by omega) hN
    refine ⟨v', w', hrun, (Below.refl N W).grown h3 hN (own_base hown), ?_, fun k j hk hne => ?_, h3.size⟩
    · unfold OwnR
      rw [List.length_append, List.flatMap_append, ← hm]
      exact h2
    · exact World.cell?_of_block (w := W) (a := ⟨k, j, none⟩) (h3.block k hk (fun e => hne e.symm))
theorem wpOrd_arec3 {P : Program} (hP : P = Try.prog) {ops : Array Oper} {Q : Exit → Act → World → Prop} {S : World → Prop} {i : Nat} {rest : Plan} {a : Act} {W : World} {o : Oper} (X : World) (N : Nat) (hN : N = X.heap.size) (hi : ops[i]? = some o)
    (hw : Region.wanted o (yielded ops a.tmps) = true) (s x : Operand) (ho : o.op = .call { callee := .builtin .append, args := #[s, x], argTypes := #[36, 36] })
    {v : Value} {l : List Rec} (news : List Rec) (hs : a.eval s = v) (hx : Ext X W) (hown : OwnR N W v l)
    {A : Option Addr} {m c : Nat} (hv : a.eval x = .slice A m c) (hm : m = news.length) (hr : Sl 11 W A m (news.flatMap encRec)) (hlen : l.length + news.length ≤ 1000000)
    (h : ∀ v' E d, OwnR N (X.ext E d) v' (l ++ news) → (∀ k j, k < W.heap.size → v.ownBlock ≠ some k → (X.ext E d).cell? ⟨k, j, none⟩ = W.cell? ⟨k, j, none⟩) → W.heap.size ≤ (X.ext E d).heap.size → S (X.ext E d) ∧ wpOrd P ops Q S rest (a.put o.dst v') (X.ext E d)) : wpOrd P ops Q S (.a i rest) a W := by
  refine wpOrd_act hi hw fun K hK => ?_
  obtain ⟨v', W', h1, h2, h3, h4, h5⟩ := append_rec3 o.type (by rw [hN]; exact hx.below.size) hown (c := c) hm hr hlen
  rw [← hP] at h1
  obtain ⟨E, d, rfl⟩ := hx.below_of h2 (Nat.le_of_eq hN.symm)
  exact wp_append_run s x _ _ ho hs hv h1 (hK _ _ (h v' E d h3 h4 h5))
/-- What was made by acts: the record may be appended. -/
theorem PlayOk.app {p : PlayD} {l : List Rec} {k : Nat} {cnt : Int} {N : Nat} (h : PlayOk p l k cnt N) (hN : N < 80) (x : RawD) : recOk (madeR p.m.recs x) = true ∧ appE p.d p.m (madeR p.m.recs x) = 0 := by
  have hmany := h.many
  have hs : Sorted p.m.recs := by rw [h.jour.recs]; exact ordL_sorted h.jour.apart
  have hp := ordL_perm l
  have hbd := nextN_bound (N := N) (by omega) p.m.recs (x.a0 % 4) (fun r hr => by
    have hr' := hp.mem_iff.1 (h.jour.recs ▸ hr)
    exact ⟨recOk_seq (h.jour.ok r hr'), h.seqs r hr'⟩)
  have hok := madeR_ok p.m.recs x hbd.1 (by omega)
  exact ⟨hok, (h.jour.append hok (by rw [madeR_ao, madeR_sq]; exact has_next hs _) (by omega)).1⟩
end Go.Proofs.Ytekjdeibnfaehaa
