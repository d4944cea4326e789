/- Texts of a proof. -/
import Derived.Test.YtekjdeibnfaehaaGreatKAag
/- append to a row of one's own beside boxes that change. -/
set_option linter.unusedSimpArgs false
set_option linter.unusedVariables false
namespace Go.Proofs.YtekjdeibnfaehaaGreat
open Go.RowKit

section
variable {P : Program} {S : World → Prop}
theorem run_append_b {W : World} {N : Nat} (t ty : TypeId) (e : TypeId) (i : TypeInfo) (z : Value) (size bytes : Nat) (ht : P.underlying t = some (.slice e)) (hi : P.info? e = some i) (hz : i.zero = some z)
    (hsize : i.size = size) (hby : i.bytes = bytes) (hzs : z.cells.size = size) (hsz : 0 < size) {v : Value} {n : Nat} {xs : List Value} (hN : N ≤ W.heap.size) (hown : W.ownsRow N e size v n xs)
    {A : Option Addr} {m c : Nat} {news : List Value} (hr : Sl size W A m news) (h1 : ∀ u ∈ news, u.oneCell' = true) (h63 : n + m ≤ maxLen) (hbytes : (n + m) * bytes ≤ 140737488355328) :
    ∃ v' W', (Builtin.append_ #[t, t] ty #[v, .slice A m c]).run P W = .ok v' W' ∧ Below N W W' ∧ W'.ownsRow N e size v' (n + m) (xs ++ news) := by
  rcases A with _ | ad
  · have hm : m = 0 := by
      rcases Nat.eq_zero_or_pos m with h0 | h0
      · exact h0
      · obtain ⟨g, o', h, _⟩ := hr.2 h0
        cases h
    subst hm
    have hn : news = [] := List.eq_nil_of_length_eq_zero (by simpa using hr.1)
    subst hn
    refine ⟨v, W, ?_, Below.refl _ _, by simpa using hown⟩
    rcases hown.2 with ⟨rfl, rfl⟩ | ⟨g, cap, cur, rfl, _, _, hnc, _⟩
    · simp [Builtin.append_, run_underlying ht, sizeOf, typeInfo, hi, Builtin.lenOf, Builtin.firstCells]
    · simp [Builtin.append_, run_underlying ht, sizeOf, typeInfo, hi, Builtin.lenOf, Builtin.firstCells, hnc, storeCells]
  · have hcells : ∀ j u, news[j]? = some u → W.cell? (ad.add j) = some u := by
      intro j u hu
      rcases Nat.eq_zero_or_pos m with h0 | h0
      · subst h0
        have hn : news = [] := List.eq_nil_of_length_eq_zero (by simpa using hr.1)
        subst hn
        simp at hu
      · obtain ⟨g, o', h, hg, hc⟩ := hr.2 h0
        injection h with h
        subst h
        rw [← hc j u hu]
        unfold Addr.add
        by_cases hj : j = 0
        · subst hj; rfl
        · rw [if_neg hj]
    obtain ⟨v', w', hrun, h2, h3, _, _⟩ := run_append_own_at (P := P) W N t ty e i z size bytes ht hi hz hsize hby hzs hsz v n xs hown ad m c news hr.1 hcells h1 h63 hbytes hN
    exact ⟨v', w', hrun, (Below.refl N W).grown h3 hN (own_base hown), h2⟩
/-- One builtin's run, at the operation. -/
theorem wp_append_run {o : Oper} {a : Act} {K : Act → World → Prop} {Q : Exit → Act → World → Prop} {W W' : World} {v v' y : Value} (s x : Operand) (t u : TypeId)
    (ho : o.op = .call { callee := .builtin .append, args := #[s, x], argTypes := #[t, u] }) (hs : a.eval s = v) (hv : a.eval x = y)
    (hrun : (Builtin.append_ #[t, u] o.type #[v, y]).run P W = .ok v' W') (h : K (a.put o.dst v') W') : o.wp P a W K Q := by
  unfold Oper.wp execOp
  simp only [ho, resolve, invoke, builtin, Sem.run_bind, Sem.run_pure, Result.andThen_ok, List.map_toArray, List.map_cons, List.map_nil, hs, hv, hrun]
  exact h
end
/-- append of records. -/
theorem append_rec {W : World} {N : Nat} (ty : TypeId) {v : Value} {l news : List Rec} (hN : N ≤ W.heap.size) (hown : OwnR N W v l) {A : Option Addr} {m c : Nat} (hm : m = news.length) (hr : Sl 11 W A m (news.flatMap encRec)) (hlen : l.length + news.length ≤ 1000000) :
    ∃ v' W', (Builtin.append_ #[32, 32] ty #[v, .slice A m c]).run Tryz.prog W = .ok v' W' ∧ Below N W W' ∧ OwnR N W' v' (l ++ news) := by
  obtain ⟨i0, hi, hz0, hz1, hz2⟩ := info_parts info_rec
  obtain ⟨v', W', h1, h2, h3⟩ := run_append_b (P := Tryz.prog) 32 ty 46 i0 _ 11 96 Tryz.underlying32 hi hz0 hz1 hz2 rfl (by decide) hN hown (c := c) hr (encRec_one _) (by unfold maxLen; omega) (by omega)
  refine ⟨v', W', h1, h2, ?_⟩
  unfold OwnR
  rw [List.length_append, List.flatMap_append, ← hm]
  exact h3
theorem wpList_append_rec {P : Program} (hP : P = Tryz.prog) {ops : Array Oper} {rest : List Oper} {o : Oper} {a : Act} {Q : Exit → Act → World → Prop} {W : World} (N : Nat) (hgd : o.guard = none) (s x : Operand)
    (ho : o.op = .call { callee := .builtin .append, args := #[s, x], argTypes := #[32, 32] }) {v : Value} {l : List Rec} (news : List Rec) (hs : a.eval s = v) (hN : N ≤ W.heap.size) (hown : OwnR N W v l)
    {A : Option Addr} {m c : Nat} (hv : a.eval x = .slice A m c) (hm : m = news.length) (hr : Sl 11 W A m (news.flatMap encRec)) (hlen : l.length + news.length ≤ 1000000)
    (h : ∀ v' W', Below N W W' → OwnR N W' v' (l ++ news) → wpList P ops Q rest (a.put o.dst v') W') : wpList P ops Q (o :: rest) a W := by
  obtain ⟨v', W', h1, h2, h3⟩ := append_rec o.type hN hown (c := c) hm hr hlen
  rw [← hP] at h1
  exact wpList_plain hgd fun _ hK => wp_append_run s x _ _ ho hs hv h1 (hK _ _ (h v' W' h2 h3))
/-- What stood ahead of a row's blocks stands. -/
theorem _root_.Go.Ext.below_of {w W W' : World} {N : Nat} (h : Ext w W) (hb : Below N W W') (hN : w.heap.size ≤ N) : Ext w W' :=
  Ext.of_below (h.below.trans (hb.mono hN))
theorem OwnR.open {base : Nat} {w : World} {v : Value} {l : List Rec} (h : OwnR base w v l) : ∃ A n c, v = .slice A n c ∧ n = l.length ∧ n ≤ c ∧ Recs w A l := by
  obtain ⟨A, c, h1, h2, h3⟩ := h.slice
  exact ⟨A, _, c, h1, rfl, h2, h3⟩
theorem OwnR.swap {N : Nat} {X X' : World} {E : Array Obj} {d d' : Nat} {v : Value} {l : List Rec} (h : OwnR N (X.ext E d) v l) (hs : X'.heap.size = X.heap.size) (hN : X.heap.size ≤ N) : OwnR N (X'.ext E d') v l := by
  refine ⟨h.1, ?_⟩
  rcases h.2 with h0 | ⟨g, cap, cur, hv, hb, hh, hr⟩
  · exact .inl h0
  · refine .inr ⟨g, cap, cur, hv, hb, ?_, hr⟩
    rw [← hh]
    simp only [World.ext]
    rw [Array.getElem?_append_right (by omega), Array.getElem?_append_right (by omega), hs]
theorem OwnR.moved {N base : Nat} {X X' : World} {E : Array Obj} {d d' : Nat} {v : Value} {l : List Rec} (h : OwnR N (X.ext E d) v l) (hs : X'.heap.size = X.heap.size) (hN : X.heap.size ≤ N) (hb : base ≤ N) : OwnR base (X'.ext E d') v l :=
  OwnR.base (OwnR.swap h hs hN) hb
/-- append of records where what was in X stands. -/
theorem wpList_arec {P : Program} (hP : P = Tryz.prog) {ops : Array Oper} {rest : List Oper} {o : Oper} {a : Act} {Q : Exit → Act → World → Prop} {W : World} (X : World) (N : Nat) (hN : N = X.heap.size) (hgd : o.guard = none) (s x : Operand)
    (ho : o.op = .call { callee := .builtin .append, args := #[s, x], argTypes := #[32, 32] }) {v : Value} {l : List Rec} (news : List Rec) (hs : a.eval s = v) (hx : Ext X W) (hown : OwnR N W v l)
    {A : Option Addr} {m c : Nat} (hv : a.eval x = .slice A m c) (hm : m = news.length) (hr : Sl 11 W A m (news.flatMap encRec)) (hlen : l.length + news.length ≤ 1000000)
    (h : ∀ v' E d, OwnR N (X.ext E d) v' (l ++ news) → wpList P ops Q rest (a.put o.dst v') (X.ext E d)) : wpList P ops Q (o :: rest) a W := by
  refine wpList_append_rec hP N hgd s x ho news hs (by rw [hN]; exact hx.below.size) hown hv hm hr hlen fun v' W' hb ho' => ?_
  obtain ⟨E, d, rfl⟩ := hx.below_of hb (Nat.le_of_eq hN.symm)
  exact h _ _ _ ho'
end Go.Proofs.YtekjdeibnfaehaaGreat
/- The reference's way of putting a record in. -/
set_option linter.unusedSimpArgs false
set_option linter.unusedVariables false
namespace Go.Proofs.YtekjdeibnfaehaaGreat
open Go.RowKit

end Go.Proofs.YtekjdeibnfaehaaGreat
/- Registers copied. -/
namespace Go.Proofs.YtekjdeibnfaehaaGreat
open Go.RowKit

set_option maxRecDepth 100000 in
set_option maxHeartbeats 2000000 in
theorem copied_any (A : Option Addr) (c n : Nat) (l : List Rec) (hn : l.length = n) (hbig : n ≤ 1000000) (w : World) (hr : Recs w A l) :
    Calls Tryz.prog 79 #[regV A n c] w fun e w' => ∃ A' n' c', e = .returned (regV A' n' c') ∧ Hid (n' = l.length) ∧ OwnR w.heap.size w' (.slice A' n' c') l ∧ Ext w w' := by
  go_enter Tryz.func79, Tryz.ntmps79
  go_wp2_with (go_at_call 90; refine (Clone_own _ _ _ _ (by first | rfl | assumption) (by omega) _ (recI ‹_›)).mono ?_; rintro e w1 ⟨Ac1, nc1, cc1, rfl, hnc1, hvc1, E1, d1, rfl⟩)
  refine bodyPost_ret (v := regV Ac1 nc1 cc1) (by simp [results, Tryz.results79, go_sem]) rfl ?_
  have HH := hvc1
  simp only [World.size_alloc] at HH
  exact ⟨_, _, _, rfl, hnc1, OwnR.base (base := w.heap.size + 1 + 1) (OwnR.swap HH (by simp [World.size_alloc]) (by simp [World.size_alloc])) (by omega), exI⟩
end Go.Proofs.YtekjdeibnfaehaaGreat
