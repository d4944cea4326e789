/- Runs of free days: rows of them, the program's cut and Free, the reference's Free. -/
import Derived.Test.YtekjdeibnfaehaaGreatTellH
set_option linter.unusedSimpArgs false
set_option linter.unusedVariables false
namespace Go.Proofs.YtekjdeibnfaehaaGreat
open Go.RowKit

abbrev encRng (x : Int × Int) : List Value := [.int .i64 x.1, .int .i64 x.2]
theorem encRng_one (l : List (Int × Int)) : ∀ u ∈ l.flatMap encRng, u.oneCell' = true := by
  intro u hu
  obtain ⟨r, _, hr⟩ := List.mem_flatMap.1 hu
  simp only [encRng, List.mem_cons, List.not_mem_nil, or_false] at hr
  rcases hr with rfl | rfl <;> rfl
def Rngs (w : World) (A : Option Addr) (l : List (Int × Int)) : Prop := Sl 2 w A l.length (l.flatMap encRng)
theorem Rngs.of_ext {w w' : World} {A : Option Addr} {l : List (Int × Int)} (h : Rngs w A l) (hx : Ext w w') : Rngs w' A l := Sl.of_ext h hx
theorem Rngs.nil (w : World) (A : Option Addr) : Rngs w A [] := ⟨rfl, fun h => absurd h (Nat.lt_irrefl 0)⟩
theorem Rngs.addr {w : World} {A : Option Addr} {l : List (Int × Int)} (h : Rngs w A l) (hn : 0 < l.length) : ∃ g o, A = some ⟨g, o, none⟩ ∧ g < w.heap.size := by
  obtain ⟨g, o, hA, hg, _⟩ := h.2 hn
  exact ⟨g, o, hA, hg⟩
theorem Rngs.row {w : World} {g o : Nat} {l : List (Int × Int)} (h : Rngs w (some ⟨g, o, none⟩) l) {i : Nat} (hi : i < l.length) : w.cell? ⟨g, o + i * 2, none⟩ = some (.int .i64 l[i].1) ∧ w.cell? ⟨g, o + i * 2 + 1, none⟩ = some (.int .i64 l[i].2) := by
  obtain ⟨g', o', hA, _, hc⟩ := h.2 (by omega)
  cases hA
  have hf := fun j hj => flatMap_get encRng 2 (fun _ => rfl) l i j hi hj
  exact ⟨hc (i * 2) _ (by have := hf 0 (by decide); simpa using this), by rw [Nat.add_assoc]; exact hc (i * 2 + 1) _ (by have := hf 1 (by decide); simpa using this)⟩
def OwnG (base : Nat) (w : World) (v : Value) (l : List (Int × Int)) : Prop := w.ownsRow base 154 2 v l.length (l.flatMap encRng)
theorem OwnG.none (base : Nat) (w : World) : OwnG base w (.slice none 0 0) [] := ownsRow_none base
theorem OwnG.of_ext {base : Nat} {w w' : World} {v : Value} {l : List (Int × Int)} (h : OwnG base w v l) (hx : Ext w w') : OwnG base w' v l := by
  obtain ⟨E, d, rfl⟩ := hx; exact ownsRow_ext h E d
theorem OwnG.open {base : Nat} {w : World} {v : Value} {l : List (Int × Int)} (h : OwnG base w v l) : ∃ A n c, v = .slice A n c ∧ n = l.length ∧ n ≤ c ∧ Rngs w A l := by
  obtain ⟨A, c, h1, h2, h3⟩ := ownsRow_slice h
  exact ⟨A, _, c, h1, rfl, h2, h3⟩
theorem info_rng : (Tryz.prog.info? 154).map (fun i => (i.zero, i.size, i.bytes)) = some (some (.agg #[.int .i64 0, .int .i64 0]), 2, 16) := by kernel_rfl
theorem append_rng {W : World} {N : Nat} (ty : TypeId) {v : Value} {l news : List (Int × Int)} (hN : N ≤ W.heap.size) (hown : OwnG N W v l) {A : Option Addr} {m c : Nat} (hm : m = news.length) (hr : Sl 2 W A m (news.flatMap encRng)) (hlen : l.length + news.length ≤ 1000000) :
    ∃ v' W', (Builtin.append_ #[61, 61] ty #[v, .slice A m c]).run Tryz.prog W = .ok v' W' ∧ Below N W W' ∧ OwnG N W' v' (l ++ news) := by
  obtain ⟨i0, hi, hz0, hz1, hz2⟩ := info_parts info_rng
  obtain ⟨v', W', h1, h2, h3⟩ := run_append_b (P := Tryz.prog) 61 ty 154 i0 _ 2 16 Tryz.underlying61 hi hz0 hz1 hz2 rfl (by decide) hN hown (c := c) hr (encRng_one _) (by unfold maxLen; omega) (by omega)
  refine ⟨v', W', h1, h2, ?_⟩
  unfold OwnG
  rw [List.length_append, List.flatMap_append, ← hm]
  exact h3
theorem wpList_arng {P : Program} (hP : P = Tryz.prog) {ops : Array Oper} {rest : List Oper} {o : Oper} {a : Act} {Q : Exit → Act → World → Prop} {W : World} (X : World) (N : Nat) (hN : N = X.heap.size) (hgd : o.guard = none) (s x : Operand)
    (ho : o.op = .call { callee := .builtin .append, args := #[s, x], argTypes := #[61, 61] }) {v : Value} {l : List (Int × Int)} (news : List (Int × Int)) (hs : a.eval s = v) (hx : Ext X W) (hown : OwnG N W v l)
    {A : Option Addr} {m c : Nat} (hv : a.eval x = .slice A m c) (hm : m = news.length) (hr : Sl 2 W A m (news.flatMap encRng)) (hlen : l.length + news.length ≤ 1000000)
    (h : ∀ v' E d, OwnG N (X.ext E d) v' (l ++ news) → wpList P ops Q rest (a.put o.dst v') (X.ext E d)) : wpList P ops Q (o :: rest) a W := by
  obtain ⟨v', W', h1, h2, h3⟩ := append_rng o.type (by rw [hN]; exact hx.below.size) hown (c := c) hm hr hlen
  rw [← hP] at h1
  obtain ⟨E, d, rfl⟩ := hx.below_of h2 (Nat.le_of_eq hN.symm)
  exact wpList_plain hgd fun _ hK => wp_append_run s x _ _ ho hs hv h1 (hK _ _ (h v' E d h3))
/-- The pieces of a run that are left, the first j of them. -/
def cutHi (a h : Int) : Int := if a - 1 < h then a - 1 else h
def cutLo (b l : Int) : Int := if l < b + 1 then b + 1 else l
theorem cutHi_eq (a h : Int) : cutHi a h = min h (a - 1) := by unfold cutHi; split <;> omega
theorem cutLo_eq (b l : Int) : cutLo b l = max l (b + 1) := by unfold cutLo; split <;> omega
@[go_sem] theorem run_rng0 (a b c d : Value) (W : World) : (Instr.index 190 (.agg #[a, b, c, d]) (.int .i64 0)).run Tryz.prog W = .ok (.agg #[a, b]) W := by
  simp [Instr.index, go_sem, part]
@[go_sem] theorem run_rng1 (a b c d : Value) (W : World) : (Instr.index 190 (.agg #[a, b, c, d]) (.int .i64 1)).run Tryz.prog W = .ok (.agg #[c, d]) W := by
  simp [Instr.index, go_sem, part]
def cutJ (a b : Int) (x : Int × Int) : Nat → List (Int × Int)
  | 0 => []
  | 1 => if x.1 ≤ cutHi a x.2 then [(x.1, cutHi a x.2)] else []
  | _ => cutR a b x
theorem cutR_eq (a b : Int) (x : Int × Int) : cutR a b x = cutJ a b x 1 ++ if cutLo b x.1 ≤ x.2 then [(cutLo b x.1, x.2)] else [] := rfl
theorem cutL_take (L : List (Int × Int)) (a b : Int) {k : Nat} (hk : k < L.length) : cutL (L.take (k + 1)) a b = cutL (L.take k) a b ++ cutR a b L[k] := by
  rw [List.take_succ_eq_append_getElem hk]
  unfold cutL
  simp only [List.flatMap_append, List.flatMap_cons, List.flatMap_nil, List.append_nil]
set_option maxRecDepth 100000 in
set_option maxHeartbeats 8000000 in
theorem cutR_any (A : Option Addr) (c n : Nat) (L : List (Int × Int)) (a b : Int) (hn : L.length = n) (hbig : n ≤ 200000) (ha0 : 0 ≤ a) (ha1 : a ≤ 100000) (hb0 : 0 ≤ b) (hb1 : b ≤ 100000) (w : World) (hr : Rngs w A L) :
    Calls Tryz.prog 96 #[.slice A n c, .int .i64 a, .int .i64 b] w fun e w' => ∃ A' n' c', e = .returned (.slice A' n' c') ∧ Hid (n' = (cutL L a b).length) ∧ Rngs w' A' (cutL L a b) ∧ Ext w w' := by
  have wa : IntKind.i64.wrap (a - 1) = a - 1 := IntWalk.i64_in _ (by omega)
  have wb : IntKind.i64.wrap (b + 1) = b + 1 := IntWalk.i64_in _ (by omega)
  go_enter Tryz.func96, Tryz.ntmps96
  go_wp2_with fail
  go_loopw [7, 14] (fun v i wr => ∃ k : Nat, k ≤ n ∧ i = .int .i64 k ∧ Ext w wr ∧ OwnG w.heap.size wr v (cutL (L.take k) a b)) (fun _ i _ => n - (intOf i).toNat)
  case atStart => exact ⟨0, Nat.zero_le _, rfl, Ext.refl _, OwnG.none _ _⟩
  case round =>
    obtain ⟨k, hk, rfl, ⟨E9, d9, rfl⟩, hown⟩ := hrel
    have Hown := hid hown
    clear hown
    by_cases hlt : k < n
    · have hm : k < L.length := by omega
      obtain ⟨g, of, rfl, hg⟩ := hr.addr (by omega)
      obtain ⟨h0, h1⟩ := hr.row hm
      have hst := cutL_take L a b hm
      have hle := cutL_length a b (L.take k)
      rw [List.length_take] at hle
      obtain ⟨x, hxk⟩ : ∃ x, L[k] = x := ⟨_, rfl⟩
      rw [hxk] at h0 h1 hst
      obtain ⟨x1, x2⟩ := x
      simp only [] at h0 h1
      have Hst := hid hst
      have Hle := hid (show (cutL (L.take k) a b).length ≤ 400000 by omega)
      clear hxk hle hst
      go_wp2_with fail
      go_loopw [7, 35] (fun v i wr => ∃ (j : Nat) (ji : Int), j ≤ 2 ∧ ji = j ∧ i = .int .i64 ji ∧ Ext w wr ∧ OwnG w.heap.size wr v (cutL (L.take k) a b ++ cutJ a b (x1, x2) j)) (fun _ i _ => 2 - (intOf i).toNat)
      case atStart => exact ⟨0, 0, by omega, rfl, rfl, (by repeat (first | (with_reducible first | exact Ext.refl _ | exact Ext.same _ _ _ _ | assumption | apply Ext.alloc | apply Ext.ext | apply Ext.drew) | (with_reducible refine Ext.setCell ?_ _ _ ?_; rotate_left; focus (first | omega | (simp only [zs1, zs2, zs3, size_ext]; omega))))), by rw [cutJ, List.append_nil]; exact Hown.out.of_ext (by repeat (first | (with_reducible first | exact Ext.refl _ | exact Ext.same _ _ _ _ | assumption | apply Ext.alloc | apply Ext.ext | apply Ext.drew) | (with_reducible refine Ext.setCell ?_ _ _ ?_; rotate_left; focus (first | omega | (simp only [zs1, zs2, zs3, size_ext]; omega)))))⟩
      case round =>
        obtain ⟨j, ji, hj, hji, rfl, ⟨E8, d8, rfl⟩, hown⟩ := hrel
        have Hown := hid hown
        clear hown
        match j, hj with
        | 0, _ =>
          obtain rfl : ji = 0 := hji
          by_cases hc : x1 ≤ cutHi a x2
          · have e1 : cutJ a b (x1, x2) 1 = [(x1, cutHi a x2)] := if_pos hc
            rw [cutHi_eq] at hc e1
            have HE := hid e1
            clear e1
            go_wp2_with (at_builtin; refine wpList_arng rfl w w.heap.size rfl rfl _ _ rfl [(x1, min x2 (a - 1))] rfl (by exact (by repeat (first | (with_reducible first | exact Ext.refl _ | exact Ext.same _ _ _ _ | assumption | apply Ext.alloc | apply Ext.ext | apply Ext.drew) | (with_reducible refine Ext.setCell ?_ _ _ ?_; rotate_left; focus (first | omega | (simp only [zs1, zs2, zs3, size_ext]; omega)))))) (by exact Hown.out.of_ext (by repeat (first | (with_reducible first | exact Ext.refl _ | exact Ext.same _ _ _ _ | assumption | apply Ext.alloc | apply Ext.ext | apply Ext.drew) | (with_reducible refine Ext.setCell ?_ _ _ ?_; rotate_left; focus (first | omega | (simp only [zs1, zs2, zs3, size_ext]; omega)))))) rfl rfl (Sl_at (encRng (x1, min x2 (a - 1))) _ 2 1 _ rfl (by simp [World.size_alloc])) (by have := Hle.out; simp [cutJ]; omega) (fun v1 E1 d1 ho1 => ?_))
            exact ⟨⟨1, 1, by omega, rfl, by go_num, (Ext.refl _).ext _ _, by rw [HE.out]; simpa [cutJ] using ho1⟩, by simp [intOf]⟩
          · have e1 : cutJ a b (x1, x2) 1 = [] := if_neg hc
            have HE := hid e1
            rw [cutHi_eq] at hc
            clear e1
            go_wp2_with fail
            exact ⟨⟨1, 1, by omega, rfl, by go_num, (by repeat (first | (with_reducible first | exact Ext.refl _ | exact Ext.same _ _ _ _ | assumption | apply Ext.alloc | apply Ext.ext | apply Ext.drew) | (with_reducible refine Ext.setCell ?_ _ _ ?_; rotate_left; focus (first | omega | (simp only [zs1, zs2, zs3, size_ext]; omega))))), by rw [HE.out]; simpa [cutJ] using Hown.out.of_ext (by repeat (first | (with_reducible first | exact Ext.refl _ | exact Ext.same _ _ _ _ | assumption | apply Ext.alloc | apply Ext.ext | apply Ext.drew) | (with_reducible refine Ext.setCell ?_ _ _ ?_; rotate_left; focus (first | omega | (simp only [zs1, zs2, zs3, size_ext]; omega)))))⟩, by simp [intOf]⟩
        | 1, _ =>
          obtain rfl : ji = 1 := hji
          have hl1 : (cutJ a b (x1, x2) 1).length ≤ 1 := by rw [cutJ]; split <;> simp
          have Hl1 := hid hl1
          have e0 : cutJ a b (x1, x2) 2 = cutJ a b (x1, x2) 1 ++ if cutLo b x1 ≤ x2 then [(cutLo b x1, x2)] else [] := cutR_eq a b (x1, x2)
          by_cases hc : cutLo b x1 ≤ x2
          · rw [if_pos hc] at e0
            rw [cutLo_eq] at hc e0
            have HE := hid e0
            clear e0 hl1
            go_wp2_with (at_builtin; refine wpList_arng rfl w w.heap.size rfl rfl _ _ rfl [(max x1 (b + 1), x2)] rfl (by exact (by repeat (first | (with_reducible first | exact Ext.refl _ | exact Ext.same _ _ _ _ | assumption | apply Ext.alloc | apply Ext.ext | apply Ext.drew) | (with_reducible refine Ext.setCell ?_ _ _ ?_; rotate_left; focus (first | omega | (simp only [zs1, zs2, zs3, size_ext]; omega)))))) (by exact Hown.out.of_ext (by repeat (first | (with_reducible first | exact Ext.refl _ | exact Ext.same _ _ _ _ | assumption | apply Ext.alloc | apply Ext.ext | apply Ext.drew) | (with_reducible refine Ext.setCell ?_ _ _ ?_; rotate_left; focus (first | omega | (simp only [zs1, zs2, zs3, size_ext]; omega)))))) rfl rfl (Sl_at (encRng (max x1 (b + 1), x2)) _ 2 1 _ rfl (by simp [World.size_alloc])) (by have := Hle.out; have := Hl1.out; simp only [List.length_append, List.length_cons, List.length_nil]; omega) (fun v1 E1 d1 ho1 => ?_))
            exact ⟨⟨2, 2, by omega, rfl, by go_num, (Ext.refl _).ext _ _, by rw [HE.out, ← List.append_assoc]; exact ho1⟩, by simp [intOf]⟩
          · rw [if_neg hc] at e0
            have HE := hid e0
            rw [cutLo_eq] at hc
            clear e0 hl1
            go_wp2_with fail
            exact ⟨⟨2, 2, by omega, rfl, by go_num, (by repeat (first | (with_reducible first | exact Ext.refl _ | exact Ext.same _ _ _ _ | assumption | apply Ext.alloc | apply Ext.ext | apply Ext.drew) | (with_reducible refine Ext.setCell ?_ _ _ ?_; rotate_left; focus (first | omega | (simp only [zs1, zs2, zs3, size_ext]; omega))))), by rw [HE.out, List.append_nil]; exact Hown.out.of_ext (by repeat (first | (with_reducible first | exact Ext.refl _ | exact Ext.same _ _ _ _ | assumption | apply Ext.alloc | apply Ext.ext | apply Ext.drew) | (with_reducible refine Ext.setCell ?_ _ _ ?_; rotate_left; focus (first | omega | (simp only [zs1, zs2, zs3, size_ext]; omega)))))⟩, by simp [intOf]⟩
        | 2, _ =>
          obtain rfl : ji = 2 := hji
          have e2 : cutL (L.take k) a b ++ cutJ a b (x1, x2) 2 = cutL (L.take (k + 1)) a b := Hst.out.symm
          have hO := Hown.out
          rw [e2] at hO
          have HO := hid hO
          clear Hown hO e2
          go_wp2_with fail
          exact ⟨⟨k + 1, by omega, by go_num, (by repeat (first | (with_reducible first | exact Ext.refl _ | exact Ext.same _ _ _ _ | assumption | apply Ext.alloc | apply Ext.ext | apply Ext.drew) | (with_reducible refine Ext.setCell ?_ _ _ ?_; rotate_left; focus (first | omega | (simp only [zs1, zs2, zs3, size_ext]; omega))))), HO.out.of_ext (by repeat (first | (with_reducible first | exact Ext.refl _ | exact Ext.same _ _ _ _ | assumption | apply Ext.alloc | apply Ext.ext | apply Ext.drew) | (with_reducible refine Ext.setCell ?_ _ _ ?_; rotate_left; focus (first | omega | (simp only [zs1, zs2, zs3, size_ext]; omega)))))⟩, by simp [intOf]; omega⟩
    · obtain rfl : k = n := by omega
      have hO := Hown.out
      rw [List.take_of_length_le (show L.length ≤ k by omega)] at hO
      obtain ⟨Av, mv, cv, rfl, hmv, hcv, hsv⟩ := hO.open
      have HM := hid hmv
      have Hsv := hid hsv
      clear Hown hmv hcv hsv hO
      go_wp2_with fail
      go_ret
      exact ⟨Av, mv, cv, rfl, HM, Hsv.out.of_ext (by repeat (first | (with_reducible first | exact Ext.refl _ | exact Ext.same _ _ _ _ | assumption | apply Ext.alloc | apply Ext.ext | apply Ext.drew) | (with_reducible refine Ext.setCell ?_ _ _ ?_; rotate_left; focus (first | omega | (simp only [zs1, zs2, zs3, size_ext]; omega))))), (by repeat (first | (with_reducible first | exact Ext.refl _ | exact Ext.same _ _ _ _ | assumption | apply Ext.alloc | apply Ext.ext | apply Ext.drew) | (with_reducible refine Ext.setCell ?_ _ _ ?_; rotate_left; focus (first | omega | (simp only [zs1, zs2, zs3, size_ext]; omega)))))⟩
end Go.Proofs.YtekjdeibnfaehaaGreat
