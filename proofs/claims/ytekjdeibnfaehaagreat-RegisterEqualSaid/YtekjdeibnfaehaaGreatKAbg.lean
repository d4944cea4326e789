/- Texts of a proof. -/
import Derived.Test.YtekjdeibnfaehaaGreatKAbf
import Derived.Test.YtekjdeibnfaehaaGreatKAai
/- moved: a class of moves. -/
set_option linter.unusedSimpArgs false
set_option linter.unusedVariables false
namespace Go.Proofs.YtekjdeibnfaehaaGreat
open Go Go.RowKit

theorem rest_q (O : OffD) (L : OffL) (oc : List Value) (ho : offQ O L = oc) (w : World) (k0 k1 : Int) (h : OffY w O L) (hk0 : -9223372036854775808 ≤ k0) (hk0' : k0 ≤ 9223372036854775807) (hk1 : -9223372036854775808 ≤ k1) (hk1' : k1 ≤ 9223372036854775807) :
    Calls Tryz.prog 48 #[.agg oc.toArray, .agg #[.int .i64 k0, .int .i64 k1]] w fun e w' => ∃ (L' : OffL) (nc : List Value) (j : Int), e = .returned (.tuple #[.agg nc.toArray, .int .i64 j]) ∧ Whole nc.toArray 17 ∧ nc.length = 17 ∧ Hid (OffR w w' (restO O k0 k1) (restE O k0 k1) L' nc j) ∧ Ext w w' := by
  subst ho
  refine (Restart_any O L w k0 k1 h hk0 hk0' hk1 hk1').mono ?_
  rintro e w' ⟨L', rfl, hA, hx⟩
  exact ⟨L', offQ (restO O k0 k1) L', _, rfl, offQ_whole _ _, rfl, hid ⟨rfl, rfl, hA⟩, hx⟩
set_option maxRecDepth 100000 in
set_option maxHeartbeats 16000000 in
theorem moved_rest {n : Nat} {G : Gh} (W : WD) (Ls : Nat → OffL) (A : Option Addr) (na c : Nat) (mv : MoveD) (w : World) (hI : WI n W G) (hY : WorldY w W Ls A na c) (hx : mv.x.text.size ≤ 9223372036854775807)
    (hk0 : -9223372036854775808 ≤ mv.k0) (hk0' : mv.k0 ≤ 9223372036854775807) (hk1 : -9223372036854775808 ≤ mv.k1) (hk1' : mv.k1 ≤ 9223372036854775807) (hlong : na ≤ 100000) (HD : Hid (mv.what % 12 = 0)) :
    Calls Tryz.prog 38 #[.agg (worldC W Ls A na c).toArray, mvV mv] w fun e w' => ∃ Ls' A' n' c', e = .returned (.agg (worldC (movedW W mv) Ls' A' n' c').toArray) ∧ MovR w w' Ls A na (movedW W mv) Ls' A' n' c' := by
  have HI := hid hI
  have HY := hid hY
  have HK := hid (show _ ∧ _ ∧ _ ∧ _ from ⟨hk0, hk0', hk1, hk1'⟩)
  have Hx := hid hx
  have Hlong := hid hlong
  clear hI hY hk0 hk0' hk1 hk1' hx hlong
  obtain ⟨B, hB⟩ : ∃ B : Nat, w.heap.size = B := ⟨_, rfl⟩
  have HB := hid hB
  obtain ⟨p, hp⟩ : ∃ p : Nat, mv.a % 4 = p := ⟨(mv.a % 4).toNat, by omega⟩
  have hp4 : p < 4 := by omega
  have hpi : (p : Int) < 4 := by omega
  obtain ⟨W', hW'⟩ : ∃ W', movedW W mv = W' := ⟨_, rfl⟩
  rw [hW']
  have HW := hid hW'
  obtain ⟨wc, hwc⟩ : ∃ wc, worldC W Ls A na c = wc := ⟨_, rfl⟩
  obtain ⟨zc, hzc⟩ : ∃ zc, worldC zeroW (fun _ => zL) none 0 0 = zc := ⟨_, rfl⟩
  have hzw := zero_world
  rw [hwc]
  rw [hzc] at hzw
  have Hwc := hid hwc
  have Hzc := hid hzc
  clear hW' hB hwc hzc
  go_enter Tryz.func38, Tryz.ntmps38
  go_wp2_with fail
  refine (Mod_any _ _ (by decide) (by decide) _).mono ?_
  rintro e w1 ⟨rfl, rfl⟩
  obtain ⟨P0, hP0⟩ : ∃ P0, ((w.alloc (.cells wc.toArray 83)).alloc (.cells (mvC mv).toArray 90)).alloc (.cells zc.toArray 83) = P0 := ⟨_, rfl⟩
  simp only [hP0]
  have b0 : BoxC P0 B (worldC W Ls A na c) 83 := by rw [Hwc.out, ← hP0]; exact ((BoxC.new_at _ _ HB.out.symm).alloc _).alloc _
  have b1 : BoxC P0 (B + 1) (mvC mv) 90 := by rw [← hP0]; exact (BoxC.new_at _ _ (by simp [HB.out])).alloc _
  have b2 : BoxC P0 (B + 1 + 1) zc 83 := by rw [← hP0]; exact BoxC.new_at _ _ (by simp [HB.out])
  have xP : Hid (Ext w P0) := hid (by rw [← hP0]; exact exI)
  have zP : P0.heap.size = B + 1 + 1 + 1 := by rw [← hP0]; simp [HB.out]
  simp only [HB.out]
  have c0 := b0.world
  rw [Hwc.out] at c0
  obtain ⟨oc, hoc⟩ : ∃ oc, offQ (W.off p) (Ls p) = oc := ⟨_, rfl⟩
  have ro : rowAt P0 B (p * 17) 17 = oc.toArray := by rw [← hoc]; exact b0.worldOff hp4
  have wo : Whole oc.toArray 17 := by rw [← hoc]; exact offQ_whole _ _
  have lo : oc.length = 17 := by rw [← hoc]; rfl
  have Hoc := hid hoc
  clear hoc
  have c1 := b1.c13
  have t0 := b0.lt
  have t1 := b1.lt
  have f0 := b0.frozen
  have B0 := hid b0
  have B1 := hid b1
  have B2 := hid b2
  clear b0 b1 b2 hP0
  rw [hp]
  have ns : ¬ (B + 1 + 1 + 1 = B + 1) := by omega
  have nb : ¬ (B + 1 + 1 + 1 = B) := by omega
  have nss : ¬ (B + 1 + 1 = B) := by omega
  have hpt : 17 + p * 17 ≤ 70 := by omega
  have hpt2 : p * 17 + 17 ≤ 70 := by omega
  have hpt3 : p * 17 ≤ 53 := by omega
  go_wp2_with fail
  refine (Mod_any _ _ (by decide) (by decide) _).mono ?_
  rintro e w1 ⟨rfl, rfl⟩
  obtain ⟨Q, hQ⟩ : ∃ Q, ((P0.alloc (.cells #[.int .i64 0, .slice none 0 0, .int .i64 0, .slice none 0 0, .int .i64 0, .slice none 0 0, .int .i64 0, .int .i64 0, .slice none 0 0, .slice none 0 0, .slice none 0 0, .slice none 0 0, .slice none 0 0, .slice none 0 0, .slice none 0 0, .slice none 0 0, .slice none 0 0] 76)).setCells (B + 1 + 1 + 1) 0 oc).setCell ⟨B, 69, none⟩ (.int .i64 0) = Q := ⟨_, rfl⟩
  simp only [hQ]
  have q0 : BoxC Q B (worldC ⟨W.off, W.way, 0⟩ Ls A na c) 83 := by rw [← hQ]; exact (BoxC.cellsOther nb _ _ (B0.out.alloc _)).set 69 _
  have q1 : BoxC Q (B + 1) (mvC mv) 90 := by rw [← hQ]; exact (BoxC.cellsOther (by omega) _ _ (B1.out.alloc _)).other _ _ (by omega)
  have q2 : BoxC Q (B + 1 + 1) zc 83 := by rw [← hQ]; exact (BoxC.cellsOther (by omega) _ _ (B2.out.alloc _)).other _ _ (by omega)
  have q3 : BoxC Q (B + 1 + 1 + 1) oc 76 := by rw [← hQ]; exact BoxC.other (by have := BoxC.cells (P := P0.alloc _) (t := 76) (cs := [.int .i64 0, .slice none 0 0, .int .i64 0, .slice none 0 0, .int .i64 0, .slice none 0 0, .int .i64 0, .int .i64 0, .slice none 0 0, .slice none 0 0, .slice none 0 0, .slice none 0 0, .slice none 0 0, .slice none 0 0, .slice none 0 0, .slice none 0 0, .slice none 0 0]) oc 0 (BoxC.new_at _ _ zP.symm) (by rw [lo]; exact Nat.le_refl _); rw [lo] at this; simpa using this) _ _ (by omega)
  have XQ : Hid (Ext w Q) := hid (by rw [← hQ]; exact Ext.box (Ext.cells _ _ (Ext.alloc xP.out _) (by have := HB.out; omega)) _ _ (by have := HB.out; omega))
  have Q0 := hid q0
  have Q1 := hid q1
  have Q2 := hid q2
  have Q3 := hid q3
  have I := hid (HI.out.o p hp4)
  have hoy := hid ((HY.out.o p hp4).of_ext XQ.out)
  have c1 := q1.c13
  have o5 := q3.cell (i := 5) (v := .slice (Ls p).Am (Ls p).nm (Ls p).cm) (by rw [← Hoc.out]; rfl)
  have lq3 : rowLen Q (B + 1 + 1 + 1) = 17 := q3.len.trans lo
  have rq3 : rowAt Q (B + 1 + 1 + 1) 0 17 = oc.toArray := by have := q3.row; rw [lo] at this; exact this
  obtain ⟨wq, hwq⟩ : ∃ wq, worldC ⟨W.off, W.way, 0⟩ Ls A na c = wq := ⟨_, rfl⟩
  obtain ⟨w68, w69, lq0, rq0⟩ := q0.world
  rw [hwq] at rq0
  have wwq : Whole wq.toArray 70 := by rw [← hwq]; exact worldC_whole _ _ _ _ _
  have wset : ∀ e : Int, Whole (wq.set 69 (.int .i64 e)).toArray 70 := fun e => whole_seti 69 e wwq
  have Hwq := hid hwq
  clear hwq
  have t0 := q0.lt
  have t1 := q1.lt
  have t2 := q2.lt
  have t3 := q3.lt
  have bfa : (∀ x, B < Q.heap.size + x) ∧ (∀ x y, B < Q.heap.size + x + y) ∧ (∀ x y z, B < Q.heap.size + x + y + z) ∧ (∀ x, B ≤ Q.heap.size + x) ∧ (∀ x y, B ≤ Q.heap.size + x + y) ∧ (∀ x y z, B ≤ Q.heap.size + x + y + z) := ⟨fun _ => by omega, fun _ _ => by omega, fun _ _ _ => by omega, fun _ => by omega, fun _ _ => by omega, fun _ _ _ => by omega⟩
  have bfb : (∀ x, B + 1 < Q.heap.size + x) ∧ (∀ x y, B + 1 < Q.heap.size + x + y) ∧ (∀ x y z, B + 1 < Q.heap.size + x + y + z) ∧ (∀ x, B + 1 ≤ Q.heap.size + x) ∧ (∀ x y, B + 1 ≤ Q.heap.size + x + y) ∧ (∀ x y z, B + 1 ≤ Q.heap.size + x + y + z) := ⟨fun _ => by omega, fun _ _ => by omega, fun _ _ _ => by omega, fun _ => by omega, fun _ _ => by omega, fun _ _ _ => by omega⟩
  have bfc : (∀ x, B + 1 + 1 < Q.heap.size + x) ∧ (∀ x y, B + 1 + 1 < Q.heap.size + x + y) ∧ (∀ x y z, B + 1 + 1 < Q.heap.size + x + y + z) ∧ (∀ x, B + 1 + 1 ≤ Q.heap.size + x) ∧ (∀ x y, B + 1 + 1 ≤ Q.heap.size + x + y) ∧ (∀ x y z, B + 1 + 1 ≤ Q.heap.size + x + y + z) := ⟨fun _ => by omega, fun _ _ => by omega, fun _ _ _ => by omega, fun _ => by omega, fun _ _ => by omega, fun _ _ _ => by omega⟩
  have nfa : ¬ (Q.heap.size = B) ∧ (∀ x, ¬ (Q.heap.size + x = B)) ∧ (∀ x y, ¬ (Q.heap.size + x + y = B)) ∧ (∀ x y z, ¬ (Q.heap.size + x + y + z = B)) := ⟨by omega, fun _ => by omega, fun _ _ => by omega, fun _ _ _ => by omega⟩
  have nfb : ¬ (Q.heap.size = B + 1) ∧ (∀ x, ¬ (Q.heap.size + x = B + 1)) ∧ (∀ x y, ¬ (Q.heap.size + x + y = B + 1)) ∧ (∀ x y z, ¬ (Q.heap.size + x + y + z = B + 1)) := ⟨by omega, fun _ => by omega, fun _ _ => by omega, fun _ _ _ => by omega⟩
  have nfc : ¬ (Q.heap.size = B + 1 + 1) ∧ (∀ x, ¬ (Q.heap.size + x = B + 1 + 1)) ∧ (∀ x y, ¬ (Q.heap.size + x + y = B + 1 + 1)) ∧ (∀ x y z, ¬ (Q.heap.size + x + y + z = B + 1 + 1)) := ⟨by omega, fun _ => by omega, fun _ _ => by omega, fun _ _ _ => by omega⟩
  have nga : ¬ (B = Q.heap.size) ∧ (∀ x, ¬ (B = Q.heap.size + x)) ∧ (∀ x y, ¬ (B = Q.heap.size + x + y)) ∧ (∀ x y z, ¬ (B = Q.heap.size + x + y + z)) := ⟨by omega, fun _ => by omega, fun _ _ => by omega, fun _ _ _ => by omega⟩
  have ngb : ¬ (B + 1 = Q.heap.size) ∧ (∀ x, ¬ (B + 1 = Q.heap.size + x)) ∧ (∀ x y, ¬ (B + 1 = Q.heap.size + x + y)) ∧ (∀ x y z, ¬ (B + 1 = Q.heap.size + x + y + z)) := ⟨by omega, fun _ => by omega, fun _ _ => by omega, fun _ _ _ => by omega⟩
  have ngc : ¬ (B + 1 + 1 = Q.heap.size) ∧ (∀ x, ¬ (B + 1 + 1 = Q.heap.size + x)) ∧ (∀ x y, ¬ (B + 1 + 1 = Q.heap.size + x + y)) ∧ (∀ x y z, ¬ (B + 1 + 1 = Q.heap.size + x + y + z)) := ⟨by omega, fun _ => by omega, fun _ _ => by omega, fun _ _ _ => by omega⟩
  have wB : w.heap.size ≤ B := by have := HB.out; omega
  have wB2 : w.heap.size ≤ B + 1 + 1 := by omega
  have wQ : w.heap.size ≤ Q.heap.size := by omega
  have e0le : B ≤ Q.heap.size := by omega
  have e1le : B + 1 ≤ Q.heap.size := by omega
  have e2le : B + 1 + 1 ≤ Q.heap.size := by omega
  have e1lt : B + 1 < Q.heap.size := by omega
  have f0 := q0.frozen
  have lq2 : rowLen Q (B + 1 + 1) = 70 := q2.len.trans (by rw [← Hzc.out]; rfl)
  clear c0 ro hzw zP hQ q0 q1 q2 q3 B0 B1 B2 xP hpt hpt2
  have hd := HD.out
  clear HD
  rw [hd]
  go_wp2_with fail
  refine (rest_q (W.off p) (Ls p) oc Hoc.out _ mv.k0 mv.k1 (hoy.out.of_ext exI) HK.out.1 HK.out.2.1 HK.out.2.2.1 HK.out.2.2.2).mono ?_
  rintro e w1 ⟨LN, nc, jn, rfl, wn, ln, hN, EN, dN, rfl⟩
  have hs := movedW_rest (W := W) hp hd
  rw [HW.out, restW] at hs
  have wput := fun e => whole_put (wset e) wn hpt3
  have hN1 := hN.out
  obtain ⟨bs, hi, hbs, hhi, hZ⟩ := offz_ex hN1.2.2
  rw [hN1.2.1] at hs
  have Hs := hid hs
  have HZ := hid hZ
  have HN1 := hid hN1.1
  have Hbs := hid hbs
  have Hhi := hid hhi
  clear hN1 hs hN hZ hbs hhi
  by_cases hj : jn = 0
  · subst hj
    go_wp2_with fail
    have hs := Hs.out
    simp only [if_true] at hs
    have hZ := HZ.out
    have hbs := Hbs.out
    have hhi := Hhi.out
    simp only [World.size_alloc, size_ext, size_cells, World.size_setCell, szd] at hbs hhi
    have bB : B < bs := by omega
    have bB2 : B + 1 + 1 < bs := by omega
    have wbs : w.heap.size ≤ bs := by omega
    refine bodyPost_ret (ret_w rfl rfl (by repeat (first | with_reducible exact lq2 | with_reducible refine rowLen_setCells.trans ?_ | with_reducible refine rowLen_setCell.trans ?_ | with_reducible refine rowLen_drew.trans ?_ | with_reducible refine (rowLen_ext (by repeat (first | with_reducible exact t2 | with_reducible refine lw_alloc ?_ | with_reducible refine lw_ext ?_ | with_reducible refine lw_drew ?_ | with_reducible refine lw_set ?_ | with_reducible refine lw_cells ?_))).trans ?_ | with_reducible refine (rowLen_alloc_old (by repeat (first | with_reducible exact t2 | with_reducible refine lw_alloc ?_ | with_reducible refine lw_ext ?_ | with_reducible refine lw_drew ?_ | with_reducible refine lw_set ?_ | with_reducible refine lw_cells ?_))).trans ?_)) (rowAt_setCells_same (whole_len (wput 0)) (Nat.le_of_eq (Eq.symm (by repeat (first | with_reducible exact lq2 | with_reducible refine rowLen_setCells.trans ?_ | with_reducible refine rowLen_setCell.trans ?_ | with_reducible refine rowLen_drew.trans ?_ | with_reducible refine (rowLen_ext (by repeat (first | with_reducible exact t2 | with_reducible refine lw_alloc ?_ | with_reducible refine lw_ext ?_ | with_reducible refine lw_drew ?_ | with_reducible refine lw_set ?_ | with_reducible refine lw_cells ?_))).trans ?_ | with_reducible refine (rowLen_alloc_old (by repeat (first | with_reducible exact t2 | with_reducible refine lw_alloc ?_ | with_reducible refine lw_ext ?_ | with_reducible refine lw_drew ?_ | with_reducible refine lw_set ?_ | with_reducible refine lw_cells ?_))).trans ?_)))))) rfl ?_
    exact fin_ok hp4 hs Hwq.out HN1.out (mov_ok (base := bs) HI.out HY.out hp4 HW.out hs (by repeat (first | with_reducible exact XQ.out | with_reducible refine Ext.cells _ _ ?_ (by repeat (first | with_reducible exact wB | with_reducible exact wB2 | with_reducible exact wQ | with_reducible refine Nat.le_add_right_of_le ?_)) | with_reducible refine Ext.box ?_ _ _ (by repeat (first | with_reducible exact wB | with_reducible exact wB2 | with_reducible exact wQ | with_reducible refine Nat.le_add_right_of_le ?_)) | with_reducible refine Ext.alloc ?_ _ | with_reducible refine Ext.drew ?_ | with_reducible refine Ext.ext ?_ _ _)) (And.left (show OffZ bs hi _ _ _ from (by repeat (first | with_reducible exact hZ | with_reducible refine OffZ.cells ?_ (by first | with_reducible exact bB | with_reducible exact .inl bB | with_reducible exact .inl bB2 | omega) | with_reducible refine OffZ.set ?_ (by first | with_reducible exact bB | with_reducible exact .inl bB | with_reducible exact .inl bB2 | omega) | with_reducible refine OffZ.alloc ?_ _ | with_reducible refine OffZ.drew ?_ | with_reducible refine OffZ.ext ?_ _ _)))) wbs)
  · have hj2 : (jn == 0) = false := by simpa using hj
    go_wp2_with fail
    have hs := Hs.out
    rw [if_neg hj] at hs
    refine bodyPost_ret (ret_w rfl rfl (by repeat (first | with_reducible exact lq2 | with_reducible refine rowLen_setCells.trans ?_ | with_reducible refine rowLen_setCell.trans ?_ | with_reducible refine rowLen_drew.trans ?_ | with_reducible refine (rowLen_ext (by repeat (first | with_reducible exact t2 | with_reducible refine lw_alloc ?_ | with_reducible refine lw_ext ?_ | with_reducible refine lw_drew ?_ | with_reducible refine lw_set ?_ | with_reducible refine lw_cells ?_))).trans ?_ | with_reducible refine (rowLen_alloc_old (by repeat (first | with_reducible exact t2 | with_reducible refine lw_alloc ?_ | with_reducible refine lw_ext ?_ | with_reducible refine lw_drew ?_ | with_reducible refine lw_set ?_ | with_reducible refine lw_cells ?_))).trans ?_)) (rowAt_setCells_same (whole_len (wset jn)) (Nat.le_of_eq (Eq.symm (by repeat (first | with_reducible exact lq2 | with_reducible refine rowLen_setCells.trans ?_ | with_reducible refine rowLen_setCell.trans ?_ | with_reducible refine rowLen_drew.trans ?_ | with_reducible refine (rowLen_ext (by repeat (first | with_reducible exact t2 | with_reducible refine lw_alloc ?_ | with_reducible refine lw_ext ?_ | with_reducible refine lw_drew ?_ | with_reducible refine lw_set ?_ | with_reducible refine lw_cells ?_))).trans ?_ | with_reducible refine (rowLen_alloc_old (by repeat (first | with_reducible exact t2 | with_reducible refine lw_alloc ?_ | with_reducible refine lw_ext ?_ | with_reducible refine lw_drew ?_ | with_reducible refine lw_set ?_ | with_reducible refine lw_cells ?_))).trans ?_)))))) rfl ?_
    exact fin_err hs Hwq.out (mov_err HY.out hs (by repeat (first | with_reducible exact XQ.out | with_reducible refine Ext.cells _ _ ?_ (by repeat (first | with_reducible exact wB | with_reducible exact wB2 | with_reducible exact wQ | with_reducible refine Nat.le_add_right_of_le ?_)) | with_reducible refine Ext.box ?_ _ _ (by repeat (first | with_reducible exact wB | with_reducible exact wB2 | with_reducible exact wQ | with_reducible refine Nat.le_add_right_of_le ?_)) | with_reducible refine Ext.alloc ?_ _ | with_reducible refine Ext.drew ?_ | with_reducible refine Ext.ext ?_ _ _)))
end Go.Proofs.YtekjdeibnfaehaaGreat
/- append of messages. -/
set_option linter.unusedSimpArgs false
set_option linter.unusedVariables false
namespace Go.Proofs.YtekjdeibnfaehaaGreat
open Go Go.RowKit

theorem append_msg {W : World} {N : Nat} (ty : TypeId) {v : Value} {l news : List MsgD} (hN : N ≤ W.heap.size) (hown : OwnM N W v l) {A : Option Addr} {m c : Nat} (hm : m = news.length) (hr : Sl 14 W A m (news.flatMap msgC)) (hlen : l.length + news.length ≤ 1000000) :
    ∃ v' W', (Builtin.append_ #[81, 81] ty #[v, .slice A m c]).run Tryz.prog W = .ok v' W' ∧ Below N W W' ∧ OwnM N W' v' (l ++ news) := by
  obtain ⟨i0, hi, hz0, hz1, hz2⟩ := info_parts info_msg
  obtain ⟨v', W', h1, h2, h3⟩ := run_append_b (P := Tryz.prog) 81 ty 70 i0 _ 14 120 Tryz.underlying81 hi hz0 hz1 hz2 rfl (by decide) hN hown (c := c) hr (msgC_one _) (by unfold maxLen; omega) (by omega)
  refine ⟨v', W', h1, h2, ?_⟩
  unfold OwnM
  rw [List.length_append, List.flatMap_append, ← hm]
  exact h3
theorem wpList_append_msg {P : Program} (hP : P = Tryz.prog) {ops : Array Oper} {rest : List Oper} {o : Oper} {a : Act} {Q : Exit → Act → World → Prop} {W : World} (N : Nat) (hgd : o.guard = none) (s x : Operand)
    (ho : o.op = .call { callee := .builtin .append, args := #[s, x], argTypes := #[81, 81] }) {v : Value} {l : List MsgD} (news : List MsgD) (hs : a.eval s = v) (hN : N ≤ W.heap.size) (hown : OwnM N W v l)
    {A : Option Addr} {m c : Nat} (hv : a.eval x = .slice A m c) (hm : m = news.length) (hr : Sl 14 W A m (news.flatMap msgC)) (hlen : l.length + news.length ≤ 1000000)
    (h : ∀ v' W', Below N W W' → OwnM N W' v' (l ++ news) → wpList P ops Q rest (a.put o.dst v') W') : wpList P ops Q (o :: rest) a W := by
  obtain ⟨v', W', h1, h2, h3⟩ := append_msg o.type hN hown (c := c) hm hr hlen
  rw [← hP] at h1
  exact wpList_plain hgd fun _ hK => wp_append_run s x _ _ ho hs hv h1 (hK _ _ (h v' W' h2 h3))
theorem wpOrd_append_msg {P : Program} (hP : P = Tryz.prog) {ops : Array Oper} {Q : Exit → Act → World → Prop} {S : World → Prop} {i : Nat} {rest : Plan} {a : Act} {W : World} {o : Oper} (N : Nat) (hi : ops[i]? = some o)
    (hw : Region.wanted o (yielded ops a.tmps) = true) (s x : Operand) (ho : o.op = .call { callee := .builtin .append, args := #[s, x], argTypes := #[81, 81] })
    {v : Value} {l : List MsgD} (news : List MsgD) (hs : a.eval s = v) (hN : N ≤ W.heap.size) (hown : OwnM N W v l)
    {A : Option Addr} {m c : Nat} (hv : a.eval x = .slice A m c) (hm : m = news.length) (hr : Sl 14 W A m (news.flatMap msgC)) (hlen : l.length + news.length ≤ 1000000)
    (h : ∀ v' W', Below N W W' → OwnM N W' v' (l ++ news) → S W' ∧ wpOrd P ops Q S rest (a.put o.dst v') W') : wpOrd P ops Q S (.a i rest) a W := by
  refine wpOrd_act hi hw fun K hK => ?_
  obtain ⟨v', W', h1, h2, h3⟩ := append_msg o.type hN hown (c := c) hm hr hlen
  rw [← hP] at h1
  exact wp_append_run s x _ _ ho hs hv h1 (hK _ _ (h v' W' h2 h3))
theorem OwnM.empty (w : World) (base g : Nat) (hg : g = w.heap.size) (hb : base ≤ g) : OwnM base (w.alloc (.cells #[] 70)) (.slice (some ⟨g, 0, Option.none⟩) 0 0) [] := by
  subst hg
  exact ownsRow_empty w base _ _ hb
/-- append of messages where what was in X stands. -/
theorem wpOrd_amsg {P : Program} (hP : P = Tryz.prog) {ops : Array Oper} {Q : Exit → Act → World → Prop} {S : World → Prop} {i : Nat} {rest : Plan} {a : Act} {W : World} {o : Oper} (X : World) (N : Nat) (hN : N = X.heap.size) (hi : ops[i]? = some o)
    (hw : Region.wanted o (yielded ops a.tmps) = true) (s x : Operand) (ho : o.op = .call { callee := .builtin .append, args := #[s, x], argTypes := #[81, 81] })
    {v : Value} {l : List MsgD} (news : List MsgD) (hs : a.eval s = v) (hx : Ext X W) (hown : OwnM N W v l)
    {A : Option Addr} {m c : Nat} (hv : a.eval x = .slice A m c) (hm : m = news.length) (hr : Sl 14 W A m (news.flatMap msgC)) (hlen : l.length + news.length ≤ 1000000)
    (h : ∀ v' E d, OwnM N (X.ext E d) v' (l ++ news) → S (X.ext E d) ∧ wpOrd P ops Q S rest (a.put o.dst v') (X.ext E d)) : wpOrd P ops Q S (.a i rest) a W := by
  refine wpOrd_append_msg hP N hi hw s x ho news hs (by rw [hN]; exact hx.below.size) hown hv hm hr hlen fun v' W' hb ho' => ?_
  obtain ⟨E, d, rfl⟩ := hx.below_of hb (Nat.le_of_eq hN.symm)
  exact h _ _ _ ho'
/-- The world of a walk gets a name. -/
theorem wp_named {P : Program} {C : Code} {Q : Exit → Act → World → Prop} {a : Act} {R : World} (h : ∀ Y, Y = R → C.wp P Q a Y) : C.wp P Q a R := h R rfl
/-- Messages above a block, below another one. -/
def MsgZ (base hi : Nat) (P : World) (A : Option Addr) (n c : Nat) (l : List MsgD) : Prop := MsgsA base P A n c l ∧ ∀ g, hi ≤ g → Off A n g
section
variable {base hi n c : Nat} {P : World} {A : Option Addr} {l : List MsgD}
theorem MsgZ.mk (h : MsgsA base P A n c l) : MsgZ base P.heap.size P A n c l := ⟨h, fun _ hg => h.read.far hg⟩
theorem MsgZ.of_ext {P' : World} (h : MsgZ base hi P A n c l) (hx : Ext P P') : MsgZ base hi P' A n c l := ⟨⟨h.1.1, h.1.2.1, h.1.2.2.1, h.1.2.2.2.of_ext hx⟩, h.2⟩
theorem MsgZ.alloc (h : MsgZ base hi P A n c l) (o : Obj) : MsgZ base hi (P.alloc o) A n c l := h.of_ext ((Ext.refl P).alloc o)
theorem MsgZ.drew (h : MsgZ base hi P A n c l) : MsgZ base hi P.drew A n c l := h.of_ext (Ext.refl P).drew
theorem MsgZ.ext (h : MsgZ base hi P A n c l) (E : Array Obj) (d : Nat) : MsgZ base hi (P.ext E d) A n c l := h.of_ext ((Ext.refl P).ext E d)
theorem MsgZ.cells {g i : Nat} {vs : List Value} (h : MsgZ base hi P A n c l) (hg : g < base ∨ hi ≤ g) : MsgZ base hi (P.setCells g i vs) A n c l := by
  have hoff : Off A n g := hg.elim (fun hg => h.1.far hg) fun hg => h.2 g hg
  exact ⟨⟨h.1.1, h.1.2.1, h.1.2.2.1, h.1.2.2.2.grown (gb_cells g vs i P) fun hn a ha he => hoff hn a ha (Option.some.inj he)⟩, h.2⟩
theorem MsgZ.set {g i : Nat} {v : Value} (h : MsgZ base hi P A n c l) (hg : g < base ∨ hi ≤ g) : MsgZ base hi (P.setCell ⟨g, i, none⟩ v) A n c l := by
  have hoff : Off A n g := hg.elim (fun hg => h.1.far hg) fun hg => h.2 g hg
  exact ⟨⟨h.1.1, h.1.2.1, h.1.2.2.1, h.1.2.2.2.grown (gb_setCell P g i v) fun hn a ha he => hoff hn a ha (Option.some.inj he)⟩, h.2⟩
end
section
variable {n na c p : Nat} {W W' W0 : WD} {G : Gh} {m : MoveD} {Ls : Nat → OffL} {A A' : Option Addr} {w R : World} {O' : OffD} {L' : OffL} {wq nc : List Value} {base base' n' c' : Nat} {way : List MsgD} {e : Int}
/-- The messages under way: they can be read, and lie where those of the first world lie or above it. -/
def WayK (w : World) (Ls : Nat → OffL) (A : Option Addr) (na : Nat) (R : World) (A' : Option Addr) (n' c' : Nat) (way : List MsgD) : Prop := MsgsY R A' n' c' way ∧ ∀ g, g < w.heap.size → WorldF g Ls A na → Off A' n' g
theorem WayK.old (hY : WorldY w W Ls A na c) (hx : Ext w R) : WayK w Ls A na R A na c W.way := ⟨(hY.of_ext hx).m, fun _ _ h => h.2⟩
theorem WayK.new (hM : MsgsA base R A' n' c' way) (hb : w.heap.size ≤ base) : WayK w Ls A na R A' n' c' way := ⟨hM.read, fun _ hg _ => hM.far (by omega)⟩
theorem mov_way (hI : WI n W G) (hY : WorldY w W Ls A na c) (hp : p < 4) (hW : movedW W m = W') (hs : W' = setW W p O' way) (hx : Ext w R) (hA : OffA base R O' L') (hM : WayK w Ls A na R A' n' c' way) (hb : w.heap.size ≤ base) : MovR w R Ls A na W' (upd Ls p L') A' n' c' := by
  obtain ⟨G', h1, _⟩ := hI.moved m
  rw [hW, hs] at h1
  have hc := (h1.o p hp).check
  simp only [setW, upd_at] at hc
  subst hs
  have h2 := (hY.of_ext hx).put p (hA.read (txtBig_of hc)) 0
  refine ⟨⟨h2.o, hM.1⟩, fun g hg hf => ⟨fun q hq => ?_, hM.2 g hg hf⟩, hx⟩
  by_cases he : q = p
  · subst he
    rw [upd_at]
    exact hA.far (by omega)
  · rw [upd_ne _ _ he]
    exact hf.1 q hq
theorem mov_errw (hY : WorldY w W Ls A na c) (hs : W' = errW W way e) (hx : Ext w R) (hM : WayK w Ls A na R A' n' c' way) : MovR w R Ls A na W' Ls A' n' c' := by
  subst hs
  exact ⟨⟨(hY.of_ext hx).o, hM.1⟩, fun g hg hf => ⟨hf.1, hM.2 g hg hf⟩, hx⟩
theorem fin_way (hp : p < 4) (hs : W' = setW W p O' way) (hq : worldC ⟨W.off, W0.way, 0⟩ Ls A na c = wq) (hn : offQ O' L' = nc) {A0 A1 : Option Addr} {na0 n1 c1 : Nat} (hM : MovR w R Ls A0 na0 W' (upd Ls p L') A1 n1 c1) : ∃ Ls' A' n' c', Ending.returned (.agg ((putC (wq.set 69 (.int .i64 0)) (p * 17) nc).set 68 (.slice A1 n1 c1)).toArray) = .returned (.agg (worldC W' Ls' A' n' c').toArray) ∧ MovR w R Ls A0 na0 W' Ls' A' n' c' := by
  subst hs hq hn
  refine ⟨_, A1, n1, c1, ?_, hM⟩
  rw [worldC_set_err, putC, worldC_put _ _ _ _ _ hp, worldC_set_way _ _ _ _ _ way]
  rfl
end
section
variable {w P : World} {g o n c k : Nat} {l : List MsgD} {A : Option Addr}
theorem msgs_len (l : List MsgD) : (l.flatMap msgC).length = l.length * 14 := by
  induction l with
  | nil => rfl
  | cons m r ih =>
    rw [List.flatMap_cons, List.length_append, ih, show (msgC m).length = 14 from rfl, show (m :: r).length = r.length + 1 from rfl]
    omega
theorem MsgsY.addr (h : MsgsY w A n c l) (hn : 0 < n) : ∃ g o, A = some ⟨g, o, none⟩ ∧ g < w.heap.size := by
  obtain ⟨g, o, h1, h2, _⟩ := h.2.2.2.2 hn
  exact ⟨g, o, h1, h2⟩
theorem MsgsY.at (h : MsgsY w (some ⟨g, o, none⟩) n c l) {m : MsgD} (hk : l[k]? = some m) {j : Nat} {u : Value} (hu : (msgC m)[j]? = some u) : w.cell? ⟨g, o + k * 14 + j, none⟩ = some u := by
  obtain ⟨hk1, hk2⟩ := List.getElem?_eq_some_iff.1 hk
  obtain ⟨g', o', he, _, hc⟩ := h.2.2.2.2 (by have := h.1; omega)
  cases he
  rw [Nat.add_assoc]
  refine hc _ u ?_
  rw [flatMap_get msgC 14 (fun _ => rfl) l k j hk1 (by have := (List.getElem?_eq_some_iff.1 hu).1; exact this), hk2]
  exact hu
/-- A message of a row is loaded. -/
theorem MsgsY.load (h : MsgsY w (some ⟨g, o, none⟩) n c l) {m : MsgD} (hk : l[k]? = some m) : (ldRow 70 ⟨g, o + k * 14, none⟩).run Tryz.prog w = .ok (.agg (msgC m).toArray) w := by
  have hl := run_loadCells_list (P := Tryz.prog) w ⟨g, o + k * 14, none⟩ (msgC m) (fun j v hv => by
    rw [addr_add]
    exact h.at hk hv)
  have hu := agg_msg
  have hi := size_msg
  unfold ldRow
  cases hq : Tryz.prog.info? 70 with
  | none => simp [hq] at hi
  | some f =>
    have hs : f.size = 14 := by simpa [hq] using hi
    have hagg : (isAgg 70).run Tryz.prog w = .ok true w := by
      unfold isAgg
      cases hx : Tryz.prog.underlying 70 with
      | none => simp [hx] at hu
      | some u =>
        rw [Sem.run_bind, run_underlying hx w]
        simp only [hx, Option.map_some, Option.some.injEq] at hu
        cases u <;> simp_all [aggD]
    have hl' : (loadCells ⟨g, o + k * 14, none⟩ 14).run Tryz.prog w = _ := hl
    simp [loadVar, Sem.run_bind, hagg, sizeOf, typeInfo, hq, hs, hl']
theorem MsgsY.take (h : MsgsY w A n c l) (hk : k ≤ n) : Sl 14 w A k ((l.take k).flatMap msgC) := by
  obtain ⟨h1, _, _, h2, h3⟩ := h
  refine ⟨by rw [msgs_len, List.length_take, h1, Nat.min_eq_left hk], fun h0 => ?_⟩
  obtain ⟨g, o, h4, h5, h6⟩ := h3 (by omega)
  refine ⟨g, o, h4, h5, fun j u hj => h6 j u ?_⟩
  rw [← List.take_append_drop k l, List.flatMap_append, List.getElem?_append_left (List.getElem?_eq_some_iff.1 hj).1]
  exact hj
theorem MsgsY.drop (h : MsgsY w (some ⟨g, o, none⟩) n c l) (hk : k ≤ n) : Sl 14 w (some ⟨g, o + k * 14, none⟩) (n - k) ((l.drop k).flatMap msgC) := by
  obtain ⟨h1, _, _, h2, h3⟩ := h
  refine ⟨by rw [msgs_len, List.length_drop, h1], fun h0 => ?_⟩
  obtain ⟨g', o', h4, h5, h6⟩ := h3 (by omega)
  cases h4
  refine ⟨g, o + k * 14, rfl, h5, fun j u hj => ?_⟩
  rw [Nat.add_assoc]
  refine h6 _ u ?_
  have hl : ((l.take k).flatMap msgC).length = k * 14 := by rw [msgs_len, List.length_take, h1, Nat.min_eq_left hk]
  rw [← List.take_append_drop k l, List.flatMap_append, List.getElem?_append_right (by omega), hl]
  rw [show k * 14 + j - k * 14 = j by omega]
  exact hj
end
/-- The messages under way are new ones above a block, or the old ones. -/
def WayO (base hi : Nat) (P : World) (A3 : Option Addr) (n3 c3 : Nat) (W3 : List MsgD) (A : Option Addr) (na c : Nat) (way : List MsgD) : Prop := MsgZ base hi P A3 n3 c3 W3 ∨ (A3 = A ∧ n3 = na ∧ c3 = c ∧ W3 = way)
section
variable {base hi n3 c3 na c g i : Nat} {w P : World} {W : WD} {Ls : Nat → OffL} {A3 A : Option Addr} {W3 way : List MsgD} {vs : List Value} {v : Value}
theorem WayO.alloc (h : WayO base hi P A3 n3 c3 W3 A na c way) (o : Obj) : WayO base hi (P.alloc o) A3 n3 c3 W3 A na c way := h.imp (fun h => h.alloc o) id
theorem WayO.drew (h : WayO base hi P A3 n3 c3 W3 A na c way) : WayO base hi P.drew A3 n3 c3 W3 A na c way := h.imp (fun h => h.drew) id
theorem WayO.ext (h : WayO base hi P A3 n3 c3 W3 A na c way) (E : Array Obj) (d : Nat) : WayO base hi (P.ext E d) A3 n3 c3 W3 A na c way := h.imp (fun h => h.ext E d) id
theorem WayO.cells (h : WayO base hi P A3 n3 c3 W3 A na c way) (hg : g < base ∨ hi ≤ g) : WayO base hi (P.setCells g i vs) A3 n3 c3 W3 A na c way := h.imp (fun h => h.cells hg) id
theorem WayO.set (h : WayO base hi P A3 n3 c3 W3 A na c way) (hg : g < base ∨ hi ≤ g) : WayO base hi (P.setCell ⟨g, i, none⟩ v) A3 n3 c3 W3 A na c way := h.imp (fun h => h.set hg) id
theorem WayO.k (h : WayO base hi P A3 n3 c3 W3 A na c W.way) (hY : WorldY w W Ls A na c) (hx : Ext w P) (hb : w.heap.size ≤ base) : WayK w Ls A na P A3 n3 c3 W3 := by
  rcases h with h | ⟨rfl, rfl, rfl, rfl⟩
  · exact WayK.new h.1 hb
  · exact WayK.old hY hx
end
@[go_sem] theorem rowAt_setCell_apart {P : World} {g i n k : Nat} {v : Value} (h : k < i ∨ i + n ≤ k) : rowAt (P.setCell ⟨g, k, none⟩ v) g i n = rowAt P g i n := rowAt_of fun j hj => World.cell?_setCell_other _ _ _ _ fun e => by
  have := congrArg Addr.off e
  simp only at this
  omega
/-- append of messages in a region that does not draw. -/
theorem wpList_amsg {P : Program} (hP : P = Tryz.prog) {ops : Array Oper} {rest : List Oper} {o : Oper} {a : Act} {Q : Exit → Act → World → Prop} {W : World} (X : World) (N : Nat) (hN : N = X.heap.size) (hgd : o.guard = none) (s x : Operand)
    (ho : o.op = .call { callee := .builtin .append, args := #[s, x], argTypes := #[81, 81] }) {v : Value} {l : List MsgD} (news : List MsgD) (hs : a.eval s = v) (hx : Ext X W) (hown : OwnM N W v l)
    {A : Option Addr} {m c : Nat} (hv : a.eval x = .slice A m c) (hm : m = news.length) (hr : Sl 14 W A m (news.flatMap msgC)) (hlen : l.length + news.length ≤ 1000000)
    (h : ∀ v' E d, OwnM N (X.ext E d) v' (l ++ news) → wpList P ops Q rest (a.put o.dst v') (X.ext E d)) : wpList P ops Q (o :: rest) a W := by
  refine wpList_append_msg hP N hgd s x ho news hs (by rw [hN]; exact hx.below.size) hown hv hm hr hlen fun v' W' hb ho' => ?_
  obtain ⟨E, d, rfl⟩ := hx.below_of hb (Nat.le_of_eq hN.symm)
  exact h _ _ _ ho'
theorem wpl_alloc {P : Program} {ops : Array Oper} {l : List Oper} {a : Act} {Q : Exit → Act → World → Prop} {R : World} {o : Obj} (h : ∀ X, X = R → wpList P ops Q l a (X.alloc o)) : wpList P ops Q l a (R.alloc o) := h R rfl
section
variable {na c p : Nat} {W W' W0 : WD} {m : MoveD} {Ls : Nat → OffL} {A A' : Option Addr} {w R : World} {wq : List Value} {n' c' na0 : Nat} {A0 : Option Addr} {way : List MsgD} {e : Int}
theorem fin_errw (hs : W' = errW W way e) (hq : worldC ⟨W.off, way, 0⟩ Ls A n' c' = wq) (hM : MovR w R Ls A0 na0 W' Ls A n' c') : ∃ Ls' A' n' c', Ending.returned (.agg (wq.set 69 (.int .i64 e)).toArray) = .returned (.agg (worldC W' Ls' A' n' c').toArray) ∧ MovR w R Ls A0 na0 W' Ls' A' n' c' := by
  subst hs hq
  exact ⟨Ls, A, n', c', rfl, hM⟩
theorem fin_drop (hs : W' = errW W way 0) (hq : worldC ⟨W.off, way, 0⟩ Ls A n' c' = wq) (hM : MovR w R Ls A0 na0 W' Ls A n' c') : ∃ Ls' A' n' c', Ending.returned (.agg wq.toArray) = .returned (.agg (worldC W' Ls' A' n' c').toArray) ∧ MovR w R Ls A0 na0 W' Ls' A' n' c' := by
  subst hs hq
  exact ⟨Ls, A, n', c', rfl, hM⟩
theorem movedW_drop (hd : m.what % 12 = 3) (hw : W.way ≠ []) : movedW W m = errW W (wayW W 3 m.b) 0 := by
  rw [movedW, if_neg (by omega), if_neg (by omega), if_pos (by omega), if_neg hw, if_pos hd]
theorem movedW_recv (hd : 4 ≤ m.what % 12) (hd' : m.what % 12 ≤ 7) (hw : W.way ≠ []) : movedW W m = recvW W (msgW W m.b) (wayW W (m.what % 12) m.b) := by
  rw [movedW, if_neg (by omega), if_neg (by omega), if_pos (by omega), if_neg hw, if_neg (by omega)]
theorem wayW_cut {d b : Int} (h : d < 6 ∨ 40 < W.way.length) : wayW W d b = W.way.take (msgI W b) ++ W.way.drop (msgI W b + 1) := if_pos h
theorem wayW_all {d b : Int} (h : 6 ≤ d) (h2 : W.way.length ≤ 40) : wayW W d b = W.way := if_neg (by omega)
end
theorem recv_q (O : OffD) (L : OffL) (oc mc : List Value) (m : MsgD) (ho : offQ O L = oc) (hm : msgC m = mc) (w : World) (h : OffY w O L) (htx : m.r.text.size ≤ 9223372036854775807) :
    Calls Tryz.prog 46 #[.agg oc.toArray, .agg mc.toArray] w fun e w' => ∃ (L' : OffL) (nc : List Value) (A : Option Addr) (n c : Nat) (j : Int), e = .returned (.tuple #[.agg nc.toArray, .slice A n c, .int .i64 j]) ∧ Whole nc.toArray 17 ∧ nc.length = 17 ∧ Hid (OffR w w' (recvO O m) (recvE O m) L' nc j) ∧ Hid (MsgsA w.heap.size w' A n c (recvL O m)) ∧ Ext w w' := by
  subst ho hm
  refine (Receive_any O L w m h htx).mono ?_
  rintro e w' ⟨L', A, n, c, rfl, hA, hm, hx⟩
  exact ⟨L', offQ (recvO O m) L', A, n, c, _, rfl, offQ_whole _ _, rfl, hid ⟨rfl, rfl, hA⟩, hid hm, hx⟩
end Go.Proofs.YtekjdeibnfaehaaGreat
