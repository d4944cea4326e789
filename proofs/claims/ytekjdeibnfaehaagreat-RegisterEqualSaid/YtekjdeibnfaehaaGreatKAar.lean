/- Texts of a proof. -/
import Derived.Test.YtekjdeibnfaehaaGreatKAaq
/- add: a record is put into a journal. -/
set_option linter.unusedSimpArgs false
set_option linter.unusedVariables false
namespace Go.Proofs.YtekjdeibnfaehaaGreat
open Go Go.RowKit

/-- append of bytes to a row of one's own, in an order that is written out. -/
theorem wpOrd_abyt {P : Program} (hP : P = Tryz.prog) {ops : Array Oper} {Q : Exit → Act → World → Prop} {S : World → Prop} {i : Nat} {rest : Plan} {a : Act} {W : World} {o : Oper} (X : World) (N : Nat) (hN : N = X.heap.size) (hi : ops[i]? = some o)
    (hw : Region.wanted o (yielded ops a.tmps) = true) (s x : Operand) (ho : o.op = .call { callee := .builtin .append, args := #[s, x], argTypes := #[22, 22] })
    {v : Value} {l : List UInt8} (news : List UInt8) (hs : a.eval s = v) (hx : Ext X W) (hown : OwnB N W v l)
    {A : Option Addr} {m c : Nat} (hv : a.eval x = .slice A m c) (hm : m = news.length) (hr : Byt W A news) (hlen : l.length + news.length ≤ 100000000)
    (h : ∀ v' E d, OwnB N (X.ext E d) v' (l ++ news) → S (X.ext E d) ∧ wpOrd P ops Q S rest (a.put o.dst v') (X.ext E d)) : wpOrd P ops Q S (.a i rest) a W := by
  refine wpOrd_act hi hw fun K hK => ?_
  subst hP hm hN
  obtain ⟨i0, hi, hz0, hz1, hz2⟩ := info_parts info_u8
  refine wp_append (w := X) s x 22 ho 5 i0 _ 1 1 Tryz.underlying22 hi hz0 hz1 hz2 rfl (by decide) hs hx hown hv hr (encB_one _) (by unfold maxLen; omega) (by omega) fun v' E d h2 => hK _ _ (h v' E d ?_)
  unfold OwnB
  rw [List.length_append, List.map_append]
  exact h2
theorem Byt.nil (w : World) (A : Option Addr) : Byt w A [] := ⟨rfl, fun h => absurd h (by simp)⟩
theorem OwnB.cap {base n c : Nat} {w : World} {A : Option Addr} {l : List UInt8} (h : OwnB base w (.slice A n c) l) : c ≤ 9223372036854775807 := by
  rcases h.2 with ⟨hv, _⟩ | ⟨g, cap, cur, hv, _, _, _, hc, _⟩
  · simp only [Value.slice.injEq] at hv
    omega
  · simp only [Value.slice.injEq] at hv
    unfold maxLen at hc
    omega
/-- A row of the call's own, or nothing. -/
def RowB (base : Nat) (w : World) (A : Option Addr) (n c : Nat) (l : List UInt8) : Prop := l = [] ∨ OwnB base w (.slice A n c) l
theorem RowB.byt {base n c : Nat} {w : World} {A : Option Addr} {l : List UInt8} (h : RowB base w A n c l) : Byt w A l := by
  rcases h with rfl | h
  · exact Byt.nil _ _
  · exact h.of_byt_slice
theorem RowB.moved2 {N base n c : Nat} {X X' W' : World} {E : Array Obj} {d d' : Nat} {A : Option Addr} {l : List UInt8} (h : RowB N (X.ext E d) A n c l) (hx : Ext (X'.ext E d') W') (hs : X'.heap.size = X.heap.size) (hN : X.heap.size ≤ N) (hb : base ≤ N) : RowB base W' A n c l := by
  rcases h with rfl | h
  · exact .inl rfl
  · exact .inr (OwnB.moved2 h hx hs hN hb)
/-- What add returns. -/
def jaddE (l : List Rec) (r : Rec) : Int := if recOk r = true then putE l r else 70
set_option maxRecDepth 100000 in
set_option maxHeartbeats 8000000 in
theorem add_bad (A0 : Option Addr) (n0 c0 : Nat) (f0 : Int) (A1 : Option Addr) (n1 c1 : Nat) (f1 : Int) (Am : Option Addr) (nm cm : Nat) (file gen : Int) (l : List Rec) (r : Rec) (hn : l.length = nm) (hbig : nm ≤ 100000) (hs : Sorted l) (htx : r.text.size ≤ 9223372036854775807)
    (he : ¬(jaddE l r = 0)) (X : World) (hr : Recs X Am l) :
    Calls Tryz.prog 74 #[.pointer (some ⟨X.heap.size, 0, none⟩), recV r] (X.alloc (.cells #[.slice A0 n0 c0, .int .i64 f0, .slice A1 n1 c1, .int .i64 f1, .slice Am nm cm, .int .i64 file, .int .i64 gen] 131)) fun e w' =>
      e = .returned (.int .i64 (jaddE l r)) ∧ Ext X w' := by
  cases hk : recOk r with
  | false =>
    have HE : Hid (jaddE l r = 70) := hid (by rw [jaddE, hk]; rfl)
    go_enter Tryz.func74, Tryz.ntmps74
    go_wp2_with (go_at_call 107; refine (isRecord_any _ _ (by assumption)).mono ?_; rintro e w1 ⟨rfl, E, d, rfl⟩)
    go_ret
    exact ⟨ret_val (by rw [HE.out]; rfl), exI⟩
  | true =>
    have HE : Hid (jaddE l r = putE l r) := hid (by rw [jaddE, hk]; rfl)
    have hpe : ¬(putE l r = 0) := by rw [← HE.out]; exact he
    obtain ⟨c, hc⟩ : ∃ c, putE l r = c := ⟨_, rfl⟩
    have Hc := hid hc
    rw [hc] at hpe
    have hpe3 : (putE l r != 0) = true := by rw [hc]; simpa using hpe
    clear he hc
    go_enter Tryz.func74, Tryz.ntmps74
    go_wp2_with (go_at_call 107; refine (isRecord_any _ _ (by assumption)).mono ?_; rintro e w1 ⟨rfl, E, d, rfl⟩)
    refine wp_region_ord_same (.f 0 (.f 1 (.f 2 (.f 3 (.f 4 (.f 5 (.k 6 (.f 7 (.f 8 (.f 9 (.a 10 (.a 11 (.f 12 .d)))))) 10 (.a 6 (.f 7 (.f 8 (.f 9 (.a 11 (.f 12 .d))))))))))))) (by kernel_rfl) (by kernel_rfl) ?_
    repeat ((first | refine wpOrd_pass rfl rfl ?_ | (refine wpOrd_free (v := ?_) rfl rfl (fun _ hS => ?_) ?_; rotate_left; focus (go_simp; try with_reducible rfl))); simp only [Act.put, zp])
    refine wpOrd_fork ?_ ?_
    focus
     refine wpOrd_call rfl rfl rfl Tryz.call130 (fun R hR => ?_)
     go_simp
     refine (put_any _ _ _ _ _ (by first | rfl | assumption) (by omega) (by assumption) _ (recI ‹_›)).mono ?_
     rintro e w1 ⟨Ap1, np1, cp1, rfl, hnp1, hvp1, E1, d1, rfl⟩
     refine hR _ _ ⟨_, rfl, ?_, ?_⟩
     · exact keepI
     clear hR R
     simp only [Act.put, zp]
     repeat ((first | refine wpOrd_pass rfl rfl ?_ | (refine wpOrd_free (v := ?_) rfl rfl (fun _ hS => ?_) ?_; rotate_left; focus (go_simp; try with_reducible rfl))); simp only [Act.put, zp])
     refine wpOrd_act rfl rfl (fun K hK => ?_)
     go_simp
     refine hK _ _ ⟨?_, ?_⟩
     · exact keepI
     clear hK K
     try simp only [Act.put, zp]
     refine wpOrd_act rfl rfl (fun K hK => ?_)
     go_simp
     refine hK _ _ ⟨?_, ?_⟩
     · exact keepI
     clear hK K
     try simp only [Act.put, zp]
     repeat ((first | refine wpOrd_pass rfl rfl ?_ | (refine wpOrd_free (v := ?_) rfl rfl (fun _ hS => ?_) ?_; rotate_left; focus (go_simp; try with_reducible rfl))); simp only [Act.put, zp])
     refine wpOrd_nil ?_
    rotate_right
    focus
     refine wpOrd_act rfl rfl (fun K hK => ?_)
     go_simp
     refine hK _ _ ⟨?_, ?_⟩
     · exact keepI
     clear hK K
     try simp only [Act.put, zp]
     refine wpOrd_call rfl rfl rfl Tryz.call130 (fun R hR => ?_)
     go_simp
     refine (put_any _ _ _ _ _ (by first | rfl | assumption) (by omega) (by assumption) _ (recI ‹_›)).mono ?_
     rintro e w1 ⟨Ap2, np2, cp2, rfl, hnp2, hvp2, E2, d2, rfl⟩
     refine hR _ _ ⟨_, rfl, ?_, ?_⟩
     · exact keepI
     clear hR R
     simp only [Act.put, zp]
     repeat ((first | refine wpOrd_pass rfl rfl ?_ | (refine wpOrd_free (v := ?_) rfl rfl (fun _ hS => ?_) ?_; rotate_left; focus (go_simp; try with_reducible rfl))); simp only [Act.put, zp])
     refine wpOrd_act rfl rfl (fun K hK => ?_)
     go_simp
     refine hK _ _ ⟨?_, ?_⟩
     · exact keepI
     clear hK K
     try simp only [Act.put, zp]
     repeat ((first | refine wpOrd_pass rfl rfl ?_ | (refine wpOrd_free (v := ?_) rfl rfl (fun _ hS => ?_) ?_; rotate_left; focus (go_simp; try with_reducible rfl))); simp only [Act.put, zp])
     refine wpOrd_nil ?_
    go_wp2_with fail
    all_goals
      go_ret
      exact ⟨ret_val (by rw [HE.out]; rfl), exI⟩
set_option maxRecDepth 100000 in
set_option maxHeartbeats 16000000 in
theorem add_hit (A0 : Option Addr) (n0 c0 : Nat) (f0 : Int) (A1 : Option Addr) (n1 c1 : Nat) (f1 : Int) (Am : Option Addr) (nm cm : Nat) (file gen : Int) (L0 L1 : List UInt8) (l : List Rec) (r : Rec) (hL0 : L0.length = n0) (hL1 : L1.length = n1) (hb0 : n0 ≤ 100000) (hb1 : n1 ≤ 100000) (hn : l.length = nm) (hbig : nm ≤ 100000) (hs : Sorted l)
    (hk : recOk r = true) (he : putE l r = 0) (hlen : (putL l r).length = l.length) (X : World) (hr : Recs X Am l) (hy0 : Byt X A0 L0) (hy1 : Byt X A1 L1) :
    Calls Tryz.prog 74 #[.pointer (some ⟨X.heap.size, 0, none⟩), recV r] (X.alloc (.cells #[.slice A0 n0 c0, .int .i64 f0, .slice A1 n1 c1, .int .i64 f1, .slice Am nm cm, .int .i64 file, .int .i64 gen] 131)) fun e w' =>
      ∃ B0 m0 d0 B1 m1 d1 Ag ng cg, e = .returned (.int .i64 0) ∧ Ext (X.alloc (.cells #[.slice B0 m0 d0, .int .i64 f0, .slice B1 m1 d1, .int .i64 f1, .slice Ag ng cg, .int .i64 file, .int .i64 gen] 131)) w' ∧
        Hid (m0 = (L0).length ∧ m1 = (L1).length ∧ m0 ≤ d0 ∧ m1 ≤ d1 ∧ d0 ≤ 9223372036854775807 ∧ d1 ≤ 9223372036854775807) ∧ RowB (X.heap.size + 1) w' B0 m0 d0 (L0) ∧ RowB (X.heap.size + 1) w' B1 m1 d1 (L1) ∧ Hid (ng = (putL l r).length) ∧ OwnR (X.heap.size + 1) w' (.slice Ag ng cg) (putL l r) := by
  have htx : r.text.size ≤ 9223372036854775807 := by have := recOk_text hk; omega
  have hpe2 : (putE l r != 0) = false := by simpa using he
  have HE := hid he
  clear he
  have Hlen := hid hlen
  clear hlen
  go_enter Tryz.func74, Tryz.ntmps74
  go_wp2_with (go_at_call 107; refine (isRecord_any _ _ (by assumption)).mono ?_; rintro e w1 ⟨rfl, E, d, rfl⟩)
  refine wp_region_ord_same (.f 0 (.f 1 (.f 2 (.f 3 (.f 4 (.f 5 (.k 6 (.f 7 (.f 8 (.f 9 (.a 10 (.a 11 (.f 12 .d)))))) 10 (.a 6 (.f 7 (.f 8 (.f 9 (.a 11 (.f 12 .d))))))))))))) (by kernel_rfl) (by kernel_rfl) ?_
  repeat ((first | refine wpOrd_pass rfl rfl ?_ | (refine wpOrd_free (v := ?_) rfl rfl (fun _ hS => ?_) ?_; rotate_left; focus (go_simp; try with_reducible rfl))); simp only [Act.put, zp])
  refine wpOrd_fork ?_ ?_
  focus
   refine wpOrd_call rfl rfl rfl Tryz.call130 (fun R hR => ?_)
   go_simp
   refine (put_any _ _ _ _ _ (by first | rfl | assumption) (by omega) (by assumption) _ (recI ‹_›)).mono ?_
   rintro e w1 ⟨Ap1, np1, cp1, rfl, hnp1, hvp1, E1, d1, rfl⟩
   refine hR _ _ ⟨_, rfl, ?_, ?_⟩
   · exact keepI
   clear hR R
   simp only [Act.put, zp]
   repeat ((first | refine wpOrd_pass rfl rfl ?_ | (refine wpOrd_free (v := ?_) rfl rfl (fun _ hS => ?_) ?_; rotate_left; focus (go_simp; try with_reducible rfl))); simp only [Act.put, zp])
   refine wpOrd_act rfl rfl (fun K hK => ?_)
   go_simp
   refine hK _ _ ⟨?_, ?_⟩
   · exact keepI
   clear hK K
   try simp only [Act.put, zp]
   refine wpOrd_act rfl rfl (fun K hK => ?_)
   go_simp
   refine hK _ _ ⟨?_, ?_⟩
   · exact keepI
   clear hK K
   try simp only [Act.put, zp]
   repeat ((first | refine wpOrd_pass rfl rfl ?_ | (refine wpOrd_free (v := ?_) rfl rfl (fun _ hS => ?_) ?_; rotate_left; focus (go_simp; try with_reducible rfl))); simp only [Act.put, zp])
   refine wpOrd_nil ?_
  rotate_right
  focus
   refine wpOrd_act rfl rfl (fun K hK => ?_)
   go_simp
   refine hK _ _ ⟨?_, ?_⟩
   · exact keepI
   clear hK K
   try simp only [Act.put, zp]
   refine wpOrd_call rfl rfl rfl Tryz.call130 (fun R hR => ?_)
   go_simp
   refine (put_any _ _ _ _ _ (by first | rfl | assumption) (by omega) (by assumption) _ (recI ‹_›)).mono ?_
   rintro e w1 ⟨Ap2, np2, cp2, rfl, hnp2, hvp2, E2, d2, rfl⟩
   refine hR _ _ ⟨_, rfl, ?_, ?_⟩
   · exact keepI
   clear hR R
   simp only [Act.put, zp]
   repeat ((first | refine wpOrd_pass rfl rfl ?_ | (refine wpOrd_free (v := ?_) rfl rfl (fun _ hS => ?_) ?_; rotate_left; focus (go_simp; try with_reducible rfl))); simp only [Act.put, zp])
   refine wpOrd_act rfl rfl (fun K hK => ?_)
   go_simp
   refine hK _ _ ⟨?_, ?_⟩
   · exact keepI
   clear hK K
   try simp only [Act.put, zp]
   repeat ((first | refine wpOrd_pass rfl rfl ?_ | (refine wpOrd_free (v := ?_) rfl rfl (fun _ hS => ?_) ?_; rotate_left; focus (go_simp; try with_reducible rfl))); simp only [Act.put, zp])
   refine wpOrd_nil ?_
  · have hng : np2 = nm := by have := Hid.out hnp2; have h2 := Hlen.out; omega
    have Hng := hid hnp2.out
    have Hv := hid hvp2
    clear hnp2 hvp2
    subst hng
    go_wp2_with fail
    refine (driveCopy_any _ _ _ _ _ _ _ _ L0 L1 hL0 hL1 (by omega) (by omega) _ (bytI ‹_›) (bytI ‹_›)).mono ?_
    rintro e w1 ⟨Ax, Ay, rfl, hox, hoy, Ec, dc, rfl⟩
    have Hox := hid hox
    have Hoy := hid hoy
    clear hox hoy
    go_wp2_with fail
    refine wp_region_ord_same (.f 0 (.f 1 (.f 2 (.f 3 (.f 4 (.f 5 (.f 6 (.f 7 (.f 8 (.f 9 (.f 10 .d))))))))))) (by kernel_rfl) (by kernel_rfl) ?_
    repeat ((first | refine wpOrd_pass rfl rfl ?_ | (refine wpOrd_free (v := ?_) rfl rfl (fun _ hS => ?_) ?_; rotate_left; focus (go_simp; try with_reducible rfl))); simp only [Act.put, zp])
    refine wpOrd_nil ?_
    go_wp2_with fail
    go_ret
    refine ⟨Ax, n0, n0, Ay, n1, n1, Ap2, np2, cp2, ret_val rfl, exI, hid ⟨hL0.symm, hL1.symm, Nat.le_refl _, Nat.le_refl _, by omega, by omega⟩, ?_, ?_, hid Hng.out, ?_⟩
    · exact .inr (OwnB.moved2 Hox.out (by repeat (with_reducible first | exact Ext.refl _ | exact Ext.same _ _ _ _ | assumption | apply Ext.alloc | apply Ext.ext | apply Ext.drew)) (by simp) (by simp) (by simp; omega))
    · exact .inr (OwnB.moved2 Hoy.out (by repeat (with_reducible first | exact Ext.refl _ | exact Ext.same _ _ _ _ | assumption | apply Ext.alloc | apply Ext.ext | apply Ext.drew)) (by simp) (by simp) (by simp; omega))
    · exact OwnR.moved2 Hv.out (by repeat (with_reducible first | exact Ext.refl _ | exact Ext.same _ _ _ _ | assumption | apply Ext.alloc | apply Ext.ext | apply Ext.drew)) (by simp) (by simp) (by simp; omega)
  · have hng : np1 = nm := by have := Hid.out hnp1; have h2 := Hlen.out; omega
    have Hng := hid hnp1.out
    have Hv := hid hvp1
    clear hnp1 hvp1
    subst hng
    go_wp2_with fail
    refine (driveCopy_any _ _ _ _ _ _ _ _ L0 L1 hL0 hL1 (by omega) (by omega) _ (bytI ‹_›) (bytI ‹_›)).mono ?_
    rintro e w1 ⟨Ax, Ay, rfl, hox, hoy, Ec, dc, rfl⟩
    have Hox := hid hox
    have Hoy := hid hoy
    clear hox hoy
    go_wp2_with fail
    refine wp_region_ord_same (.f 0 (.f 1 (.f 2 (.f 3 (.f 4 (.f 5 (.f 6 (.f 7 (.f 8 (.f 9 (.f 10 .d))))))))))) (by kernel_rfl) (by kernel_rfl) ?_
    repeat ((first | refine wpOrd_pass rfl rfl ?_ | (refine wpOrd_free (v := ?_) rfl rfl (fun _ hS => ?_) ?_; rotate_left; focus (go_simp; try with_reducible rfl))); simp only [Act.put, zp])
    refine wpOrd_nil ?_
    go_wp2_with fail
    go_ret
    refine ⟨Ax, n0, n0, Ay, n1, n1, Ap1, np1, cp1, ret_val rfl, exI, hid ⟨hL0.symm, hL1.symm, Nat.le_refl _, Nat.le_refl _, by omega, by omega⟩, ?_, ?_, hid Hng.out, ?_⟩
    · exact .inr (OwnB.moved2 Hox.out (by repeat (with_reducible first | exact Ext.refl _ | exact Ext.same _ _ _ _ | assumption | apply Ext.alloc | apply Ext.ext | apply Ext.drew)) (by simp) (by simp) (by simp; omega))
    · exact .inr (OwnB.moved2 Hoy.out (by repeat (with_reducible first | exact Ext.refl _ | exact Ext.same _ _ _ _ | assumption | apply Ext.alloc | apply Ext.ext | apply Ext.drew)) (by simp) (by simp) (by simp; omega))
    · exact OwnR.moved2 Hv.out (by repeat (with_reducible first | exact Ext.refl _ | exact Ext.same _ _ _ _ | assumption | apply Ext.alloc | apply Ext.ext | apply Ext.drew)) (by simp) (by simp) (by simp; omega)
set_option maxRecDepth 100000 in
set_option maxHeartbeats 16000000 in
theorem add_new0 (A0 : Option Addr) (n0 c0 : Nat) (f0 : Int) (A1 : Option Addr) (n1 c1 : Nat) (f1 : Int) (Am : Option Addr) (nm cm : Nat) (gen : Int) (L0 L1 : List UInt8) (l : List Rec) (r : Rec) (hL0 : L0.length = n0) (hL1 : L1.length = n1) (hb0 : n0 ≤ 100000) (hb1 : n1 ≤ 100000) (hn : l.length = nm) (hbig : nm ≤ 100000) (hs : Sorted l)
    (hk : recOk r = true) (he : putE l r = 0) (hlen : (putL l r).length = l.length + 1) (hne : L1 = []) (X : World) (hr : Recs X Am l) (hy0 : Byt X A0 L0) (hy1 : Byt X A1 L1) :
    Calls Tryz.prog 74 #[.pointer (some ⟨X.heap.size, 0, none⟩), recV r] (X.alloc (.cells #[.slice A0 n0 c0, .int .i64 f0, .slice A1 n1 c1, .int .i64 f1, .slice Am nm cm, .int .i64 0, .int .i64 gen] 131)) fun e w' =>
      ∃ B0 m0 d0 B1 m1 d1 Ag ng cg, e = .returned (.int .i64 0) ∧ Ext (X.alloc (.cells #[.slice B0 m0 d0, .int .i64 f0, .slice B1 m1 d1, .int .i64 f1, .slice Ag ng cg, .int .i64 0, .int .i64 gen] 131)) w' ∧
        Hid (m0 = (L0 ++ frameB r).length ∧ m1 = (L1).length ∧ m0 ≤ d0 ∧ m1 ≤ d1 ∧ d0 ≤ 9223372036854775807 ∧ d1 ≤ 9223372036854775807) ∧ RowB (X.heap.size + 1) w' B0 m0 d0 (L0 ++ frameB r) ∧ RowB (X.heap.size + 1) w' B1 m1 d1 (L1) ∧ Hid (ng = (putL l r).length) ∧ OwnR (X.heap.size + 1) w' (.slice Ag ng cg) (putL l r) := by
  have htx : r.text.size ≤ 9223372036854775807 := by have := recOk_text hk; omega
  have hpe2 : (putE l r != 0) = false := by simpa using he
  have HE := hid he
  clear he
  have Hlen := hid hlen
  have Hne := hid hne
  have hnum := recNum_of hk
  have hft : r.text.size ≤ 200 := recOk_text hk
  clear hlen hne
  go_enter Tryz.func74, Tryz.ntmps74
  go_wp2_with (go_at_call 107; refine (isRecord_any _ _ (by assumption)).mono ?_; rintro e w1 ⟨rfl, E, d, rfl⟩)
  refine wp_region_ord_same (.f 0 (.f 1 (.f 2 (.f 3 (.f 4 (.f 5 (.k 6 (.f 7 (.f 8 (.f 9 (.a 10 (.a 11 (.f 12 .d)))))) 10 (.a 6 (.f 7 (.f 8 (.f 9 (.a 11 (.f 12 .d))))))))))))) (by kernel_rfl) (by kernel_rfl) ?_
  repeat ((first | refine wpOrd_pass rfl rfl ?_ | (refine wpOrd_free (v := ?_) rfl rfl (fun _ hS => ?_) ?_; rotate_left; focus (go_simp; try with_reducible rfl))); simp only [Act.put, zp])
  refine wpOrd_fork ?_ ?_
  focus
   refine wpOrd_call rfl rfl rfl Tryz.call130 (fun R hR => ?_)
   go_simp
   refine (put_any _ _ _ _ _ (by first | rfl | assumption) (by omega) (by assumption) _ (recI ‹_›)).mono ?_
   rintro e w1 ⟨Ap1, np1, cp1, rfl, hnp1, hvp1, E1, d1, rfl⟩
   refine hR _ _ ⟨_, rfl, ?_, ?_⟩
   · exact keepI
   clear hR R
   simp only [Act.put, zp]
   repeat ((first | refine wpOrd_pass rfl rfl ?_ | (refine wpOrd_free (v := ?_) rfl rfl (fun _ hS => ?_) ?_; rotate_left; focus (go_simp; try with_reducible rfl))); simp only [Act.put, zp])
   refine wpOrd_act rfl rfl (fun K hK => ?_)
   go_simp
   refine hK _ _ ⟨?_, ?_⟩
   · exact keepI
   clear hK K
   try simp only [Act.put, zp]
   refine wpOrd_act rfl rfl (fun K hK => ?_)
   go_simp
   refine hK _ _ ⟨?_, ?_⟩
   · exact keepI
   clear hK K
   try simp only [Act.put, zp]
   repeat ((first | refine wpOrd_pass rfl rfl ?_ | (refine wpOrd_free (v := ?_) rfl rfl (fun _ hS => ?_) ?_; rotate_left; focus (go_simp; try with_reducible rfl))); simp only [Act.put, zp])
   refine wpOrd_nil ?_
  rotate_right
  focus
   refine wpOrd_act rfl rfl (fun K hK => ?_)
   go_simp
   refine hK _ _ ⟨?_, ?_⟩
   · exact keepI
   clear hK K
   try simp only [Act.put, zp]
   refine wpOrd_call rfl rfl rfl Tryz.call130 (fun R hR => ?_)
   go_simp
   refine (put_any _ _ _ _ _ (by first | rfl | assumption) (by omega) (by assumption) _ (recI ‹_›)).mono ?_
   rintro e w1 ⟨Ap2, np2, cp2, rfl, hnp2, hvp2, E2, d2, rfl⟩
   refine hR _ _ ⟨_, rfl, ?_, ?_⟩
   · exact keepI
   clear hR R
   simp only [Act.put, zp]
   repeat ((first | refine wpOrd_pass rfl rfl ?_ | (refine wpOrd_free (v := ?_) rfl rfl (fun _ hS => ?_) ?_; rotate_left; focus (go_simp; try with_reducible rfl))); simp only [Act.put, zp])
   refine wpOrd_act rfl rfl (fun K hK => ?_)
   go_simp
   refine hK _ _ ⟨?_, ?_⟩
   · exact keepI
   clear hK K
   try simp only [Act.put, zp]
   repeat ((first | refine wpOrd_pass rfl rfl ?_ | (refine wpOrd_free (v := ?_) rfl rfl (fun _ hS => ?_) ?_; rotate_left; focus (go_simp; try with_reducible rfl))); simp only [Act.put, zp])
   refine wpOrd_nil ?_
  · have hng : np2 = nm + 1 := by have := Hid.out hnp2; have h2 := Hlen.out; omega
    have Hng := hid hnp2.out
    have Hv := hid hvp2
    clear hnp2 hvp2
    subst hng
    go_wp2_with fail
    refine (driveCopy_any _ _ _ _ _ _ _ _ L0 L1 hL0 hL1 (by omega) (by omega) _ (bytI ‹_›) (bytI ‹_›)).mono ?_
    rintro e w1 ⟨Ax, Ay, rfl, hox, hoy, Ec, dc, rfl⟩
    have Hox := hid hox
    have Hoy := hid hoy
    clear hox hoy
    go_wp2_with fail
    refine wp_region_ord_same (.f 0 (.f 1 (.f 2 (.f 3 (.f 4 (.f 5 (.f 6 (.f 7 (.f 8 (.f 9 (.f 10 .d))))))))))) (by kernel_rfl) (by kernel_rfl) ?_
    repeat ((first | refine wpOrd_pass rfl rfl ?_ | (refine wpOrd_free (v := ?_) rfl rfl (fun _ hS => ?_) ?_; rotate_left; focus (go_simp; try with_reducible rfl))); simp only [Act.put, zp])
    refine wpOrd_nil ?_
    have hcast : (nm : Int) < ((nm + 1 : Nat) : Int) := by omega
    go_wp2_with fail
    refine wp_region_ord_same (.f 0 (.f 1 (.f 2 (.f 3 (.f 4 (.f 5 (.f 6 (.f 7 (.f 8 (.f 9 (.f 10 .d))))))))))) (by kernel_rfl) (by kernel_rfl) ?_
    repeat ((first | refine wpOrd_pass rfl rfl ?_ | (refine wpOrd_free (v := ?_) rfl rfl (fun _ hS => ?_) ?_; rotate_left; focus (go_simp; try with_reducible rfl))); simp only [Act.put, zp])
    refine wpOrd_nil ?_
    go_wp2_with fail
    have Hfl : Hid (L0.length + (frameB r).length ≤ 100000000) := hid (by rw [frameB_length]; omega)
    refine wp_region_ord (.f 0 (.f 1 (.f 2 (.f 3 (.k 4 (.a 5 (.a 6 (.a 7 (.f 8 (.f 9 (.a 10 .d)))))) 5 (.k 4 (.a 6 (.a 7 (.f 8 (.f 9 (.a 10 .d))))) 6 (.a 4 (.a 7 (.f 8 (.f 9 (.a 10 .d))))))))))) (Ext (X)) (by kernel_rfl) (by kernel_rfl) exI ?_
    repeat ((first | refine wpOrd_pass rfl rfl ?_ | (refine wpOrd_free (v := ?_) rfl rfl (fun _ hS => ?_) ?_; rotate_left; focus (obtain ⟨E9, d9, rfl⟩ := hS; go_simp; try with_reducible rfl))); simp only [Act.put, zp])
    refine wpOrd_fork ?_ ?_
    focus
     refine wpOrd_act rfl rfl (fun K hK => ?_)
     go_simp
     refine hK _ _ ⟨?_, ?_⟩
     · exact exI
     clear hK K
     try simp only [Act.put, zp]
     refine wpOrd_act rfl rfl (fun K hK => ?_)
     go_simp
     refine hK _ _ ⟨?_, ?_⟩
     · exact exI
     clear hK K
     try simp only [Act.put, zp]
     refine wpOrd_call rfl rfl rfl Tryz.call124 (fun R hR => ?_)
     go_simp
     refine (frame_any _ (by assumption) _).mono ?_
     rintro e w1 ⟨A201, c201, rfl, hb201, E201, d201, rfl⟩
     refine hR _ _ ⟨_, rfl, ?_, ?_⟩
     · exact exI
     clear hR R
     simp only [Act.put, zp]
     refine wpOrd_abyt rfl (((((X.alloc (.cells #[.slice Ax n0 n0, .int .i64 f0, .slice Ay n1 n1, .int .i64 f1, .slice Am nm cm, .int .i64 0, .int .i64 gen] 131)).alloc (.cells #[.int .i64 r.ao, .int .i64 r.sq, .int .i64 r.kind, .int .i64 r.ship, .int .i64 r.day, .int .i64 r.known, .int .i64 r.wo, .int .i64 r.ws, .int .i64 r.to, .int .i64 r.til, .string r.text] 46)).ext E (d + 1)).alloc (.cells #[.slice Ap2 (nm + 1) cp2] 34)).ext E2 d2) _ (by rfl) rfl rfl _ _ rfl (frameB r) rfl (by exact (by repeat (with_reducible first | exact Ext.refl _ | exact Ext.same _ _ _ _ | assumption | apply Ext.alloc | apply Ext.ext | apply Ext.drew))) (by exact OwnB.moved2 Hox.out (by repeat (with_reducible first | exact Ext.refl _ | exact Ext.same _ _ _ _ | assumption | apply Ext.alloc | apply Ext.ext | apply Ext.drew)) (by simp) (by simp) (by simp)) rfl (by rw [frameB_length]) (by exact (by with_reducible repeat (first | assumption | apply Byt.ext | apply Byt.alloc | apply Byt.drew | (refine Byt.of_ext ?_ (by assumption))))) Hfl.out (fun v202 E202 d202 ho202 => ?_)
     obtain ⟨Aw, cw, rfl, hcw, -⟩ := ownsRow_slice ho202
     obtain ⟨nw, hnw⟩ : ∃ nw, (L0 ++ frameB r).length = nw := ⟨_, rfl⟩
     rw [hnw] at ho202 hcw ⊢
     have How := hid ho202
     have Hnw := hid hnw
     clear ho202 hnw
     refine ⟨?_, ?_⟩
     · exact exI
     try simp only [Act.put, zp]
     repeat ((first | refine wpOrd_pass rfl rfl ?_ | (refine wpOrd_free (v := ?_) rfl rfl (fun _ hS => ?_) ?_; rotate_left; focus (obtain ⟨E9, d9, rfl⟩ := hS; go_simp; try with_reducible rfl))); simp only [Act.put, zp])
     refine wpOrd_act rfl rfl (fun K hK => ?_)
     go_simp
     refine hK _ _ ⟨?_, ?_⟩
     · exact exI
     clear hK K
     try simp only [Act.put, zp]
     refine wpOrd_nil ?_
    rotate_right
    focus
     refine wpOrd_act rfl rfl (fun K hK => ?_)
     go_simp
     refine hK _ _ ⟨?_, ?_⟩
     · exact exI
     clear hK K
     try simp only [Act.put, zp]
     refine wpOrd_fork ?_ ?_
     focus
      refine wpOrd_act rfl rfl (fun K hK => ?_)
      go_simp
      refine hK _ _ ⟨?_, ?_⟩
      · exact exI
      clear hK K
      try simp only [Act.put, zp]
      refine wpOrd_call rfl rfl rfl Tryz.call124 (fun R hR => ?_)
      go_simp
      refine (frame_any _ (by assumption) _).mono ?_
      rintro e w1 ⟨A203, c203, rfl, hb203, E203, d203, rfl⟩
      refine hR _ _ ⟨_, rfl, ?_, ?_⟩
      · exact exI
      clear hR R
      simp only [Act.put, zp]
      refine wpOrd_abyt rfl (((((X.alloc (.cells #[.slice Ax n0 n0, .int .i64 f0, .slice Ay n1 n1, .int .i64 f1, .slice Am nm cm, .int .i64 0, .int .i64 gen] 131)).alloc (.cells #[.int .i64 r.ao, .int .i64 r.sq, .int .i64 r.kind, .int .i64 r.ship, .int .i64 r.day, .int .i64 r.known, .int .i64 r.wo, .int .i64 r.ws, .int .i64 r.to, .int .i64 r.til, .string r.text] 46)).ext E (d + 1)).alloc (.cells #[.slice Ap2 (nm + 1) cp2] 34)).ext E2 d2) _ (by rfl) rfl rfl _ _ rfl (frameB r) rfl (by exact (by repeat (with_reducible first | exact Ext.refl _ | exact Ext.same _ _ _ _ | assumption | apply Ext.alloc | apply Ext.ext | apply Ext.drew))) (by exact OwnB.moved2 Hox.out (by repeat (with_reducible first | exact Ext.refl _ | exact Ext.same _ _ _ _ | assumption | apply Ext.alloc | apply Ext.ext | apply Ext.drew)) (by simp) (by simp) (by simp)) rfl (by rw [frameB_length]) (by exact (by with_reducible repeat (first | assumption | apply Byt.ext | apply Byt.alloc | apply Byt.drew | (refine Byt.of_ext ?_ (by assumption))))) Hfl.out (fun v204 E204 d204 ho204 => ?_)
      obtain ⟨Aw, cw, rfl, hcw, -⟩ := ownsRow_slice ho204
      obtain ⟨nw, hnw⟩ : ∃ nw, (L0 ++ frameB r).length = nw := ⟨_, rfl⟩
      rw [hnw] at ho204 hcw ⊢
      have How := hid ho204
      have Hnw := hid hnw
      clear ho204 hnw
      refine ⟨?_, ?_⟩
      · exact exI
      try simp only [Act.put, zp]
      repeat ((first | refine wpOrd_pass rfl rfl ?_ | (refine wpOrd_free (v := ?_) rfl rfl (fun _ hS => ?_) ?_; rotate_left; focus (obtain ⟨E9, d9, rfl⟩ := hS; go_simp; try with_reducible rfl))); simp only [Act.put, zp])
      refine wpOrd_act rfl rfl (fun K hK => ?_)
      go_simp
      refine hK _ _ ⟨?_, ?_⟩
      · exact exI
      clear hK K
      try simp only [Act.put, zp]
      refine wpOrd_nil ?_
     rotate_right
     focus
      refine wpOrd_call rfl rfl rfl Tryz.call124 (fun R hR => ?_)
      go_simp
      refine (frame_any _ (by assumption) _).mono ?_
      rintro e w1 ⟨A205, c205, rfl, hb205, E205, d205, rfl⟩
      refine hR _ _ ⟨_, rfl, ?_, ?_⟩
      · exact exI
      clear hR R
      simp only [Act.put, zp]
      refine wpOrd_act rfl rfl (fun K hK => ?_)
      go_simp
      refine hK _ _ ⟨?_, ?_⟩
      · exact exI
      clear hK K
      try simp only [Act.put, zp]
      refine wpOrd_abyt rfl (((((X.alloc (.cells #[.slice Ax n0 n0, .int .i64 f0, .slice Ay n1 n1, .int .i64 f1, .slice Am nm cm, .int .i64 0, .int .i64 gen] 131)).alloc (.cells #[.int .i64 r.ao, .int .i64 r.sq, .int .i64 r.kind, .int .i64 r.ship, .int .i64 r.day, .int .i64 r.known, .int .i64 r.wo, .int .i64 r.ws, .int .i64 r.to, .int .i64 r.til, .string r.text] 46)).ext E (d + 1)).alloc (.cells #[.slice Ap2 (nm + 1) cp2] 34)).ext E2 d2) _ (by rfl) rfl rfl _ _ rfl (frameB r) rfl (by exact (by repeat (with_reducible first | exact Ext.refl _ | exact Ext.same _ _ _ _ | assumption | apply Ext.alloc | apply Ext.ext | apply Ext.drew))) (by exact OwnB.moved2 Hox.out (by repeat (with_reducible first | exact Ext.refl _ | exact Ext.same _ _ _ _ | assumption | apply Ext.alloc | apply Ext.ext | apply Ext.drew)) (by simp) (by simp) (by simp)) rfl (by rw [frameB_length]) (by exact (by with_reducible repeat (first | assumption | apply Byt.ext | apply Byt.alloc | apply Byt.drew | (refine Byt.of_ext ?_ (by assumption))))) Hfl.out (fun v206 E206 d206 ho206 => ?_)
      obtain ⟨Aw, cw, rfl, hcw, -⟩ := ownsRow_slice ho206
      obtain ⟨nw, hnw⟩ : ∃ nw, (L0 ++ frameB r).length = nw := ⟨_, rfl⟩
      rw [hnw] at ho206 hcw ⊢
      have How := hid ho206
      have Hnw := hid hnw
      clear ho206 hnw
      refine ⟨?_, ?_⟩
      · exact exI
      try simp only [Act.put, zp]
      repeat ((first | refine wpOrd_pass rfl rfl ?_ | (refine wpOrd_free (v := ?_) rfl rfl (fun _ hS => ?_) ?_; rotate_left; focus (obtain ⟨E9, d9, rfl⟩ := hS; go_simp; try with_reducible rfl))); simp only [Act.put, zp])
      refine wpOrd_act rfl rfl (fun K hK => ?_)
      go_simp
      refine hK _ _ ⟨?_, ?_⟩
      · exact exI
      clear hK K
      try simp only [Act.put, zp]
      refine wpOrd_nil ?_
    all_goals
      go_wp2_with fail
      go_ret
      refine ⟨Aw, nw, cw, Ay, n1, n1, Ap2, nm + 1, cp2, ret_val rfl, exI, hid ⟨Hnw.out.symm, hL1.symm, hcw, Nat.le_refl _, OwnB.cap How.out, by omega⟩, ?_, ?_, hid Hng.out, ?_⟩
      · exact .inr (OwnB.moved2 How.out (by repeat (with_reducible first | exact Ext.refl _ | exact Ext.same _ _ _ _ | assumption | apply Ext.alloc | apply Ext.ext | apply Ext.drew)) (by simp) (by simp) (by simp; omega))
      · exact .inl Hne.out
      · exact OwnR.moved2 Hv.out (by repeat (with_reducible first | exact Ext.refl _ | exact Ext.same _ _ _ _ | assumption | apply Ext.alloc | apply Ext.ext | apply Ext.drew)) (by simp) (by simp) (by simp; omega)
  · have hng : np1 = nm + 1 := by have := Hid.out hnp1; have h2 := Hlen.out; omega
    have Hng := hid hnp1.out
    have Hv := hid hvp1
    clear hnp1 hvp1
    subst hng
    go_wp2_with fail
    refine (driveCopy_any _ _ _ _ _ _ _ _ L0 L1 hL0 hL1 (by omega) (by omega) _ (bytI ‹_›) (bytI ‹_›)).mono ?_
    rintro e w1 ⟨Ax, Ay, rfl, hox, hoy, Ec, dc, rfl⟩
    have Hox := hid hox
    have Hoy := hid hoy
    clear hox hoy
    go_wp2_with fail
    refine wp_region_ord_same (.f 0 (.f 1 (.f 2 (.f 3 (.f 4 (.f 5 (.f 6 (.f 7 (.f 8 (.f 9 (.f 10 .d))))))))))) (by kernel_rfl) (by kernel_rfl) ?_
    repeat ((first | refine wpOrd_pass rfl rfl ?_ | (refine wpOrd_free (v := ?_) rfl rfl (fun _ hS => ?_) ?_; rotate_left; focus (go_simp; try with_reducible rfl))); simp only [Act.put, zp])
    refine wpOrd_nil ?_
    have hcast : (nm : Int) < ((nm + 1 : Nat) : Int) := by omega
    go_wp2_with fail
    refine wp_region_ord_same (.f 0 (.f 1 (.f 2 (.f 3 (.f 4 (.f 5 (.f 6 (.f 7 (.f 8 (.f 9 (.f 10 .d))))))))))) (by kernel_rfl) (by kernel_rfl) ?_
    repeat ((first | refine wpOrd_pass rfl rfl ?_ | (refine wpOrd_free (v := ?_) rfl rfl (fun _ hS => ?_) ?_; rotate_left; focus (go_simp; try with_reducible rfl))); simp only [Act.put, zp])
    refine wpOrd_nil ?_
    go_wp2_with fail
    have Hfl : Hid (L0.length + (frameB r).length ≤ 100000000) := hid (by rw [frameB_length]; omega)
    refine wp_region_ord (.f 0 (.f 1 (.f 2 (.f 3 (.k 4 (.a 5 (.a 6 (.a 7 (.f 8 (.f 9 (.a 10 .d)))))) 5 (.k 4 (.a 6 (.a 7 (.f 8 (.f 9 (.a 10 .d))))) 6 (.a 4 (.a 7 (.f 8 (.f 9 (.a 10 .d))))))))))) (Ext (X)) (by kernel_rfl) (by kernel_rfl) exI ?_
    repeat ((first | refine wpOrd_pass rfl rfl ?_ | (refine wpOrd_free (v := ?_) rfl rfl (fun _ hS => ?_) ?_; rotate_left; focus (obtain ⟨E9, d9, rfl⟩ := hS; go_simp; try with_reducible rfl))); simp only [Act.put, zp])
    refine wpOrd_fork ?_ ?_
    focus
     refine wpOrd_act rfl rfl (fun K hK => ?_)
     go_simp
     refine hK _ _ ⟨?_, ?_⟩
     · exact exI
     clear hK K
     try simp only [Act.put, zp]
     refine wpOrd_act rfl rfl (fun K hK => ?_)
     go_simp
     refine hK _ _ ⟨?_, ?_⟩
     · exact exI
     clear hK K
     try simp only [Act.put, zp]
     refine wpOrd_call rfl rfl rfl Tryz.call124 (fun R hR => ?_)
     go_simp
     refine (frame_any _ (by assumption) _).mono ?_
     rintro e w1 ⟨A201, c201, rfl, hb201, E201, d201, rfl⟩
     refine hR _ _ ⟨_, rfl, ?_, ?_⟩
     · exact exI
     clear hR R
     simp only [Act.put, zp]
     refine wpOrd_abyt rfl (((((X.alloc (.cells #[.slice Ax n0 n0, .int .i64 f0, .slice Ay n1 n1, .int .i64 f1, .slice Am nm cm, .int .i64 0, .int .i64 gen] 131)).alloc (.cells #[.int .i64 r.ao, .int .i64 r.sq, .int .i64 r.kind, .int .i64 r.ship, .int .i64 r.day, .int .i64 r.known, .int .i64 r.wo, .int .i64 r.ws, .int .i64 r.to, .int .i64 r.til, .string r.text] 46)).ext E (d + 1)).ext E1 d1).alloc (.cells #[.slice Ap1 (nm + 1) cp1] 34)) _ (by rfl) rfl rfl _ _ rfl (frameB r) rfl (by exact (by repeat (with_reducible first | exact Ext.refl _ | exact Ext.same _ _ _ _ | assumption | apply Ext.alloc | apply Ext.ext | apply Ext.drew))) (by exact OwnB.moved2 Hox.out (by repeat (with_reducible first | exact Ext.refl _ | exact Ext.same _ _ _ _ | assumption | apply Ext.alloc | apply Ext.ext | apply Ext.drew)) (by simp) (by simp) (by simp)) rfl (by rw [frameB_length]) (by exact (by with_reducible repeat (first | assumption | apply Byt.ext | apply Byt.alloc | apply Byt.drew | (refine Byt.of_ext ?_ (by assumption))))) Hfl.out (fun v202 E202 d202 ho202 => ?_)
     obtain ⟨Aw, cw, rfl, hcw, -⟩ := ownsRow_slice ho202
     obtain ⟨nw, hnw⟩ : ∃ nw, (L0 ++ frameB r).length = nw := ⟨_, rfl⟩
     rw [hnw] at ho202 hcw ⊢
     have How := hid ho202
     have Hnw := hid hnw
     clear ho202 hnw
     refine ⟨?_, ?_⟩
     · exact exI
     try simp only [Act.put, zp]
     repeat ((first | refine wpOrd_pass rfl rfl ?_ | (refine wpOrd_free (v := ?_) rfl rfl (fun _ hS => ?_) ?_; rotate_left; focus (obtain ⟨E9, d9, rfl⟩ := hS; go_simp; try with_reducible rfl))); simp only [Act.put, zp])
     refine wpOrd_act rfl rfl (fun K hK => ?_)
     go_simp
     refine hK _ _ ⟨?_, ?_⟩
     · exact exI
     clear hK K
     try simp only [Act.put, zp]
     refine wpOrd_nil ?_
    rotate_right
    focus
     refine wpOrd_act rfl rfl (fun K hK => ?_)
     go_simp
     refine hK _ _ ⟨?_, ?_⟩
     · exact exI
     clear hK K
     try simp only [Act.put, zp]
     refine wpOrd_fork ?_ ?_
     focus
      refine wpOrd_act rfl rfl (fun K hK => ?_)
      go_simp
      refine hK _ _ ⟨?_, ?_⟩
      · exact exI
      clear hK K
      try simp only [Act.put, zp]
      refine wpOrd_call rfl rfl rfl Tryz.call124 (fun R hR => ?_)
      go_simp
      refine (frame_any _ (by assumption) _).mono ?_
      rintro e w1 ⟨A203, c203, rfl, hb203, E203, d203, rfl⟩
      refine hR _ _ ⟨_, rfl, ?_, ?_⟩
      · exact exI
      clear hR R
      simp only [Act.put, zp]
      refine wpOrd_abyt rfl (((((X.alloc (.cells #[.slice Ax n0 n0, .int .i64 f0, .slice Ay n1 n1, .int .i64 f1, .slice Am nm cm, .int .i64 0, .int .i64 gen] 131)).alloc (.cells #[.int .i64 r.ao, .int .i64 r.sq, .int .i64 r.kind, .int .i64 r.ship, .int .i64 r.day, .int .i64 r.known, .int .i64 r.wo, .int .i64 r.ws, .int .i64 r.to, .int .i64 r.til, .string r.text] 46)).ext E (d + 1)).ext E1 d1).alloc (.cells #[.slice Ap1 (nm + 1) cp1] 34)) _ (by rfl) rfl rfl _ _ rfl (frameB r) rfl (by exact (by repeat (with_reducible first | exact Ext.refl _ | exact Ext.same _ _ _ _ | assumption | apply Ext.alloc | apply Ext.ext | apply Ext.drew))) (by exact OwnB.moved2 Hox.out (by repeat (with_reducible first | exact Ext.refl _ | exact Ext.same _ _ _ _ | assumption | apply Ext.alloc | apply Ext.ext | apply Ext.drew)) (by simp) (by simp) (by simp)) rfl (by rw [frameB_length]) (by exact (by with_reducible repeat (first | assumption | apply Byt.ext | apply Byt.alloc | apply Byt.drew | (refine Byt.of_ext ?_ (by assumption))))) Hfl.out (fun v204 E204 d204 ho204 => ?_)
      obtain ⟨Aw, cw, rfl, hcw, -⟩ := ownsRow_slice ho204
      obtain ⟨nw, hnw⟩ : ∃ nw, (L0 ++ frameB r).length = nw := ⟨_, rfl⟩
      rw [hnw] at ho204 hcw ⊢
      have How := hid ho204
      have Hnw := hid hnw
      clear ho204 hnw
      refine ⟨?_, ?_⟩
      · exact exI
      try simp only [Act.put, zp]
      repeat ((first | refine wpOrd_pass rfl rfl ?_ | (refine wpOrd_free (v := ?_) rfl rfl (fun _ hS => ?_) ?_; rotate_left; focus (obtain ⟨E9, d9, rfl⟩ := hS; go_simp; try with_reducible rfl))); simp only [Act.put, zp])
      refine wpOrd_act rfl rfl (fun K hK => ?_)
      go_simp
      refine hK _ _ ⟨?_, ?_⟩
      · exact exI
      clear hK K
      try simp only [Act.put, zp]
      refine wpOrd_nil ?_
     rotate_right
     focus
      refine wpOrd_call rfl rfl rfl Tryz.call124 (fun R hR => ?_)
      go_simp
      refine (frame_any _ (by assumption) _).mono ?_
      rintro e w1 ⟨A205, c205, rfl, hb205, E205, d205, rfl⟩
      refine hR _ _ ⟨_, rfl, ?_, ?_⟩
      · exact exI
      clear hR R
      simp only [Act.put, zp]
      refine wpOrd_act rfl rfl (fun K hK => ?_)
      go_simp
      refine hK _ _ ⟨?_, ?_⟩
      · exact exI
      clear hK K
      try simp only [Act.put, zp]
      refine wpOrd_abyt rfl (((((X.alloc (.cells #[.slice Ax n0 n0, .int .i64 f0, .slice Ay n1 n1, .int .i64 f1, .slice Am nm cm, .int .i64 0, .int .i64 gen] 131)).alloc (.cells #[.int .i64 r.ao, .int .i64 r.sq, .int .i64 r.kind, .int .i64 r.ship, .int .i64 r.day, .int .i64 r.known, .int .i64 r.wo, .int .i64 r.ws, .int .i64 r.to, .int .i64 r.til, .string r.text] 46)).ext E (d + 1)).ext E1 d1).alloc (.cells #[.slice Ap1 (nm + 1) cp1] 34)) _ (by rfl) rfl rfl _ _ rfl (frameB r) rfl (by exact (by repeat (with_reducible first | exact Ext.refl _ | exact Ext.same _ _ _ _ | assumption | apply Ext.alloc | apply Ext.ext | apply Ext.drew))) (by exact OwnB.moved2 Hox.out (by repeat (with_reducible first | exact Ext.refl _ | exact Ext.same _ _ _ _ | assumption | apply Ext.alloc | apply Ext.ext | apply Ext.drew)) (by simp) (by simp) (by simp)) rfl (by rw [frameB_length]) (by exact (by with_reducible repeat (first | assumption | apply Byt.ext | apply Byt.alloc | apply Byt.drew | (refine Byt.of_ext ?_ (by assumption))))) Hfl.out (fun v206 E206 d206 ho206 => ?_)
      obtain ⟨Aw, cw, rfl, hcw, -⟩ := ownsRow_slice ho206
      obtain ⟨nw, hnw⟩ : ∃ nw, (L0 ++ frameB r).length = nw := ⟨_, rfl⟩
      rw [hnw] at ho206 hcw ⊢
      have How := hid ho206
      have Hnw := hid hnw
      clear ho206 hnw
      refine ⟨?_, ?_⟩
      · exact exI
      try simp only [Act.put, zp]
      repeat ((first | refine wpOrd_pass rfl rfl ?_ | (refine wpOrd_free (v := ?_) rfl rfl (fun _ hS => ?_) ?_; rotate_left; focus (obtain ⟨E9, d9, rfl⟩ := hS; go_simp; try with_reducible rfl))); simp only [Act.put, zp])
      refine wpOrd_act rfl rfl (fun K hK => ?_)
      go_simp
      refine hK _ _ ⟨?_, ?_⟩
      · exact exI
      clear hK K
      try simp only [Act.put, zp]
      refine wpOrd_nil ?_
    all_goals
      go_wp2_with fail
      go_ret
      refine ⟨Aw, nw, cw, Ay, n1, n1, Ap1, nm + 1, cp1, ret_val rfl, exI, hid ⟨Hnw.out.symm, hL1.symm, hcw, Nat.le_refl _, OwnB.cap How.out, by omega⟩, ?_, ?_, hid Hng.out, ?_⟩
      · exact .inr (OwnB.moved2 How.out (by repeat (with_reducible first | exact Ext.refl _ | exact Ext.same _ _ _ _ | assumption | apply Ext.alloc | apply Ext.ext | apply Ext.drew)) (by simp) (by simp) (by simp; omega))
      · exact .inl Hne.out
      · exact OwnR.moved2 Hv.out (by repeat (with_reducible first | exact Ext.refl _ | exact Ext.same _ _ _ _ | assumption | apply Ext.alloc | apply Ext.ext | apply Ext.drew)) (by simp) (by simp) (by simp; omega)
set_option maxRecDepth 100000 in
set_option maxHeartbeats 16000000 in
theorem add_new1 (A0 : Option Addr) (n0 c0 : Nat) (f0 : Int) (A1 : Option Addr) (n1 c1 : Nat) (f1 : Int) (Am : Option Addr) (nm cm : Nat) (gen : Int) (L0 L1 : List UInt8) (l : List Rec) (r : Rec) (hL0 : L0.length = n0) (hL1 : L1.length = n1) (hb0 : n0 ≤ 100000) (hb1 : n1 ≤ 100000) (hn : l.length = nm) (hbig : nm ≤ 100000) (hs : Sorted l)
    (hk : recOk r = true) (he : putE l r = 0) (hlen : (putL l r).length = l.length + 1) (hne : L0 = []) (X : World) (hr : Recs X Am l) (hy0 : Byt X A0 L0) (hy1 : Byt X A1 L1) :
    Calls Tryz.prog 74 #[.pointer (some ⟨X.heap.size, 0, none⟩), recV r] (X.alloc (.cells #[.slice A0 n0 c0, .int .i64 f0, .slice A1 n1 c1, .int .i64 f1, .slice Am nm cm, .int .i64 1, .int .i64 gen] 131)) fun e w' =>
      ∃ B0 m0 d0 B1 m1 d1 Ag ng cg, e = .returned (.int .i64 0) ∧ Ext (X.alloc (.cells #[.slice B0 m0 d0, .int .i64 f0, .slice B1 m1 d1, .int .i64 f1, .slice Ag ng cg, .int .i64 1, .int .i64 gen] 131)) w' ∧
        Hid (m0 = (L0).length ∧ m1 = (L1 ++ frameB r).length ∧ m0 ≤ d0 ∧ m1 ≤ d1 ∧ d0 ≤ 9223372036854775807 ∧ d1 ≤ 9223372036854775807) ∧ RowB (X.heap.size + 1) w' B0 m0 d0 (L0) ∧ RowB (X.heap.size + 1) w' B1 m1 d1 (L1 ++ frameB r) ∧ Hid (ng = (putL l r).length) ∧ OwnR (X.heap.size + 1) w' (.slice Ag ng cg) (putL l r) := by
  have htx : r.text.size ≤ 9223372036854775807 := by have := recOk_text hk; omega
  have hpe2 : (putE l r != 0) = false := by simpa using he
  have HE := hid he
  clear he
  have Hlen := hid hlen
  have Hne := hid hne
  have hnum := recNum_of hk
  have hft : r.text.size ≤ 200 := recOk_text hk
  clear hlen hne
  go_enter Tryz.func74, Tryz.ntmps74
  go_wp2_with (go_at_call 107; refine (isRecord_any _ _ (by assumption)).mono ?_; rintro e w1 ⟨rfl, E, d, rfl⟩)
  refine wp_region_ord_same (.f 0 (.f 1 (.f 2 (.f 3 (.f 4 (.f 5 (.k 6 (.f 7 (.f 8 (.f 9 (.a 10 (.a 11 (.f 12 .d)))))) 10 (.a 6 (.f 7 (.f 8 (.f 9 (.a 11 (.f 12 .d))))))))))))) (by kernel_rfl) (by kernel_rfl) ?_
  repeat ((first | refine wpOrd_pass rfl rfl ?_ | (refine wpOrd_free (v := ?_) rfl rfl (fun _ hS => ?_) ?_; rotate_left; focus (go_simp; try with_reducible rfl))); simp only [Act.put, zp])
  refine wpOrd_fork ?_ ?_
  focus
   refine wpOrd_call rfl rfl rfl Tryz.call130 (fun R hR => ?_)
   go_simp
   refine (put_any _ _ _ _ _ (by first | rfl | assumption) (by omega) (by assumption) _ (recI ‹_›)).mono ?_
   rintro e w1 ⟨Ap1, np1, cp1, rfl, hnp1, hvp1, E1, d1, rfl⟩
   refine hR _ _ ⟨_, rfl, ?_, ?_⟩
   · exact keepI
   clear hR R
   simp only [Act.put, zp]
   repeat ((first | refine wpOrd_pass rfl rfl ?_ | (refine wpOrd_free (v := ?_) rfl rfl (fun _ hS => ?_) ?_; rotate_left; focus (go_simp; try with_reducible rfl))); simp only [Act.put, zp])
   refine wpOrd_act rfl rfl (fun K hK => ?_)
   go_simp
   refine hK _ _ ⟨?_, ?_⟩
   · exact keepI
   clear hK K
   try simp only [Act.put, zp]
   refine wpOrd_act rfl rfl (fun K hK => ?_)
   go_simp
   refine hK _ _ ⟨?_, ?_⟩
   · exact keepI
   clear hK K
   try simp only [Act.put, zp]
   repeat ((first | refine wpOrd_pass rfl rfl ?_ | (refine wpOrd_free (v := ?_) rfl rfl (fun _ hS => ?_) ?_; rotate_left; focus (go_simp; try with_reducible rfl))); simp only [Act.put, zp])
   refine wpOrd_nil ?_
  rotate_right
  focus
   refine wpOrd_act rfl rfl (fun K hK => ?_)
   go_simp
   refine hK _ _ ⟨?_, ?_⟩
   · exact keepI
   clear hK K
   try simp only [Act.put, zp]
   refine wpOrd_call rfl rfl rfl Tryz.call130 (fun R hR => ?_)
   go_simp
   refine (put_any _ _ _ _ _ (by first | rfl | assumption) (by omega) (by assumption) _ (recI ‹_›)).mono ?_
   rintro e w1 ⟨Ap2, np2, cp2, rfl, hnp2, hvp2, E2, d2, rfl⟩
   refine hR _ _ ⟨_, rfl, ?_, ?_⟩
   · exact keepI
   clear hR R
   simp only [Act.put, zp]
   repeat ((first | refine wpOrd_pass rfl rfl ?_ | (refine wpOrd_free (v := ?_) rfl rfl (fun _ hS => ?_) ?_; rotate_left; focus (go_simp; try with_reducible rfl))); simp only [Act.put, zp])
   refine wpOrd_act rfl rfl (fun K hK => ?_)
   go_simp
   refine hK _ _ ⟨?_, ?_⟩
   · exact keepI
   clear hK K
   try simp only [Act.put, zp]
   repeat ((first | refine wpOrd_pass rfl rfl ?_ | (refine wpOrd_free (v := ?_) rfl rfl (fun _ hS => ?_) ?_; rotate_left; focus (go_simp; try with_reducible rfl))); simp only [Act.put, zp])
   refine wpOrd_nil ?_
  · have hng : np2 = nm + 1 := by have := Hid.out hnp2; have h2 := Hlen.out; omega
    have Hng := hid hnp2.out
    have Hv := hid hvp2
    clear hnp2 hvp2
    subst hng
    go_wp2_with fail
    refine (driveCopy_any _ _ _ _ _ _ _ _ L0 L1 hL0 hL1 (by omega) (by omega) _ (bytI ‹_›) (bytI ‹_›)).mono ?_
    rintro e w1 ⟨Ax, Ay, rfl, hox, hoy, Ec, dc, rfl⟩
    have Hox := hid hox
    have Hoy := hid hoy
    clear hox hoy
    go_wp2_with fail
    refine wp_region_ord_same (.f 0 (.f 1 (.f 2 (.f 3 (.f 4 (.f 5 (.f 6 (.f 7 (.f 8 (.f 9 (.f 10 .d))))))))))) (by kernel_rfl) (by kernel_rfl) ?_
    repeat ((first | refine wpOrd_pass rfl rfl ?_ | (refine wpOrd_free (v := ?_) rfl rfl (fun _ hS => ?_) ?_; rotate_left; focus (go_simp; try with_reducible rfl))); simp only [Act.put, zp])
    refine wpOrd_nil ?_
    have hcast : (nm : Int) < ((nm + 1 : Nat) : Int) := by omega
    go_wp2_with fail
    refine wp_region_ord_same (.f 0 (.f 1 (.f 2 (.f 3 (.f 4 (.f 5 (.f 6 (.f 7 (.f 8 (.f 9 (.f 10 .d))))))))))) (by kernel_rfl) (by kernel_rfl) ?_
    repeat ((first | refine wpOrd_pass rfl rfl ?_ | (refine wpOrd_free (v := ?_) rfl rfl (fun _ hS => ?_) ?_; rotate_left; focus (go_simp; try with_reducible rfl))); simp only [Act.put, zp])
    refine wpOrd_nil ?_
    go_wp2_with fail
    have Hfl : Hid (L1.length + (frameB r).length ≤ 100000000) := hid (by rw [frameB_length]; omega)
    refine wp_region_ord (.f 0 (.f 1 (.f 2 (.f 3 (.k 4 (.a 5 (.a 6 (.a 7 (.f 8 (.f 9 (.a 10 .d)))))) 5 (.k 4 (.a 6 (.a 7 (.f 8 (.f 9 (.a 10 .d))))) 6 (.a 4 (.a 7 (.f 8 (.f 9 (.a 10 .d))))))))))) (Ext (X)) (by kernel_rfl) (by kernel_rfl) exI ?_
    repeat ((first | refine wpOrd_pass rfl rfl ?_ | (refine wpOrd_free (v := ?_) rfl rfl (fun _ hS => ?_) ?_; rotate_left; focus (obtain ⟨E9, d9, rfl⟩ := hS; go_simp; try with_reducible rfl))); simp only [Act.put, zp])
    refine wpOrd_fork ?_ ?_
    focus
     refine wpOrd_act rfl rfl (fun K hK => ?_)
     go_simp
     refine hK _ _ ⟨?_, ?_⟩
     · exact exI
     clear hK K
     try simp only [Act.put, zp]
     refine wpOrd_act rfl rfl (fun K hK => ?_)
     go_simp
     refine hK _ _ ⟨?_, ?_⟩
     · exact exI
     clear hK K
     try simp only [Act.put, zp]
     refine wpOrd_call rfl rfl rfl Tryz.call124 (fun R hR => ?_)
     go_simp
     refine (frame_any _ (by assumption) _).mono ?_
     rintro e w1 ⟨A201, c201, rfl, hb201, E201, d201, rfl⟩
     refine hR _ _ ⟨_, rfl, ?_, ?_⟩
     · exact exI
     clear hR R
     simp only [Act.put, zp]
     refine wpOrd_abyt rfl (((((X.alloc (.cells #[.slice Ax n0 n0, .int .i64 f0, .slice Ay n1 n1, .int .i64 f1, .slice Am nm cm, .int .i64 1, .int .i64 gen] 131)).alloc (.cells #[.int .i64 r.ao, .int .i64 r.sq, .int .i64 r.kind, .int .i64 r.ship, .int .i64 r.day, .int .i64 r.known, .int .i64 r.wo, .int .i64 r.ws, .int .i64 r.to, .int .i64 r.til, .string r.text] 46)).ext E (d + 1)).alloc (.cells #[.slice Ap2 (nm + 1) cp2] 34)).ext E2 d2) _ (by rfl) rfl rfl _ _ rfl (frameB r) rfl (by exact (by repeat (with_reducible first | exact Ext.refl _ | exact Ext.same _ _ _ _ | assumption | apply Ext.alloc | apply Ext.ext | apply Ext.drew))) (by exact OwnB.moved2 Hoy.out (by repeat (with_reducible first | exact Ext.refl _ | exact Ext.same _ _ _ _ | assumption | apply Ext.alloc | apply Ext.ext | apply Ext.drew)) (by simp) (by simp) (by simp)) rfl (by rw [frameB_length]) (by exact (by with_reducible repeat (first | assumption | apply Byt.ext | apply Byt.alloc | apply Byt.drew | (refine Byt.of_ext ?_ (by assumption))))) Hfl.out (fun v202 E202 d202 ho202 => ?_)
     obtain ⟨Aw, cw, rfl, hcw, -⟩ := ownsRow_slice ho202
     obtain ⟨nw, hnw⟩ : ∃ nw, (L1 ++ frameB r).length = nw := ⟨_, rfl⟩
     rw [hnw] at ho202 hcw ⊢
     have How := hid ho202
     have Hnw := hid hnw
     clear ho202 hnw
     refine ⟨?_, ?_⟩
     · exact exI
     try simp only [Act.put, zp]
     repeat ((first | refine wpOrd_pass rfl rfl ?_ | (refine wpOrd_free (v := ?_) rfl rfl (fun _ hS => ?_) ?_; rotate_left; focus (obtain ⟨E9, d9, rfl⟩ := hS; go_simp; try with_reducible rfl))); simp only [Act.put, zp])
     refine wpOrd_act rfl rfl (fun K hK => ?_)
     go_simp
     refine hK _ _ ⟨?_, ?_⟩
     · exact exI
     clear hK K
     try simp only [Act.put, zp]
     refine wpOrd_nil ?_
    rotate_right
    focus
     refine wpOrd_act rfl rfl (fun K hK => ?_)
     go_simp
     refine hK _ _ ⟨?_, ?_⟩
     · exact exI
     clear hK K
     try simp only [Act.put, zp]
     refine wpOrd_fork ?_ ?_
     focus
      refine wpOrd_act rfl rfl (fun K hK => ?_)
      go_simp
      refine hK _ _ ⟨?_, ?_⟩
      · exact exI
      clear hK K
      try simp only [Act.put, zp]
      refine wpOrd_call rfl rfl rfl Tryz.call124 (fun R hR => ?_)
      go_simp
      refine (frame_any _ (by assumption) _).mono ?_
      rintro e w1 ⟨A203, c203, rfl, hb203, E203, d203, rfl⟩
      refine hR _ _ ⟨_, rfl, ?_, ?_⟩
      · exact exI
      clear hR R
      simp only [Act.put, zp]
      refine wpOrd_abyt rfl (((((X.alloc (.cells #[.slice Ax n0 n0, .int .i64 f0, .slice Ay n1 n1, .int .i64 f1, .slice Am nm cm, .int .i64 1, .int .i64 gen] 131)).alloc (.cells #[.int .i64 r.ao, .int .i64 r.sq, .int .i64 r.kind, .int .i64 r.ship, .int .i64 r.day, .int .i64 r.known, .int .i64 r.wo, .int .i64 r.ws, .int .i64 r.to, .int .i64 r.til, .string r.text] 46)).ext E (d + 1)).alloc (.cells #[.slice Ap2 (nm + 1) cp2] 34)).ext E2 d2) _ (by rfl) rfl rfl _ _ rfl (frameB r) rfl (by exact (by repeat (with_reducible first | exact Ext.refl _ | exact Ext.same _ _ _ _ | assumption | apply Ext.alloc | apply Ext.ext | apply Ext.drew))) (by exact OwnB.moved2 Hoy.out (by repeat (with_reducible first | exact Ext.refl _ | exact Ext.same _ _ _ _ | assumption | apply Ext.alloc | apply Ext.ext | apply Ext.drew)) (by simp) (by simp) (by simp)) rfl (by rw [frameB_length]) (by exact (by with_reducible repeat (first | assumption | apply Byt.ext | apply Byt.alloc | apply Byt.drew | (refine Byt.of_ext ?_ (by assumption))))) Hfl.out (fun v204 E204 d204 ho204 => ?_)
      obtain ⟨Aw, cw, rfl, hcw, -⟩ := ownsRow_slice ho204
      obtain ⟨nw, hnw⟩ : ∃ nw, (L1 ++ frameB r).length = nw := ⟨_, rfl⟩
      rw [hnw] at ho204 hcw ⊢
      have How := hid ho204
      have Hnw := hid hnw
      clear ho204 hnw
      refine ⟨?_, ?_⟩
      · exact exI
      try simp only [Act.put, zp]
      repeat ((first | refine wpOrd_pass rfl rfl ?_ | (refine wpOrd_free (v := ?_) rfl rfl (fun _ hS => ?_) ?_; rotate_left; focus (obtain ⟨E9, d9, rfl⟩ := hS; go_simp; try with_reducible rfl))); simp only [Act.put, zp])
      refine wpOrd_act rfl rfl (fun K hK => ?_)
      go_simp
      refine hK _ _ ⟨?_, ?_⟩
      · exact exI
      clear hK K
      try simp only [Act.put, zp]
      refine wpOrd_nil ?_
     rotate_right
     focus
      refine wpOrd_call rfl rfl rfl Tryz.call124 (fun R hR => ?_)
      go_simp
      refine (frame_any _ (by assumption) _).mono ?_
      rintro e w1 ⟨A205, c205, rfl, hb205, E205, d205, rfl⟩
      refine hR _ _ ⟨_, rfl, ?_, ?_⟩
      · exact exI
      clear hR R
      simp only [Act.put, zp]
      refine wpOrd_act rfl rfl (fun K hK => ?_)
      go_simp
      refine hK _ _ ⟨?_, ?_⟩
      · exact exI
      clear hK K
      try simp only [Act.put, zp]
      refine wpOrd_abyt rfl (((((X.alloc (.cells #[.slice Ax n0 n0, .int .i64 f0, .slice Ay n1 n1, .int .i64 f1, .slice Am nm cm, .int .i64 1, .int .i64 gen] 131)).alloc (.cells #[.int .i64 r.ao, .int .i64 r.sq, .int .i64 r.kind, .int .i64 r.ship, .int .i64 r.day, .int .i64 r.known, .int .i64 r.wo, .int .i64 r.ws, .int .i64 r.to, .int .i64 r.til, .string r.text] 46)).ext E (d + 1)).alloc (.cells #[.slice Ap2 (nm + 1) cp2] 34)).ext E2 d2) _ (by rfl) rfl rfl _ _ rfl (frameB r) rfl (by exact (by repeat (with_reducible first | exact Ext.refl _ | exact Ext.same _ _ _ _ | assumption | apply Ext.alloc | apply Ext.ext | apply Ext.drew))) (by exact OwnB.moved2 Hoy.out (by repeat (with_reducible first | exact Ext.refl _ | exact Ext.same _ _ _ _ | assumption | apply Ext.alloc | apply Ext.ext | apply Ext.drew)) (by simp) (by simp) (by simp)) rfl (by rw [frameB_length]) (by exact (by with_reducible repeat (first | assumption | apply Byt.ext | apply Byt.alloc | apply Byt.drew | (refine Byt.of_ext ?_ (by assumption))))) Hfl.out (fun v206 E206 d206 ho206 => ?_)
      obtain ⟨Aw, cw, rfl, hcw, -⟩ := ownsRow_slice ho206
      obtain ⟨nw, hnw⟩ : ∃ nw, (L1 ++ frameB r).length = nw := ⟨_, rfl⟩
      rw [hnw] at ho206 hcw ⊢
      have How := hid ho206
      have Hnw := hid hnw
      clear ho206 hnw
      refine ⟨?_, ?_⟩
      · exact exI
      try simp only [Act.put, zp]
      repeat ((first | refine wpOrd_pass rfl rfl ?_ | (refine wpOrd_free (v := ?_) rfl rfl (fun _ hS => ?_) ?_; rotate_left; focus (obtain ⟨E9, d9, rfl⟩ := hS; go_simp; try with_reducible rfl))); simp only [Act.put, zp])
      refine wpOrd_act rfl rfl (fun K hK => ?_)
      go_simp
      refine hK _ _ ⟨?_, ?_⟩
      · exact exI
      clear hK K
      try simp only [Act.put, zp]
      refine wpOrd_nil ?_
    all_goals
      go_wp2_with fail
      go_ret
      refine ⟨Ax, n0, n0, Aw, nw, cw, Ap2, nm + 1, cp2, ret_val rfl, exI, hid ⟨hL0.symm, Hnw.out.symm, Nat.le_refl _, hcw, by omega, OwnB.cap How.out⟩, ?_, ?_, hid Hng.out, ?_⟩
      · exact .inl Hne.out
      · exact .inr (OwnB.moved2 How.out (by repeat (with_reducible first | exact Ext.refl _ | exact Ext.same _ _ _ _ | assumption | apply Ext.alloc | apply Ext.ext | apply Ext.drew)) (by simp) (by simp) (by simp; omega))
      · exact OwnR.moved2 Hv.out (by repeat (with_reducible first | exact Ext.refl _ | exact Ext.same _ _ _ _ | assumption | apply Ext.alloc | apply Ext.ext | apply Ext.drew)) (by simp) (by simp) (by simp; omega)
  · have hng : np1 = nm + 1 := by have := Hid.out hnp1; have h2 := Hlen.out; omega
    have Hng := hid hnp1.out
    have Hv := hid hvp1
    clear hnp1 hvp1
    subst hng
    go_wp2_with fail
    refine (driveCopy_any _ _ _ _ _ _ _ _ L0 L1 hL0 hL1 (by omega) (by omega) _ (bytI ‹_›) (bytI ‹_›)).mono ?_
    rintro e w1 ⟨Ax, Ay, rfl, hox, hoy, Ec, dc, rfl⟩
    have Hox := hid hox
    have Hoy := hid hoy
    clear hox hoy
    go_wp2_with fail
    refine wp_region_ord_same (.f 0 (.f 1 (.f 2 (.f 3 (.f 4 (.f 5 (.f 6 (.f 7 (.f 8 (.f 9 (.f 10 .d))))))))))) (by kernel_rfl) (by kernel_rfl) ?_
    repeat ((first | refine wpOrd_pass rfl rfl ?_ | (refine wpOrd_free (v := ?_) rfl rfl (fun _ hS => ?_) ?_; rotate_left; focus (go_simp; try with_reducible rfl))); simp only [Act.put, zp])
    refine wpOrd_nil ?_
    have hcast : (nm : Int) < ((nm + 1 : Nat) : Int) := by omega
    go_wp2_with fail
    refine wp_region_ord_same (.f 0 (.f 1 (.f 2 (.f 3 (.f 4 (.f 5 (.f 6 (.f 7 (.f 8 (.f 9 (.f 10 .d))))))))))) (by kernel_rfl) (by kernel_rfl) ?_
    repeat ((first | refine wpOrd_pass rfl rfl ?_ | (refine wpOrd_free (v := ?_) rfl rfl (fun _ hS => ?_) ?_; rotate_left; focus (go_simp; try with_reducible rfl))); simp only [Act.put, zp])
    refine wpOrd_nil ?_
    go_wp2_with fail
    have Hfl : Hid (L1.length + (frameB r).length ≤ 100000000) := hid (by rw [frameB_length]; omega)
    refine wp_region_ord (.f 0 (.f 1 (.f 2 (.f 3 (.k 4 (.a 5 (.a 6 (.a 7 (.f 8 (.f 9 (.a 10 .d)))))) 5 (.k 4 (.a 6 (.a 7 (.f 8 (.f 9 (.a 10 .d))))) 6 (.a 4 (.a 7 (.f 8 (.f 9 (.a 10 .d))))))))))) (Ext (X)) (by kernel_rfl) (by kernel_rfl) exI ?_
    repeat ((first | refine wpOrd_pass rfl rfl ?_ | (refine wpOrd_free (v := ?_) rfl rfl (fun _ hS => ?_) ?_; rotate_left; focus (obtain ⟨E9, d9, rfl⟩ := hS; go_simp; try with_reducible rfl))); simp only [Act.put, zp])
    refine wpOrd_fork ?_ ?_
    focus
     refine wpOrd_act rfl rfl (fun K hK => ?_)
     go_simp
     refine hK _ _ ⟨?_, ?_⟩
     · exact exI
     clear hK K
     try simp only [Act.put, zp]
     refine wpOrd_act rfl rfl (fun K hK => ?_)
     go_simp
     refine hK _ _ ⟨?_, ?_⟩
     · exact exI
     clear hK K
     try simp only [Act.put, zp]
     refine wpOrd_call rfl rfl rfl Tryz.call124 (fun R hR => ?_)
     go_simp
     refine (frame_any _ (by assumption) _).mono ?_
     rintro e w1 ⟨A201, c201, rfl, hb201, E201, d201, rfl⟩
     refine hR _ _ ⟨_, rfl, ?_, ?_⟩
     · exact exI
     clear hR R
     simp only [Act.put, zp]
     refine wpOrd_abyt rfl (((((X.alloc (.cells #[.slice Ax n0 n0, .int .i64 f0, .slice Ay n1 n1, .int .i64 f1, .slice Am nm cm, .int .i64 1, .int .i64 gen] 131)).alloc (.cells #[.int .i64 r.ao, .int .i64 r.sq, .int .i64 r.kind, .int .i64 r.ship, .int .i64 r.day, .int .i64 r.known, .int .i64 r.wo, .int .i64 r.ws, .int .i64 r.to, .int .i64 r.til, .string r.text] 46)).ext E (d + 1)).ext E1 d1).alloc (.cells #[.slice Ap1 (nm + 1) cp1] 34)) _ (by rfl) rfl rfl _ _ rfl (frameB r) rfl (by exact (by repeat (with_reducible first | exact Ext.refl _ | exact Ext.same _ _ _ _ | assumption | apply Ext.alloc | apply Ext.ext | apply Ext.drew))) (by exact OwnB.moved2 Hoy.out (by repeat (with_reducible first | exact Ext.refl _ | exact Ext.same _ _ _ _ | assumption | apply Ext.alloc | apply Ext.ext | apply Ext.drew)) (by simp) (by simp) (by simp)) rfl (by rw [frameB_length]) (by exact (by with_reducible repeat (first | assumption | apply Byt.ext | apply Byt.alloc | apply Byt.drew | (refine Byt.of_ext ?_ (by assumption))))) Hfl.out (fun v202 E202 d202 ho202 => ?_)
     obtain ⟨Aw, cw, rfl, hcw, -⟩ := ownsRow_slice ho202
     obtain ⟨nw, hnw⟩ : ∃ nw, (L1 ++ frameB r).length = nw := ⟨_, rfl⟩
     rw [hnw] at ho202 hcw ⊢
     have How := hid ho202
     have Hnw := hid hnw
     clear ho202 hnw
     refine ⟨?_, ?_⟩
     · exact exI
     try simp only [Act.put, zp]
     repeat ((first | refine wpOrd_pass rfl rfl ?_ | (refine wpOrd_free (v := ?_) rfl rfl (fun _ hS => ?_) ?_; rotate_left; focus (obtain ⟨E9, d9, rfl⟩ := hS; go_simp; try with_reducible rfl))); simp only [Act.put, zp])
     refine wpOrd_act rfl rfl (fun K hK => ?_)
     go_simp
     refine hK _ _ ⟨?_, ?_⟩
     · exact exI
     clear hK K
     try simp only [Act.put, zp]
     refine wpOrd_nil ?_
    rotate_right
    focus
     refine wpOrd_act rfl rfl (fun K hK => ?_)
     go_simp
     refine hK _ _ ⟨?_, ?_⟩
     · exact exI
     clear hK K
     try simp only [Act.put, zp]
     refine wpOrd_fork ?_ ?_
     focus
      refine wpOrd_act rfl rfl (fun K hK => ?_)
      go_simp
      refine hK _ _ ⟨?_, ?_⟩
      · exact exI
      clear hK K
      try simp only [Act.put, zp]
      refine wpOrd_call rfl rfl rfl Tryz.call124 (fun R hR => ?_)
      go_simp
      refine (frame_any _ (by assumption) _).mono ?_
      rintro e w1 ⟨A203, c203, rfl, hb203, E203, d203, rfl⟩
      refine hR _ _ ⟨_, rfl, ?_, ?_⟩
      · exact exI
      clear hR R
      simp only [Act.put, zp]
      refine wpOrd_abyt rfl (((((X.alloc (.cells #[.slice Ax n0 n0, .int .i64 f0, .slice Ay n1 n1, .int .i64 f1, .slice Am nm cm, .int .i64 1, .int .i64 gen] 131)).alloc (.cells #[.int .i64 r.ao, .int .i64 r.sq, .int .i64 r.kind, .int .i64 r.ship, .int .i64 r.day, .int .i64 r.known, .int .i64 r.wo, .int .i64 r.ws, .int .i64 r.to, .int .i64 r.til, .string r.text] 46)).ext E (d + 1)).ext E1 d1).alloc (.cells #[.slice Ap1 (nm + 1) cp1] 34)) _ (by rfl) rfl rfl _ _ rfl (frameB r) rfl (by exact (by repeat (with_reducible first | exact Ext.refl _ | exact Ext.same _ _ _ _ | assumption | apply Ext.alloc | apply Ext.ext | apply Ext.drew))) (by exact OwnB.moved2 Hoy.out (by repeat (with_reducible first | exact Ext.refl _ | exact Ext.same _ _ _ _ | assumption | apply Ext.alloc | apply Ext.ext | apply Ext.drew)) (by simp) (by simp) (by simp)) rfl (by rw [frameB_length]) (by exact (by with_reducible repeat (first | assumption | apply Byt.ext | apply Byt.alloc | apply Byt.drew | (refine Byt.of_ext ?_ (by assumption))))) Hfl.out (fun v204 E204 d204 ho204 => ?_)
      obtain ⟨Aw, cw, rfl, hcw, -⟩ := ownsRow_slice ho204
      obtain ⟨nw, hnw⟩ : ∃ nw, (L1 ++ frameB r).length = nw := ⟨_, rfl⟩
      rw [hnw] at ho204 hcw ⊢
      have How := hid ho204
      have Hnw := hid hnw
      clear ho204 hnw
      refine ⟨?_, ?_⟩
      · exact exI
      try simp only [Act.put, zp]
      repeat ((first | refine wpOrd_pass rfl rfl ?_ | (refine wpOrd_free (v := ?_) rfl rfl (fun _ hS => ?_) ?_; rotate_left; focus (obtain ⟨E9, d9, rfl⟩ := hS; go_simp; try with_reducible rfl))); simp only [Act.put, zp])
      refine wpOrd_act rfl rfl (fun K hK => ?_)
      go_simp
      refine hK _ _ ⟨?_, ?_⟩
      · exact exI
      clear hK K
      try simp only [Act.put, zp]
      refine wpOrd_nil ?_
     rotate_right
     focus
      refine wpOrd_call rfl rfl rfl Tryz.call124 (fun R hR => ?_)
      go_simp
      refine (frame_any _ (by assumption) _).mono ?_
      rintro e w1 ⟨A205, c205, rfl, hb205, E205, d205, rfl⟩
      refine hR _ _ ⟨_, rfl, ?_, ?_⟩
      · exact exI
      clear hR R
      simp only [Act.put, zp]
      refine wpOrd_act rfl rfl (fun K hK => ?_)
      go_simp
      refine hK _ _ ⟨?_, ?_⟩
      · exact exI
      clear hK K
      try simp only [Act.put, zp]
      refine wpOrd_abyt rfl (((((X.alloc (.cells #[.slice Ax n0 n0, .int .i64 f0, .slice Ay n1 n1, .int .i64 f1, .slice Am nm cm, .int .i64 1, .int .i64 gen] 131)).alloc (.cells #[.int .i64 r.ao, .int .i64 r.sq, .int .i64 r.kind, .int .i64 r.ship, .int .i64 r.day, .int .i64 r.known, .int .i64 r.wo, .int .i64 r.ws, .int .i64 r.to, .int .i64 r.til, .string r.text] 46)).ext E (d + 1)).ext E1 d1).alloc (.cells #[.slice Ap1 (nm + 1) cp1] 34)) _ (by rfl) rfl rfl _ _ rfl (frameB r) rfl (by exact (by repeat (with_reducible first | exact Ext.refl _ | exact Ext.same _ _ _ _ | assumption | apply Ext.alloc | apply Ext.ext | apply Ext.drew))) (by exact OwnB.moved2 Hoy.out (by repeat (with_reducible first | exact Ext.refl _ | exact Ext.same _ _ _ _ | assumption | apply Ext.alloc | apply Ext.ext | apply Ext.drew)) (by simp) (by simp) (by simp)) rfl (by rw [frameB_length]) (by exact (by with_reducible repeat (first | assumption | apply Byt.ext | apply Byt.alloc | apply Byt.drew | (refine Byt.of_ext ?_ (by assumption))))) Hfl.out (fun v206 E206 d206 ho206 => ?_)
      obtain ⟨Aw, cw, rfl, hcw, -⟩ := ownsRow_slice ho206
      obtain ⟨nw, hnw⟩ : ∃ nw, (L1 ++ frameB r).length = nw := ⟨_, rfl⟩
      rw [hnw] at ho206 hcw ⊢
      have How := hid ho206
      have Hnw := hid hnw
      clear ho206 hnw
      refine ⟨?_, ?_⟩
      · exact exI
      try simp only [Act.put, zp]
      repeat ((first | refine wpOrd_pass rfl rfl ?_ | (refine wpOrd_free (v := ?_) rfl rfl (fun _ hS => ?_) ?_; rotate_left; focus (obtain ⟨E9, d9, rfl⟩ := hS; go_simp; try with_reducible rfl))); simp only [Act.put, zp])
      refine wpOrd_act rfl rfl (fun K hK => ?_)
      go_simp
      refine hK _ _ ⟨?_, ?_⟩
      · exact exI
      clear hK K
      try simp only [Act.put, zp]
      refine wpOrd_nil ?_
    all_goals
      go_wp2_with fail
      go_ret
      refine ⟨Ax, n0, n0, Aw, nw, cw, Ap1, nm + 1, cp1, ret_val rfl, exI, hid ⟨hL0.symm, Hnw.out.symm, Nat.le_refl _, hcw, by omega, OwnB.cap How.out⟩, ?_, ?_, hid Hng.out, ?_⟩
      · exact .inl Hne.out
      · exact .inr (OwnB.moved2 How.out (by repeat (with_reducible first | exact Ext.refl _ | exact Ext.same _ _ _ _ | assumption | apply Ext.alloc | apply Ext.ext | apply Ext.drew)) (by simp) (by simp) (by simp; omega))
      · exact OwnR.moved2 Hv.out (by repeat (with_reducible first | exact Ext.refl _ | exact Ext.same _ _ _ _ | assumption | apply Ext.alloc | apply Ext.ext | apply Ext.drew)) (by simp) (by simp) (by simp; omega)
end Go.Proofs.YtekjdeibnfaehaaGreat
