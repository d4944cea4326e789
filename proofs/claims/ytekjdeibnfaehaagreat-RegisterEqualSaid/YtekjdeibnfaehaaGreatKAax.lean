/- Texts of a proof. -/
import Derived.Test.YtekjdeibnfaehaaGreatKAav
import Derived.Test.YtekjdeibnfaehaaGreatKAaw
/- Offices: learn. -/
set_option linter.unusedSimpArgs false
set_option linter.unusedVariables false
namespace Go.Proofs.YtekjdeibnfaehaaGreat
open Go Go.RowKit

section
variable {base b i k n : Nat} {w w' : World} {row : Option Nat} {A : Option Addr} {xs : List Value} {O : OffD} {L : OffL}
theorem learnL_eq {l : List Plc} {o s : Int} (h : knowsB l o s = false) : learnL l o s = l.take (posP l o s) ++ ⟨o, s⟩ :: l.drop (posP l o s) := by rw [learnL, if_neg (by rw [h]; simp)]
theorem learnL_same {l : List Plc} {o s : Int} (h : knowsB l o s = true) : learnL l o s = l := by rw [learnL, if_pos h]
theorem posP_le (l : List Plc) (o s : Int) : posP l o s ≤ l.length := List.countP_le_length
theorem upd_self {α : Type} (K : Nat → α) (k : Nat) : upd K k (K k) = K := by
  funext i
  unfold upd
  split
  · rename_i h; rw [h]
  · rfl
/-- One list is written, the rest stands. -/
theorem OffU.learn (h : OffU base w O L) {m : Nat} (hm : m < 9) {t' : SlT} {l' : List Plc} (hg : w.grownBy w' ((L.k m).A.map (·.block))) (ho : OwnP base w' (.slice t'.A t'.n t'.c) l') : OffA base w' ⟨O.me, O.d, O.m, upd O.kn m l'⟩ ⟨L.A0, L.n0, L.c0, L.A1, L.n1, L.c1, L.Am, L.nm, L.cm, upd L.k m t'⟩ := by
  have key : ∀ {A : Option Addr} {n kk : Nat} {xs : List Value}, (∀ a, (L.k m).A = some a → Off A n a.block) → SlA base kk w A n xs → SlA base kk w' A n xs := by
    intro A n kk xs hoff hs
    refine hs.grown hg fun hn a ha he => ?_
    cases hA : (L.k m).A with
    | none => rw [hA] at he; cases he
    | some g => rw [hA] at he; exact hoff g hA hn a ha (Option.some.inj he)
  refine ⟨⟨h.a.d.l0, h.a.d.l1, h.a.d.h0, h.a.d.h1, h.a.d.k0, h.a.d.k1, key (fun a ha => by rw [h.a.d.l0]; exact (h.s m hm a ha).1) h.a.d.b0, key (fun a ha => by rw [h.a.d.l1]; exact (h.s m hm a ha).2.1) h.a.d.b1⟩, h.a.l, h.a.h, key (fun a ha => by rw [h.a.l]; exact (h.s m hm a ha).2.2) h.a.r, fun i hi => ?_⟩
  by_cases he : i = m
  · subst he
    show PlcA base w' (upd L.k i t' i) (upd O.kn i l' i)
    rw [upd_at, upd_at]
    exact ho.plcA
  · show PlcA base w' (upd L.k m t' i) (upd O.kn m l' i)
    rw [upd_ne _ _ he, upd_ne _ _ he]
    refine (OwnP.grown (row := (L.k m).A.map (·.block)) (h.k.own i hi) hg fun a n c hv he2 => ?_).plcA
    cases hA : (L.k m).A with
    | none => rw [hA] at he2; cases he2
    | some g =>
      rw [hA] at he2
      simp only [Value.slice.injEq] at hv
      exact h.k.sep i hi m hm he a g hv.1 hA (Option.some.inj he2)
end
/-- The world as it was made of its first blocks. -/
theorem trunc {w : World} {N : Nat} (h : N ≤ w.heap.size) : ∃ X, X.heap.size = N ∧ Ext X w := by
  refine ⟨{ w with heap := w.heap.extract 0 N }, by simp; omega, w.heap.extract N w.heap.size, w.drawn, ?_⟩
  unfold World.ext
  cases w
  simp only at h
  simp [Nat.max_eq_right h]
theorem gb_of_ext {w w' : World} (h : Ext w w') (row : Option Nat) : w.grownBy w' row := by
  obtain ⟨h1, h2, h3, h4, h5⟩ := h.below
  exact ⟨h1, h2, h3, h4, fun k hk _ => h5 k hk⟩
theorem gb_trans {a b c : World} {row : Option Nat} (h : a.grownBy b row) (k : b.grownBy c row) : a.grownBy c row :=
  ⟨k.os.trans h.os, k.tape.trans h.tape, k.output.trans h.output, Nat.le_trans h.size k.size, fun i hi hr => (k.block i (Nat.lt_of_lt_of_le hi h.size) hr).trans (h.block i hi hr)⟩
/-- The rows of bytes and records are not in a block. -/
def OffN (B : Nat) (L : OffL) : Prop := Off L.A0 L.n0 B ∧ Off L.A1 L.n1 B ∧ Off L.Am L.nm B
theorem ownP_ne {base B : Nat} {w : World} {A : Option Addr} {n c : Nat} {l : List Plc} {cs : List Value} {t : TypeId} (h : OwnP base w (.slice A n c) l) (hb : BoxC w B cs t) (ht : t ≠ 44) : ∀ a, A = some a → a.block ≠ B := by
  intro a ha he
  rcases h.2 with ⟨hv, _⟩ | ⟨g, cap, cur, hv, hg, hh, _⟩
  · cases hv; cases ha
  · cases hv
    cases ha
    simp only at he
    subst he
    rw [show w.heap[g]? = some (.cells cs.toArray t (0, 0)) from hb] at hh
    simp only [Option.some.injEq, Obj.cells.injEq] at hh
    exact ht hh.2.1
theorem OffA.setN {base B i : Nat} {w : World} {O : OffD} {L : OffL} {v : Value} (h : OffA base w O L) (hn : OffN B L) (hk : ∀ j, j < 9 → Off (L.k j).A (L.k j).n B) : OffA base (w.setCell ⟨B, i, none⟩ v) O L := by
  have key : ∀ {A : Option Addr} {n kk : Nat} {xs : List Value}, Off A n B → SlA base kk w A n xs → SlA base kk (w.setCell ⟨B, i, none⟩ v) A n xs := fun hoff hs => hs.grown (gb_setCell w B i v) fun hn a ha he => hoff hn a ha (Option.some.inj he)
  refine ⟨⟨h.d.l0, h.d.l1, h.d.h0, h.d.h1, h.d.k0, h.d.k1, key (by rw [h.d.l0]; exact hn.1) h.d.b0, key (by rw [h.d.l1]; exact hn.2.1) h.d.b1⟩, h.l, h.h, key (by rw [h.l]; exact hn.2.2) h.r, fun j hj => ?_⟩
  obtain ⟨p1, p2, p3, p4⟩ := h.k j hj
  exact ⟨p1, p2, p3, key (hk j hj) p4⟩
theorem learn_keep {O : OffD} {L : OffL} {base B m : Nat} {w W w1 : World} (hm : m < 9) (H : OffU base w O L) {cs : List Value} {t : TypeId} (hb : BoxC w B cs t) (hg : W.grownBy w1 ((L.k m).A.map (·.block))) (hw : Ext w W) (ht : t ≠ 44 := by decide) : BoxC w1 B cs t := by
  have hne := ownP_ne (H.k.own m hm) hb ht
  refine (hg.block B (hb.of_ext hw).lt fun he => ?_).trans (hb.of_ext hw)
  cases hA : (L.k m).A with
  | none => rw [hA] at he; cases he
  | some a => rw [hA] at he; exact hne a hA (Option.some.inj he).symm
theorem learn_fin {O : OffD} {L : OffL} {base B m : Nat} {X w W w1 : World} {l' : List Plc} {Ai : Option Addr} {ni ci : Nat} (hm : m < 9) (hbb : base ≤ B) (hX : X.heap.size ≤ B)
    (H : OffU base w O L) (Hb : BoxC w B (offC O L) 76) (Hn : OffN B L) (hx1 : Ext X w1) (hg : W.grownBy w1 ((L.k m).A.map (·.block))) (ho : OwnP base w1 (.slice Ai ni ci) l') (hw : Ext w W) :
    ∃ L', BoxC (w1.setCell ⟨B, 8 + m, none⟩ (.slice Ai ni ci)) B (offC ⟨O.me, O.d, O.m, upd O.kn m l'⟩ L') 76 ∧ OffA base (w1.setCell ⟨B, 8 + m, none⟩ (.slice Ai ni ci)) ⟨O.me, O.d, O.m, upd O.kn m l'⟩ L' ∧
      Ext X (w1.setCell ⟨B, 8 + m, none⟩ (.slice Ai ni ci)) ∧ (∀ g cs t, g ≠ B → t ≠ 44 → BoxC w g cs t → BoxC (w1.setCell ⟨B, 8 + m, none⟩ (.slice Ai ni ci)) g cs t) := by
  have keep : ∀ g cs t, t ≠ 44 → BoxC w g cs t → BoxC w1 g cs t := fun g cs t ht hb => by
    have hne := ownP_ne (H.k.own m hm) hb ht
    refine (hg.block g (hb.of_ext hw).lt fun he => ?_).trans (hb.of_ext hw)
    cases hA : (L.k m).A with
    | none => rw [hA] at he; cases he
    | some a => rw [hA] at he; exact hne a hA (Option.some.inj he).symm
  have hgw := gb_trans (gb_of_ext hw _) hg
  have hb1 := keep B _ _ (by decide) Hb
  have hA := H.learn hm (t' := ⟨Ai, ni, ci⟩) hgw ho
  refine ⟨_, ?_, hA.setN Hn (fun j hj => ?_), Ext.box hx1 _ _ hX, fun g cs t hgB ht hb => BoxC.other (keep g cs t ht hb) _ _ (fun e => hgB e.symm)⟩
  · have h2 := hb1.set (8 + m) (.slice Ai ni ci)
    rw [set_kn _ _ _ _ _ _ _ _ L.k m ⟨Ai, ni, ci⟩ hm] at h2
    exact h2
  · show Off (upd L.k m ⟨Ai, ni, ci⟩ j).A (upd L.k m ⟨Ai, ni, ci⟩ j).n B
    by_cases he : j = m
    · subst he
      rw [upd_at]
      exact fun _ a ha => ownP_ne ho hb1 (by decide) a ha
    · rw [upd_ne _ _ he]
      exact fun _ a ha => ownP_ne (H.k.own j hj) Hb (by decide) a ha
set_option maxRecDepth 100000 in
set_option maxHeartbeats 16000000 in
theorem learn_any (O : OffD) (L : OffL) (base B : Nat) (m : Nat) (o s : Int) (X w : World) (hm : m < 9) (hb : BoxC w B (offC O L) 76) (h : OffU base w O L) (hoff : OffN B L) (hbb : base ≤ B) (hkb : knB (O.kn m) = true) (hx : Ext X w) (hX : X.heap.size ≤ base) :
    Calls Tryz.prog 114 #[.pointer (some ⟨B, 0, none⟩), .int .i64 m, .agg #[.int .i64 o, .int .i64 s]] w fun e w' => ∃ L', e = .returned (.tuple #[]) ∧
      BoxC w' B (offC ⟨O.me, O.d, O.m, upd O.kn m (learnL (O.kn m) o s)⟩ L') 76 ∧ OffA base w' ⟨O.me, O.d, O.m, upd O.kn m (learnL (O.kn m) o s)⟩ L' ∧ Ext X w' ∧ (∀ g cs t, g ≠ B → t ≠ 44 → BoxC w g cs t → BoxC w' g cs t) := by
  obtain ⟨X', hX', hxx⟩ := trunc (w := w) (N := base) (by have := hb.lt; omega)
  have hxX : Ext X X' := by
    obtain ⟨h1, h2, h3, h4, h5⟩ := hx.below
    obtain ⟨g1, g2, g3, g4, g5⟩ := hxx.below
    exact Ext.of_below ⟨g1.symm.trans h1, g2.symm.trans h2, g3.symm.trans h3, by omega, fun k hk => (g5 k (by omega)).symm.trans (h5 k hk)⟩
  have Hx := hid hxX
  have Hxw := hid hx
  have hlen := knB_len hkb
  have hso := (knB_iff.1 hkb).2
  have ck0 := hb.cell (i := 8 + m) (get_kn _ _ _ _ _ _ _ _ L.k m hm)
  have hB := hb.lt
  have hmi : (m : Int) < 9 := by omega
  have H := hid h
  have Hb := hid hb
  obtain ⟨hn, hnc, hcm, hsl⟩ := (h.a.k m hm).read
  clear h hb hx hxX
  cases hk : knowsB (O.kn m) o s with
  | true =>
    rw [learnL_same hk, upd_self]
    go_enter Tryz.func114, Tryz.ntmps114
    go_wp2_with fail
    refine wp_region_ord (.f 0 (.f 1 (.f 2 (.f 3 (.f 4 (.f 5 (.f 6 (.a 7 (.f 8 (.f 9 (.f 10 (.f 11 (.f 12 .d))))))))))))) (Ext (w.alloc (.cells #[.int .i64 o, .int .i64 s] 44))) (by kernel_rfl) (by kernel_rfl) exI ?_
    repeat ((first | refine wpOrd_pass rfl rfl ?_ | (refine wpOrd_free (v := ?_) rfl rfl (fun _ hS => ?_) ?_; rotate_left; focus (obtain ⟨E9, d9, rfl⟩ := hS; go_simp; try with_reducible rfl))); simp only [Act.put, zp])
    refine wpOrd_call rfl rfl rfl Tryz.call111 (fun R hR => ?_)
    go_simp
    refine (knows_any _ _ _ (O.kn m) o s hn (by omega) hso _ (hsl.of_ext exI)).mono ?_
    rintro e w1 ⟨rfl, E201, d201, rfl⟩
    refine hR _ _ ⟨_, rfl, ?_, ?_⟩
    · exact exI
    clear hR R
    simp only [Act.put, zp]
    repeat ((first | refine wpOrd_pass rfl rfl ?_ | (refine wpOrd_free (v := ?_) rfl rfl (fun _ hS => ?_) ?_; rotate_left; focus (obtain ⟨E9, d9, rfl⟩ := hS; go_simp; try with_reducible rfl))); simp only [Act.put, zp])
    refine wpOrd_nil ?_
    go_wp2_with fail
    have hw : Ext w ((w.alloc (.cells #[.int .i64 o, .int .i64 s] 44)).drew.ext E201 d201) := exI
    refine bodyPost_end (results_none rfl _ _ _) rfl ?_
    exact ⟨L, rfl, Hb.out.of_ext hw, H.out.a.of_ext hw, Hxw.out.trans hw, fun g cs t _ _ hb => hb.of_ext hw⟩
  | false =>
    have hown := hid (H.out.k.own m hm)
    rw [learnL_eq hk]
    go_enter Tryz.func114, Tryz.ntmps114
    go_wp2_with fail
    refine wp_region_ord (.f 0 (.f 1 (.f 2 (.f 3 (.f 4 (.f 5 (.f 6 (.a 7 (.f 8 (.f 9 (.f 10 (.f 11 (.f 12 .d))))))))))))) (Ext (w.alloc (.cells #[.int .i64 o, .int .i64 s] 44))) (by kernel_rfl) (by kernel_rfl) exI ?_
    repeat ((first | refine wpOrd_pass rfl rfl ?_ | (refine wpOrd_free (v := ?_) rfl rfl (fun _ hS => ?_) ?_; rotate_left; focus (obtain ⟨E9, d9, rfl⟩ := hS; go_simp; try with_reducible rfl))); simp only [Act.put, zp])
    refine wpOrd_call rfl rfl rfl Tryz.call111 (fun R hR => ?_)
    go_simp
    refine (knows_any _ _ _ (O.kn m) o s hn (by omega) hso _ (hsl.of_ext exI)).mono ?_
    rintro e w1 ⟨rfl, E201, d201, rfl⟩
    refine hR _ _ ⟨_, rfl, ?_, ?_⟩
    · exact exI
    clear hR R
    simp only [Act.put, zp]
    repeat ((first | refine wpOrd_pass rfl rfl ?_ | (refine wpOrd_free (v := ?_) rfl rfl (fun _ hS => ?_) ?_; rotate_left; focus (obtain ⟨E9, d9, rfl⟩ := hS; go_simp; try with_reducible rfl))); simp only [Act.put, zp])
    refine wpOrd_nil ?_
    go_wp2_with fail
    have hw : Ext w ((w.alloc (.cells #[.int .i64 o, .int .i64 s] 44)).drew.ext E201 d201) := (by repeat (with_reducible first | exact Ext.refl _ | exact Ext.same _ _ _ _ | assumption | apply Ext.alloc | apply Ext.ext | apply Ext.drew))
    obtain ⟨W1, hW1⟩ : ∃ W1, (w.alloc (.cells #[.int .i64 o, .int .i64 s] 44)).drew.ext E201 d201 = W1 := ⟨_, rfl⟩
    simp only [hW1] at hw ⊢
    have ckW : W1.cell? ⟨B, 8 + m, none⟩ = some (.slice (L.k m).A (L.k m).n (L.k m).c) := (Hb.out.of_ext hw).cell (i := 8 + m) (get_kn _ _ _ _ _ _ _ _ L.k m hm)
    have hBW : B < W1.heap.size := (Hb.out.of_ext hw).lt
    have hpb : BoxC W1 w.heap.size [.int .i64 o, .int .i64 s] 44 := by rw [← hW1]; exact BoxC.of_ext (BoxC.drew (BoxC.new _ _ _)) ⟨_, _, rfl⟩
    have p0 := hpb.cell (i := 0) rfl
    have p1 := hpb.cell (i := 1) rfl
    have pl := hpb.lt
    have hxW : Ext X' W1 := hxx.trans hw
    have hownW := hid (hown.out.of_ext hw)
    clear hW1 hpb ck0 hB hsl
    have hXB : X'.heap.size ≤ B := by omega
    refine wp_region_ord (.f 0 (.f 1 (.f 2 (.f 3 (.f 4 (.f 5 (.f 6 (.f 8 (.f 12 (.f 13 (.k 7 (.a 9 (.a 10 (.a 11 (.f 14 (.a 15 .d))))) 9 (.k 7 (.a 10 (.a 11 (.f 14 (.a 15 .d)))) 10 (.a 7 (.a 11 (.f 14 (.a 15 .d)))))))))))))))) (Ext (X')) (by kernel_rfl) (by kernel_rfl) (by repeat (with_reducible first | exact Ext.refl _ | exact Ext.same _ _ _ _ | assumption | apply Ext.alloc | apply Ext.ext | apply Ext.drew)) ?_
    repeat ((first | refine wpOrd_pass rfl rfl ?_ | (refine wpOrd_free (v := ?_) rfl rfl (fun _ hS => ?_) ?_; rotate_left; focus (obtain ⟨E9, d9, rfl⟩ := hS; go_simp; try with_reducible rfl))); simp only [Act.put, zp])
    refine wpOrd_fork ?_ ?_
    focus
     refine wpOrd_act rfl rfl (fun K hK => ?_)
     go_simp
     refine hK _ _ ⟨?_, ?_⟩
     · exact (by repeat (with_reducible first | exact Ext.refl _ | exact Ext.same _ _ _ _ | assumption | apply Ext.alloc | apply Ext.ext | apply Ext.drew))
     clear hK K
     try simp only [Act.put, zp]
     refine wpOrd_act rfl rfl (fun K hK => ?_)
     go_simp
     refine hK _ _ ⟨?_, ?_⟩
     · exact (by repeat (with_reducible first | exact Ext.refl _ | exact Ext.same _ _ _ _ | assumption | apply Ext.alloc | apply Ext.ext | apply Ext.drew))
     clear hK K
     try simp only [Act.put, zp]
     refine wpOrd_act rfl rfl (fun K hK => ?_)
     go_simp
     refine hK _ _ ⟨?_, ?_⟩
     · exact (by repeat (with_reducible first | exact Ext.refl _ | exact Ext.same _ _ _ _ | assumption | apply Ext.alloc | apply Ext.ext | apply Ext.drew))
     clear hK K
     try simp only [Act.put, zp]
     refine wpOrd_call rfl rfl rfl Tryz.call150 (fun R hR => ?_)
     go_simp
     refine (InsertP_any X' (L.k m).A (L.k m).n (L.k m).c _ _ (posP (O.kn m) o s) (O.kn m) ⟨o, s⟩ hn.symm (by omega) (posP_le _ _ _) _ (by rw [hX']; exact hownW.out.of_ext exI) (by repeat (with_reducible first | exact Ext.refl _ | exact Ext.same _ _ _ _ | assumption | apply Ext.alloc | apply Ext.ext | apply Ext.drew)) ⟨BoxC.drew (BoxC.new_at _ _ (by (try simp only [zs]); (try rfl); (try omega)))⟩ (fun a ha => by have := (hownW.out.lies a ha).2; (try simp only [zs] at this ⊢); omega)).mono ?_
     rintro e w1 ⟨Ai, ni, ci, rfl, hoi, hxi, hgi⟩
     have hbi := learn_keep (m := m) hm H.out Hb.out hgi (hw.trans (by repeat (first | (with_reducible first | exact Ext.refl _ | exact Ext.same _ _ _ _ | assumption | apply Ext.alloc | apply Ext.ext | apply Ext.drew) | (with_reducible refine Ext.setCell ?_ _ _ ?_; rotate_left; focus (first | omega | (simp only [zs]; omega))))))
     have ck1 := hbi.cell (i := 8 + m) (get_kn _ _ _ _ _ _ _ _ L.k m hm)
     have fz1 := hbi.frozen
     refine hR _ _ ⟨_, rfl, ?_, ?_⟩
     · exact hxi
     clear hR R
     try simp only [Act.put, zp]
     repeat ((first | refine wpOrd_pass rfl rfl ?_ | (refine wpOrd_free (v := ?_) rfl rfl (fun _ hS => ?_) ?_; rotate_left; focus (obtain ⟨E9, d9, rfl⟩ := hS; go_simp; try with_reducible rfl))); simp only [Act.put, zp])
     refine wpOrd_act rfl rfl (fun K hK => ?_)
     go_simp
     refine hK _ _ ⟨?_, ?_⟩
     · exact (by repeat (first | (with_reducible first | exact Ext.refl _ | exact Ext.same _ _ _ _ | assumption | apply Ext.alloc | apply Ext.ext | apply Ext.drew) | (with_reducible refine Ext.setCell ?_ _ _ ?_; rotate_left; focus (first | omega | (simp only [zs]; omega))) | (with_reducible refine Ext.trans ?_ (by assumption))))
     clear hK K
     try simp only [Act.put, zp]
     refine wpOrd_nil ?_
    rotate_right
    focus
     refine wpOrd_act rfl rfl (fun K hK => ?_)
     go_simp
     refine hK _ _ ⟨?_, ?_⟩
     · exact (by repeat (with_reducible first | exact Ext.refl _ | exact Ext.same _ _ _ _ | assumption | apply Ext.alloc | apply Ext.ext | apply Ext.drew))
     clear hK K
     try simp only [Act.put, zp]
     refine wpOrd_fork ?_ ?_
     focus
      refine wpOrd_act rfl rfl (fun K hK => ?_)
      go_simp
      refine hK _ _ ⟨?_, ?_⟩
      · exact (by repeat (with_reducible first | exact Ext.refl _ | exact Ext.same _ _ _ _ | assumption | apply Ext.alloc | apply Ext.ext | apply Ext.drew))
      clear hK K
      try simp only [Act.put, zp]
      refine wpOrd_act rfl rfl (fun K hK => ?_)
      go_simp
      refine hK _ _ ⟨?_, ?_⟩
      · exact (by repeat (with_reducible first | exact Ext.refl _ | exact Ext.same _ _ _ _ | assumption | apply Ext.alloc | apply Ext.ext | apply Ext.drew))
      clear hK K
      try simp only [Act.put, zp]
      refine wpOrd_call rfl rfl rfl Tryz.call150 (fun R hR => ?_)
      go_simp
      refine (InsertP_any X' (L.k m).A (L.k m).n (L.k m).c _ _ (posP (O.kn m) o s) (O.kn m) ⟨o, s⟩ hn.symm (by omega) (posP_le _ _ _) _ (by rw [hX']; exact hownW.out.of_ext exI) (by repeat (with_reducible first | exact Ext.refl _ | exact Ext.same _ _ _ _ | assumption | apply Ext.alloc | apply Ext.ext | apply Ext.drew)) ⟨BoxC.drew (BoxC.new_at _ _ (by (try simp only [zs]); (try rfl); (try omega)))⟩ (fun a ha => by have := (hownW.out.lies a ha).2; (try simp only [zs] at this ⊢); omega)).mono ?_
      rintro e w1 ⟨Ai, ni, ci, rfl, hoi, hxi, hgi⟩
      have hbi := learn_keep (m := m) hm H.out Hb.out hgi (hw.trans (by repeat (first | (with_reducible first | exact Ext.refl _ | exact Ext.same _ _ _ _ | assumption | apply Ext.alloc | apply Ext.ext | apply Ext.drew) | (with_reducible refine Ext.setCell ?_ _ _ ?_; rotate_left; focus (first | omega | (simp only [zs]; omega))))))
      have ck1 := hbi.cell (i := 8 + m) (get_kn _ _ _ _ _ _ _ _ L.k m hm)
      have fz1 := hbi.frozen
      refine hR _ _ ⟨_, rfl, ?_, ?_⟩
      · exact hxi
      clear hR R
      try simp only [Act.put, zp]
      repeat ((first | refine wpOrd_pass rfl rfl ?_ | (refine wpOrd_free (v := ?_) rfl rfl (fun _ hS => ?_) ?_; rotate_left; focus (obtain ⟨E9, d9, rfl⟩ := hS; go_simp; try with_reducible rfl))); simp only [Act.put, zp])
      refine wpOrd_act rfl rfl (fun K hK => ?_)
      go_simp
      refine hK _ _ ⟨?_, ?_⟩
      · exact (by repeat (first | (with_reducible first | exact Ext.refl _ | exact Ext.same _ _ _ _ | assumption | apply Ext.alloc | apply Ext.ext | apply Ext.drew) | (with_reducible refine Ext.setCell ?_ _ _ ?_; rotate_left; focus (first | omega | (simp only [zs]; omega))) | (with_reducible refine Ext.trans ?_ (by assumption))))
      clear hK K
      try simp only [Act.put, zp]
      refine wpOrd_nil ?_
     rotate_right
     focus
      refine wpOrd_act rfl rfl (fun K hK => ?_)
      go_simp
      refine hK _ _ ⟨?_, ?_⟩
      · exact (by repeat (with_reducible first | exact Ext.refl _ | exact Ext.same _ _ _ _ | assumption | apply Ext.alloc | apply Ext.ext | apply Ext.drew))
      clear hK K
      try simp only [Act.put, zp]
      refine wpOrd_act rfl rfl (fun K hK => ?_)
      go_simp
      refine hK _ _ ⟨?_, ?_⟩
      · exact (by repeat (with_reducible first | exact Ext.refl _ | exact Ext.same _ _ _ _ | assumption | apply Ext.alloc | apply Ext.ext | apply Ext.drew))
      clear hK K
      try simp only [Act.put, zp]
      refine wpOrd_call rfl rfl rfl Tryz.call150 (fun R hR => ?_)
      go_simp
      refine (InsertP_any X' (L.k m).A (L.k m).n (L.k m).c _ _ (posP (O.kn m) o s) (O.kn m) ⟨o, s⟩ hn.symm (by omega) (posP_le _ _ _) _ (by rw [hX']; exact hownW.out.of_ext exI) (by repeat (with_reducible first | exact Ext.refl _ | exact Ext.same _ _ _ _ | assumption | apply Ext.alloc | apply Ext.ext | apply Ext.drew)) ⟨BoxC.drew (BoxC.new_at _ _ (by (try simp only [zs]); (try rfl); (try omega)))⟩ (fun a ha => by have := (hownW.out.lies a ha).2; (try simp only [zs] at this ⊢); omega)).mono ?_
      rintro e w1 ⟨Ai, ni, ci, rfl, hoi, hxi, hgi⟩
      have hbi := learn_keep (m := m) hm H.out Hb.out hgi (hw.trans (by repeat (first | (with_reducible first | exact Ext.refl _ | exact Ext.same _ _ _ _ | assumption | apply Ext.alloc | apply Ext.ext | apply Ext.drew) | (with_reducible refine Ext.setCell ?_ _ _ ?_; rotate_left; focus (first | omega | (simp only [zs]; omega))))))
      have ck1 := hbi.cell (i := 8 + m) (get_kn _ _ _ _ _ _ _ _ L.k m hm)
      have fz1 := hbi.frozen
      refine hR _ _ ⟨_, rfl, ?_, ?_⟩
      · exact hxi
      clear hR R
      try simp only [Act.put, zp]
      repeat ((first | refine wpOrd_pass rfl rfl ?_ | (refine wpOrd_free (v := ?_) rfl rfl (fun _ hS => ?_) ?_; rotate_left; focus (obtain ⟨E9, d9, rfl⟩ := hS; go_simp; try with_reducible rfl))); simp only [Act.put, zp])
      refine wpOrd_act rfl rfl (fun K hK => ?_)
      go_simp
      refine hK _ _ ⟨?_, ?_⟩
      · exact (by repeat (first | (with_reducible first | exact Ext.refl _ | exact Ext.same _ _ _ _ | assumption | apply Ext.alloc | apply Ext.ext | apply Ext.drew) | (with_reducible refine Ext.setCell ?_ _ _ ?_; rotate_left; focus (first | omega | (simp only [zs]; omega))) | (with_reducible refine Ext.trans ?_ (by assumption))))
      clear hK K
      try simp only [Act.put, zp]
      refine wpOrd_nil ?_
    all_goals
      go_wp2_with fail
      refine bodyPost_end (results_none rfl _ _ _) rfl ?_
      have hL := learn_fin (X := X') hm hbb (by omega) H.out Hb.out hoff hxi hgi (by rw [hX'] at hoi; exact hoi) (hw.trans exI)
      obtain ⟨L', h1, h2, h3, h4⟩ := hL
      exact ⟨L', rfl, h1, h2, Hx.out.trans h3, h4⟩
end Go.Proofs.YtekjdeibnfaehaaGreat
/- Offices: officeCopy. -/
set_option linter.unusedSimpArgs false
set_option linter.unusedVariables false
namespace Go.Proofs.YtekjdeibnfaehaaGreat
open Go Go.RowKit

set_option maxRecDepth 100000 in
set_option maxHeartbeats 16000000 in
theorem officeCopy_any (O : OffD) (L : OffL) (w : World) (h : OffY w O L) (hs0 : L.n0 ≤ 100000) (hs1 : L.n1 ≤ 100000) (hnm : L.nm ≤ 1000000) (hkn : ∀ i, i < 9 → (O.kn i).length ≤ 1000000) :
    Calls Tryz.prog 110 #[offV O L] w fun e w' => ∃ L', e = .returned (offV O L') ∧ OffU w.heap.size w' O L' ∧ Ext w w' := by
  have hl0 := h.d.l0
  have hl1 := h.d.l1
  have hm := h.l
  have H := hid h
  have Hkn := hid hkn
  clear h hkn
  obtain ⟨B, hB⟩ : ∃ B : Nat, w.heap.size = B := ⟨_, rfl⟩
  have HB := hid hB
  clear hB
  go_enter Tryz.func110, Tryz.ntmps110
  go_wp2_with fail
  refine (driveCopy_any _ _ _ _ _ _ _ _ O.d.f0.bytes O.d.f1.bytes hl0 hl1 (by omega) (by omega) _ (H.out.d.b0.of_ext exI) (H.out.d.b1.of_ext exI)).mono ?_
  rintro e P1 ⟨Ax, Ay, rfl, hox, hoy, x1⟩
  have z1 : Hid (B + 2 ≤ P1.heap.size) := hid (by have q := x1.below.size; have := HB.out; simp only [World.size_alloc] at q; omega)
  have b1 : BoxC P1 B [.int .i64 O.me, .slice L.A0 L.n0 L.c0, .int .i64 O.d.f0.firm, .slice L.A1 L.n1 L.c1, .int .i64 O.d.f1.firm, .slice L.Am L.nm L.cm, .int .i64 O.m.file, .int .i64 O.m.gen, .slice (L.k 0).A (L.k 0).n (L.k 0).c, .slice (L.k 1).A (L.k 1).n (L.k 1).c, .slice (L.k 2).A (L.k 2).n (L.k 2).c, .slice (L.k 3).A (L.k 3).n (L.k 3).c, .slice (L.k 4).A (L.k 4).n (L.k 4).c, .slice (L.k 5).A (L.k 5).n (L.k 5).c, .slice (L.k 6).A (L.k 6).n (L.k 6).c, .slice (L.k 7).A (L.k 7).n (L.k 7).c, .slice (L.k 8).A (L.k 8).n (L.k 8).c] 76 := BoxC.of_ext ((BoxC.new_at _ _ HB.out.symm).alloc _) x1
  have b2 : BoxC P1 (B + 1) [.int .i64 0, .slice none 0 0, .int .i64 0, .slice none 0 0, .int .i64 0, .slice none 0 0, .int .i64 0, .int .i64 0, .slice none 0 0, .slice none 0 0, .slice none 0 0, .slice none 0 0, .slice none 0 0, .slice none 0 0, .slice none 0 0, .slice none 0 0, .slice none 0 0] 76 := BoxC.of_ext (BoxC.new_at _ _ (by simp only [World.size_alloc]; have := HB.out; omega)) x1
  have E1 : Hid (Ext w P1) := hid (Ext.trans exI x1)
  have ho0 := hid (hox.anc.mono (base' := B + 2) (by have := HB.out; simp only [World.size_alloc]; omega))
  have ho1 := hid (hoy.anc.mono (base' := B + 2) (by have := HB.out; simp only [World.size_alloc]; omega))
  have q0 := hid hox.cap
  have q1 := hid hoy.cap
  simp only [HB.out]
  have c0 := b1.cell (i := 0) rfl
  have c1 := b1.cell (i := 1) rfl
  have c2 := b1.cell (i := 2) rfl
  have c3 := b1.cell (i := 3) rfl
  have c4 := b1.cell (i := 4) rfl
  have c5 := b1.cell (i := 5) rfl
  have c6 := b1.cell (i := 6) rfl
  have c7 := b1.cell (i := 7) rfl
  have c8 := b1.cell (i := 8) rfl
  have c9 := b1.cell (i := 9) rfl
  have c10 := b1.cell (i := 10) rfl
  have c11 := b1.cell (i := 11) rfl
  have c12 := b1.cell (i := 12) rfl
  have c13 := b1.cell (i := 13) rfl
  have c14 := b1.cell (i := 14) rfl
  have c15 := b1.cell (i := 15) rfl
  have c16 := b1.cell (i := 16) rfl
  have l1 := b1.lt
  have fz := b1.frozen
  have V1 := hid b1
  have V2 := hid b2
  clear b1 b2 x1 hox hoy
  go_wp2_with fail
  obtain ⟨Q1, hQ1⟩ : ∃ Q1, (((P1.setCell ⟨B, 1, none⟩ (.slice Ax L.n0 L.n0)).setCell ⟨B, 2, none⟩ (.int .i64 O.d.f0.firm)).setCell ⟨B, 3, none⟩ (.slice Ay L.n1 L.n1)).setCell ⟨B, 4, none⟩ (.int .i64 O.d.f1.firm) = Q1 := ⟨_, rfl⟩
  simp only [hQ1]
  have W1 : Hid (BoxC Q1 B [.int .i64 O.me, .slice Ax L.n0 L.n0, .int .i64 O.d.f0.firm, .slice Ay L.n1 L.n1, .int .i64 O.d.f1.firm, .slice L.Am L.nm L.cm, .int .i64 O.m.file, .int .i64 O.m.gen, .slice (L.k 0).A (L.k 0).n (L.k 0).c, .slice (L.k 1).A (L.k 1).n (L.k 1).c, .slice (L.k 2).A (L.k 2).n (L.k 2).c, .slice (L.k 3).A (L.k 3).n (L.k 3).c, .slice (L.k 4).A (L.k 4).n (L.k 4).c, .slice (L.k 5).A (L.k 5).n (L.k 5).c, .slice (L.k 6).A (L.k 6).n (L.k 6).c, .slice (L.k 7).A (L.k 7).n (L.k 7).c, .slice (L.k 8).A (L.k 8).n (L.k 8).c] 76) := hid (by rw [← hQ1]; exact (((V1.out.set 1 _).set 2 _).set 3 _).set 4 _)
  have W2 := hid (show BoxC Q1 (B + 1) [.int .i64 0, .slice none 0 0, .int .i64 0, .slice none 0 0, .int .i64 0, .slice none 0 0, .int .i64 0, .int .i64 0, .slice none 0 0, .slice none 0 0, .slice none 0 0, .slice none 0 0, .slice none 0 0, .slice none 0 0, .slice none 0 0, .slice none 0 0, .slice none 0 0] 76 by rw [← hQ1]; exact (((V2.out.other _ _ (by omega)).other _ _ (by omega)).other _ _ (by omega)).other _ _ (by omega))
  have G1 : Hid (Ext w Q1) := hid (by rw [← hQ1]; exact Ext.box (Ext.box (Ext.box (Ext.box E1.out _ _ (by rw [HB.out]; omega)) _ _ (by rw [HB.out]; omega)) _ _ (by rw [HB.out]; omega)) _ _ (by rw [HB.out]; omega))
  have g0 : Hid (BytA (B + 2) Q1 Ax O.d.f0.bytes) := hid (by rw [← hQ1]; exact (((ho0.out.set (by omega)).set (by omega)).set (by omega)).set (by omega))
  have g1 : Hid (BytA (B + 2) Q1 Ay O.d.f1.bytes) := hid (by rw [← hQ1]; exact (((ho1.out.set (by omega)).set (by omega)).set (by omega)).set (by omega))
  have z2 : Hid (B + 2 ≤ Q1.heap.size) := hid (by rw [← hQ1]; simp only [zs]; exact z1.out)
  clear hQ1 c0 c1 c2 c3 c4 c5 c6 c7 c8 c9 c10 c11 c12 c13 c14 c15 c16 l1 fz V1 V2 E1 ho0 ho1 z1
  refine (copied_any _ _ _ O.m.recs hm hnm _ (H.out.r.of_ext G1.out)).mono ?_
  rintro e P2 ⟨Ac, nc, cc, rfl, hnc, hvc, x2⟩
  have b1 := W1.out.of_ext x2
  have V1 := hid b1
  have V2 := hid (W2.out.of_ext x2)
  have G2 := hid (G1.out.trans x2)
  have k0 := hid (g0.out.of_ext x2)
  have k1 := hid (g1.out.of_ext x2)
  have kr := hid (hvc.anc.mono (base' := B + 2) z2.out)
  have Hnc := hid hnc.out
  have Hcap := hid hvc.caps
  have z3 : Hid (B + 2 ≤ P2.heap.size) := hid (by have q := x2.below.size; have := z2.out; omega)
  have c0 := b1.cell (i := 0) rfl
  have c1 := b1.cell (i := 1) rfl
  have c2 := b1.cell (i := 2) rfl
  have c3 := b1.cell (i := 3) rfl
  have c4 := b1.cell (i := 4) rfl
  have c5 := b1.cell (i := 5) rfl
  have c6 := b1.cell (i := 6) rfl
  have c7 := b1.cell (i := 7) rfl
  have c8 := b1.cell (i := 8) rfl
  have c9 := b1.cell (i := 9) rfl
  have c10 := b1.cell (i := 10) rfl
  have c11 := b1.cell (i := 11) rfl
  have c12 := b1.cell (i := 12) rfl
  have c13 := b1.cell (i := 13) rfl
  have c14 := b1.cell (i := 14) rfl
  have c15 := b1.cell (i := 15) rfl
  have c16 := b1.cell (i := 16) rfl
  have l1 := b1.lt
  have fz := b1.frozen
  clear b1 x2 hnc hvc W1 W2 G1 g0 g1 z2
  go_wp2_with fail
  obtain ⟨Q2, hQ2⟩ : ∃ Q2, P2.setCell ⟨B, 5, none⟩ (.slice Ac nc cc) = Q2 := ⟨_, rfl⟩
  simp only [hQ2]
  have W1 : BoxC Q2 B [.int .i64 O.me, .slice Ax L.n0 L.n0, .int .i64 O.d.f0.firm, .slice Ay L.n1 L.n1, .int .i64 O.d.f1.firm, .slice Ac nc cc, .int .i64 O.m.file, .int .i64 O.m.gen, .slice (L.k 0).A (L.k 0).n (L.k 0).c, .slice (L.k 1).A (L.k 1).n (L.k 1).c, .slice (L.k 2).A (L.k 2).n (L.k 2).c, .slice (L.k 3).A (L.k 3).n (L.k 3).c, .slice (L.k 4).A (L.k 4).n (L.k 4).c, .slice (L.k 5).A (L.k 5).n (L.k 5).c, .slice (L.k 6).A (L.k 6).n (L.k 6).c, .slice (L.k 7).A (L.k 7).n (L.k 7).c, .slice (L.k 8).A (L.k 8).n (L.k 8).c] 76 := by rw [← hQ2]; exact V1.out.set 5 _
  have W2 : BoxC Q2 (B + 1) [.int .i64 0, .slice none 0 0, .int .i64 0, .slice none 0 0, .int .i64 0, .slice none 0 0, .int .i64 0, .int .i64 0, .slice none 0 0, .slice none 0 0, .slice none 0 0, .slice none 0 0, .slice none 0 0, .slice none 0 0, .slice none 0 0, .slice none 0 0, .slice none 0 0] 76 := by rw [← hQ2]; exact V2.out.other _ _ (by omega)
  have G3 : Ext w Q2 := by rw [← hQ2]; exact Ext.box G2.out _ _ (by rw [HB.out]; omega)
  have g0 : BytA (B + 2) Q2 Ax O.d.f0.bytes := by rw [← hQ2]; exact k0.out.set (by omega)
  have g1 : BytA (B + 2) Q2 Ay O.d.f1.bytes := by rw [← hQ2]; exact k1.out.set (by omega)
  have gr : RecsA (B + 2) Q2 Ac O.m.recs := by rw [← hQ2]; exact kr.out.set (by omega)
  have z4 : B + 2 ≤ Q2.heap.size := by rw [← hQ2]; simp only [zs]; exact z3.out
  have HQ := hid (show _ ∧ _ ∧ _ ∧ _ ∧ _ ∧ _ ∧ _ from ⟨W1, W2, G3, g0, g1, gr, z4⟩)
  clear hQ2 c0 c1 c2 c3 c4 c5 c6 c7 c8 c9 c10 c11 c12 c13 c14 c15 c16 l1 fz V1 V2 G2 k0 k1 kr z3 W1 W2 G3 g0 g1 gr z4
  obtain ⟨NQ, hNQ⟩ : ∃ NQ, Q2.heap.size = NQ := ⟨_, rfl⟩
  go_loopw [17] (fun v wr => ∃ (k : Nat) (K : Nat → SlT), k ≤ 9 ∧ v = .int .i64 k ∧ BoxC wr B [.int .i64 O.me, .slice Ax L.n0 L.n0, .int .i64 O.d.f0.firm, .slice Ay L.n1 L.n1, .int .i64 O.d.f1.firm, .slice Ac nc cc, .int .i64 O.m.file, .int .i64 O.m.gen, .slice (K 0).A (K 0).n (K 0).c, .slice (K 1).A (K 1).n (K 1).c, .slice (K 2).A (K 2).n (K 2).c, .slice (K 3).A (K 3).n (K 3).c, .slice (K 4).A (K 4).n (K 4).c, .slice (K 5).A (K 5).n (K 5).c, .slice (K 6).A (K 6).n (K 6).c, .slice (K 7).A (K 7).n (K 7).c, .slice (K 8).A (K 8).n (K 8).c] 76 ∧ BoxC wr (B + 1) [.int .i64 0, .slice none 0 0, .int .i64 0, .slice none 0 0, .int .i64 0, .slice none 0 0, .int .i64 0, .int .i64 0, .slice none 0 0, .slice none 0 0, .slice none 0 0, .slice none 0 0, .slice none 0 0, .slice none 0 0, .slice none 0 0, .slice none 0 0, .slice none 0 0] 76 ∧ Ext w wr ∧ BytA (B + 2) wr Ax O.d.f0.bytes ∧ BytA (B + 2) wr Ay O.d.f1.bytes ∧ RecsA (B + 2) wr Ac O.m.recs ∧ B + 2 ≤ wr.heap.size ∧ NQ ≤ wr.heap.size ∧ KnO NQ k wr K O.kn) (fun v _ => 9 - (intOf v).toNat)
  case atStart =>
    obtain ⟨W1, W2, G3, g0, g1, gr, z4⟩ := HQ.out
    exact ⟨0, L.k, Nat.zero_le _, rfl, W1, W2, G3, g0, g1, gr, z4, Nat.le_of_eq hNQ.symm, KnO.zero _ _ _ _⟩
  case round =>
    rename_i K0 hK0
    obtain ⟨k, K, hk, rfl, W1, W2, G3, g0, g1, gr, z4, hnq, hpl⟩ := hrel
    have V1 := hid W1
    have V2 := hid W2
    have G := hid G3
    have R0 := hid g0
    have R1 := hid g1
    have Rr := hid gr
    have Z := hid z4
    have Hpl := hid hpl
    have Hnq := hid hnq
    have H0 : Hid (B + 2 ≤ NQ) := hid (by rw [← hNQ]; exact HQ.out.2.2.2.2.2.2)
    have HL : Hid ((0 < L.n0 → ∀ a, Ax = some a → a.block < NQ) ∧ (0 < L.n1 → ∀ a, Ay = some a → a.block < NQ) ∧ (0 < nc → ∀ a, Ac = some a → a.block < NQ)) := hid (by
      obtain ⟨_, _, _, q0, q1, qr, _⟩ := HQ.out
      rw [← hNQ]
      exact ⟨fun h a ha => sl_low q0.1 (by rw [hl0]; exact h) ha, fun h a ha => sl_low q1.1 (by rw [hl1]; exact h) ha, fun h a ha => sl_low qr.1 (by rw [← Hnc.out]; exact h) ha⟩)
    clear hnq hNQ HQ W2 G3 g0 g1 gr z4 hpl
    by_cases hlt : k < 9
    · clear W1
      go_wp2_with fail
      have hkk := H.out.k k hlt
      refine (ClonePl_any _ _ _ (O.kn k) hkk.1 (by have := Hkn.out k hlt; have := hkk.1; omega) _ (hkk.2.2.2.of_ext G.out)).mono ?_
      rintro e P3 ⟨v3, rfl, hpl, x3⟩
      obtain ⟨A3, m3, c3, rfl⟩ : ∃ A3 m3 c3, v3 = .slice A3 m3 c3 := by obtain ⟨A', c', h, _⟩ := hpl.slice; exact ⟨_, _, _, h⟩
      obtain ⟨t', ht'⟩ : ∃ t' : SlT, t' = ⟨A3, m3, c3⟩ := ⟨_, rfl⟩
      rw [show (Value.slice A3 m3 c3) = .slice t'.A t'.n t'.c by rw [ht']] at hpl ⊢
      clear ht'
      have b1 := V1.out.of_ext x3
      have l1 := b1.lt
      have fz := b1.frozen
      have U1 := hid b1
      have X3 := hid x3
      have Hp := hid hpl
      have ck := b1.cell (i := 8 + k) (get_kn _ _ _ _ _ _ _ _ K k hlt)
      clear b1 x3 hpl V1
      go_wp2_with fail
      have x3 := X3.out
      have z := Z.out
      have hB := HB.out
      refine ⟨⟨k + 1, upd K k t', by omega, by go_num, ?_, (V2.out.of_ext x3).other _ _ (by omega), Ext.box (G.out.trans x3) _ _ (by omega), (R0.out.of_ext x3).set (by omega), (R1.out.of_ext x3).set (by omega), (Rr.out.of_ext x3).set (by omega), by rw [World.size_setCell]; have := x3.below.size; omega, by rw [World.size_setCell]; have := x3.below.size; have := Hnq.out; omega, (Hpl.out.next x3 Hp.out Hnq.out).set (by have := H0.out; omega)⟩, by simp [intOf]; omega⟩
      rw [← set_kn _ _ _ _ _ _ _ _ K k _ hlt]
      exact U1.out.set (8 + k) _
    · obtain rfl : k = 9 := by omega
      have hc17 := W1.c17
      have len2 : rowLen wr (B + 1) = 17 := V2.out.len
      have l1 := W1.lt
      clear W1 V1
      go_wp2_with fail
      have U0 : OffU (B + 2) wr O ⟨Ax, L.n0, L.n0, Ay, L.n1, L.n1, Ac, nc, cc, K⟩ := OffU.low (N := NQ) ⟨hl0, hl1, Nat.le_refl _, Nat.le_refl _, q0.out, q1.out, R0.out, R1.out⟩ Hnc.out.symm Hcap.out Rr.out Hpl.out H0.out HL.out.1 HL.out.2.1 HL.out.2.2
      have hB := HB.out
      refine bodyPost_ret (ret_c rfl rfl (rowLen_setCells.trans len2) (rowAt_setCells_same rfl (by rw [len2]; omega))) rfl ?_
      exact ⟨⟨Ax, L.n0, L.n0, Ay, L.n1, L.n1, Ac, nc, cc, K⟩, rfl, (U0.cells (by omega)).mono (by omega), Ext.cells _ _ G.out (by omega)⟩
end Go.Proofs.YtekjdeibnfaehaaGreat
