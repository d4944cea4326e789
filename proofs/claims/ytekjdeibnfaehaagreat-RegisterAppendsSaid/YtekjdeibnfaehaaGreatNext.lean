/- Next, both. -/
import Derived.Test.YtekjdeibnfaehaaGreatAdd
import Derived.MapKept
import Derived.WideKeyRuns
import Derived.Deep.OwnRows
import Derived.OwnWalk
set_option linter.unusedSimpArgs false
set_option linter.unusedVariables false
namespace Go.Proofs.YtekjdeibnfaehaaGreat
open Go.RowKit

theorem nextN_end {l : List Rec} {o : Int} {k : Nat} (h : l.length = k) : nextN (l.take k) o = nextN l o := by rw [← h, List.take_length]
theorem nextStep_hit {o n : Int} {r : Rec} (h : r.ao = o) : nextStep o n r = r.sq + 1 := by simp [nextStep, h]
theorem nextStep_no {o n : Int} {r : Rec} (h : ¬r.ao = o) : nextStep o n r = n := by simp [nextStep, h]
/-- The numbers are small. -/
def SqSmall (l : List Rec) : Prop := ∀ r ∈ l, 0 ≤ r.sq ∧ r.sq < 65536
theorem checkB_sq {l : List Rec} (h : checkB l = true) : SqSmall l := fun r hr => (recNum_of ((checkB_iff.1 h).2.1 r hr)).sq
set_option maxRecDepth 100000 in
set_option maxHeartbeats 4000000 in
theorem rnext_any (A : Option Addr) (c n : Nat) (l : List Rec) (o : Int) (hn : l.length = n) (hbig : n ≤ 100000) (hsq : SqSmall l) (w : World) (hr : Recs w A l) :
    Calls Tryz.prog 105 #[regV A n c, .int .i64 o] w fun e w' => e = .returned (.int .i64 (nextN l o)) ∧ Ext w w' := by
  go_enter Tryz.func105, Tryz.ntmps105
  go_wp2_with fail
  go_loopw [5, 6] (fun v i wr => ∃ k : Nat, k ≤ n ∧ i = .int .i64 k ∧ v = .int .i64 (nextN (l.take k) o) ∧ Ext (w.alloc (.cells #[.slice A n c] 34)) wr) (fun _ i _ => n - (intOf i).toNat)
  case atStart => exact ⟨0, Nat.zero_le _, rfl, rfl, Ext.refl _⟩
  case round =>
    obtain ⟨k, hk, rfl, rfl, ⟨E0, d0, rfl⟩⟩ := hrel
    by_cases hlt : k < n
    · have hm : k < l.length := by omega
      obtain ⟨g, of, rfl, hg⟩ := hr.addr (by omega)
      obtain ⟨h0, h1, _⟩ := hr.row hm
      have hst := nextN_take_succ l o k hm
      have hs := hsq _ (List.getElem_mem hm)
      obtain ⟨r, hrk⟩ : ∃ r, l[k] = r := ⟨_, rfl⟩
      rw [hrk] at h0 h1 hst hs
      clear hrk
      obtain ⟨hs0, hs1⟩ := hs
      by_cases ho : r.ao = o
      · rw [nextStep_hit ho] at hst
        have Hst := hid hst
        clear hst
        go_wp2_with fail
        exact ⟨⟨k + 1, by omega, by go_num, congrArg (Value.int .i64) Hst.out.symm, (by repeat (first | (with_reducible first | exact Ext.refl _ | exact Ext.same _ _ _ _ | assumption | apply Ext.alloc | apply Ext.ext | apply Ext.drew) | (with_reducible refine Ext.setCell ?_ _ _ ?_; rotate_left; focus (first | omega | (simp only [zs1, zs2, zs3, size_ext]; omega)))))⟩, by simp [intOf]; omega⟩
      · rw [nextStep_no ho] at hst
        have Hst := hid hst
        clear hst
        go_wp2_with fail
        exact ⟨⟨k + 1, by omega, by go_num, congrArg (Value.int .i64) Hst.out.symm, (by repeat (first | (with_reducible first | exact Ext.refl _ | exact Ext.same _ _ _ _ | assumption | apply Ext.alloc | apply Ext.ext | apply Ext.drew) | (with_reducible refine Ext.setCell ?_ _ _ ?_; rotate_left; focus (first | omega | (simp only [zs1, zs2, zs3, size_ext]; omega)))))⟩, by simp [intOf]; omega⟩
    · obtain rfl : k = n := by omega
      have HE := hid (nextN_end (o := o) hn)
      go_wp2_with fail
      go_ret
      exact ⟨ret_val (by rw [HE.out]; rfl), (by repeat (first | (with_reducible first | exact Ext.refl _ | exact Ext.same _ _ _ _ | assumption | apply Ext.alloc | apply Ext.ext | apply Ext.drew) | (with_reducible refine Ext.setCell ?_ _ _ ?_; rotate_left; focus (first | omega | (simp only [zs1, zs2, zs3, size_ext]; omega)))))⟩
theorem nextI_bad {l : List Rec} {o : Int} (h : checkB l = false) : nextI l o = -1 := by simp [nextI, h]
theorem nextI_off {l : List Rec} {o : Int} (h : checkB l = true) (h2 : inB o 0 8 = false) : nextI l o = -1 := by simp [nextI, h, h2]
theorem nextI_ok {l : List Rec} {o : Int} (h : checkB l = true) (h2 : inB o 0 8 = true) : nextI l o = nextN l o := by simp [nextI, h, h2]
set_option maxRecDepth 100000 in
set_option maxHeartbeats 4000000 in
theorem Next_any (A : Option Addr) (c n : Nat) (l : List Rec) (o : Int) (hn : l.length = n) (hbig : n ≤ 9223372036854775807) (ht : TxtBig l) (w : World) (hr : Recs w A l) :
    Calls Tryz.prog 140 #[regV A n c, .int .i64 o] w fun e w' => e = .returned (.int .i64 (nextI l o)) ∧ Ext w w' := by
  cases hc : checkB l with
  | false =>
    have he := errReg_bad hc
    have HE := hid (nextI_bad (o := o) hc)
    clear hc
    go_enter Tryz.func140, Tryz.ntmps140
    go_wp2_with (go_at_call 81; refine (Check_any _ _ _ _ (by first | rfl | assumption) (by omega) (by assumption) _ (by with_reducible repeat (first | assumption | apply Recs.ext | apply Recs.alloc | apply Recs.drew | (refine Recs.of_ext ?_ (by assumption))))).mono ?_; rintro e w1 ⟨rfl, E1, d1, rfl⟩)
    go_ret
    exact ⟨ret_val (by rw [HE.out]; rfl), (by repeat (first | (with_reducible first | exact Ext.refl _ | exact Ext.same _ _ _ _ | assumption | apply Ext.alloc | apply Ext.ext | apply Ext.drew) | (with_reducible refine Ext.setCell ?_ _ _ ?_; rotate_left; focus (first | omega | (simp only [zs1, zs2, zs3, size_ext]; omega)))))⟩
  | true =>
    have he := errReg_ok hc
    have hsq := checkB_sq hc
    have h80 := (checkB_iff.1 hc).1
    cases hk : inB o 0 8 with
    | false =>
      have HE := hid (nextI_off hc hk)
      clear hc
      go_enter Tryz.func140, Tryz.ntmps140
      go_wp2_with (first | (go_at_call 81; refine (Check_any _ _ _ _ (by first | rfl | assumption) (by omega) (by assumption) _ (by with_reducible repeat (first | assumption | apply Recs.ext | apply Recs.alloc | apply Recs.drew | (refine Recs.of_ext ?_ (by assumption))))).mono ?_; rintro e w1 ⟨rfl, E1, d1, rfl⟩) | (go_at_call 97; refine (isOffice_any _ _).mono ?_; rintro e w1 ⟨rfl, rfl⟩))
      go_ret
      exact ⟨ret_val (by rw [HE.out]; rfl), (by repeat (first | (with_reducible first | exact Ext.refl _ | exact Ext.same _ _ _ _ | assumption | apply Ext.alloc | apply Ext.ext | apply Ext.drew) | (with_reducible refine Ext.setCell ?_ _ _ ?_; rotate_left; focus (first | omega | (simp only [zs1, zs2, zs3, size_ext]; omega)))))⟩
    | true =>
      have HE := hid (nextI_ok hc hk)
      clear hc
      go_enter Tryz.func140, Tryz.ntmps140
      go_wp2_with (first | (go_at_call 81; refine (Check_any _ _ _ _ (by first | rfl | assumption) (by omega) (by assumption) _ (by with_reducible repeat (first | assumption | apply Recs.ext | apply Recs.alloc | apply Recs.drew | (refine Recs.of_ext ?_ (by assumption))))).mono ?_; rintro e w1 ⟨rfl, E1, d1, rfl⟩) | (go_at_call 97; refine (isOffice_any _ _).mono ?_; rintro e w1 ⟨rfl, rfl⟩))
      go_loopw [5, 19] (fun v i wr => ∃ k : Nat, k ≤ n ∧ i = .int .i64 k ∧ v = .int .i64 (nextN (l.take k) o) ∧ Ext (w.alloc (.cells #[.slice A n c] 34)) wr) (fun _ i _ => n - (intOf i).toNat)
      case atStart => exact ⟨0, Nat.zero_le _, rfl, rfl, (by repeat (first | (with_reducible first | exact Ext.refl _ | exact Ext.same _ _ _ _ | assumption | apply Ext.alloc | apply Ext.ext | apply Ext.drew) | (with_reducible refine Ext.setCell ?_ _ _ ?_; rotate_left; focus (first | omega | (simp only [zs1, zs2, zs3, size_ext]; omega)))))⟩
      case round =>
        obtain ⟨k, hk, rfl, rfl, ⟨E0, d0, rfl⟩⟩ := hrel
        by_cases hlt : k < n
        · have hm : k < l.length := by omega
          obtain ⟨g, of, rfl, hg⟩ := hr.addr (by omega)
          have hrow := hr.row hm
          have hst := nextN_take_succ l o k hm
          have hs := hsq _ (List.getElem_mem hm)
          obtain ⟨r, hrk⟩ : ∃ r, l[k] = r := ⟨_, rfl⟩
          rw [hrk] at hrow hst hs
          obtain ⟨h0, h1, h2, h3, h4, h5, h6, h7, h8, h9, h10⟩ := hrow
          clear hrk
          obtain ⟨hs0, hs1⟩ := hs
          by_cases ho : r.ao = o
          · rw [nextStep_hit ho] at hst
            have Hst := hid hst
            clear hst
            go_wp2_with fail
            exact ⟨⟨k + 1, by omega, by go_num, congrArg (Value.int .i64) Hst.out.symm, (by repeat (first | (with_reducible first | exact Ext.refl _ | exact Ext.same _ _ _ _ | assumption | apply Ext.alloc | apply Ext.ext | apply Ext.drew) | (with_reducible refine Ext.setCell ?_ _ _ ?_; rotate_left; focus (first | omega | (simp only [zs1, zs2, zs3, size_ext]; omega)))))⟩, by simp [intOf]; omega⟩
          · rw [nextStep_no ho] at hst
            have Hst := hid hst
            clear hst
            go_wp2_with fail
            exact ⟨⟨k + 1, by omega, by go_num, congrArg (Value.int .i64) Hst.out.symm, (by repeat (first | (with_reducible first | exact Ext.refl _ | exact Ext.same _ _ _ _ | assumption | apply Ext.alloc | apply Ext.ext | apply Ext.drew) | (with_reducible refine Ext.setCell ?_ _ _ ?_; rotate_left; focus (first | omega | (simp only [zs1, zs2, zs3, size_ext]; omega)))))⟩, by simp [intOf]; omega⟩
        · obtain rfl : k = n := by omega
          have HN := hid (nextN_end (o := o) hn)
          go_wp2_with fail
          go_ret
          exact ⟨ret_val (by rw [HE.out, ← HN.out]; rfl), (by repeat (first | (with_reducible first | exact Ext.refl _ | exact Ext.same _ _ _ _ | assumption | apply Ext.alloc | apply Ext.ext | apply Ext.drew) | (with_reducible refine Ext.setCell ?_ _ _ ?_; rotate_left; focus (first | omega | (simp only [zs1, zs2, zs3, size_ext]; omega)))))⟩
end Go.Proofs.YtekjdeibnfaehaaGreat
/- A set of places, made by the call. -/
namespace Go.Proofs.YtekjdeibnfaehaaGreat
open Go.RowKit

/-- A place's value. -/
abbrev plcV (a b : Int) : Value := .agg #[.int .i64 a, .int .i64 b]
theorem run_equal_place (a b c d : Int) (w : World) : (Op.equal 44 (plcV a b) (plcV c d)).run Tryz.prog w = .ok (plcEqB a b c d) w := by
  have hu : ∀ x y : Value, Op.equal 44 x y = Op.equalIn 10000 44 x y := fun x y => rfl
  rw [hu]
  unfold plcV
  by_cases h1 : a = c <;> by_cases h2 : b = d <;> simp [go_sem, plcEqB, h1, h2]
theorem run_checkKey (e : Bool) (a b : Int) (w : World) : (Instr.checkKey e 10000 44 (plcV a b)).run Tryz.prog w = .ok () w := by
  have hi : ∀ (n : Nat) (x : Int), (Instr.checkKey e (n + 1) 3 (.int .i64 x)).run Tryz.prog w = .ok () w := fun n x => by
    simp [Instr.checkKey, run_underlying Tryz.underlying3]
  have hs : ∀ n : Nat, (Instr.checkKey e (n + 1 + 1) 44 (plcV a b)).run Tryz.prog w = .ok () w := fun n => by
    simp [Instr.checkKey, run_underlying Tryz.underlying44, go_sem, hi]
  exact hs 9998
theorem zero_bool (w : World) : (zeroValue 4).run Tryz.prog w = .ok (.bool false) w := by
  simp [go_sem]
/-- The entries of a set. -/
structure SetE (es : List MapEntry) (S : List (Int × Int)) : Prop where
  shape : ∀ e ∈ es, ∃ a b, e.key = plcV a b ∧ e.val = .bool true
  has : ∀ a b, (∃ e ∈ es, e.key = plcV a b) ↔ (a, b) ∈ S
/-- Where a key stands. -/
theorem run_findAsking (a b : Int) (w : World) : ∀ (es : List MapEntry) (i : Nat), (∀ e ∈ es, ∃ a b, e.key = plcV a b ∧ e.val = .bool true) →
    (∃ j, ∃ h : j < es.length, es[j].key = plcV a b ∧ (Instr.findAsking 44 (plcV a b) es i).run Tryz.prog w = .ok (some (i + j, .bool true)) w) ∨
    ((¬ ∃ e ∈ es, e.key = plcV a b) ∧ (Instr.findAsking 44 (plcV a b) es i).run Tryz.prog w = .ok none w)
  | [], i, _ => .inr ⟨by simp, rfl⟩
  | e :: es, i, hs => by
    obtain ⟨c, d, hk, hv⟩ := hs e (by simp)
    have he : (Op.equal 44 (plcV a b) e.key).run Tryz.prog w = .ok (plcEqB a b c d) w := by rw [hk]; exact run_equal_place a b c d w
    cases hb : plcEqB a b c d with
    | true =>
      obtain ⟨rfl, rfl⟩ := plcEqB_iff.1 hb
      refine .inl ⟨0, by simp, hk, ?_⟩
      rw [Instr.findAsking, Sem.run_bind, he, hb]
      simp [hv]
    | false =>
      have hne : ¬ (a = c ∧ b = d) := fun h => by rw [plcEqB_iff.2 h] at hb; cases hb
      rcases run_findAsking a b w es (i + 1) (fun x hx => hs x (by simp [hx])) with ⟨j, hj, h1, h2⟩ | ⟨h1, h2⟩
      · refine .inl ⟨j + 1, by simp; omega, by simpa using h1, ?_⟩
        rw [Instr.findAsking, Sem.run_bind, he, hb]
        simp only [Result.andThen_ok, Bool.false_eq_true, if_false]
        rw [h2, show i + 1 + j = i + (j + 1) by omega]
      · refine .inr ⟨?_, ?_⟩
        · rintro ⟨x, hx, hxk⟩
          rcases List.mem_cons.1 hx with rfl | hx
          · rw [hk] at hxk
            simp only [plcV, Value.agg.injEq] at hxk
            simp at hxk
            exact hne ⟨hxk.1.symm, hxk.2.symm⟩
          · exact h1 ⟨x, hx, hxk⟩
        · rw [Instr.findAsking, Sem.run_bind, he, hb]
          simp only [Result.andThen_ok, Bool.false_eq_true, if_false]
          exact h2
theorem run_findKey_place (a b : Int) (w : World) (es : List MapEntry) (S : List (Int × Int)) (h : SetE es S) :
    (∃ j, ∃ hj : j < es.length, es[j].key = plcV a b ∧ (a, b) ∈ S ∧ (Instr.findKey 44 (plcV a b) es).run Tryz.prog w = .ok (some (j, .bool true)) w) ∨
    ((a, b) ∉ S ∧ (Instr.findKey 44 (plcV a b) es).run Tryz.prog w = .ok none w) := by
  have hf : (Instr.findKey 44 (plcV a b) es).run Tryz.prog w = (Instr.findAsking 44 (plcV a b) es 0).run Tryz.prog w := by
    exact run_findKey_eq w (P := Tryz.prog) (k := 44) (by rw [Tryz.underlying44]) _ _
  rw [hf]
  rcases run_findAsking a b w es 0 h.shape with ⟨j, hj, h1, h2⟩ | ⟨h1, h2⟩
  · exact .inl ⟨j, hj, h1, (h.has a b).1 ⟨_, List.getElem_mem hj, h1⟩, by simpa using h2⟩
  · exact .inr ⟨fun hm => h1 ((h.has a b).2 hm), h2⟩
/-- Block g is the set S. -/
def SetM (w : World) (g : Nat) (S : List (Int × Int)) : Prop := ∃ es clock, w.heap[g]? = some (.map es clock) ∧ SetE es.toList S
theorem SetM.ext {w : World} {g : Nat} {S : List (Int × Int)} (h : SetM w g S) (E : Array Obj) (d : Nat) : SetM (w.ext E d) g S := by
  obtain ⟨es, clock, hg, he⟩ := h
  exact ⟨es, clock, by rw [heap_ext _ _ _ _ (Array.getElem?_eq_some_iff.1 hg).1]; exact hg, he⟩
theorem SetM.alloc {w : World} {g : Nat} {S : List (Int × Int)} (h : SetM w g S) (o : Obj) : SetM (w.alloc o) g S := by
  obtain ⟨es, clock, hg, he⟩ := h
  exact ⟨es, clock, by rw [Below.heap_alloc _ _ _ (Array.getElem?_eq_some_iff.1 hg).1]; exact hg, he⟩
theorem SetM.new (w : World) (g : Nat) (hg : g = w.heap.size) : SetM (w.alloc (.map #[] 0)) g [] := by
  subst hg
  exact ⟨#[], 0, heap_alloc_new w _, ⟨by simp, by simp⟩⟩
theorem SetM.lookup {w : World} {g : Nat} {S : List (Int × Int)} (h : SetM w g S) (a b : Int) : (Instr.lookup 187 (.map (some g)) (plcV a b) false).run Tryz.prog w = .ok (.bool (S.contains (a, b))) w := by
  obtain ⟨es, clock, hg, he⟩ := h
  have hu := run_underlying (w := w) Tryz.underlying187
  rcases run_findKey_place a b w es.toList S he with ⟨j, hj, h1, h2, h3⟩ | ⟨h1, h3⟩
  · have hc : S.contains (a, b) = true := by simpa using h2
    rw [hc]
    simp [Instr.lookup, hu, getObj, Sem.run, hg, run_checkKey, h3]
  · have hc : S.contains (a, b) = false := by rw [← Bool.not_eq_true]; simpa using h1
    rw [hc]
    simp [Instr.lookup, hu, getObj, Sem.run, hg, run_checkKey, h3, zero_bool]
theorem SetE.push {es : List MapEntry} {S : List (Int × Int)} (h : SetE es S) (a b : Int) (c : Nat) : SetE (es ++ [{ key := plcV a b, val := .bool true, born := c }]) ((a, b) :: S) := by
  refine ⟨?_, ?_⟩
  · intro e he
    rcases List.mem_append.1 he with he | he
    · exact h.shape e he
    · rw [List.mem_singleton.1 he]
      exact ⟨a, b, rfl, rfl⟩
  · intro x y
    constructor
    · rintro ⟨e, he, hk⟩
      rcases List.mem_append.1 he with he | he
      · exact List.mem_cons_of_mem _ ((h.has x y).1 ⟨e, he, hk⟩)
      · rw [List.mem_singleton.1 he] at hk
        simp [plcV] at hk
        simp [hk]
    · intro hm
      rcases List.mem_cons.1 hm with hm | hm
      · cases hm
        exact ⟨_, List.mem_append_right _ (List.mem_singleton.2 rfl), rfl⟩
      · obtain ⟨e, he, hk⟩ := (h.has x y).2 hm
        exact ⟨e, List.mem_append_left _ he, hk⟩
theorem SetE.again {es : List MapEntry} {S : List (Int × Int)} (h : SetE es S) {a b : Int} {j : Nat} (hj : j < es.length) (hk : es[j].key = plcV a b) :
    SetE (es.modify j fun e => { e with key := plcV a b, val := .bool true }) ((a, b) :: S) := by
  have hsame : ∀ x ∈ es.modify j (fun e => { e with key := plcV a b, val := .bool true }), ∃ y ∈ es, x.key = y.key ∧ x.val = .bool true := by
    intro x hx
    obtain ⟨i, hi, rfl⟩ := List.getElem_of_mem hx
    have hi' : i < es.length := by simpa using hi
    refine ⟨es[i], List.getElem_mem hi', ?_⟩
    rw [List.getElem_modify]
    by_cases hij : j = i
    · subst hij
      rw [if_pos rfl]
      exact ⟨hk.symm, rfl⟩
    · rw [if_neg hij]
      obtain ⟨_, _, _, hv⟩ := h.shape _ (List.getElem_mem hi')
      exact ⟨rfl, hv⟩
  refine ⟨?_, ?_⟩
  · intro x hx
    obtain ⟨y, hy, h1, h2⟩ := hsame x hx
    obtain ⟨c, d, h3, _⟩ := h.shape y hy
    exact ⟨c, d, h1.trans h3, h2⟩
  · intro x y
    constructor
    · rintro ⟨e, he, hek⟩
      obtain ⟨z, hz, h1, _⟩ := hsame e he
      exact List.mem_cons_of_mem _ ((h.has x y).1 ⟨z, hz, by rw [← h1]; exact hek⟩)
    · intro hm
      have hin : ∃ e ∈ es, e.key = plcV x y := by
        rcases List.mem_cons.1 hm with hm | hm
        · cases hm
          exact ⟨_, List.getElem_mem hj, hk⟩
        · exact (h.has x y).2 hm
      obtain ⟨e, he, hek⟩ := hin
      obtain ⟨i, hi, rfl⟩ := List.getElem_of_mem he
      refine ⟨(es.modify j (fun e => { e with key := plcV a b, val := .bool true }))[i]'(by simpa using hi), List.getElem_mem _, ?_⟩
      rw [List.getElem_modify]
      by_cases hij : j = i
      · subst hij
        rw [if_pos rfl]
        exact hk.symm.trans hek
      · rw [if_neg hij]
        exact hek
theorem run_keyStays (a b : Int) (w : World) : (Instr.keyThatStays (plcV a b) (plcV a b)).run Tryz.prog w = .ok (plcV a b) w := by
  have h : Instr.sameBits 10000 (plcV a b) (plcV a b) = true := by
    simp [Instr.sameBits, plcV]
  simp [Instr.keyThatStays, h]
theorem SetM.update {w : World} {g : Nat} {S : List (Int × Int)} (h : SetM w g S) (a b : Int) : ∃ w', (Instr.mapUpdate 187 (.map (some g)) (plcV a b) (.bool true)).run Tryz.prog w = .ok () w' ∧ SetM w' g ((a, b) :: S) ∧
    (∀ N, N ≤ g → Below N w w') ∧ (∀ k, k ≠ g → w'.heap[k]? = w.heap[k]?) ∧ w'.heap.size = w.heap.size := by
  obtain ⟨es, clock, hg, he⟩ := h
  have hlt := (Array.getElem?_eq_some_iff.1 hg).1
  have hu := run_underlying (w := w) Tryz.underlying187
  have hset : ∀ o : Obj, (∀ N, N ≤ g → Below N w { w with heap := w.heap.setIfInBounds g o }) ∧ (∀ k, k ≠ g → (w.heap.setIfInBounds g o)[k]? = w.heap[k]?) ∧ (w.heap.setIfInBounds g o).size = w.heap.size := fun o =>
    ⟨fun N hN => ⟨rfl, rfl, rfl, by simp, fun i hi => by simp only; rw [Array.getElem?_setIfInBounds_ne (by omega)]⟩, fun k hk => Array.getElem?_setIfInBounds_ne (fun e => hk e.symm), by simp⟩
  rcases run_findKey_place a b w es.toList S he with ⟨j, hj, h1, h2, h3⟩ | ⟨h1, h3⟩
  · have hj' : j < es.size := by simpa using hj
    have hold : ((es[j]?).map (·.key)).getD (plcV a b) = plcV a b := by
      rw [Array.getElem?_eq_getElem hj']
      simpa using h1
    refine ⟨_, ?_, ⟨es.modify j fun e => { e with key := plcV a b, val := .bool true }, clock, ?_, ?_⟩, hset (.map (es.modify j fun e => { e with key := plcV a b, val := .bool true }) clock)⟩
    · simp [Instr.mapUpdate, hu, getObj, setObj, Sem.run, hg, run_checkKey, h3, hold, run_keyStays]
    · simp only
      rw [Array.getElem?_setIfInBounds_self_of_lt hlt]
    · rw [Array.toList_modify]
      exact he.again hj h1
  · refine ⟨_, ?_, ⟨es.push { key := plcV a b, val := .bool true, born := clock }, clock + 1, ?_, ?_⟩, hset (.map (es.push { key := plcV a b, val := .bool true, born := clock }) (clock + 1))⟩
    · simp [Instr.mapUpdate, hu, getObj, setObj, Sem.run, hg, run_checkKey, h3]
    · simp only
      rw [Array.getElem?_setIfInBounds_self_of_lt hlt]
    · rw [Array.toList_push]
      exact he.push a b clock
theorem SetM.other {w w' : World} {g : Nat} {S : List (Int × Int)} (h : SetM w g S) (he : w'.heap[g]? = w.heap[g]?) : SetM w' g S := by
  obtain ⟨es, clock, hg, hs⟩ := h
  exact ⟨es, clock, he.trans hg, hs⟩
theorem wpList_setM {P : Program} (hP : P = Tryz.prog) {w : World} {ops : Array Oper} {rest : List Oper} {o : Oper} {a : Act} {Q : Exit → Act → World → Prop} (hg : o.guard = none) (m x v : Operand)
    (hop : o.op = Op.mapUpdate 187 m x v) (g : Nat) (S : List (Int × Int)) (hm : a.eval m = .map (some g)) (hs : SetM w g S) (p q : Int) (hx : a.eval x = plcV p q) (hv : a.eval v = .bool true)
    (hK : ∀ w', SetM w' g ((p, q) :: S) → (∀ N, N ≤ g → Below N w w') → (∀ k, k ≠ g → w'.heap[k]? = w.heap[k]?) → w'.heap.size = w.heap.size → wpList P ops Q rest (a.put o.dst undef) w') : wpList P ops Q (o :: rest) a w := by
  subst hP
  refine wpList_plain hg fun K' hK' => ?_
  obtain ⟨w', hrun, r1, r2, r3, r4⟩ := hs.update p q
  unfold Oper.wp
  simp [execOp, hop, hm, hx, hv, hrun, Result.andThen]
  exact hK' _ _ (hK w' r1 r2 r3 r4)
end Go.Proofs.YtekjdeibnfaehaaGreat
/- Which records stand. -/
namespace Go.Proofs.YtekjdeibnfaehaaGreat
open Go.RowKit
open Go.Maps

theorem info_bool : (Tryz.prog.info? 4).map (fun i => (i.zero, i.size, i.bytes)) = some (some (.bool false), 1, 1) := by kernel_rfl
/-- The row of answers when k are left. -/
def boolRow (l : List Rec) (k : Nat) : List Value := (List.replicate k false ++ standL (l.drop k)).map Value.bool
theorem boolRow_length (l : List Rec) {k : Nat} (hk : k ≤ l.length) : (boolRow l k).length = l.length := by
  simp [boolRow, standL_length]; omega
theorem boolRow_all (l : List Rec) : boolRow l l.length = List.replicate l.length (Value.bool false) := by
  simp [boolRow, standL, standG]
theorem boolRow_zero (l : List Rec) : boolRow l 0 = (standL l).map Value.bool := by simp [boolRow]
/-- What round m finds. -/
def standAt (l : List Rec) (m : Nat) (r : Rec) : Bool := decide (r.kind = 1) || !(goneL (l.drop (m + 1))).contains (r.ao, r.sq)
theorem boolRow_step (l : List Rec) (m : Nat) (hm : m < l.length) : boolRow l m = (boolRow l (m + 1)).set m (.bool (standAt l m l[m])) := by
  have hd : l.drop m = l[m] :: l.drop (m + 1) := (List.getElem_cons_drop hm).symm
  have h1 : standL (l.drop m) = standAt l m l[m] :: standL (l.drop (m + 1)) := by rw [hd, standL_cons]; rfl
  unfold boolRow
  rw [h1, List.replicate_succ', List.map_append, List.map_append, List.map_append, List.append_assoc]
  rw [List.set_append_right _ _ (by simp)]
  simp
theorem goneL_step (l : List Rec) (m : Nat) (hm : m < l.length) : goneL (l.drop m) = if (standAt l m l[m] && decide (l[m].kind = 0)) = true then (l[m].wo, l[m].ws) :: goneL (l.drop (m + 1)) else goneL (l.drop (m + 1)) := by
  have hd : l.drop m = l[m] :: l.drop (m + 1) := (List.getElem_cons_drop hm).symm
  rw [hd, goneL_cons]; rfl
theorem madeBools (n : Nat) : madeCells #[.bool false] n = (List.replicate n (Value.bool false)).toArray := by
  apply Array.ext'
  simp [madeCells]
  apply List.ext_getElem
  · simp
  · intro i h1 h2
    simp [Nat.mod_one]
theorem run_makeSet (W : World) : (Instr.makeMap 187 none).run Tryz.prog W = .ok (.map (some W.heap.size)) (W.alloc (.map #[] 0)) := by
  rfl
structure StandW (w wr : World) (l : List Rec) (k : Nat) : Prop where
  ext : Ext w wr
  row : wr.heap[w.heap.size]? = some (.cells (boolRow l k).toArray 4)
  set : SetM wr (w.heap.size + 1) (goneL (l.drop k))
theorem StandW.lt {w wr : World} {l : List Rec} {k : Nat} (h : StandW w wr l k) : w.heap.size + 1 < wr.heap.size := by
  obtain ⟨es, clock, hg, _⟩ := h.set
  exact (Array.getElem?_eq_some_iff.1 hg).1
theorem StandW.stored {w wr : World} {l : List Rec} {m : Nat} (h : StandW w wr l (m + 1)) (hm : m < l.length) (o : Obj) :
    Ext w ((wr.setCell ⟨w.heap.size, m, none⟩ (.bool (standAt l m l[m]))).alloc o) ∧ ((wr.setCell ⟨w.heap.size, m, none⟩ (.bool (standAt l m l[m]))).alloc o).heap[w.heap.size]? = some (.cells (boolRow l m).toArray 4) ∧
      SetM ((wr.setCell ⟨w.heap.size, m, none⟩ (.bool (standAt l m l[m]))).alloc o) (w.heap.size + 1) (goneL (l.drop (m + 1))) := by
  have hlt := h.lt
  have hrow : wr.setCell ⟨w.heap.size, m, none⟩ (.bool (standAt l m l[m])) = wr.setRow w.heap.size (boolRow l m).toArray := by
    rw [setCell_eq_setRow wr w.heap.size m _ 4 (0, 0) _ h.row, boolRow_step l m hm]
    simp
  rw [hrow]
  have hh := setRow_heap wr w.heap.size _ (boolRow l m).toArray _ _ h.row
  refine ⟨(h.ext.setRow _ _ (Nat.le_refl _)).alloc _, ?_, ?_⟩
  · rw [Below.heap_alloc _ _ _ (Array.getElem?_eq_some_iff.1 hh).1]
    exact hh
  · exact (h.set.other (setRow_other _ _ _ _ (by omega))).alloc _
theorem StandW.noted {w W W' : World} {l : List Rec} {m : Nat} (hx : Ext w W) (hr : W.heap[w.heap.size]? = some (.cells (boolRow l m).toArray 4)) (S : List (Int × Int)) (hS : goneL (l.drop m) = S)
    (h1 : SetM W' (w.heap.size + 1) S) (h2 : ∀ N, N ≤ w.heap.size + 1 → Below N W W') (h3 : ∀ k, k ≠ w.heap.size + 1 → W'.heap[k]? = W.heap[k]?) : StandW w W' l m :=
  ⟨Ext.of_below (hx.below.trans (h2 _ (by omega))), (h3 _ (by omega)).trans hr, by rw [hS]; exact h1⟩
set_option maxRecDepth 100000 in
set_option maxHeartbeats 4000000 in
theorem standing_any (A : Option Addr) (c n : Nat) (l : List Rec) (hn : l.length = n) (hbig : n ≤ 100000) (w : World) (hr : Recs w A l) :
    Calls Tryz.prog 83 #[.slice A n c] w fun e w' => e = .returned (.slice (some ⟨w.heap.size, 0, none⟩) n n) ∧ Hid (w.heap.size < w'.heap.size ∧ ∀ (j : Nat) b, (standL l)[j]? = some b → w'.cell? ⟨w.heap.size, j, none⟩ = some (.bool b)) ∧ Ext w w' := by
  obtain ⟨i0, hi0, hz0, hzs, hzb⟩ := info_parts info_bool
  have hmk := run_makeSet
  go_enter Tryz.func83, Tryz.ntmps83
  go_wp2_with (at_make; refine wpList_make_row _ rfl _ _ 142 rfl 4 i0 _ Tryz.underlying142 hi0 hz0 hzs rfl .i64 .i64 n rfl rfl (by rw [hzb]; omega) (by omega) ?_)
  go_loopw [5, 6] (fun i _ wr => ∃ k : Nat, k ≤ n ∧ i = .int .i64 ((k : Int) - 1) ∧ StandW w wr l k) (fun i _ _ => (intOf i + 1).toNat)
  case atStart =>
    refine ⟨n, Nat.le_refl _, rfl, ⟨(by repeat (first | (with_reducible first | exact Ext.refl _ | exact Ext.same _ _ _ _ | assumption | apply Ext.alloc | apply Ext.ext | apply Ext.drew) | (with_reducible refine Ext.setCell ?_ _ _ ?_; rotate_left; focus (first | omega | (simp only [zs1, zs2, zs3, size_ext]; omega))))), ?_, ?_⟩⟩
    · rw [← hn, boolRow_all, madeBools]
      rw [Below.heap_alloc _ _ _ (by simp)]
      exact heap_alloc_new w _
    · rw [← hn, List.drop_length]
      exact SetM.new _ _ (by simp [World.size_alloc])
  case round =>
    obtain ⟨k, hk, rfl, hst⟩ := hrel
    by_cases h0 : k = 0
    · subst h0
      go_wp2_with fail
      go_ret
      refine ⟨rfl, hid ⟨by have := hst.lt; omega, fun j b hu => ?_⟩, hst.ext⟩
      have hrow := hst.row
      rw [boolRow_zero] at hrow
      simp only [World.cell?, hrow, Option.isSome_none, Bool.false_eq_true, if_false]
      rw [List.getElem?_toArray, List.getElem?_map, hu]
      rfl
    · obtain ⟨m, rfl⟩ : ∃ m, k = m + 1 := ⟨k - 1, by omega⟩
      have hm : m < l.length := by omega
      have hlt := hst.lt
      have hlt0 : w.heap.size < wr.heap.size := by omega
      have hr2 := hr.of_ext hst.ext
      obtain ⟨g, of, rfl, hg⟩ := hr2.addr (by omega)
      have hrow := hr2.row hm
      have hs := fun o => hst.stored hm o
      have hgn := goneL_step l m hm
      obtain ⟨r, hrk⟩ : ∃ r, l[m] = r := ⟨_, rfl⟩
      rw [hrk] at hrow hgn
      simp only [hrk] at hs
      obtain ⟨h0, h1, h2, h3, h4, h5, h6, h7, h8, h9, h10⟩ := hrow
      clear hrk
      have hcell : ∃ v, wr.cell? ⟨w.heap.size, m, none⟩ = some v := by
        refine ⟨(boolRow l (m + 1))[m]'(by rw [boolRow_length l (by omega)]; omega), ?_⟩
        simp [World.cell?, hst.row]
      obtain ⟨v0, hcell⟩ := hcell
      have hfz : wr.frozen? ⟨w.heap.size, m, none⟩ = false := by simp [World.frozen?, hst.row]
      have hlk := (hst.set.alloc (.cells #[.int .i64 r.ao, .int .i64 r.sq, .int .i64 r.kind, .int .i64 r.ship, .int .i64 r.day, .int .i64 r.known, .int .i64 r.wo, .int .i64 r.ws, .int .i64 r.to, .int .i64 r.til, .string r.text] 46)).lookup r.ao r.sq
      have e2 : (((m + 1 : Nat) : Int) - 1) = m := by omega
      rw [e2]
      cases k1 : (r.kind == 1) with
      | true =>
        have hb : standAt l m r = true := by simp [standAt, eq_of_beq k1]
        rw [hb] at hs hgn
        rw [if_neg (by simp [eq_of_beq k1])] at hgn
        have k0 : (r.kind == 0) = false := by simp [eq_of_beq k1]
        obtain ⟨s1, s2, s3⟩ := hs (.cells #[.int .i64 r.ao, .int .i64 r.sq, .int .i64 r.kind, .int .i64 r.ship, .int .i64 r.day, .int .i64 r.known, .int .i64 r.wo, .int .i64 r.ws, .int .i64 r.to, .int .i64 r.til, .string r.text] 46)
        have HS := hid (StandW.mk s1 s2 (by rw [hgn]; exact s3))
        clear hs s1 s2 s3 hgn hb hst
        go_wp2_with fail
        exact ⟨⟨m, by omega, by go_num, HS.out⟩, by simp [intOf]⟩
      | false =>
        have k1' : ¬ r.kind = 1 := by simpa using k1
        cases hct : (goneL (l.drop (m + 1))).contains (r.ao, r.sq) with
        | true =>
          have hb : standAt l m r = false := by simp only [standAt, hct]; simp [k1']
          clear k1'
          rw [hb] at hs hgn
          rw [if_neg (by simp)] at hgn
          rw [hct] at hlk
          obtain ⟨s1, s2, s3⟩ := hs (.cells #[.int .i64 r.ao, .int .i64 r.sq, .int .i64 r.kind, .int .i64 r.ship, .int .i64 r.day, .int .i64 r.known, .int .i64 r.wo, .int .i64 r.ws, .int .i64 r.to, .int .i64 r.til, .string r.text] 46)
          have HS := hid (StandW.mk s1 s2 (by rw [hgn]; exact s3))
          clear hs s1 s2 s3 hgn hb hst hct
          go_wp2_with fail
          exact ⟨⟨m, by omega, by go_num, HS.out⟩, by simp [intOf]⟩
        | false =>
          have hb : standAt l m r = true := by simp only [standAt, hct]; simp
          clear k1'
          rw [hb] at hs hgn
          rw [hct] at hlk
          obtain ⟨s1, s2, s3⟩ := hs (.cells #[.int .i64 r.ao, .int .i64 r.sq, .int .i64 r.kind, .int .i64 r.ship, .int .i64 r.day, .int .i64 r.known, .int .i64 r.wo, .int .i64 r.ws, .int .i64 r.to, .int .i64 r.til, .string r.text] 46)
          cases k0 : (r.kind == 0) with
          | true =>
            rw [if_pos (by simp [eq_of_beq k0])] at hgn
            have HG := hid hgn
            have S1 := hid s1
            have S2 := hid s2
            have S3 := hid s3
            clear hs s1 s2 s3 hgn hb hst hct
            go_wp2_with (at_mapUpdate; refine wpList_setM rfl rfl _ _ _ rfl (w.heap.size + 1) _ rfl S3.out r.wo r.ws rfl rfl (fun w9 q1 q2 q3 q4 => ?_))
            exact ⟨⟨m, by omega, by go_num, StandW.noted S1.out S2.out _ HG.out q1 q2 q3⟩, by simp [intOf]⟩
          | false =>
            rw [if_neg (by have k0' : ¬ r.kind = 0 := by simpa using k0
                           simp [k0'])] at hgn
            have HS := hid (StandW.mk s1 s2 (by rw [hgn]; exact s3))
            clear hs s1 s2 s3 hgn hb hst hct
            go_wp2_with fail
            exact ⟨⟨m, by omega, by go_num, HS.out⟩, by simp [intOf]⟩
end Go.Proofs.YtekjdeibnfaehaaGreat
