/- slices.DeleteFunc of the records that were known later. -/
import Derived.Test.YtekjdeibnfaehaaGreatNext
set_option linter.unusedSimpArgs false
set_option linter.unusedVariables false
namespace Go.Proofs.YtekjdeibnfaehaaGreat
open Go.RowKit

/-- Known later. -/
def lateB (day : Int) (r : Rec) : Bool := decide (day < r.known)
theorem knownL_late (l : List Rec) (day : Int) : knownL l day = l.filter fun r => !lateB day r := by
  unfold knownL lateB
  congr 1
  funext r
  by_cases h : day < r.known
  · simp [h]
  · simp [h]; omega
set_option maxHeartbeats 1000000 in
theorem late_any (r : Rec) (day : Int) (b : Nat) (w : World) (hc : w.cell? ⟨b, 0, none⟩ = some (.int .i64 day)) (hb : b < w.heap.size) :
    Calls Tryz.prog 91 #[recV r, .pointer (some ⟨b, 0, none⟩)] w fun e w' => e = .returned (.bool (lateB day r)) ∧ Ext w w' := by
  go_enter Tryz.func91, Tryz.ntmps91
  go_wp2_with fail
  go_ret
  exact ⟨rfl, (by repeat (first | (with_reducible first | exact Ext.refl _ | exact Ext.same _ _ _ _ | assumption | apply Ext.alloc | apply Ext.ext | apply Ext.drew) | (with_reducible refine Ext.setCell ?_ _ _ ?_; rotate_left; focus (first | omega | (simp only [zs1, zs2, zs3, size_ext]; omega)))))⟩
/-- The first of a row that was known later. -/
def lateI (l : List Rec) (day : Int) : Int := if l.any (lateB day) = true then (l.findIdx (lateB day) : Nat) else -1
theorem lateI_hit {l : List Rec} {day : Int} {k : Nat} (hk : k < l.length) (h : lateB day l[k] = true) (hno : ∀ t (ht : t < l.length), t < k → lateB day l[t] = false) : lateI l day = k := by
  have hh : l.any (lateB day) = true := List.any_eq_true.2 ⟨_, List.getElem_mem hk, h⟩
  rw [lateI, if_pos hh, (List.findIdx_eq hk).2 ⟨h, fun j hj => hno j (by omega) hj⟩]
theorem lateI_none {l : List Rec} {day : Int} (hno : ∀ t (ht : t < l.length), lateB day l[t] = false) : lateI l day = -1 := by
  have hh : l.any (lateB day) = false := by
    rw [List.any_eq_false]
    intro x hx
    obtain ⟨t, ht, rfl⟩ := List.getElem_of_mem hx
    rw [hno t ht]; simp
  rw [lateI, hh]; rfl
set_option maxRecDepth 100000 in
set_option maxHeartbeats 4000000 in
theorem Index_any (A : Option Addr) (c n : Nat) (l : List Rec) (day : Int) (b : Nat) (hn : l.length = n) (hbig : n ≤ 1000000) (w : World) (hr : Recs w A l) (hc : w.cell? ⟨b, 0, none⟩ = some (.int .i64 day)) (hb : b < w.heap.size) :
    Calls Tryz.prog 137 #[.slice A n c, .func (.func 91) #[] #[.pointer (some ⟨b, 0, none⟩)]] w fun e w' => e = .returned (.int .i64 (lateI l day)) ∧ Ext w w' := by
  go_enter Tryz.func137, Tryz.ntmps137
  go_wp2_with fail
  go_loopw [8] (fun i wr => ∃ k : Nat, k ≤ n ∧ i = .int .i64 k ∧ Ext w wr ∧ (∀ t (ht : t < l.length), t < k → lateB day l[t] = false)) (fun i _ => n - (intOf i).toNat)
  case atStart => exact ⟨0, Nat.zero_le _, rfl, Ext.refl _, fun t _ h => absurd h (Nat.not_lt_zero _)⟩
  case round =>
    obtain ⟨k, hk, rfl, ⟨E0, d0, rfl⟩, hno⟩ := hrel
    have Hno := hid hno
    clear hno
    by_cases hlt : k < n
    · have hm : k < l.length := by omega
      obtain ⟨g, of, rfl, hg⟩ := hr.addr (by omega)
      obtain ⟨h0, h1, h2, h3, h4, h5, h6, h7, h8, h9, h10⟩ := hr.row hm
      obtain ⟨r, hrk⟩ : ∃ r, l[k] = r := ⟨_, rfl⟩
      rw [hrk] at h0 h1 h2 h3 h4 h5 h6 h7 h8 h9 h10
      have Hrk := hid hrk
      clear hrk
      cases hat : lateB day r with
      | true =>
        have Hf := hid (lateI_hit hm (by rw [Hrk.out]; exact hat) (fun t h1 h2 => Hno.out t h1 h2))
        go_wp2_with (go_at_call 91; refine (late_any _ day b _ (by go_simp; try assumption) (by (try simp only [World.size_alloc, size_ext, World.size_drew, World.size_setCell]); omega)).mono ?_; rintro e w1 ⟨rfl, E1, d1, rfl⟩)
        go_ret
        exact ⟨ret_val (by rw [Hf.out]; rfl), (by repeat (first | (with_reducible first | exact Ext.refl _ | exact Ext.same _ _ _ _ | assumption | apply Ext.alloc | apply Ext.ext | apply Ext.drew) | (with_reducible refine Ext.setCell ?_ _ _ ?_; rotate_left; focus (first | omega | (simp only [zs1, zs2, zs3, size_ext]; omega)))))⟩
      | false =>
        have Hno' : Hid (∀ t (ht : t < l.length), t < k + 1 → lateB day l[t] = false) := hid fun t h1 h2 => by
          by_cases he : t = k
          · subst he; rw [Hrk.out]; exact hat
          · exact Hno.out t h1 (by omega)
        go_wp2_with (go_at_call 91; refine (late_any _ day b _ (by go_simp; try assumption) (by (try simp only [World.size_alloc, size_ext, World.size_drew, World.size_setCell]); omega)).mono ?_; rintro e w1 ⟨rfl, E1, d1, rfl⟩)
        exact ⟨⟨k + 1, by omega, by go_num, (by repeat (first | (with_reducible first | exact Ext.refl _ | exact Ext.same _ _ _ _ | assumption | apply Ext.alloc | apply Ext.ext | apply Ext.drew) | (with_reducible refine Ext.setCell ?_ _ _ ?_; rotate_left; focus (first | omega | (simp only [zs1, zs2, zs3, size_ext]; omega))))), Hno'.out⟩, by simp [intOf]; omega⟩
    · obtain rfl : k = n := by omega
      have Hf := hid (lateI_none (day := day) (fun t ht => Hno.out t ht (by omega)))
      go_wp2_with fail
      go_ret
      exact ⟨ret_val (by rw [Hf.out]; rfl), (by repeat (first | (with_reducible first | exact Ext.refl _ | exact Ext.same _ _ _ _ | assumption | apply Ext.alloc | apply Ext.ext | apply Ext.drew) | (with_reducible refine Ext.setCell ?_ _ _ ?_; rotate_left; focus (first | omega | (simp only [zs1, zs2, zs3, size_ext]; omega)))))⟩
theorem setCells_eq_setRow (g : Nat) (t : TypeId) : ∀ (vs : List Value) (o : Nat) (cur : Array Value) (w : World), w.heap[g]? = some (.cells cur t (0, 0)) → o + vs.length ≤ cur.size →
    w.setCells g o vs = w.setRow g (cur.toList.take o ++ vs ++ cur.toList.drop (o + vs.length)).toArray
  | [], o, cur, w, hg, _ => by
    simp only [World.setCells, List.append_nil, List.length_nil, Nat.add_zero, List.take_append_drop, Array.toArray_toList]
    rw [setRow_self w g cur t (0, 0) hg]
  | v :: rest, o, cur, w, hg, hl => by
    have hi : o < cur.size := by simp at hl; omega
    have hs : w.setCell ⟨g, o, none⟩ v = w.setRow g (cur.setIfInBounds o v) := setCell_eq_setRow w g o cur t (0, 0) v hg
    rw [World.setCells, hs, setCells_eq_setRow g t rest (o + 1) (cur.setIfInBounds o v) _ (setRow_heap w g cur _ t _ hg) (by simp at hl ⊢; omega), setRow_setRow]
    congr 2
    have e := list_seg_step cur.toList o v rest (by simp at hl ⊢; omega)
    simpa [Array.toList_setIfInBounds, Nat.add_assoc] using e
/-- A record's cells laid. -/
abbrev set11 (w : World) (g o : Nat) (r : Rec) : World :=
  ((((((((((w.setCell ⟨g, o, none⟩ (.int .i64 r.ao)).setCell ⟨g, o + 1, none⟩ (.int .i64 r.sq)).setCell ⟨g, o + 2, none⟩ (.int .i64 r.kind)).setCell ⟨g, o + 3, none⟩ (.int .i64 r.ship)).setCell ⟨g, o + 4, none⟩ (.int .i64 r.day)).setCell ⟨g, o + 5, none⟩ (.int .i64 r.known)).setCell
    ⟨g, o + 6, none⟩ (.int .i64 r.wo)).setCell ⟨g, o + 7, none⟩ (.int .i64 r.ws)).setCell ⟨g, o + 8, none⟩ (.int .i64 r.to)).setCell ⟨g, o + 9, none⟩ (.int .i64 r.til)).setCell ⟨g, o + 10, none⟩ (.string r.text)
theorem set11_row (w : World) (g o : Nat) (r : Rec) (cur : Array Value) (t : TypeId) (hg : w.heap[g]? = some (.cells cur t (0, 0))) (hl : o + 11 ≤ cur.size) :
    set11 w g o r = w.setRow g (cur.toList.take o ++ encRec r ++ cur.toList.drop (o + 11)).toArray :=
  (show set11 w g o r = w.setCells g o (encRec r) from rfl).trans (setCells_eq_setRow g t (encRec r) o cur w hg hl)
/-- The row while records are taken out. -/
structure DelW (X wr : World) (g c : Nat) (l : List Rec) (day : Int) (i j : Nat) : Prop where
  ext : Ext X wr
  hij : i ≤ j
  row : ∃ (cur : Array Value) (row : List Rec), wr.heap[g]? = some (.cells cur 46 (0, 0)) ∧ cur.size = c * 11 ∧ row.length = l.length ∧ cur.toList.take (l.length * 11) = row.flatMap encRec ∧ row.take i = knownL (l.take j) day ∧ row.drop j = l.drop j
theorem DelW.alloc {X wr : World} {g c : Nat} {l : List Rec} {day : Int} {i j : Nat} (h : DelW X wr g c l day i j) (o : Obj) : DelW X (wr.alloc o) g c l day i j := by
  obtain ⟨h1, h2, cur, row, h3, h4⟩ := h
  exact ⟨h1.alloc o, h2, cur, row, by rw [Below.heap_alloc _ _ _ (Array.getElem?_eq_some_iff.1 h3).1]; exact h3, h4⟩
theorem DelW.grown {X wr : World} {g c : Nat} {l : List Rec} {day : Int} {i j : Nat} (h : DelW X wr g c l day i j) (E : Array Obj) (d : Nat) : DelW X (wr.ext E d) g c l day i j := by
  obtain ⟨h1, h2, cur, row, h3, h4⟩ := h
  exact ⟨h1.ext E d, h2, cur, row, by rw [heap_ext _ _ _ _ (Array.getElem?_eq_some_iff.1 h3).1]; exact h3, h4⟩
theorem knownL_snoc (l : List Rec) (day : Int) {j : Nat} (hj : j < l.length) : knownL (l.take (j + 1)) day = knownL (l.take j) day ++ if lateB day l[j] = true then [] else [l[j]] := by
  rw [List.take_succ_eq_append_getElem hj, knownL_late, knownL_late, List.filter_append]
  congr 1
  cases h : lateB day l[j] <;> simp [h]
theorem DelW.late {X wr : World} {g c : Nat} {l : List Rec} {day : Int} {i j : Nat} (h : DelW X wr g c l day i j) (hj : j < l.length) (hb : lateB day l[j] = true) : DelW X wr g c l day i (j + 1) := by
  obtain ⟨h1, h2, cur, row, h3, h4, h5, h6, h7, h8⟩ := h
  refine ⟨h1, by omega, cur, row, h3, h4, h5, h6, ?_, ?_⟩
  · rw [knownL_snoc l day hj, if_pos hb, List.append_nil]; exact h7
  · rw [← List.drop_drop, ← List.drop_drop, h8]
theorem flat_set (row : List Rec) (r : Rec) (i : Nat) (hi : i < row.length) : (row.set i r).flatMap encRec = (row.flatMap encRec).take (i * 11) ++ encRec r ++ (row.flatMap encRec).drop (i * 11 + 11) := by
  rw [show i * 11 + 11 = (i + 1) * 11 by omega, recs_take, recs_drop, List.set_eq_take_append_cons_drop, if_pos hi, List.flatMap_append, List.flatMap_cons]
  simp only [List.append_assoc]
theorem DelW.keep {X wr : World} {g c : Nat} {l : List Rec} {day : Int} {i j : Nat} (h : DelW X wr g c l day i j) (hg : X.heap.size ≤ g) (hj : j < l.length) (hc : l.length ≤ c) (hb : lateB day l[j] = false) : DelW X (set11 wr g (i * 11) l[j]) g c l day (i + 1) (j + 1) := by
  obtain ⟨h1, h2, cur, row, h3, h4, h5, h6, h7, h8⟩ := h
  have hsz : i * 11 + 11 ≤ cur.size := by rw [h4]; have := Nat.mul_le_mul_right 11 hc; omega
  have hil : i < row.length := by omega
  rw [set11_row wr g (i * 11) l[j] cur _ h3 hsz]
  have hlr : (row.take i).length = i := by rw [List.length_take]; omega
  refine ⟨h1.setRow _ _ hg, by omega, _, row.set i l[j], setRow_heap _ _ _ _ _ _ h3, ?_, by simpa using h5, ?_, ?_, ?_⟩
  · rw [List.size_toArray, List.length_append, List.length_append, List.length_take, List.length_drop, encRec_length, Array.length_toList]; omega
  · rw [flat_set row l[j] i hil, ← h6]
    simp only
    have e : (l.length * 11) = i * 11 + 11 + (l.length * 11 - (i * 11 + 11)) := by omega
    have h9 : (cur.toList.take (i * 11) ++ encRec l[j]).length = i * 11 + 11 := by rw [List.length_append, encRec_length, List.length_take, Array.length_toList]; omega
    rw [List.take_append, h9, List.take_of_length_le (by omega), List.take_take, Nat.min_eq_left (by omega), List.drop_take]
  · rw [List.take_succ_eq_append_getElem (by simpa using hil), knownL_snoc l day hj, if_neg (by simp [hb])]
    congr 1
    · rw [← h7, List.take_set_of_le (Nat.le_refl _)]
    · simp
  · rw [List.drop_set_of_lt (by omega), ← List.drop_drop, ← List.drop_drop, h8]
/-- The record that is looked at. -/
theorem DelW.look {X wr : World} {g c : Nat} {l : List Rec} {day : Int} {i j : Nat} (h : DelW X wr g c l day i j) (hj : j < l.length) : RecAt wr g (j * 11) l[j] := by
  obtain ⟨h1, h2, cur, row, h3, h4, h5, h6, h7, h8⟩ := h
  have hr : Recs wr (some ⟨g, 0, none⟩) row := by
    refine ⟨by rw [recs_length], fun _ => ⟨g, 0, rfl, (Array.getElem?_eq_some_iff.1 h3).1, fun k u hu => ?_⟩⟩
    rw [← h6, List.getElem?_take] at hu
    split at hu
    · simp only [World.cell?, h3, Nat.zero_add, Option.isSome_none, Bool.false_eq_true, if_false]
      rw [← hu, Array.getElem?_toList]
    · cases hu
  have := hr.row (i := j) (by omega)
  rw [Nat.zero_add] at this
  have he : row[j]'(by omega) = l[j] := by
    have e1 : (row.drop j)[0]? = (l.drop j)[0]? := by rw [h8]
    rw [List.getElem?_drop, List.getElem?_drop, Nat.add_zero, List.getElem?_eq_getElem (by omega), List.getElem?_eq_getElem hj] at e1
    exact Option.some.inj e1
  rw [he] at this
  exact this
theorem DelW.cells {X wr : World} {g c : Nat} {l : List Rec} {day : Int} {i j : Nat} (h : DelW X wr g c l day i j) (hi : i < l.length) (hc : l.length ≤ c) : g < wr.heap.size ∧ ∀ k, k < 11 → (∃ v, wr.cell? ⟨g, i * 11 + k, none⟩ = some v) ∧ wr.frozen? ⟨g, i * 11 + k, none⟩ = false := by
  obtain ⟨h1, h2, cur, row, h3, h4, h5, h6, h7, h8⟩ := h
  refine ⟨(Array.getElem?_eq_some_iff.1 h3).1, fun k hk => ?_⟩
  have hsz : i * 11 + 11 ≤ cur.size := by rw [h4]; have := Nat.mul_le_mul_right 11 hc; omega
  refine ⟨⟨cur[i * 11 + k]'(by omega), ?_⟩, ?_⟩
  · simp only [World.cell?, h3, Option.isSome_none, Bool.false_eq_true, if_false]
    rw [Array.getElem?_eq_getElem (by omega)]
  · simp [World.frozen?, h3]
theorem DelW.clear {X wr : World} {g c : Nat} {l : List Rec} {day : Int} {i : Nat} (h : DelW X wr g c l day i l.length) (hg : X.heap.size ≤ g) (hi : i < l.length) (hc : l.length ≤ c) (ty : TypeId) (cc : Nat) : ∃ w', (Builtin.clear_ #[32] ty #[.slice (some ⟨g, i * 11, none⟩) (l.length - i) cc]).run Tryz.prog wr = .ok (.tuple #[]) w' ∧
    Recs w' (some ⟨g, 0, none⟩) (knownL l day) ∧ Ext X w' ∧ i = (knownL l day).length := by
  obtain ⟨h1, h2, cur, row, h3, h4, h5, h6, h7, h8⟩ := h
  rw [List.take_length] at h7
  have hz : ∀ w, (zeroValue 46).run Tryz.prog w = .ok (.agg zeros11) w := fun w => by
    obtain ⟨i0, hi, hz0, hz1, hz2⟩ := info_parts info_rec
    simp [zeroValue, typeInfo, hi, hz0, zeros11]
  have hsz : (l.length * 11) ≤ cur.size := by rw [h4]; exact Nat.mul_le_mul_right 11 hc
  have hzl : (Builtin.zeroCells zeros11 (l.length - i)).toList.length = (l.length - i) * 11 := by
    rw [Array.length_toList, size_zeroCells]; rfl
  have hst := run_storeCells_at Tryz.prog g (i * 11) 46 (Builtin.zeroCells zeros11 (l.length - i)).toList 0 cur wr h3 (by rw [hzl]; omega) (by
    intro v hv
    simp [Builtin.zeroCells] at hv
    obtain ⟨k, hk, rfl⟩ := hv
    have : k % 11 < 11 := Nat.mod_lt _ (by decide)
    have hall : ∀ t : Fin 11, (zeros11[t.1]!).oneCell' = true := by decide
    exact hall ⟨k % zeros11.size, Nat.mod_lt _ (by decide)⟩)
  simp only [Nat.add_zero] at hst
  have hkl : (knownL l day).length = i := by rw [← h7, List.length_take]; omega
  refine ⟨wr.setRow g (cur.toList.take (i * 11) ++ (Builtin.zeroCells zeros11 (l.length - i)).toList ++ cur.toList.drop (i * 11 + (Builtin.zeroCells zeros11 (l.length - i)).toList.length)).toArray, ?_, ?_, h1.setRow _ _ hg, hkl.symm⟩
  · obtain ⟨m, hm⟩ : ∃ m, l.length - i = m + 1 := ⟨l.length - i - 1, by omega⟩
    rw [hm] at hst ⊢
    have hst' : (storeCells ⟨g, i * 11, none⟩ (Builtin.zeroCells (Value.agg zeros11).cells (m + 1)).toList).run Tryz.prog wr = _ := hst
    simp only [Builtin.clear_, List.getElem?_toArray, List.getElem?_cons_zero, Sem.run_bind, run_underlying Tryz.underlying32, Result.andThen_ok, hz, hst', Sem.run_pure]
  · have h9 := setRow_heap wr g _ (cur.toList.take (i * 11) ++ (Builtin.zeroCells zeros11 (l.length - i)).toList ++ cur.toList.drop (i * 11 + (Builtin.zeroCells zeros11 (l.length - i)).toList.length)).toArray _ _ h3
    refine ⟨by rw [recs_length], fun _ => ⟨g, 0, rfl, (Array.getElem?_eq_some_iff.1 h9).1, fun k u hu => ?_⟩⟩
    have hk : k < i * 11 := by
      have := (List.getElem?_eq_some_iff.1 hu).1
      rw [recs_length, hkl] at this
      exact this
    simp only [World.cell?, h9, Nat.zero_add, Option.isSome_none, Bool.false_eq_true, if_false]
    rw [← hu, ← h7, ← recs_take, ← h6, List.take_take, Nat.min_eq_left (by omega), List.getElem?_toArray, List.append_assoc, List.getElem?_append_left (by rw [List.length_take, Array.length_toList]; omega)]
theorem wpList_clear_run {P : Program} (w : World) {ops : Array Oper} {rest : List Oper} {o : Oper} {a : Act} {Q : Exit → Act → World → Prop} (hgd : o.guard = none) (d : Operand) (t : TypeId)
    (ho : o.op = .call { callee := .builtin .clear, args := #[d], argTypes := #[t] }) (v : Value) (hd : a.eval d = v) {v' : Value} {w' : World}
    (hr : (Builtin.clear_ #[t] o.type #[v]).run P w = .ok v' w') (h : wpList P ops Q rest (a.put o.dst v') w') : wpList P ops Q (o :: rest) a w := by
  refine wpList_plain hgd fun _ hK => ?_
  unfold Oper.wp execOp
  simp only [ho, resolve, invoke, builtin, Sem.run_bind, Sem.run_pure, Result.andThen_ok, List.map_toArray, List.map_cons, List.map_nil, hd, hr]
  exact hK _ _ h
set_option maxRecDepth 100000 in
set_option maxHeartbeats 8000000 in
theorem Delete_any (X : World) (A : Option Addr) (c n : Nat) (l : List Rec) (day : Int) (b : Nat) (hn : l.length = n) (hbig : l.length ≤ 1000000) (w : World) (ho : OwnR X.heap.size w (.slice A n c) l) (hx : Ext X w) (hc : X.cell? ⟨b, 0, none⟩ = some (.int .i64 day)) (hb : b < X.heap.size) :
    Calls Tryz.prog 89 #[.slice A n c, .func (.func 91) #[] #[.pointer (some ⟨b, 0, none⟩)]] w fun e w' =>
      ∃ A' n' c', e = .returned (.slice A' n' c') ∧ Hid (n' = (knownL l day).length) ∧ Recs w' A' (knownL l day) ∧ Ext X w' := by
  have hXw : X.heap.size ≤ w.heap.size := hx.below.size
  have hcw : ∀ W, Ext X W → W.cell? ⟨b, 0, none⟩ = some (.int .i64 day) := fun W hW => (Ext.cellOf hW hb).trans hc
  have hbw : b < w.heap.size := by omega
  obtain ⟨A0, c0, hv0, hnc, hr⟩ := ho.slice
  rw [hn] at hv0
  cases hv0
  cases hany : l.any (lateB day) with
  | false =>
    have hno : ∀ t (ht : t < l.length), lateB day l[t] = false := fun t ht => by
      rw [List.any_eq_false] at hany
      simpa using hany _ (List.getElem_mem ht)
    have hI := lateI_none hno
    have hk : knownL l day = l := by
      rw [knownL_late, List.filter_eq_self]
      intro r hr
      obtain ⟨t, ht, rfl⟩ := List.getElem_of_mem hr
      rw [hno t ht]; rfl
    have HK := hid hk
    have hcw0 := hcw w hx
    clear hno hk hany hcw
    go_enter Tryz.func89, Tryz.ntmps89
    go_wp2_with (go_at_call 137; refine (Index_any _ _ _ _ day b (by first | rfl | assumption) (by omega) _ (by with_reducible repeat (first | assumption | apply Recs.ext | apply Recs.alloc | apply Recs.drew | (refine Recs.of_ext ?_ (by assumption)))) (by go_simp; try assumption) (by (try simp only [World.size_alloc, size_ext, World.size_drew, World.size_setCell]); omega)).mono ?_; rintro e w1 ⟨rfl, E1, d1, rfl⟩)
    go_ret
    exact ⟨_, _, _, rfl, hid (by rw [HK.out]; exact hn.symm), by rw [HK.out]; exact hr.of_ext (by repeat (first | (with_reducible first | exact Ext.refl _ | exact Ext.same _ _ _ _ | assumption | apply Ext.alloc | apply Ext.ext | apply Ext.drew) | (with_reducible refine Ext.setCell ?_ _ _ ?_; rotate_left; focus (first | omega | (simp only [zs1, zs2, zs3, size_ext]; omega))))), hx.ext _ _⟩
  | true =>
    obtain ⟨r0, hr0, hl0⟩ := List.any_eq_true.1 hany
    obtain ⟨i0, hi0, hi1, hi2⟩ : ∃ i0, ∃ h : i0 < l.length, lateB day l[i0] = true ∧ ∀ t (ht : t < l.length), t < i0 → lateB day l[t] = false := by
      have hlt : l.findIdx (lateB day) < l.length := List.findIdx_lt_length_of_exists ⟨r0, hr0, hl0⟩
      refine ⟨_, hlt, List.findIdx_getElem, fun t ht h => ?_⟩
      have := List.not_of_lt_findIdx h
      simpa using this
    have hI := lateI_hit hi0 hi1 hi2
    have hk0 : knownL (l.take i0) day = l.take i0 := by
      rw [knownL_late, List.filter_eq_self]
      intro r hr
      obtain ⟨t, ht, rfl⟩ := List.mem_take_iff_getElem.1 hr
      rw [hi2 t (by omega) (by omega)]; rfl
    rcases ho.2 with ⟨_, h0⟩ | ⟨g, cap, cur, hvl, hgb, hgc, hnc', hcm, hcs, hcur⟩
    · omega
    rw [hn] at hvl
    cases hvl
    have hD0 : DelW X w g c l day i0 (i0 + 1) := by
      have : DelW X w g c l day i0 i0 := ⟨hx, Nat.le_refl _, cur, l, hgc, hcs, rfl, hcur, hk0.symm, rfl⟩
      exact this.late hi0 hi1
    have hcw0 := hcw w hx
    have hi0n : i0 < n := by omega
    have hcc : c ≤ 9223372036854775807 := hcm
    have HD0 := hid hD0
    have hib : ((i0 : Int) == -1) = false := by
      rw [beq_eq_false_iff_ne]; omega
    clear hk0 hany hi1 hi2 hl0 hr0 hcur hgc hD0 hcs
    go_enter Tryz.func89, Tryz.ntmps89
    go_wp2_with (go_at_call 137; refine (Index_any _ _ _ _ day b (by first | rfl | assumption) (by omega) _ (by with_reducible repeat (first | assumption | apply Recs.ext | apply Recs.alloc | apply Recs.drew | (refine Recs.of_ext ?_ (by assumption)))) (by go_simp; try assumption) (by (try simp only [World.size_alloc, size_ext, World.size_drew, World.size_setCell]); omega)).mono ?_; rintro e w1 ⟨rfl, E1, d1, rfl⟩)
    go_loopw [5, 6] (fun ii jj wr => ∃ i j : Nat, i < j ∧ j ≤ n ∧ ii = .int .i64 i ∧ jj = .int .i64 j ∧ DelW X wr g c l day i j) (fun _ jj _ => n - (intOf jj).toNat)
    case atStart => exact ⟨i0, i0 + 1, by omega, by omega, rfl, rfl, HD0.out.grown _ _⟩
    case round =>
      obtain ⟨i, j, hij, hj, rfl, rfl, hD⟩ := hrel
      have hiN : i < l.length := by omega
      have hcl : l.length ≤ c := by omega
      obtain ⟨hgw, hcells⟩ := hD.cells hiN hcl
      have hXr : X.heap.size ≤ wr.heap.size := hD.ext.below.size
      by_cases hlt : j < n
      · have hm : j < l.length := by omega
        have hrow := hD.look hm
        have hlate := fun h => hD.late hm h
        have hkeep := fun h => hD.keep hgb hm hcl h
        obtain ⟨r, hrk⟩ : ∃ r, l[j] = r := ⟨_, rfl⟩
        rw [hrk] at hrow
        simp only [hrk] at hlate hkeep
        obtain ⟨h0, h1, h2, h3, h4, h5, h6, h7, h8, h9, h10⟩ := hrow
        have hcwr := hcw _ hD.ext
        have hbr : b < wr.heap.size := by omega
        clear hrk hcw
        cases hat : lateB day r with
        | true =>
          have HL := hid (hlate hat)
          clear hlate hkeep hcells
          go_wp2_with (go_at_call 91; refine (late_any _ day b _ (by go_simp; try assumption) (by (try simp only [World.size_alloc, size_ext, World.size_drew, World.size_setCell]); omega)).mono ?_; rintro e w1 ⟨rfl, E1, d1, rfl⟩)
          exact ⟨⟨i, j + 1, by omega, by omega, rfl, by go_num, (HL.out.alloc _).grown _ _⟩, by simp [intOf]; omega⟩
        | false =>
          have HL := hid (hkeep hat)
          clear hlate hkeep
          obtain ⟨⟨v0, c0⟩, f0⟩ := hcells 0 (by omega)
          obtain ⟨⟨v1, c1⟩, f1⟩ := hcells 1 (by omega)
          obtain ⟨⟨v2, c2⟩, f2⟩ := hcells 2 (by omega)
          obtain ⟨⟨v3, c3⟩, f3⟩ := hcells 3 (by omega)
          obtain ⟨⟨v4, c4⟩, f4⟩ := hcells 4 (by omega)
          obtain ⟨⟨v5, c5⟩, f5⟩ := hcells 5 (by omega)
          obtain ⟨⟨v6, c6⟩, f6⟩ := hcells 6 (by omega)
          obtain ⟨⟨v7, c7⟩, f7⟩ := hcells 7 (by omega)
          obtain ⟨⟨v8, c8⟩, f8⟩ := hcells 8 (by omega)
          obtain ⟨⟨v9, c9⟩, f9⟩ := hcells 9 (by omega)
          obtain ⟨⟨v10, c10⟩, f10⟩ := hcells 10 (by omega)
          clear hcells
          simp only [Nat.add_zero] at c0 f0
          go_wp2_with (go_at_call 91; refine (late_any _ day b _ (by go_simp; try assumption) (by (try simp only [World.size_alloc, size_ext, World.size_drew, World.size_setCell]); omega)).mono ?_; rintro e w1 ⟨rfl, E1, d1, rfl⟩)
          exact ⟨⟨i + 1, j + 1, by omega, by omega, by go_num, by go_num, (HL.out.alloc _).grown _ _⟩, by simp [intOf]; omega⟩
      · obtain rfl : j = n := by omega
        subst hn
        have hrun := hD.clear hgb hiN hcl
        have hci : ¬ (c = i) := by omega
        have hci2 : i ≤ l.length := by omega
        obtain ⟨w9, q1, q2, q3, q4⟩ := hrun 0 (c - i)
        have Q4 := hid q4
        clear hrun hcells q4
        go_wp2_with fail
        go_ret
        exact ⟨_, _, _, rfl, hid Q4.out, q2, q3⟩
end Go.Proofs.YtekjdeibnfaehaaGreat
