/- Texts of a proof. -/
import Derived.Test.YtekjdeibnfaehaaGreatKAaa
import Derived.MapKept
/- isRecord: what a valid record is. -/
set_option linter.unusedSimpArgs false
set_option linter.unusedVariables false
namespace Go.Proofs.YtekjdeibnfaehaaGreat
open Go.RowKit

theorem run_mapUpdate_top {P : Program} (w : World) (t k e : TypeId) (x : Int) (v : Value) (g : Nat) (es : Array MapEntry) (c : Nat) (hm : P.underlying t = some (.map k e)) (hk : P.underlying k = some (.int .i64))
    (hg : g = w.heap.size) (hf : Instr.findNow (.int .i64) (.int .i64 x) es.toList 0 = some none) :
    (Instr.mapUpdate t (.map (some g)) (.int .i64 x) v).run P (w.alloc (.map es c)) = .ok () (w.alloc (.map (es.push { key := .int .i64 x, val := v, born := c }) (c + 1))) := by
  subst hg
  have hb : (w.alloc (.map es c)).heap[w.heap.size]? = some (.map es c) := by simp only [World.alloc]; exact Array.getElem?_push_size
  have hck : (Instr.checkKey false (9999 + 1) k (.int .i64 x)).run P (w.alloc (.map es c)) = .ok () (w.alloc (.map es c)) := MapKept.run_checkKey hk (by trivial) _ _
  unfold Instr.mapUpdate
  simp only [Sem.run_bind, run_underlying hm, Result.andThen_ok, MapKept.run_getObj_map hb]
  rw [hck]
  simp only [Result.andThen_ok, MapKept.run_findKey hk hf, MapKept.run_setObj_map _ hb]
  simp only [World.alloc, Result.ok.injEq, true_and, World.mk.injEq, and_true]
  apply Array.ext_getElem?
  intro i
  simp only [Array.getElem?_setIfInBounds, Array.getElem?_push, Array.size_push]
  by_cases h : i = w.heap.size
  · subst h; simp
  · rw [if_neg (Ne.symm h), if_neg h, if_neg h]

theorem run_lookup_top {P : Program} (w : World) (t k e : TypeId) (x : Int) (v : Value) (j : Nat) (g : Nat) (es : Array MapEntry) (c : Nat) (hm : P.underlying t = some (.map k e)) (hk : P.underlying k = some (.int .i64))
    (hg : g = w.heap.size) (hf : Instr.findNow (.int .i64) (.int .i64 x) es.toList 0 = some (some (j, v))) :
    (Instr.lookup t (.map (some g)) (.int .i64 x) true).run P (w.alloc (.map es c)) = .ok (.tuple #[v, .bool true]) (w.alloc (.map es c)) := by
  subst hg
  have hb : (w.alloc (.map es c)).heap[w.heap.size]? = some (.map es c) := by simp only [World.alloc]; exact Array.getElem?_push_size
  have hck : ∀ b, (Instr.checkKey b (9999 + 1) k (.int .i64 x)).run P (w.alloc (.map es c)) = .ok () (w.alloc (.map es c)) := fun b => MapKept.run_checkKey hk (by trivial) _ _
  unfold Instr.lookup
  simp only [Sem.run_bind, run_underlying hm, Result.andThen_ok, MapKept.run_getObj_map hb, Sem.run_pure]
  rw [hck]
  simp only [Result.andThen_ok, MapKept.run_findKey hk hf, Sem.run_bind, Sem.run_pure, if_true]

theorem run_lookup_top_no {P : Program} (w : World) (t k e : TypeId) (x : Int) (z : Value) (g : Nat) (es : Array MapEntry) (c : Nat) (hm : P.underlying t = some (.map k e)) (hk : P.underlying k = some (.int .i64))
    (hz : ∀ w, (zeroValue e).run P w = .ok z w) (hg : g = w.heap.size) (hf : Instr.findNow (.int .i64) (.int .i64 x) es.toList 0 = some none) :
    (Instr.lookup t (.map (some g)) (.int .i64 x) true).run P (w.alloc (.map es c)) = .ok (.tuple #[z, .bool false]) (w.alloc (.map es c)) := by
  subst hg
  have hb : (w.alloc (.map es c)).heap[w.heap.size]? = some (.map es c) := by simp only [World.alloc]; exact Array.getElem?_push_size
  have hck : ∀ b, (Instr.checkKey b (9999 + 1) k (.int .i64 x)).run P (w.alloc (.map es c)) = .ok () (w.alloc (.map es c)) := fun b => MapKept.run_checkKey hk (by trivial) _ _
  unfold Instr.lookup
  simp only [Sem.run_bind, run_underlying hm, Result.andThen_ok, MapKept.run_getObj_map hb, Sem.run_pure]
  rw [hck]
  simp only [Result.andThen_ok, MapKept.run_findKey hk hf, Sem.run_bind, Sem.run_pure, hz, if_true]

def asksM : Array MapEntry := #[⟨.int .i64 0, .func (.func 161) #[] #[], 0⟩, ⟨.int .i64 1, .func (.func 162) #[] #[], 1⟩]
set_option maxHeartbeats 1000000 in
theorem asks_any (w : World) :
    Calls Tryz.prog 142 #[] w fun e w' => e = .returned (.map (some w.heap.size)) ∧ w.alloc (.map asksM 2) = w' := by
  have hmm := @run_makeMap Tryz.prog
  have h0 := run_mapUpdate_top (P := Tryz.prog) w 195 3 _ 0 (.func (.func 161) #[] #[]) w.heap.size #[] 0 Tryz.underlying195 Tryz.underlying3 rfl rfl
  have h1 := run_mapUpdate_top (P := Tryz.prog) w 195 3 _ 1 (.func (.func 162) #[] #[]) w.heap.size #[⟨.int .i64 0, .func (.func 161) #[] #[], 0⟩] 1 Tryz.underlying195 Tryz.underlying3 rfl rfl
  simp only [List.push_toArray, List.nil_append, List.cons_append] at h0 h1
  go_enter Tryz.func142, Tryz.ntmps142
  go_wp2_with fail
  go_ret
  exact ⟨rfl, rfl⟩

def chrOk (c : UInt8) : Bool := decide (32 ≤ c.toNat) && decide (c.toNat ≤ 126)
def txtOk (t : ByteArray) : Bool := decide (t.size ≤ 200) && t.data.toList.all chrOk
def kindB (r : Rec) : Bool := if r.kind = 0 then withdrawB r else if r.kind = 1 then leaseB r else eventB r
def recOk (r : Rec) : Bool := isPlaceB r.ao r.sq && inB r.kind 0 29 && inB r.day 0 100000 && inB r.known 0 100000 && txtOk r.text && kindB r
theorem inB_spec {n a b : Int} : inB n a b = true ↔ a ≤ n ∧ n ≤ b := by simp [inB]


theorem all_snoc (l : List UInt8) (k : Nat) (hk : k < l.length) (h : (l.take k).all chrOk = true) (h' : chrOk l[k] = true) : (l.take (k + 1)).all chrOk = true := by
  rw [List.take_succ_eq_append_getElem hk, List.all_append, h]
  simp [h']
theorem all_not (l : List UInt8) (k : Nat) (hk : k < l.length) (h' : chrOk l[k] = false) : l.all chrOk = false := by
  rw [List.all_eq_false]
  exact ⟨_, List.getElem_mem hk, by simp [h']⟩

set_option maxRecDepth 100000 in
set_option maxHeartbeats 2000000 in
theorem isRecord_no (r : Rec) (w : World) (h : (isPlaceB r.ao r.sq && inB r.kind 0 29 && inB r.day 0 100000 && inB r.known 0 100000 && decide (r.text.size ≤ 200)) = false) (hs : r.text.size ≤ 9223372036854775807) :
    Calls Tryz.prog 107 #[recV r] w fun e w' => e = .returned (.bool false) ∧ Ext w w' := by
  go_enter Tryz.func107, Tryz.ntmps107
  go_wp2_with (first | (go_at_call 139; refine (isPlace_any _ _ _).mono ?_; rintro e w1 ⟨rfl, E, d, rfl⟩) | (go_at_call 117; refine (in_any _ _ _ _).mono ?_; rintro e w1 ⟨rfl, rfl⟩) | (go_at_call 88; refine (isDay_any _ _).mono ?_; rintro e w1 ⟨rfl, rfl⟩))
  all_goals first
    | (go_ret; exact ⟨rfl, exI⟩)
    | (exfalso; simp_all; omega)

set_option maxRecDepth 100000 in
set_option maxHeartbeats 2000000 in
theorem isRecord_yes (r : Rec) (w : World) (p1 : isPlaceB r.ao r.sq = true) (p2 : inB r.kind 0 29 = true) (p3 : inB r.day 0 100000 = true) (p4 : inB r.known 0 100000 = true) (p5 : r.text.size ≤ 200) :
    Calls Tryz.prog 107 #[recV r] w fun e w' => e = .returned (.bool (recOk r)) ∧ Ext w w' := by
  obtain ⟨hd, hd'⟩ := inB_spec.1 p3
  have p5' : decide (200 < (r.text.size : Int)) = false := by simp; omega
  have hfin : recOk r = (r.text.data.toList.all chrOk && kindB r) := by simp [recOk, txtOk, p1, p2, p3, p4, p5]
  have Hfin := hid hfin
  clear hfin
  go_enter Tryz.func107, Tryz.ntmps107
  go_wp2_with (first | (go_at_call 139; refine (isPlace_any _ _ _).mono ?_; rintro e w1 ⟨rfl, E, d, rfl⟩) | (go_at_call 117; refine (in_any _ _ _ _).mono ?_; rintro e w1 ⟨rfl, rfl⟩) | (go_at_call 88; refine (isDay_any _ _).mono ?_; rintro e w1 ⟨rfl, rfl⟩))
  go_loop [3, 37] (fun _ i => ∃ k : Nat, k ≤ r.text.size ∧ i = .int .i64 k ∧ (r.text.data.toList.take k).all chrOk = true) (fun _ i => r.text.size - (intOf i).toNat)
  case atStart => exact ⟨0, Nat.zero_le _, rfl, rfl⟩
  case round =>
    obtain ⟨k, hk, rfl, hall⟩ := hrel
    have Hall := hid hall
    clear hall
    by_cases hlt : k < r.text.size
    · have hb : r.text.data.toList[k]'(by simpa using hlt) = r.text[k] := rfl
      go_wp2_with fail
      · go_ret
        refine ⟨ret_val ?_, exI⟩
        show Value.bool _ = _
        rw [Hfin.out, all_not _ k (by simpa using hlt) (by rw [hb]; simp only [chrOk]; simp; omega)]
        rfl
      · go_round
        case rel => exact ⟨k + 1, by omega, by go_num, all_snoc _ k (by simpa using hlt) Hall.out (by rw [hb]; simp only [chrOk]; simp; omega)⟩
        case measure => simp [intOf]; omega
      · go_ret
        refine ⟨ret_val ?_, exI⟩
        show Value.bool _ = _
        rw [Hfin.out, all_not _ k (by simpa using hlt) (by rw [hb]; simp only [chrOk]; simp; omega)]
        rfl
    · obtain rfl : k = r.text.size := by omega
      have hall : r.text.data.toList.all chrOk = true := by
        have h1 := Hall.out
        rwa [List.take_of_length_le (by simp)] at h1
      have hfin2 : recOk r = kindB r := by rw [Hfin.out, hall]; rfl
      have Hfin2 := hid hfin2
      clear hfin2 Hfin Hall hall hlt hk
      by_cases k0 : r.kind = 0
      · have hlk : ∀ (W : World) (g : Nat), g = W.heap.size → (Instr.lookup 195 (.map (some g)) (.int .i64 r.kind) true).run Tryz.prog (W.alloc (.map asksM 2)) =
            .ok (.tuple #[.func (.func 161) #[] #[], .bool true]) (W.alloc (.map asksM 2)) := fun W g hg =>
          run_lookup_top W _ 3 _ _ _ 0 g _ _ Tryz.underlying195 Tryz.underlying3 hg (by rw [k0]; rfl)
        have K0 := hid k0
        clear k0
        go_wp2_with fail
        refine wp_region_ord_same (.f 1 (.f 2 (.a 0 (.a 3 (.f 4 (.f 5 (.f 6 (.f 7 (.f 8 .d))))))))) (by kernel_rfl) (by kernel_rfl) ?_
        repeat ((first | refine wpOrd_pass rfl rfl ?_ | (refine wpOrd_free (v := ?_) rfl rfl (fun _ hS => ?_) ?_; rotate_left; focus (go_simp; try with_reducible rfl))); simp only [Act.put, zp])
        refine wpOrd_call rfl rfl rfl Tryz.call142 (fun R hR => ?_)
        go_simp
        refine (asks_any _).mono ?_
        rintro e w1 ⟨rfl, rfl⟩
        refine hR _ _ ⟨_, rfl, ?_, ?_⟩
        · (first | exact fun b o hb => Ext.cellOf (by repeat (first | (with_reducible first | exact Ext.refl _ | exact Ext.same _ _ _ _ | assumption | apply Ext.alloc | apply Ext.ext | apply Ext.drew) | (with_reducible refine Ext.setCell ?_ _ _ ?_; rotate_left; focus (first | omega | (simp only [zs]; omega))))) hb | (intro b o hb; (try simp only [zs] at hb); go_simp; try rfl))
        clear hR R
        simp only [Act.put, zp]
        refine wpOrd_act rfl rfl (fun K hK => ?_)
        go_simp
        refine hK _ _ ⟨?_, ?_⟩
        · (first | exact fun b o hb => Ext.cellOf (by repeat (first | (with_reducible first | exact Ext.refl _ | exact Ext.same _ _ _ _ | assumption | apply Ext.alloc | apply Ext.ext | apply Ext.drew) | (with_reducible refine Ext.setCell ?_ _ _ ?_; rotate_left; focus (first | omega | (simp only [zs]; omega))))) hb | (intro b o hb; (try simp only [zs] at hb); go_simp; try rfl))
        clear hK K
        try simp only [Act.put, zp]
        repeat ((first | refine wpOrd_pass rfl rfl ?_ | (refine wpOrd_free (v := ?_) rfl rfl (fun _ hS => ?_) ?_; rotate_left; focus (go_simp; try with_reducible rfl))); simp only [Act.put, zp])
        refine wpOrd_nil ?_
        go_wp2_with (go_at_call 161; refine (withdraws_any _ _).mono ?_; rintro e w1 ⟨rfl, E, d, rfl⟩)
        go_ret
        refine ⟨ret_val ?_, exI⟩
        show Value.bool _ = _
        rw [Hfin2.out, kindB, if_pos K0.out]
      · by_cases k1 : r.kind = 1
        · have hlk : ∀ (W : World) (g : Nat), g = W.heap.size → (Instr.lookup 195 (.map (some g)) (.int .i64 r.kind) true).run Tryz.prog (W.alloc (.map asksM 2)) =
              .ok (.tuple #[.func (.func 162) #[] #[], .bool true]) (W.alloc (.map asksM 2)) := fun W g hg =>
            run_lookup_top W _ 3 _ _ _ 1 g _ _ Tryz.underlying195 Tryz.underlying3 hg (by rw [k1]; rfl)
          have K0 := hid k0
          have K1 := hid k1
          clear k0 k1
          go_wp2_with fail
          refine wp_region_ord_same (.f 1 (.f 2 (.a 0 (.a 3 (.f 4 (.f 5 (.f 6 (.f 7 (.f 8 .d))))))))) (by kernel_rfl) (by kernel_rfl) ?_
          repeat ((first | refine wpOrd_pass rfl rfl ?_ | (refine wpOrd_free (v := ?_) rfl rfl (fun _ hS => ?_) ?_; rotate_left; focus (go_simp; try with_reducible rfl))); simp only [Act.put, zp])
          refine wpOrd_call rfl rfl rfl Tryz.call142 (fun R hR => ?_)
          go_simp
          refine (asks_any _).mono ?_
          rintro e w1 ⟨rfl, rfl⟩
          refine hR _ _ ⟨_, rfl, ?_, ?_⟩
          · (first | exact fun b o hb => Ext.cellOf (by repeat (first | (with_reducible first | exact Ext.refl _ | exact Ext.same _ _ _ _ | assumption | apply Ext.alloc | apply Ext.ext | apply Ext.drew) | (with_reducible refine Ext.setCell ?_ _ _ ?_; rotate_left; focus (first | omega | (simp only [zs]; omega))))) hb | (intro b o hb; (try simp only [zs] at hb); go_simp; try rfl))
          clear hR R
          simp only [Act.put, zp]
          refine wpOrd_act rfl rfl (fun K hK => ?_)
          go_simp
          refine hK _ _ ⟨?_, ?_⟩
          · (first | exact fun b o hb => Ext.cellOf (by repeat (first | (with_reducible first | exact Ext.refl _ | exact Ext.same _ _ _ _ | assumption | apply Ext.alloc | apply Ext.ext | apply Ext.drew) | (with_reducible refine Ext.setCell ?_ _ _ ?_; rotate_left; focus (first | omega | (simp only [zs]; omega))))) hb | (intro b o hb; (try simp only [zs] at hb); go_simp; try rfl))
          clear hK K
          try simp only [Act.put, zp]
          repeat ((first | refine wpOrd_pass rfl rfl ?_ | (refine wpOrd_free (v := ?_) rfl rfl (fun _ hS => ?_) ?_; rotate_left; focus (go_simp; try with_reducible rfl))); simp only [Act.put, zp])
          refine wpOrd_nil ?_
          go_wp2_with (go_at_call 162; refine (leases_any _ hd hd' _).mono ?_; rintro e w1 ⟨rfl, E, d, rfl⟩)
          go_ret
          refine ⟨ret_val ?_, exI⟩
          show Value.bool _ = _
          rw [Hfin2.out, kindB, if_neg K0.out, if_pos K1.out]
        · have hlk : ∀ (W : World) (g : Nat), g = W.heap.size → (Instr.lookup 195 (.map (some g)) (.int .i64 r.kind) true).run Tryz.prog (W.alloc (.map asksM 2)) =
              .ok (.tuple #[.nilFunc, .bool false]) (W.alloc (.map asksM 2)) := fun W g hg =>
            run_lookup_top_no W _ 3 193 _ _ g _ _ Tryz.underlying195 Tryz.underlying3 Tryz.zeroValue193 hg
              (by simp only [asksM, Instr.findNow, Instr.sameNow, if_true, beq_eq_false_iff_ne.2 k0, beq_eq_false_iff_ne.2 k1])
          have K0 := hid k0
          have K1 := hid k1
          clear k0 k1
          go_wp2_with fail
          refine wp_region_ord_same (.f 1 (.f 2 (.a 0 (.a 3 (.f 4 (.f 5 (.f 6 (.f 7 (.f 8 .d))))))))) (by kernel_rfl) (by kernel_rfl) ?_
          repeat ((first | refine wpOrd_pass rfl rfl ?_ | (refine wpOrd_free (v := ?_) rfl rfl (fun _ hS => ?_) ?_; rotate_left; focus (go_simp; try with_reducible rfl))); simp only [Act.put, zp])
          refine wpOrd_call rfl rfl rfl Tryz.call142 (fun R hR => ?_)
          go_simp
          refine (asks_any _).mono ?_
          rintro e w1 ⟨rfl, rfl⟩
          refine hR _ _ ⟨_, rfl, ?_, ?_⟩
          · (first | exact fun b o hb => Ext.cellOf (by repeat (first | (with_reducible first | exact Ext.refl _ | exact Ext.same _ _ _ _ | assumption | apply Ext.alloc | apply Ext.ext | apply Ext.drew) | (with_reducible refine Ext.setCell ?_ _ _ ?_; rotate_left; focus (first | omega | (simp only [zs]; omega))))) hb | (intro b o hb; (try simp only [zs] at hb); go_simp; try rfl))
          clear hR R
          simp only [Act.put, zp]
          refine wpOrd_act rfl rfl (fun K hK => ?_)
          go_simp
          refine hK _ _ ⟨?_, ?_⟩
          · (first | exact fun b o hb => Ext.cellOf (by repeat (first | (with_reducible first | exact Ext.refl _ | exact Ext.same _ _ _ _ | assumption | apply Ext.alloc | apply Ext.ext | apply Ext.drew) | (with_reducible refine Ext.setCell ?_ _ _ ?_; rotate_left; focus (first | omega | (simp only [zs]; omega))))) hb | (intro b o hb; (try simp only [zs] at hb); go_simp; try rfl))
          clear hK K
          try simp only [Act.put, zp]
          repeat ((first | refine wpOrd_pass rfl rfl ?_ | (refine wpOrd_free (v := ?_) rfl rfl (fun _ hS => ?_) ?_; rotate_left; focus (go_simp; try with_reducible rfl))); simp only [Act.put, zp])
          refine wpOrd_nil ?_
          go_wp2_with (go_at_call 143; refine (tells_any _ _).mono ?_; rintro e w1 ⟨rfl, E, d, rfl⟩)
          go_ret
          refine ⟨ret_val ?_, exI⟩
          show Value.bool _ = _
          rw [Hfin2.out, kindB, if_neg K0.out, if_neg K1.out]

theorem isRecord_any (r : Rec) (w : World) (hs : r.text.size ≤ 9223372036854775807) :
    Calls Tryz.prog 107 #[recV r] w fun e w' => e = .returned (.bool (recOk r)) ∧ Ext w w' := by
  by_cases h : (isPlaceB r.ao r.sq && inB r.kind 0 29 && inB r.day 0 100000 && inB r.known 0 100000 && decide (r.text.size ≤ 200)) = true
  · simp only [Bool.and_eq_true, decide_eq_true_eq] at h
    exact isRecord_yes r w h.1.1.1.1 h.1.1.1.2 h.1.1.2 h.1.2 h.2
  · have h := eq_false_of_ne_true h
    refine (isRecord_no r w h hs).mono ?_
    rintro e w' ⟨rfl, hx⟩
    refine ⟨ret_val ?_, hx⟩
    have : recOk r = false := by
      rw [← h, recOk, txtOk]
      rw [Bool.eq_iff_iff] at *
      simp at *
      grind
    rw [this]
end Go.Proofs.YtekjdeibnfaehaaGreat
/- What a valid record is, in the reference. -/
namespace Go.Proofs.YtekjdeibnfaehaaGreat
open Go.RowKit

/-- The error of a record. -/
def errRec (r : Rec) : Int := if recOk r = true then 0 else 70
end Go.Proofs.YtekjdeibnfaehaaGreat
