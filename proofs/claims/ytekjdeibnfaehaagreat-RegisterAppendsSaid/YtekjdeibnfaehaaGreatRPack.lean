/- The reference's sameMemory, head, frame. -/
import Derived.Test.YtekjdeibnfaehaaGreatRMem
import Derived.Test.YtekjdeibnfaehaaGreatBox
set_option linter.unusedSimpArgs false
set_option linter.unusedVariables false
namespace Go.Proofs.YtekjdeibnfaehaaGreat
open Go Go.RowKit

set_option maxRecDepth 100000 in
set_option maxHeartbeats 4000000 in
theorem rsameMem_any (Am : Option Addr) (nm cm : Nat) (l : List Rec) (f g : Int) (hm : l.length = nm) (hbig : nm ≤ 1000000) (w : World) (hr : Recs w Am l) :
    Calls Tryz.prog 77 #[memV Am nm cm f g] w fun e w' => ∃ A' n' c', e = .returned (memV A' n' c' f g) ∧ Hid (n' = l.length) ∧ RecsA w.heap.size w' A' l ∧ Ext w w' := by
  go_enter Tryz.func77, Tryz.ntmps77
  go_wp2_with fail
  refine (rcopied_any _ _ _ l hm hbig _ (by with_reducible repeat (first | assumption | apply Recs.ext | apply Recs.alloc | apply Recs.drew | (refine Recs.of_ext ?_ (by assumption))))).mono ?_
  rintro e w1 ⟨Ac, nc, cc, rfl, hnc, hvc, E1, d1, rfl⟩
  have hra := hvc.anc
  clear hvc
  go_wp2_with fail
  refine bodyPost_ret (v := memV Ac nc cc f g) (by simp [results, Tryz.results77, go_sem]) rfl ?_
  refine ⟨Ac, nc, cc, rfl, hnc, ?_, (by repeat (first | (with_reducible first | exact Ext.refl _ | exact Ext.same _ _ _ _ | assumption | apply Ext.alloc | apply Ext.ext | apply Ext.drew) | (with_reducible refine Ext.setCell ?_ _ _ ?_; rotate_left; focus (first | omega | (simp only [zs1, zs2, zs3, size_ext]; omega)))))⟩
  exact RecsA.moved2 hra (Ext.refl _) (by simp) (Nat.le_refl _) (by simp; omega)
set_option maxRecDepth 100000 in
set_option maxHeartbeats 4000000 in
theorem rhead_any (gen cnt : Int) (hg0 : 0 ≤ gen) (hg1 : gen ≤ 9223372036854775807) (hc0 : 0 ≤ cnt) (hc1 : cnt ≤ 9223372036854775807) (w : World) :
    Calls Tryz.prog 80 #[.int .i64 gen, .int .i64 cnt] w fun e w' => ∃ v, e = .returned v ∧ OwnB w.heap.size w' v (headB gen cnt) ∧ Ext w w' := by
  have hem : OwnB w.heap.size (w.alloc (.cells #[] 5)) (.slice (some ⟨w.heap.size, 0, none⟩) 0 0) [] := ownsRow_empty w w.heap.size _ _ (Nat.le_refl _)
  go_enter Tryz.func80, Tryz.ntmps80
  go_wp2_with (at_builtin; refine wpList_append_string (w := w) rfl _ _ rfl rfl ((Ext.refl _).alloc _) hem rfl (by decide) ?_; intro v1 E1 d1 hb1)
  refine (rput_i w v1 _ gen 4 _ ((Ext.refl w).ext _ _) hb1 hg0 hg1 (by omega) (by omega) (by simp)).mono ?_
  rintro e w1 ⟨v2, E2, d2, rfl, rfl, hb2⟩
  go_wp2_with fail
  refine (rput_i w v2 _ cnt 2 _ ((Ext.refl w).ext _ _) hb2 hc0 hc1 (by omega) (by omega) (by simp [numB_length])).mono ?_
  rintro e w1 ⟨v3, E3, d3, rfl, rfl, hb3⟩
  go_wp2_with fail
  go_ret
  exact ⟨v3, rfl, OwnB.congr hb3 (by simp [headB, moorB]), (Ext.refl w).ext _ _⟩
set_option maxRecDepth 100000 in
set_option maxHeartbeats 4000000 in
theorem rframe_any (r : Rec) (hr : RecNum r) (w : World) :
    Calls Tryz.prog 78 #[recV r] w fun e w' => ∃ A c, e = .returned (.slice A (24 + r.text.size) c) ∧ Byt w' A (frameB r) ∧ Ext w w' := by
  obtain ⟨i0, hi, hz0, hz1, hz2⟩ := info_parts info_u8
  have hrb := recB_length r
  have htx := hr.text
  go_enter Tryz.func78, Tryz.ntmps78
  go_wp2_with (first | (at_builtin; have hq := OwnB.lit ((w.alloc (.cells #[.int .i64 r.ao, .int .i64 r.sq, .int .i64 r.kind, .int .i64 r.ship, .int .i64 r.day, .int .i64 r.known, .int .i64 r.wo, .int .i64 r.ws, .int .i64 r.to, .int .i64 r.til, .string r.text] 46)).ext E1 d1) (byteI (23 + (r.text.size : Int)) 0) (w.heap.size + 1 + E1.size) (by simp [World.size_alloc]) (.int .u8 ((23 + (r.text.size : Int)) % 256)) (by rw [byteI_toNat _ (by omega)]; simp); have hq2 : Sl 1 (((w.alloc (.cells #[.int .i64 r.ao, .int .i64 r.sq, .int .i64 r.kind, .int .i64 r.ship, .int .i64 r.day, .int .i64 r.known, .int .i64 r.wo, .int .i64 r.ws, .int .i64 r.to, .int .i64 r.til, .string r.text] 46)).ext E1 d1).alloc (.cells #[.int .u8 ((23 + (r.text.size : Int)) % 256)] 5)) A1 (23 + r.text.size) ((recB r).map encB) := (by have h9 := hb1.alloc (.cells #[.int .u8 ((23 + (r.text.size : Int)) % 256)] 5); unfold Byt at h9; rw [hrb] at h9; exact h9); refine wpList_append (w := (w.alloc (.cells #[.int .i64 r.ao, .int .i64 r.sq, .int .i64 r.kind, .int .i64 r.ship, .int .i64 r.day, .int .i64 r.known, .int .i64 r.wo, .int .i64 r.ws, .int .i64 r.to, .int .i64 r.til, .string r.text] 46)).ext E1 d1) rfl _ _ 22 rfl 5 i0 _ 1 1 Tryz.underlying22 hi hz0 hz1 hz2 rfl (by decide) rfl ((Ext.refl _).alloc _) hq rfl hq2 (encB_one _) (by simp only [List.length_cons, List.length_nil]; unfold maxLen; omega) (by simp only [List.length_cons, List.length_nil]; omega) (fun v2 E2 d2 ho2 => ?_)) | (go_at_call 132; refine (encode_v _ (by assumption) _).mono ?_; rintro e w1 ⟨A1, c1, rfl, hb1, E1, d1, rfl⟩))
  go_ret
  have hfl : (frameB r).length = 24 + r.text.size := by simp [frameB, hrb]; omega
  obtain ⟨A2, c2, rfl, hcc, hsl⟩ := ownsRow_slice ho2
  refine ⟨A2, c2, ret_val (congrArg (fun n => Value.slice A2 n c2) (by simp; omega)), ?_, (by repeat (first | (with_reducible first | exact Ext.refl _ | exact Ext.same _ _ _ _ | assumption | apply Ext.alloc | apply Ext.ext | apply Ext.drew) | (with_reducible refine Ext.setCell ?_ _ _ ?_; rotate_left; focus (first | omega | (simp only [zs1, zs2, zs3, size_ext]; omega)))))⟩
  unfold Byt
  rw [hfl]
  have e1 : [byteI (23 + (r.text.size : Int)) 0].length + (23 + r.text.size) = 24 + r.text.size := by simp; omega
  rw [e1] at hsl
  exact hsl
end Go.Proofs.YtekjdeibnfaehaaGreat
