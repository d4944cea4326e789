/- Decode, of the program and of the reference. -/
import Derived.Test.YtekjdeibnfaehaaGreatRnum
set_option linter.unusedSimpArgs false
set_option linter.unusedVariables false
namespace Go.Proofs.YtekjdeibnfaehaaGreat
open Go.RowKit

theorem decV_eq (l : List UInt8) : decV l = if decOk l = true then decR l else zeroR := rfl
theorem heap_of_ext {w W : World} {o : Obj} (h : Ext (w.alloc o).drew W) : W.heap[w.heap.size]? = some o := by
  obtain ⟨E, d, rfl⟩ := h
  rw [heap_ext _ _ _ _ (by simp)]
  simp only [World.drew, World.alloc]
  exact Array.getElem?_push_size
theorem size_u8 (w : World) : (sizeOf 5).run Tryz.prog w = .ok 1 w := by kernel_rfl
/-- The error of bytes. -/
def errDec (l : List UInt8) : Int := if decOk l = true then 0 else 70

theorem run_slice_from {A : Option Addr} {n c k : Nat} (hk : k ≤ n) (hn : n ≤ c) (w : World) : (Instr.slice 22 (.slice A n c) (some (.int .i64 k)) none none).run Tryz.prog w = .ok (.slice (cutA A c k) (n - k) (c - k)) w := by
  have hi := size_u8
  by_cases hc : c = k <;> simp [Instr.slice, run_underlying Tryz.underlying22, Instr.sliceBounds, run_sliceBound, hk, hn, hi, cutA, hc]
theorem lenOk_of {l : List UInt8} (h : 23 ≤ l.length) : valB ((l.drop 22).take 1) = (l[22]'(by omega)).toNat := by
  rw [List.drop_eq_getElem_cons (i := 22) (by omega), List.take_succ_cons, List.take_zero]
  simp [valB]
set_option maxRecDepth 100000 in
set_option maxHeartbeats 2000000 in
theorem rDecode_any (A : Option Addr) (c n : Nat) (l : List UInt8) (hn : l.length = n) (hnc : n ≤ c) (hbig : c ≤ 9223372036854775807) (w : World) (hb : Byt w A l) :
    Calls Tryz.prog 126 #[.slice A n c] w fun e w' => e = .returned (.tuple #[recV (decV l), .int .i64 (errDec l)]) ∧ Ext w w' := by
  by_cases h23 : n < 23
  · have hno := decOk_short (l := l) (by omega)
    have hz := decV_no hno
    have he : errDec l = 70 := by rw [errDec, hno]; rfl
    rw [he, hz]
    clear hno hz he
    go_enter Tryz.func126, Tryz.ntmps126
    go_wp2_with fail
    refine bodyPost_ret (v := .tuple #[recV zeroR, .int .i64 70]) (by simp [results, Tryz.results126, go_sem, zeroR]) rfl ?_
    exact ⟨rfl, (by repeat (first | (with_reducible first | exact Ext.refl _ | exact Ext.same _ _ _ _ | assumption | apply Ext.alloc | apply Ext.ext | apply Ext.drew) | (with_reducible refine Ext.setCell ?_ _ _ ?_; rotate_left; focus (first | omega | (simp only [zs1, zs2, zs3, size_ext]; omega)))))⟩
  · obtain ⟨g, o, rfl, hg, h22⟩ := hb.at_ (i := 22) (by omega)
    have hlt := (l[22]'(by omega)).toNat_lt
    have hk := lenOk_of (l := l) (by omega)
    obtain ⟨k, hk0⟩ : ∃ k, (l[22]'(by omega)).toNat = k := ⟨_, rfl⟩
    rw [hk0] at h22 hlt hk
    clear hk0
    by_cases hln : n = 23 + k
    · have hlk : lenOk l = true := by simp only [lenOk, Bool.and_eq_true, decide_eq_true_eq]; omega
      have hln' : ((n : Int) != (23 : Int) + (k : Int)) = false := by rw [bne_eq_false_iff_eq]; omega
      have hbt : Byt w (cutA (some ⟨g, o, none⟩) c 23) (l.drop 23) := hb.cut (by omega) (by omega)
      have hcv : ∀ o1 E d, (convert 22 9 (.slice (cutA (some ⟨g, o, none⟩) c 23) (n - 23) (c - 23))).run Tryz.prog ((w.alloc o1).drew.ext E d) = .ok (.string ⟨(l.drop 23).toArray⟩) ((w.alloc o1).drew.ext E d) := by
        intro o1 E d
        have h := run_of_bytes (((hbt.alloc o1).drew).ext E d) (c - 23)
        rwa [show (l.drop 23).length = n - 23 from by rw [List.length_drop]; omega] at h
      have hsl : ∀ W : World, (Instr.slice 22 (.slice (some ⟨g, o, none⟩) n c) (some (.int .i64 23)) none none).run Tryz.prog W = .ok (.slice (cutA (some ⟨g, o, none⟩) c 23) (n - 23) (c - 23)) W := fun W => run_slice_from (k := 23) (by omega) (by omega) W
      have hr : (⟨valB (l.take 1), valB (l.tail.take 2), valB ((l.drop 3).take 1), valB ((l.drop 4).take 2), valB ((l.drop 6).take 4), valB ((l.drop 10).take 4), valB ((l.drop 14).take 1), valB ((l.drop 15).take 2), valB ((l.drop 17).take 1), valB ((l.drop 18).take 4), ⟨(l.drop 23).toArray⟩⟩ : Rec) = decR l := by simp [decR]
      have Hr := hid hr
      clear hr
      have Hln := hid hln
      have Hk := hid hk
      clear hln hk
      go_enter Tryz.func126, Tryz.ntmps126
      go_wp2_with fail
      refine wp_region_pend ⟨[], 26, [(true, 0), (true, 2), (true, 5), (true, 7), (true, 9), (true, 11), (true, 13), (true, 15), (true, 18), (true, 20), (true, 22), (true, 23), (true, 24), (false, 1), (false, 3), (true, 4), (false, 6), (false, 8), (false, 10), (false, 12), (false, 14), (false, 16), (true, 17), (false, 19), (false, 21), (true, 25)], (.a 27 .d)⟩ (TNew (w.heap.size + 1) (.cells zeros11 46)) (by kernel_rfl) (by kernel_rfl) rfl rfl (by exact fun _ _ _ h hx => h.later hx) ?_
      refine wpPend_nil (fun W98 hS98 hx98 => ⟨?_, ?_⟩)
      · rintro w1 ⟨E8, d8, rfl⟩
        exact new_runs rfl Tryz.zeroValue46 _ _ _ (by simp)
      repeat (first | (refine wpPend_free (v := ?_) rfl rfl (fun _ hS => ?_) ?_; rotate_left; (focus (obtain ⟨E9, d9, rfl⟩ := hS; go_simp; try with_reducible rfl)); simp only [Act.put, zp1, zp2, zp3, zp4, zp5, zp6]))
      refine wpPend_call rfl rfl rfl Tryz.call125 (fun W100 hS100 hx100 R hR => ?_)
      go_simp
      refine (get_i _ _ _ _ _ _ (by assumption) (by omega) (by omega) (by omega) (by omega) (by omega) _ (by with_reducible repeat (first | assumption | apply Byt.ext | apply Byt.alloc | apply Byt.drew | (refine Byt.of_ext ?_ (by assumption))))).mono ?_
      rintro e w1 ⟨rfl, rfl⟩
      refine hR _ _ ⟨_, rfl, ⟨(by repeat (first | (with_reducible first | exact Ext.refl _ | exact Ext.same _ _ _ _ | assumption | apply Ext.alloc | apply Ext.ext | apply Ext.drew) | (with_reducible refine Ext.setCell ?_ _ _ ?_; rotate_left; focus (first | omega | (simp only [zs1, zs2, zs3, size_ext]; omega))) | (with_reducible refine Ext.trans ?_ (by assumption)))), (by repeat (first | (with_reducible first | exact Ext.refl _ | exact Ext.same _ _ _ _ | assumption | apply Ext.alloc | apply Ext.ext | apply Ext.drew) | (with_reducible refine Ext.setCell ?_ _ _ ?_; rotate_left; focus (first | omega | (simp only [zs1, zs2, zs3, size_ext]; omega))) | (with_reducible refine Ext.trans ?_ (by assumption))))⟩, ?_⟩
      clear hR R
      simp only [Act.put, zp1, zp2, zp3, zp4, zp5, zp6]
      refine wpPend_call rfl rfl rfl Tryz.call125 (fun W101 hS101 hx101 R hR => ?_)
      go_simp
      refine (get_i _ _ _ _ _ _ (by assumption) (by omega) (by omega) (by omega) (by omega) (by omega) _ (by with_reducible repeat (first | assumption | apply Byt.ext | apply Byt.alloc | apply Byt.drew | (refine Byt.of_ext ?_ (by assumption))))).mono ?_
      rintro e w1 ⟨rfl, rfl⟩
      refine hR _ _ ⟨_, rfl, ⟨(by repeat (first | (with_reducible first | exact Ext.refl _ | exact Ext.same _ _ _ _ | assumption | apply Ext.alloc | apply Ext.ext | apply Ext.drew) | (with_reducible refine Ext.setCell ?_ _ _ ?_; rotate_left; focus (first | omega | (simp only [zs1, zs2, zs3, size_ext]; omega))) | (with_reducible refine Ext.trans ?_ (by assumption)))), (by repeat (first | (with_reducible first | exact Ext.refl _ | exact Ext.same _ _ _ _ | assumption | apply Ext.alloc | apply Ext.ext | apply Ext.drew) | (with_reducible refine Ext.setCell ?_ _ _ ?_; rotate_left; focus (first | omega | (simp only [zs1, zs2, zs3, size_ext]; omega))) | (with_reducible refine Ext.trans ?_ (by assumption))))⟩, ?_⟩
      clear hR R
      simp only [Act.put, zp1, zp2, zp3, zp4, zp5, zp6]
      repeat (first | (refine wpPend_free (v := ?_) rfl rfl (fun _ hS => ?_) ?_; rotate_left; (focus (obtain ⟨E9, d9, rfl⟩ := hS; go_simp; try with_reducible rfl)); simp only [Act.put, zp1, zp2, zp3, zp4, zp5, zp6]))
      refine wpPend_call rfl rfl rfl Tryz.call125 (fun W102 hS102 hx102 R hR => ?_)
      go_simp
      refine (get_i _ _ _ _ _ _ (by assumption) (by omega) (by omega) (by omega) (by omega) (by omega) _ (by with_reducible repeat (first | assumption | apply Byt.ext | apply Byt.alloc | apply Byt.drew | (refine Byt.of_ext ?_ (by assumption))))).mono ?_
      rintro e w1 ⟨rfl, rfl⟩
      refine hR _ _ ⟨_, rfl, ⟨(by repeat (first | (with_reducible first | exact Ext.refl _ | exact Ext.same _ _ _ _ | assumption | apply Ext.alloc | apply Ext.ext | apply Ext.drew) | (with_reducible refine Ext.setCell ?_ _ _ ?_; rotate_left; focus (first | omega | (simp only [zs1, zs2, zs3, size_ext]; omega))) | (with_reducible refine Ext.trans ?_ (by assumption)))), (by repeat (first | (with_reducible first | exact Ext.refl _ | exact Ext.same _ _ _ _ | assumption | apply Ext.alloc | apply Ext.ext | apply Ext.drew) | (with_reducible refine Ext.setCell ?_ _ _ ?_; rotate_left; focus (first | omega | (simp only [zs1, zs2, zs3, size_ext]; omega))) | (with_reducible refine Ext.trans ?_ (by assumption))))⟩, ?_⟩
      clear hR R
      simp only [Act.put, zp1, zp2, zp3, zp4, zp5, zp6]
      refine wpPend_call rfl rfl rfl Tryz.call125 (fun W103 hS103 hx103 R hR => ?_)
      go_simp
      refine (get_i _ _ _ _ _ _ (by assumption) (by omega) (by omega) (by omega) (by omega) (by omega) _ (by with_reducible repeat (first | assumption | apply Byt.ext | apply Byt.alloc | apply Byt.drew | (refine Byt.of_ext ?_ (by assumption))))).mono ?_
      rintro e w1 ⟨rfl, rfl⟩
      refine hR _ _ ⟨_, rfl, ⟨(by repeat (first | (with_reducible first | exact Ext.refl _ | exact Ext.same _ _ _ _ | assumption | apply Ext.alloc | apply Ext.ext | apply Ext.drew) | (with_reducible refine Ext.setCell ?_ _ _ ?_; rotate_left; focus (first | omega | (simp only [zs1, zs2, zs3, size_ext]; omega))) | (with_reducible refine Ext.trans ?_ (by assumption)))), (by repeat (first | (with_reducible first | exact Ext.refl _ | exact Ext.same _ _ _ _ | assumption | apply Ext.alloc | apply Ext.ext | apply Ext.drew) | (with_reducible refine Ext.setCell ?_ _ _ ?_; rotate_left; focus (first | omega | (simp only [zs1, zs2, zs3, size_ext]; omega))) | (with_reducible refine Ext.trans ?_ (by assumption))))⟩, ?_⟩
      clear hR R
      simp only [Act.put, zp1, zp2, zp3, zp4, zp5, zp6]
      refine wpPend_call rfl rfl rfl Tryz.call125 (fun W104 hS104 hx104 R hR => ?_)
      go_simp
      refine (get_i _ _ _ _ _ _ (by assumption) (by omega) (by omega) (by omega) (by omega) (by omega) _ (by with_reducible repeat (first | assumption | apply Byt.ext | apply Byt.alloc | apply Byt.drew | (refine Byt.of_ext ?_ (by assumption))))).mono ?_
      rintro e w1 ⟨rfl, rfl⟩
      refine hR _ _ ⟨_, rfl, ⟨(by repeat (first | (with_reducible first | exact Ext.refl _ | exact Ext.same _ _ _ _ | assumption | apply Ext.alloc | apply Ext.ext | apply Ext.drew) | (with_reducible refine Ext.setCell ?_ _ _ ?_; rotate_left; focus (first | omega | (simp only [zs1, zs2, zs3, size_ext]; omega))) | (with_reducible refine Ext.trans ?_ (by assumption)))), (by repeat (first | (with_reducible first | exact Ext.refl _ | exact Ext.same _ _ _ _ | assumption | apply Ext.alloc | apply Ext.ext | apply Ext.drew) | (with_reducible refine Ext.setCell ?_ _ _ ?_; rotate_left; focus (first | omega | (simp only [zs1, zs2, zs3, size_ext]; omega))) | (with_reducible refine Ext.trans ?_ (by assumption))))⟩, ?_⟩
      clear hR R
      simp only [Act.put, zp1, zp2, zp3, zp4, zp5, zp6]
      refine wpPend_call rfl rfl rfl Tryz.call125 (fun W105 hS105 hx105 R hR => ?_)
      go_simp
      refine (get_i _ _ _ _ _ _ (by assumption) (by omega) (by omega) (by omega) (by omega) (by omega) _ (by with_reducible repeat (first | assumption | apply Byt.ext | apply Byt.alloc | apply Byt.drew | (refine Byt.of_ext ?_ (by assumption))))).mono ?_
      rintro e w1 ⟨rfl, rfl⟩
      refine hR _ _ ⟨_, rfl, ⟨(by repeat (first | (with_reducible first | exact Ext.refl _ | exact Ext.same _ _ _ _ | assumption | apply Ext.alloc | apply Ext.ext | apply Ext.drew) | (with_reducible refine Ext.setCell ?_ _ _ ?_; rotate_left; focus (first | omega | (simp only [zs1, zs2, zs3, size_ext]; omega))) | (with_reducible refine Ext.trans ?_ (by assumption)))), (by repeat (first | (with_reducible first | exact Ext.refl _ | exact Ext.same _ _ _ _ | assumption | apply Ext.alloc | apply Ext.ext | apply Ext.drew) | (with_reducible refine Ext.setCell ?_ _ _ ?_; rotate_left; focus (first | omega | (simp only [zs1, zs2, zs3, size_ext]; omega))) | (with_reducible refine Ext.trans ?_ (by assumption))))⟩, ?_⟩
      clear hR R
      simp only [Act.put, zp1, zp2, zp3, zp4, zp5, zp6]
      refine wpPend_call rfl rfl rfl Tryz.call125 (fun W106 hS106 hx106 R hR => ?_)
      go_simp
      refine (get_i _ _ _ _ _ _ (by assumption) (by omega) (by omega) (by omega) (by omega) (by omega) _ (by with_reducible repeat (first | assumption | apply Byt.ext | apply Byt.alloc | apply Byt.drew | (refine Byt.of_ext ?_ (by assumption))))).mono ?_
      rintro e w1 ⟨rfl, rfl⟩
      refine hR _ _ ⟨_, rfl, ⟨(by repeat (first | (with_reducible first | exact Ext.refl _ | exact Ext.same _ _ _ _ | assumption | apply Ext.alloc | apply Ext.ext | apply Ext.drew) | (with_reducible refine Ext.setCell ?_ _ _ ?_; rotate_left; focus (first | omega | (simp only [zs1, zs2, zs3, size_ext]; omega))) | (with_reducible refine Ext.trans ?_ (by assumption)))), (by repeat (first | (with_reducible first | exact Ext.refl _ | exact Ext.same _ _ _ _ | assumption | apply Ext.alloc | apply Ext.ext | apply Ext.drew) | (with_reducible refine Ext.setCell ?_ _ _ ?_; rotate_left; focus (first | omega | (simp only [zs1, zs2, zs3, size_ext]; omega))) | (with_reducible refine Ext.trans ?_ (by assumption))))⟩, ?_⟩
      clear hR R
      simp only [Act.put, zp1, zp2, zp3, zp4, zp5, zp6]
      refine wpPend_call rfl rfl rfl Tryz.call125 (fun W107 hS107 hx107 R hR => ?_)
      go_simp
      refine (get_i _ _ _ _ _ _ (by assumption) (by omega) (by omega) (by omega) (by omega) (by omega) _ (by with_reducible repeat (first | assumption | apply Byt.ext | apply Byt.alloc | apply Byt.drew | (refine Byt.of_ext ?_ (by assumption))))).mono ?_
      rintro e w1 ⟨rfl, rfl⟩
      refine hR _ _ ⟨_, rfl, ⟨(by repeat (first | (with_reducible first | exact Ext.refl _ | exact Ext.same _ _ _ _ | assumption | apply Ext.alloc | apply Ext.ext | apply Ext.drew) | (with_reducible refine Ext.setCell ?_ _ _ ?_; rotate_left; focus (first | omega | (simp only [zs1, zs2, zs3, size_ext]; omega))) | (with_reducible refine Ext.trans ?_ (by assumption)))), (by repeat (first | (with_reducible first | exact Ext.refl _ | exact Ext.same _ _ _ _ | assumption | apply Ext.alloc | apply Ext.ext | apply Ext.drew) | (with_reducible refine Ext.setCell ?_ _ _ ?_; rotate_left; focus (first | omega | (simp only [zs1, zs2, zs3, size_ext]; omega))) | (with_reducible refine Ext.trans ?_ (by assumption))))⟩, ?_⟩
      clear hR R
      simp only [Act.put, zp1, zp2, zp3, zp4, zp5, zp6]
      repeat (first | (refine wpPend_free (v := ?_) rfl rfl (fun _ hS => ?_) ?_; rotate_left; (focus (obtain ⟨E9, d9, rfl⟩ := hS; go_simp; try with_reducible rfl)); simp only [Act.put, zp1, zp2, zp3, zp4, zp5, zp6]))
      refine wpPend_call rfl rfl rfl Tryz.call125 (fun W108 hS108 hx108 R hR => ?_)
      go_simp
      refine (get_i _ _ _ _ _ _ (by assumption) (by omega) (by omega) (by omega) (by omega) (by omega) _ (by with_reducible repeat (first | assumption | apply Byt.ext | apply Byt.alloc | apply Byt.drew | (refine Byt.of_ext ?_ (by assumption))))).mono ?_
      rintro e w1 ⟨rfl, rfl⟩
      refine hR _ _ ⟨_, rfl, ⟨(by repeat (first | (with_reducible first | exact Ext.refl _ | exact Ext.same _ _ _ _ | assumption | apply Ext.alloc | apply Ext.ext | apply Ext.drew) | (with_reducible refine Ext.setCell ?_ _ _ ?_; rotate_left; focus (first | omega | (simp only [zs1, zs2, zs3, size_ext]; omega))) | (with_reducible refine Ext.trans ?_ (by assumption)))), (by repeat (first | (with_reducible first | exact Ext.refl _ | exact Ext.same _ _ _ _ | assumption | apply Ext.alloc | apply Ext.ext | apply Ext.drew) | (with_reducible refine Ext.setCell ?_ _ _ ?_; rotate_left; focus (first | omega | (simp only [zs1, zs2, zs3, size_ext]; omega))) | (with_reducible refine Ext.trans ?_ (by assumption))))⟩, ?_⟩
      clear hR R
      simp only [Act.put, zp1, zp2, zp3, zp4, zp5, zp6]
      refine wpPend_call rfl rfl rfl Tryz.call125 (fun W109 hS109 hx109 R hR => ?_)
      go_simp
      refine (get_i _ _ _ _ _ _ (by assumption) (by omega) (by omega) (by omega) (by omega) (by omega) _ (by with_reducible repeat (first | assumption | apply Byt.ext | apply Byt.alloc | apply Byt.drew | (refine Byt.of_ext ?_ (by assumption))))).mono ?_
      rintro e w1 ⟨rfl, rfl⟩
      refine hR _ _ ⟨_, rfl, ⟨(by repeat (first | (with_reducible first | exact Ext.refl _ | exact Ext.same _ _ _ _ | assumption | apply Ext.alloc | apply Ext.ext | apply Ext.drew) | (with_reducible refine Ext.setCell ?_ _ _ ?_; rotate_left; focus (first | omega | (simp only [zs1, zs2, zs3, size_ext]; omega))) | (with_reducible refine Ext.trans ?_ (by assumption)))), (by repeat (first | (with_reducible first | exact Ext.refl _ | exact Ext.same _ _ _ _ | assumption | apply Ext.alloc | apply Ext.ext | apply Ext.drew) | (with_reducible refine Ext.setCell ?_ _ _ ?_; rotate_left; focus (first | omega | (simp only [zs1, zs2, zs3, size_ext]; omega))) | (with_reducible refine Ext.trans ?_ (by assumption))))⟩, ?_⟩
      clear hR R
      simp only [Act.put, zp1, zp2, zp3, zp4, zp5, zp6]
      repeat (first | (refine wpPend_free (v := ?_) rfl rfl (fun _ hS => ?_) ?_; rotate_left; (focus (obtain ⟨E9, d9, rfl⟩ := hS; go_simp; try with_reducible rfl)); simp only [Act.put, zp1, zp2, zp3, zp4, zp5, zp6]))
      refine wpPend_nil (fun W99 hS99 hx99 => ?_)
      rintro v9 ⟨g9, rfl, hg9, hh9⟩
      obtain ⟨hz0, hz1, hz2, hz3, hz4, hz5, hz6, hz7, hz8, hz9, hz10, hzf⟩ := new_cells hh9
      have hl9 := (cells_of_heap hh9).2.2
      have hh0 := heap_of_ext hS99
      have hl0 := (cells_of_heap hh0).2.2
      obtain ⟨hy0, hy1, hy2, hy3, hy4, hy5, hy6, hy7, hy8, hy9, hy10, hyf⟩ := new_cells hh0
      have hne : ¬w.heap.size = g9 := by omega
      have hne' : ¬g9 = w.heap.size := by omega
      simp only [Act.put, zp1, zp2, zp3, zp4, zp5, zp6]
      refine wpOrd_act rfl rfl (fun K hK => ?_)
      go_simp
      refine hK _ _ ⟨?_, ?_⟩
      · exact (by repeat (first | (with_reducible first | exact Ext.refl _ | exact Ext.same _ _ _ _ | assumption | apply Ext.alloc | apply Ext.ext | apply Ext.drew) | (with_reducible refine Ext.setCell ?_ _ _ ?_; rotate_left; focus (first | omega | (simp only [zs1, zs2, zs3, size_ext]; omega))) | (with_reducible refine Ext.trans ?_ (by assumption))))
      clear hK K
      try simp only [Act.put, zp1, zp2, zp3, zp4, zp5, zp6]
      refine wpOrd_nil ?_
      go_wp2_with fail
      have hsz : (⟨(l.drop 23).toArray⟩ : ByteArray).size ≤ 9223372036854775807 := by
        show (l.drop 23).toArray.size ≤ _
        rw [List.size_toArray, List.length_drop]; omega
      refine (rCheckRecord_any ⟨valB (l.take 1), valB (l.tail.take 2), valB ((l.drop 3).take 1), valB ((l.drop 4).take 2), valB ((l.drop 6).take 4), valB ((l.drop 10).take 4), valB ((l.drop 14).take 1), valB ((l.drop 15).take 2), valB ((l.drop 17).take 1), valB ((l.drop 18).take 4), ⟨(l.drop 23).toArray⟩⟩ _ hsz).mono ?_
      rintro e w1 ⟨rfl, E, d, rfl⟩
      rw [Hr.out]
      cases hok : recOk (decR l) with
      | true =>
        have hdo : decOk l = true := by rw [decOk, hlk, hok]; rfl
        have he : errRec (decR l) = 0 := by rw [errRec, hok]; rfl
        have Hd := hid hdo
        clear hdo hok
        simp only [he]
        clear he
        go_wp2_with fail
        refine bodyPost_ret (v := .tuple #[recV (decR l), .int .i64 0]) (by simp [results, Tryz.results126, go_sem, ← Hr.out, hl0, hl9, hne, hne', hy0, hy1, hy2, hy3, hy4, hy5, hy6, hy7, hy8, hy9, hy10, hyf]) rfl ?_
        rw [show decV l = decR l from by rw [decV, Hd.out]; rfl, show errDec l = 0 from by rw [errDec, Hd.out]; rfl]
        exact ⟨rfl, (by repeat (first | (with_reducible first | exact Ext.refl _ | exact Ext.same _ _ _ _ | assumption | apply Ext.alloc | apply Ext.ext | apply Ext.drew) | (with_reducible refine Ext.setCell ?_ _ _ ?_; rotate_left; focus (first | omega | (simp only [zs1, zs2, zs3, size_ext]; omega))) | (with_reducible refine Ext.trans ?_ (by assumption))))⟩
      | false =>
        have hno : decOk l = false := by rw [decOk, hlk, hok]; rfl
        have hz := decV_no hno
        have he : errDec l = 70 := by rw [errDec, hno]; rfl
        have HE := hid he
        have HZ := hid hz
        have he2 : errRec (decR l) = 70 := by rw [errRec, hok]; rfl
        clear hno hz he hok
        simp only [he2]
        clear he2
        go_wp2_with fail
        refine bodyPost_ret (v := .tuple #[recV zeroR, .int .i64 70]) (by simp [results, Tryz.results126, go_sem, zeroR, hl0, hl9, hne, hne', hy0, hy1, hy2, hy3, hy4, hy5, hy6, hy7, hy8, hy9, hy10, hyf]) rfl ?_
        rw [HE.out, HZ.out]
        exact ⟨rfl, (by repeat (first | (with_reducible first | exact Ext.refl _ | exact Ext.same _ _ _ _ | assumption | apply Ext.alloc | apply Ext.ext | apply Ext.drew) | (with_reducible refine Ext.setCell ?_ _ _ ?_; rotate_left; focus (first | omega | (simp only [zs1, zs2, zs3, size_ext]; omega))) | (with_reducible refine Ext.trans ?_ (by assumption))))⟩
    · have hlk : lenOk l = false := by simp only [lenOk, Bool.and_eq_false_iff, decide_eq_false_iff_not]; right; omega
      have hno : decOk l = false := by rw [decOk, hlk]; rfl
      have hz := decV_no hno
      have he : errDec l = 70 := by rw [errDec, hno]; rfl
      rw [he, hz]
      have hln' : ((n : Int) != (23 : Int) + (k : Int)) = true := by rw [bne_iff_ne]; omega
      clear hno hz he hlk hln hk
      go_enter Tryz.func126, Tryz.ntmps126
      go_wp2_with fail
      refine bodyPost_ret (v := .tuple #[recV zeroR, .int .i64 70]) (by simp [results, Tryz.results126, go_sem, zeroR]) rfl ?_
      exact ⟨rfl, (by repeat (first | (with_reducible first | exact Ext.refl _ | exact Ext.same _ _ _ _ | assumption | apply Ext.alloc | apply Ext.ext | apply Ext.drew) | (with_reducible refine Ext.setCell ?_ _ _ ?_; rotate_left; focus (first | omega | (simp only [zs1, zs2, zs3, size_ext]; omega)))))⟩
end Go.Proofs.YtekjdeibnfaehaaGreat
