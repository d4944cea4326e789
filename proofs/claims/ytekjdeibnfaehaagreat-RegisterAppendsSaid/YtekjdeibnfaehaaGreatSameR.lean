/- The reference's SameRecords and Same; the examples of every statement. -/
import Derived.Test.YtekjdeibnfaehaaGreatAppend
import Derived.Test.YtekjdeibnfaehaaGreatNext
set_option linter.unusedSimpArgs false
set_option linter.unusedVariables false
namespace Go.Proofs.YtekjdeibnfaehaaGreat
open Go Go.RowKit

set_option maxRecDepth 100000 in
set_option maxHeartbeats 4000000 in
theorem SameRecords_any (A B : Option Addr) (n c m d : Nat) (l l' : List Rec) (hn : l.length = n) (hm : l'.length = m) (hbig : n ≤ 9223372036854775807) (w : World) (hr : Recs w A l) (hs : Recs w B l') :
    Calls Tryz.prog 32 #[.slice A n c, .slice B m d] w fun e w' => e = .returned (.bool (recsEqB l l')) ∧ Ext w w' := by
  by_cases hnm : n = m
  · subst hnm
    go_enter Tryz.func32, Tryz.ntmps32
    go_wp2_with fail
    go_loopw [5] (fun i wr => ∃ k : Nat, k ≤ n ∧ i = .int .i64 k ∧ Ext w wr ∧ Hid (l.take k = l'.take k)) (fun i _ => n - (intOf i).toNat)
    case atStart => exact ⟨0, Nat.zero_le _, rfl, (by repeat (first | (with_reducible first | exact Ext.refl _ | exact Ext.same _ _ _ _ | assumption | apply Ext.alloc | apply Ext.ext | apply Ext.drew) | (with_reducible refine Ext.setCell ?_ _ _ ?_; rotate_left; focus (first | omega | (simp only [zs1, zs2, zs3, size_ext]; omega))))), hid rfl⟩
    case round =>
      obtain ⟨k, hk, rfl, ⟨E, dd, rfl⟩, htk⟩ := hrel
      by_cases hlt : k < n
      · have h1 : k < l.length := by omega
        have h2 : k < l'.length := by omega
        obtain ⟨g, o, rfl, hg⟩ := hr.addr (by omega)
        obtain ⟨g', o', rfl, hg'⟩ := hs.addr (by omega)
        have hrow := hr.row h1
        have hrow' := hs.row h2
        cases hq : recEqB l[k] l'[k] with
        | false =>
          have HF := hid (recsEqB_ne h1 h2 hq)
          obtain ⟨r, hrk⟩ : ∃ r, l[k] = r := ⟨_, rfl⟩
          obtain ⟨s, hsk⟩ : ∃ s, l'[k] = s := ⟨_, rfl⟩
          rw [hrk] at hrow hq
          rw [hsk] at hrow' hq
          obtain ⟨h0, h1, h2, h3, h4, h5, h6, h7, h8, h9, h10⟩ := hrow
          obtain ⟨g0, g1, g2, g3, g4, g5, g6, g7, g8, g9, g10⟩ := hrow'
          clear hrk hsk
          go_wp2_with fail
          refine wp_region_ord_same (.f 0 (.f 1 (.f 2 (.f 3 (.f 4 (.f 5 (.f 6 (.f 7 (.f 8 .d))))))))) (by kernel_rfl) (by kernel_rfl) ?_
          repeat ((first | refine wpOrd_pass rfl rfl ?_ | (refine wpOrd_free (v := ?_) rfl rfl (fun _ hS => ?_) ?_; rotate_left; focus (go_simp; try with_reducible rfl))); simp only [Act.put, zp1, zp2, zp3, zp4, zp5, zp6])
          refine wpOrd_nil ?_
          go_wp2_with fail
          go_ret
          exact ⟨ret_val (by rw [HF.out]; rfl), (by repeat (first | (with_reducible first | exact Ext.refl _ | exact Ext.same _ _ _ _ | assumption | apply Ext.alloc | apply Ext.ext | apply Ext.drew) | (with_reducible refine Ext.setCell ?_ _ _ ?_; rotate_left; focus (first | omega | (simp only [zs1, zs2, zs3, size_ext]; omega)))))⟩
        | true =>
          have HT := hid (take_snoc_eq h1 h2 htk.out hq)
          obtain ⟨r, hrk⟩ : ∃ r, l[k] = r := ⟨_, rfl⟩
          obtain ⟨s, hsk⟩ : ∃ s, l'[k] = s := ⟨_, rfl⟩
          rw [hrk] at hrow hq
          rw [hsk] at hrow' hq
          obtain ⟨h0, h1, h2, h3, h4, h5, h6, h7, h8, h9, h10⟩ := hrow
          obtain ⟨g0, g1, g2, g3, g4, g5, g6, g7, g8, g9, g10⟩ := hrow'
          clear hrk hsk
          go_wp2_with fail
          refine wp_region_ord_same (.f 0 (.f 1 (.f 2 (.f 3 (.f 4 (.f 5 (.f 6 (.f 7 (.f 8 .d))))))))) (by kernel_rfl) (by kernel_rfl) ?_
          repeat ((first | refine wpOrd_pass rfl rfl ?_ | (refine wpOrd_free (v := ?_) rfl rfl (fun _ hS => ?_) ?_; rotate_left; focus (go_simp; try with_reducible rfl))); simp only [Act.put, zp1, zp2, zp3, zp4, zp5, zp6])
          refine wpOrd_nil ?_
          go_wp2_with fail
          exact ⟨⟨k + 1, by omega, by go_num, (by repeat (first | (with_reducible first | exact Ext.refl _ | exact Ext.same _ _ _ _ | assumption | apply Ext.alloc | apply Ext.ext | apply Ext.drew) | (with_reducible refine Ext.setCell ?_ _ _ ?_; rotate_left; focus (first | omega | (simp only [zs1, zs2, zs3, size_ext]; omega))))), HT⟩, by simp [intOf]; omega⟩
      · obtain rfl : k = n := by omega
        have hT : Hid (recsEqB l l' = true) := hid (recsEqB_iff.2 (by
          have h := htk.out
          rwa [List.take_of_length_le (by omega), List.take_of_length_le (by omega)] at h))
        clear hr hs
        go_wp2_with fail
        go_ret
        exact ⟨ret_val (by rw [hT.out]; rfl), (by repeat (first | (with_reducible first | exact Ext.refl _ | exact Ext.same _ _ _ _ | assumption | apply Ext.alloc | apply Ext.ext | apply Ext.drew) | (with_reducible refine Ext.setCell ?_ _ _ ?_; rotate_left; focus (first | omega | (simp only [zs1, zs2, zs3, size_ext]; omega)))))⟩
  · have hne := recsEqB_len (a := l) (b := l') (by omega)
    have HN := hid hne
    clear hne
    go_enter Tryz.func32, Tryz.ntmps32
    go_wp2_with fail
    go_ret
    exact ⟨ret_val (by rw [HN.out]; rfl), (by repeat (first | (with_reducible first | exact Ext.refl _ | exact Ext.same _ _ _ _ | assumption | apply Ext.alloc | apply Ext.ext | apply Ext.drew) | (with_reducible refine Ext.setCell ?_ _ _ ?_; rotate_left; focus (first | omega | (simp only [zs1, zs2, zs3, size_ext]; omega)))))⟩
set_option maxRecDepth 100000 in
set_option maxHeartbeats 2000000 in
theorem Same_any (A B : Option Addr) (n c m d : Nat) (l l' : List Rec) (hn : l.length = n) (hm : l'.length = m) (hbig : n ≤ 9223372036854775807) (w : World) (hr : Recs w A l) (hs : Recs w B l') :
    Calls Tryz.prog 53 #[regV A n c, regV B m d] w fun e w' => e = .returned (.bool (recsEqB l l')) ∧ Ext w w' := by
  go_enter Tryz.func53, Tryz.ntmps53
  go_wp2_with fail
  refine (SameRecords_any A B n c m d l l' hn hm hbig _ (by with_reducible repeat (first | assumption | apply Recs.ext | apply Recs.alloc | apply Recs.drew | (refine Recs.of_ext ?_ (by assumption)))) (by with_reducible repeat (first | assumption | apply Recs.ext | apply Recs.alloc | apply Recs.drew | (refine Recs.of_ext ?_ (by assumption))))).mono ?_
  rintro e w1 ⟨rfl, E1, d1, rfl⟩
  go_wp2_with fail
  go_ret
  exact ⟨rfl, (by repeat (first | (with_reducible first | exact Ext.refl _ | exact Ext.same _ _ _ _ | assumption | apply Ext.alloc | apply Ext.ext | apply Ext.drew) | (with_reducible refine Ext.setCell ?_ _ _ ?_; rotate_left; focus (first | omega | (simp only [zs1, zs2, zs3, size_ext]; omega)))))⟩
end Go.Proofs.YtekjdeibnfaehaaGreat
/- The examples of the chapter, in plain terms. -/
namespace Go.Proofs.YtekjdeibnfaehaaGreat
open Go Go.RowKit

def evR : Rec := ⟨1, 0, 2, 10, 5, 6, 0, 0, 0, 0, ⟨#[98, 117, 105, 108, 100]⟩⟩
def yR : Rec := ⟨1, 1, 0, 0, 0, 9, 1, 0, 0, 0, ⟨#[]⟩⟩
def zR : Rec := ⟨1, 2, 0, 0, 0, 12, 1, 1, 0, 0, ⟨#[]⟩⟩
def thR : List Rec := [evR, yR, zR]
theorem ev_len : (encL evR).length = 28 := by decide +kernel
theorem ev_err : errRec evR = 0 := by decide +kernel
theorem ev_ok : recOk evR = true := by decide +kernel
theorem th_stands : standsB thR 1 0 = true := by decide +kernel
theorem th_standsE : standsE thR 1 0 = 0 := by decide +kernel
theorem th_noneE : standingE thR 10 10 = 0 := by decide +kernel
theorem th_none : (standingR thR 10 10).length = 0 := by decide +kernel
theorem th_someE : standingE thR 10 12 = 0 := by decide +kernel
theorem th_some : (standingR thR 10 12).length = 1 := by decide +kernel
theorem home_ten : homeI 10 = 1 := by decide +kernel
theorem ap_err : appE newDrive newMem evR = 0 := by decide +kernel
theorem ap_len : (appD newDrive newMem evR).f0.bytes.length = 39 := by decide +kernel
theorem ap_firm : (appD newDrive newMem evR).f0.firm = 10 := by decide +kernel
theorem ap_file : (appM newDrive newMem evR).file = 0 := by decide +kernel
theorem ap_gen : (appM newDrive newMem evR).gen = 1 := by decide +kernel
theorem ap_recs : recsEqB (appM newDrive newMem evR).recs [evR] = true := by decide +kernel
theorem ap_len1 : (appD newDrive newMem evR).f1.bytes.length = 0 := by decide +kernel
theorem ap_lenm : (appM newDrive newMem evR).recs.length = 1 := by decide +kernel
theorem op_len29 : (openM (crashD (appD newDrive newMem evR) 29 0)).recs.length = 1 := by decide +kernel
theorem op_err28 : openE (crashD (appD newDrive newMem evR) 28 0) = 0 := by decide +kernel
theorem op_len28 : (openM (crashD (appD newDrive newMem evR) 28 0)).recs.length = 0 := by decide +kernel
theorem op_err29 : openE (crashD (appD newDrive newMem evR) 29 0) = 0 := by decide +kernel
theorem op_same29 : recsEqB (openM (crashD (appD newDrive newMem evR) 29 0)).recs (appM newDrive newMem evR).recs = true := by decide +kernel
end Go.Proofs.YtekjdeibnfaehaaGreat
/- The examples that every statement holds. -/
namespace Go.Proofs.YtekjdeibnfaehaaGreat
open Go Go.RowKit

theorem DrvO.read {base : Nat} {w : World} {D : DriveD} {v : Value} (h : DrvO base w D v) : ∃ A0 n0 c0 A1 n1 c1, v = drvV A0 n0 c0 D.f0.firm A1 n1 c1 D.f1.firm ∧ DrvY w D A0 n0 c0 A1 n1 c1 ∧ OwnB base w (.slice A0 n0 c0) D.f0.bytes ∧ OwnB base w (.slice A1 n1 c1) D.f1.bytes := by
  obtain ⟨A0, A1, hv, h0, h1⟩ := h
  exact ⟨A0, _, _, A1, _, _, hv, ⟨rfl, rfl, Nat.le_refl _, Nat.le_refl _, h0.cap, h1.cap, h0.of_byt_slice, h1.of_byt_slice⟩, h0, h1⟩
theorem Crash_y (A0 : Option Addr) (n0 c0 : Nat) (A1 : Option Addr) (n1 c1 : Nat) (D : DriveD) (k0 k1 : Int) (w : World) (h : DrvY w D A0 n0 c0 A1 n1 c1) (hs0 : n0 ≤ 140737488355328) (hs1 : n1 ≤ 140737488355328)
    (hk0 : -9223372036854775808 ≤ k0) (hk0' : k0 ≤ 9223372036854775807) (hk1 : -9223372036854775808 ≤ k1) (hk1' : k1 ≤ 9223372036854775807) :
    Calls Tryz.prog 13 #[drvV A0 n0 c0 D.f0.firm A1 n1 c1 D.f1.firm, .agg #[.int .i64 k0, .int .i64 k1]] w fun e w' => ∃ B0 m0 d0 B1 m1 d1, e = .returned (drvV B0 m0 d0 (crashD D k0 k1).f0.firm B1 m1 d1 (crashD D k0 k1).f1.firm) ∧ DrvY w' (crashD D k0 k1) B0 m0 d0 B1 m1 d1 ∧ Ext w w' := by
  refine (Crash_any A0 n0 c0 A1 n1 c1 D k0 k1 h.l0 h.l1 h.h0 h.h1 h.k0 h.k1 hs0 hs1 hk0 hk0' hk1 hk1' w h.b0 h.b1).mono ?_
  rintro e w' ⟨v, rfl, hv, hx⟩
  obtain ⟨B0, m0, d0, B1, m1, d1, rfl, hy, -, -⟩ := hv.read
  exact ⟨B0, m0, d0, B1, m1, d1, rfl, hy, hx⟩
theorem Open_y (A0 : Option Addr) (n0 c0 : Nat) (A1 : Option Addr) (n1 c1 : Nat) (D : DriveD) (w : World) (h : DrvY w D A0 n0 c0 A1 n1 c1) :
    Calls Tryz.prog 15 #[drvV A0 n0 c0 D.f0.firm A1 n1 c1 D.f1.firm] w fun e w' => ∃ B0 m0 d0 B1 m1 d1 Am nm cm, e = .returned (.tuple #[drvV B0 m0 d0 (openD D).f0.firm B1 m1 d1 (openD D).f1.firm, memV Am nm cm (openM D).file (openM D).gen, .int .i64 (openE D)]) ∧
      DrvY w' (openD D) B0 m0 d0 B1 m1 d1 ∧ MemX w.heap.size w' (openM D) Am nm cm ∧ Ext w w' := by
  refine (Open_any A0 n0 c0 A1 n1 c1 D h.l0 h.l1 h.h0 h.h1 h.k0 h.k1 w h.b0 h.b1).mono ?_
  rintro e w' ⟨B0, m0, d0, B1, m1, d1, Am, nm, cm, rfl, hd, hm, hx⟩
  exact ⟨B0, m0, d0, B1, m1, d1, Am, nm, cm, rfl, hd.read, hm, hx⟩
theorem MemX.recs {base : Nat} {w : World} {M : MemD} {A : Option Addr} {n c : Nat} (h : MemX base w M A n c) : Recs w A M.recs := h.r.of_slice
set_option maxRecDepth 100000 in
set_option maxHeartbeats 1000000 in
theorem event_any (w : World) : Calls Tryz.prog 70 #[] w fun e w' => e = .returned (recV evR) ∧ Ext w w' := by
  go_enter Tryz.func70, Tryz.ntmps70
  go_wp2_with fail
  refine bodyPost_ret (v := recV evR) (by simp [results, Tryz.results70, go_sem, evR]) rfl ?_
  exact ⟨rfl, (by repeat (first | (with_reducible first | exact Ext.refl _ | exact Ext.same _ _ _ _ | assumption | apply Ext.alloc | apply Ext.ext | apply Ext.drew) | (with_reducible refine Ext.setCell ?_ _ _ ?_; rotate_left; focus (first | omega | (simp only [zs1, zs2, zs3, size_ext]; omega)))))⟩
set_option maxRecDepth 100000 in
set_option maxHeartbeats 2000000 in
theorem three_any (w : World) : Calls Tryz.prog 71 #[] w fun e w' => ∃ A, e = .returned (regV A 3 3) ∧ Recs w' A thR ∧ Ext w w' := by
  go_enter Tryz.func71, Tryz.ntmps71
  go_wp2_with fail
  have hl1 : w.heap.size + 1 ≤ w.heap.size + 1 := Nat.le_refl _
  have hl2 : w.heap.size + 1 ≤ w.heap.size + 1 + 1 := by omega
  have hl3 : w.heap.size + 1 < w.heap.size + 1 + 1 + 1 := by omega
  have hl4 : w.heap.size + 1 + 1 < w.heap.size + 1 + 1 + 1 := by omega
  refine wp_region_ord_from (w.heap.size + 1) (.f 1 (.f 2 (.a 0 (.a 3 (.f 4 (.a 5 .d)))))) (by kernel_rfl) (by kernel_rfl) ?_
  repeat ((first | refine wpOrd_pass rfl rfl ?_ | (refine wpOrd_free (v := ?_) rfl rfl (fun _ hS => ?_) ?_; rotate_left; focus (go_simp; try with_reducible rfl))); simp only [Act.put, zp1, zp2, zp3, zp4, zp5, zp6])
  refine wpOrd_call rfl rfl rfl Tryz.call70 (fun R hR => ?_)
  go_simp
  refine (event_any _).mono ?_
  rintro e w1 ⟨rfl, E1, d1, rfl⟩
  refine hR _ _ ⟨_, rfl, ?_, ?_⟩
  · exact SameL.out (by repeat (first | (with_reducible refine SameE.same ?_; (repeat (first | with_reducible exact SameE.refl _ _ | (with_reducible refine SameE.base ?_ ?_ _ _; (focus ((try simp only [World.size_alloc, size_ext, World.size_drew]); (try omega))); (focus ((try simp only [World.size_alloc, size_ext, World.size_drew]); omega))) | with_reducible apply SameE.alloc | with_reducible apply SameE.ext | with_reducible apply SameE.drewL | with_reducible apply SameE.drewR)); done) | with_reducible apply SameL.extL | with_reducible apply SameL.allocL | with_reducible apply SameL.drewL))
  clear hR R
  simp only [Act.put, zp1, zp2, zp3, zp4, zp5, zp6]
  refine wpOrd_act rfl rfl (fun K hK => ?_)
  go_simp
  refine hK _ _ ⟨?_, ?_⟩
  · exact SameL.out (by repeat (first | (with_reducible refine SameE.same ?_; (repeat (first | with_reducible exact SameE.refl _ _ | (with_reducible refine SameE.base ?_ ?_ _ _; (focus ((try simp only [World.size_alloc, size_ext, World.size_drew]); (try omega))); (focus ((try simp only [World.size_alloc, size_ext, World.size_drew]); omega))) | with_reducible apply SameE.alloc | with_reducible apply SameE.ext | with_reducible apply SameE.drewL | with_reducible apply SameE.drewR)); done) | with_reducible apply SameL.extL | with_reducible apply SameL.allocL | with_reducible apply SameL.drewL))
  clear hK K
  try simp only [Act.put, zp1, zp2, zp3, zp4, zp5, zp6]
  repeat ((first | refine wpOrd_pass rfl rfl ?_ | (refine wpOrd_free (v := ?_) rfl rfl (fun _ hS => ?_) ?_; rotate_left; focus (go_simp; try with_reducible rfl))); simp only [Act.put, zp1, zp2, zp3, zp4, zp5, zp6])
  refine wpOrd_act rfl rfl (fun K hK => ?_)
  go_simp
  refine hK _ _ ⟨?_, ?_⟩
  · exact SameL.out (by repeat (first | (with_reducible refine SameE.same ?_; (repeat (first | with_reducible exact SameE.refl _ _ | (with_reducible refine SameE.base ?_ ?_ _ _; (focus ((try simp only [World.size_alloc, size_ext, World.size_drew]); (try omega))); (focus ((try simp only [World.size_alloc, size_ext, World.size_drew]); omega))) | with_reducible apply SameE.alloc | with_reducible apply SameE.ext | with_reducible apply SameE.drewL | with_reducible apply SameE.drewR)); done) | with_reducible apply SameL.extL | with_reducible apply SameL.allocL | with_reducible apply SameL.drewL))
  clear hK K
  try simp only [Act.put, zp1, zp2, zp3, zp4, zp5, zp6]
  refine wpOrd_nil ?_
  all_goals
    go_wp2_with fail
  all_goals
    refine bodyPost_ret (v := regV (some ⟨w.heap.size + 1 + 1 + 1 + E1.size, 0, none⟩) 3 3) (by simp [results, Tryz.results71, go_sem]) rfl ?_
    exact ⟨_, rfl, Sl_at (thR.flatMap encRec) _ 11 3 _ rfl (by simp), (by repeat (first | (with_reducible first | exact Ext.refl _ | exact Ext.same _ _ _ _ | assumption | apply Ext.alloc | apply Ext.ext | apply Ext.drew) | (with_reducible refine Ext.setCell ?_ _ _ ?_; rotate_left; focus (first | omega | (simp only [zs1, zs2, zs3, size_ext]; omega)))))⟩
end Go.Proofs.YtekjdeibnfaehaaGreat
