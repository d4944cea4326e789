/- RegisterEqual: the walk. -/
import Derived.Test.YtekjdeibnfaehaaGreatKCad
import Derived.Test.YtekjdeibnfaehaaGreatKAas
import Derived.Test.YtekjdeibnfaehaaGreatKCaa
set_option linter.unusedSimpArgs false
set_option linter.unusedVariables false
namespace Go.Proofs.YtekjdeibnfaehaaGreat
open Go Go.RowKit

set_option maxRecDepth 100000 in
set_option maxHeartbeats 16000000 in
theorem eq_walk (A0 : Option Addr) (n c0 : Nat) (l : List MoveD) (hn : l.length = n) (hbig : n ≤ 9223372036854775807) (hok : ∀ m ∈ l, MovOk m) (w : World) (hl : Moves w A0 l) :
    Calls Tryz.prog 8 #[.slice A0 n c0] w fun e w' => e = .returned (.bool true) ∧ Ext w w' := by
  have Hok := hid hok
  have Hl := hid hl
  clear hok hl
  obtain ⟨zc, hzc⟩ : ∃ zc, worldC zeroW (fun _ => zL) none 0 0 = zc := ⟨_, rfl⟩
  have hzw := zero_world
  rw [hzc] at hzw
  have lzc : zc.length = 70 := by rw [← hzc]; rfl
  clear hzc
  go_enter Tryz.func8, Tryz.ntmps8
  go_wp2_with fail
  refine (begun_any w).mono ?_
  rintro e w1 ⟨Ls0, rfl, hY0, hF0, ⟨E0, d0, rfl⟩⟩
  obtain ⟨wc, hwc⟩ : ∃ wc, worldC beginW Ls0 none 0 0 = wc := ⟨_, rfl⟩
  have wwc : Whole wc.toArray 70 := by rw [← hwc]; exact worldC_whole _ _ _ _ _
  have lwc : wc.length = 70 := by rw [← hwc]; rfl
  rw [hwc]
  have Hwc := hid hwc
  have HY0 := hid hY0
  have HF0 := hid hF0
  clear hwc hY0 hF0
  go_wp2_with fail
  obtain ⟨b, hb⟩ : ∃ b, w.heap.size + E0.size = b := ⟨_, rfl⟩
  simp only [hb]
  have hsb : (w.ext E0 d0).heap.size = b := by rw [size_ext]; exact hb
  obtain ⟨P, hP⟩ : ∃ P, ((w.ext E0 d0).alloc (.cells zc.toArray 83)).setCells b 0 wc = P := ⟨_, rfl⟩
  simp only [hP]
  have hwb : w.heap.size ≤ b := by omega
  have hF1 : WorldF b Ls0 none 0 := HY0.out.far (by omega)
  have HW : WBox w b P 0 beginW noGh Ls0 none 0 0 := by
    rw [← hP]
    refine ⟨Ext.cells _ _ (Ext.alloc ((Ext.refl w).ext E0 d0) _) hwb, ?_, WI.begin, ?_, hF1, Nat.zero_le _⟩
    · rw [Hwc.out]; exact box_whole (BoxC.new_at zc _ hsb.symm) (by rw [lzc, lwc])
    · exact (HY0.out.of_ext ((Ext.refl _).alloc _)).grown hF1 (gb_cells b wc 0 _)
  clear hP hsb hF1 HY0 HF0 hb hzw
  go_loopw [4] (fun i wr => ∃ (k : Nat) (W : WD) (G : Gh) (Ls : Nat → OffL) (A : Option Addr) (na c : Nat), k ≤ n ∧ k ≤ 28 ∧ i = .int .i64 k ∧ Hid (WBox w b wr k W G Ls A na c)) (fun i _ => 28 - (intOf i).toNat)
  case atStart => exact ⟨0, _, _, _, _, _, _, Nat.zero_le _, Nat.zero_le _, rfl, hid HW⟩
  case round =>
    obtain ⟨k, W, G, Ls, A, na, c, hkn, hk36, rfl, hW⟩ := hrel
    clear HW
    by_cases hlt : k < n ∧ k < 28
    · obtain ⟨hk1, hk2⟩ := hlt
      have hkl : k < l.length := by omega
      obtain ⟨w68, w69, lq0, rq0⟩ := hW.out.q.world
      have t0 := hW.out.q.lt
      have f0 := hW.out.q.frozen
      have fb := fars t0
      obtain ⟨wc, hwc⟩ : ∃ wc, worldC W Ls A na c = wc := ⟨_, rfl⟩
      rw [hwc] at rq0
      have Hwc := hid hwc
      have wwc : Whole wc.toArray 70 := by rw [← hwc]; exact worldC_whole _ _ _ _ _
      obtain ⟨g, o, rfl, hg⟩ := Hl.out.addr (by omega)
      have hcl := (Hl.out.of_ext hW.out.x).at hkl
      obtain ⟨m, hm⟩ : ∃ m, l[k] = m := ⟨_, rfl⟩
      rw [hm] at hcl
      have Hm : Hid (MovOk m) := hid (Hok.out m (by rw [← hm]; exact List.getElem_mem hkl))
      have hna : na ≤ 432 := by have := hW.out.l; omega
      have hg2 : g < wr.heap.size := Nat.lt_of_lt_of_le hg hW.out.x.below.size
      have fg := fars hg2
      have hki : (k : Int) < n := by omega
      have hk36i : (k : Int) < 28 := by omega
      clear hwc hm
      go_wp2_with fail
      refine wp_region_ordZ 6 (.f 0 (.f 1 (.f 2 (.f 3 (.f 4 (.a 5 (.z 6))))))) (Kept (wr) (wr.heap.size) (wr.heap.size)) (by kernel_rfl) (by kernel_rfl) (Kept.refl _ _ _).drew ?_
      repeat ((first | refine wpOrd_pass rfl rfl ?_ | (refine wpOrd_free (v := ?_) rfl rfl (fun _ hS => ?_) ?_; rotate_left; focus (have hS1 := Kept.rows hS; have hS2 := Kept.len hS; have hS3 := Kept.cell hS; go_simp; try with_reducible rfl))); simp only [Act.put, zp])
      refine wpOrd_call rfl rfl rfl Tryz.call38 (fun R hR => ?_)
      go_simp
      refine (moved_q wc Hwc.out hW.out.i _ (hW.out.y.of_ext exI) Hm.out (by omega)).mono ?_
      rintro e w1 ⟨Ls1, A1, n1, c1, nc, rfl, wn, ln, hN, E1, d1, rfl⟩
      refine hR _ _ ⟨_, rfl, ?_, ?_⟩
      · exact (by repeat (first | with_reducible exact Kept.refl _ _ _ | with_reducible assumption | with_reducible apply Kept.drew | with_reducible apply Kept.alloc | with_reducible apply Kept.ext | (with_reducible refine Kept.cells ?_ ?_; rotate_left; focus (first | exact .inl rfl | exact .inr (.inl rfl) | (refine .inr (.inr ?_); simp only [zs]; omega) | omega)) | (with_reducible refine Kept.set ?_ ?_; rotate_left; focus (first | exact .inl rfl | exact .inr (.inl rfl) | (refine .inr (.inr ?_); simp only [zs]; omega) | omega))))
      clear hR R
      simp only [Act.put, zp]
      refine wpOrd_last rfl rfl (fun K hK => ?_)
      go_simp
      refine hK _ _ ?_
      clear hK K
      try simp only [Act.put, zp]
      obtain ⟨G1, hW1, hG1, he1, he2⟩ := hW.out.next hwb hN.out.2.drew
      rw [hN.out.1] at hW1
      go_wp2_with fail
      exact ⟨⟨k + 1, _, G1, Ls1, A1, n1, c1, by omega, by omega, by go_num, hid hW1⟩, by simp [intOf]; omega⟩
    · have hna : na ≤ 432 := by have := hW.out.l; omega
      have hcc : ((k : Int) < n ∧ ¬ ((k : Int) < 28)) ∨ ¬ ((k : Int) < n) := by omega
      have Hd := hid (show k < 80 by omega)
      clear hlt
      rcases hcc with ⟨d1, d2⟩ | d1
      all_goals
        go_wp2_with fail
        go_loopw [5] (fun j w3 => ∃ (q : Nat) (Wq : WD) (Gq : Gh) (Lq : Nat → OffL), q ≤ 32 ∧ j = .int .i64 q ∧ Hid (WBox w b w3 k Wq Gq Lq A na c) ∧ Hid (Rnd G k q Wq Gq)) (fun j _ => 32 - (intOf j).toNat)
        case atStart => exact ⟨0, W, G, Ls, Nat.zero_le _, rfl, hW, hid (Rnd.begin hW.out.i)⟩
        case round =>
          clear hW
          obtain ⟨q, Wq, Gq, Lq, hq32, rfl, hW, hR⟩ := hrel
          by_cases hq : q < 32
          · have hqi : (q : Int) < 32 := by omega
            obtain ⟨G2, hR2⟩ := hR.out.next Hd.out hq
            have HR2 := hid hR2
            obtain ⟨f, hf⟩ : ∃ f, q % 4 = f := ⟨_, rfl⟩
            obtain ⟨t, ht⟩ : ∃ t, q / 4 % 4 = t := ⟨_, rfl⟩
            have e1 : (q : Int) % 4 = (f : Int) := by omega
            have e3 : (q : Int) / 4 % 4 = (t : Int) := by omega
            have Hft := hid (And.intro hf ht)
            clear hf ht hR2
            by_cases hft : f = t
            · subst hft
              have hsame : roundW Wq q = Wq := by rw [roundW, Hft.out.1, Hft.out.2, if_pos rfl]
              rw [hsame] at HR2
              clear hsame
              go_wp2_with fail
              exact ⟨⟨q + 1, Wq, G2, Lq, by omega, by go_num, hid ⟨hW.out.x, hW.out.q, HR2.out.w, hW.out.y, hW.out.f, hW.out.l⟩, HR2⟩, by simp [intOf]; omega⟩
            · have hfti : ¬ ((f : Int) = t) := by omega
              have hf4 : f < 4 := by have := Hft.out.1; omega
              have ht4 : t < 4 := by have := Hft.out.2; omega
              have hrnd : roundW Wq q = offeredW Wq f t := by rw [roundW, Hft.out.1, Hft.out.2, if_neg hft]
              rw [hrnd] at HR2
              obtain ⟨w68, w69, lq0, rq0⟩ := hW.out.q.world
              have t0 := hW.out.q.lt
              have f0 := hW.out.q.frozen
              have fb := fars t0
              obtain ⟨wc, hwc⟩ : ∃ wc, worldC Wq Lq A na c = wc := ⟨_, rfl⟩
              rw [hwc] at rq0
              have Hwc := hid hwc
              have wwc : Whole wc.toArray 70 := by rw [← hwc]; exact worldC_whole _ _ _ _ _
              clear hrnd hwc
              go_wp2_with fail
              refine (offered_any Wq Lq A na c wc Hwc.out f t hf4 ht4 hft hW.out.i Hd.out wr hW.out.y).mono ?_
              rintro e w1 ⟨L2, nc, rfl, wn, ln, hN, ⟨E1, d1, rfl⟩⟩
              have hx1 : Ext wr (wr.ext E1 d1) := ⟨E1, d1, rfl⟩
              have he0 : (offeredW Wq f t).e = 0 := (sent_way _ _ rfl).2
              have hF := hN.out.2.2 b t0 hW.out.f
              have hW3 : WBox w b ((wr.ext E1 d1).setCells b 0 nc) k (offeredW Wq f t) G2 L2 A na c := by
                rw [← hN.out.1]
                exact ⟨Ext.cells _ _ (hW.out.x.trans hx1) hwb, box_whole (hW.out.q.of_ext hx1) rfl, HR2.out.w, hN.out.2.1.grown hF (gb_cells b _ 0 _), hF, hW.out.l⟩
              have hw69 := hW3.q.world.2.1
              rw [he0] at hw69
              go_wp2_with fail
              exact ⟨⟨q + 1, offeredW Wq f t, G2, L2, by omega, by go_num, hid hW3, HR2⟩, by simp [intOf]; omega⟩
          · have hqi : ¬ ((q : Int) < 32) := by omega
            have hR32 : Hid (Rnd G k 32 Wq Gq) := by
              have e : q = 32 := by omega
              rw [e] at hR
              exact hR
            clear hR
            go_wp2_with fail
            go_loopw [8] (fun j w4 => ∃ p : Nat, p ≤ 4 ∧ j = .int .i64 p ∧ Hid (Ext wr w4)) (fun j _ => 4 - (intOf j).toNat)
            case atStart => exact ⟨0, Nat.zero_le _, rfl, hid (Ext.refl _)⟩
            case round =>
              obtain ⟨p, hp4, rfl, hx4⟩ := hrel
              have hW := hid (hW.out.of_ext hx4.out)
              by_cases hp : p < 4
              · have hpi : (p : Int) < 4 := by omega
                obtain ⟨t, ht⟩ : ∃ t, (p + 1) % 4 = t := ⟨_, rfl⟩
                have ht4 : t < 4 := by omega
                have hpt : p ≠ t := by omega
                have e5 : ((p : Int) + 1) % 4 = (t : Int) := by omega
                obtain ⟨n0, n1⟩ := hR32.out.nothing hp ht4 hpt
                have hsm : recsEqB (Wq.off p).m.recs (Wq.off 0).m.recs = true := recsEqB_iff.2 (hR32.out.equal (by omega) hp)
                have hN0 := hid (And.intro n0 n1)
                have hreg := hW.out.q.cell (worldC_reg Wq Lq A na c hp)
                have hreg0 : wr.cell? ⟨b, 5, none⟩ = some (.slice (Lq 0).Am (Lq 0).nm (Lq 0).cm) := hW.out.q.cell (worldC_reg Wq Lq A na c (f := 0) (by omega))
                obtain ⟨w68, w69, lq0, rq0⟩ := hW.out.q.world
                have ro := hW.out.q.worldOff hp
                obtain ⟨oc, hoc⟩ : ∃ oc, offQ (Wq.off p) (Lq p) = oc := ⟨_, rfl⟩
                rw [hoc] at ro
                have Hoc := hid hoc
                have wo : Whole oc.toArray 17 := by rw [← hoc]; exact offQ_whole _ _
                have hyp := hid (hW.out.y.o p hp)
                have hy0 := hid (hW.out.y.o 0 (by omega))
                have hlp := hyp.out.l
                have hl0 := hy0.out.l
                have hbp : (Lq p).nm ≤ 9223372036854775807 := by
                  have h := (checkB_iff.1 (hW.out.i.o p hp).check).1
                  omega
                have tb := hW.out.q.lt
                have fb := fars tb
                have hf17 : p * 17 ≤ 51 := by omega
                have hf70 : p * 17 + 17 ≤ 70 := by omega
                have hf70' : 17 + p * 17 ≤ 70 := by omega
                clear n0 n1 hoc ht w69 w68 rq0
                go_wp2_with fail
                refine wp_region_ord (.f 0 (.f 1 (.f 2 (.f 3 (.f 4 (.f 5 (.f 6 (.f 7 (.f 8 (.f 9 (.f 10 (.a 11 (.f 12 .d))))))))))))) (Ext (wr)) (by kernel_rfl) (by kernel_rfl) exI ?_
                repeat ((first | refine wpOrd_pass rfl rfl ?_ | (refine wpOrd_free (v := ?_) rfl rfl (fun _ hS => ?_) ?_; rotate_left; focus (obtain ⟨E9, d9, rfl⟩ := hS; go_simp; try with_reducible rfl))); simp only [Act.put, zp])
                refine wpOrd_call rfl rfl rfl Tryz.call53 (fun R hR => ?_)
                go_simp
                refine (Same_any _ _ _ _ _ _ (Wq.off p).m.recs (Wq.off 0).m.recs hlp hl0 hbp _ (hyp.out.r.of_ext exI) (hy0.out.r.of_ext exI)).mono ?_
                rintro e w1 ⟨rfl, E201, d201, rfl⟩
                refine hR _ _ ⟨_, rfl, ?_, ?_⟩
                · exact exI
                clear hR R
                simp only [Act.put, zp]
                repeat ((first | refine wpOrd_pass rfl rfl ?_ | (refine wpOrd_free (v := ?_) rfl rfl (fun _ hS => ?_) ?_; rotate_left; focus (obtain ⟨E9, d9, rfl⟩ := hS; go_simp; try with_reducible rfl))); simp only [Act.put, zp])
                refine wpOrd_nil ?_
                go_wp2_with fail
                refine (offer_q (Wq.off p) (Lq p) oc Hoc.out _ t (hyp.out.of_ext exI)).mono ?_
                rintro e w1 ⟨LN, nc, AM, nm, cm, jn, rfl, wn, ln, hN, hM, ⟨EN, dN, rfl⟩⟩
                obtain rfl : jn = 0 := by have h := hN.out.2.1; rw [hN0.out.1] at h; exact h.symm
                obtain rfl : nm = 0 := by have h := hM.out.1; rw [hN0.out.2] at h; exact h.symm
                go_wp2_with fail
                exact ⟨⟨p + 1, by omega, by go_num, hid (hx4.out.trans (show Ext wr _ from (by repeat (first | with_reducible exact Ext.refl _ | with_reducible refine Ext.cells _ _ ?_ (by omega) | with_reducible refine Ext.alloc ?_ _ | with_reducible refine Ext.drew ?_ | with_reducible refine Ext.ext ?_ _ _))))⟩, by simp [intOf]; omega⟩
              · have hpi : ¬ ((p : Int) < 4) := by omega
                have xwr := hW.out.x
                clear hW hx4 hR32
                go_wp2_with (go_at_call 18; refine (sane_any _).mono ?_; rintro e w1 ⟨rfl, E1, d1, rfl⟩)
                go_ret
                exact ⟨ret_val rfl, xwr.ext _ _⟩
end Go.Proofs.YtekjdeibnfaehaaGreat
