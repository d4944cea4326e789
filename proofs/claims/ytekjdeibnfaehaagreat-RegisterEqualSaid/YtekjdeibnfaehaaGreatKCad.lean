/- offered: the walk. -/
import Derived.Test.YtekjdeibnfaehaaGreatKCac
import Derived.Test.YtekjdeibnfaehaaGreatKCaa
set_option linter.unusedSimpArgs false
set_option linter.unusedVariables false
namespace Go.Proofs.YtekjdeibnfaehaaGreat
open Go Go.RowKit

set_option maxRecDepth 100000 in
set_option maxHeartbeats 16000000 in
theorem offered_any {n : Nat} {G : Gh} (W : WD) (Ls : Nat → OffL) (A : Option Addr) (na c : Nat) (wc : List Value) (hwc : worldC W Ls A na c = wc) (f t : Nat) (hf : f < 4) (ht : t < 4) (hft : f ≠ t) (hI : WI n W G) (hn : n < 80) (w : World) (hY : WorldY w W Ls A na c) :
    Calls Tryz.prog 52 #[.agg wc.toArray, .int .i64 f, .int .i64 t] w fun e w' => ∃ (Ls' : Nat → OffL) (nc : List Value), e = .returned (.agg nc.toArray) ∧ Whole nc.toArray 70 ∧ nc.length = 70 ∧ Hid (worldC (offeredW W f t) Ls' A na c = nc ∧ WorldY w' (offeredW W f t) Ls' A na c ∧ ∀ g, g < w.heap.size → WorldF g Ls A na → WorldF g Ls' A na) ∧ Ext w w' := by
  obtain ⟨h0, h1, -, G1, hS⟩ := hI.offer0 hf ht hft
  have hck := (hI.o f hf).check
  have H1 := hid h1
  have HS := hid hS
  have HI := hid hI
  have HY := hid hY
  have H0 := hid h0
  clear h0 h1 hS hI hY hck
  obtain ⟨B, hB⟩ : ∃ B : Nat, w.heap.size = B := ⟨_, rfl⟩
  obtain ⟨zc, hzc⟩ : ∃ zc, worldC zeroW (fun _ => zL) none 0 0 = zc := ⟨_, rfl⟩
  have hzw := zero_world
  rw [hzc] at hzw
  have lzc : zc.length = 70 := by rw [← hzc]; rfl
  have wwc : Whole wc.toArray 70 := by rw [← hwc]; exact worldC_whole _ _ _ _ _
  have HB := hid hB
  have Hwc := hid hwc
  clear hzc hB hwc
  have hfi : (f : Int) < 4 := by omega
  have hti : (t : Int) < 4 := by omega
  have hf17 : f * 17 ≤ 51 := by omega
  have ht17 : t * 17 ≤ 51 := by omega
  have hf68 : f * 17 + 17 ≤ 68 := by omega
  have ht68 : t * 17 + 17 ≤ 68 := by omega
  have hf70 : f * 17 + 17 ≤ 70 := by omega
  have ht70 : t * 17 + 17 ≤ 70 := by omega
  have hf70' : 17 + f * 17 ≤ 70 := by omega
  have ht70' : 17 + t * 17 ≤ 70 := by omega
  have hf53 : f * 17 ≤ 53 := by omega
  have ht53 : t * 17 ≤ 53 := by omega
  go_enter Tryz.func52, Tryz.ntmps52
  obtain ⟨P0, hP0⟩ : ∃ P0, (w.alloc (.cells wc.toArray 83)).alloc (.cells zc.toArray 83) = P0 := ⟨_, rfl⟩
  have hOB : OBox w B P0 Ls A na W Ls c := by
    rw [← hP0]
    refine ⟨exI, ?_, HY.out.of_ext exI, HY.out.far (Nat.le_of_eq HB.out), fun _ _ h => h, HY.out.far (by have := HB.out; omega)⟩
    rw [Hwc.out]
    exact (BoxC.new_at wc _ HB.out.symm).alloc _
  have b1 : BoxC P0 (B + 1) zc 83 := by rw [← hP0]; exact BoxC.new_at _ _ (by simp [HB.out])
  have zP : P0.heap.size = B + 1 + 1 := by rw [← hP0]; simp [HB.out]
  obtain ⟨w68, w69, lq0, rq0⟩ := hOB.q.world
  rw [Hwc.out] at rq0
  have ro := hOB.q.worldOff hf
  obtain ⟨oc, hoc⟩ : ∃ oc, offQ (W.off f) (Ls f) = oc := ⟨_, rfl⟩
  rw [hoc] at ro
  have wo : Whole oc.toArray 17 := by rw [← hoc]; exact offQ_whole _ _
  have Hoc := hid hoc
  have f0 := hOB.q.frozen
  have t0 := hOB.q.lt
  have t1 := b1.lt
  have fb0 := fars t0
  have fb1 := fars t1
  have HOB := hid hOB
  have B1 := hid b1
  clear hoc b1 hOB
  have hBq := HB.out
  have hld : (ldRow 76 ⟨B, f * 17, none⟩).run Tryz.prog P0 = .ok (.agg oc.toArray) P0 := by rw [ld_off (by rw [lq0]; omega), ro]
  go_wp2_with fail
  clear hP0 hzw hBq hld
  refine (offer_q (W.off f) (Ls f) oc Hoc.out _ t (HOB.out.y.o f hf)).mono ?_
  rintro e w1 ⟨LN, nc, AM, nm, cm, jn, rfl, wn, ln, hN, hM, ⟨EN, dN, rfl⟩⟩
  obtain rfl : jn = 0 := by have h := hN.out.2.1; rw [H0.out] at h; exact h.symm
  go_wp2_with fail
  have wB : w.heap.size ≤ B := by have := HB.out; omega
  obtain ⟨OL, hOL⟩ : ∃ OL, offerL (W.off f) (t : Int) = OL := ⟨_, rfl⟩
  rw [hOL] at HS H1
  rw [hOL] at hM
  have HOL := hid hOL
  obtain ⟨N, hN9⟩ : ∃ N, B + 1 + 1 + EN.size = N := ⟨_, rfl⟩
  simp only [hN9]
  obtain ⟨V, hV⟩ : ∃ V, (((((P0.ext EN dN).alloc (.cells #[.int .i64 0, .slice none 0 0, .int .i64 0, .slice none 0 0, .int .i64 0, .slice none 0 0, .int .i64 0, .int .i64 0, .slice none 0 0, .slice none 0 0, .slice none 0 0, .slice none 0 0, .slice none 0 0, .slice none 0 0, .slice none 0 0, .slice none 0 0, .slice none 0 0] 76)).setCells N 0 nc).setCell ⟨B, 69, none⟩ (.int .i64 0)).setCells B (f * 17) nc) = V := ⟨_, rfl⟩
  simp only [hV]
  have sP : (P0.ext EN dN).heap.size = N := by rw [size_ext, zP]; exact hN9
  have hVB : OBox w B V Ls A na (offer0 W f t) (upd Ls f LN) c := by
    rw [← hV, ← hN.out.1]
    refine OBox.put (W := ⟨W.off, W.way, 0⟩) (((HOB.out.of_ext (Ext.cells _ _ (Ext.alloc ⟨EN, dN, rfl⟩ _) (by omega))).err wB 0)) (Ext.refl _) hf ?_ (((((OffZ.mk hN.out.2.2).alloc _).cells (.inr (by omega))).set (by omega)).1) (by omega) wB
    have := (HS.out.w.o f hf).check
    rw [show (offer0 W f t).off f = offerO (W.off f) t from upd_at _ _ _] at this
    exact this
  have hVM : MsgsA (B + 1 + 1) V AM nm cm OL := by
    rw [← hV]
    exact ((((((MsgZ.mk hM.out).alloc _).cells (.inr (by omega))).set (.inl (by omega))).cells (.inl (by omega))).1).mono' (by omega)
  have hV1 : BoxC V (B + 1) zc 83 := by
    rw [← hV]
    exact BoxC.cellsOther (by omega) _ _ (BoxC.other (BoxC.cellsOther (by omega) _ _ ((B1.out.of_ext ⟨EN, dN, rfl⟩).alloc _)) _ _ (by omega))
  clear hV hN hM sP w68 w69 lq0 rq0 ro f0 t0 t1 fb0 fb1 B1 HOB wo wn ln hOL
  go_loopw [10] (fun i wr => ∃ (k : Nat) (Lk : Nat → OffL) (Gk : Gh), k ≤ nm ∧ i = .int .i64 k ∧ Hid (OBox w B wr Ls A na (sentK W f t k) Lk c) ∧ Hid (Sent W G n f t (OL.take k) (OL.drop k) (sentK W f t k) Gk) ∧ Hid (BoxC wr (B + 1) zc 83) ∧ Hid (MsgsA (B + 1 + 1) wr AM nm cm OL)) (fun i _ => nm - (intOf i).toNat)
  case atStart => exact ⟨0, _, _, Nat.zero_le _, rfl, hid hVB, HS, hid hV1, hid hVM⟩
  case round =>
    obtain ⟨k, Lk, Gk, hk, rfl, hO, hS, b1, hMs⟩ := hrel
    have hnmx : nm ≤ 9223372036854775807 := by obtain ⟨_, h2, h3, _⟩ := hMs.out; omega
    clear hVB hVM hV1
    by_cases hkn : k < nm
    · have hki : (k : Int) < nm := by omega
      have hlen := hMs.out.1
      have hkl : k < OL.length := by omega
      obtain ⟨m, hm⟩ : ∃ m, OL[k]? = some m := ⟨_, List.getElem?_eq_getElem hkl⟩
      have hmg : OL[k] = m := by rw [List.getElem?_eq_getElem hkl] at hm; exact Option.some.inj hm
      have hS1 := hS.out
      rw [List.drop_eq_getElem_cons hkl, hmg] at hS1
      obtain ⟨q1, q2⟩ := H1.out m (List.mem_of_getElem? hm)
      obtain ⟨r1, r2, r3, G2, hS2⟩ := hS1.next hn hft q1 q2
      have hS2 := hid hS2
      have htx : m.r.text.size ≤ 9223372036854775807 := txtBig_of (HI.out.o f hf).check m.r ((mem_recs (HI.out.o f hf) m.r).2 q2)
      have hMY := hMs.out.read
      obtain ⟨g, o, rfl, hg⟩ := hMY.addr (by omega)
      have hldK := hMY.loadK hm wr.heap.size (Nat.le_refl _)
      obtain ⟨mc, hmc⟩ : ∃ mc, msgC m = mc := ⟨_, rfl⟩
      have lmc : mc.length = 14 := by rw [← hmc]; rfl
      have wmc : Whole mc.toArray 14 := by rw [← hmc]; exact whole_of rfl fun v hv => msgC_one [m] v (by simpa using hv)
      rw [hmc] at hldK
      have Hmc := hid hmc
      obtain ⟨w68, w69, lq0, rq0⟩ := hO.out.q.world
      have rt := hO.out.q.worldOff ht
      obtain ⟨oT, hoT⟩ : ∃ oT, offQ ((sentK W f t k).off t) (Lk t) = oT := ⟨_, rfl⟩
      rw [hoT] at rt
      have HoT := hid hoT
      have woT : Whole oT.toArray 17 := by rw [← hoT]; exact offQ_whole _ _
      have hoy := hid (hO.out.y.o t ht)
      have f0 := hO.out.q.frozen
      have t0 := hO.out.q.lt
      have fb0 := fars t0
      have Hm := hid (And.intro hm (And.intro q1 q2))
      have Hr := hid (And.intro r1 (And.intro r2 r3))
      clear hmc hoT hm hmg hS1 q1 q2 r1 r2 r3 rq0 hS hMY
      go_wp2_with fail
      refine wp_region_ord (.f 0 (.f 1 (.f 2 (.f 3 (.f 4 (.f 5 (.f 6 (.f 7 (.k 8 (.f 9 (.f 10 (.f 11 (.f 12 (.a 13 (.a 14 (.f 15 (.f 16 .d)))))))) 13 (.a 8 (.f 9 (.f 10 (.f 11 (.f 12 (.a 14 (.f 15 (.f 16 .d))))))))))))))))) (Kept (wr) (wr.heap.size) (wr.heap.size)) (by kernel_rfl) (by kernel_rfl) (Kept.refl _ _ _).drew ?_
      repeat' first | (refine wpOrd_free (v := ?_) rfl rfl (fun _ hS => ?_) ?_; rotate_left; (focus (have hS1 := Kept.rows hS; have hS2 := Kept.len hS; have hS3 := Kept.cell hS; go_simp; try with_reducible rfl)); simp only [Act.put, zp]) | (refine wpOrd_call rfl rfl rfl Tryz.call46 (fun R hR => ?_); go_simp; refine (recv_q ((sentK W f t k).off t) (Lk t) oT mc m HoT.out Hmc.out _ (hoy.out.of_ext exI) htx).mono ?_; rintro e w1 ⟨LN, nc, AB, nb, cb, jn, rfl, wn, ln, hN, hM, ⟨EN, dN, rfl⟩⟩; refine hR _ _ ⟨_, rfl, (by repeat (first | with_reducible exact Kept.refl _ _ _ | with_reducible assumption | with_reducible apply Kept.drew | with_reducible apply Kept.alloc | with_reducible apply Kept.ext | (with_reducible refine Kept.cells ?_ ?_; rotate_left; focus (first | exact .inl rfl | exact .inr (.inl rfl) | (refine .inr (.inr ?_); simp only [zs]; omega) | omega)) | (with_reducible refine Kept.set ?_ ?_; rotate_left; focus (first | exact .inl rfl | exact .inr (.inl rfl) | (refine .inr (.inr ?_); simp only [zs]; omega) | omega)))), ?_⟩; clear hR R; simp only [Act.put, zp]) | (refine wpOrd_act rfl rfl (fun K hK => ?_); go_simp; refine hK _ _ ⟨(by repeat (first | with_reducible exact Kept.refl _ _ _ | with_reducible assumption | with_reducible apply Kept.drew | with_reducible apply Kept.alloc | with_reducible apply Kept.ext | (with_reducible refine Kept.cells ?_ ?_; rotate_left; focus (first | exact .inl rfl | exact .inr (.inl rfl) | (refine .inr (.inr ?_); simp only [zs]; omega) | omega)) | (with_reducible refine Kept.set ?_ ?_; rotate_left; focus (first | exact .inl rfl | exact .inr (.inl rfl) | (refine .inr (.inr ?_); simp only [zs]; omega) | omega)))), ?_⟩; clear hK K; try simp only [Act.put, zp]) | refine wpOrd_fork ?_ ?_ | refine wpOrd_nil ?_
      all_goals
        obtain rfl : jn = 0 := by have h := hN.out.2.1; rw [Hr.out.1] at h; exact h.symm
        go_wp2_with fail
        obtain ⟨bs, hi9, hbs, hhi, hZ⟩ := offz_ex hN.out.2.2
        have hMZ := MsgZ.mk hM.out
        rw [← hbs, ← hhi, Hr.out.2.1] at hMZ
        simp only [World.size_alloc, size_ext, size_cells, World.size_setCell, szd] at hbs hhi
        have hN1 := hN.out.1
        have hto : m.to.toNat = t := by rw [Hm.out.2.1.to]; rfl
        have hfr : m.fr.toNat = f := by rw [Hm.out.2.1.fr]; rfl
        have hs1 : sent1 (sentK W f t k) m = ⟨upd (sentK W f t k).off t (recvO ((sentK W f t k).off t) m), (sentK W f t k).way, (sentK W f t k).e⟩ := by rw [sent1, hto, (sentK_way W f t k).2]
        have hs2 : sent2 (sentK W f t k) m = ⟨upd (sent1 (sentK W f t k) m).off f (recvO ((sent1 (sentK W f t k) m).off f) (ackM m)), (sent1 (sentK W f t k) m).way, (sent1 (sentK W f t k) m).e⟩ := by
          rw [sent2, sent1, show (ackM m).to.toNat = f from hfr]
          rfl
        have hck1 : checkB (recvO ((sentK W f t k).off t) m).m.recs = true := by
          have h := (hS2.out.w.o t ht).check
          rw [hs2] at h
          rw [show (⟨upd (sent1 (sentK W f t k) m).off f (recvO ((sent1 (sentK W f t k) m).off f) (ackM m)), (sent1 (sentK W f t k) m).way, (sent1 (sentK W f t k) m).e⟩ : WD).off t = (sent1 (sentK W f t k) m).off t from upd_ne _ _ (Ne.symm hft), hs1] at h
          rw [show (⟨upd (sentK W f t k).off t (recvO ((sentK W f t k).off t) m), (sentK W f t k).way, (sentK W f t k).e⟩ : WD).off t = recvO ((sentK W f t k).off t) m from upd_at _ _ _] at h
          exact h
        have hck2 : checkB (recvO ((sent1 (sentK W f t k) m).off f) (ackM m)).m.recs = true := by
          have h := (hS2.out.w.o f hf).check
          rw [hs2, show (⟨upd (sent1 (sentK W f t k) m).off f (recvO ((sent1 (sentK W f t k) m).off f) (ackM m)), (sent1 (sentK W f t k) m).way, (sent1 (sentK W f t k) m).e⟩ : WD).off f = recvO ((sent1 (sentK W f t k) m).off f) (ackM m) from upd_at _ _ _] at h
          exact h
        have tB1 := b1.out.lt
        refine wp_named fun V2 hV2 => ?_
        have hVB2 : OBox w B V2 Ls A na (sent1 (sentK W f t k) m) (upd Lk t LN) c := by
          rw [hV2, hs1, ← hN1]
          exact OBox.put (base := bs) hO.out (show Ext wr _ from (by repeat (first | with_reducible exact Ext.refl _ | with_reducible refine Ext.cells _ _ ?_ (by omega) | with_reducible refine Ext.alloc ?_ _ | with_reducible refine Ext.drew ?_ | with_reducible refine Ext.ext ?_ _ _))) ht hck1 (And.left (show OffZ bs hi9 _ _ _ from (by repeat (first | with_reducible exact hZ | with_reducible refine OffZ.cells ?_ (by omega) | with_reducible refine OffZ.alloc ?_ _ | with_reducible refine OffZ.drew ?_ | with_reducible refine OffZ.ext ?_ _ _)))) (by omega) wB
        have hm2 : MsgZ (B + 1 + 1) wr.heap.size V2 (some ⟨g, o, none⟩) nm cm OL := by
          rw [hV2]
          have hMZ := MsgZ.mk hMs.out
          exact (by repeat (first | with_reducible exact hMZ | with_reducible refine MsgZ.cells ?_ (by omega) | with_reducible refine MsgZ.alloc ?_ _ | with_reducible refine MsgZ.drew ?_ | with_reducible refine MsgZ.ext ?_ _ _))
        have hbk : MsgZ bs hi9 V2 AB nb cb [ackM m] := by rw [hV2]; exact (by repeat (first | with_reducible exact hMZ | with_reducible refine MsgZ.cells ?_ (by omega) | with_reducible refine MsgZ.alloc ?_ _ | with_reducible refine MsgZ.drew ?_ | with_reducible refine MsgZ.ext ?_ _ _))
        have hb1 : BoxC V2 (B + 1) zc 83 := by rw [hV2]; exact BoxC.cellsOther (by omega) _ _ (b1.out.of_ext (show Ext wr _ from (by repeat (first | with_reducible exact Ext.refl _ | with_reducible refine Ext.cells _ _ ?_ (by omega) | with_reducible refine Ext.alloc ?_ _ | with_reducible refine Ext.drew ?_ | with_reducible refine Ext.ext ?_ _ _))))
        have hbk2 := hid (hbk.1.mono' (show B + 1 + 1 ≤ bs by omega))
        have hnb : nb = 1 := hbk.1.1.symm
        subst hnb
        have HVB2 := hid hVB2
        have HM2 := hid hm2.1
        have HB1 := hid hb1
        have Hs := hid (And.intro hs1 (And.intro hs2 (And.intro hck1 hck2)))
        clear hV2 hVB2 hm2 hb1 hbk hs1 hs2 hck1 hck2 hZ hMZ hbs hhi hN1 hN hM hldK wmc lmc Hmc w68 w69 lq0 rt HoT woT hoy f0 t0 fb0 tB1 wn ln hg hto hfr hO hMs b1
        go_loopw [14] (fun jv w3 => ∃ (j : Nat) (W2 : WD) (L2 : Nat → OffL), j ≤ 1 ∧ jv = .int .i64 j ∧ Hid (OBox w B w3 Ls A na W2 L2 c) ∧ Hid (BoxC w3 (B + 1) zc 83) ∧ Hid (MsgsA (B + 1 + 1) w3 (some ⟨g, o, none⟩) nm cm OL) ∧ Hid (MsgsA (B + 1 + 1) w3 AB 1 cb [ackM m]) ∧ Hid (W2 = if j = 0 then sent1 (sentK W f t k) m else sent2 (sentK W f t k) m)) (fun jv _ => 1 - (intOf jv).toNat)
        case atStart => exact ⟨0, _, _, Nat.zero_le _, rfl, HVB2, HB1, HM2, hbk2, hid rfl⟩
        case round =>
          clear HVB2 HM2 HB1 hbk2
          obtain ⟨j, W2, L2, hj, rfl, hO, b1, hMs, hBk, hW2⟩ := hrel
          by_cases hjn : j < 1
          · have hji : (j : Int) < 1 := by omega
            obtain rfl := hW2.out.trans (if_pos (by omega))
            have hm2 : [ackM m][j]? = some (ackM m) := by obtain rfl : j = 0 := by omega
                                                          rfl
            have hMY := hBk.out.read
            obtain ⟨g2, o2, rfl, hg2⟩ := hMY.addr (by omega)
            have hldK := hMY.loadK hm2 wr.heap.size (Nat.le_refl _)
            obtain ⟨mc, hmc⟩ : ∃ mc, msgC (ackM m) = mc := ⟨_, rfl⟩
            have lmc : mc.length = 14 := by rw [← hmc]; rfl
            have wmc : Whole mc.toArray 14 := by rw [← hmc]; exact whole_of rfl fun v hv => msgC_one [ackM m] v (by simpa using hv)
            rw [hmc] at hldK
            have Hmc := hid hmc
            obtain ⟨w68, w69, lq0, rq0⟩ := hO.out.q.world
            have rt := hO.out.q.worldOff hf
            obtain ⟨oT, hoT⟩ : ∃ oT, offQ ((sent1 (sentK W f t k) m).off f) (L2 f) = oT := ⟨_, rfl⟩
            rw [hoT] at rt
            have HoT := hid hoT
            have woT : Whole oT.toArray 17 := by rw [← hoT]; exact offQ_whole _ _
            have hoy := hid (hO.out.y.o f hf)
            have f0 := hO.out.q.frozen
            have t0 := hO.out.q.lt
            have fb0 := fars t0
            have tB1 := b1.out.lt
            clear hmc hoT hm2 rq0 hMY hW2
            go_wp2_with fail
            refine wp_region_ord (.f 0 (.f 1 (.f 2 (.f 3 (.f 4 (.f 5 (.f 6 (.f 7 (.k 8 (.f 9 (.f 10 (.f 11 (.f 12 (.a 13 (.a 14 (.f 15 (.f 16 .d)))))))) 13 (.a 8 (.f 9 (.f 10 (.f 11 (.f 12 (.a 14 (.f 15 (.f 16 .d))))))))))))))))) (Kept (wr) (wr.heap.size) (wr.heap.size)) (by kernel_rfl) (by kernel_rfl) (Kept.refl _ _ _).drew ?_
            repeat' first | (refine wpOrd_free (v := ?_) rfl rfl (fun _ hS => ?_) ?_; rotate_left; (focus (have hS1 := Kept.rows hS; have hS2 := Kept.len hS; have hS3 := Kept.cell hS; go_simp; try with_reducible rfl)); simp only [Act.put, zp]) | (refine wpOrd_call rfl rfl rfl Tryz.call46 (fun R hR => ?_); go_simp; refine (recv_q ((sent1 (sentK W f t k) m).off f) (L2 f) oT mc (ackM m) HoT.out Hmc.out _ (hoy.out.of_ext exI) htx).mono ?_; rintro e w1 ⟨LN, nc, AC, nC, cC, jn, rfl, wn, ln, hN, hM, ⟨EN, dN, rfl⟩⟩; refine hR _ _ ⟨_, rfl, (by repeat (first | with_reducible exact Kept.refl _ _ _ | with_reducible assumption | with_reducible apply Kept.drew | with_reducible apply Kept.alloc | with_reducible apply Kept.ext | (with_reducible refine Kept.cells ?_ ?_; rotate_left; focus (first | exact .inl rfl | exact .inr (.inl rfl) | (refine .inr (.inr ?_); simp only [zs]; omega) | omega)) | (with_reducible refine Kept.set ?_ ?_; rotate_left; focus (first | exact .inl rfl | exact .inr (.inl rfl) | (refine .inr (.inr ?_); simp only [zs]; omega) | omega)))), ?_⟩; clear hR R; simp only [Act.put, zp]) | (refine wpOrd_act rfl rfl (fun K hK => ?_); go_simp; refine hK _ _ ⟨(by repeat (first | with_reducible exact Kept.refl _ _ _ | with_reducible assumption | with_reducible apply Kept.drew | with_reducible apply Kept.alloc | with_reducible apply Kept.ext | (with_reducible refine Kept.cells ?_ ?_; rotate_left; focus (first | exact .inl rfl | exact .inr (.inl rfl) | (refine .inr (.inr ?_); simp only [zs]; omega) | omega)) | (with_reducible refine Kept.set ?_ ?_; rotate_left; focus (first | exact .inl rfl | exact .inr (.inl rfl) | (refine .inr (.inr ?_); simp only [zs]; omega) | omega)))), ?_⟩; clear hK K; try simp only [Act.put, zp]) | refine wpOrd_fork ?_ ?_ | refine wpOrd_nil ?_
            all_goals
              obtain rfl : jn = 0 := by have h := hN.out.2.1; rw [Hr.out.2.2] at h; exact h.symm
              go_wp2_with fail
              obtain ⟨bs, hi9, hbs, hhi, hZ⟩ := offz_ex hN.out.2.2
              simp only [World.size_alloc, size_ext, size_cells, World.size_setCell, szd] at hbs hhi
              have hN1 := hN.out.1
              obtain ⟨hs1, hs2, hck1, hck2⟩ := Hs.out
              refine ⟨⟨j + 1, sent2 (sentK W f t k) m, upd L2 f LN, by omega, by go_num, hid ?_, hid ?_, hid ?_, hid ?_, hid (if_neg (by omega)).symm⟩, by simp [intOf]; omega⟩
              · rw [hs2, ← hN1]
                exact OBox.put (base := bs) hO.out (show Ext wr _ from (by repeat (first | with_reducible exact Ext.refl _ | with_reducible refine Ext.cells _ _ ?_ (by omega) | with_reducible refine Ext.alloc ?_ _ | with_reducible refine Ext.drew ?_ | with_reducible refine Ext.ext ?_ _ _))) hf hck2 (And.left (show OffZ bs hi9 _ _ _ from (by repeat (first | with_reducible exact hZ | with_reducible refine OffZ.cells ?_ (by omega) | with_reducible refine OffZ.alloc ?_ _ | with_reducible refine OffZ.drew ?_ | with_reducible refine OffZ.ext ?_ _ _)))) (by omega) wB
              · exact BoxC.cellsOther (by omega) _ _ (b1.out.of_ext (show Ext wr _ from (by repeat (first | with_reducible exact Ext.refl _ | with_reducible refine Ext.cells _ _ ?_ (by omega) | with_reducible refine Ext.alloc ?_ _ | with_reducible refine Ext.drew ?_ | with_reducible refine Ext.ext ?_ _ _))))
              · have hMZ := MsgZ.mk hMs.out
                exact And.left (show MsgZ (B + 1 + 1) wr.heap.size _ _ _ _ _ from (by repeat (first | with_reducible exact hMZ | with_reducible refine MsgZ.cells ?_ (by omega) | with_reducible refine MsgZ.alloc ?_ _ | with_reducible refine MsgZ.drew ?_ | with_reducible refine MsgZ.ext ?_ _ _)))
              · have hMZ := MsgZ.mk hBk.out
                exact And.left (show MsgZ (B + 1 + 1) wr.heap.size _ _ _ _ _ from (by repeat (first | with_reducible exact hMZ | with_reducible refine MsgZ.cells ?_ (by omega) | with_reducible refine MsgZ.alloc ?_ _ | with_reducible refine MsgZ.drew ?_ | with_reducible refine MsgZ.ext ?_ _ _)))
          · have hji : ¬ ((j : Int) < 1) := by omega
            obtain rfl := hW2.out.trans (if_neg (by omega))
            go_wp2_with fail
            have hmk := Hm.out.1
            obtain ⟨hkl', hmg⟩ := List.getElem?_eq_some_iff.1 hmk
            have hnx : sentK W f t (k + 1) = sent2 (sentK W f t k) m := sentK_next (by rw [HOL.out]; exact hmk)
            refine ⟨⟨k + 1, L2, G2, by omega, by go_num, hid ?_, hid ?_, b1, hMs⟩, by simp [intOf]; omega⟩
            · rw [hnx]; exact hO.out
            · rw [hnx, List.take_succ_eq_append_getElem hkl', hmg]; exact hS2.out
    · have hki : ¬ ((k : Int) < nm) := by omega
      obtain ⟨w68, w69, lq0, rq0⟩ := hO.out.q.world
      have hall : sentK W f t k = offeredW W f t := sentK_all _ _ _ (by rw [HOL.out]; have := hMs.out.1; omega)
      have lz : rowLen wr (B + 1) = 70 := b1.out.len.trans lzc
      have ww := worldC_whole (sentK W f t k) Lk A na c
      obtain ⟨nc, hnc⟩ : ∃ nc, worldC (sentK W f t k) Lk A na c = nc := ⟨_, rfl⟩
      rw [hnc] at rq0 ww
      have t0 := hO.out.q.lt
      have t1 := b1.out.lt
      have Hnc := hid hnc
      clear hnc
      go_wp2_with fail
      refine bodyPost_ret (ret_w rfl rfl (rowLen_setCells.trans lz) (rowAt_setCells_same (whole_len ww) (Nat.le_of_eq lz.symm))) rfl ?_
      refine ⟨Lk, nc, rfl, ww, whole_len ww, hid ⟨by rw [← hall]; exact Hnc.out, ?_, hO.out.t⟩, Ext.cells _ _ hO.out.x (by omega)⟩
      rw [← hall]
      exact hO.out.y.grown hO.out.u (gb_cells (B + 1) nc 0 wr)
end Go.Proofs.YtekjdeibnfaehaaGreat
