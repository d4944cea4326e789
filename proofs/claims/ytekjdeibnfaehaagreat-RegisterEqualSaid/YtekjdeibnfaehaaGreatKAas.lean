/- Texts of a proof. -/
import Derived.Test.YtekjdeibnfaehaaGreatKAar
import Derived.Test.YtekjdeibnfaehaaGreatKAak
/- Append. -/
set_option linter.unusedSimpArgs false
set_option linter.unusedVariables false
namespace Go.Proofs.YtekjdeibnfaehaaGreat
open Go Go.RowKit

theorem calls_at {P : Program} {f : FuncId} {a : Value} {W : World} {R : Ending → World → Prop} {g g' : Nat} (h : Calls P f #[.pointer (some ⟨g, 0, none⟩), a] W R) (e : g' = g) : Calls P f #[.pointer (some ⟨g', 0, none⟩), a] W R := e ▸ h
/-- A drive that can be read. -/
structure DrvY (w : World) (D : DriveD) (A0 : Option Addr) (n0 c0 : Nat) (A1 : Option Addr) (n1 c1 : Nat) : Prop where
  l0 : D.f0.bytes.length = n0
  l1 : D.f1.bytes.length = n1
  h0 : n0 ≤ c0
  h1 : n1 ≤ c1
  k0 : c0 ≤ 9223372036854775807
  k1 : c1 ≤ 9223372036854775807
  b0 : Byt w A0 D.f0.bytes
  b1 : Byt w A1 D.f1.bytes
theorem DrvY.of_ext {w w' : World} {D : DriveD} {A0 : Option Addr} {n0 c0 : Nat} {A1 : Option Addr} {n1 c1 : Nat} (h : DrvY w D A0 n0 c0 A1 n1 c1) (hx : Ext w w') : DrvY w' D A0 n0 c0 A1 n1 c1 :=
  ⟨h.l0, h.l1, h.h0, h.h1, h.k0, h.k1, h.b0.of_ext hx, h.b1.of_ext hx⟩
theorem OwnB.le {base n c : Nat} {w : World} {A : Option Addr} {l : List UInt8} (h : OwnB base w (.slice A n c) l) : n ≤ c := by
  obtain ⟨A2, c2, hv, hc, _⟩ := ownsRow_slice h
  simp only [Value.slice.injEq] at hv
  omega
theorem DrvX.read {base : Nat} {w : World} {D : DriveD} {A0 : Option Addr} {n0 c0 : Nat} {A1 : Option Addr} {n1 c1 : Nat} (h : DrvX base w D A0 n0 c0 A1 n1 c1) : DrvY w D A0 n0 c0 A1 n1 c1 :=
  ⟨h.l0.symm, h.l1.symm, h.b0.le, h.b1.le, h.b0.cap, h.b1.cap, h.b0.of_byt_slice, h.b1.of_byt_slice⟩
/-- A drive in rows of the call's own, or without bytes. -/
structure DrvZ (base : Nat) (w : World) (D : DriveD) (A0 : Option Addr) (n0 c0 : Nat) (A1 : Option Addr) (n1 c1 : Nat) : Prop where
  l0 : D.f0.bytes.length = n0
  l1 : D.f1.bytes.length = n1
  h0 : n0 ≤ c0
  h1 : n1 ≤ c1
  k0 : c0 ≤ 9223372036854775807
  k1 : c1 ≤ 9223372036854775807
  r0 : RowB base w A0 n0 c0 D.f0.bytes
  r1 : RowB base w A1 n1 c1 D.f1.bytes
theorem DrvZ.read {base : Nat} {w : World} {D : DriveD} {A0 : Option Addr} {n0 c0 : Nat} {A1 : Option Addr} {n1 c1 : Nat} (h : DrvZ base w D A0 n0 c0 A1 n1 c1) : DrvY w D A0 n0 c0 A1 n1 c1 :=
  ⟨h.l0, h.l1, h.h0, h.h1, h.k0, h.k1, h.r0.byt, h.r1.byt⟩
theorem DrvX.rows {base : Nat} {w : World} {D : DriveD} {A0 : Option Addr} {n0 c0 : Nat} {A1 : Option Addr} {n1 c1 : Nat} (h : DrvX base w D A0 n0 c0 A1 n1 c1) : DrvZ base w D A0 n0 c0 A1 n1 c1 :=
  ⟨h.l0.symm, h.l1.symm, h.b0.le, h.b1.le, h.b0.cap, h.b1.cap, .inr h.b0, .inr h.b1⟩
theorem DrvZ.moved2 {N base : Nat} {X X' W' : World} {E : Array Obj} {d d' : Nat} {D : DriveD} {A0 : Option Addr} {n0 c0 : Nat} {A1 : Option Addr} {n1 c1 : Nat} (h : DrvZ N (X.ext E d) D A0 n0 c0 A1 n1 c1) (hx : Ext (X'.ext E d') W') (hs : X'.heap.size = X.heap.size) (hN : X.heap.size ≤ N) (hb : base ≤ N) : DrvZ base W' D A0 n0 c0 A1 n1 c1 :=
  ⟨h.l0, h.l1, h.h0, h.h1, h.k0, h.k1, h.r0.moved2 hx hs hN hb, h.r1.moved2 hx hs hN hb⟩
theorem DrvZ.zero (base : Nat) (w : World) : DrvZ base w noDrive none 0 0 none 0 0 := (DrvX.zero base w).rows
theorem memOk_facts {D : DriveD} {M : MemD} (h : memOk D M = true) : driveOk D = true ∧ (M.file = 0 ∨ M.file = 1) ∧ (fileAt D (1 - M.file)).bytes = [] ∧ checkB M.recs = true ∧ pageOk (fileAt D M.file).bytes = true ∧ genB (fileAt D M.file).bytes = M.gen := by
  simp only [memOk, Bool.and_eq_true, decide_eq_true_eq, inB_spec, recsEqB_iff] at h
  obtain ⟨h1, ⟨h2, h2'⟩, h3, h4, h5, h6, h7, h8⟩ := h
  exact ⟨h1, by omega, h3, h8 ▸ checkB_ordL h7, h4, h5⟩
theorem driveOk_len {D : DriveD} (h : driveOk D = true) : D.f0.bytes.length ≤ 100000 ∧ D.f1.bytes.length ≤ 100000 := by
  simp only [driveOk, Bool.and_eq_true, fileOk_iff] at h
  omega
theorem putL_has {l : List Rec} {r : Rec} (hs : Sorted l) (hh : hasR l r.ao r.sq = true) (he : putE l r = 0) : putL l r = l := by
  obtain ⟨hp, ha⟩ := (hasR_pos hs _ _).1 hh
  have hf := findR_some hs hp ha
  rw [putE_hit hf] at he
  rw [putL_hit hf]
  split at he
  · rename_i h; rw [if_pos h]
  · omega
theorem putL_fresh {l : List Rec} {r : Rec} (hh : hasR l r.ao r.sq = false) (he : putE l r = 0) : (putL l r).length = l.length + 1 := by
  have hf := findR_none hh
  rw [putE_new hf] at he
  rw [putL_new hf]
  split at he
  · omega
  · rename_i h
    rw [if_neg h, (insR_perm _ _).length_eq]; rfl
theorem appE_bad {D : DriveD} {M : MemD} {r : Rec} (h : memOk D M = false) : appE D M r = 73 ∧ appD D M r = noDrive ∧ appM D M r = noMem := by
  have : appE D M r = 73 := by simp [appE, h]
  exact ⟨this, by rw [appD, this]; rfl, by rw [appM, this]; rfl⟩
theorem appE_err {D : DriveD} {M : MemD} {r : Rec} (h : memOk D M = true) (he : ¬(jaddE M.recs r = 0)) : appE D M r = jaddE M.recs r ∧ appD D M r = noDrive ∧ appM D M r = noMem := by
  have : appE D M r = jaddE M.recs r := by simp [appE, h, jaddE]
  exact ⟨this, by rw [appD, this, if_neg he], by rw [appM, this, if_neg he]⟩
theorem appE_ok {D : DriveD} {M : MemD} {r : Rec} (h : memOk D M = true) (hk : recOk r = true) (he : putE M.recs r = 0) : appE D M r = 0 ∧ appD D M r = (if hasR M.recs r.ao r.sq = true then D else addF D M.file (frameB r)) ∧ appM D M r = ⟨putL M.recs r, M.file, M.gen⟩ := by
  have : appE D M r = 0 := by simp [appE, h, hk, he]
  exact ⟨this, by rw [appD, this, if_pos rfl], by rw [appM, this, if_pos rfl]⟩
set_option maxRecDepth 100000 in
set_option maxHeartbeats 16000000 in
theorem Append_any (A0 : Option Addr) (n0 c0 : Nat) (A1 : Option Addr) (n1 c1 : Nat) (D : DriveD) (Am : Option Addr) (nm cm : Nat) (M : MemD) (r : Rec) (hm : M.recs.length = nm) (hmb : nm ≤ 9223372036854775807) (htx : r.text.size ≤ 9223372036854775807) (w : World)
    (hD : DrvY w D A0 n0 c0 A1 n1 c1) (hr : Recs w Am M.recs) :
    Calls Tryz.prog 19 #[drvV A0 n0 c0 D.f0.firm A1 n1 c1 D.f1.firm, memV Am nm cm M.file M.gen, recV r] w fun e w' => ∃ B0 m0 d0 B1 m1 d1 Ag ng cg, e = .returned (.tuple #[drvV B0 m0 d0 (appD D M r).f0.firm B1 m1 d1 (appD D M r).f1.firm, memV Ag ng cg (appM D M r).file (appM D M r).gen, .int .i64 (appE D M r)]) ∧
      DrvZ w.heap.size w' (appD D M r) B0 m0 d0 B1 m1 d1 ∧ MemX w.heap.size w' (appM D M r) Ag ng cg ∧ Ext w w' := by
  obtain ⟨hl0, hl1, hc0, hc1, hbig0, hbig1, hb0, hb1⟩ := hD
  cases hmo : memOk D M with
  | false =>
    obtain ⟨h1, h2, h3⟩ := appE_bad (r := r) hmo
    rw [h1, h2, h3]
    clear h1 h2 h3
    go_enter Tryz.func19, Tryz.ntmps19
    go_wp2_with (go_at_call 73; refine (isMemory_any _ _ _ _ _ _ _ _ _ _ _ (by first | rfl | assumption) (by first | rfl | assumption) (by omega) (by omega) (by omega) (by omega) (by first | rfl | assumption) (by omega) _ (bytI ‹_›) (bytI ‹_›) (recI ‹_›)).mono ?_; rintro e w1 ⟨rfl, E1, d1, rfl⟩)
    refine bodyPost_ret (v := .tuple #[drvV none 0 0 0 none 0 0 0, memV none 0 0 0 0, .int .i64 73]) (by simp [results, Tryz.results19, go_sem]) rfl ?_
    exact ⟨none, 0, 0, none, 0, 0, none, 0, 0, rfl, DrvZ.zero _ _, MemX.zero _ _, exI⟩
  | true =>
    obtain ⟨hok, h01, hnil, hck, -, -⟩ := memOk_facts hmo
    obtain ⟨hs0, hs1⟩ := driveOk_len hok
    rw [hl0] at hs0
    rw [hl1] at hs1
    obtain ⟨h80, hall, hsrt⟩ := checkB_iff.1 hck
    have hnm : nm ≤ 100000 := by omega
    by_cases hje : jaddE M.recs r = 0
    · skip
      have hrk : recOk r = true := by
        cases hq : recOk r with
        | true => rfl
        | false => rw [jaddE, hq] at hje; cases hje
      have hpe : putE M.recs r = 0 := by rw [jaddE, hrk] at hje; exact hje
      obtain ⟨h1, h2, h3⟩ := appE_ok hmo hrk hpe
      cases hh : hasR M.recs r.ao r.sq with
      | true =>
        have hpl := putL_has hsrt hh hpe
        rw [hh, if_pos rfl] at h2
        have H1 := hid h1
        have H2 := hid h2
        have H3 := hid h3
        clear h1 h2 h3 hok hck hnil h01 hje
        go_enter Tryz.func19, Tryz.ntmps19
        go_wp2_with (go_at_call 73; refine (isMemory_any _ _ _ _ _ _ _ _ _ _ _ (by first | rfl | assumption) (by first | rfl | assumption) (by omega) (by omega) (by omega) (by omega) (by first | rfl | assumption) (by omega) _ (bytI ‹_›) (bytI ‹_›) (recI ‹_›)).mono ?_; rintro e w1 ⟨rfl, E1, d1, rfl⟩)
        refine (calls_at (add_hit A0 n0 c0 D.f0.firm A1 n1 c1 D.f1.firm Am nm cm M.file M.gen D.f0.bytes D.f1.bytes M.recs r hl0 hl1 hs0 hs1 hm hnm hsrt hrk hpe (by rw [hpl]) _ (recI ‹_›) (bytI ‹_›) (bytI ‹_›)) (by simp)).mono ?_
        rintro e w1 ⟨B0, m0, d0, B1, m1, d1, Ag, ng, cg, rfl, ⟨E9, d9, rfl⟩, hfa, hy0, hy1, hng, hog⟩
        have Hy0 := hid hy0
        have Hy1 := hid hy1
        have Hog := hid hog
        clear hy0 hy1 hog
        have hle : w.heap.size + 1 + 1 + 1 + 1 + 1 ≤ w.heap.size + 1 + 1 + 1 + 1 + 1 + E1.size := by omega
        have hlt : w.heap.size + 1 + 1 + 1 + 1 + 1 + E1.size < w.heap.size + 1 + 1 + 1 + 1 + 1 + E1.size + 1 + E9.size := by omega
        go_wp2_with fail
        refine wp_region_ord_from (w.heap.size + 1 + 1 + 1 + 1 + 1) (.f 0 (.f 1 (.f 2 (.f 3 (.a 4 (.a 5 (.f 6 .d))))))) (by kernel_rfl) (by kernel_rfl) ?_
        repeat ((first | refine wpOrd_pass rfl rfl ?_ | (refine wpOrd_free (v := ?_) rfl rfl (fun _ hS => ?_) ?_; rotate_left; focus (go_simp; try with_reducible rfl))); simp only [Act.put, zp])
        refine wpOrd_act rfl rfl (fun K hK => ?_)
        go_simp
        refine hK _ _ ⟨?_, ?_⟩
        · exact SameL.out (by repeat (first | (with_reducible refine SameE.same ?_; (repeat (first | with_reducible exact SameE.refl _ _ | (with_reducible refine SameE.base ?_ ?_ _ _; (focus ((try simp only [World.size_alloc, size_ext, World.size_drew]); (try omega))); (focus ((try simp only [World.size_alloc, size_ext, World.size_drew]); omega))) | with_reducible apply SameE.alloc | with_reducible apply SameE.ext | with_reducible apply SameE.drewL | with_reducible apply SameE.drewR)); done) | with_reducible apply SameL.extL | with_reducible apply SameL.allocL | with_reducible apply SameL.drewL))
        clear hK K
        try simp only [Act.put, zp]
        refine wpOrd_act rfl rfl (fun K hK => ?_)
        go_simp
        refine hK _ _ ⟨?_, ?_⟩
        · exact SameL.out (by repeat (first | (with_reducible refine SameE.same ?_; (repeat (first | with_reducible exact SameE.refl _ _ | (with_reducible refine SameE.base ?_ ?_ _ _; (focus ((try simp only [World.size_alloc, size_ext, World.size_drew]); (try omega))); (focus ((try simp only [World.size_alloc, size_ext, World.size_drew]); omega))) | with_reducible apply SameE.alloc | with_reducible apply SameE.ext | with_reducible apply SameE.drewL | with_reducible apply SameE.drewR)); done) | with_reducible apply SameL.extL | with_reducible apply SameL.allocL | with_reducible apply SameL.drewL))
        clear hK K
        try simp only [Act.put, zp]
        repeat ((first | refine wpOrd_pass rfl rfl ?_ | (refine wpOrd_free (v := ?_) rfl rfl (fun _ hS => ?_) ?_; rotate_left; focus (go_simp; try with_reducible rfl))); simp only [Act.put, zp])
        refine wpOrd_nil ?_
        go_wp2_with fail
        refine bodyPost_ret (v := .tuple #[drvV B0 m0 d0 D.f0.firm B1 m1 d1 D.f1.firm, memV Ag ng cg M.file M.gen, .int .i64 0]) (by simp [results, Tryz.results19, go_sem]) rfl ?_
        rw [H1.out, H2.out, H3.out]
        obtain ⟨q0, q1, q2, q3, q4, q5⟩ := hfa.out
        refine ⟨B0, m0, d0, B1, m1, d1, Ag, ng, cg, by rfl, ⟨q0.symm, q1.symm, q2, q3, q4, q5, ?_, ?_⟩, ⟨hng.out, ?_⟩, exI⟩
        · exact RowB.moved2 Hy0.out (by repeat (with_reducible first | exact Ext.refl _ | exact Ext.same _ _ _ _ | assumption | apply Ext.alloc | apply Ext.ext | apply Ext.drew)) (by simp) (by simp) (by simp; omega)
        · exact RowB.moved2 Hy1.out (by repeat (with_reducible first | exact Ext.refl _ | exact Ext.same _ _ _ _ | assumption | apply Ext.alloc | apply Ext.ext | apply Ext.drew)) (by simp) (by simp) (by simp; omega)
        · exact OwnR.moved2 Hog.out (by repeat (with_reducible first | exact Ext.refl _ | exact Ext.same _ _ _ _ | assumption | apply Ext.alloc | apply Ext.ext | apply Ext.drew)) (by simp) (by simp) (by simp; omega)
      | false =>
        have hpl := putL_fresh hh hpe
        rw [hh, if_neg (by decide)] at h2
        rcases h01 with h01 | h01
        · have hnil2 : D.f1.bytes = [] := by rw [h01] at hnil; exact hnil
          rw [h01] at h2 h3
          have H1 := hid h1
          have H2 : Hid (appD D M r = ⟨⟨D.f0.bytes ++ frameB r, D.f0.firm⟩, D.f1⟩) := hid h2
          have H3 := hid h3
          rw [h01]
          clear h1 h2 h3 hok hck hnil hje
          go_enter Tryz.func19, Tryz.ntmps19
          go_wp2_with (go_at_call 73; refine (isMemory_any _ _ _ _ _ _ D _ _ _ ⟨M.recs, 0, M.gen⟩ hl0 hl1 hc0 hc1 hbig0 hbig1 hm hmb _ (bytI ‹_›) (bytI ‹_›) (recI ‹_›)).mono ?_; rintro e w1 ⟨rfl, E1, d1, rfl⟩; rw [show memOk D ⟨M.recs, 0, M.gen⟩ = true from by rw [← h01]; exact hmo])
          refine (calls_at (add_new0 A0 n0 c0 D.f0.firm A1 n1 c1 D.f1.firm Am nm cm M.gen D.f0.bytes D.f1.bytes M.recs r hl0 hl1 hs0 hs1 hm hnm hsrt hrk hpe hpl hnil2 _ (recI ‹_›) (bytI ‹_›) (bytI ‹_›)) (by simp)).mono ?_
          rintro e w1 ⟨B0, m0, d0, B1, m1, d1, Ag, ng, cg, rfl, ⟨E9, d9, rfl⟩, hfa, hy0, hy1, hng, hog⟩
          have Hy0 := hid hy0
          have Hy1 := hid hy1
          have Hog := hid hog
          clear hy0 hy1 hog
          have hle : w.heap.size + 1 + 1 + 1 + 1 + 1 ≤ w.heap.size + 1 + 1 + 1 + 1 + 1 + E1.size := by omega
          have hlt : w.heap.size + 1 + 1 + 1 + 1 + 1 + E1.size < w.heap.size + 1 + 1 + 1 + 1 + 1 + E1.size + 1 + E9.size := by omega
          go_wp2_with fail
          refine wp_region_ord_from (w.heap.size + 1 + 1 + 1 + 1 + 1) (.f 0 (.f 1 (.f 2 (.f 3 (.a 4 (.a 5 (.f 6 .d))))))) (by kernel_rfl) (by kernel_rfl) ?_
          repeat ((first | refine wpOrd_pass rfl rfl ?_ | (refine wpOrd_free (v := ?_) rfl rfl (fun _ hS => ?_) ?_; rotate_left; focus (go_simp; try with_reducible rfl))); simp only [Act.put, zp])
          refine wpOrd_act rfl rfl (fun K hK => ?_)
          go_simp
          refine hK _ _ ⟨?_, ?_⟩
          · exact SameL.out (by repeat (first | (with_reducible refine SameE.same ?_; (repeat (first | with_reducible exact SameE.refl _ _ | (with_reducible refine SameE.base ?_ ?_ _ _; (focus ((try simp only [World.size_alloc, size_ext, World.size_drew]); (try omega))); (focus ((try simp only [World.size_alloc, size_ext, World.size_drew]); omega))) | with_reducible apply SameE.alloc | with_reducible apply SameE.ext | with_reducible apply SameE.drewL | with_reducible apply SameE.drewR)); done) | with_reducible apply SameL.extL | with_reducible apply SameL.allocL | with_reducible apply SameL.drewL))
          clear hK K
          try simp only [Act.put, zp]
          refine wpOrd_act rfl rfl (fun K hK => ?_)
          go_simp
          refine hK _ _ ⟨?_, ?_⟩
          · exact SameL.out (by repeat (first | (with_reducible refine SameE.same ?_; (repeat (first | with_reducible exact SameE.refl _ _ | (with_reducible refine SameE.base ?_ ?_ _ _; (focus ((try simp only [World.size_alloc, size_ext, World.size_drew]); (try omega))); (focus ((try simp only [World.size_alloc, size_ext, World.size_drew]); omega))) | with_reducible apply SameE.alloc | with_reducible apply SameE.ext | with_reducible apply SameE.drewL | with_reducible apply SameE.drewR)); done) | with_reducible apply SameL.extL | with_reducible apply SameL.allocL | with_reducible apply SameL.drewL))
          clear hK K
          try simp only [Act.put, zp]
          repeat ((first | refine wpOrd_pass rfl rfl ?_ | (refine wpOrd_free (v := ?_) rfl rfl (fun _ hS => ?_) ?_; rotate_left; focus (go_simp; try with_reducible rfl))); simp only [Act.put, zp])
          refine wpOrd_nil ?_
          go_wp2_with fail
          refine bodyPost_ret (v := .tuple #[drvV B0 m0 d0 D.f0.firm B1 m1 d1 D.f1.firm, memV Ag ng cg 0 M.gen, .int .i64 0]) (by simp [results, Tryz.results19, go_sem]) rfl ?_
          rw [H1.out, H2.out, H3.out]
          obtain ⟨q0, q1, q2, q3, q4, q5⟩ := hfa.out
          refine ⟨B0, m0, d0, B1, m1, d1, Ag, ng, cg, by rfl, ⟨q0.symm, q1.symm, q2, q3, q4, q5, ?_, ?_⟩, ⟨hng.out, ?_⟩, exI⟩
          · exact RowB.moved2 Hy0.out (by repeat (with_reducible first | exact Ext.refl _ | exact Ext.same _ _ _ _ | assumption | apply Ext.alloc | apply Ext.ext | apply Ext.drew)) (by simp) (by simp) (by simp; omega)
          · exact RowB.moved2 Hy1.out (by repeat (with_reducible first | exact Ext.refl _ | exact Ext.same _ _ _ _ | assumption | apply Ext.alloc | apply Ext.ext | apply Ext.drew)) (by simp) (by simp) (by simp; omega)
          · exact OwnR.moved2 Hog.out (by repeat (with_reducible first | exact Ext.refl _ | exact Ext.same _ _ _ _ | assumption | apply Ext.alloc | apply Ext.ext | apply Ext.drew)) (by simp) (by simp) (by simp; omega)
        · have hnil2 : D.f0.bytes = [] := by rw [h01] at hnil; exact hnil
          rw [h01] at h2 h3
          have H1 := hid h1
          have H2 : Hid (appD D M r = ⟨D.f0, ⟨D.f1.bytes ++ frameB r, D.f1.firm⟩⟩) := hid h2
          have H3 := hid h3
          rw [h01]
          clear h1 h2 h3 hok hck hnil hje
          go_enter Tryz.func19, Tryz.ntmps19
          go_wp2_with (go_at_call 73; refine (isMemory_any _ _ _ _ _ _ D _ _ _ ⟨M.recs, 1, M.gen⟩ hl0 hl1 hc0 hc1 hbig0 hbig1 hm hmb _ (bytI ‹_›) (bytI ‹_›) (recI ‹_›)).mono ?_; rintro e w1 ⟨rfl, E1, d1, rfl⟩; rw [show memOk D ⟨M.recs, 1, M.gen⟩ = true from by rw [← h01]; exact hmo])
          refine (calls_at (add_new1 A0 n0 c0 D.f0.firm A1 n1 c1 D.f1.firm Am nm cm M.gen D.f0.bytes D.f1.bytes M.recs r hl0 hl1 hs0 hs1 hm hnm hsrt hrk hpe hpl hnil2 _ (recI ‹_›) (bytI ‹_›) (bytI ‹_›)) (by simp)).mono ?_
          rintro e w1 ⟨B0, m0, d0, B1, m1, d1, Ag, ng, cg, rfl, ⟨E9, d9, rfl⟩, hfa, hy0, hy1, hng, hog⟩
          have Hy0 := hid hy0
          have Hy1 := hid hy1
          have Hog := hid hog
          clear hy0 hy1 hog
          have hle : w.heap.size + 1 + 1 + 1 + 1 + 1 ≤ w.heap.size + 1 + 1 + 1 + 1 + 1 + E1.size := by omega
          have hlt : w.heap.size + 1 + 1 + 1 + 1 + 1 + E1.size < w.heap.size + 1 + 1 + 1 + 1 + 1 + E1.size + 1 + E9.size := by omega
          go_wp2_with fail
          refine wp_region_ord_from (w.heap.size + 1 + 1 + 1 + 1 + 1) (.f 0 (.f 1 (.f 2 (.f 3 (.a 4 (.a 5 (.f 6 .d))))))) (by kernel_rfl) (by kernel_rfl) ?_
          repeat ((first | refine wpOrd_pass rfl rfl ?_ | (refine wpOrd_free (v := ?_) rfl rfl (fun _ hS => ?_) ?_; rotate_left; focus (go_simp; try with_reducible rfl))); simp only [Act.put, zp])
          refine wpOrd_act rfl rfl (fun K hK => ?_)
          go_simp
          refine hK _ _ ⟨?_, ?_⟩
          · exact SameL.out (by repeat (first | (with_reducible refine SameE.same ?_; (repeat (first | with_reducible exact SameE.refl _ _ | (with_reducible refine SameE.base ?_ ?_ _ _; (focus ((try simp only [World.size_alloc, size_ext, World.size_drew]); (try omega))); (focus ((try simp only [World.size_alloc, size_ext, World.size_drew]); omega))) | with_reducible apply SameE.alloc | with_reducible apply SameE.ext | with_reducible apply SameE.drewL | with_reducible apply SameE.drewR)); done) | with_reducible apply SameL.extL | with_reducible apply SameL.allocL | with_reducible apply SameL.drewL))
          clear hK K
          try simp only [Act.put, zp]
          refine wpOrd_act rfl rfl (fun K hK => ?_)
          go_simp
          refine hK _ _ ⟨?_, ?_⟩
          · exact SameL.out (by repeat (first | (with_reducible refine SameE.same ?_; (repeat (first | with_reducible exact SameE.refl _ _ | (with_reducible refine SameE.base ?_ ?_ _ _; (focus ((try simp only [World.size_alloc, size_ext, World.size_drew]); (try omega))); (focus ((try simp only [World.size_alloc, size_ext, World.size_drew]); omega))) | with_reducible apply SameE.alloc | with_reducible apply SameE.ext | with_reducible apply SameE.drewL | with_reducible apply SameE.drewR)); done) | with_reducible apply SameL.extL | with_reducible apply SameL.allocL | with_reducible apply SameL.drewL))
          clear hK K
          try simp only [Act.put, zp]
          repeat ((first | refine wpOrd_pass rfl rfl ?_ | (refine wpOrd_free (v := ?_) rfl rfl (fun _ hS => ?_) ?_; rotate_left; focus (go_simp; try with_reducible rfl))); simp only [Act.put, zp])
          refine wpOrd_nil ?_
          go_wp2_with fail
          refine bodyPost_ret (v := .tuple #[drvV B0 m0 d0 D.f0.firm B1 m1 d1 D.f1.firm, memV Ag ng cg 1 M.gen, .int .i64 0]) (by simp [results, Tryz.results19, go_sem]) rfl ?_
          rw [H1.out, H2.out, H3.out]
          obtain ⟨q0, q1, q2, q3, q4, q5⟩ := hfa.out
          refine ⟨B0, m0, d0, B1, m1, d1, Ag, ng, cg, by rfl, ⟨q0.symm, q1.symm, q2, q3, q4, q5, ?_, ?_⟩, ⟨hng.out, ?_⟩, exI⟩
          · exact RowB.moved2 Hy0.out (by repeat (with_reducible first | exact Ext.refl _ | exact Ext.same _ _ _ _ | assumption | apply Ext.alloc | apply Ext.ext | apply Ext.drew)) (by simp) (by simp) (by simp; omega)
          · exact RowB.moved2 Hy1.out (by repeat (with_reducible first | exact Ext.refl _ | exact Ext.same _ _ _ _ | assumption | apply Ext.alloc | apply Ext.ext | apply Ext.drew)) (by simp) (by simp) (by simp; omega)
          · exact OwnR.moved2 Hog.out (by repeat (with_reducible first | exact Ext.refl _ | exact Ext.same _ _ _ _ | assumption | apply Ext.alloc | apply Ext.ext | apply Ext.drew)) (by simp) (by simp) (by simp; omega)
    · obtain ⟨h1, h2, h3⟩ := appE_err hmo hje
      rw [h1, h2, h3]
      clear h1 h2 h3 hok hck hnil h01
      obtain ⟨j, hj⟩ : ∃ j, jaddE M.recs r = j := ⟨_, rfl⟩
      have Hj := hid hj
      have hj2 : (j != 0) = true := by rw [← hj]; simpa using hje
      clear hj
      go_enter Tryz.func19, Tryz.ntmps19
      go_wp2_with (go_at_call 73; refine (isMemory_any _ _ _ _ _ _ _ _ _ _ _ (by first | rfl | assumption) (by first | rfl | assumption) (by omega) (by omega) (by omega) (by omega) (by first | rfl | assumption) (by omega) _ (bytI ‹_›) (bytI ‹_›) (recI ‹_›)).mono ?_; rintro e w1 ⟨rfl, E1, d1, rfl⟩)
      refine (calls_at (add_bad _ _ _ _ _ _ _ _ _ _ _ _ _ M.recs r hm hnm hsrt htx hje _ (recI ‹_›)) (by simp)).mono ?_
      rintro e w1 ⟨rfl, E9, d9, rfl⟩
      rw [Hj.out]
      go_wp2_with fail
      refine bodyPost_ret (v := .tuple #[drvV none 0 0 0 none 0 0 0, memV none 0 0 0 0, .int .i64 j]) (by simp [results, Tryz.results19, go_sem]) rfl ?_
      exact ⟨none, 0, 0, none, 0, 0, none, 0, 0, by rw [Hj.out]; rfl, DrvZ.zero _ _, MemX.zero _ _, exI⟩
end Go.Proofs.YtekjdeibnfaehaaGreat
/- The reference's SameRecords and Same; the examples of every statement. -/
set_option linter.unusedSimpArgs false
set_option linter.unusedVariables false
namespace Go.Proofs.YtekjdeibnfaehaaGreat
open Go Go.RowKit

set_option maxRecDepth 100000 in
set_option maxHeartbeats 4000000 in
theorem SameRecords_any (A B : Option Addr) (n c m d : Nat) (l l' : List Rec) (hn : l.length = n) (hm : l'.length = m) (hbig : n ≤ 9223372036854775807) (w : World) (hr : Recs w A l) (hs : Recs w B l') :
    Calls Tryz.prog 32 #[.slice A n c, .slice B m d] w fun e w' => e = .returned (.bool (recsEqB l l')) ∧ Ext w w' := by
  by_cases hnm : n = m
  · subst hnm
    go_enter Tryz.func32, Tryz.ntmps32
    go_wp2_with fail
    go_loopw [5] (fun i wr => ∃ k : Nat, k ≤ n ∧ i = .int .i64 k ∧ Ext w wr ∧ Hid (l.take k = l'.take k)) (fun i _ => n - (intOf i).toNat)
    case atStart => exact ⟨0, Nat.zero_le _, rfl, exI, hid rfl⟩
    case round =>
      obtain ⟨k, hk, rfl, ⟨E, dd, rfl⟩, htk⟩ := hrel
      by_cases hlt : k < n
      · have h1 : k < l.length := by omega
        have h2 : k < l'.length := by omega
        obtain ⟨g, o, rfl, hg⟩ := hr.addr (by omega)
        obtain ⟨g', o', rfl, hg'⟩ := hs.addr (by omega)
        have hrow := hr.row h1
        have hrow' := hs.row h2
        cases hq : recEqB l[k] l'[k] with
        | false =>
          have HF := hid (recsEqB_ne h1 h2 hq)
          obtain ⟨r, hrk⟩ : ∃ r, l[k] = r := ⟨_, rfl⟩
          obtain ⟨s, hsk⟩ : ∃ s, l'[k] = s := ⟨_, rfl⟩
          rw [hrk] at hrow hq
          rw [hsk] at hrow' hq
          obtain ⟨h0, h1, h2, h3, h4, h5, h6, h7, h8, h9, h10⟩ := hrow
          obtain ⟨g0, g1, g2, g3, g4, g5, g6, g7, g8, g9, g10⟩ := hrow'
          clear hrk hsk
          go_wp2_with fail
          refine wp_region_ord_same (.f 0 (.f 1 (.f 2 (.f 3 (.f 4 (.f 5 (.f 6 (.f 7 (.f 8 .d))))))))) (by kernel_rfl) (by kernel_rfl) ?_
          repeat ((first | refine wpOrd_pass rfl rfl ?_ | (refine wpOrd_free (v := ?_) rfl rfl (fun _ hS => ?_) ?_; rotate_left; focus (go_simp; try with_reducible rfl))); simp only [Act.put, zp])
          refine wpOrd_nil ?_
          go_wp2_with fail
          go_ret
          exact ⟨ret_val (by rw [HF.out]; rfl), exI⟩
        | true =>
          have HT := hid (take_snoc_eq h1 h2 htk.out hq)
          obtain ⟨r, hrk⟩ : ∃ r, l[k] = r := ⟨_, rfl⟩
          obtain ⟨s, hsk⟩ : ∃ s, l'[k] = s := ⟨_, rfl⟩
          rw [hrk] at hrow hq
          rw [hsk] at hrow' hq
          obtain ⟨h0, h1, h2, h3, h4, h5, h6, h7, h8, h9, h10⟩ := hrow
          obtain ⟨g0, g1, g2, g3, g4, g5, g6, g7, g8, g9, g10⟩ := hrow'
          clear hrk hsk
          go_wp2_with fail
          refine wp_region_ord_same (.f 0 (.f 1 (.f 2 (.f 3 (.f 4 (.f 5 (.f 6 (.f 7 (.f 8 .d))))))))) (by kernel_rfl) (by kernel_rfl) ?_
          repeat ((first | refine wpOrd_pass rfl rfl ?_ | (refine wpOrd_free (v := ?_) rfl rfl (fun _ hS => ?_) ?_; rotate_left; focus (go_simp; try with_reducible rfl))); simp only [Act.put, zp])
          refine wpOrd_nil ?_
          go_wp2_with fail
          exact ⟨⟨k + 1, by omega, by go_num, exI, HT⟩, by simp [intOf]; omega⟩
      · obtain rfl : k = n := by omega
        have hT : Hid (recsEqB l l' = true) := hid (recsEqB_iff.2 (by
          have h := htk.out
          rwa [List.take_of_length_le (by omega), List.take_of_length_le (by omega)] at h))
        clear hr hs
        go_wp2_with fail
        go_ret
        exact ⟨ret_val (by rw [hT.out]; rfl), exI⟩
  · have hne := recsEqB_len (a := l) (b := l') (by omega)
    have HN := hid hne
    clear hne
    go_enter Tryz.func32, Tryz.ntmps32
    go_wp2_with fail
    go_ret
    exact ⟨ret_val (by rw [HN.out]; rfl), exI⟩
set_option maxRecDepth 100000 in
set_option maxHeartbeats 2000000 in
theorem Same_any (A B : Option Addr) (n c m d : Nat) (l l' : List Rec) (hn : l.length = n) (hm : l'.length = m) (hbig : n ≤ 9223372036854775807) (w : World) (hr : Recs w A l) (hs : Recs w B l') :
    Calls Tryz.prog 53 #[regV A n c, regV B m d] w fun e w' => e = .returned (.bool (recsEqB l l')) ∧ Ext w w' := by
  go_enter Tryz.func53, Tryz.ntmps53
  go_wp2_with fail
  refine (SameRecords_any A B n c m d l l' hn hm hbig _ (recI ‹_›) (recI ‹_›)).mono ?_
  rintro e w1 ⟨rfl, E1, d1, rfl⟩
  go_wp2_with fail
  go_ret
  exact ⟨rfl, exI⟩
end Go.Proofs.YtekjdeibnfaehaaGreat
/- The examples of the chapter, in plain terms. -/
namespace Go.Proofs.YtekjdeibnfaehaaGreat
open Go Go.RowKit

def evR : Rec := ⟨1, 0, 2, 10, 5, 6, 0, 0, 0, 0, ⟨#[98, 117, 105, 108, 100]⟩⟩
def yR : Rec := ⟨1, 1, 0, 0, 0, 9, 1, 0, 0, 0, ⟨#[]⟩⟩
def zR : Rec := ⟨1, 2, 0, 0, 0, 12, 1, 1, 0, 0, ⟨#[]⟩⟩
def thR : List Rec := [evR, yR, zR]
theorem ev_len : (encL evR).length = 28 := by decide +kernel
theorem ev_err : errRec evR = 0 := by decide +kernel
theorem th_stands : standsB thR 1 0 = true := by decide +kernel
theorem th_standsE : standsE thR 1 0 = 0 := by decide +kernel
theorem th_noneE : standingE thR 10 10 = 0 := by decide +kernel
theorem th_none : (standingR thR 10 10).length = 0 := by decide +kernel
theorem th_someE : standingE thR 10 12 = 0 := by decide +kernel
theorem th_some : (standingR thR 10 12).length = 1 := by decide +kernel
theorem home_ten : homeI 10 = 1 := by decide +kernel
theorem ap_len : (appD newDrive newMem evR).f0.bytes.length = 39 := by decide +kernel
theorem ap_firm : (appD newDrive newMem evR).f0.firm = 10 := by decide +kernel
theorem ap_len1 : (appD newDrive newMem evR).f1.bytes.length = 0 := by decide +kernel
theorem ap_lenm : (appM newDrive newMem evR).recs.length = 1 := by decide +kernel
theorem op_len29 : (openM (crashD (appD newDrive newMem evR) 29 0)).recs.length = 1 := by decide +kernel
theorem op_err28 : openE (crashD (appD newDrive newMem evR) 28 0) = 0 := by decide +kernel
theorem op_len28 : (openM (crashD (appD newDrive newMem evR) 28 0)).recs.length = 0 := by decide +kernel
theorem op_err29 : openE (crashD (appD newDrive newMem evR) 29 0) = 0 := by decide +kernel
theorem op_same29 : recsEqB (openM (crashD (appD newDrive newMem evR) 29 0)).recs (appM newDrive newMem evR).recs = true := by decide +kernel
end Go.Proofs.YtekjdeibnfaehaaGreat
/- The examples that every statement holds. -/
namespace Go.Proofs.YtekjdeibnfaehaaGreat
open Go Go.RowKit

theorem DrvO.read {base : Nat} {w : World} {D : DriveD} {v : Value} (h : DrvO base w D v) : ∃ A0 n0 c0 A1 n1 c1, v = drvV A0 n0 c0 D.f0.firm A1 n1 c1 D.f1.firm ∧ DrvY w D A0 n0 c0 A1 n1 c1 ∧ OwnB base w (.slice A0 n0 c0) D.f0.bytes ∧ OwnB base w (.slice A1 n1 c1) D.f1.bytes := by
  obtain ⟨A0, A1, hv, h0, h1⟩ := h
  exact ⟨A0, _, _, A1, _, _, hv, ⟨rfl, rfl, Nat.le_refl _, Nat.le_refl _, h0.cap, h1.cap, h0.of_byt_slice, h1.of_byt_slice⟩, h0, h1⟩
theorem Crash_y (A0 : Option Addr) (n0 c0 : Nat) (A1 : Option Addr) (n1 c1 : Nat) (D : DriveD) (k0 k1 : Int) (w : World) (h : DrvY w D A0 n0 c0 A1 n1 c1) (hs0 : n0 ≤ 140737488355328) (hs1 : n1 ≤ 140737488355328)
    (hk0 : -9223372036854775808 ≤ k0) (hk0' : k0 ≤ 9223372036854775807) (hk1 : -9223372036854775808 ≤ k1) (hk1' : k1 ≤ 9223372036854775807) :
    Calls Tryz.prog 13 #[drvV A0 n0 c0 D.f0.firm A1 n1 c1 D.f1.firm, .agg #[.int .i64 k0, .int .i64 k1]] w fun e w' => ∃ B0 m0 d0 B1 m1 d1, e = .returned (drvV B0 m0 d0 (crashD D k0 k1).f0.firm B1 m1 d1 (crashD D k0 k1).f1.firm) ∧ DrvY w' (crashD D k0 k1) B0 m0 d0 B1 m1 d1 ∧ Ext w w' := by
  refine (Crash_any A0 n0 c0 A1 n1 c1 D k0 k1 h.l0 h.l1 h.h0 h.h1 h.k0 h.k1 hs0 hs1 hk0 hk0' hk1 hk1' w h.b0 h.b1).mono ?_
  rintro e w' ⟨v, rfl, hv, hx⟩
  obtain ⟨B0, m0, d0, B1, m1, d1, rfl, hy, -, -⟩ := hv.read
  exact ⟨B0, m0, d0, B1, m1, d1, rfl, hy, hx⟩
theorem Open_y (A0 : Option Addr) (n0 c0 : Nat) (A1 : Option Addr) (n1 c1 : Nat) (D : DriveD) (w : World) (h : DrvY w D A0 n0 c0 A1 n1 c1) :
    Calls Tryz.prog 15 #[drvV A0 n0 c0 D.f0.firm A1 n1 c1 D.f1.firm] w fun e w' => ∃ B0 m0 d0 B1 m1 d1 Am nm cm, e = .returned (.tuple #[drvV B0 m0 d0 (openD D).f0.firm B1 m1 d1 (openD D).f1.firm, memV Am nm cm (openM D).file (openM D).gen, .int .i64 (openE D)]) ∧
      DrvY w' (openD D) B0 m0 d0 B1 m1 d1 ∧ MemX w.heap.size w' (openM D) Am nm cm ∧ Ext w w' := by
  refine (Open_any A0 n0 c0 A1 n1 c1 D h.l0 h.l1 h.h0 h.h1 h.k0 h.k1 w h.b0 h.b1).mono ?_
  rintro e w' ⟨B0, m0, d0, B1, m1, d1, Am, nm, cm, rfl, hd, hm, hx⟩
  exact ⟨B0, m0, d0, B1, m1, d1, Am, nm, cm, rfl, hd.read, hm, hx⟩
set_option maxRecDepth 100000 in
set_option maxHeartbeats 1000000 in
theorem event_any (w : World) : Calls Tryz.prog 70 #[] w fun e w' => e = .returned (recV evR) ∧ Ext w w' := by
  go_enter Tryz.func70, Tryz.ntmps70
  go_wp2_with fail
  refine bodyPost_ret (v := recV evR) (by simp [results, Tryz.results70, go_sem, evR]) rfl ?_
  exact ⟨rfl, exI⟩
set_option maxRecDepth 100000 in
set_option maxHeartbeats 2000000 in
theorem three_any (w : World) : Calls Tryz.prog 71 #[] w fun e w' => ∃ A, e = .returned (regV A 3 3) ∧ Recs w' A thR ∧ Ext w w' := by
  go_enter Tryz.func71, Tryz.ntmps71
  go_wp2_with fail
  have hl1 : w.heap.size + 1 ≤ w.heap.size + 1 := Nat.le_refl _
  have hl2 : w.heap.size + 1 ≤ w.heap.size + 1 + 1 := by omega
  have hl3 : w.heap.size + 1 < w.heap.size + 1 + 1 + 1 := by omega
  have hl4 : w.heap.size + 1 + 1 < w.heap.size + 1 + 1 + 1 := by omega
  refine wp_region_ord_from (w.heap.size + 1) (.f 1 (.f 2 (.a 0 (.a 3 (.f 4 (.a 5 .d)))))) (by kernel_rfl) (by kernel_rfl) ?_
  repeat ((first | refine wpOrd_pass rfl rfl ?_ | (refine wpOrd_free (v := ?_) rfl rfl (fun _ hS => ?_) ?_; rotate_left; focus (go_simp; try with_reducible rfl))); simp only [Act.put, zp])
  refine wpOrd_call rfl rfl rfl Tryz.call70 (fun R hR => ?_)
  go_simp
  refine (event_any _).mono ?_
  rintro e w1 ⟨rfl, E1, d1, rfl⟩
  refine hR _ _ ⟨_, rfl, ?_, ?_⟩
  · exact SameL.out (by repeat (first | (with_reducible refine SameE.same ?_; (repeat (first | with_reducible exact SameE.refl _ _ | (with_reducible refine SameE.base ?_ ?_ _ _; (focus ((try simp only [World.size_alloc, size_ext, World.size_drew]); (try omega))); (focus ((try simp only [World.size_alloc, size_ext, World.size_drew]); omega))) | with_reducible apply SameE.alloc | with_reducible apply SameE.ext | with_reducible apply SameE.drewL | with_reducible apply SameE.drewR)); done) | with_reducible apply SameL.extL | with_reducible apply SameL.allocL | with_reducible apply SameL.drewL))
  clear hR R
  simp only [Act.put, zp]
  refine wpOrd_act rfl rfl (fun K hK => ?_)
  go_simp
  refine hK _ _ ⟨?_, ?_⟩
  · exact SameL.out (by repeat (first | (with_reducible refine SameE.same ?_; (repeat (first | with_reducible exact SameE.refl _ _ | (with_reducible refine SameE.base ?_ ?_ _ _; (focus ((try simp only [World.size_alloc, size_ext, World.size_drew]); (try omega))); (focus ((try simp only [World.size_alloc, size_ext, World.size_drew]); omega))) | with_reducible apply SameE.alloc | with_reducible apply SameE.ext | with_reducible apply SameE.drewL | with_reducible apply SameE.drewR)); done) | with_reducible apply SameL.extL | with_reducible apply SameL.allocL | with_reducible apply SameL.drewL))
  clear hK K
  try simp only [Act.put, zp]
  repeat ((first | refine wpOrd_pass rfl rfl ?_ | (refine wpOrd_free (v := ?_) rfl rfl (fun _ hS => ?_) ?_; rotate_left; focus (go_simp; try with_reducible rfl))); simp only [Act.put, zp])
  refine wpOrd_act rfl rfl (fun K hK => ?_)
  go_simp
  refine hK _ _ ⟨?_, ?_⟩
  · exact SameL.out (by repeat (first | (with_reducible refine SameE.same ?_; (repeat (first | with_reducible exact SameE.refl _ _ | (with_reducible refine SameE.base ?_ ?_ _ _; (focus ((try simp only [World.size_alloc, size_ext, World.size_drew]); (try omega))); (focus ((try simp only [World.size_alloc, size_ext, World.size_drew]); omega))) | with_reducible apply SameE.alloc | with_reducible apply SameE.ext | with_reducible apply SameE.drewL | with_reducible apply SameE.drewR)); done) | with_reducible apply SameL.extL | with_reducible apply SameL.allocL | with_reducible apply SameL.drewL))
  clear hK K
  try simp only [Act.put, zp]
  refine wpOrd_nil ?_
  all_goals
    go_wp2_with fail
  all_goals
    refine bodyPost_ret (v := regV (some ⟨w.heap.size + 1 + 1 + 1 + E1.size, 0, none⟩) 3 3) (by simp [results, Tryz.results71, go_sem]) rfl ?_
    exact ⟨_, rfl, Sl_at (thR.flatMap encRec) _ 11 3 _ rfl (by simp), exI⟩
end Go.Proofs.YtekjdeibnfaehaaGreat
/- sane. -/
set_option linter.unusedSimpArgs false
set_option linter.unusedVariables false
namespace Go.Proofs.YtekjdeibnfaehaaGreat
open Go Go.RowKit

theorem th_big : TxtBig thR := by
  intro r hr
  simp only [thR, List.mem_cons, List.not_mem_nil, or_false] at hr
  rcases hr with rfl | rfl | rfl <;> decide
theorem newDrive_y {base c : Nat} {w : World} {A : Option Addr} (h : OwnB base w (.slice A 10 c) (headB 1 0)) : DrvY w newDrive A 10 c none 0 0 :=
  ⟨headB_length 1 0, rfl, h.le, Nat.le_refl _, h.cap, by omega, h.of_byt_slice, Byt.nil _ _⟩
set_option maxRecDepth 100000 in
set_option maxHeartbeats 16000000 in
theorem sane_any (w : World) : Calls Tryz.prog 18 #[] w fun e w' => e = .returned (.bool true) ∧ Ext w w' := by
  have Hbig := hid th_big
  go_enter Tryz.func18, Tryz.ntmps18
  go_wp2_with (first | (go_at_call 69; refine (Encode_any evR _ (by decide)).mono ?_; rintro e w1 ⟨A1, c1, rfl, hb1, E1, d1, rfl⟩; rw [ev_len, ev_err]) | (go_at_call 24; refine (Stands_any _ 3 3 thR _ _ rfl (by omega) Hbig.out _ (by with_reducible repeat (first | assumption | apply Recs.ext | apply Recs.alloc | apply Recs.drew | (refine Recs.of_ext ?_ (by assumption))))).mono ?_; rintro e w1 ⟨rfl, E1, d1, rfl⟩; rw [th_stands, th_standsE]) | (go_at_call 26; refine (Standing_any _ 3 3 thR _ _ rfl (by omega) Hbig.out _ (by with_reducible repeat (first | assumption | apply Recs.ext | apply Recs.alloc | apply Recs.drew | (refine Recs.of_ext ?_ (by assumption))))).mono ?_; rintro e w1 ⟨Ag, ng, cg, rfl, hng, hrg, E1, d1, rfl⟩; (first | (rw [th_noneE]; replace hng := hng.out; rw [th_none] at hng; subst hng) | (rw [th_someE]; replace hng := hng.out; rw [th_some] at hng; subst hng)); clear hrg) | (go_at_call 70; refine (event_any _).mono ?_; rintro e w1 ⟨rfl, E1, d1, rfl⟩) | (go_at_call 71; refine (three_any _).mono ?_; rintro e w1 ⟨At1, rfl, hrt1, E1, d1, rfl⟩) | (go_at_call 72; refine (New_any _).mono ?_; rintro e w1 ⟨Aw1, cw1, rfl, how1, E1, d1, rfl⟩))
  have Hnd := hid (newDrive_y how1)
  clear how1
  refine wp_region_ord (.k3 0 (.k 1 (.a 2 (.a 3 (.f 4 (.f 5 (.f 6 (.f 7 (.a 8 (.a 9 (.f 10 .d))))))))) 2 (.a 1 (.a 3 (.f 4 (.f 5 (.f 6 (.f 7 (.a 8 (.a 9 (.f 10 .d)))))))))) 1 (.k 0 (.a 2 (.a 3 (.f 4 (.f 5 (.f 6 (.f 7 (.a 8 (.a 9 (.f 10 .d))))))))) 2 (.a 0 (.a 3 (.f 4 (.f 5 (.f 6 (.f 7 (.a 8 (.a 9 (.f 10 .d)))))))))) 2 (.k 0 (.a 1 (.a 3 (.f 4 (.f 5 (.f 6 (.f 7 (.a 8 (.a 9 (.f 10 .d))))))))) 1 (.a 0 (.a 3 (.f 4 (.f 5 (.f 6 (.f 7 (.a 8 (.a 9 (.f 10 .d))))))))))) (Ext (w)) (by kernel_rfl) (by kernel_rfl) (by repeat (with_reducible first | exact Ext.refl _ | exact Ext.same _ _ _ _ | assumption | apply Ext.alloc | apply Ext.ext | apply Ext.drew)) ?_
  refine wpOrd_fork3 ?_ ?_ ?_
  focus
   refine wpOrd_act rfl rfl (fun K hK => ?_)
   go_simp
   refine hK _ _ ⟨?_, ?_⟩
   · exact (by repeat (with_reducible first | exact Ext.refl _ | exact Ext.same _ _ _ _ | assumption | apply Ext.alloc | apply Ext.ext | apply Ext.drew))
   clear hK K
   try simp only [Act.put, zp]
   refine wpOrd_fork ?_ ?_
   focus
    refine wpOrd_act rfl rfl (fun K hK => ?_)
    go_simp
    refine hK _ _ ⟨?_, ?_⟩
    · exact (by repeat (with_reducible first | exact Ext.refl _ | exact Ext.same _ _ _ _ | assumption | apply Ext.alloc | apply Ext.ext | apply Ext.drew))
    clear hK K
    try simp only [Act.put, zp]
    refine wpOrd_call rfl rfl rfl Tryz.call70 (fun R hR => ?_)
    go_simp
    refine (event_any _).mono ?_
    rintro e w1 ⟨rfl, Ee, de, rfl⟩
    refine hR _ _ ⟨_, rfl, ?_, ?_⟩
    · exact (by repeat (with_reducible first | exact Ext.refl _ | exact Ext.same _ _ _ _ | assumption | apply Ext.alloc | apply Ext.ext | apply Ext.drew))
    clear hR R
    simp only [Act.put, zp]
    refine wpOrd_call rfl rfl rfl Tryz.call19 (fun R hR => ?_)
    go_simp
    refine (Append_any _ 10 _ _ _ _ newDrive _ 0 _ newMem evR rfl (by omega) (by decide) _ (DrvY.of_ext Hnd.out (by repeat (with_reducible first | exact Ext.refl _ | exact Ext.same _ _ _ _ | assumption | apply Ext.alloc | apply Ext.ext | apply Ext.drew))) (Recs.nil _ _)).mono ?_
    rintro e w1 ⟨Ba, na, ca, Bb, nb, cb, Bm, nmm, cmm, rfl, hdz, hmx, Ea, da, rfl⟩
    refine hR _ _ ⟨_, rfl, ?_, ?_⟩
    · exact (by repeat (with_reducible first | exact Ext.refl _ | exact Ext.same _ _ _ _ | assumption | apply Ext.alloc | apply Ext.ext | apply Ext.drew))
    clear hR R
    simp only [Act.put, zp]
    repeat ((first | refine wpOrd_pass rfl rfl ?_ | (refine wpOrd_free (v := ?_) rfl rfl (fun _ hS => ?_) ?_; rotate_left; focus (obtain ⟨E9, d9, rfl⟩ := hS; go_simp; try with_reducible rfl))); simp only [Act.put, zp])
    refine wpOrd_act rfl rfl (fun K hK => ?_)
    go_simp
    refine hK _ _ ⟨?_, ?_⟩
    · exact (by repeat (with_reducible first | exact Ext.refl _ | exact Ext.same _ _ _ _ | assumption | apply Ext.alloc | apply Ext.ext | apply Ext.drew))
    clear hK K
    try simp only [Act.put, zp]
    refine wpOrd_act rfl rfl (fun K hK => ?_)
    go_simp
    refine hK _ _ ⟨?_, ?_⟩
    · exact (by repeat (with_reducible first | exact Ext.refl _ | exact Ext.same _ _ _ _ | assumption | apply Ext.alloc | apply Ext.ext | apply Ext.drew))
    clear hK K
    try simp only [Act.put, zp]
    repeat ((first | refine wpOrd_pass rfl rfl ?_ | (refine wpOrd_free (v := ?_) rfl rfl (fun _ hS => ?_) ?_; rotate_left; focus (obtain ⟨E9, d9, rfl⟩ := hS; go_simp; try with_reducible rfl))); simp only [Act.put, zp])
    refine wpOrd_nil ?_
   rotate_right
   focus
    refine wpOrd_call rfl rfl rfl Tryz.call70 (fun R hR => ?_)
    go_simp
    refine (event_any _).mono ?_
    rintro e w1 ⟨rfl, Ee, de, rfl⟩
    refine hR _ _ ⟨_, rfl, ?_, ?_⟩
    · exact (by repeat (with_reducible first | exact Ext.refl _ | exact Ext.same _ _ _ _ | assumption | apply Ext.alloc | apply Ext.ext | apply Ext.drew))
    clear hR R
    simp only [Act.put, zp]
    refine wpOrd_act rfl rfl (fun K hK => ?_)
    go_simp
    refine hK _ _ ⟨?_, ?_⟩
    · exact (by repeat (with_reducible first | exact Ext.refl _ | exact Ext.same _ _ _ _ | assumption | apply Ext.alloc | apply Ext.ext | apply Ext.drew))
    clear hK K
    try simp only [Act.put, zp]
    refine wpOrd_call rfl rfl rfl Tryz.call19 (fun R hR => ?_)
    go_simp
    refine (Append_any _ 10 _ _ _ _ newDrive _ 0 _ newMem evR rfl (by omega) (by decide) _ (DrvY.of_ext Hnd.out (by repeat (with_reducible first | exact Ext.refl _ | exact Ext.same _ _ _ _ | assumption | apply Ext.alloc | apply Ext.ext | apply Ext.drew))) (Recs.nil _ _)).mono ?_
    rintro e w1 ⟨Ba, na, ca, Bb, nb, cb, Bm, nmm, cmm, rfl, hdz, hmx, Ea, da, rfl⟩
    refine hR _ _ ⟨_, rfl, ?_, ?_⟩
    · exact (by repeat (with_reducible first | exact Ext.refl _ | exact Ext.same _ _ _ _ | assumption | apply Ext.alloc | apply Ext.ext | apply Ext.drew))
    clear hR R
    simp only [Act.put, zp]
    repeat ((first | refine wpOrd_pass rfl rfl ?_ | (refine wpOrd_free (v := ?_) rfl rfl (fun _ hS => ?_) ?_; rotate_left; focus (obtain ⟨E9, d9, rfl⟩ := hS; go_simp; try with_reducible rfl))); simp only [Act.put, zp])
    refine wpOrd_act rfl rfl (fun K hK => ?_)
    go_simp
    refine hK _ _ ⟨?_, ?_⟩
    · exact (by repeat (with_reducible first | exact Ext.refl _ | exact Ext.same _ _ _ _ | assumption | apply Ext.alloc | apply Ext.ext | apply Ext.drew))
    clear hK K
    try simp only [Act.put, zp]
    refine wpOrd_act rfl rfl (fun K hK => ?_)
    go_simp
    refine hK _ _ ⟨?_, ?_⟩
    · exact (by repeat (with_reducible first | exact Ext.refl _ | exact Ext.same _ _ _ _ | assumption | apply Ext.alloc | apply Ext.ext | apply Ext.drew))
    clear hK K
    try simp only [Act.put, zp]
    repeat ((first | refine wpOrd_pass rfl rfl ?_ | (refine wpOrd_free (v := ?_) rfl rfl (fun _ hS => ?_) ?_; rotate_left; focus (obtain ⟨E9, d9, rfl⟩ := hS; go_simp; try with_reducible rfl))); simp only [Act.put, zp])
    refine wpOrd_nil ?_
  rotate_right
  focus
   refine wpOrd_call rfl rfl rfl Tryz.call70 (fun R hR => ?_)
   go_simp
   refine (event_any _).mono ?_
   rintro e w1 ⟨rfl, Ee, de, rfl⟩
   refine hR _ _ ⟨_, rfl, ?_, ?_⟩
   · exact (by repeat (with_reducible first | exact Ext.refl _ | exact Ext.same _ _ _ _ | assumption | apply Ext.alloc | apply Ext.ext | apply Ext.drew))
   clear hR R
   simp only [Act.put, zp]
   refine wpOrd_fork ?_ ?_
   focus
    refine wpOrd_act rfl rfl (fun K hK => ?_)
    go_simp
    refine hK _ _ ⟨?_, ?_⟩
    · exact (by repeat (with_reducible first | exact Ext.refl _ | exact Ext.same _ _ _ _ | assumption | apply Ext.alloc | apply Ext.ext | apply Ext.drew))
    clear hK K
    try simp only [Act.put, zp]
    refine wpOrd_act rfl rfl (fun K hK => ?_)
    go_simp
    refine hK _ _ ⟨?_, ?_⟩
    · exact (by repeat (with_reducible first | exact Ext.refl _ | exact Ext.same _ _ _ _ | assumption | apply Ext.alloc | apply Ext.ext | apply Ext.drew))
    clear hK K
    try simp only [Act.put, zp]
    refine wpOrd_call rfl rfl rfl Tryz.call19 (fun R hR => ?_)
    go_simp
    refine (Append_any _ 10 _ _ _ _ newDrive _ 0 _ newMem evR rfl (by omega) (by decide) _ (DrvY.of_ext Hnd.out (by repeat (with_reducible first | exact Ext.refl _ | exact Ext.same _ _ _ _ | assumption | apply Ext.alloc | apply Ext.ext | apply Ext.drew))) (Recs.nil _ _)).mono ?_
    rintro e w1 ⟨Ba, na, ca, Bb, nb, cb, Bm, nmm, cmm, rfl, hdz, hmx, Ea, da, rfl⟩
    refine hR _ _ ⟨_, rfl, ?_, ?_⟩
    · exact (by repeat (with_reducible first | exact Ext.refl _ | exact Ext.same _ _ _ _ | assumption | apply Ext.alloc | apply Ext.ext | apply Ext.drew))
    clear hR R
    simp only [Act.put, zp]
    repeat ((first | refine wpOrd_pass rfl rfl ?_ | (refine wpOrd_free (v := ?_) rfl rfl (fun _ hS => ?_) ?_; rotate_left; focus (obtain ⟨E9, d9, rfl⟩ := hS; go_simp; try with_reducible rfl))); simp only [Act.put, zp])
    refine wpOrd_act rfl rfl (fun K hK => ?_)
    go_simp
    refine hK _ _ ⟨?_, ?_⟩
    · exact (by repeat (with_reducible first | exact Ext.refl _ | exact Ext.same _ _ _ _ | assumption | apply Ext.alloc | apply Ext.ext | apply Ext.drew))
    clear hK K
    try simp only [Act.put, zp]
    refine wpOrd_act rfl rfl (fun K hK => ?_)
    go_simp
    refine hK _ _ ⟨?_, ?_⟩
    · exact (by repeat (with_reducible first | exact Ext.refl _ | exact Ext.same _ _ _ _ | assumption | apply Ext.alloc | apply Ext.ext | apply Ext.drew))
    clear hK K
    try simp only [Act.put, zp]
    repeat ((first | refine wpOrd_pass rfl rfl ?_ | (refine wpOrd_free (v := ?_) rfl rfl (fun _ hS => ?_) ?_; rotate_left; focus (obtain ⟨E9, d9, rfl⟩ := hS; go_simp; try with_reducible rfl))); simp only [Act.put, zp])
    refine wpOrd_nil ?_
   rotate_right
   focus
    refine wpOrd_act rfl rfl (fun K hK => ?_)
    go_simp
    refine hK _ _ ⟨?_, ?_⟩
    · exact (by repeat (with_reducible first | exact Ext.refl _ | exact Ext.same _ _ _ _ | assumption | apply Ext.alloc | apply Ext.ext | apply Ext.drew))
    clear hK K
    try simp only [Act.put, zp]
    refine wpOrd_act rfl rfl (fun K hK => ?_)
    go_simp
    refine hK _ _ ⟨?_, ?_⟩
    · exact (by repeat (with_reducible first | exact Ext.refl _ | exact Ext.same _ _ _ _ | assumption | apply Ext.alloc | apply Ext.ext | apply Ext.drew))
    clear hK K
    try simp only [Act.put, zp]
    refine wpOrd_call rfl rfl rfl Tryz.call19 (fun R hR => ?_)
    go_simp
    refine (Append_any _ 10 _ _ _ _ newDrive _ 0 _ newMem evR rfl (by omega) (by decide) _ (DrvY.of_ext Hnd.out (by repeat (with_reducible first | exact Ext.refl _ | exact Ext.same _ _ _ _ | assumption | apply Ext.alloc | apply Ext.ext | apply Ext.drew))) (Recs.nil _ _)).mono ?_
    rintro e w1 ⟨Ba, na, ca, Bb, nb, cb, Bm, nmm, cmm, rfl, hdz, hmx, Ea, da, rfl⟩
    refine hR _ _ ⟨_, rfl, ?_, ?_⟩
    · exact (by repeat (with_reducible first | exact Ext.refl _ | exact Ext.same _ _ _ _ | assumption | apply Ext.alloc | apply Ext.ext | apply Ext.drew))
    clear hR R
    simp only [Act.put, zp]
    repeat ((first | refine wpOrd_pass rfl rfl ?_ | (refine wpOrd_free (v := ?_) rfl rfl (fun _ hS => ?_) ?_; rotate_left; focus (obtain ⟨E9, d9, rfl⟩ := hS; go_simp; try with_reducible rfl))); simp only [Act.put, zp])
    refine wpOrd_act rfl rfl (fun K hK => ?_)
    go_simp
    refine hK _ _ ⟨?_, ?_⟩
    · exact (by repeat (with_reducible first | exact Ext.refl _ | exact Ext.same _ _ _ _ | assumption | apply Ext.alloc | apply Ext.ext | apply Ext.drew))
    clear hK K
    try simp only [Act.put, zp]
    refine wpOrd_act rfl rfl (fun K hK => ?_)
    go_simp
    refine hK _ _ ⟨?_, ?_⟩
    · exact (by repeat (with_reducible first | exact Ext.refl _ | exact Ext.same _ _ _ _ | assumption | apply Ext.alloc | apply Ext.ext | apply Ext.drew))
    clear hK K
    try simp only [Act.put, zp]
    repeat ((first | refine wpOrd_pass rfl rfl ?_ | (refine wpOrd_free (v := ?_) rfl rfl (fun _ hS => ?_) ?_; rotate_left; focus (obtain ⟨E9, d9, rfl⟩ := hS; go_simp; try with_reducible rfl))); simp only [Act.put, zp])
    refine wpOrd_nil ?_
  rotate_right
  focus
   refine wpOrd_act rfl rfl (fun K hK => ?_)
   go_simp
   refine hK _ _ ⟨?_, ?_⟩
   · exact (by repeat (with_reducible first | exact Ext.refl _ | exact Ext.same _ _ _ _ | assumption | apply Ext.alloc | apply Ext.ext | apply Ext.drew))
   clear hK K
   try simp only [Act.put, zp]
   refine wpOrd_fork ?_ ?_
   focus
    refine wpOrd_act rfl rfl (fun K hK => ?_)
    go_simp
    refine hK _ _ ⟨?_, ?_⟩
    · exact (by repeat (with_reducible first | exact Ext.refl _ | exact Ext.same _ _ _ _ | assumption | apply Ext.alloc | apply Ext.ext | apply Ext.drew))
    clear hK K
    try simp only [Act.put, zp]
    refine wpOrd_call rfl rfl rfl Tryz.call70 (fun R hR => ?_)
    go_simp
    refine (event_any _).mono ?_
    rintro e w1 ⟨rfl, Ee, de, rfl⟩
    refine hR _ _ ⟨_, rfl, ?_, ?_⟩
    · exact (by repeat (with_reducible first | exact Ext.refl _ | exact Ext.same _ _ _ _ | assumption | apply Ext.alloc | apply Ext.ext | apply Ext.drew))
    clear hR R
    simp only [Act.put, zp]
    refine wpOrd_call rfl rfl rfl Tryz.call19 (fun R hR => ?_)
    go_simp
    refine (Append_any _ 10 _ _ _ _ newDrive _ 0 _ newMem evR rfl (by omega) (by decide) _ (DrvY.of_ext Hnd.out (by repeat (with_reducible first | exact Ext.refl _ | exact Ext.same _ _ _ _ | assumption | apply Ext.alloc | apply Ext.ext | apply Ext.drew))) (Recs.nil _ _)).mono ?_
    rintro e w1 ⟨Ba, na, ca, Bb, nb, cb, Bm, nmm, cmm, rfl, hdz, hmx, Ea, da, rfl⟩
    refine hR _ _ ⟨_, rfl, ?_, ?_⟩
    · exact (by repeat (with_reducible first | exact Ext.refl _ | exact Ext.same _ _ _ _ | assumption | apply Ext.alloc | apply Ext.ext | apply Ext.drew))
    clear hR R
    simp only [Act.put, zp]
    repeat ((first | refine wpOrd_pass rfl rfl ?_ | (refine wpOrd_free (v := ?_) rfl rfl (fun _ hS => ?_) ?_; rotate_left; focus (obtain ⟨E9, d9, rfl⟩ := hS; go_simp; try with_reducible rfl))); simp only [Act.put, zp])
    refine wpOrd_act rfl rfl (fun K hK => ?_)
    go_simp
    refine hK _ _ ⟨?_, ?_⟩
    · exact (by repeat (with_reducible first | exact Ext.refl _ | exact Ext.same _ _ _ _ | assumption | apply Ext.alloc | apply Ext.ext | apply Ext.drew))
    clear hK K
    try simp only [Act.put, zp]
    refine wpOrd_act rfl rfl (fun K hK => ?_)
    go_simp
    refine hK _ _ ⟨?_, ?_⟩
    · exact (by repeat (with_reducible first | exact Ext.refl _ | exact Ext.same _ _ _ _ | assumption | apply Ext.alloc | apply Ext.ext | apply Ext.drew))
    clear hK K
    try simp only [Act.put, zp]
    repeat ((first | refine wpOrd_pass rfl rfl ?_ | (refine wpOrd_free (v := ?_) rfl rfl (fun _ hS => ?_) ?_; rotate_left; focus (obtain ⟨E9, d9, rfl⟩ := hS; go_simp; try with_reducible rfl))); simp only [Act.put, zp])
    refine wpOrd_nil ?_
   rotate_right
   focus
    refine wpOrd_call rfl rfl rfl Tryz.call70 (fun R hR => ?_)
    go_simp
    refine (event_any _).mono ?_
    rintro e w1 ⟨rfl, Ee, de, rfl⟩
    refine hR _ _ ⟨_, rfl, ?_, ?_⟩
    · exact (by repeat (with_reducible first | exact Ext.refl _ | exact Ext.same _ _ _ _ | assumption | apply Ext.alloc | apply Ext.ext | apply Ext.drew))
    clear hR R
    simp only [Act.put, zp]
    refine wpOrd_act rfl rfl (fun K hK => ?_)
    go_simp
    refine hK _ _ ⟨?_, ?_⟩
    · exact (by repeat (with_reducible first | exact Ext.refl _ | exact Ext.same _ _ _ _ | assumption | apply Ext.alloc | apply Ext.ext | apply Ext.drew))
    clear hK K
    try simp only [Act.put, zp]
    refine wpOrd_call rfl rfl rfl Tryz.call19 (fun R hR => ?_)
    go_simp
    refine (Append_any _ 10 _ _ _ _ newDrive _ 0 _ newMem evR rfl (by omega) (by decide) _ (DrvY.of_ext Hnd.out (by repeat (with_reducible first | exact Ext.refl _ | exact Ext.same _ _ _ _ | assumption | apply Ext.alloc | apply Ext.ext | apply Ext.drew))) (Recs.nil _ _)).mono ?_
    rintro e w1 ⟨Ba, na, ca, Bb, nb, cb, Bm, nmm, cmm, rfl, hdz, hmx, Ea, da, rfl⟩
    refine hR _ _ ⟨_, rfl, ?_, ?_⟩
    · exact (by repeat (with_reducible first | exact Ext.refl _ | exact Ext.same _ _ _ _ | assumption | apply Ext.alloc | apply Ext.ext | apply Ext.drew))
    clear hR R
    simp only [Act.put, zp]
    repeat ((first | refine wpOrd_pass rfl rfl ?_ | (refine wpOrd_free (v := ?_) rfl rfl (fun _ hS => ?_) ?_; rotate_left; focus (obtain ⟨E9, d9, rfl⟩ := hS; go_simp; try with_reducible rfl))); simp only [Act.put, zp])
    refine wpOrd_act rfl rfl (fun K hK => ?_)
    go_simp
    refine hK _ _ ⟨?_, ?_⟩
    · exact (by repeat (with_reducible first | exact Ext.refl _ | exact Ext.same _ _ _ _ | assumption | apply Ext.alloc | apply Ext.ext | apply Ext.drew))
    clear hK K
    try simp only [Act.put, zp]
    refine wpOrd_act rfl rfl (fun K hK => ?_)
    go_simp
    refine hK _ _ ⟨?_, ?_⟩
    · exact (by repeat (with_reducible first | exact Ext.refl _ | exact Ext.same _ _ _ _ | assumption | apply Ext.alloc | apply Ext.ext | apply Ext.drew))
    clear hK K
    try simp only [Act.put, zp]
    repeat ((first | refine wpOrd_pass rfl rfl ?_ | (refine wpOrd_free (v := ?_) rfl rfl (fun _ hS => ?_) ?_; rotate_left; focus (obtain ⟨E9, d9, rfl⟩ := hS; go_simp; try with_reducible rfl))); simp only [Act.put, zp])
    refine wpOrd_nil ?_
  all_goals
    have hna : na = 39 := by rw [← hdz.l0, ap_len]
    have hnb : nb = 0 := by rw [← hdz.l1, ap_len1]
    have hnm : nmm = 1 := by rw [hmx.l, ap_lenm]
    subst hna hnb hnm
    have Hdz := hid hdz
    have Hmx := hid hmx
    clear hdz hmx
    go_wp2_with (first | (go_at_call 13; refine (Crash_y _ _ _ _ _ _ (appD newDrive newMem evR) _ _ _ (DrvZ.moved2 (base := 0) Hdz.out (by repeat (with_reducible first | exact Ext.refl _ | exact Ext.same _ _ _ _ | assumption | apply Ext.alloc | apply Ext.ext | apply Ext.drew)) (by simp) (by simp) (by omega)).read (by omega) (by omega) (by omega) (by omega) (by omega) (by omega)).mono ?_; rintro e w1 ⟨Ck0, ck0, ckc0, Ck1, ck1, ckc1, rfl, hck, Ec, dc, rfl⟩) | (go_at_call 15; refine (Open_y _ _ _ _ _ _ _ _ hck).mono ?_; rintro e w1 ⟨Bo0, no0, co0, Bo1, no1, co1, Amo, nmo, cmo, rfl, hdo, hmo, Eo, do_, rfl⟩; (first | (rw [op_err28]; have hml := hmo.l; rw [op_len28] at hml; subst hml; clear hmo hdo hck) | (rw [op_err29]; have hml := hmo.l; rw [op_len29] at hml; subst hml; have Hm29 := hid hmo; clear hmo hdo hck))) | (go_at_call 54; refine (Home_any 10 _).mono ?_; rintro e w1 ⟨rfl, rfl⟩; rw [home_ten]; have hfirm := ap_firm) | (go_at_call 53; refine (Same_any _ _ _ _ _ _ (openM (crashD (appD newDrive newMem evR) 29 0)).recs (appM newDrive newMem evR).recs Hm29.out.l.symm Hmx.out.l.symm (by omega) _ (OwnR.of_slice (base := 0) (OwnR.moved2 Hm29.out.r (by repeat (with_reducible first | exact Ext.refl _ | exact Ext.same _ _ _ _ | assumption | apply Ext.alloc | apply Ext.ext | apply Ext.drew)) (by simp) (by simp) (by omega))) (OwnR.of_slice (base := 0) (OwnR.moved2 Hmx.out.r (by repeat (with_reducible first | exact Ext.refl _ | exact Ext.same _ _ _ _ | assumption | apply Ext.alloc | apply Ext.ext | apply Ext.drew)) (by simp) (by simp) (by omega)))).mono ?_; rintro e w1 ⟨rfl, Es, ds, rfl⟩; rw [op_same29]))
  all_goals
    go_ret
    exact ⟨ret_val rfl, (by repeat (with_reducible first | exact Ext.refl _ | exact Ext.same _ _ _ _ | assumption | apply Ext.alloc | apply Ext.ext | apply Ext.drew))⟩
end Go.Proofs.YtekjdeibnfaehaaGreat
