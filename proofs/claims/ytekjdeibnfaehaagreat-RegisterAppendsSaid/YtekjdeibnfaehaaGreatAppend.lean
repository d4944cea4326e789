/- Append. -/
import Derived.Test.YtekjdeibnfaehaaGreatJadd
set_option linter.unusedSimpArgs false
set_option linter.unusedVariables false
namespace Go.Proofs.YtekjdeibnfaehaaGreat
open Go Go.RowKit

theorem calls_at {P : Program} {f : FuncId} {a : Value} {W : World} {R : Ending → World → Prop} {g g' : Nat} (h : Calls P f #[.pointer (some ⟨g, 0, none⟩), a] W R) (e : g' = g) : Calls P f #[.pointer (some ⟨g', 0, none⟩), a] W R := e ▸ h
/-- A drive that can be read. -/
structure DrvY (w : World) (D : DriveD) (A0 : Option Addr) (n0 c0 : Nat) (A1 : Option Addr) (n1 c1 : Nat) : Prop where
  l0 : D.f0.bytes.length = n0
  l1 : D.f1.bytes.length = n1
  h0 : n0 ≤ c0
  h1 : n1 ≤ c1
  k0 : c0 ≤ 9223372036854775807
  k1 : c1 ≤ 9223372036854775807
  b0 : Byt w A0 D.f0.bytes
  b1 : Byt w A1 D.f1.bytes
theorem DrvY.of_ext {w w' : World} {D : DriveD} {A0 : Option Addr} {n0 c0 : Nat} {A1 : Option Addr} {n1 c1 : Nat} (h : DrvY w D A0 n0 c0 A1 n1 c1) (hx : Ext w w') : DrvY w' D A0 n0 c0 A1 n1 c1 :=
  ⟨h.l0, h.l1, h.h0, h.h1, h.k0, h.k1, h.b0.of_ext hx, h.b1.of_ext hx⟩
theorem OwnB.le {base n c : Nat} {w : World} {A : Option Addr} {l : List UInt8} (h : OwnB base w (.slice A n c) l) : n ≤ c := by
  obtain ⟨A2, c2, hv, hc, _⟩ := ownsRow_slice h
  simp only [Value.slice.injEq] at hv
  omega
theorem DrvX.read {base : Nat} {w : World} {D : DriveD} {A0 : Option Addr} {n0 c0 : Nat} {A1 : Option Addr} {n1 c1 : Nat} (h : DrvX base w D A0 n0 c0 A1 n1 c1) : DrvY w D A0 n0 c0 A1 n1 c1 :=
  ⟨h.l0.symm, h.l1.symm, h.b0.le, h.b1.le, h.b0.cap, h.b1.cap, h.b0.of_byt_slice, h.b1.of_byt_slice⟩
/-- A drive in rows of the call's own, or without bytes. -/
structure DrvZ (base : Nat) (w : World) (D : DriveD) (A0 : Option Addr) (n0 c0 : Nat) (A1 : Option Addr) (n1 c1 : Nat) : Prop where
  l0 : D.f0.bytes.length = n0
  l1 : D.f1.bytes.length = n1
  h0 : n0 ≤ c0
  h1 : n1 ≤ c1
  k0 : c0 ≤ 9223372036854775807
  k1 : c1 ≤ 9223372036854775807
  r0 : RowB base w A0 n0 c0 D.f0.bytes
  r1 : RowB base w A1 n1 c1 D.f1.bytes
theorem DrvZ.read {base : Nat} {w : World} {D : DriveD} {A0 : Option Addr} {n0 c0 : Nat} {A1 : Option Addr} {n1 c1 : Nat} (h : DrvZ base w D A0 n0 c0 A1 n1 c1) : DrvY w D A0 n0 c0 A1 n1 c1 :=
  ⟨h.l0, h.l1, h.h0, h.h1, h.k0, h.k1, h.r0.byt, h.r1.byt⟩
theorem DrvX.rows {base : Nat} {w : World} {D : DriveD} {A0 : Option Addr} {n0 c0 : Nat} {A1 : Option Addr} {n1 c1 : Nat} (h : DrvX base w D A0 n0 c0 A1 n1 c1) : DrvZ base w D A0 n0 c0 A1 n1 c1 :=
  ⟨h.l0.symm, h.l1.symm, h.b0.le, h.b1.le, h.b0.cap, h.b1.cap, .inr h.b0, .inr h.b1⟩
theorem DrvZ.moved2 {N base : Nat} {X X' W' : World} {E : Array Obj} {d d' : Nat} {D : DriveD} {A0 : Option Addr} {n0 c0 : Nat} {A1 : Option Addr} {n1 c1 : Nat} (h : DrvZ N (X.ext E d) D A0 n0 c0 A1 n1 c1) (hx : Ext (X'.ext E d') W') (hs : X'.heap.size = X.heap.size) (hN : X.heap.size ≤ N) (hb : base ≤ N) : DrvZ base W' D A0 n0 c0 A1 n1 c1 :=
  ⟨h.l0, h.l1, h.h0, h.h1, h.k0, h.k1, h.r0.moved2 hx hs hN hb, h.r1.moved2 hx hs hN hb⟩
theorem DrvZ.zero (base : Nat) (w : World) : DrvZ base w noDrive none 0 0 none 0 0 := (DrvX.zero base w).rows
theorem DrvY.zero (w : World) : DrvY w noDrive none 0 0 none 0 0 := (DrvX.zero 0 w).read
theorem memOk_facts {D : DriveD} {M : MemD} (h : memOk D M = true) : driveOk D = true ∧ (M.file = 0 ∨ M.file = 1) ∧ (fileAt D (1 - M.file)).bytes = [] ∧ checkB M.recs = true ∧ pageOk (fileAt D M.file).bytes = true ∧ genB (fileAt D M.file).bytes = M.gen := by
  simp only [memOk, Bool.and_eq_true, decide_eq_true_eq, inB_spec, recsEqB_iff] at h
  obtain ⟨h1, ⟨h2, h2'⟩, h3, h4, h5, h6, h7, h8⟩ := h
  exact ⟨h1, by omega, h3, h8 ▸ checkB_ordL h7, h4, h5⟩
theorem driveOk_len {D : DriveD} (h : driveOk D = true) : D.f0.bytes.length ≤ 100000 ∧ D.f1.bytes.length ≤ 100000 := by
  simp only [driveOk, Bool.and_eq_true, fileOk_iff] at h
  omega
theorem putL_has {l : List Rec} {r : Rec} (hs : Sorted l) (hh : hasR l r.ao r.sq = true) (he : putE l r = 0) : putL l r = l := by
  obtain ⟨hp, ha⟩ := (hasR_pos hs _ _).1 hh
  have hf := findR_some hs hp ha
  rw [putE_hit hf] at he
  rw [putL_hit hf]
  split at he
  · rename_i h; rw [if_pos h]
  · omega
theorem putL_fresh {l : List Rec} {r : Rec} (hh : hasR l r.ao r.sq = false) (he : putE l r = 0) : (putL l r).length = l.length + 1 := by
  have hf := findR_none hh
  rw [putE_new hf] at he
  rw [putL_new hf]
  split at he
  · omega
  · rename_i h
    rw [if_neg h, (insR_perm _ _).length_eq]; rfl
theorem appE_bad {D : DriveD} {M : MemD} {r : Rec} (h : memOk D M = false) : appE D M r = 73 ∧ appD D M r = noDrive ∧ appM D M r = noMem := by
  have : appE D M r = 73 := by simp [appE, h]
  exact ⟨this, by rw [appD, this]; rfl, by rw [appM, this]; rfl⟩
theorem appE_err {D : DriveD} {M : MemD} {r : Rec} (h : memOk D M = true) (he : ¬(jaddE M.recs r = 0)) : appE D M r = jaddE M.recs r ∧ appD D M r = noDrive ∧ appM D M r = noMem := by
  have : appE D M r = jaddE M.recs r := by simp [appE, h, jaddE]
  exact ⟨this, by rw [appD, this, if_neg he], by rw [appM, this, if_neg he]⟩
theorem appE_ok {D : DriveD} {M : MemD} {r : Rec} (h : memOk D M = true) (hk : recOk r = true) (he : putE M.recs r = 0) : appE D M r = 0 ∧ appD D M r = (if hasR M.recs r.ao r.sq = true then D else addF D M.file (frameB r)) ∧ appM D M r = ⟨putL M.recs r, M.file, M.gen⟩ := by
  have : appE D M r = 0 := by simp [appE, h, hk, he]
  exact ⟨this, by rw [appD, this, if_pos rfl], by rw [appM, this, if_pos rfl]⟩
set_option maxRecDepth 100000 in
set_option maxHeartbeats 16000000 in
theorem Append_any (A0 : Option Addr) (n0 c0 : Nat) (A1 : Option Addr) (n1 c1 : Nat) (D : DriveD) (Am : Option Addr) (nm cm : Nat) (M : MemD) (r : Rec) (hm : M.recs.length = nm) (hmb : nm ≤ 9223372036854775807) (htx : r.text.size ≤ 9223372036854775807) (w : World)
    (hD : DrvY w D A0 n0 c0 A1 n1 c1) (hr : Recs w Am M.recs) :
    Calls Tryz.prog 19 #[drvV A0 n0 c0 D.f0.firm A1 n1 c1 D.f1.firm, memV Am nm cm M.file M.gen, recV r] w fun e w' => ∃ B0 m0 d0 B1 m1 d1 Ag ng cg, e = .returned (.tuple #[drvV B0 m0 d0 (appD D M r).f0.firm B1 m1 d1 (appD D M r).f1.firm, memV Ag ng cg (appM D M r).file (appM D M r).gen, .int .i64 (appE D M r)]) ∧
      DrvZ w.heap.size w' (appD D M r) B0 m0 d0 B1 m1 d1 ∧ MemX w.heap.size w' (appM D M r) Ag ng cg ∧ Ext w w' := by
  obtain ⟨hl0, hl1, hc0, hc1, hbig0, hbig1, hb0, hb1⟩ := hD
  cases hmo : memOk D M with
  | false =>
    obtain ⟨h1, h2, h3⟩ := appE_bad (r := r) hmo
    rw [h1, h2, h3]
    clear h1 h2 h3
    go_enter Tryz.func19, Tryz.ntmps19
    go_wp2_with (go_at_call 73; refine (isMemory_any _ _ _ _ _ _ _ _ _ _ _ (by first | rfl | assumption) (by first | rfl | assumption) (by omega) (by omega) (by omega) (by omega) (by first | rfl | assumption) (by omega) _ (by with_reducible repeat (first | assumption | apply Byt.ext | apply Byt.alloc | apply Byt.drew | (refine Byt.of_ext ?_ (by assumption)))) (by with_reducible repeat (first | assumption | apply Byt.ext | apply Byt.alloc | apply Byt.drew | (refine Byt.of_ext ?_ (by assumption)))) (by with_reducible repeat (first | assumption | apply Recs.ext | apply Recs.alloc | apply Recs.drew | (refine Recs.of_ext ?_ (by assumption))))).mono ?_; rintro e w1 ⟨rfl, E1, d1, rfl⟩)
    refine bodyPost_ret (v := .tuple #[drvV none 0 0 0 none 0 0 0, memV none 0 0 0 0, .int .i64 73]) (by simp [results, Tryz.results19, go_sem]) rfl ?_
    exact ⟨none, 0, 0, none, 0, 0, none, 0, 0, rfl, DrvZ.zero _ _, MemX.zero _ _, (by repeat (first | (with_reducible first | exact Ext.refl _ | exact Ext.same _ _ _ _ | assumption | apply Ext.alloc | apply Ext.ext | apply Ext.drew) | (with_reducible refine Ext.setCell ?_ _ _ ?_; rotate_left; focus (first | omega | (simp only [zs1, zs2, zs3, size_ext]; omega)))))⟩
  | true =>
    obtain ⟨hok, h01, hnil, hck, -, -⟩ := memOk_facts hmo
    obtain ⟨hs0, hs1⟩ := driveOk_len hok
    rw [hl0] at hs0
    rw [hl1] at hs1
    obtain ⟨h80, hall, hsrt⟩ := checkB_iff.1 hck
    have hnm : nm ≤ 100000 := by omega
    by_cases hje : jaddE M.recs r = 0
    · skip
      have hrk : recOk r = true := by
        cases hq : recOk r with
        | true => rfl
        | false => rw [jaddE, hq] at hje; cases hje
      have hpe : putE M.recs r = 0 := by rw [jaddE, hrk] at hje; exact hje
      obtain ⟨h1, h2, h3⟩ := appE_ok hmo hrk hpe
      cases hh : hasR M.recs r.ao r.sq with
      | true =>
        have hpl := putL_has hsrt hh hpe
        rw [hh, if_pos rfl] at h2
        have H1 := hid h1
        have H2 := hid h2
        have H3 := hid h3
        clear h1 h2 h3 hok hck hnil h01 hje
        go_enter Tryz.func19, Tryz.ntmps19
        go_wp2_with (go_at_call 73; refine (isMemory_any _ _ _ _ _ _ _ _ _ _ _ (by first | rfl | assumption) (by first | rfl | assumption) (by omega) (by omega) (by omega) (by omega) (by first | rfl | assumption) (by omega) _ (by with_reducible repeat (first | assumption | apply Byt.ext | apply Byt.alloc | apply Byt.drew | (refine Byt.of_ext ?_ (by assumption)))) (by with_reducible repeat (first | assumption | apply Byt.ext | apply Byt.alloc | apply Byt.drew | (refine Byt.of_ext ?_ (by assumption)))) (by with_reducible repeat (first | assumption | apply Recs.ext | apply Recs.alloc | apply Recs.drew | (refine Recs.of_ext ?_ (by assumption))))).mono ?_; rintro e w1 ⟨rfl, E1, d1, rfl⟩)
        refine (calls_at (add_hit A0 n0 c0 D.f0.firm A1 n1 c1 D.f1.firm Am nm cm M.file M.gen D.f0.bytes D.f1.bytes M.recs r hl0 hl1 hs0 hs1 hm hnm hsrt hrk hpe (by rw [hpl]) _ (by with_reducible repeat (first | assumption | apply Recs.ext | apply Recs.alloc | apply Recs.drew | (refine Recs.of_ext ?_ (by assumption)))) (by with_reducible repeat (first | assumption | apply Byt.ext | apply Byt.alloc | apply Byt.drew | (refine Byt.of_ext ?_ (by assumption)))) (by with_reducible repeat (first | assumption | apply Byt.ext | apply Byt.alloc | apply Byt.drew | (refine Byt.of_ext ?_ (by assumption))))) (by simp)).mono ?_
        rintro e w1 ⟨B0, m0, d0, B1, m1, d1, Ag, ng, cg, rfl, ⟨E9, d9, rfl⟩, hfa, hy0, hy1, hng, hog⟩
        have Hy0 := hid hy0
        have Hy1 := hid hy1
        have Hog := hid hog
        clear hy0 hy1 hog
        have hle : w.heap.size + 1 + 1 + 1 + 1 + 1 ≤ w.heap.size + 1 + 1 + 1 + 1 + 1 + E1.size := by omega
        have hlt : w.heap.size + 1 + 1 + 1 + 1 + 1 + E1.size < w.heap.size + 1 + 1 + 1 + 1 + 1 + E1.size + 1 + E9.size := by omega
        go_wp2_with fail
        refine wp_region_ord_from (w.heap.size + 1 + 1 + 1 + 1 + 1) (.f 0 (.f 1 (.f 2 (.f 3 (.a 4 (.a 5 (.f 6 .d))))))) (by kernel_rfl) (by kernel_rfl) ?_
        repeat ((first | refine wpOrd_pass rfl rfl ?_ | (refine wpOrd_free (v := ?_) rfl rfl (fun _ hS => ?_) ?_; rotate_left; focus (go_simp; try with_reducible rfl))); simp only [Act.put, zp1, zp2, zp3, zp4, zp5, zp6])
        refine wpOrd_act rfl rfl (fun K hK => ?_)
        go_simp
        refine hK _ _ ⟨?_, ?_⟩
        · exact SameL.out (by repeat (first | (with_reducible refine SameE.same ?_; (repeat (first | with_reducible exact SameE.refl _ _ | (with_reducible refine SameE.base ?_ ?_ _ _; (focus ((try simp only [World.size_alloc, size_ext, World.size_drew]); (try omega))); (focus ((try simp only [World.size_alloc, size_ext, World.size_drew]); omega))) | with_reducible apply SameE.alloc | with_reducible apply SameE.ext | with_reducible apply SameE.drewL | with_reducible apply SameE.drewR)); done) | with_reducible apply SameL.extL | with_reducible apply SameL.allocL | with_reducible apply SameL.drewL))
        clear hK K
        try simp only [Act.put, zp1, zp2, zp3, zp4, zp5, zp6]
        refine wpOrd_act rfl rfl (fun K hK => ?_)
        go_simp
        refine hK _ _ ⟨?_, ?_⟩
        · exact SameL.out (by repeat (first | (with_reducible refine SameE.same ?_; (repeat (first | with_reducible exact SameE.refl _ _ | (with_reducible refine SameE.base ?_ ?_ _ _; (focus ((try simp only [World.size_alloc, size_ext, World.size_drew]); (try omega))); (focus ((try simp only [World.size_alloc, size_ext, World.size_drew]); omega))) | with_reducible apply SameE.alloc | with_reducible apply SameE.ext | with_reducible apply SameE.drewL | with_reducible apply SameE.drewR)); done) | with_reducible apply SameL.extL | with_reducible apply SameL.allocL | with_reducible apply SameL.drewL))
        clear hK K
        try simp only [Act.put, zp1, zp2, zp3, zp4, zp5, zp6]
        repeat ((first | refine wpOrd_pass rfl rfl ?_ | (refine wpOrd_free (v := ?_) rfl rfl (fun _ hS => ?_) ?_; rotate_left; focus (go_simp; try with_reducible rfl))); simp only [Act.put, zp1, zp2, zp3, zp4, zp5, zp6])
        refine wpOrd_nil ?_
        go_wp2_with fail
        refine bodyPost_ret (v := .tuple #[drvV B0 m0 d0 D.f0.firm B1 m1 d1 D.f1.firm, memV Ag ng cg M.file M.gen, .int .i64 0]) (by simp [results, Tryz.results19, go_sem]) rfl ?_
        rw [H1.out, H2.out, H3.out]
        obtain ⟨q0, q1, q2, q3, q4, q5⟩ := hfa.out
        refine ⟨B0, m0, d0, B1, m1, d1, Ag, ng, cg, by rfl, ⟨q0.symm, q1.symm, q2, q3, q4, q5, ?_, ?_⟩, ⟨hng.out, ?_⟩, (by repeat (first | (with_reducible first | exact Ext.refl _ | exact Ext.same _ _ _ _ | assumption | apply Ext.alloc | apply Ext.ext | apply Ext.drew) | (with_reducible refine Ext.setCell ?_ _ _ ?_; rotate_left; focus (first | omega | (simp only [zs1, zs2, zs3, size_ext]; omega)))))⟩
        · exact RowB.moved2 Hy0.out (by repeat (first | (with_reducible first | exact Ext.refl _ | exact Ext.same _ _ _ _ | assumption | apply Ext.alloc | apply Ext.ext | apply Ext.drew) | (with_reducible refine Ext.setCell ?_ _ _ ?_; rotate_left; focus (first | omega | (simp only [zs1, zs2, zs3, size_ext]; omega))))) (by simp) (by simp) (by simp; omega)
        · exact RowB.moved2 Hy1.out (by repeat (first | (with_reducible first | exact Ext.refl _ | exact Ext.same _ _ _ _ | assumption | apply Ext.alloc | apply Ext.ext | apply Ext.drew) | (with_reducible refine Ext.setCell ?_ _ _ ?_; rotate_left; focus (first | omega | (simp only [zs1, zs2, zs3, size_ext]; omega))))) (by simp) (by simp) (by simp; omega)
        · exact OwnR.moved2 Hog.out (by repeat (first | (with_reducible first | exact Ext.refl _ | exact Ext.same _ _ _ _ | assumption | apply Ext.alloc | apply Ext.ext | apply Ext.drew) | (with_reducible refine Ext.setCell ?_ _ _ ?_; rotate_left; focus (first | omega | (simp only [zs1, zs2, zs3, size_ext]; omega))))) (by simp) (by simp) (by simp; omega)
      | false =>
        have hpl := putL_fresh hh hpe
        rw [hh, if_neg (by decide)] at h2
        rcases h01 with h01 | h01
        · have hnil2 : D.f1.bytes = [] := by rw [h01] at hnil; exact hnil
          rw [h01] at h2 h3
          have H1 := hid h1
          have H2 : Hid (appD D M r = ⟨⟨D.f0.bytes ++ frameB r, D.f0.firm⟩, D.f1⟩) := hid h2
          have H3 := hid h3
          rw [h01]
          clear h1 h2 h3 hok hck hnil hje
          go_enter Tryz.func19, Tryz.ntmps19
          go_wp2_with (go_at_call 73; refine (isMemory_any _ _ _ _ _ _ D _ _ _ ⟨M.recs, 0, M.gen⟩ hl0 hl1 hc0 hc1 hbig0 hbig1 hm hmb _ (by with_reducible repeat (first | assumption | apply Byt.ext | apply Byt.alloc | apply Byt.drew | (refine Byt.of_ext ?_ (by assumption)))) (by with_reducible repeat (first | assumption | apply Byt.ext | apply Byt.alloc | apply Byt.drew | (refine Byt.of_ext ?_ (by assumption)))) (by with_reducible repeat (first | assumption | apply Recs.ext | apply Recs.alloc | apply Recs.drew | (refine Recs.of_ext ?_ (by assumption))))).mono ?_; rintro e w1 ⟨rfl, E1, d1, rfl⟩; rw [show memOk D ⟨M.recs, 0, M.gen⟩ = true from by rw [← h01]; exact hmo])
          refine (calls_at (add_new0 A0 n0 c0 D.f0.firm A1 n1 c1 D.f1.firm Am nm cm M.gen D.f0.bytes D.f1.bytes M.recs r hl0 hl1 hs0 hs1 hm hnm hsrt hrk hpe hpl hnil2 _ (by with_reducible repeat (first | assumption | apply Recs.ext | apply Recs.alloc | apply Recs.drew | (refine Recs.of_ext ?_ (by assumption)))) (by with_reducible repeat (first | assumption | apply Byt.ext | apply Byt.alloc | apply Byt.drew | (refine Byt.of_ext ?_ (by assumption)))) (by with_reducible repeat (first | assumption | apply Byt.ext | apply Byt.alloc | apply Byt.drew | (refine Byt.of_ext ?_ (by assumption))))) (by simp)).mono ?_
          rintro e w1 ⟨B0, m0, d0, B1, m1, d1, Ag, ng, cg, rfl, ⟨E9, d9, rfl⟩, hfa, hy0, hy1, hng, hog⟩
          have Hy0 := hid hy0
          have Hy1 := hid hy1
          have Hog := hid hog
          clear hy0 hy1 hog
          have hle : w.heap.size + 1 + 1 + 1 + 1 + 1 ≤ w.heap.size + 1 + 1 + 1 + 1 + 1 + E1.size := by omega
          have hlt : w.heap.size + 1 + 1 + 1 + 1 + 1 + E1.size < w.heap.size + 1 + 1 + 1 + 1 + 1 + E1.size + 1 + E9.size := by omega
          go_wp2_with fail
          refine wp_region_ord_from (w.heap.size + 1 + 1 + 1 + 1 + 1) (.f 0 (.f 1 (.f 2 (.f 3 (.a 4 (.a 5 (.f 6 .d))))))) (by kernel_rfl) (by kernel_rfl) ?_
          repeat ((first | refine wpOrd_pass rfl rfl ?_ | (refine wpOrd_free (v := ?_) rfl rfl (fun _ hS => ?_) ?_; rotate_left; focus (go_simp; try with_reducible rfl))); simp only [Act.put, zp1, zp2, zp3, zp4, zp5, zp6])
          refine wpOrd_act rfl rfl (fun K hK => ?_)
          go_simp
          refine hK _ _ ⟨?_, ?_⟩
          · exact SameL.out (by repeat (first | (with_reducible refine SameE.same ?_; (repeat (first | with_reducible exact SameE.refl _ _ | (with_reducible refine SameE.base ?_ ?_ _ _; (focus ((try simp only [World.size_alloc, size_ext, World.size_drew]); (try omega))); (focus ((try simp only [World.size_alloc, size_ext, World.size_drew]); omega))) | with_reducible apply SameE.alloc | with_reducible apply SameE.ext | with_reducible apply SameE.drewL | with_reducible apply SameE.drewR)); done) | with_reducible apply SameL.extL | with_reducible apply SameL.allocL | with_reducible apply SameL.drewL))
          clear hK K
          try simp only [Act.put, zp1, zp2, zp3, zp4, zp5, zp6]
          refine wpOrd_act rfl rfl (fun K hK => ?_)
          go_simp
          refine hK _ _ ⟨?_, ?_⟩
          · exact SameL.out (by repeat (first | (with_reducible refine SameE.same ?_; (repeat (first | with_reducible exact SameE.refl _ _ | (with_reducible refine SameE.base ?_ ?_ _ _; (focus ((try simp only [World.size_alloc, size_ext, World.size_drew]); (try omega))); (focus ((try simp only [World.size_alloc, size_ext, World.size_drew]); omega))) | with_reducible apply SameE.alloc | with_reducible apply SameE.ext | with_reducible apply SameE.drewL | with_reducible apply SameE.drewR)); done) | with_reducible apply SameL.extL | with_reducible apply SameL.allocL | with_reducible apply SameL.drewL))
          clear hK K
          try simp only [Act.put, zp1, zp2, zp3, zp4, zp5, zp6]
          repeat ((first | refine wpOrd_pass rfl rfl ?_ | (refine wpOrd_free (v := ?_) rfl rfl (fun _ hS => ?_) ?_; rotate_left; focus (go_simp; try with_reducible rfl))); simp only [Act.put, zp1, zp2, zp3, zp4, zp5, zp6])
          refine wpOrd_nil ?_
          go_wp2_with fail
          refine bodyPost_ret (v := .tuple #[drvV B0 m0 d0 D.f0.firm B1 m1 d1 D.f1.firm, memV Ag ng cg 0 M.gen, .int .i64 0]) (by simp [results, Tryz.results19, go_sem]) rfl ?_
          rw [H1.out, H2.out, H3.out]
          obtain ⟨q0, q1, q2, q3, q4, q5⟩ := hfa.out
          refine ⟨B0, m0, d0, B1, m1, d1, Ag, ng, cg, by rfl, ⟨q0.symm, q1.symm, q2, q3, q4, q5, ?_, ?_⟩, ⟨hng.out, ?_⟩, (by repeat (first | (with_reducible first | exact Ext.refl _ | exact Ext.same _ _ _ _ | assumption | apply Ext.alloc | apply Ext.ext | apply Ext.drew) | (with_reducible refine Ext.setCell ?_ _ _ ?_; rotate_left; focus (first | omega | (simp only [zs1, zs2, zs3, size_ext]; omega)))))⟩
          · exact RowB.moved2 Hy0.out (by repeat (first | (with_reducible first | exact Ext.refl _ | exact Ext.same _ _ _ _ | assumption | apply Ext.alloc | apply Ext.ext | apply Ext.drew) | (with_reducible refine Ext.setCell ?_ _ _ ?_; rotate_left; focus (first | omega | (simp only [zs1, zs2, zs3, size_ext]; omega))))) (by simp) (by simp) (by simp; omega)
          · exact RowB.moved2 Hy1.out (by repeat (first | (with_reducible first | exact Ext.refl _ | exact Ext.same _ _ _ _ | assumption | apply Ext.alloc | apply Ext.ext | apply Ext.drew) | (with_reducible refine Ext.setCell ?_ _ _ ?_; rotate_left; focus (first | omega | (simp only [zs1, zs2, zs3, size_ext]; omega))))) (by simp) (by simp) (by simp; omega)
          · exact OwnR.moved2 Hog.out (by repeat (first | (with_reducible first | exact Ext.refl _ | exact Ext.same _ _ _ _ | assumption | apply Ext.alloc | apply Ext.ext | apply Ext.drew) | (with_reducible refine Ext.setCell ?_ _ _ ?_; rotate_left; focus (first | omega | (simp only [zs1, zs2, zs3, size_ext]; omega))))) (by simp) (by simp) (by simp; omega)
        · have hnil2 : D.f0.bytes = [] := by rw [h01] at hnil; exact hnil
          rw [h01] at h2 h3
          have H1 := hid h1
          have H2 : Hid (appD D M r = ⟨D.f0, ⟨D.f1.bytes ++ frameB r, D.f1.firm⟩⟩) := hid h2
          have H3 := hid h3
          rw [h01]
          clear h1 h2 h3 hok hck hnil hje
          go_enter Tryz.func19, Tryz.ntmps19
          go_wp2_with (go_at_call 73; refine (isMemory_any _ _ _ _ _ _ D _ _ _ ⟨M.recs, 1, M.gen⟩ hl0 hl1 hc0 hc1 hbig0 hbig1 hm hmb _ (by with_reducible repeat (first | assumption | apply Byt.ext | apply Byt.alloc | apply Byt.drew | (refine Byt.of_ext ?_ (by assumption)))) (by with_reducible repeat (first | assumption | apply Byt.ext | apply Byt.alloc | apply Byt.drew | (refine Byt.of_ext ?_ (by assumption)))) (by with_reducible repeat (first | assumption | apply Recs.ext | apply Recs.alloc | apply Recs.drew | (refine Recs.of_ext ?_ (by assumption))))).mono ?_; rintro e w1 ⟨rfl, E1, d1, rfl⟩; rw [show memOk D ⟨M.recs, 1, M.gen⟩ = true from by rw [← h01]; exact hmo])
          refine (calls_at (add_new1 A0 n0 c0 D.f0.firm A1 n1 c1 D.f1.firm Am nm cm M.gen D.f0.bytes D.f1.bytes M.recs r hl0 hl1 hs0 hs1 hm hnm hsrt hrk hpe hpl hnil2 _ (by with_reducible repeat (first | assumption | apply Recs.ext | apply Recs.alloc | apply Recs.drew | (refine Recs.of_ext ?_ (by assumption)))) (by with_reducible repeat (first | assumption | apply Byt.ext | apply Byt.alloc | apply Byt.drew | (refine Byt.of_ext ?_ (by assumption)))) (by with_reducible repeat (first | assumption | apply Byt.ext | apply Byt.alloc | apply Byt.drew | (refine Byt.of_ext ?_ (by assumption))))) (by simp)).mono ?_
          rintro e w1 ⟨B0, m0, d0, B1, m1, d1, Ag, ng, cg, rfl, ⟨E9, d9, rfl⟩, hfa, hy0, hy1, hng, hog⟩
          have Hy0 := hid hy0
          have Hy1 := hid hy1
          have Hog := hid hog
          clear hy0 hy1 hog
          have hle : w.heap.size + 1 + 1 + 1 + 1 + 1 ≤ w.heap.size + 1 + 1 + 1 + 1 + 1 + E1.size := by omega
          have hlt : w.heap.size + 1 + 1 + 1 + 1 + 1 + E1.size < w.heap.size + 1 + 1 + 1 + 1 + 1 + E1.size + 1 + E9.size := by omega
          go_wp2_with fail
          refine wp_region_ord_from (w.heap.size + 1 + 1 + 1 + 1 + 1) (.f 0 (.f 1 (.f 2 (.f 3 (.a 4 (.a 5 (.f 6 .d))))))) (by kernel_rfl) (by kernel_rfl) ?_
          repeat ((first | refine wpOrd_pass rfl rfl ?_ | (refine wpOrd_free (v := ?_) rfl rfl (fun _ hS => ?_) ?_; rotate_left; focus (go_simp; try with_reducible rfl))); simp only [Act.put, zp1, zp2, zp3, zp4, zp5, zp6])
          refine wpOrd_act rfl rfl (fun K hK => ?_)
          go_simp
          refine hK _ _ ⟨?_, ?_⟩
          · exact SameL.out (by repeat (first | (with_reducible refine SameE.same ?_; (repeat (first | with_reducible exact SameE.refl _ _ | (with_reducible refine SameE.base ?_ ?_ _ _; (focus ((try simp only [World.size_alloc, size_ext, World.size_drew]); (try omega))); (focus ((try simp only [World.size_alloc, size_ext, World.size_drew]); omega))) | with_reducible apply SameE.alloc | with_reducible apply SameE.ext | with_reducible apply SameE.drewL | with_reducible apply SameE.drewR)); done) | with_reducible apply SameL.extL | with_reducible apply SameL.allocL | with_reducible apply SameL.drewL))
          clear hK K
          try simp only [Act.put, zp1, zp2, zp3, zp4, zp5, zp6]
          refine wpOrd_act rfl rfl (fun K hK => ?_)
          go_simp
          refine hK _ _ ⟨?_, ?_⟩
          · exact SameL.out (by repeat (first | (with_reducible refine SameE.same ?_; (repeat (first | with_reducible exact SameE.refl _ _ | (with_reducible refine SameE.base ?_ ?_ _ _; (focus ((try simp only [World.size_alloc, size_ext, World.size_drew]); (try omega))); (focus ((try simp only [World.size_alloc, size_ext, World.size_drew]); omega))) | with_reducible apply SameE.alloc | with_reducible apply SameE.ext | with_reducible apply SameE.drewL | with_reducible apply SameE.drewR)); done) | with_reducible apply SameL.extL | with_reducible apply SameL.allocL | with_reducible apply SameL.drewL))
          clear hK K
          try simp only [Act.put, zp1, zp2, zp3, zp4, zp5, zp6]
          repeat ((first | refine wpOrd_pass rfl rfl ?_ | (refine wpOrd_free (v := ?_) rfl rfl (fun _ hS => ?_) ?_; rotate_left; focus (go_simp; try with_reducible rfl))); simp only [Act.put, zp1, zp2, zp3, zp4, zp5, zp6])
          refine wpOrd_nil ?_
          go_wp2_with fail
          refine bodyPost_ret (v := .tuple #[drvV B0 m0 d0 D.f0.firm B1 m1 d1 D.f1.firm, memV Ag ng cg 1 M.gen, .int .i64 0]) (by simp [results, Tryz.results19, go_sem]) rfl ?_
          rw [H1.out, H2.out, H3.out]
          obtain ⟨q0, q1, q2, q3, q4, q5⟩ := hfa.out
          refine ⟨B0, m0, d0, B1, m1, d1, Ag, ng, cg, by rfl, ⟨q0.symm, q1.symm, q2, q3, q4, q5, ?_, ?_⟩, ⟨hng.out, ?_⟩, (by repeat (first | (with_reducible first | exact Ext.refl _ | exact Ext.same _ _ _ _ | assumption | apply Ext.alloc | apply Ext.ext | apply Ext.drew) | (with_reducible refine Ext.setCell ?_ _ _ ?_; rotate_left; focus (first | omega | (simp only [zs1, zs2, zs3, size_ext]; omega)))))⟩
          · exact RowB.moved2 Hy0.out (by repeat (first | (with_reducible first | exact Ext.refl _ | exact Ext.same _ _ _ _ | assumption | apply Ext.alloc | apply Ext.ext | apply Ext.drew) | (with_reducible refine Ext.setCell ?_ _ _ ?_; rotate_left; focus (first | omega | (simp only [zs1, zs2, zs3, size_ext]; omega))))) (by simp) (by simp) (by simp; omega)
          · exact RowB.moved2 Hy1.out (by repeat (first | (with_reducible first | exact Ext.refl _ | exact Ext.same _ _ _ _ | assumption | apply Ext.alloc | apply Ext.ext | apply Ext.drew) | (with_reducible refine Ext.setCell ?_ _ _ ?_; rotate_left; focus (first | omega | (simp only [zs1, zs2, zs3, size_ext]; omega))))) (by simp) (by simp) (by simp; omega)
          · exact OwnR.moved2 Hog.out (by repeat (first | (with_reducible first | exact Ext.refl _ | exact Ext.same _ _ _ _ | assumption | apply Ext.alloc | apply Ext.ext | apply Ext.drew) | (with_reducible refine Ext.setCell ?_ _ _ ?_; rotate_left; focus (first | omega | (simp only [zs1, zs2, zs3, size_ext]; omega))))) (by simp) (by simp) (by simp; omega)
    · obtain ⟨h1, h2, h3⟩ := appE_err hmo hje
      rw [h1, h2, h3]
      clear h1 h2 h3 hok hck hnil h01
      obtain ⟨j, hj⟩ : ∃ j, jaddE M.recs r = j := ⟨_, rfl⟩
      have Hj := hid hj
      have hj2 : (j != 0) = true := by rw [← hj]; simpa using hje
      clear hj
      go_enter Tryz.func19, Tryz.ntmps19
      go_wp2_with (go_at_call 73; refine (isMemory_any _ _ _ _ _ _ _ _ _ _ _ (by first | rfl | assumption) (by first | rfl | assumption) (by omega) (by omega) (by omega) (by omega) (by first | rfl | assumption) (by omega) _ (by with_reducible repeat (first | assumption | apply Byt.ext | apply Byt.alloc | apply Byt.drew | (refine Byt.of_ext ?_ (by assumption)))) (by with_reducible repeat (first | assumption | apply Byt.ext | apply Byt.alloc | apply Byt.drew | (refine Byt.of_ext ?_ (by assumption)))) (by with_reducible repeat (first | assumption | apply Recs.ext | apply Recs.alloc | apply Recs.drew | (refine Recs.of_ext ?_ (by assumption))))).mono ?_; rintro e w1 ⟨rfl, E1, d1, rfl⟩)
      refine (calls_at (add_bad _ _ _ _ _ _ _ _ _ _ _ _ _ M.recs r hm hnm hsrt htx hje _ (by with_reducible repeat (first | assumption | apply Recs.ext | apply Recs.alloc | apply Recs.drew | (refine Recs.of_ext ?_ (by assumption))))) (by simp)).mono ?_
      rintro e w1 ⟨rfl, E9, d9, rfl⟩
      rw [Hj.out]
      go_wp2_with fail
      refine bodyPost_ret (v := .tuple #[drvV none 0 0 0 none 0 0 0, memV none 0 0 0 0, .int .i64 j]) (by simp [results, Tryz.results19, go_sem]) rfl ?_
      exact ⟨none, 0, 0, none, 0, 0, none, 0, 0, by rw [Hj.out]; rfl, DrvZ.zero _ _, MemX.zero _ _, (by repeat (first | (with_reducible first | exact Ext.refl _ | exact Ext.same _ _ _ _ | assumption | apply Ext.alloc | apply Ext.ext | apply Ext.drew) | (with_reducible refine Ext.setCell ?_ _ _ ?_; rotate_left; focus (first | omega | (simp only [zs1, zs2, zs3, size_ext]; omega)))))⟩
end Go.Proofs.YtekjdeibnfaehaaGreat
