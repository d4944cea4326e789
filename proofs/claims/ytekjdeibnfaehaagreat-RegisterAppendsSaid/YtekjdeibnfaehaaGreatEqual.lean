/- slices.Equal of records. -/
import Derived.Test.YtekjdeibnfaehaaGreatRegr
set_option linter.unusedSimpArgs false
set_option linter.unusedVariables false
namespace Go.Proofs.YtekjdeibnfaehaaGreat
open Go Go.RowKit

theorem recsEqB_len {a b : List Rec} (h : a.length ≠ b.length) : recsEqB a b = false := by simp [recsEqB, h]
theorem recsEqB_ne {a b : List Rec} {k : Nat} (h1 : k < a.length) (h2 : k < b.length) (h : recEqB a[k] b[k] = false) : recsEqB a b = false := by
  rw [← Bool.not_eq_true, recsEqB_iff]
  rintro rfl
  rw [recEqB_iff.2 rfl] at h
  cases h
theorem take_snoc_eq {a b : List Rec} {k : Nat} (h1 : k < a.length) (h2 : k < b.length) (h : a.take k = b.take k) (h3 : recEqB a[k] b[k] = true) : a.take (k + 1) = b.take (k + 1) := by
  rw [List.take_succ_eq_append_getElem h1, List.take_succ_eq_append_getElem h2, h, recEqB_iff.1 h3]
set_option maxRecDepth 100000 in
set_option maxHeartbeats 4000000 in
theorem Equal_any (A B : Option Addr) (n c m d : Nat) (l l' : List Rec) (hn : l.length = n) (hm : l'.length = m) (hbig : n ≤ 9223372036854775807) (w : World) (hr : Recs w A l) (hs : Recs w B l') :
    Calls Tryz.prog 129 #[.slice A n c, .slice B m d] w fun e w' => e = .returned (.bool (recsEqB l l')) ∧ Ext w w' := by
  by_cases hnm : n = m
  · subst hnm
    go_enter Tryz.func129, Tryz.ntmps129
    go_wp2_with fail
    go_loopw [13] (fun i wr => ∃ k : Nat, k ≤ n ∧ i = .int .i64 k ∧ Ext w wr ∧ Hid (l.take k = l'.take k)) (fun i _ => n - (intOf i).toNat)
    case atStart => exact ⟨0, Nat.zero_le _, rfl, (by repeat (first | (with_reducible first | exact Ext.refl _ | exact Ext.same _ _ _ _ | assumption | apply Ext.alloc | apply Ext.ext | apply Ext.drew) | (with_reducible refine Ext.setCell ?_ _ _ ?_; rotate_left; focus (first | omega | (simp only [zs1, zs2, zs3, size_ext]; omega))))), hid rfl⟩
    case round =>
      obtain ⟨k, hk, rfl, ⟨E, dd, rfl⟩, htk⟩ := hrel
      by_cases hlt : k < n
      · have h1 : k < l.length := by omega
        have h2 : k < l'.length := by omega
        obtain ⟨g, o, rfl, hg⟩ := hr.addr (by omega)
        obtain ⟨g', o', rfl, hg'⟩ := hs.addr (by omega)
        have hrow := hr.row h1
        have hrow' := hs.row h2
        cases hq : recEqB l[k] l'[k] with
        | false =>
          have HF := hid (recsEqB_ne h1 h2 hq)
          obtain ⟨r, hrk⟩ : ∃ r, l[k] = r := ⟨_, rfl⟩
          obtain ⟨s, hsk⟩ : ∃ s, l'[k] = s := ⟨_, rfl⟩
          rw [hrk] at hrow hq
          rw [hsk] at hrow' hq
          obtain ⟨h0, h1, h2, h3, h4, h5, h6, h7, h8, h9, h10⟩ := hrow
          obtain ⟨g0, g1, g2, g3, g4, g5, g6, g7, g8, g9, g10⟩ := hrow'
          clear hrk hsk
          go_wp2_with fail
          refine wp_region_ord_same (.f 0 (.f 1 (.f 2 (.f 3 (.f 4 (.f 5 (.f 6 (.f 7 (.f 8 .d))))))))) (by kernel_rfl) (by kernel_rfl) ?_
          repeat ((first | refine wpOrd_pass rfl rfl ?_ | (refine wpOrd_free (v := ?_) rfl rfl (fun _ hS => ?_) ?_; rotate_left; focus (go_simp; try with_reducible rfl))); simp only [Act.put, zp1, zp2, zp3, zp4, zp5, zp6])
          refine wpOrd_nil ?_
          go_wp2_with fail
          go_ret
          exact ⟨ret_val (by rw [HF.out]; rfl), (by repeat (first | (with_reducible first | exact Ext.refl _ | exact Ext.same _ _ _ _ | assumption | apply Ext.alloc | apply Ext.ext | apply Ext.drew) | (with_reducible refine Ext.setCell ?_ _ _ ?_; rotate_left; focus (first | omega | (simp only [zs1, zs2, zs3, size_ext]; omega)))))⟩
        | true =>
          have HT := hid (take_snoc_eq h1 h2 htk.out hq)
          obtain ⟨r, hrk⟩ : ∃ r, l[k] = r := ⟨_, rfl⟩
          obtain ⟨s, hsk⟩ : ∃ s, l'[k] = s := ⟨_, rfl⟩
          rw [hrk] at hrow hq
          rw [hsk] at hrow' hq
          obtain ⟨h0, h1, h2, h3, h4, h5, h6, h7, h8, h9, h10⟩ := hrow
          obtain ⟨g0, g1, g2, g3, g4, g5, g6, g7, g8, g9, g10⟩ := hrow'
          clear hrk hsk
          go_wp2_with fail
          refine wp_region_ord_same (.f 0 (.f 1 (.f 2 (.f 3 (.f 4 (.f 5 (.f 6 (.f 7 (.f 8 .d))))))))) (by kernel_rfl) (by kernel_rfl) ?_
          repeat ((first | refine wpOrd_pass rfl rfl ?_ | (refine wpOrd_free (v := ?_) rfl rfl (fun _ hS => ?_) ?_; rotate_left; focus (go_simp; try with_reducible rfl))); simp only [Act.put, zp1, zp2, zp3, zp4, zp5, zp6])
          refine wpOrd_nil ?_
          go_wp2_with fail
          exact ⟨⟨k + 1, by omega, by go_num, (by repeat (first | (with_reducible first | exact Ext.refl _ | exact Ext.same _ _ _ _ | assumption | apply Ext.alloc | apply Ext.ext | apply Ext.drew) | (with_reducible refine Ext.setCell ?_ _ _ ?_; rotate_left; focus (first | omega | (simp only [zs1, zs2, zs3, size_ext]; omega))))), HT⟩, by simp [intOf]; omega⟩
      · obtain rfl : k = n := by omega
        have hT : Hid (recsEqB l l' = true) := hid (recsEqB_iff.2 (by
          have h := htk.out
          rwa [List.take_of_length_le (by omega), List.take_of_length_le (by omega)] at h))
        clear hr hs
        go_wp2_with fail
        go_ret
        exact ⟨ret_val (by rw [hT.out]; rfl), (by repeat (first | (with_reducible first | exact Ext.refl _ | exact Ext.same _ _ _ _ | assumption | apply Ext.alloc | apply Ext.ext | apply Ext.drew) | (with_reducible refine Ext.setCell ?_ _ _ ?_; rotate_left; focus (first | omega | (simp only [zs1, zs2, zs3, size_ext]; omega)))))⟩
  · have hne := recsEqB_len (a := l) (b := l') (by omega)
    have HN := hid hne
    clear hne
    go_enter Tryz.func129, Tryz.ntmps129
    go_wp2_with fail
    go_ret
    exact ⟨ret_val (by rw [HN.out]; rfl), (by repeat (first | (with_reducible first | exact Ext.refl _ | exact Ext.same _ _ _ _ | assumption | apply Ext.alloc | apply Ext.ext | apply Ext.drew) | (with_reducible refine Ext.setCell ?_ _ _ ?_; rotate_left; focus (first | omega | (simp only [zs1, zs2, zs3, size_ext]; omega)))))⟩
end Go.Proofs.YtekjdeibnfaehaaGreat
/- isMemory. -/
namespace Go.Proofs.YtekjdeibnfaehaaGreat
open Go Go.RowKit

theorem pgG_bound (b : List UInt8) : 0 ≤ pgG b ∧ pgG b ≤ 4294967296 := by
  have := genB_bound b
  unfold pgG
  split <;> omega
theorem pgC_bound (b : List UInt8) : 0 ≤ pgC b ∧ pgC b ≤ 65536 := by
  have := cntB_bound b
  unfold pgC
  split <;> omega
theorem recsB_ok (b : List UInt8) : ∀ r ∈ recsB b, recOk r = true := framesL_ok _
theorem recsB_le (b : List UInt8) : (recsB b).length ≤ b.length := by
  have := framesL_le (b.drop 10)
  rw [List.length_drop] at this
  unfold recsB
  omega
theorem pgR_all (b : List UInt8) : ∀ r ∈ pgR b, recOk r = true := by
  unfold pgR
  split
  · exact recsB_ok b
  · intro r hr; cases hr
theorem pgR_le (b : List UInt8) : (pgR b).length ≤ b.length := by
  unfold pgR
  split
  · exact recsB_le b
  · exact Nat.zero_le _
theorem txtBig_ok {l : List Rec} (h : ∀ r ∈ l, recOk r = true) : TxtBig l := fun r hr => by
  have := recOk_text (h r hr)
  omega
theorem OwnR.of_slice {base n c : Nat} {w : World} {A : Option Addr} {l : List Rec} (h : OwnR base w (.slice A n c) l) : Recs w A l := by
  obtain ⟨A2, c2, hv, -, hb⟩ := h.slice
  cases hv
  exact hb
theorem memOk_file {D : DriveD} {M : MemD} {f g : FileD} (hd : driveOk D = true) (hi : inB M.file 0 1 = true) (hf : fileAt D M.file = f) (hg : fileAt D (1 - M.file) = g) :
    memOk D M = (decide (g.bytes = []) && (pageOk f.bytes && (decide (genB f.bytes = M.gen) && (decide (longB f.bytes = f.bytes.length) && (regOk (recsB f.bytes) && recsEqB (ordL (recsB f.bytes)) M.recs))))) := by
  rw [memOk, hd, hi, hf, hg]; rfl
theorem page_facts {b : List UInt8} (h : pageOk b = true) : (writtenB (pgG b) (pgC b) (pgR b)).length = longB b := by
  rw [pgR_ok h, writtenB_length]; rfl
set_option maxRecDepth 100000 in
set_option maxHeartbeats 8000000 in
theorem isMemory_any (A0 : Option Addr) (n0 c0 : Nat) (A1 : Option Addr) (n1 c1 : Nat) (D : DriveD) (Am : Option Addr) (nm cm : Nat) (M : MemD) (hl0 : D.f0.bytes.length = n0) (hl1 : D.f1.bytes.length = n1) (hc0 : n0 ≤ c0) (hc1 : n1 ≤ c1) (hbig0 : c0 ≤ 9223372036854775807) (hbig1 : c1 ≤ 9223372036854775807)
    (hm : M.recs.length = nm) (hmb : nm ≤ 9223372036854775807) (w : World) (hb0 : Byt w A0 D.f0.bytes) (hb1 : Byt w A1 D.f1.bytes) (hr : Recs w Am M.recs) :
    Calls Tryz.prog 73 #[drvV A0 n0 c0 D.f0.firm A1 n1 c1 D.f1.firm, memV Am nm cm M.file M.gen] w fun e w' => e = .returned (.bool (memOk D M)) ∧ Ext w w' := by
  have hdo := driveOk_eq D n0 n1 hl0 hl1
  cases hk : dOk n0 D.f0.firm n1 D.f1.firm with
  | false =>
    have HM : Hid (memOk D M = false) := hid (by rw [memOk, hdo, hk]; rfl)
    clear hdo
    go_enter Tryz.func73, Tryz.ntmps73
    go_wp2_with (go_at_call 56; refine (isDrive_any _ _ _ _ _ _ _ _ _).mono ?_; rintro e w1 ⟨rfl, E1, d1, rfl⟩)
    go_ret
    exact ⟨ret_val (by rw [HM.out]; rfl), (by repeat (first | (with_reducible first | exact Ext.refl _ | exact Ext.same _ _ _ _ | assumption | apply Ext.alloc | apply Ext.ext | apply Ext.drew) | (with_reducible refine Ext.setCell ?_ _ _ ?_; rotate_left; focus (first | omega | (simp only [zs1, zs2, zs3, size_ext]; omega)))))⟩
  | true =>
    have hbnd : n0 ≤ 100000 ∧ n1 ≤ 100000 := by
      simp only [dOk, fOk, Bool.and_eq_true, decide_eq_true_eq] at hk
      exact ⟨hk.1.2, hk.2.2⟩
    obtain ⟨hs0, hs1⟩ := hbnd
    rw [hk] at hdo
    cases hf : inB M.file 0 1 with
    | false =>
      have HM : Hid (memOk D M = false) := hid (by rw [memOk, hdo, hf]; rfl)
      clear hdo
      go_enter Tryz.func73, Tryz.ntmps73
      go_wp2_with (first | (go_at_call 56; refine (isDrive_any _ _ _ _ _ _ _ _ _).mono ?_; rintro e w1 ⟨rfl, E1, d1, rfl⟩) | (go_at_call 117; refine (in_any _ _ _ _).mono ?_; rintro e w1 ⟨rfl, rfl⟩))
      go_ret
      exact ⟨ret_val (by rw [HM.out]; rfl), (by repeat (first | (with_reducible first | exact Ext.refl _ | exact Ext.same _ _ _ _ | assumption | apply Ext.alloc | apply Ext.ext | apply Ext.drew) | (with_reducible refine Ext.setCell ?_ _ _ ?_; rotate_left; focus (first | omega | (simp only [zs1, zs2, zs3, size_ext]; omega)))))⟩
    | true =>
      have h01 : M.file = 0 ∨ M.file = 1 := by
        simp only [inB_spec] at hf
        omega
      rcases h01 with h01 | h01
      · have HMF := hid (memOk_file (f := D.f0) (g := D.f1) hdo hf (by rw [h01]; rfl) (by rw [h01]; rfl))
        rw [h01] at hf
        rw [h01]
        clear hdo h01
        by_cases hz : n1 = 0
        · have hnil : D.f1.bytes = [] := List.eq_nil_of_length_eq_zero (by omega)
          have HMF2 : Hid (memOk D M = (pageOk D.f0.bytes && (decide (genB D.f0.bytes = M.gen) && (decide (longB D.f0.bytes = D.f0.bytes.length) && (regOk (recsB D.f0.bytes) && recsEqB (ordL (recsB D.f0.bytes)) M.recs))))) := hid (by rw [HMF.out, hnil]; rfl)
          subst hz
          clear HMF hnil
          cases hp : pageOk D.f0.bytes with
          | false =>
            have HM : Hid (memOk D M = false) := hid (by rw [HMF2.out, hp]; rfl)
            go_enter Tryz.func73, Tryz.ntmps73
            go_wp2_with (first | (go_at_call 56; refine (isDrive_any _ _ _ _ _ _ _ _ _).mono ?_; rintro e w1 ⟨rfl, E1, d1, rfl⟩) | (go_at_call 117; refine (in_any _ _ _ _).mono ?_; rintro e w1 ⟨rfl, rfl⟩) | (go_at_call 64; refine (pageOf_any _ _ _ _ (by first | rfl | assumption) (by omega) (by omega) (by omega) _ (by with_reducible repeat (first | assumption | apply Byt.ext | apply Byt.alloc | apply Byt.drew | (refine Byt.of_ext ?_ (by assumption))))).mono ?_; rintro e w1 ⟨Ap1, np1, cp1, rfl, hnp1, hop1, E1, d1, rfl⟩))
            go_ret
            exact ⟨ret_val (by rw [HM.out]; rfl), (by repeat (first | (with_reducible first | exact Ext.refl _ | exact Ext.same _ _ _ _ | assumption | apply Ext.alloc | apply Ext.ext | apply Ext.drew) | (with_reducible refine Ext.setCell ?_ _ _ ?_; rotate_left; focus (first | omega | (simp only [zs1, zs2, zs3, size_ext]; omega)))))⟩
          | true =>
            obtain ⟨G, hG⟩ : ∃ G, pgG D.f0.bytes = G := ⟨_, rfl⟩
            obtain ⟨C, hC⟩ : ∃ C, pgC D.f0.bytes = C := ⟨_, rfl⟩
            have hgb := pgG_bound D.f0.bytes
            have hcb := pgC_bound D.f0.bytes
            rw [hG] at hgb
            rw [hC] at hcb
            obtain ⟨gb0, gb1⟩ := hgb
            obtain ⟨cb0, cb1⟩ := hcb
            have hall := pgR_all D.f0.bytes
            have hle := pgR_le D.f0.bytes
            have Hgen : Hid (genB D.f0.bytes = G) := hid (by rw [← hG, pgG_ok hp])
            have Hpg := hid hG
            have Hpc := hid hC
            have Hlong : Hid ((writtenB G C (pgR D.f0.bytes)).length = longB D.f0.bytes) := hid (by rw [← hG, ← hC]; exact page_facts hp)
            have HMF3 : Hid (memOk D M = (decide (genB D.f0.bytes = M.gen) && (decide (longB D.f0.bytes = D.f0.bytes.length) && (regOk (recsB D.f0.bytes) && recsEqB (ordL (recsB D.f0.bytes)) M.recs)))) := hid (by rw [HMF2.out, hp]; rfl)
            have Hrec : Hid (pgR D.f0.bytes = recsB D.f0.bytes) := hid (pgR_ok hp)
            have Hall := hid hall
            have Hle := hid hle
            clear HMF2 hG hC hall hle
            cases hgq : (G != M.gen) with
            | false =>
              have HMF4 : Hid (memOk D M = (decide (longB D.f0.bytes = D.f0.bytes.length) && (regOk (recsB D.f0.bytes) && recsEqB (ordL (recsB D.f0.bytes)) M.recs))) := hid (by rw [HMF3.out, Hgen.out, show decide (G = M.gen) = true from by simpa using hgq]; rfl)
              clear HMF3
              go_enter Tryz.func73, Tryz.ntmps73
              go_wp2_with (first | (go_at_call 64; refine (pageOf_any _ _ _ D.f0.bytes hl0 (by omega) (by omega) (by omega) _ (by with_reducible repeat (first | assumption | apply Byt.ext | apply Byt.alloc | apply Byt.drew | (refine Byt.of_ext ?_ (by assumption))))).mono ?_; rintro e w1 ⟨Ap1, np1, cp1, rfl, hnp1, hop1, E1, d1, rfl⟩; rw [Hpg.out, Hpc.out, hp]; have hrp1 := hop1.of_slice) | (go_at_call 56; refine (isDrive_any _ _ _ _ _ _ _ _ _).mono ?_; rintro e w1 ⟨rfl, E1, d1, rfl⟩) | (go_at_call 117; refine (in_any _ _ _ _).mono ?_; rintro e w1 ⟨rfl, rfl⟩))
              have hnpl : (pgR D.f0.bytes).length = np1 := hnp1.out.symm
              have hnpb : np1 ≤ 100000 := by have := Hle.out; omega
              refine (written_any _ _ _ _ _ (pgR D.f0.bytes) hnpl hnpb Hall.out (by omega) (by omega) (by omega) (by omega) _ (by with_reducible repeat (first | assumption | apply Recs.ext | apply Recs.alloc | apply Recs.drew | (refine Recs.of_ext ?_ (by assumption))))).mono ?_
              rintro e w1 ⟨Aw, nw, cw, rfl, hnw, how, E2, d2, rfl⟩
              have Hnpl := hid hnpl
              clear hnpl
              by_cases hlq : nw = n0
              · have HMF5 : Hid (memOk D M = (regOk (recsB D.f0.bytes) && recsEqB (ordL (recsB D.f0.bytes)) M.recs)) := hid (by
                  rw [HMF4.out, ← Hlong.out, ← hnw.out, hlq, hl0, decide_eq_true rfl]; rfl)
                have hlq1 : ((nw : Int) != (n0 : Int)) = false := by simp [hlq]
                clear HMF4
                cases hro : regOk (pgR D.f0.bytes) with
                | false =>
                  have HM : Hid (memOk D M = false) := hid (by rw [HMF5.out, ← Hrec.out, hro]; rfl)
                  go_wp2_with fail
                  refine (register_any _ _ _ _ _ (pgR D.f0.bytes) Hnpl.out hnpb (txtBig_ok Hall.out) _ (by with_reducible repeat (first | assumption | apply Recs.ext | apply Recs.alloc | apply Recs.drew | (refine Recs.of_ext ?_ (by assumption))))).mono ?_
                  rintro e w1 ⟨Ag, ng, cg, rfl, hng, ⟨lg, hlg, hog⟩, E3, d3, rfl⟩
                  rw [hro]
                  go_wp2_with fail
                  go_ret
                  exact ⟨ret_val (by rw [HM.out]; rfl), (by repeat (first | (with_reducible first | exact Ext.refl _ | exact Ext.same _ _ _ _ | assumption | apply Ext.alloc | apply Ext.ext | apply Ext.drew) | (with_reducible refine Ext.setCell ?_ _ _ ?_; rotate_left; focus (first | omega | (simp only [zs1, zs2, zs3, size_ext]; omega)))))⟩
                | true =>
                  go_wp2_with fail
                  refine (register_any _ _ _ _ _ (pgR D.f0.bytes) Hnpl.out hnpb (txtBig_ok Hall.out) _ (by with_reducible repeat (first | assumption | apply Recs.ext | apply Recs.alloc | apply Recs.drew | (refine Recs.of_ext ?_ (by assumption))))).mono ?_
                  rintro e w1 ⟨Ag, ng, cg, rfl, hng, ⟨lg, hlg, hog⟩, E3, d3, rfl⟩
                  rw [hro]
                  have hlg2 := hlg.out hro
                  subst hlg2
                  have HM : Hid (memOk D M = recsEqB (ordL (pgR D.f0.bytes)) M.recs) := hid (by rw [HMF5.out, ← Hrec.out, hro]; rfl)
                  have hrg := hog.of_slice
                  have Hlen : Hid ((ordL (pgR D.f0.bytes)).length = ng) := hid (by rw [(ordL_perm _).length_eq]; exact hng.out.symm)
                  have hngb : ng ≤ 100000 := by have := Hlen.out; have h2 := (ordL_perm (pgR D.f0.bytes)).length_eq; have h3 := Hnpl.out; omega
                  go_wp2_with fail
                  refine (Equal_any _ _ _ _ _ _ (ordL (pgR D.f0.bytes)) M.recs Hlen.out hm (by omega) _ (hrg.alloc _) (hr.of_ext (by repeat (first | (with_reducible first | exact Ext.refl _ | exact Ext.same _ _ _ _ | assumption | apply Ext.alloc | apply Ext.ext | apply Ext.drew) | (with_reducible refine Ext.setCell ?_ _ _ ?_; rotate_left; focus (first | omega | (simp only [zs1, zs2, zs3, size_ext]; omega))))))).mono ?_
                  rintro e w1 ⟨rfl, E4, d4, rfl⟩
                  rw [← HM.out]
                  obtain ⟨bb, hbb⟩ : ∃ bb, memOk D M = bb := ⟨_, rfl⟩
                  rw [hbb]
                  have Hbb := hid hbb
                  clear hbb
                  go_wp2_with fail
                  go_ret
                  exact ⟨ret_val (by rw [Hbb.out]; rfl), (by repeat (first | (with_reducible first | exact Ext.refl _ | exact Ext.same _ _ _ _ | assumption | apply Ext.alloc | apply Ext.ext | apply Ext.drew) | (with_reducible refine Ext.setCell ?_ _ _ ?_; rotate_left; focus (first | omega | (simp only [zs1, zs2, zs3, size_ext]; omega)))))⟩
              · have HM : Hid (memOk D M = false) := hid (by
                  rw [HMF4.out, ← Hlong.out, ← hnw.out, hl0, decide_eq_false hlq]; rfl)
                have hlq2 : ((nw : Int) != (n0 : Int)) = true := by simp; omega
                go_wp2_with fail
                go_ret
                exact ⟨ret_val (by rw [HM.out]; rfl), (by repeat (first | (with_reducible first | exact Ext.refl _ | exact Ext.same _ _ _ _ | assumption | apply Ext.alloc | apply Ext.ext | apply Ext.drew) | (with_reducible refine Ext.setCell ?_ _ _ ?_; rotate_left; focus (first | omega | (simp only [zs1, zs2, zs3, size_ext]; omega)))))⟩
            | true =>
              have HM : Hid (memOk D M = false) := hid (by rw [HMF3.out, Hgen.out, show decide (G = M.gen) = false from by simpa using hgq]; rfl)
              go_enter Tryz.func73, Tryz.ntmps73
              go_wp2_with (first | (go_at_call 64; refine (pageOf_any _ _ _ D.f0.bytes hl0 (by omega) (by omega) (by omega) _ (by with_reducible repeat (first | assumption | apply Byt.ext | apply Byt.alloc | apply Byt.drew | (refine Byt.of_ext ?_ (by assumption))))).mono ?_; rintro e w1 ⟨Ap1, np1, cp1, rfl, hnp1, hop1, E1, d1, rfl⟩; rw [Hpg.out, Hpc.out, hp]) | (go_at_call 56; refine (isDrive_any _ _ _ _ _ _ _ _ _).mono ?_; rintro e w1 ⟨rfl, E1, d1, rfl⟩) | (go_at_call 117; refine (in_any _ _ _ _).mono ?_; rintro e w1 ⟨rfl, rfl⟩))
              go_ret
              exact ⟨ret_val (by rw [HM.out]; rfl), (by repeat (first | (with_reducible first | exact Ext.refl _ | exact Ext.same _ _ _ _ | assumption | apply Ext.alloc | apply Ext.ext | apply Ext.drew) | (with_reducible refine Ext.setCell ?_ _ _ ?_; rotate_left; focus (first | omega | (simp only [zs1, zs2, zs3, size_ext]; omega)))))⟩
        · have HM : Hid (memOk D M = false) := hid (by
            rw [HMF.out, show decide (D.f1.bytes = []) = false from decide_eq_false (fun h => hz (by rw [← hl1, h]; rfl))]; rfl)
          have hz2 : 0 < n1 := by omega
          go_enter Tryz.func73, Tryz.ntmps73
          go_wp2_with (first | (go_at_call 56; refine (isDrive_any _ _ _ _ _ _ _ _ _).mono ?_; rintro e w1 ⟨rfl, E1, d1, rfl⟩) | (go_at_call 117; refine (in_any _ _ _ _).mono ?_; rintro e w1 ⟨rfl, rfl⟩))
          go_ret
          exact ⟨ret_val (by rw [HM.out]; rfl), (by repeat (first | (with_reducible first | exact Ext.refl _ | exact Ext.same _ _ _ _ | assumption | apply Ext.alloc | apply Ext.ext | apply Ext.drew) | (with_reducible refine Ext.setCell ?_ _ _ ?_; rotate_left; focus (first | omega | (simp only [zs1, zs2, zs3, size_ext]; omega)))))⟩
      · have HMF := hid (memOk_file (f := D.f1) (g := D.f0) hdo hf (by rw [h01]; rfl) (by rw [h01]; rfl))
        rw [h01] at hf
        rw [h01]
        clear hdo h01
        by_cases hz : n0 = 0
        · have hnil : D.f0.bytes = [] := List.eq_nil_of_length_eq_zero (by omega)
          have HMF2 : Hid (memOk D M = (pageOk D.f1.bytes && (decide (genB D.f1.bytes = M.gen) && (decide (longB D.f1.bytes = D.f1.bytes.length) && (regOk (recsB D.f1.bytes) && recsEqB (ordL (recsB D.f1.bytes)) M.recs))))) := hid (by rw [HMF.out, hnil]; rfl)
          subst hz
          clear HMF hnil
          cases hp : pageOk D.f1.bytes with
          | false =>
            have HM : Hid (memOk D M = false) := hid (by rw [HMF2.out, hp]; rfl)
            go_enter Tryz.func73, Tryz.ntmps73
            go_wp2_with (first | (go_at_call 56; refine (isDrive_any _ _ _ _ _ _ _ _ _).mono ?_; rintro e w1 ⟨rfl, E1, d1, rfl⟩) | (go_at_call 117; refine (in_any _ _ _ _).mono ?_; rintro e w1 ⟨rfl, rfl⟩) | (go_at_call 64; refine (pageOf_any _ _ _ _ (by first | rfl | assumption) (by omega) (by omega) (by omega) _ (by with_reducible repeat (first | assumption | apply Byt.ext | apply Byt.alloc | apply Byt.drew | (refine Byt.of_ext ?_ (by assumption))))).mono ?_; rintro e w1 ⟨Ap1, np1, cp1, rfl, hnp1, hop1, E1, d1, rfl⟩))
            go_ret
            exact ⟨ret_val (by rw [HM.out]; rfl), (by repeat (first | (with_reducible first | exact Ext.refl _ | exact Ext.same _ _ _ _ | assumption | apply Ext.alloc | apply Ext.ext | apply Ext.drew) | (with_reducible refine Ext.setCell ?_ _ _ ?_; rotate_left; focus (first | omega | (simp only [zs1, zs2, zs3, size_ext]; omega)))))⟩
          | true =>
            obtain ⟨G, hG⟩ : ∃ G, pgG D.f1.bytes = G := ⟨_, rfl⟩
            obtain ⟨C, hC⟩ : ∃ C, pgC D.f1.bytes = C := ⟨_, rfl⟩
            have hgb := pgG_bound D.f1.bytes
            have hcb := pgC_bound D.f1.bytes
            rw [hG] at hgb
            rw [hC] at hcb
            obtain ⟨gb0, gb1⟩ := hgb
            obtain ⟨cb0, cb1⟩ := hcb
            have hall := pgR_all D.f1.bytes
            have hle := pgR_le D.f1.bytes
            have Hgen : Hid (genB D.f1.bytes = G) := hid (by rw [← hG, pgG_ok hp])
            have Hpg := hid hG
            have Hpc := hid hC
            have Hlong : Hid ((writtenB G C (pgR D.f1.bytes)).length = longB D.f1.bytes) := hid (by rw [← hG, ← hC]; exact page_facts hp)
            have HMF3 : Hid (memOk D M = (decide (genB D.f1.bytes = M.gen) && (decide (longB D.f1.bytes = D.f1.bytes.length) && (regOk (recsB D.f1.bytes) && recsEqB (ordL (recsB D.f1.bytes)) M.recs)))) := hid (by rw [HMF2.out, hp]; rfl)
            have Hrec : Hid (pgR D.f1.bytes = recsB D.f1.bytes) := hid (pgR_ok hp)
            have Hall := hid hall
            have Hle := hid hle
            clear HMF2 hG hC hall hle
            cases hgq : (G != M.gen) with
            | false =>
              have HMF4 : Hid (memOk D M = (decide (longB D.f1.bytes = D.f1.bytes.length) && (regOk (recsB D.f1.bytes) && recsEqB (ordL (recsB D.f1.bytes)) M.recs))) := hid (by rw [HMF3.out, Hgen.out, show decide (G = M.gen) = true from by simpa using hgq]; rfl)
              clear HMF3
              go_enter Tryz.func73, Tryz.ntmps73
              go_wp2_with (first | (go_at_call 64; refine (pageOf_any _ _ _ D.f1.bytes hl1 (by omega) (by omega) (by omega) _ (by with_reducible repeat (first | assumption | apply Byt.ext | apply Byt.alloc | apply Byt.drew | (refine Byt.of_ext ?_ (by assumption))))).mono ?_; rintro e w1 ⟨Ap1, np1, cp1, rfl, hnp1, hop1, E1, d1, rfl⟩; rw [Hpg.out, Hpc.out, hp]; have hrp1 := hop1.of_slice) | (go_at_call 56; refine (isDrive_any _ _ _ _ _ _ _ _ _).mono ?_; rintro e w1 ⟨rfl, E1, d1, rfl⟩) | (go_at_call 117; refine (in_any _ _ _ _).mono ?_; rintro e w1 ⟨rfl, rfl⟩))
              have hnpl : (pgR D.f1.bytes).length = np1 := hnp1.out.symm
              have hnpb : np1 ≤ 100000 := by have := Hle.out; omega
              refine (written_any _ _ _ _ _ (pgR D.f1.bytes) hnpl hnpb Hall.out (by omega) (by omega) (by omega) (by omega) _ (by with_reducible repeat (first | assumption | apply Recs.ext | apply Recs.alloc | apply Recs.drew | (refine Recs.of_ext ?_ (by assumption))))).mono ?_
              rintro e w1 ⟨Aw, nw, cw, rfl, hnw, how, E2, d2, rfl⟩
              have Hnpl := hid hnpl
              clear hnpl
              by_cases hlq : nw = n1
              · have HMF5 : Hid (memOk D M = (regOk (recsB D.f1.bytes) && recsEqB (ordL (recsB D.f1.bytes)) M.recs)) := hid (by
                  rw [HMF4.out, ← Hlong.out, ← hnw.out, hlq, hl1, decide_eq_true rfl]; rfl)
                have hlq1 : ((nw : Int) != (n1 : Int)) = false := by simp [hlq]
                clear HMF4
                cases hro : regOk (pgR D.f1.bytes) with
                | false =>
                  have HM : Hid (memOk D M = false) := hid (by rw [HMF5.out, ← Hrec.out, hro]; rfl)
                  go_wp2_with fail
                  refine (register_any _ _ _ _ _ (pgR D.f1.bytes) Hnpl.out hnpb (txtBig_ok Hall.out) _ (by with_reducible repeat (first | assumption | apply Recs.ext | apply Recs.alloc | apply Recs.drew | (refine Recs.of_ext ?_ (by assumption))))).mono ?_
                  rintro e w1 ⟨Ag, ng, cg, rfl, hng, ⟨lg, hlg, hog⟩, E3, d3, rfl⟩
                  rw [hro]
                  go_wp2_with fail
                  go_ret
                  exact ⟨ret_val (by rw [HM.out]; rfl), (by repeat (first | (with_reducible first | exact Ext.refl _ | exact Ext.same _ _ _ _ | assumption | apply Ext.alloc | apply Ext.ext | apply Ext.drew) | (with_reducible refine Ext.setCell ?_ _ _ ?_; rotate_left; focus (first | omega | (simp only [zs1, zs2, zs3, size_ext]; omega)))))⟩
                | true =>
                  go_wp2_with fail
                  refine (register_any _ _ _ _ _ (pgR D.f1.bytes) Hnpl.out hnpb (txtBig_ok Hall.out) _ (by with_reducible repeat (first | assumption | apply Recs.ext | apply Recs.alloc | apply Recs.drew | (refine Recs.of_ext ?_ (by assumption))))).mono ?_
                  rintro e w1 ⟨Ag, ng, cg, rfl, hng, ⟨lg, hlg, hog⟩, E3, d3, rfl⟩
                  rw [hro]
                  have hlg2 := hlg.out hro
                  subst hlg2
                  have HM : Hid (memOk D M = recsEqB (ordL (pgR D.f1.bytes)) M.recs) := hid (by rw [HMF5.out, ← Hrec.out, hro]; rfl)
                  have hrg := hog.of_slice
                  have Hlen : Hid ((ordL (pgR D.f1.bytes)).length = ng) := hid (by rw [(ordL_perm _).length_eq]; exact hng.out.symm)
                  have hngb : ng ≤ 100000 := by have := Hlen.out; have h2 := (ordL_perm (pgR D.f1.bytes)).length_eq; have h3 := Hnpl.out; omega
                  go_wp2_with fail
                  refine (Equal_any _ _ _ _ _ _ (ordL (pgR D.f1.bytes)) M.recs Hlen.out hm (by omega) _ (hrg.alloc _) (hr.of_ext (by repeat (first | (with_reducible first | exact Ext.refl _ | exact Ext.same _ _ _ _ | assumption | apply Ext.alloc | apply Ext.ext | apply Ext.drew) | (with_reducible refine Ext.setCell ?_ _ _ ?_; rotate_left; focus (first | omega | (simp only [zs1, zs2, zs3, size_ext]; omega))))))).mono ?_
                  rintro e w1 ⟨rfl, E4, d4, rfl⟩
                  rw [← HM.out]
                  obtain ⟨bb, hbb⟩ : ∃ bb, memOk D M = bb := ⟨_, rfl⟩
                  rw [hbb]
                  have Hbb := hid hbb
                  clear hbb
                  go_wp2_with fail
                  go_ret
                  exact ⟨ret_val (by rw [Hbb.out]; rfl), (by repeat (first | (with_reducible first | exact Ext.refl _ | exact Ext.same _ _ _ _ | assumption | apply Ext.alloc | apply Ext.ext | apply Ext.drew) | (with_reducible refine Ext.setCell ?_ _ _ ?_; rotate_left; focus (first | omega | (simp only [zs1, zs2, zs3, size_ext]; omega)))))⟩
              · have HM : Hid (memOk D M = false) := hid (by
                  rw [HMF4.out, ← Hlong.out, ← hnw.out, hl1, decide_eq_false hlq]; rfl)
                have hlq2 : ((nw : Int) != (n1 : Int)) = true := by simp; omega
                go_wp2_with fail
                go_ret
                exact ⟨ret_val (by rw [HM.out]; rfl), (by repeat (first | (with_reducible first | exact Ext.refl _ | exact Ext.same _ _ _ _ | assumption | apply Ext.alloc | apply Ext.ext | apply Ext.drew) | (with_reducible refine Ext.setCell ?_ _ _ ?_; rotate_left; focus (first | omega | (simp only [zs1, zs2, zs3, size_ext]; omega)))))⟩
            | true =>
              have HM : Hid (memOk D M = false) := hid (by rw [HMF3.out, Hgen.out, show decide (G = M.gen) = false from by simpa using hgq]; rfl)
              go_enter Tryz.func73, Tryz.ntmps73
              go_wp2_with (first | (go_at_call 64; refine (pageOf_any _ _ _ D.f1.bytes hl1 (by omega) (by omega) (by omega) _ (by with_reducible repeat (first | assumption | apply Byt.ext | apply Byt.alloc | apply Byt.drew | (refine Byt.of_ext ?_ (by assumption))))).mono ?_; rintro e w1 ⟨Ap1, np1, cp1, rfl, hnp1, hop1, E1, d1, rfl⟩; rw [Hpg.out, Hpc.out, hp]) | (go_at_call 56; refine (isDrive_any _ _ _ _ _ _ _ _ _).mono ?_; rintro e w1 ⟨rfl, E1, d1, rfl⟩) | (go_at_call 117; refine (in_any _ _ _ _).mono ?_; rintro e w1 ⟨rfl, rfl⟩))
              go_ret
              exact ⟨ret_val (by rw [HM.out]; rfl), (by repeat (first | (with_reducible first | exact Ext.refl _ | exact Ext.same _ _ _ _ | assumption | apply Ext.alloc | apply Ext.ext | apply Ext.drew) | (with_reducible refine Ext.setCell ?_ _ _ ?_; rotate_left; focus (first | omega | (simp only [zs1, zs2, zs3, size_ext]; omega)))))⟩
        · have HM : Hid (memOk D M = false) := hid (by
            rw [HMF.out, show decide (D.f0.bytes = []) = false from decide_eq_false (fun h => hz (by rw [← hl0, h]; rfl))]; rfl)
          have hz2 : 0 < n0 := by omega
          go_enter Tryz.func73, Tryz.ntmps73
          go_wp2_with (first | (go_at_call 56; refine (isDrive_any _ _ _ _ _ _ _ _ _).mono ?_; rintro e w1 ⟨rfl, E1, d1, rfl⟩) | (go_at_call 117; refine (in_any _ _ _ _).mono ?_; rintro e w1 ⟨rfl, rfl⟩))
          go_ret
          exact ⟨ret_val (by rw [HM.out]; rfl), (by repeat (first | (with_reducible first | exact Ext.refl _ | exact Ext.same _ _ _ _ | assumption | apply Ext.alloc | apply Ext.ext | apply Ext.drew) | (with_reducible refine Ext.setCell ?_ _ _ ?_; rotate_left; focus (first | omega | (simp only [zs1, zs2, zs3, size_ext]; omega)))))⟩
end Go.Proofs.YtekjdeibnfaehaaGreat
/- Regions that draw their order and write boxes below all that they read. -/
namespace Go.Proofs.YtekjdeibnfaehaaGreat
open Go Go.RowKit

/-- Two worlds of one size with the same cells from lo on. -/
structure SameE (lo : Nat) (A B : World) : Prop where
  size : A.heap.size = B.heap.size
  cell : ∀ b o, lo ≤ b → A.cell? ⟨b, o, none⟩ = B.cell? ⟨b, o, none⟩
theorem cell_none_of_size {A : World} {b o : Nat} (h : A.heap.size ≤ b) : A.cell? ⟨b, o, none⟩ = none := by
  simp [World.cell?, Array.getElem?_eq_none h]
theorem SameE.refl (lo : Nat) (A : World) : SameE lo A A := ⟨rfl, fun _ _ _ => rfl⟩
theorem SameE.base {lo : Nat} {A B : World} (hs : A.heap.size = B.heap.size) (hl : A.heap.size + 1 ≤ lo) (o o' : Obj) : SameE lo (A.alloc o) (B.alloc o') :=
  ⟨by simp [hs], fun b j hb => by rw [cell_none_of_size (by simp; omega), cell_none_of_size (by simp; omega)]⟩
theorem SameE.alloc {lo : Nat} {A B : World} (h : SameE lo A B) (o : Obj) : SameE lo (A.alloc o) (B.alloc o) := by
  refine ⟨by simp [h.size], fun b j hb => ?_⟩
  rcases Nat.lt_trichotomy b A.heap.size with hlt | heq | hgt
  · rw [World.cell?_alloc_past _ _ _ hlt, World.cell?_alloc_past _ _ _ (by rw [← h.size]; exact hlt)]
    exact h.cell b j hb
  · subst heq
    have h1 : (A.alloc o).heap[A.heap.size]? = some o := heap_alloc_new A o
    have h2 : (B.alloc o).heap[A.heap.size]? = some o := by rw [h.size]; exact heap_alloc_new B o
    simp only [World.cell?, h1, h2]
  · rw [cell_none_of_size (by simp; omega), cell_none_of_size (by simp; rw [← h.size]; omega)]
theorem SameE.ext {lo : Nat} {A B : World} (h : SameE lo A B) (E : Array Obj) (d d' : Nat) : SameE lo (A.ext E d) (B.ext E d') := by
  refine ⟨by simp [h.size], fun b j hb => ?_⟩
  by_cases hlt : b < A.heap.size
  · rw [cell?_ext _ _ _ _ _ _ hlt, cell?_ext _ _ _ _ _ _ (by rw [← h.size]; exact hlt)]
    exact h.cell b j hb
  · have h1 : (A.ext E d).heap[b]? = E[b - A.heap.size]? := by
      simp only [World.ext]; rw [Array.getElem?_append_right (by omega)]
    have h2 : (B.ext E d').heap[b]? = E[b - A.heap.size]? := by
      simp only [World.ext]; rw [Array.getElem?_append_right (by rw [← h.size]; omega), h.size]
    simp only [World.cell?, h1, h2]
theorem SameE.drewL {lo : Nat} {A B : World} (h : SameE lo A B) : SameE lo A.drew B := ⟨h.size, h.cell⟩
theorem SameE.drewR {lo : Nat} {A B : World} (h : SameE lo A B) : SameE lo A B.drew := ⟨h.size, h.cell⟩
/-- What lay from lo on in B lies so in A. -/
def SameL (lo : Nat) (A B : World) : Prop := B.heap.size ≤ A.heap.size ∧ ∀ b o, lo ≤ b → b < B.heap.size → A.cell? ⟨b, o, none⟩ = B.cell? ⟨b, o, none⟩
theorem SameE.same {lo : Nat} {A B : World} (h : SameE lo A B) : SameL lo A B := ⟨Nat.le_of_eq h.size.symm, fun b o hl _ => h.cell b o hl⟩
theorem SameL.extL {lo : Nat} {A B : World} (h : SameL lo A B) (E : Array Obj) (d : Nat) : SameL lo (A.ext E d) B :=
  ⟨by have := h.1; simp; omega, fun b o hl hb => by rw [cell?_ext _ _ _ _ _ _ (Nat.lt_of_lt_of_le hb h.1)]; exact h.2 b o hl hb⟩
theorem SameL.allocL {lo : Nat} {A B : World} (h : SameL lo A B) (ob : Obj) : SameL lo (A.alloc ob) B :=
  ⟨by have := h.1; simp; omega, fun b o hl hb => by rw [World.cell?_alloc_past _ _ _ (Nat.lt_of_lt_of_le hb h.1)]; exact h.2 b o hl hb⟩
theorem SameL.drewL {lo : Nat} {A B : World} (h : SameL lo A B) : SameL lo A.drew B := h
theorem SameL.out {lo : Nat} {A B : World} (h : SameL lo A B) : ∀ b o, lo ≤ b → b < B.heap.size → A.cell? ⟨b, o, none⟩ = B.cell? ⟨b, o, none⟩ := h.2
theorem wp_region_ord_from {P : Program} {ops : Array Oper} {Q : Exit → Act → World → Prop} {id : Nat} {a : Act} {w : World} (lo : Nat) (l : Plan) (hm : P.follows .mixedOrders = true)
    (ho : (Region.noSelect ops && ordOk ops l ops.size (Array.replicate ops.size false)) = true)
    (h : wpOrd P ops Q (fun w' => ∀ b o, lo ≤ b → b < w.heap.size → w'.cell? ⟨b, o, none⟩ = w.cell? ⟨b, o, none⟩) l a w.drew) : (Code.region id ops true).wp P Q a w :=
  wp_region_ord l _ hm ho (fun _ _ _ _ => rfl) h
end Go.Proofs.YtekjdeibnfaehaaGreat
