/- RegisterWithdrawn: the walk. -/
import Derived.Test.YtekjdeibnfaehaaArg
import Derived.Test.YtekjdeibnfaehaaWdQ
set_option linter.unusedSimpArgs false
set_option linter.unusedVariables false
namespace Go.Proofs.Ytekjdeibnfaehaa
open Go Go.RowKit

/-- What is there while withdrawals are recorded. -/
structure WdW (w X wr : World) (g : List Rec) (r : Rec) (day ship n1 : Int) (k : Nat) (b8 : Nat) (Aw : Option Addr) (Ax : Option Addr) (nx cx : Nat) : Prop where
  e1 : Ext w X
  c1 : X.cell? ⟨w.heap.size, 1, none⟩ = some (.int .i64 n1)
  lt1 : w.heap.size < X.heap.size
  r0 : X.cell? ⟨b8, 0, none⟩ = some (.int .i64 r.ao)
  r1 : X.cell? ⟨b8, 1, none⟩ = some (.int .i64 r.sq)
  r2 : X.cell? ⟨b8, 2, none⟩ = some (.int .i64 r.kind)
  lt8 : b8 < X.heap.size
  was : Recs X Aw (standingR g ship day)
  ext : Ext ((X.alloc (.cells #[.int .i64 r.ao, .int .i64 (wdN g r.ao r.sq day k).2] 23)).alloc (.cells #[.slice Ax nx cx] 38)) wr
  len : (wdN g r.ao r.sq day k).1.length = nx
  own : Recs X Ax (wdN g r.ao r.sq day k).1 ∨ OwnR (X.heap.size + 1 + 1) wr (.slice Ax nx cx) (wdN g r.ao r.sq day k).1
theorem txt_of {l : List Rec} (h : ∀ r ∈ l, recOk r = true) : TxtBig l := fun r hr => by have := recOk_text (h r hr); omega
theorem standingR_len (l : List Rec) (s d : Int) : (standingR l s d).length ≤ l.length := by
  unfold standingR
  split
  · exact Nat.le_trans (pick_length _ _ _) (List.length_filter_le _ _)
  · exact Nat.zero_le _
def shipOf (r : Rec) : Int := if r.ship = 0 then 10 else r.ship
theorem sameRecs_self (A B : Option Addr) (n c m d : Nat) (l l' : List Rec) (e : l' = l) (hn : l.length = n) (hm : l'.length = m) (hbig : n ≤ 9223372036854775807) (w : World) (hr : Recs w A l) (hs : Recs w B l') :
    Calls Try.prog 33 #[.slice A n c, .slice B m d] w fun e w' => e = .returned (.bool true) ∧ Ext w w' := by
  subst e
  have h := SameRecords_any A B n c m d l' l' hn hm hbig w hr hs
  rw [recsEqB_iff.2 rfl] at h
  exact h
theorem ship_of {g : List Rec} {m : Nat} (h : RegN g m) {r : Rec} (hr : r ∈ g) (hs : (r.ship == 0) = false) : inB r.ship 1 999 = true := by
  have hk := h.ok r hr
  have h0 : r.ship ≠ 0 := by simpa using hs
  simp only [recOk, kindB, Bool.and_eq_true] at hk
  have h2 := hk.2
  split at h2
  · simp only [withdrawB, Bool.and_eq_true, decide_eq_true_eq] at h2
    omega
  · split at h2
    · simp only [leaseB, Bool.and_eq_true] at h2
      simp_all
    · simp only [eventB, Bool.and_eq_true] at h2
      simp_all
set_option maxRecDepth 100000 in
set_option maxHeartbeats 16000000 in
theorem wd_walk (A : Option Addr) (c n : Nat) (l : List RawD) (n0 n1 day0 : Int) (hn : l.length = n) (hbig : n ≤ 9223372036854775807) (hx : RawBig l) (w : World) (hr : Raws w A l) :
    Calls Try.prog 6 #[.slice A n c, .agg #[.int .i64 n0, .int .i64 n1], .int .i64 day0] w fun e w' => e = .returned (.bool true) ∧ Ext w w' := by
  have hf : fifty l ≤ l.length ∧ fifty l ≤ 50 := by unfold fifty; split <;> omega
  have hR := regN_ok l (fifty l) hf.1 (by omega)
  obtain ⟨m, hm⟩ : ∃ m, fifty l = m := ⟨_, rfl⟩
  obtain ⟨gl, hgl⟩ : ∃ gl, regN (l.take (fifty l)) = gl := ⟨_, rfl⟩
  rw [hgl, hm] at hR
  rw [hm] at hf
  have Hgl := hid hgl
  have Hlen := hid hR.len
  have HR := hid hR
  obtain ⟨-, m50⟩ := hf
  clear hgl hm hR
  by_cases h0 : m = 0
  · skip
    go_enter Try.func6, Try.ntmps6
    go_wp2_with (first | (go_at_call 29; refine (Regs_any _ _ _ l hn hbig hx _ (by first | exact hr | exact Sl.alloc hr _)).mono ?_; rintro e w1 ⟨Ag1, ng1, cg1, rfl, hng1, hog1, E7, d7, rfl⟩; rw [Hgl.out] at hng1 hog1; have hrg := OwnR.of_slice hog1; obtain rfl : ng1 = m := by (rw [hng1.out]; exact Hlen.out)) | (go_at_call 17; refine (sane_any _).mono ?_; rintro e w1 ⟨rfl, E1, d1, rfl⟩))
    go_ret
    exact ⟨ret_val rfl, (by repeat (first | with_reducible exact Ext.refl _ | with_reducible exact Ext.same _ _ _ _ | with_reducible assumption | with_reducible apply Ext.alloc | with_reducible apply Ext.ext | with_reducible apply Ext.drew | (with_reducible refine Ext.setCell ?_ _ _ ?_; rotate_left; (focus (first | omega | (simp only [World.size_alloc, World.size_drew, size_ext, World.size_setCell]; omega))))))⟩
  by_cases h40 : 40 < m
  · skip
    go_enter Try.func6, Try.ntmps6
    go_wp2_with (first | (go_at_call 29; refine (Regs_any _ _ _ l hn hbig hx _ (by first | exact hr | exact Sl.alloc hr _)).mono ?_; rintro e w1 ⟨Ag1, ng1, cg1, rfl, hng1, hog1, E7, d7, rfl⟩; rw [Hgl.out] at hng1 hog1; have hrg := OwnR.of_slice hog1; obtain rfl : ng1 = m := by (rw [hng1.out]; exact Hlen.out)) | (go_at_call 17; refine (sane_any _).mono ?_; rintro e w1 ⟨rfl, E1, d1, rfl⟩))
    go_ret
    exact ⟨ret_val rfl, (by repeat (first | with_reducible exact Ext.refl _ | with_reducible exact Ext.same _ _ _ _ | with_reducible assumption | with_reducible apply Ext.alloc | with_reducible apply Ext.ext | with_reducible apply Ext.drew | (with_reducible refine Ext.setCell ?_ _ _ ?_; rotate_left; (focus (first | omega | (simp only [World.size_alloc, World.size_drew, size_ext, World.size_setCell]; omega))))))⟩
  have b0 : ((m : Int) == 0) = false := by simpa using h0
  have b1 : decide (40 < (m : Int)) = false := by simp; omega
  have i0 := Int.emod_nonneg n0 (show (m : Int) ≠ 0 by omega)
  have i1 := Int.emod_lt_of_pos n0 (show (0 : Int) < m by omega)
  have q0 := Int.emod_nonneg day0 (show (60 : Int) ≠ 0 by decide)
  have q1 := Int.emod_lt_of_pos day0 (show (0 : Int) < 60 by decide)
  have k0 := Int.emod_nonneg n1 (show (4 : Int) ≠ 0 by decide)
  have k1 := Int.emod_lt_of_pos n1 (show (0 : Int) < 4 by decide)
  obtain ⟨i, hi⟩ : ∃ i : Nat, n0 % (m : Int) = i := ⟨(n0 % (m : Int)).toNat, by omega⟩
  obtain ⟨K, hK⟩ : ∃ K : Nat, n1 % 4 = K := ⟨(n1 % 4).toNat, by omega⟩
  obtain ⟨day, hday⟩ : ∃ day, day0 % 60 = day := ⟨_, rfl⟩
  rw [hday] at q0 q1
  have hil : i < m := by omega
  have hK4 : K < 4 := by omega
  clear i0 i1 k0 k1
  have hig : i < gl.length := by rw [Hlen.out]; exact hil
  obtain ⟨r, hrk⟩ : ∃ r, gl[i] = r := ⟨_, rfl⟩
  have hrm : r ∈ gl := by rw [← hrk]; exact List.getElem_mem hig
  have HW := hid (fun k (hk : k ≤ 3) => wd_ok HR.out (by omega) hrm q0 (by omega : day ≤ 1000) hk)
  have hcg := HR.out.check (by omega)
  have HE := (stands_get hcg (List.any_eq_true.2 ⟨r, hrm, by simp [atB]⟩ : hasR gl r.ao r.sq = true)).1
  have ht := txt_of HR.out.ok
  have hso := recOk_text (HR.out.ok r hrm)
  have hpl : 0 ≤ r.ao ∧ r.ao ≤ 8 ∧ 0 ≤ r.sq := by
    have := HR.out.ok r hrm
    simp only [recOk, isPlaceB, Bool.and_eq_true, inB_spec] at this
    omega
  have hnt : noText.size ≤ 9223372036854775807 := by decide
  go_enter Try.func6, Try.ntmps6
  go_wp2_with (go_at_call 29; refine (Regs_any _ _ _ l hn hbig hx _ (by first | exact hr | exact Sl.alloc hr _)).mono ?_; rintro e w1 ⟨Ag1, ng1, cg1, rfl, hng1, hog1, E7, d7, rfl⟩; rw [Hgl.out] at hng1 hog1; have hrg := OwnR.of_slice hog1; obtain rfl : ng1 = m := by (rw [hng1.out]; exact Hlen.out))
  obtain ⟨g, of, rfl, hg⟩ := hrg.addr (by omega)
  have hrow := hrg.row hig
  simp only [size_ext, World.size_alloc] at hg
  rw [hrk] at hrow
  obtain ⟨c0, c1, c2, c3, c4, c5, c6, c7, c8, c9, c10⟩ := hrow
  have Hrg := hid hrg
  refine wp_region_ord_same (.f 0 (.f 1 (.f 2 (.f 3 (.f 4 (.f 5 (.f 6 (.k 7 (.f 8 (.f 9 (.a 10 (.a 11 .d)))) 10 (.a 7 (.f 8 (.f 9 (.a 11 .d)))))))))))) (by kernel_rfl) (by kernel_rfl) ?_
  repeat (first | (refine wpOrd_pass rfl rfl ?_; simp only [Act.put, List.getElem_toArray, List.getElem_cons_succ, List.getElem_cons_zero, List.setIfInBounds_toArray, List.set_cons_zero, List.set_cons_succ]) | (refine wpOrd_free (v := ?_) rfl rfl (fun _ hS => ?_) ?_; rotate_left; (focus (go_simp; try with_reducible rfl)); simp only [Act.put, List.getElem_toArray, List.getElem_cons_succ, List.getElem_cons_zero, List.setIfInBounds_toArray, List.set_cons_zero, List.set_cons_succ]))
  refine wpOrd_fork ?_ ?_
  focus
    refine wpOrd_call rfl rfl rfl Try.call30 (fun R hR => ?_)
    go_simp
    refine (Mod_any _ _ (by omega) (by omega) _).mono ?_
    rintro e w1 ⟨rfl, rfl⟩
    refine hR _ _ ⟨_, rfl, ?_, ?_⟩
    · (first | exact fun b o hb => Ext.cellOf (by repeat (first | with_reducible exact Ext.refl _ | with_reducible exact Ext.same _ _ _ _ | with_reducible assumption | with_reducible apply Ext.alloc | with_reducible apply Ext.ext | with_reducible apply Ext.drew | (with_reducible refine Ext.setCell ?_ _ _ ?_; rotate_left; (focus (first | omega | (simp only [World.size_alloc, World.size_drew, size_ext, World.size_setCell]; omega)))))) hb | (intro b o hb; (try simp only [size_ext, World.size_alloc, World.size_drew, World.size_setCell] at hb); go_simp; try rfl))
    clear hR R
    simp only [Act.put, List.getElem_toArray, List.getElem_cons_succ, List.getElem_cons_zero, List.setIfInBounds_toArray, List.set_cons_zero, List.set_cons_succ]
    repeat (first | (refine wpOrd_pass rfl rfl ?_; simp only [Act.put, List.getElem_toArray, List.getElem_cons_succ, List.getElem_cons_zero, List.setIfInBounds_toArray, List.set_cons_zero, List.set_cons_succ]) | (refine wpOrd_free (v := ?_) rfl rfl (fun _ hS => ?_) ?_; rotate_left; (focus (go_simp; try with_reducible rfl)); simp only [Act.put, List.getElem_toArray, List.getElem_cons_succ, List.getElem_cons_zero, List.setIfInBounds_toArray, List.set_cons_zero, List.set_cons_succ]))
    refine wpOrd_act rfl rfl (fun K hK => ?_)
    go_simp
    refine hK _ _ ⟨?_, ?_⟩
    · (first | exact fun b o hb => Ext.cellOf (by repeat (first | with_reducible exact Ext.refl _ | with_reducible exact Ext.same _ _ _ _ | with_reducible assumption | with_reducible apply Ext.alloc | with_reducible apply Ext.ext | with_reducible apply Ext.drew | (with_reducible refine Ext.setCell ?_ _ _ ?_; rotate_left; (focus (first | omega | (simp only [World.size_alloc, World.size_drew, size_ext, World.size_setCell]; omega)))))) hb | (intro b o hb; (try simp only [size_ext, World.size_alloc, World.size_drew, World.size_setCell] at hb); go_simp; try rfl))
    clear hK K
    try simp only [Act.put, List.getElem_toArray, List.getElem_cons_succ, List.getElem_cons_zero, List.setIfInBounds_toArray, List.set_cons_zero, List.set_cons_succ]
    refine wpOrd_act rfl rfl (fun K hK => ?_)
    go_simp
    refine hK _ _ ⟨?_, ?_⟩
    · (first | exact fun b o hb => Ext.cellOf (by repeat (first | with_reducible exact Ext.refl _ | with_reducible exact Ext.same _ _ _ _ | with_reducible assumption | with_reducible apply Ext.alloc | with_reducible apply Ext.ext | with_reducible apply Ext.drew | (with_reducible refine Ext.setCell ?_ _ _ ?_; rotate_left; (focus (first | omega | (simp only [World.size_alloc, World.size_drew, size_ext, World.size_setCell]; omega)))))) hb | (intro b o hb; (try simp only [size_ext, World.size_alloc, World.size_drew, World.size_setCell] at hb); go_simp; try rfl))
    clear hK K
    try simp only [Act.put, List.getElem_toArray, List.getElem_cons_succ, List.getElem_cons_zero, List.setIfInBounds_toArray, List.set_cons_zero, List.set_cons_succ]
    refine wpOrd_nil ?_
  rotate_right
  focus
    refine wpOrd_act rfl rfl (fun K hK => ?_)
    go_simp
    refine hK _ _ ⟨?_, ?_⟩
    · (first | exact fun b o hb => Ext.cellOf (by repeat (first | with_reducible exact Ext.refl _ | with_reducible exact Ext.same _ _ _ _ | with_reducible assumption | with_reducible apply Ext.alloc | with_reducible apply Ext.ext | with_reducible apply Ext.drew | (with_reducible refine Ext.setCell ?_ _ _ ?_; rotate_left; (focus (first | omega | (simp only [World.size_alloc, World.size_drew, size_ext, World.size_setCell]; omega)))))) hb | (intro b o hb; (try simp only [size_ext, World.size_alloc, World.size_drew, World.size_setCell] at hb); go_simp; try rfl))
    clear hK K
    try simp only [Act.put, List.getElem_toArray, List.getElem_cons_succ, List.getElem_cons_zero, List.setIfInBounds_toArray, List.set_cons_zero, List.set_cons_succ]
    refine wpOrd_call rfl rfl rfl Try.call30 (fun R hR => ?_)
    go_simp
    refine (Mod_any _ _ (by omega) (by omega) _).mono ?_
    rintro e w1 ⟨rfl, rfl⟩
    refine hR _ _ ⟨_, rfl, ?_, ?_⟩
    · (first | exact fun b o hb => Ext.cellOf (by repeat (first | with_reducible exact Ext.refl _ | with_reducible exact Ext.same _ _ _ _ | with_reducible assumption | with_reducible apply Ext.alloc | with_reducible apply Ext.ext | with_reducible apply Ext.drew | (with_reducible refine Ext.setCell ?_ _ _ ?_; rotate_left; (focus (first | omega | (simp only [World.size_alloc, World.size_drew, size_ext, World.size_setCell]; omega)))))) hb | (intro b o hb; (try simp only [size_ext, World.size_alloc, World.size_drew, World.size_setCell] at hb); go_simp; try rfl))
    clear hR R
    simp only [Act.put, List.getElem_toArray, List.getElem_cons_succ, List.getElem_cons_zero, List.setIfInBounds_toArray, List.set_cons_zero, List.set_cons_succ]
    repeat (first | (refine wpOrd_pass rfl rfl ?_; simp only [Act.put, List.getElem_toArray, List.getElem_cons_succ, List.getElem_cons_zero, List.setIfInBounds_toArray, List.set_cons_zero, List.set_cons_succ]) | (refine wpOrd_free (v := ?_) rfl rfl (fun _ hS => ?_) ?_; rotate_left; (focus (go_simp; try with_reducible rfl)); simp only [Act.put, List.getElem_toArray, List.getElem_cons_succ, List.getElem_cons_zero, List.setIfInBounds_toArray, List.set_cons_zero, List.set_cons_succ]))
    refine wpOrd_act rfl rfl (fun K hK => ?_)
    go_simp
    refine hK _ _ ⟨?_, ?_⟩
    · (first | exact fun b o hb => Ext.cellOf (by repeat (first | with_reducible exact Ext.refl _ | with_reducible exact Ext.same _ _ _ _ | with_reducible assumption | with_reducible apply Ext.alloc | with_reducible apply Ext.ext | with_reducible apply Ext.drew | (with_reducible refine Ext.setCell ?_ _ _ ?_; rotate_left; (focus (first | omega | (simp only [World.size_alloc, World.size_drew, size_ext, World.size_setCell]; omega)))))) hb | (intro b o hb; (try simp only [size_ext, World.size_alloc, World.size_drew, World.size_setCell] at hb); go_simp; try rfl))
    clear hK K
    try simp only [Act.put, List.getElem_toArray, List.getElem_cons_succ, List.getElem_cons_zero, List.setIfInBounds_toArray, List.set_cons_zero, List.set_cons_succ]
    refine wpOrd_nil ?_
  all_goals
    cases hsb : (r.ship == 0) with
    | true =>
      have hse : standingE gl 10 day = 0 := standingE_ok hcg (by decide) (inB_spec.2 ⟨q0, by omega⟩)
      have hRt : Hid (∀ k, k ≤ 3 → (standingR (wdN gl r.ao r.sq day k).1 10 day = standingR gl 10 day)) := hid fun k hk => ((HW.out k hk).tells 10).2
      have hEt : Hid (∀ k, k ≤ 3 → (standingE (wdN gl r.ao r.sq day k).1 10 day = 0)) := hid fun k hk => by rw [((HW.out k hk).tells 10).1]; exact hse
      go_wp2_with (first | (go_at_call 32; refine (Standing_any _ _ _ gl _ _ (Hlen.out) (by omega) ht _ (by with_reducible repeat (first | assumption | apply Recs.ext | apply Recs.alloc | apply Recs.drew | (refine Recs.of_ext ?_ (by assumption))))).mono ?_; rintro e w1 ⟨Aw1, nw1, cw1, rfl, hnw1, hrw1, E3, d3, rfl⟩) | (go_at_call 30; refine (Mod_any _ _ (by omega) (by omega) _).mono ?_; rintro e w1 ⟨rfl, rfl⟩) | (go_at_call 31; refine (Stands_any _ _ _ _ _ _ (by first | rfl | assumption) (by omega) (by assumption) _ (by with_reducible repeat (first | assumption | apply Recs.ext | apply Recs.alloc | apply Recs.drew | (refine Recs.of_ext ?_ (by assumption))))).mono ?_; rintro e w1 ⟨rfl, E1, d1, rfl⟩))
      have Hnw := hid hnw1.out
      clear hnw1
      go_loopw [16] (fun i wr => ∃ (k : Nat) (X : World) (Ax : Option Addr) (nx cx : Nat), X.heap.size = w.heap.size + 1 + E7.size + 1 + 1 + E1.size + E3.size ∧ k ≤ K ∧ i = .int .i64 k ∧ WdW w X wr gl r day 10 n1 k (w.heap.size + 1 + E7.size + 1) Aw1 Ax nx cx) (fun i _ => K - (intOf i).toNat)
      case atStart =>
        refine ⟨0, _, _, _, _, ?_, Nat.zero_le _, rfl, ⟨?_, ?_, ?_, ?_, ?_, ?_, ?_, ?_, Ext.refl _, ?_, .inl ?_⟩⟩
        · simp only [World.size_alloc, size_ext, World.size_drew]
        · exact (by repeat (first | with_reducible exact Ext.refl _ | with_reducible exact Ext.same _ _ _ _ | with_reducible assumption | with_reducible apply Ext.alloc | with_reducible apply Ext.ext | with_reducible apply Ext.drew | (with_reducible refine Ext.setCell ?_ _ _ ?_; rotate_left; (focus (first | omega | (simp only [World.size_alloc, World.size_drew, size_ext, World.size_setCell]; omega))))))
        · first | (go_simp; done) | (go_simp; rfl)
        · simp only [World.size_alloc, size_ext, World.size_drew]; omega
        · first | (go_simp; done) | (go_simp; rfl)
        · first | (go_simp; done) | (go_simp; rfl)
        · first | (go_simp; done) | (go_simp; rfl)
        · simp only [World.size_alloc, size_ext, World.size_drew]; omega
        · exact hrw1
        · exact Hlen.out
        · exact Recs.of_ext Hrg.out (by repeat (first | with_reducible exact Ext.refl _ | with_reducible exact Ext.same _ _ _ _ | with_reducible assumption | with_reducible apply Ext.alloc | with_reducible apply Ext.ext | with_reducible apply Ext.drew | (with_reducible refine Ext.setCell ?_ _ _ ?_; rotate_left; (focus (first | omega | (simp only [World.size_alloc, World.size_drew, size_ext, World.size_setCell]; omega))))))
      case round =>
        obtain ⟨k, X, Ax, nx, cx, hsX, hk, rfl, hW⟩ := hrel
        obtain ⟨e1, f1, g1, r0, r1, r2, g8, was, ⟨E9, d9, rfl⟩, hlen, hown⟩ := hW
        have hrx := hown.elim (fun h => ((h.alloc (.cells #[.int .i64 r.ao, .int .i64 (wdN gl r.ao r.sq day k).2] 23)).alloc (.cells #[.slice Ax nx cx] 38)).ext E9 d9) OwnR.of_slice
        have hsvd := fun d' => Recs.of_ext hrx (Ext.same _ _ _ d')
        obtain ⟨j1, j2, j3⟩ := wd_all HR.out (by omega) hpl.1 hpl.2.1 hpl.2.2 (nextN_gt HR.out.sorted r.ao r hrm rfl) q0 (by omega : day ≤ 1000) k (by omega)
        have hck := j1.check (by omega)
        have htx := txt_of j1.ok
        have hln := j1.len
        rw [hlen] at hln
        have hln2 : nx ≤ 60 := by omega
        have Hln := hid hln
        clear hln
        have Hown := hid hown
        have Was := hid was
        have E1' := hid e1
        clear hown hrx was e1
        by_cases hlt : k < K
        · obtain ⟨s1, s2, s3⟩ := wd_step j1 (by omega) hpl.1 hpl.2.1 j2 j3 q0 (by omega : day ≤ 1000) (show k ≤ 10 by omega)
          have hnx := next_of hck hpl.1 hpl.2.1
          obtain ⟨hae, hal⟩ := add_of hck s1 s2 (by omega)
          have Hal := hid hal
          clear hal s3
          go_wp2_with (go_at_call 30; refine (Mod_any _ _ (by omega) (by omega) _).mono ?_; rintro e w1 ⟨rfl, rfl⟩)
          refine wp_region_ord_same (.f 0 (.f 1 (.f 2 (.f 3 (.f 4 (.f 5 (.f 6 (.f 9 (.f 10 (.f 11 (.f 12 (.f 13 (.k 7 (.f 8 (.f 14 (.a 15 (.a 16 .d)))) 15 (.a 7 (.f 8 (.f 14 (.a 16 .d))))))))))))))))) (by kernel_rfl) (by kernel_rfl) ?_
          repeat (first | (refine wpOrd_pass rfl rfl ?_; simp only [Act.put, List.getElem_toArray, List.getElem_cons_succ, List.getElem_cons_zero, List.setIfInBounds_toArray, List.set_cons_zero, List.set_cons_succ]) | (refine wpOrd_free (v := ?_) rfl rfl (fun _ hS => ?_) ?_; rotate_left; (focus (go_simp; try with_reducible rfl)); simp only [Act.put, List.getElem_toArray, List.getElem_cons_succ, List.getElem_cons_zero, List.setIfInBounds_toArray, List.set_cons_zero, List.set_cons_succ]))
          refine wpOrd_fork ?_ ?_
          focus
            refine wpOrd_call rfl rfl rfl Try.call25 (fun R hR => ?_)
            go_simp
            refine (Next_any _ _ _ (wdN gl r.ao r.sq day k).1 _ hlen (by omega) htx _ (by with_reducible repeat (first | assumption | exact hsvd _ | apply Recs.ext | apply Recs.alloc | apply Recs.drew | (refine Recs.of_ext ?_ (by assumption))))).mono ?_
            rintro e w1 ⟨rfl, E1, d1, rfl⟩
            refine hR _ _ ⟨_, rfl, ?_, ?_⟩
            · (first | exact fun b o hb => Ext.cellOf (by repeat (first | with_reducible exact Ext.refl _ | with_reducible exact Ext.same _ _ _ _ | with_reducible assumption | with_reducible apply Ext.alloc | with_reducible apply Ext.ext | with_reducible apply Ext.drew | (with_reducible refine Ext.setCell ?_ _ _ ?_; rotate_left; (focus (first | omega | (simp only [World.size_alloc, World.size_drew, size_ext, World.size_setCell]; omega)))))) hb | (intro b o hb; (try simp only [size_ext, World.size_alloc, World.size_drew, World.size_setCell] at hb); go_simp; try rfl))
            clear hR R
            simp only [Act.put, List.getElem_toArray, List.getElem_cons_succ, List.getElem_cons_zero, List.setIfInBounds_toArray, List.set_cons_zero, List.set_cons_succ]
            repeat (first | (refine wpOrd_pass rfl rfl ?_; simp only [Act.put, List.getElem_toArray, List.getElem_cons_succ, List.getElem_cons_zero, List.setIfInBounds_toArray, List.set_cons_zero, List.set_cons_succ]) | (refine wpOrd_free (v := ?_) rfl rfl (fun _ hS => ?_) ?_; rotate_left; (focus (go_simp; try with_reducible rfl)); simp only [Act.put, List.getElem_toArray, List.getElem_cons_succ, List.getElem_cons_zero, List.setIfInBounds_toArray, List.set_cons_zero, List.set_cons_succ]))
            refine wpOrd_act rfl rfl (fun K hK => ?_)
            go_simp
            refine hK _ _ ⟨?_, ?_⟩
            · (first | exact fun b o hb => Ext.cellOf (by repeat (first | with_reducible exact Ext.refl _ | with_reducible exact Ext.same _ _ _ _ | with_reducible assumption | with_reducible apply Ext.alloc | with_reducible apply Ext.ext | with_reducible apply Ext.drew | (with_reducible refine Ext.setCell ?_ _ _ ?_; rotate_left; (focus (first | omega | (simp only [World.size_alloc, World.size_drew, size_ext, World.size_setCell]; omega)))))) hb | (intro b o hb; (try simp only [size_ext, World.size_alloc, World.size_drew, World.size_setCell] at hb); go_simp; try rfl))
            clear hK K
            try simp only [Act.put, List.getElem_toArray, List.getElem_cons_succ, List.getElem_cons_zero, List.setIfInBounds_toArray, List.set_cons_zero, List.set_cons_succ]
            refine wpOrd_act rfl rfl (fun K hK => ?_)
            go_simp
            refine hK _ _ ⟨?_, ?_⟩
            · (first | exact fun b o hb => Ext.cellOf (by repeat (first | with_reducible exact Ext.refl _ | with_reducible exact Ext.same _ _ _ _ | with_reducible assumption | with_reducible apply Ext.alloc | with_reducible apply Ext.ext | with_reducible apply Ext.drew | (with_reducible refine Ext.setCell ?_ _ _ ?_; rotate_left; (focus (first | omega | (simp only [World.size_alloc, World.size_drew, size_ext, World.size_setCell]; omega)))))) hb | (intro b o hb; (try simp only [size_ext, World.size_alloc, World.size_drew, World.size_setCell] at hb); go_simp; try rfl))
            clear hK K
            try simp only [Act.put, List.getElem_toArray, List.getElem_cons_succ, List.getElem_cons_zero, List.setIfInBounds_toArray, List.set_cons_zero, List.set_cons_succ]
            refine wpOrd_nil ?_
          rotate_right
          focus
            refine wpOrd_act rfl rfl (fun K hK => ?_)
            go_simp
            refine hK _ _ ⟨?_, ?_⟩
            · (first | exact fun b o hb => Ext.cellOf (by repeat (first | with_reducible exact Ext.refl _ | with_reducible exact Ext.same _ _ _ _ | with_reducible assumption | with_reducible apply Ext.alloc | with_reducible apply Ext.ext | with_reducible apply Ext.drew | (with_reducible refine Ext.setCell ?_ _ _ ?_; rotate_left; (focus (first | omega | (simp only [World.size_alloc, World.size_drew, size_ext, World.size_setCell]; omega)))))) hb | (intro b o hb; (try simp only [size_ext, World.size_alloc, World.size_drew, World.size_setCell] at hb); go_simp; try rfl))
            clear hK K
            try simp only [Act.put, List.getElem_toArray, List.getElem_cons_succ, List.getElem_cons_zero, List.setIfInBounds_toArray, List.set_cons_zero, List.set_cons_succ]
            refine wpOrd_call rfl rfl rfl Try.call25 (fun R hR => ?_)
            go_simp
            refine (Next_any _ _ _ (wdN gl r.ao r.sq day k).1 _ hlen (by omega) htx _ (by with_reducible repeat (first | assumption | exact hsvd _ | apply Recs.ext | apply Recs.alloc | apply Recs.drew | (refine Recs.of_ext ?_ (by assumption))))).mono ?_
            rintro e w1 ⟨rfl, E2, d2, rfl⟩
            refine hR _ _ ⟨_, rfl, ?_, ?_⟩
            · (first | exact fun b o hb => Ext.cellOf (by repeat (first | with_reducible exact Ext.refl _ | with_reducible exact Ext.same _ _ _ _ | with_reducible assumption | with_reducible apply Ext.alloc | with_reducible apply Ext.ext | with_reducible apply Ext.drew | (with_reducible refine Ext.setCell ?_ _ _ ?_; rotate_left; (focus (first | omega | (simp only [World.size_alloc, World.size_drew, size_ext, World.size_setCell]; omega)))))) hb | (intro b o hb; (try simp only [size_ext, World.size_alloc, World.size_drew, World.size_setCell] at hb); go_simp; try rfl))
            clear hR R
            simp only [Act.put, List.getElem_toArray, List.getElem_cons_succ, List.getElem_cons_zero, List.setIfInBounds_toArray, List.set_cons_zero, List.set_cons_succ]
            repeat (first | (refine wpOrd_pass rfl rfl ?_; simp only [Act.put, List.getElem_toArray, List.getElem_cons_succ, List.getElem_cons_zero, List.setIfInBounds_toArray, List.set_cons_zero, List.set_cons_succ]) | (refine wpOrd_free (v := ?_) rfl rfl (fun _ hS => ?_) ?_; rotate_left; (focus (go_simp; try with_reducible rfl)); simp only [Act.put, List.getElem_toArray, List.getElem_cons_succ, List.getElem_cons_zero, List.setIfInBounds_toArray, List.set_cons_zero, List.set_cons_succ]))
            refine wpOrd_act rfl rfl (fun K hK => ?_)
            go_simp
            refine hK _ _ ⟨?_, ?_⟩
            · (first | exact fun b o hb => Ext.cellOf (by repeat (first | with_reducible exact Ext.refl _ | with_reducible exact Ext.same _ _ _ _ | with_reducible assumption | with_reducible apply Ext.alloc | with_reducible apply Ext.ext | with_reducible apply Ext.drew | (with_reducible refine Ext.setCell ?_ _ _ ?_; rotate_left; (focus (first | omega | (simp only [World.size_alloc, World.size_drew, size_ext, World.size_setCell]; omega)))))) hb | (intro b o hb; (try simp only [size_ext, World.size_alloc, World.size_drew, World.size_setCell] at hb); go_simp; try rfl))
            clear hK K
            try simp only [Act.put, List.getElem_toArray, List.getElem_cons_succ, List.getElem_cons_zero, List.setIfInBounds_toArray, List.set_cons_zero, List.set_cons_succ]
            refine wpOrd_nil ?_
          all_goals
            go_wp2_with (go_at_call 21; refine (Add_any _ _ _ _ (wdRec r.ao (nextN (wdN gl r.ao r.sq day k).1 r.ao) (day + 1 + k) r.ao (wdN gl r.ao r.sq day k).2) hlen (by omega) htx hnt _ (by with_reducible repeat (first | assumption | exact hsvd _ | apply Recs.ext | apply Recs.alloc | apply Recs.drew | (refine Recs.of_ext ?_ (by assumption))))).mono ?_; rintro e w1 ⟨Ap1, np1, cp1, rfl, hnp1, hvp1, E5, d5, rfl⟩; rw [hae])
          all_goals
            refine ⟨⟨k + 1, X, Ap1, np1, cp1, hsX, by omega, by go_num, ⟨E1'.out, f1, g1, r0, r1, r2, g8, Was.out, (by rw [show (wdN gl r.ao r.sq day (k + 1)).2 = nextN (wdN gl r.ao r.sq day k).1 r.ao from rfl]; exact (by repeat (first | with_reducible exact Ext.refl _ | with_reducible exact Ext.same _ _ _ _ | with_reducible assumption | with_reducible apply Ext.alloc | with_reducible apply Ext.ext | with_reducible apply Ext.drew | (with_reducible refine Ext.setCell ?_ _ _ ?_; rotate_left; (focus (first | omega | (simp only [World.size_alloc, World.size_drew, size_ext, World.size_setCell]; omega))))))), ?_, .inr ?_⟩⟩, by simp [intOf]; omega⟩
            · have h1 := hnp1.out
              rw [Hal.out] at h1
              exact h1.symm
            · have h1 := hvp1
              rw [Hal.out] at h1
              exact OwnR.moved2 h1 (by repeat (first | with_reducible exact Ext.refl _ | with_reducible exact Ext.same _ _ _ _ | with_reducible assumption | with_reducible apply Ext.alloc | with_reducible apply Ext.ext | with_reducible apply Ext.drew | (with_reducible refine Ext.setCell ?_ _ _ ?_; rotate_left; (focus (first | omega | (simp only [World.size_alloc, World.size_drew, size_ext, World.size_setCell]; omega)))))) (by simp [World.size_alloc]) (Nat.le_refl _) (by simp [World.size_alloc]; omega)
        · obtain rfl : k = K := by omega
          obtain ⟨w1, w2, w3, w4⟩ := HW.out k (by omega)
          have hSE := (stands_get w1 w2).1
          have hEk := hEt.out k (by omega)
          have HRk := hid (hRt.out k (by omega))
          have e1 := E1'.out
          have hwas := Was.out
          have Hsl := hid (standingR_len gl 10 day)
          obtain ⟨kb, hkb⟩ : ∃ kb, (r.kind == 1) = kb := ⟨_, rfl⟩
          have hkd : decide (r.kind = 1) = kb := by rw [← hkb]; rfl
          rw [hkd] at w3
          clear hkd w1 w2 w4
          rcases Nat.mod_two_eq_zero_or_one k with hp | hp
          · rw [if_neg (by omega)] at w3
            have p1 : ((k : Int) % 2 == 1) = false := by simp; omega
            have p2 : ((k : Int).tmod 2 == 1) = false := by rw [Int.tmod_eq_emod_of_nonneg (by omega)]; exact p1
            clear hp
            go_wp2_with (first | (go_at_call 31; refine (Stands_any _ _ _ (wdN gl r.ao r.sq day k).1 _ _ hlen (by omega) htx _ (by with_reducible repeat (first | assumption | exact hsvd _ | apply Recs.ext | apply Recs.alloc | apply Recs.drew | (refine Recs.of_ext ?_ (by assumption))))).mono ?_; rintro e w1 ⟨rfl, E4, d4, rfl⟩; rw [w3, hSE]) | (go_at_call 32; refine (Standing_any _ _ _ (wdN gl r.ao r.sq day k).1 _ _ hlen (by omega) htx _ (by with_reducible repeat (first | assumption | exact hsvd _ | apply Recs.ext | apply Recs.alloc | apply Recs.drew | (refine Recs.of_ext ?_ (by assumption))))).mono ?_; rintro e w1 ⟨Aw2, nw2, cw2, rfl, hnw2, hrw2, E6, d6, rfl⟩; rw [hEk]) | (go_at_call 33; refine (sameRecs_self _ _ _ _ _ _ (standingR gl 10 day) (standingR (wdN gl r.ao r.sq day k).1 10 day) HRk.out (Hnw.out.symm) (hnw2.out.symm) (by have := Hnw.out; have := Hsl.out; have := Hlen.out; omega) _ (by with_reducible repeat (first | assumption | apply Recs.ext | apply Recs.alloc | apply Recs.drew | (refine Recs.of_ext ?_ (by assumption)))) (by with_reducible repeat (first | assumption | apply Recs.ext | apply Recs.alloc | apply Recs.drew | (refine Recs.of_ext ?_ (by assumption))))).mono ?_; rintro e w1 ⟨rfl, E8, d8, rfl⟩) | (go_at_call 30; refine (Mod_any _ _ (by omega) (by omega) _).mono ?_; rintro e w1 ⟨rfl, rfl⟩) | (go_at_call 17; refine (sane_any _).mono ?_; rintro e w1 ⟨rfl, E1, d1, rfl⟩))
            all_goals
              go_ret
              exact ⟨ret_val rfl, (by repeat (first | with_reducible exact Ext.refl _ | with_reducible exact Ext.same _ _ _ _ | with_reducible assumption | with_reducible apply Ext.alloc | with_reducible apply Ext.ext | with_reducible apply Ext.drew | (with_reducible refine Ext.setCell ?_ _ _ ?_; rotate_left; (focus (first | omega | (simp only [World.size_alloc, World.size_drew, size_ext, World.size_setCell]; omega))))))⟩
          · rw [if_pos hp] at w3
            have p1 : ((k : Int) % 2 == 1) = true := by simp; omega
            have p2 : ((k : Int).tmod 2 == 1) = true := by rw [Int.tmod_eq_emod_of_nonneg (by omega)]; exact p1
            clear hp
            go_wp2_with (first | (go_at_call 31; refine (Stands_any _ _ _ (wdN gl r.ao r.sq day k).1 _ _ hlen (by omega) htx _ (by with_reducible repeat (first | assumption | exact hsvd _ | apply Recs.ext | apply Recs.alloc | apply Recs.drew | (refine Recs.of_ext ?_ (by assumption))))).mono ?_; rintro e w1 ⟨rfl, E4, d4, rfl⟩; rw [w3, hSE]) | (go_at_call 32; refine (Standing_any _ _ _ (wdN gl r.ao r.sq day k).1 _ _ hlen (by omega) htx _ (by with_reducible repeat (first | assumption | exact hsvd _ | apply Recs.ext | apply Recs.alloc | apply Recs.drew | (refine Recs.of_ext ?_ (by assumption))))).mono ?_; rintro e w1 ⟨Aw2, nw2, cw2, rfl, hnw2, hrw2, E6, d6, rfl⟩; rw [hEk]) | (go_at_call 33; refine (sameRecs_self _ _ _ _ _ _ (standingR gl 10 day) (standingR (wdN gl r.ao r.sq day k).1 10 day) HRk.out (Hnw.out.symm) (hnw2.out.symm) (by have := Hnw.out; have := Hsl.out; have := Hlen.out; omega) _ (by with_reducible repeat (first | assumption | apply Recs.ext | apply Recs.alloc | apply Recs.drew | (refine Recs.of_ext ?_ (by assumption)))) (by with_reducible repeat (first | assumption | apply Recs.ext | apply Recs.alloc | apply Recs.drew | (refine Recs.of_ext ?_ (by assumption))))).mono ?_; rintro e w1 ⟨rfl, E8, d8, rfl⟩) | (go_at_call 30; refine (Mod_any _ _ (by omega) (by omega) _).mono ?_; rintro e w1 ⟨rfl, rfl⟩) | (go_at_call 17; refine (sane_any _).mono ?_; rintro e w1 ⟨rfl, E1, d1, rfl⟩))
            all_goals
              go_ret
              exact ⟨ret_val rfl, (by repeat (first | with_reducible exact Ext.refl _ | with_reducible exact Ext.same _ _ _ _ | with_reducible assumption | with_reducible apply Ext.alloc | with_reducible apply Ext.ext | with_reducible apply Ext.drew | (with_reducible refine Ext.setCell ?_ _ _ ?_; rotate_left; (focus (first | omega | (simp only [World.size_alloc, World.size_drew, size_ext, World.size_setCell]; omega))))))⟩
    | false =>
      have hse : standingE gl r.ship day = 0 := standingE_ok hcg (ship_of HR.out hrm hsb) (inB_spec.2 ⟨q0, by omega⟩)
      have hRt : Hid (∀ k, k ≤ 3 → (standingR (wdN gl r.ao r.sq day k).1 r.ship day = standingR gl r.ship day)) := hid fun k hk => ((HW.out k hk).tells r.ship).2
      have hEt : Hid (∀ k, k ≤ 3 → (standingE (wdN gl r.ao r.sq day k).1 r.ship day = 0)) := hid fun k hk => by rw [((HW.out k hk).tells r.ship).1]; exact hse
      go_wp2_with (first | (go_at_call 32; refine (Standing_any _ _ _ gl _ _ (Hlen.out) (by omega) ht _ (by with_reducible repeat (first | assumption | apply Recs.ext | apply Recs.alloc | apply Recs.drew | (refine Recs.of_ext ?_ (by assumption))))).mono ?_; rintro e w1 ⟨Aw1, nw1, cw1, rfl, hnw1, hrw1, E3, d3, rfl⟩) | (go_at_call 30; refine (Mod_any _ _ (by omega) (by omega) _).mono ?_; rintro e w1 ⟨rfl, rfl⟩) | (go_at_call 31; refine (Stands_any _ _ _ _ _ _ (by first | rfl | assumption) (by omega) (by assumption) _ (by with_reducible repeat (first | assumption | apply Recs.ext | apply Recs.alloc | apply Recs.drew | (refine Recs.of_ext ?_ (by assumption))))).mono ?_; rintro e w1 ⟨rfl, E1, d1, rfl⟩))
      have Hnw := hid hnw1.out
      clear hnw1
      go_loopw [16] (fun i wr => ∃ (k : Nat) (X : World) (Ax : Option Addr) (nx cx : Nat), X.heap.size = w.heap.size + 1 + E7.size + 1 + 1 + E1.size + E3.size ∧ k ≤ K ∧ i = .int .i64 k ∧ WdW w X wr gl r day r.ship n1 k (w.heap.size + 1 + E7.size + 1) Aw1 Ax nx cx) (fun i _ => K - (intOf i).toNat)
      case atStart =>
        refine ⟨0, _, _, _, _, ?_, Nat.zero_le _, rfl, ⟨?_, ?_, ?_, ?_, ?_, ?_, ?_, ?_, Ext.refl _, ?_, .inl ?_⟩⟩
        · simp only [World.size_alloc, size_ext, World.size_drew]
        · exact (by repeat (first | with_reducible exact Ext.refl _ | with_reducible exact Ext.same _ _ _ _ | with_reducible assumption | with_reducible apply Ext.alloc | with_reducible apply Ext.ext | with_reducible apply Ext.drew | (with_reducible refine Ext.setCell ?_ _ _ ?_; rotate_left; (focus (first | omega | (simp only [World.size_alloc, World.size_drew, size_ext, World.size_setCell]; omega))))))
        · first | (go_simp; done) | (go_simp; rfl)
        · simp only [World.size_alloc, size_ext, World.size_drew]; omega
        · first | (go_simp; done) | (go_simp; rfl)
        · first | (go_simp; done) | (go_simp; rfl)
        · first | (go_simp; done) | (go_simp; rfl)
        · simp only [World.size_alloc, size_ext, World.size_drew]; omega
        · exact hrw1
        · exact Hlen.out
        · exact Recs.of_ext Hrg.out (by repeat (first | with_reducible exact Ext.refl _ | with_reducible exact Ext.same _ _ _ _ | with_reducible assumption | with_reducible apply Ext.alloc | with_reducible apply Ext.ext | with_reducible apply Ext.drew | (with_reducible refine Ext.setCell ?_ _ _ ?_; rotate_left; (focus (first | omega | (simp only [World.size_alloc, World.size_drew, size_ext, World.size_setCell]; omega))))))
      case round =>
        obtain ⟨k, X, Ax, nx, cx, hsX, hk, rfl, hW⟩ := hrel
        obtain ⟨e1, f1, g1, r0, r1, r2, g8, was, ⟨E9, d9, rfl⟩, hlen, hown⟩ := hW
        have hrx := hown.elim (fun h => ((h.alloc (.cells #[.int .i64 r.ao, .int .i64 (wdN gl r.ao r.sq day k).2] 23)).alloc (.cells #[.slice Ax nx cx] 38)).ext E9 d9) OwnR.of_slice
        have hsvd := fun d' => Recs.of_ext hrx (Ext.same _ _ _ d')
        obtain ⟨j1, j2, j3⟩ := wd_all HR.out (by omega) hpl.1 hpl.2.1 hpl.2.2 (nextN_gt HR.out.sorted r.ao r hrm rfl) q0 (by omega : day ≤ 1000) k (by omega)
        have hck := j1.check (by omega)
        have htx := txt_of j1.ok
        have hln := j1.len
        rw [hlen] at hln
        have hln2 : nx ≤ 60 := by omega
        have Hln := hid hln
        clear hln
        have Hown := hid hown
        have Was := hid was
        have E1' := hid e1
        clear hown hrx was e1
        by_cases hlt : k < K
        · obtain ⟨s1, s2, s3⟩ := wd_step j1 (by omega) hpl.1 hpl.2.1 j2 j3 q0 (by omega : day ≤ 1000) (show k ≤ 10 by omega)
          have hnx := next_of hck hpl.1 hpl.2.1
          obtain ⟨hae, hal⟩ := add_of hck s1 s2 (by omega)
          have Hal := hid hal
          clear hal s3
          go_wp2_with (go_at_call 30; refine (Mod_any _ _ (by omega) (by omega) _).mono ?_; rintro e w1 ⟨rfl, rfl⟩)
          refine wp_region_ord_same (.f 0 (.f 1 (.f 2 (.f 3 (.f 4 (.f 5 (.f 6 (.f 9 (.f 10 (.f 11 (.f 12 (.f 13 (.k 7 (.f 8 (.f 14 (.a 15 (.a 16 .d)))) 15 (.a 7 (.f 8 (.f 14 (.a 16 .d))))))))))))))))) (by kernel_rfl) (by kernel_rfl) ?_
          repeat (first | (refine wpOrd_pass rfl rfl ?_; simp only [Act.put, List.getElem_toArray, List.getElem_cons_succ, List.getElem_cons_zero, List.setIfInBounds_toArray, List.set_cons_zero, List.set_cons_succ]) | (refine wpOrd_free (v := ?_) rfl rfl (fun _ hS => ?_) ?_; rotate_left; (focus (go_simp; try with_reducible rfl)); simp only [Act.put, List.getElem_toArray, List.getElem_cons_succ, List.getElem_cons_zero, List.setIfInBounds_toArray, List.set_cons_zero, List.set_cons_succ]))
          refine wpOrd_fork ?_ ?_
          focus
            refine wpOrd_call rfl rfl rfl Try.call25 (fun R hR => ?_)
            go_simp
            refine (Next_any _ _ _ (wdN gl r.ao r.sq day k).1 _ hlen (by omega) htx _ (by with_reducible repeat (first | assumption | exact hsvd _ | apply Recs.ext | apply Recs.alloc | apply Recs.drew | (refine Recs.of_ext ?_ (by assumption))))).mono ?_
            rintro e w1 ⟨rfl, E1, d1, rfl⟩
            refine hR _ _ ⟨_, rfl, ?_, ?_⟩
            · (first | exact fun b o hb => Ext.cellOf (by repeat (first | with_reducible exact Ext.refl _ | with_reducible exact Ext.same _ _ _ _ | with_reducible assumption | with_reducible apply Ext.alloc | with_reducible apply Ext.ext | with_reducible apply Ext.drew | (with_reducible refine Ext.setCell ?_ _ _ ?_; rotate_left; (focus (first | omega | (simp only [World.size_alloc, World.size_drew, size_ext, World.size_setCell]; omega)))))) hb | (intro b o hb; (try simp only [size_ext, World.size_alloc, World.size_drew, World.size_setCell] at hb); go_simp; try rfl))
            clear hR R
            simp only [Act.put, List.getElem_toArray, List.getElem_cons_succ, List.getElem_cons_zero, List.setIfInBounds_toArray, List.set_cons_zero, List.set_cons_succ]
            repeat (first | (refine wpOrd_pass rfl rfl ?_; simp only [Act.put, List.getElem_toArray, List.getElem_cons_succ, List.getElem_cons_zero, List.setIfInBounds_toArray, List.set_cons_zero, List.set_cons_succ]) | (refine wpOrd_free (v := ?_) rfl rfl (fun _ hS => ?_) ?_; rotate_left; (focus (go_simp; try with_reducible rfl)); simp only [Act.put, List.getElem_toArray, List.getElem_cons_succ, List.getElem_cons_zero, List.setIfInBounds_toArray, List.set_cons_zero, List.set_cons_succ]))
            refine wpOrd_act rfl rfl (fun K hK => ?_)
            go_simp
            refine hK _ _ ⟨?_, ?_⟩
            · (first | exact fun b o hb => Ext.cellOf (by repeat (first | with_reducible exact Ext.refl _ | with_reducible exact Ext.same _ _ _ _ | with_reducible assumption | with_reducible apply Ext.alloc | with_reducible apply Ext.ext | with_reducible apply Ext.drew | (with_reducible refine Ext.setCell ?_ _ _ ?_; rotate_left; (focus (first | omega | (simp only [World.size_alloc, World.size_drew, size_ext, World.size_setCell]; omega)))))) hb | (intro b o hb; (try simp only [size_ext, World.size_alloc, World.size_drew, World.size_setCell] at hb); go_simp; try rfl))
            clear hK K
            try simp only [Act.put, List.getElem_toArray, List.getElem_cons_succ, List.getElem_cons_zero, List.setIfInBounds_toArray, List.set_cons_zero, List.set_cons_succ]
            refine wpOrd_act rfl rfl (fun K hK => ?_)
            go_simp
            refine hK _ _ ⟨?_, ?_⟩
            · (first | exact fun b o hb => Ext.cellOf (by repeat (first | with_reducible exact Ext.refl _ | with_reducible exact Ext.same _ _ _ _ | with_reducible assumption | with_reducible apply Ext.alloc | with_reducible apply Ext.ext | with_reducible apply Ext.drew | (with_reducible refine Ext.setCell ?_ _ _ ?_; rotate_left; (focus (first | omega | (simp only [World.size_alloc, World.size_drew, size_ext, World.size_setCell]; omega)))))) hb | (intro b o hb; (try simp only [size_ext, World.size_alloc, World.size_drew, World.size_setCell] at hb); go_simp; try rfl))
            clear hK K
            try simp only [Act.put, List.getElem_toArray, List.getElem_cons_succ, List.getElem_cons_zero, List.setIfInBounds_toArray, List.set_cons_zero, List.set_cons_succ]
            refine wpOrd_nil ?_
          rotate_right
          focus
            refine wpOrd_act rfl rfl (fun K hK => ?_)
            go_simp
            refine hK _ _ ⟨?_, ?_⟩
            · (first | exact fun b o hb => Ext.cellOf (by repeat (first | with_reducible exact Ext.refl _ | with_reducible exact Ext.same _ _ _ _ | with_reducible assumption | with_reducible apply Ext.alloc | with_reducible apply Ext.ext | with_reducible apply Ext.drew | (with_reducible refine Ext.setCell ?_ _ _ ?_; rotate_left; (focus (first | omega | (simp only [World.size_alloc, World.size_drew, size_ext, World.size_setCell]; omega)))))) hb | (intro b o hb; (try simp only [size_ext, World.size_alloc, World.size_drew, World.size_setCell] at hb); go_simp; try rfl))
            clear hK K
            try simp only [Act.put, List.getElem_toArray, List.getElem_cons_succ, List.getElem_cons_zero, List.setIfInBounds_toArray, List.set_cons_zero, List.set_cons_succ]
            refine wpOrd_call rfl rfl rfl Try.call25 (fun R hR => ?_)
            go_simp
            refine (Next_any _ _ _ (wdN gl r.ao r.sq day k).1 _ hlen (by omega) htx _ (by with_reducible repeat (first | assumption | exact hsvd _ | apply Recs.ext | apply Recs.alloc | apply Recs.drew | (refine Recs.of_ext ?_ (by assumption))))).mono ?_
            rintro e w1 ⟨rfl, E2, d2, rfl⟩
            refine hR _ _ ⟨_, rfl, ?_, ?_⟩
            · (first | exact fun b o hb => Ext.cellOf (by repeat (first | with_reducible exact Ext.refl _ | with_reducible exact Ext.same _ _ _ _ | with_reducible assumption | with_reducible apply Ext.alloc | with_reducible apply Ext.ext | with_reducible apply Ext.drew | (with_reducible refine Ext.setCell ?_ _ _ ?_; rotate_left; (focus (first | omega | (simp only [World.size_alloc, World.size_drew, size_ext, World.size_setCell]; omega)))))) hb | (intro b o hb; (try simp only [size_ext, World.size_alloc, World.size_drew, World.size_setCell] at hb); go_simp; try rfl))
            clear hR R
            simp only [Act.put, List.getElem_toArray, List.getElem_cons_succ, List.getElem_cons_zero, List.setIfInBounds_toArray, List.set_cons_zero, List.set_cons_succ]
            repeat (first | (refine wpOrd_pass rfl rfl ?_; simp only [Act.put, List.getElem_toArray, List.getElem_cons_succ, List.getElem_cons_zero, List.setIfInBounds_toArray, List.set_cons_zero, List.set_cons_succ]) | (refine wpOrd_free (v := ?_) rfl rfl (fun _ hS => ?_) ?_; rotate_left; (focus (go_simp; try with_reducible rfl)); simp only [Act.put, List.getElem_toArray, List.getElem_cons_succ, List.getElem_cons_zero, List.setIfInBounds_toArray, List.set_cons_zero, List.set_cons_succ]))
            refine wpOrd_act rfl rfl (fun K hK => ?_)
            go_simp
            refine hK _ _ ⟨?_, ?_⟩
            · (first | exact fun b o hb => Ext.cellOf (by repeat (first | with_reducible exact Ext.refl _ | with_reducible exact Ext.same _ _ _ _ | with_reducible assumption | with_reducible apply Ext.alloc | with_reducible apply Ext.ext | with_reducible apply Ext.drew | (with_reducible refine Ext.setCell ?_ _ _ ?_; rotate_left; (focus (first | omega | (simp only [World.size_alloc, World.size_drew, size_ext, World.size_setCell]; omega)))))) hb | (intro b o hb; (try simp only [size_ext, World.size_alloc, World.size_drew, World.size_setCell] at hb); go_simp; try rfl))
            clear hK K
            try simp only [Act.put, List.getElem_toArray, List.getElem_cons_succ, List.getElem_cons_zero, List.setIfInBounds_toArray, List.set_cons_zero, List.set_cons_succ]
            refine wpOrd_nil ?_
          all_goals
            go_wp2_with (go_at_call 21; refine (Add_any _ _ _ _ (wdRec r.ao (nextN (wdN gl r.ao r.sq day k).1 r.ao) (day + 1 + k) r.ao (wdN gl r.ao r.sq day k).2) hlen (by omega) htx hnt _ (by with_reducible repeat (first | assumption | exact hsvd _ | apply Recs.ext | apply Recs.alloc | apply Recs.drew | (refine Recs.of_ext ?_ (by assumption))))).mono ?_; rintro e w1 ⟨Ap1, np1, cp1, rfl, hnp1, hvp1, E5, d5, rfl⟩; rw [hae])
          all_goals
            refine ⟨⟨k + 1, X, Ap1, np1, cp1, hsX, by omega, by go_num, ⟨E1'.out, f1, g1, r0, r1, r2, g8, Was.out, (by rw [show (wdN gl r.ao r.sq day (k + 1)).2 = nextN (wdN gl r.ao r.sq day k).1 r.ao from rfl]; exact (by repeat (first | with_reducible exact Ext.refl _ | with_reducible exact Ext.same _ _ _ _ | with_reducible assumption | with_reducible apply Ext.alloc | with_reducible apply Ext.ext | with_reducible apply Ext.drew | (with_reducible refine Ext.setCell ?_ _ _ ?_; rotate_left; (focus (first | omega | (simp only [World.size_alloc, World.size_drew, size_ext, World.size_setCell]; omega))))))), ?_, .inr ?_⟩⟩, by simp [intOf]; omega⟩
            · have h1 := hnp1.out
              rw [Hal.out] at h1
              exact h1.symm
            · have h1 := hvp1
              rw [Hal.out] at h1
              exact OwnR.moved2 h1 (by repeat (first | with_reducible exact Ext.refl _ | with_reducible exact Ext.same _ _ _ _ | with_reducible assumption | with_reducible apply Ext.alloc | with_reducible apply Ext.ext | with_reducible apply Ext.drew | (with_reducible refine Ext.setCell ?_ _ _ ?_; rotate_left; (focus (first | omega | (simp only [World.size_alloc, World.size_drew, size_ext, World.size_setCell]; omega)))))) (by simp [World.size_alloc]) (Nat.le_refl _) (by simp [World.size_alloc]; omega)
        · obtain rfl : k = K := by omega
          obtain ⟨w1, w2, w3, w4⟩ := HW.out k (by omega)
          have hSE := (stands_get w1 w2).1
          have hEk := hEt.out k (by omega)
          have HRk := hid (hRt.out k (by omega))
          have e1 := E1'.out
          have hwas := Was.out
          have Hsl := hid (standingR_len gl r.ship day)
          obtain ⟨kb, hkb⟩ : ∃ kb, (r.kind == 1) = kb := ⟨_, rfl⟩
          have hkd : decide (r.kind = 1) = kb := by rw [← hkb]; rfl
          rw [hkd] at w3
          clear hkd w1 w2 w4
          rcases Nat.mod_two_eq_zero_or_one k with hp | hp
          · rw [if_neg (by omega)] at w3
            have p1 : ((k : Int) % 2 == 1) = false := by simp; omega
            have p2 : ((k : Int).tmod 2 == 1) = false := by rw [Int.tmod_eq_emod_of_nonneg (by omega)]; exact p1
            clear hp
            go_wp2_with (first | (go_at_call 31; refine (Stands_any _ _ _ (wdN gl r.ao r.sq day k).1 _ _ hlen (by omega) htx _ (by with_reducible repeat (first | assumption | exact hsvd _ | apply Recs.ext | apply Recs.alloc | apply Recs.drew | (refine Recs.of_ext ?_ (by assumption))))).mono ?_; rintro e w1 ⟨rfl, E4, d4, rfl⟩; rw [w3, hSE]) | (go_at_call 32; refine (Standing_any _ _ _ (wdN gl r.ao r.sq day k).1 _ _ hlen (by omega) htx _ (by with_reducible repeat (first | assumption | exact hsvd _ | apply Recs.ext | apply Recs.alloc | apply Recs.drew | (refine Recs.of_ext ?_ (by assumption))))).mono ?_; rintro e w1 ⟨Aw2, nw2, cw2, rfl, hnw2, hrw2, E6, d6, rfl⟩; rw [hEk]) | (go_at_call 33; refine (sameRecs_self _ _ _ _ _ _ (standingR gl r.ship day) (standingR (wdN gl r.ao r.sq day k).1 r.ship day) HRk.out (Hnw.out.symm) (hnw2.out.symm) (by have := Hnw.out; have := Hsl.out; have := Hlen.out; omega) _ (by with_reducible repeat (first | assumption | apply Recs.ext | apply Recs.alloc | apply Recs.drew | (refine Recs.of_ext ?_ (by assumption)))) (by with_reducible repeat (first | assumption | apply Recs.ext | apply Recs.alloc | apply Recs.drew | (refine Recs.of_ext ?_ (by assumption))))).mono ?_; rintro e w1 ⟨rfl, E8, d8, rfl⟩) | (go_at_call 30; refine (Mod_any _ _ (by omega) (by omega) _).mono ?_; rintro e w1 ⟨rfl, rfl⟩) | (go_at_call 17; refine (sane_any _).mono ?_; rintro e w1 ⟨rfl, E1, d1, rfl⟩))
            all_goals
              go_ret
              exact ⟨ret_val rfl, (by repeat (first | with_reducible exact Ext.refl _ | with_reducible exact Ext.same _ _ _ _ | with_reducible assumption | with_reducible apply Ext.alloc | with_reducible apply Ext.ext | with_reducible apply Ext.drew | (with_reducible refine Ext.setCell ?_ _ _ ?_; rotate_left; (focus (first | omega | (simp only [World.size_alloc, World.size_drew, size_ext, World.size_setCell]; omega))))))⟩
          · rw [if_pos hp] at w3
            have p1 : ((k : Int) % 2 == 1) = true := by simp; omega
            have p2 : ((k : Int).tmod 2 == 1) = true := by rw [Int.tmod_eq_emod_of_nonneg (by omega)]; exact p1
            clear hp
            go_wp2_with (first | (go_at_call 31; refine (Stands_any _ _ _ (wdN gl r.ao r.sq day k).1 _ _ hlen (by omega) htx _ (by with_reducible repeat (first | assumption | exact hsvd _ | apply Recs.ext | apply Recs.alloc | apply Recs.drew | (refine Recs.of_ext ?_ (by assumption))))).mono ?_; rintro e w1 ⟨rfl, E4, d4, rfl⟩; rw [w3, hSE]) | (go_at_call 32; refine (Standing_any _ _ _ (wdN gl r.ao r.sq day k).1 _ _ hlen (by omega) htx _ (by with_reducible repeat (first | assumption | exact hsvd _ | apply Recs.ext | apply Recs.alloc | apply Recs.drew | (refine Recs.of_ext ?_ (by assumption))))).mono ?_; rintro e w1 ⟨Aw2, nw2, cw2, rfl, hnw2, hrw2, E6, d6, rfl⟩; rw [hEk]) | (go_at_call 33; refine (sameRecs_self _ _ _ _ _ _ (standingR gl r.ship day) (standingR (wdN gl r.ao r.sq day k).1 r.ship day) HRk.out (Hnw.out.symm) (hnw2.out.symm) (by have := Hnw.out; have := Hsl.out; have := Hlen.out; omega) _ (by with_reducible repeat (first | assumption | apply Recs.ext | apply Recs.alloc | apply Recs.drew | (refine Recs.of_ext ?_ (by assumption)))) (by with_reducible repeat (first | assumption | apply Recs.ext | apply Recs.alloc | apply Recs.drew | (refine Recs.of_ext ?_ (by assumption))))).mono ?_; rintro e w1 ⟨rfl, E8, d8, rfl⟩) | (go_at_call 30; refine (Mod_any _ _ (by omega) (by omega) _).mono ?_; rintro e w1 ⟨rfl, rfl⟩) | (go_at_call 17; refine (sane_any _).mono ?_; rintro e w1 ⟨rfl, E1, d1, rfl⟩))
            all_goals
              go_ret
              exact ⟨ret_val rfl, (by repeat (first | with_reducible exact Ext.refl _ | with_reducible exact Ext.same _ _ _ _ | with_reducible assumption | with_reducible apply Ext.alloc | with_reducible apply Ext.ext | with_reducible apply Ext.drew | (with_reducible refine Ext.setCell ?_ _ _ ?_; rotate_left; (focus (first | omega | (simp only [World.size_alloc, World.size_drew, size_ext, World.size_setCell]; omega))))))⟩
end Go.Proofs.Ytekjdeibnfaehaa
