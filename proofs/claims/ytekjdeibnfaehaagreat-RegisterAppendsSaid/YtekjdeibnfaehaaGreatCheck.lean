/- Valid registers, in the program and in the reference. -/
import Derived.Test.YtekjdeibnfaehaaGreatDecod
set_option linter.unusedSimpArgs false
set_option linter.unusedVariables false
namespace Go.Proofs.YtekjdeibnfaehaaGreat
open Go.RowKit

@[go_sem] theorem lt_add_2 (a b c d : Nat) (h : a < b) : a < b + c + d := by omega
@[go_sem] theorem lt_add_3 (a b c d e : Nat) (h : a < b) : a < b + c + d + e := by omega
@[go_sem] theorem lt_add_4 (a b c d e f : Nat) (h : a < b) : a < b + c + d + e + f := by omega
@[go_sem] theorem lt_add_5 (a b c d e f g : Nat) (h : a < b) : a < b + c + d + e + f + g := by omega
/-- A record's cells. -/
def RecAt (w : World) (g o : Nat) (r : Rec) : Prop :=
  w.cell? ⟨g, o, none⟩ = some (.int .i64 r.ao) ∧ w.cell? ⟨g, o + 1, none⟩ = some (.int .i64 r.sq) ∧ w.cell? ⟨g, o + 2, none⟩ = some (.int .i64 r.kind) ∧ w.cell? ⟨g, o + 3, none⟩ = some (.int .i64 r.ship) ∧
  w.cell? ⟨g, o + 4, none⟩ = some (.int .i64 r.day) ∧ w.cell? ⟨g, o + 5, none⟩ = some (.int .i64 r.known) ∧ w.cell? ⟨g, o + 6, none⟩ = some (.int .i64 r.wo) ∧ w.cell? ⟨g, o + 7, none⟩ = some (.int .i64 r.ws) ∧
  w.cell? ⟨g, o + 8, none⟩ = some (.int .i64 r.to) ∧ w.cell? ⟨g, o + 9, none⟩ = some (.int .i64 r.til) ∧ w.cell? ⟨g, o + 10, none⟩ = some (.string r.text)
theorem Recs.row {w : World} {g o : Nat} {l : List Rec} (h : Recs w (some ⟨g, o, none⟩) l) {i : Nat} (hi : i < l.length) : RecAt w g (o + i * 11) l[i] := by
  obtain ⟨g', o', hA, hg, hc⟩ := h.at_ hi
  cases hA
  exact ⟨hc 0 _ rfl, hc 1 _ rfl, hc 2 _ rfl, hc 3 _ rfl, hc 4 _ rfl, hc 5 _ rfl, hc 6 _ rfl, hc 7 _ rfl, hc 8 _ rfl, hc 9 _ rfl, hc 10 _ rfl⟩
theorem Recs.addr {w : World} {A : Option Addr} {l : List Rec} (h : Recs w A l) (h0 : 0 < l.length) : ∃ g o, A = some ⟨g, o, none⟩ ∧ g < w.heap.size := by
  obtain ⟨g, o, hA, hg, _⟩ := h.at_ h0
  exact ⟨g, o, hA, hg⟩
theorem Recs.of_ext {w w' : World} {A : Option Addr} {l : List Rec} (h : Recs w A l) (hx : Ext w w') : Recs w' A l := Sl.of_ext h hx
theorem Recs.nil (w : World) (A : Option Addr) : Recs w A [] := ⟨rfl, fun h => absurd h (by simp)⟩
/-- A register's value. -/
abbrev regV (A : Option Addr) (n c : Nat) : Value := .agg #[.slice A n c]
/-- Texts that fit. -/
def TxtBig (l : List Rec) : Prop := ∀ r ∈ l, r.text.size ≤ 9223372036854775807

theorem aheadI (a b c d : Int) : decide (cmpP a b c d < 0) = ltP a b c d := by
  rw [Bool.eq_iff_iff, decide_eq_true_eq, cmpP_neg]
set_option maxRecDepth 100000 in
set_option maxHeartbeats 4000000 in
theorem Check_any (A : Option Addr) (c n : Nat) (l : List Rec) (hn : l.length = n) (hbig : n ≤ 9223372036854775807) (ht : TxtBig l) (w : World) (hr : Recs w A l) :
    Calls Tryz.prog 81 #[regV A n c] w fun e w' => e = .returned (.int .i64 (errReg l)) ∧ Ext w w' := by
  by_cases h80 : 80 < n
  · have he : errReg l = 71 := by rw [errReg, checkB_long (by omega)]; rfl
    rw [he]
    clear he
    go_enter Tryz.func81, Tryz.ntmps81
    go_wp2_with fail
    go_ret
    exact ⟨rfl, (by repeat (first | (with_reducible first | exact Ext.refl _ | exact Ext.same _ _ _ _ | assumption | apply Ext.alloc | apply Ext.ext | apply Ext.drew) | (with_reducible refine Ext.setCell ?_ _ _ ?_; rotate_left; focus (first | omega | (simp only [zs1, zs2, zs3, size_ext]; omega)))))⟩
  · have h80' : n ≤ 80 := by omega
    go_enter Tryz.func81, Tryz.ntmps81
    go_wp2_with fail
    go_loopw [12] (fun i wr => ∃ k : Nat, k ≤ n ∧ i = .int .i64 k ∧ Ext (w.alloc (.cells #[.slice A n c] 34)) wr ∧ PreOk l k) (fun i _ => n - (intOf i).toNat)
    case atStart => exact ⟨0, Nat.zero_le _, rfl, Ext.refl _, PreOk.zero _⟩
    case round =>
      obtain ⟨k, hk, rfl, ⟨E0, d0, rfl⟩, hpre⟩ := hrel
      by_cases hlt : k < n
      · obtain ⟨g, o, rfl, hg⟩ := hr.addr (by omega)
        have hks : k < l.length := by omega
        have hrow := hr.row hks
        have htk := ht _ (List.getElem_mem hks)
        obtain ⟨r, hrk⟩ : ∃ r, l[k] = r := ⟨_, rfl⟩
        rw [hrk] at hrow htk
        have Hrk := hid hrk
        clear hrk
        obtain ⟨h0, h1, h2, h3, h4, h5, h6, h7, h8, h9, h10⟩ := hrow
        have bad1 : recOk r = false → errReg l = 71 := fun h => by
          rw [errReg, checkB_rec hks (by rw [Hrk.out]; exact h)]; rfl
        by_cases hk0 : 0 < k
        · obtain ⟨q0, q1, _⟩ := hr.row (i := k - 1) (by omega)
          obtain ⟨p, hpk⟩ : ∃ p, l[k - 1]'(by omega) = p := ⟨_, rfl⟩
          rw [hpk] at q0 q1
          have bad2 : 0 ≤ cmpP p.ao p.sq r.ao r.sq → errReg l = 71 := fun h => by
            rw [errReg, checkB_unsorted hks (by omega)]; · rfl
            rw [hpk, Hrk.out, aheadB, ← aheadI]; simpa using h
          have good : recOk r = true → ¬0 ≤ cmpP p.ao p.sq r.ao r.sq → PreOk l (k + 1) := fun h1 h2 => hpre.succ hks (by rw [Hrk.out]; exact h1) (.inr (by
            rw [hpk, Hrk.out, aheadB, ← aheadI]; simpa using h2))
          clear hpk
          have Bad1 := hid bad1
          have Bad2 := hid bad2
          have Good := hid good
          clear bad1 bad2 good hpre
          have hg1 : g < w.heap.size + 1 + E0.size + 1 := by omega
          have hi1 : (1 : Int) ≤ (k : Int) := by omega
          have hi2 : (k : Int) - 1 < (n : Int) := by omega
          have hi0 : (0 : Int) ≤ (k : Int) - 1 := by omega
          have hi3 : IntKind.i64.wrap ((k : Int) - 1) = (k : Int) - 1 := IntWalk.i64_in _ (by omega)
          have hi4 : ((k : Int) - 1).toNat = k - 1 := by omega
          go_wp2_with fail
          refine wp_region_ord_same (.f 0 (.a 1 (.f 2 (.f 3 (.f 4 (.f 5 (.f 6 (.f 7 (.f 8 (.f 9 (.f 10 (.f 11 (.f 12 (.f 13 (.f 14 (.f 15 (.a 16 (.f 17 (.f 18 (.f 19 .d)))))))))))))))))))) (by kernel_rfl) (by kernel_rfl) ?_
          repeat ((first | refine wpOrd_pass rfl rfl ?_ | (refine wpOrd_free (v := ?_) rfl rfl (fun _ hS => ?_) ?_; rotate_left; focus (go_simp; try with_reducible rfl))); simp only [Act.put, zp1, zp2, zp3, zp4, zp5, zp6])
          refine wpOrd_call rfl rfl rfl Tryz.call107 (fun R hR => ?_)
          go_simp
          refine (isRecord_any _ _ (by assumption)).mono ?_
          rintro e w1 ⟨rfl, E, d, rfl⟩
          refine hR _ _ ⟨_, rfl, ?_, ?_⟩
          · (first | exact fun b o hb => Ext.cellOf (by repeat (first | (with_reducible first | exact Ext.refl _ | exact Ext.same _ _ _ _ | assumption | apply Ext.alloc | apply Ext.ext | apply Ext.drew) | (with_reducible refine Ext.setCell ?_ _ _ ?_; rotate_left; focus (first | omega | (simp only [zs1, zs2, zs3, size_ext]; omega))))) hb | (intro b o hb; (try simp only [size_ext, zs1, zs2, zs3] at hb); go_simp; try rfl))
          clear hR R
          simp only [Act.put, zp1, zp2, zp3, zp4, zp5, zp6]
          repeat ((first | refine wpOrd_pass rfl rfl ?_ | (refine wpOrd_free (v := ?_) rfl rfl (fun _ hS => ?_) ?_; rotate_left; focus (go_simp; try with_reducible rfl))); simp only [Act.put, zp1, zp2, zp3, zp4, zp5, zp6])
          refine ord_bool (j := 3) rfl (fun hb3 => ?_) (fun hb3 => ?_)
          rotate_left
          focus
           try (exfalso; first | (simp at hb3; done) | (simp at hb3; omega))
           all_goals
            (try simp only [hb3])
            repeat ((first | refine wpOrd_pass rfl rfl ?_ | (refine wpOrd_free (v := ?_) rfl rfl (fun _ hS => ?_) ?_; rotate_left; focus (go_simp; try with_reducible rfl))); simp only [Act.put, zp1, zp2, zp3, zp4, zp5, zp6])
            refine ord_bool (j := 6) rfl (fun hb6 => ?_) (fun hb6 => ?_)
            rotate_left
            focus
             try (exfalso; first | (simp at hb6; done) | (simp at hb6; omega))
             all_goals
              (try simp only [hb6])
              repeat ((first | refine wpOrd_pass rfl rfl ?_ | (refine wpOrd_free (v := ?_) rfl rfl (fun _ hS => ?_) ?_; rotate_left; focus (go_simp; try with_reducible rfl))); simp only [Act.put, zp1, zp2, zp3, zp4, zp5, zp6])
              refine wpOrd_actPass rfl rfl ?_ ?_
              · (first | exact fun b o hb => Ext.cellOf (by repeat (first | (with_reducible first | exact Ext.refl _ | exact Ext.same _ _ _ _ | assumption | apply Ext.alloc | apply Ext.ext | apply Ext.drew) | (with_reducible refine Ext.setCell ?_ _ _ ?_; rotate_left; focus (first | omega | (simp only [zs1, zs2, zs3, size_ext]; omega))))) hb | (intro b o hb; (try simp only [size_ext, zs1, zs2, zs3] at hb); go_simp; try rfl))
              simp only [Act.put, zp1, zp2, zp3, zp4, zp5, zp6]
              repeat ((first | refine wpOrd_pass rfl rfl ?_ | (refine wpOrd_free (v := ?_) rfl rfl (fun _ hS => ?_) ?_; rotate_left; focus (go_simp; try with_reducible rfl))); simp only [Act.put, zp1, zp2, zp3, zp4, zp5, zp6])
              refine wpOrd_nil ?_
            rotate_right
            focus
             try (exfalso; first | (simp at hb6; done) | (simp at hb6; omega))
             all_goals
              (try simp only [hb6])
              repeat ((first | refine wpOrd_pass rfl rfl ?_ | (refine wpOrd_free (v := ?_) rfl rfl (fun _ hS => ?_) ?_; rotate_left; focus (go_simp; try with_reducible rfl))); simp only [Act.put, zp1, zp2, zp3, zp4, zp5, zp6])
              refine wpOrd_call rfl rfl rfl Tryz.call122 (fun R hR => ?_)
              go_simp
              refine (compare_any _ _ _ _ _).mono ?_
              rintro e w1 ⟨rfl, E, d, rfl⟩
              refine hR _ _ ⟨_, rfl, ?_, ?_⟩
              · (first | exact fun b o hb => Ext.cellOf (by repeat (first | (with_reducible first | exact Ext.refl _ | exact Ext.same _ _ _ _ | assumption | apply Ext.alloc | apply Ext.ext | apply Ext.drew) | (with_reducible refine Ext.setCell ?_ _ _ ?_; rotate_left; focus (first | omega | (simp only [zs1, zs2, zs3, size_ext]; omega))))) hb | (intro b o hb; (try simp only [size_ext, zs1, zs2, zs3] at hb); go_simp; try rfl))
              clear hR R
              simp only [Act.put, zp1, zp2, zp3, zp4, zp5, zp6]
              repeat ((first | refine wpOrd_pass rfl rfl ?_ | (refine wpOrd_free (v := ?_) rfl rfl (fun _ hS => ?_) ?_; rotate_left; focus (go_simp; try with_reducible rfl))); simp only [Act.put, zp1, zp2, zp3, zp4, zp5, zp6])
              refine wpOrd_nil ?_
          rotate_right
          focus
           try (exfalso; first | (simp at hb3; done) | (simp at hb3; omega))
           all_goals
            (try simp only [hb3])
            repeat ((first | refine wpOrd_pass rfl rfl ?_ | (refine wpOrd_free (v := ?_) rfl rfl (fun _ hS => ?_) ?_; rotate_left; focus (go_simp; try with_reducible rfl))); simp only [Act.put, zp1, zp2, zp3, zp4, zp5, zp6])
            refine wpOrd_actPass rfl rfl ?_ ?_
            · (first | exact fun b o hb => Ext.cellOf (by repeat (first | (with_reducible first | exact Ext.refl _ | exact Ext.same _ _ _ _ | assumption | apply Ext.alloc | apply Ext.ext | apply Ext.drew) | (with_reducible refine Ext.setCell ?_ _ _ ?_; rotate_left; focus (first | omega | (simp only [zs1, zs2, zs3, size_ext]; omega))))) hb | (intro b o hb; (try simp only [size_ext, zs1, zs2, zs3] at hb); go_simp; try rfl))
            simp only [Act.put, zp1, zp2, zp3, zp4, zp5, zp6]
            repeat ((first | refine wpOrd_pass rfl rfl ?_ | (refine wpOrd_free (v := ?_) rfl rfl (fun _ hS => ?_) ?_; rotate_left; focus (go_simp; try with_reducible rfl))); simp only [Act.put, zp1, zp2, zp3, zp4, zp5, zp6])
            refine wpOrd_nil ?_
          all_goals
            go_wp2_with fail
          all_goals first
            | (go_ret; exact ⟨ret_val (by show Value.int .i64 _ = _; rw [Bad1.out (by simpa using hb3)]), (by repeat (first | (with_reducible first | exact Ext.refl _ | exact Ext.same _ _ _ _ | assumption | apply Ext.alloc | apply Ext.ext | apply Ext.drew) | (with_reducible refine Ext.setCell ?_ _ _ ?_; rotate_left; focus (first | omega | (simp only [zs1, zs2, zs3, size_ext]; omega)))))⟩)
            | (go_ret; exact ⟨ret_val (by show Value.int .i64 _ = _; rw [Bad2.out (by first | assumption | omega)]), (by repeat (first | (with_reducible first | exact Ext.refl _ | exact Ext.same _ _ _ _ | assumption | apply Ext.alloc | apply Ext.ext | apply Ext.drew) | (with_reducible refine Ext.setCell ?_ _ _ ?_; rotate_left; focus (first | omega | (simp only [zs1, zs2, zs3, size_ext]; omega)))))⟩)
            | exact ⟨⟨k + 1, by omega, by go_num, (by repeat (first | (with_reducible first | exact Ext.refl _ | exact Ext.same _ _ _ _ | assumption | apply Ext.alloc | apply Ext.ext | apply Ext.drew) | (with_reducible refine Ext.setCell ?_ _ _ ?_; rotate_left; focus (first | omega | (simp only [zs1, zs2, zs3, size_ext]; omega))))), Good.out (by simpa using hb3) (by omega)⟩, by simp [intOf]; omega⟩
        · have Bad1 := hid bad1
          have good : recOk r = true → PreOk l (k + 1) := fun h1 => hpre.succ hks (by rw [Hrk.out]; exact h1) (.inl (by omega))
          have Good := hid good
          clear bad1 good hpre
          go_wp2_with fail
          refine wp_region_ord_same (.f 0 (.a 1 (.f 2 (.f 3 (.f 4 (.f 5 (.f 6 (.f 7 (.f 8 (.f 9 (.f 10 (.f 11 (.f 12 (.f 13 (.f 14 (.f 15 (.a 16 (.f 17 (.f 18 (.f 19 .d)))))))))))))))))))) (by kernel_rfl) (by kernel_rfl) ?_
          repeat ((first | refine wpOrd_pass rfl rfl ?_ | (refine wpOrd_free (v := ?_) rfl rfl (fun _ hS => ?_) ?_; rotate_left; focus (go_simp; try with_reducible rfl))); simp only [Act.put, zp1, zp2, zp3, zp4, zp5, zp6])
          refine wpOrd_call rfl rfl rfl Tryz.call107 (fun R hR => ?_)
          go_simp
          refine (isRecord_any _ _ (by assumption)).mono ?_
          rintro e w1 ⟨rfl, E, d, rfl⟩
          refine hR _ _ ⟨_, rfl, ?_, ?_⟩
          · (first | exact fun b o hb => Ext.cellOf (by repeat (first | (with_reducible first | exact Ext.refl _ | exact Ext.same _ _ _ _ | assumption | apply Ext.alloc | apply Ext.ext | apply Ext.drew) | (with_reducible refine Ext.setCell ?_ _ _ ?_; rotate_left; focus (first | omega | (simp only [zs1, zs2, zs3, size_ext]; omega))))) hb | (intro b o hb; (try simp only [size_ext, zs1, zs2, zs3] at hb); go_simp; try rfl))
          clear hR R
          simp only [Act.put, zp1, zp2, zp3, zp4, zp5, zp6]
          repeat ((first | refine wpOrd_pass rfl rfl ?_ | (refine wpOrd_free (v := ?_) rfl rfl (fun _ hS => ?_) ?_; rotate_left; focus (go_simp; try with_reducible rfl))); simp only [Act.put, zp1, zp2, zp3, zp4, zp5, zp6])
          refine ord_bool (j := 3) rfl (fun hb3 => ?_) (fun hb3 => ?_)
          rotate_left
          focus
           try (exfalso; first | (simp at hb3; done) | (simp at hb3; omega))
           all_goals
            (try simp only [hb3])
            repeat ((first | refine wpOrd_pass rfl rfl ?_ | (refine wpOrd_free (v := ?_) rfl rfl (fun _ hS => ?_) ?_; rotate_left; focus (go_simp; try with_reducible rfl))); simp only [Act.put, zp1, zp2, zp3, zp4, zp5, zp6])
            refine ord_bool (j := 6) rfl (fun hb6 => ?_) (fun hb6 => ?_)
            rotate_left
            focus
             try (exfalso; first | (simp at hb6; done) | (simp at hb6; omega))
             all_goals
              (try simp only [hb6])
              repeat ((first | refine wpOrd_pass rfl rfl ?_ | (refine wpOrd_free (v := ?_) rfl rfl (fun _ hS => ?_) ?_; rotate_left; focus (go_simp; try with_reducible rfl))); simp only [Act.put, zp1, zp2, zp3, zp4, zp5, zp6])
              refine wpOrd_actPass rfl rfl ?_ ?_
              · (first | exact fun b o hb => Ext.cellOf (by repeat (first | (with_reducible first | exact Ext.refl _ | exact Ext.same _ _ _ _ | assumption | apply Ext.alloc | apply Ext.ext | apply Ext.drew) | (with_reducible refine Ext.setCell ?_ _ _ ?_; rotate_left; focus (first | omega | (simp only [zs1, zs2, zs3, size_ext]; omega))))) hb | (intro b o hb; (try simp only [size_ext, zs1, zs2, zs3] at hb); go_simp; try rfl))
              simp only [Act.put, zp1, zp2, zp3, zp4, zp5, zp6]
              repeat ((first | refine wpOrd_pass rfl rfl ?_ | (refine wpOrd_free (v := ?_) rfl rfl (fun _ hS => ?_) ?_; rotate_left; focus (go_simp; try with_reducible rfl))); simp only [Act.put, zp1, zp2, zp3, zp4, zp5, zp6])
              refine wpOrd_nil ?_
            rotate_right
            focus
             try (exfalso; first | (simp at hb6; done) | (simp at hb6; omega))
             all_goals
              (try simp only [hb6])
              repeat ((first | refine wpOrd_pass rfl rfl ?_ | (refine wpOrd_free (v := ?_) rfl rfl (fun _ hS => ?_) ?_; rotate_left; focus (go_simp; try with_reducible rfl))); simp only [Act.put, zp1, zp2, zp3, zp4, zp5, zp6])
              refine wpOrd_call rfl rfl rfl Tryz.call122 (fun R hR => ?_)
              go_simp
              refine (compare_any _ _ _ _ _).mono ?_
              rintro e w1 ⟨rfl, E, d, rfl⟩
              refine hR _ _ ⟨_, rfl, ?_, ?_⟩
              · (first | exact fun b o hb => Ext.cellOf (by repeat (first | (with_reducible first | exact Ext.refl _ | exact Ext.same _ _ _ _ | assumption | apply Ext.alloc | apply Ext.ext | apply Ext.drew) | (with_reducible refine Ext.setCell ?_ _ _ ?_; rotate_left; focus (first | omega | (simp only [zs1, zs2, zs3, size_ext]; omega))))) hb | (intro b o hb; (try simp only [size_ext, zs1, zs2, zs3] at hb); go_simp; try rfl))
              clear hR R
              simp only [Act.put, zp1, zp2, zp3, zp4, zp5, zp6]
              repeat ((first | refine wpOrd_pass rfl rfl ?_ | (refine wpOrd_free (v := ?_) rfl rfl (fun _ hS => ?_) ?_; rotate_left; focus (go_simp; try with_reducible rfl))); simp only [Act.put, zp1, zp2, zp3, zp4, zp5, zp6])
              refine wpOrd_nil ?_
          rotate_right
          focus
           try (exfalso; first | (simp at hb3; done) | (simp at hb3; omega))
           all_goals
            (try simp only [hb3])
            repeat ((first | refine wpOrd_pass rfl rfl ?_ | (refine wpOrd_free (v := ?_) rfl rfl (fun _ hS => ?_) ?_; rotate_left; focus (go_simp; try with_reducible rfl))); simp only [Act.put, zp1, zp2, zp3, zp4, zp5, zp6])
            refine wpOrd_actPass rfl rfl ?_ ?_
            · (first | exact fun b o hb => Ext.cellOf (by repeat (first | (with_reducible first | exact Ext.refl _ | exact Ext.same _ _ _ _ | assumption | apply Ext.alloc | apply Ext.ext | apply Ext.drew) | (with_reducible refine Ext.setCell ?_ _ _ ?_; rotate_left; focus (first | omega | (simp only [zs1, zs2, zs3, size_ext]; omega))))) hb | (intro b o hb; (try simp only [size_ext, zs1, zs2, zs3] at hb); go_simp; try rfl))
            simp only [Act.put, zp1, zp2, zp3, zp4, zp5, zp6]
            repeat ((first | refine wpOrd_pass rfl rfl ?_ | (refine wpOrd_free (v := ?_) rfl rfl (fun _ hS => ?_) ?_; rotate_left; focus (go_simp; try with_reducible rfl))); simp only [Act.put, zp1, zp2, zp3, zp4, zp5, zp6])
            refine wpOrd_nil ?_
          all_goals
            go_wp2_with fail
          all_goals first
            | (go_ret; exact ⟨ret_val (by show Value.int .i64 _ = _; rw [Bad1.out (by simpa using hb3)]), (by repeat (first | (with_reducible first | exact Ext.refl _ | exact Ext.same _ _ _ _ | assumption | apply Ext.alloc | apply Ext.ext | apply Ext.drew) | (with_reducible refine Ext.setCell ?_ _ _ ?_; rotate_left; focus (first | omega | (simp only [zs1, zs2, zs3, size_ext]; omega)))))⟩)
            | exact ⟨⟨k + 1, by omega, by go_num, (by repeat (first | (with_reducible first | exact Ext.refl _ | exact Ext.same _ _ _ _ | assumption | apply Ext.alloc | apply Ext.ext | apply Ext.drew) | (with_reducible refine Ext.setCell ?_ _ _ ?_; rotate_left; focus (first | omega | (simp only [zs1, zs2, zs3, size_ext]; omega))))), Good.out (by simpa using hb3)⟩, by simp [intOf]; omega⟩
      · obtain rfl : k = n := by omega
        have he : errReg l = 0 := by
          subst hn
          rw [errReg, hpre.done (by omega)]; rfl
        have HE := hid he
        clear he hpre
        go_wp2_with fail
        go_ret
        exact ⟨ret_val (by rw [HE.out]; rfl), (by repeat (first | (with_reducible first | exact Ext.refl _ | exact Ext.same _ _ _ _ | assumption | apply Ext.alloc | apply Ext.ext | apply Ext.drew) | (with_reducible refine Ext.setCell ?_ _ _ ?_; rotate_left; focus (first | omega | (simp only [zs1, zs2, zs3, size_ext]; omega)))))⟩
end Go.Proofs.YtekjdeibnfaehaaGreat
