/- The register that numbers describe, in the reference. -/
import Derived.Test.YtekjdeibnfaehaaMade2
import Derived.Test.YtekjdeibnfaehaaRIns
set_option linter.unusedSimpArgs false
set_option linter.unusedVariables false
namespace Go.Proofs.Ytekjdeibnfaehaa
open Go Go.RowKit

def encRaw (x : RawD) : List Value := [.int .i64 x.a0, .int .i64 x.a1, .int .i64 x.a2, .int .i64 x.a3, .int .i64 x.a4, .int .i64 x.a5, .int .i64 x.a6, .string x.text]
/-- A slice of descriptions. -/
def Raws (w : World) (A : Option Addr) (l : List RawD) : Prop := Sl 8 w A l.length (l.flatMap encRaw)
def RawBig (l : List RawD) : Prop := ∀ x ∈ l, x.text.size ≤ 9223372036854775807
theorem Raws.addr {w : World} {A : Option Addr} {l : List RawD} (h : Raws w A l) (h0 : 0 < l.length) : ∃ g o, A = some ⟨g, o, none⟩ ∧ g < w.heap.size := by
  obtain ⟨g, o, h1, h2, _⟩ := h.2 h0
  exact ⟨g, o, h1, h2⟩
theorem Raws.row {w : World} {g o : Nat} {l : List RawD} (h : Raws w (some ⟨g, o, none⟩) l) {i : Nat} (hi : i < l.length) {j : Nat} (hj : j < 8) : w.cell? ⟨g, o + i * 8 + j, none⟩ = (encRaw l[i])[j]? := by
  obtain ⟨g', o', h1, h2, h3⟩ := h.2 (by omega)
  cases h1
  have hf := flatMap_get encRaw 8 (fun _ => rfl) l i j hi hj
  have hl : (encRaw l[i]).length = 8 := rfl
  have hg : (encRaw l[i])[j]? = some ((encRaw l[i])[j]'(by rw [hl]; exact hj)) := List.getElem?_eq_getElem _
  rw [hg] at hf ⊢
  have := h3 (i * 8 + j) _ hf
  rw [← Nat.add_assoc] at this
  exact this
/-- The register of the first descriptions. -/
def regN (l : List RawD) : List Rec := l.foldl (fun g x => insG g (madeR g x)) []
theorem regN_succ (l : List RawD) {k : Nat} (hk : k < l.length) : regN (l.take (k + 1)) = insG (regN (l.take k)) (madeR (regN (l.take k)) l[k]) := by
  unfold regN
  rw [List.take_succ_eq_append_getElem hk, List.foldl_append]
  rfl
/-- What holds of it. -/
structure RegN (g : List Rec) (k : Nat) : Prop where
  sorted : Sorted g
  ok : ∀ r ∈ g, recOk r = true
  len : g.length = k
  sq : ∀ r ∈ g, 0 ≤ r.sq ∧ r.sq < k
theorem RegN.step {g : List Rec} {k : Nat} (h : RegN g k) (hk : k ≤ 9999) (x : RawD) : RegN (insG g (madeR g x)) (k + 1) ∧ insG g (madeR g x) = insR g (madeR g x) := by
  have hb := nextN_bound (N := (k : Int)) (by omega) g (x.a0 % 4) h.sq
  have hno : hasR g (madeR g x).ao (madeR g x).sq = false := by
    rw [madeR_ao, madeR_sq]
    exact has_next h.sorted _
  have e := insG_eq h.sorted hno
  refine ⟨⟨?_, ?_, ?_, ?_⟩, e⟩
  · rw [e]; exact insR_sorted h.sorted hno
  · intro r hr
    rw [e] at hr
    rcases List.mem_cons.1 ((insR_perm g (madeR g x)).mem_iff.1 hr) with rfl | h1
    · exact madeR_ok g x hb.1 (by omega)
    · exact h.ok r h1
  · rw [e, (insR_perm g (madeR g x)).length_eq, List.length_cons, h.len]
  · intro r hr
    rw [e] at hr
    rcases List.mem_cons.1 ((insR_perm g (madeR g x)).mem_iff.1 hr) with rfl | h1
    · rw [madeR_sq]; omega
    · have := h.sq r h1; omega
theorem regN_ok (l : List RawD) : ∀ k, k ≤ l.length → k ≤ 9999 → RegN (regN (l.take k)) k
  | 0, _, _ => ⟨by simp [regN, Sorted], by simp [regN], by simp [regN], by simp [regN]⟩
  | k + 1, h, h9 => by
    have ih := regN_ok l k (by omega) (by omega)
    rw [regN_succ l (by omega)]
    exact (ih.step (by omega) _).1
theorem RegN.check {g : List Rec} {k : Nat} (h : RegN g k) (hk : k ≤ 80) : checkB g = true := checkB_iff.2 ⟨by rw [h.len]; exact hk, h.ok, h.sorted⟩
theorem RegN.sqs {g : List Rec} {k : Nat} (h : RegN g k) (hk : k ≤ 9999) : SqSmall g := fun r hr => by have := h.sq r hr; omega
def fifty (l : List RawD) : Nat := if l.length < 50 then l.length else 50
set_option maxRecDepth 100000 in
set_option maxHeartbeats 8000000 in
theorem Regs_any (A : Option Addr) (c n : Nat) (l : List RawD) (hn : l.length = n) (hbig : n ≤ 9223372036854775807) (hx : RawBig l) (w : World) (hr : Raws w A l) :
    Calls Try.prog 29 #[.slice A n c] w fun e w' => ∃ A' n' c', e = .returned (regV A' n' c') ∧ Hid (n' = (regN (l.take (fifty l))).length) ∧ OwnR w.heap.size w' (.slice A' n' c') (regN (l.take (fifty l))) ∧ Ext w w' := by
  go_enter Try.func29, Try.ntmps29
  go_wp2_with fail
  go_loopw [4] (fun i wr => ∃ (k : Nat) (v : Value), k ≤ n ∧ k ≤ 50 ∧ i = .int .i64 k ∧ Ext (((w.alloc (.cells #[.slice none 0 0] 38))).alloc (.cells #[v] 38)) wr ∧ OwnR (w.heap.size + 1 + 1) wr v (regN (l.take k))) (fun i _ => n - (intOf i).toNat)
  case atStart => exact ⟨0, _, Nat.zero_le _, Nat.zero_le _, rfl, Ext.refl _, by simpa [regN] using OwnR.none _ _⟩
  case round =>
    obtain ⟨k, v, hk, hk5, rfl, ⟨E9, d9, rfl⟩, hown⟩ := hrel
    have Hown := hid hown
    clear hown
    obtain ⟨Av, nv, cv, rfl, hnv, hcv, hsv⟩ := Hown.out.open
    have hR := regN_ok l k (by omega) (by omega)
    have hlen := hR.len
    by_cases hlt : k < n
    · by_cases h50 : k < 50
      · have hm : k < l.length := by omega
        have hst := regN_succ l hm
        have hsq := hR.sqs (by omega)
        have hmem := hx _ (List.getElem_mem hm)
        obtain ⟨g, of, rfl, hg⟩ := hr.addr (by omega)
        have h0 := hr.row hm (show 0 < 8 by decide)
        have h1 := hr.row hm (show 1 < 8 by decide)
        have h2 := hr.row hm (show 2 < 8 by decide)
        have h3 := hr.row hm (show 3 < 8 by decide)
        have h4 := hr.row hm (show 4 < 8 by decide)
        have h5 := hr.row hm (show 5 < 8 by decide)
        have h6 := hr.row hm (show 6 < 8 by decide)
        have h7 := hr.row hm (show 7 < 8 by decide)
        obtain ⟨x, hxk⟩ : ∃ x, l[k] = x := ⟨_, rfl⟩
        rw [hxk] at h0 h1 h2 h3 h4 h5 h6 h7 hst hmem
        obtain ⟨x0, x1, x2, x3, x4, x5, x6, tx⟩ := x
        simp only [encRaw, List.getElem?_cons_zero, List.getElem?_cons_succ, Nat.add_zero] at h0 h1 h2 h3 h4 h5 h6 h7
        have hsvd := fun d' => Recs.of_ext hsv (Ext.same _ _ _ d')
        have hnl : (regN (l.take k)).length = nv := hnv.symm
        have hn5 : nv ≤ 100 := by omega
        obtain ⟨gl, hgl⟩ : ∃ gl, regN (l.take k) = gl := ⟨_, rfl⟩
        have Hst := hid hst
        have Hgl := hid hgl
        rw [hgl] at hsq hsvd hnl
        clear hst hgl hxk hnv hlen hR hsv
        go_wp2_with fail
        refine wp_region_ord (.f 2 (.f 3 (.f 4 (.f 5 (.k 0 (.a 1 (.a 6 (.a 7 (.a 8 .d)))) 1 (.k 0 (.a 6 (.a 7 (.a 8 .d))) 6 (.a 0 (.a 7 (.a 8 .d))))))))) (Ext (((w.alloc (.cells #[.slice none 0 0] 38))))) (by kernel_rfl) (by kernel_rfl) (by repeat (first | (with_reducible first | exact Ext.refl _ | exact Ext.same _ _ _ _ | assumption | apply Ext.alloc | apply Ext.ext | apply Ext.drew) | (with_reducible refine Ext.setCell ?_ _ _ ?_; rotate_left; focus (first | omega | (simp only [zs1, zs2, zs3, size_ext]; omega))) | (with_reducible refine Ext.trans ?_ (by assumption)))) ?_
        repeat ((first | refine wpOrd_pass rfl rfl ?_ | (refine wpOrd_free (v := ?_) rfl rfl (fun _ hS => ?_) ?_; rotate_left; focus (obtain ⟨E9, d9, rfl⟩ := hS; go_simp; try with_reducible rfl))); simp only [Act.put, zp1, zp2, zp3, zp4, zp5, zp6])
        refine wpOrd_fork ?_ ?_
        focus
         refine wpOrd_act rfl rfl (fun K hK => ?_)
         go_simp
         refine hK _ _ ⟨?_, ?_⟩
         · exact (by repeat (first | (with_reducible first | exact Ext.refl _ | exact Ext.same _ _ _ _ | assumption | apply Ext.alloc | apply Ext.ext | apply Ext.drew) | (with_reducible refine Ext.setCell ?_ _ _ ?_; rotate_left; focus (first | omega | (simp only [zs1, zs2, zs3, size_ext]; omega))) | (with_reducible refine Ext.trans ?_ (by assumption))))
         clear hK K
         try simp only [Act.put, zp1, zp2, zp3, zp4, zp5, zp6]
         refine wpOrd_act rfl rfl (fun K hK => ?_)
         go_simp
         refine hK _ _ ⟨?_, ?_⟩
         · exact (by repeat (first | (with_reducible first | exact Ext.refl _ | exact Ext.same _ _ _ _ | assumption | apply Ext.alloc | apply Ext.ext | apply Ext.drew) | (with_reducible refine Ext.setCell ?_ _ _ ?_; rotate_left; focus (first | omega | (simp only [zs1, zs2, zs3, size_ext]; omega))) | (with_reducible refine Ext.trans ?_ (by assumption))))
         clear hK K
         try simp only [Act.put, zp1, zp2, zp3, zp4, zp5, zp6]
         refine wpOrd_call rfl rfl rfl Try.call66 (fun R hR => ?_)
         go_simp
         refine (Made_any _ _ _ _ (⟨x0, x1, x2, x3, x4, x5, x6, tx⟩ : RawD) (by first | rfl | assumption) (by omega) (by assumption) (by first | omega | assumption) _ (by with_reducible repeat (first | assumption | exact hsvd _ | apply Recs.ext | apply Recs.alloc | apply Recs.drew | (refine Recs.of_ext ?_ (by assumption))))).mono ?_
         rintro e w1 ⟨rfl, E201, d201, rfl⟩
         refine hR _ _ ⟨_, rfl, ?_, ?_⟩
         · exact (by repeat (first | (with_reducible first | exact Ext.refl _ | exact Ext.same _ _ _ _ | assumption | apply Ext.alloc | apply Ext.ext | apply Ext.drew) | (with_reducible refine Ext.setCell ?_ _ _ ?_; rotate_left; focus (first | omega | (simp only [zs1, zs2, zs3, size_ext]; omega))) | (with_reducible refine Ext.trans ?_ (by assumption))))
         clear hR R
         simp only [Act.put, zp1, zp2, zp3, zp4, zp5, zp6]
         refine wpOrd_call rfl rfl rfl Try.call60 (fun R hR => ?_)
         go_simp
         refine (rinsert_own _ _ _ _ _ (by first | rfl | assumption) (by omega) _ (by with_reducible repeat (first | assumption | exact hsvd _ | apply Recs.ext | apply Recs.alloc | apply Recs.drew | (refine Recs.of_ext ?_ (by assumption))))).mono ?_
         rintro e w1 ⟨Ai202, ni202, ci202, rfl, hni202, hvi202, E202, d202, rfl⟩
         refine hR _ _ ⟨_, rfl, ?_, ?_⟩
         · exact (by repeat (first | (with_reducible first | exact Ext.refl _ | exact Ext.same _ _ _ _ | assumption | apply Ext.alloc | apply Ext.ext | apply Ext.drew) | (with_reducible refine Ext.setCell ?_ _ _ ?_; rotate_left; focus (first | omega | (simp only [zs1, zs2, zs3, size_ext]; omega))) | (with_reducible refine Ext.trans ?_ (by assumption))))
         clear hR R
         simp only [Act.put, zp1, zp2, zp3, zp4, zp5, zp6]
         refine wpOrd_act rfl rfl (fun K hK => ?_)
         go_simp
         refine hK _ _ ⟨?_, ?_⟩
         · exact (by repeat (first | (with_reducible first | exact Ext.refl _ | exact Ext.same _ _ _ _ | assumption | apply Ext.alloc | apply Ext.ext | apply Ext.drew) | (with_reducible refine Ext.setCell ?_ _ _ ?_; rotate_left; focus (first | omega | (simp only [zs1, zs2, zs3, size_ext]; omega))) | (with_reducible refine Ext.trans ?_ (by assumption))))
         clear hK K
         try simp only [Act.put, zp1, zp2, zp3, zp4, zp5, zp6]
         refine wpOrd_nil ?_
        rotate_right
        focus
         refine wpOrd_act rfl rfl (fun K hK => ?_)
         go_simp
         refine hK _ _ ⟨?_, ?_⟩
         · exact (by repeat (first | (with_reducible first | exact Ext.refl _ | exact Ext.same _ _ _ _ | assumption | apply Ext.alloc | apply Ext.ext | apply Ext.drew) | (with_reducible refine Ext.setCell ?_ _ _ ?_; rotate_left; focus (first | omega | (simp only [zs1, zs2, zs3, size_ext]; omega))) | (with_reducible refine Ext.trans ?_ (by assumption))))
         clear hK K
         try simp only [Act.put, zp1, zp2, zp3, zp4, zp5, zp6]
         refine wpOrd_fork ?_ ?_
         focus
          refine wpOrd_act rfl rfl (fun K hK => ?_)
          go_simp
          refine hK _ _ ⟨?_, ?_⟩
          · exact (by repeat (first | (with_reducible first | exact Ext.refl _ | exact Ext.same _ _ _ _ | assumption | apply Ext.alloc | apply Ext.ext | apply Ext.drew) | (with_reducible refine Ext.setCell ?_ _ _ ?_; rotate_left; focus (first | omega | (simp only [zs1, zs2, zs3, size_ext]; omega))) | (with_reducible refine Ext.trans ?_ (by assumption))))
          clear hK K
          try simp only [Act.put, zp1, zp2, zp3, zp4, zp5, zp6]
          refine wpOrd_call rfl rfl rfl Try.call66 (fun R hR => ?_)
          go_simp
          refine (Made_any _ _ _ _ (⟨x0, x1, x2, x3, x4, x5, x6, tx⟩ : RawD) (by first | rfl | assumption) (by omega) (by assumption) (by first | omega | assumption) _ (by with_reducible repeat (first | assumption | exact hsvd _ | apply Recs.ext | apply Recs.alloc | apply Recs.drew | (refine Recs.of_ext ?_ (by assumption))))).mono ?_
          rintro e w1 ⟨rfl, E203, d203, rfl⟩
          refine hR _ _ ⟨_, rfl, ?_, ?_⟩
          · exact (by repeat (first | (with_reducible first | exact Ext.refl _ | exact Ext.same _ _ _ _ | assumption | apply Ext.alloc | apply Ext.ext | apply Ext.drew) | (with_reducible refine Ext.setCell ?_ _ _ ?_; rotate_left; focus (first | omega | (simp only [zs1, zs2, zs3, size_ext]; omega))) | (with_reducible refine Ext.trans ?_ (by assumption))))
          clear hR R
          simp only [Act.put, zp1, zp2, zp3, zp4, zp5, zp6]
          refine wpOrd_call rfl rfl rfl Try.call60 (fun R hR => ?_)
          go_simp
          refine (rinsert_own _ _ _ _ _ (by first | rfl | assumption) (by omega) _ (by with_reducible repeat (first | assumption | exact hsvd _ | apply Recs.ext | apply Recs.alloc | apply Recs.drew | (refine Recs.of_ext ?_ (by assumption))))).mono ?_
          rintro e w1 ⟨Ai204, ni204, ci204, rfl, hni204, hvi204, E204, d204, rfl⟩
          refine hR _ _ ⟨_, rfl, ?_, ?_⟩
          · exact (by repeat (first | (with_reducible first | exact Ext.refl _ | exact Ext.same _ _ _ _ | assumption | apply Ext.alloc | apply Ext.ext | apply Ext.drew) | (with_reducible refine Ext.setCell ?_ _ _ ?_; rotate_left; focus (first | omega | (simp only [zs1, zs2, zs3, size_ext]; omega))) | (with_reducible refine Ext.trans ?_ (by assumption))))
          clear hR R
          simp only [Act.put, zp1, zp2, zp3, zp4, zp5, zp6]
          refine wpOrd_act rfl rfl (fun K hK => ?_)
          go_simp
          refine hK _ _ ⟨?_, ?_⟩
          · exact (by repeat (first | (with_reducible first | exact Ext.refl _ | exact Ext.same _ _ _ _ | assumption | apply Ext.alloc | apply Ext.ext | apply Ext.drew) | (with_reducible refine Ext.setCell ?_ _ _ ?_; rotate_left; focus (first | omega | (simp only [zs1, zs2, zs3, size_ext]; omega))) | (with_reducible refine Ext.trans ?_ (by assumption))))
          clear hK K
          try simp only [Act.put, zp1, zp2, zp3, zp4, zp5, zp6]
          refine wpOrd_nil ?_
         rotate_right
         focus
          refine wpOrd_call rfl rfl rfl Try.call66 (fun R hR => ?_)
          go_simp
          refine (Made_any _ _ _ _ (⟨x0, x1, x2, x3, x4, x5, x6, tx⟩ : RawD) (by first | rfl | assumption) (by omega) (by assumption) (by first | omega | assumption) _ (by with_reducible repeat (first | assumption | exact hsvd _ | apply Recs.ext | apply Recs.alloc | apply Recs.drew | (refine Recs.of_ext ?_ (by assumption))))).mono ?_
          rintro e w1 ⟨rfl, E205, d205, rfl⟩
          refine hR _ _ ⟨_, rfl, ?_, ?_⟩
          · exact (by repeat (first | (with_reducible first | exact Ext.refl _ | exact Ext.same _ _ _ _ | assumption | apply Ext.alloc | apply Ext.ext | apply Ext.drew) | (with_reducible refine Ext.setCell ?_ _ _ ?_; rotate_left; focus (first | omega | (simp only [zs1, zs2, zs3, size_ext]; omega))) | (with_reducible refine Ext.trans ?_ (by assumption))))
          clear hR R
          simp only [Act.put, zp1, zp2, zp3, zp4, zp5, zp6]
          refine wpOrd_act rfl rfl (fun K hK => ?_)
          go_simp
          refine hK _ _ ⟨?_, ?_⟩
          · exact (by repeat (first | (with_reducible first | exact Ext.refl _ | exact Ext.same _ _ _ _ | assumption | apply Ext.alloc | apply Ext.ext | apply Ext.drew) | (with_reducible refine Ext.setCell ?_ _ _ ?_; rotate_left; focus (first | omega | (simp only [zs1, zs2, zs3, size_ext]; omega))) | (with_reducible refine Ext.trans ?_ (by assumption))))
          clear hK K
          try simp only [Act.put, zp1, zp2, zp3, zp4, zp5, zp6]
          refine wpOrd_call rfl rfl rfl Try.call60 (fun R hR => ?_)
          go_simp
          refine (rinsert_own _ _ _ _ _ (by first | rfl | assumption) (by omega) _ (by with_reducible repeat (first | assumption | exact hsvd _ | apply Recs.ext | apply Recs.alloc | apply Recs.drew | (refine Recs.of_ext ?_ (by assumption))))).mono ?_
          rintro e w1 ⟨Ai206, ni206, ci206, rfl, hni206, hvi206, E206, d206, rfl⟩
          refine hR _ _ ⟨_, rfl, ?_, ?_⟩
          · exact (by repeat (first | (with_reducible first | exact Ext.refl _ | exact Ext.same _ _ _ _ | assumption | apply Ext.alloc | apply Ext.ext | apply Ext.drew) | (with_reducible refine Ext.setCell ?_ _ _ ?_; rotate_left; focus (first | omega | (simp only [zs1, zs2, zs3, size_ext]; omega))) | (with_reducible refine Ext.trans ?_ (by assumption))))
          clear hR R
          simp only [Act.put, zp1, zp2, zp3, zp4, zp5, zp6]
          refine wpOrd_act rfl rfl (fun K hK => ?_)
          go_simp
          refine hK _ _ ⟨?_, ?_⟩
          · exact (by repeat (first | (with_reducible first | exact Ext.refl _ | exact Ext.same _ _ _ _ | assumption | apply Ext.alloc | apply Ext.ext | apply Ext.drew) | (with_reducible refine Ext.setCell ?_ _ _ ?_; rotate_left; focus (first | omega | (simp only [zs1, zs2, zs3, size_ext]; omega))) | (with_reducible refine Ext.trans ?_ (by assumption))))
          clear hK K
          try simp only [Act.put, zp1, zp2, zp3, zp4, zp5, zp6]
          refine wpOrd_nil ?_
        all_goals
          go_wp2_with fail
        all_goals
          refine ⟨⟨k + 1, _, by omega, by omega, by go_num, (by repeat (first | (with_reducible first | exact Ext.refl _ | exact Ext.same _ _ _ _ | assumption | apply Ext.alloc | apply Ext.ext | apply Ext.drew) | (with_reducible refine Ext.setCell ?_ _ _ ?_; rotate_left; focus (first | omega | (simp only [zs1, zs2, zs3, size_ext]; omega))))), ?_⟩, by simp [intOf]; omega⟩
          rw [Hst.out, Hgl.out]
          first | have Ho := hvi202 | have Ho := hvi204 | have Ho := hvi206
          simp only [ext_ext] at Ho ⊢
          exact OwnR.moved (X := ((w.alloc (.cells #[.slice none 0 0] 38))).alloc (.cells #[.slice Av nv cv] 38)) Ho (by simp only [World.size_alloc, size_ext]) (by simp only [World.size_alloc, size_ext]; omega) (by simp only [World.size_alloc, size_ext]; omega)
      · obtain rfl : k = 50 := by omega
        have h5 : fifty l = 50 := by unfold fifty; rw [if_neg (by omega)]
        have Hnv := hid hnv
        clear hnv hlen hR
        go_wp2_with fail
        refine bodyPost_ret (v := regV Av nv cv) (by simp [results, Try.results29, go_sem]) rfl ?_
        refine ⟨_, _, _, rfl, hid (by rw [h5]; exact Hnv.out), ?_, (by repeat (first | (with_reducible first | exact Ext.refl _ | exact Ext.same _ _ _ _ | assumption | apply Ext.alloc | apply Ext.ext | apply Ext.drew) | (with_reducible refine Ext.setCell ?_ _ _ ?_; rotate_left; focus (first | omega | (simp only [zs1, zs2, zs3, size_ext]; omega)))))⟩
        rw [h5]
        exact OwnR.moved (X := ((w.alloc (.cells #[.slice none 0 0] 38))).alloc (.cells #[.slice Av nv cv] 38)) Hown.out (by simp [World.size_alloc]) (by simp [World.size_alloc]) (by omega)
    · obtain rfl : k = n := by omega
      have h5 : fifty l = k := by unfold fifty; split <;> omega
      have Hnv := hid hnv
      clear hnv hlen hR
      go_wp2_with fail
      refine bodyPost_ret (v := regV Av nv cv) (by simp [results, Try.results29, go_sem]) rfl ?_
      refine ⟨_, _, _, rfl, hid (by rw [h5]; exact Hnv.out), ?_, (by repeat (first | (with_reducible first | exact Ext.refl _ | exact Ext.same _ _ _ _ | assumption | apply Ext.alloc | apply Ext.ext | apply Ext.drew) | (with_reducible refine Ext.setCell ?_ _ _ ?_; rotate_left; focus (first | omega | (simp only [zs1, zs2, zs3, size_ext]; omega)))))⟩
      rw [h5]
      exact OwnR.moved (X := ((w.alloc (.cells #[.slice none 0 0] 38))).alloc (.cells #[.slice Av nv cv] 38)) Hown.out (by simp [World.size_alloc]) (by simp [World.size_alloc]) (by omega)
end Go.Proofs.Ytekjdeibnfaehaa
