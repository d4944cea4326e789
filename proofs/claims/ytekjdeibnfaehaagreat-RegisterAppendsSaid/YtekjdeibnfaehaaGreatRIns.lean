/- The reference's way of putting a record in. -/
import Derived.Test.YtekjdeibnfaehaaGreatAppB
set_option linter.unusedSimpArgs false
set_option linter.unusedVariables false
namespace Go.Proofs.YtekjdeibnfaehaaGreat
open Go.RowKit

/-- The list so far. -/
def outG (l : List Rec) (r : Rec) (k : Nat) : List Rec := if anyAhead (l.take k) r = true then insG (l.take k) r else l.take k
theorem outG_zero (l : List Rec) (r : Rec) : outG l r 0 = [] := by simp [outG, anyAhead]
theorem anyAhead_succ (l : List Rec) (r : Rec) {k : Nat} (hk : k < l.length) : anyAhead (l.take (k + 1)) r = (anyAhead (l.take k) r || aheadB r l[k]) := by
  rw [List.take_succ_eq_append_getElem hk, anyAhead_snoc]
theorem outG_done {l : List Rec} {r : Rec} {k : Nat} (hk : k < l.length) (h : anyAhead (l.take k) r = true) : outG l r (k + 1) = outG l r k ++ [l[k]] := by
  unfold outG
  rw [anyAhead_succ l r hk, h, if_pos (by simp), if_pos (by simp), List.take_succ_eq_append_getElem hk, insG_snoc_any _ h]
theorem outG_new {l : List Rec} {r : Rec} {k : Nat} (hk : k < l.length) (h : anyAhead (l.take k) r = false) (hx : aheadB r l[k] = true) : outG l r (k + 1) = (outG l r k ++ [r]) ++ [l[k]] := by
  unfold outG
  rw [anyAhead_succ l r hk, h, if_pos (by simp [hx]), if_neg (by simp), List.take_succ_eq_append_getElem hk, insG_snoc_new _ h hx]
  simp
theorem outG_no {l : List Rec} {r : Rec} {k : Nat} (hk : k < l.length) (h : anyAhead (l.take k) r = false) (hx : aheadB r l[k] = false) : outG l r (k + 1) = outG l r k ++ [l[k]] := by
  unfold outG
  rw [anyAhead_succ l r hk, h, if_neg (by simp [hx]), if_neg (by simp), List.take_succ_eq_append_getElem hk]
theorem outG_length (l : List Rec) (r : Rec) {k : Nat} (hk : k ≤ l.length) : (outG l r k).length ≤ k + 1 := by
  unfold outG
  split
  · have : (insG (l.take k) r).length = k + 1 := by
      unfold insG
      have := congrArg List.length (List.takeWhile_append_dropWhile (p := fun x => !aheadB r x) (l := l.take k))
      simp only [List.length_append, List.length_cons, List.length_take] at this ⊢
      omega
    omega
  · simp; omega
theorem outG_end_true {l : List Rec} {r : Rec} (h : anyAhead (l.take l.length) r = true) : outG l r l.length = insG l r := by
  unfold outG; rw [if_pos h, List.take_length]
theorem outG_end_false {l : List Rec} {r : Rec} (h : anyAhead (l.take l.length) r = false) : outG l r l.length ++ [r] = insG l r := by
  unfold outG
  rw [if_neg (by simp only [h]; decide), List.take_length]
  rw [List.take_length] at h
  rw [insG_none h]
set_option maxRecDepth 100000 in
set_option maxHeartbeats 8000000 in
theorem rinsert_any (A : Option Addr) (c n : Nat) (l : List Rec) (r : Rec) (hn : l.length = n) (hbig : n ≤ 100000) (w : World) (hr : Recs w A l) :
    Calls Tryz.prog 127 #[regV A n c, recV r] w fun e w' => ∃ v, e = .returned (.agg #[v]) ∧ OwnR w.heap.size w' v (insG l r) ∧ Ext w w' := by
  go_enter Tryz.func127, Tryz.ntmps127
  go_wp2_with fail
  go_loopw [6, 7] (fun dn i wr => ∃ (k : Nat) (v : Value), k ≤ n ∧ i = .int .i64 k ∧ dn = .bool (anyAhead (l.take k) r) ∧ Ext ((((w.alloc (.cells #[.slice A n c] 34)).alloc (.cells #[.int .i64 r.ao, .int .i64 r.sq, .int .i64 r.kind, .int .i64 r.ship, .int .i64 r.day, .int .i64 r.known, .int .i64 r.wo, .int .i64 r.ws, .int .i64 r.to, .int .i64 r.til, .string r.text] 46)).alloc (.cells #[.slice none 0 0] 34)).alloc (.cells #[v] 34)) wr ∧ OwnR (w.heap.size + 1 + 1 + 1 + 1) wr v (outG l r k)) (fun _ i _ => n - (intOf i).toNat)
  case atStart => exact ⟨0, _, Nat.zero_le _, rfl, rfl, Ext.refl _, by rw [outG_zero]; exact OwnR.none _ _⟩
  case round =>
    obtain ⟨k, v, hk, rfl, rfl, ⟨E0, d0, rfl⟩, hown⟩ := hrel
    have Hown := hid hown
    clear hown
    by_cases hlt : k < n
    · have hm : k < l.length := by omega
      obtain ⟨g, of, rfl, hg⟩ := hr.addr (by omega)
      have hrow := hr.row hm
      have hol := outG_length l r (k := k) (by omega)
      have o1 := outG_done (r := r) hm
      have o2 := outG_new (r := r) hm
      have o3 := outG_no (r := r) hm
      have o4 := anyAhead_succ l r hm
      obtain ⟨q, hq⟩ : ∃ q, l[k] = q := ⟨_, rfl⟩
      rw [hq] at hrow o1 o2 o3 o4
      obtain ⟨h0, h1, h2, h3, h4, h5, h6, h7, h8, h9, h10⟩ := hrow
      have hpl : ltP r.ao r.sq q.ao q.sq = aheadB r q := rfl
      have Hol := hid hol
      clear hol hq
      cases hat : anyAhead (l.take k) r with
      | true =>
        have O1 := hid (o1 hat)
        rw [hat] at o4
        have O4 := hid o4
        clear o1 o2 o3 o4 hat
        go_wp2_with fail
        refine wp_region_ord_same (.f 0 (.f 1 (.f 2 (.f 3 (.f 4 (.f 5 (.f 6 (.f 7 (.f 8 (.f 9 (.f 10 (.a 11 (.f 12 .d))))))))))))) (by kernel_rfl) (by kernel_rfl) ?_
        repeat ((first | refine wpOrd_pass rfl rfl ?_ | (refine wpOrd_free (v := ?_) rfl rfl (fun _ hS => ?_) ?_; rotate_left; focus (go_simp; try with_reducible rfl))); simp only [Act.put, zp1, zp2, zp3, zp4, zp5, zp6])
        refine ord_bool (j := 2) rfl (fun hb2 => ?_) (fun hb2 => ?_)
        rotate_left
        focus
         try (exfalso; first | (simp at hb2; done) | (simp at hb2; omega))
         all_goals
          (try simp only [hb2])
          repeat ((first | refine wpOrd_pass rfl rfl ?_ | (refine wpOrd_free (v := ?_) rfl rfl (fun _ hS => ?_) ?_; rotate_left; focus (go_simp; try with_reducible rfl))); simp only [Act.put, zp1, zp2, zp3, zp4, zp5, zp6])
          refine wpOrd_actPass rfl rfl ?_ ?_
          · (first | exact fun b o hb => Ext.cellOf (by repeat (first | (with_reducible first | exact Ext.refl _ | exact Ext.same _ _ _ _ | assumption | apply Ext.alloc | apply Ext.ext | apply Ext.drew) | (with_reducible refine Ext.setCell ?_ _ _ ?_; rotate_left; focus (first | omega | (simp only [zs1, zs2, zs3, size_ext]; omega))))) hb | (intro b o hb; (try simp only [size_ext, zs1, zs2, zs3] at hb); go_simp; try rfl))
          simp only [Act.put, zp1, zp2, zp3, zp4, zp5, zp6]
          repeat ((first | refine wpOrd_pass rfl rfl ?_ | (refine wpOrd_free (v := ?_) rfl rfl (fun _ hS => ?_) ?_; rotate_left; focus (go_simp; try with_reducible rfl))); simp only [Act.put, zp1, zp2, zp3, zp4, zp5, zp6])
          refine wpOrd_nil ?_
        rotate_right
        focus
         try (exfalso; first | (simp at hb2; done) | (simp at hb2; omega))
         all_goals
          (try simp only [hb2])
          repeat ((first | refine wpOrd_pass rfl rfl ?_ | (refine wpOrd_free (v := ?_) rfl rfl (fun _ hS => ?_) ?_; rotate_left; focus (go_simp; try with_reducible rfl))); simp only [Act.put, zp1, zp2, zp3, zp4, zp5, zp6])
          refine wpOrd_call rfl rfl rfl Tryz.call136 (fun R hR => ?_)
          go_simp
          refine (Ahead_any _ _ _ _ _).mono ?_
          rintro e w1 ⟨rfl, E1, d1, rfl⟩
          refine hR _ _ ⟨_, rfl, ?_, ?_⟩
          · (first | exact fun b o hb => Ext.cellOf (by repeat (first | (with_reducible first | exact Ext.refl _ | exact Ext.same _ _ _ _ | assumption | apply Ext.alloc | apply Ext.ext | apply Ext.drew) | (with_reducible refine Ext.setCell ?_ _ _ ?_; rotate_left; focus (first | omega | (simp only [zs1, zs2, zs3, size_ext]; omega))))) hb | (intro b o hb; (try simp only [size_ext, zs1, zs2, zs3] at hb); go_simp; try rfl))
          clear hR R
          simp only [Act.put, zp1, zp2, zp3, zp4, zp5, zp6]
          repeat ((first | refine wpOrd_pass rfl rfl ?_ | (refine wpOrd_free (v := ?_) rfl rfl (fun _ hS => ?_) ?_; rotate_left; focus (go_simp; try with_reducible rfl))); simp only [Act.put, zp1, zp2, zp3, zp4, zp5, zp6])
          refine wpOrd_nil ?_
        go_wp2_with fail
        refine wp_region_ord (.f 0 (.f 2 (.f 3 (.f 4 (.f 5 (.f 6 (.k 1 (.a 7 (.a 8 (.f 9 (.a 10 .d)))) 7 (.a 1 (.a 8 (.f 9 (.a 10 .d))))))))))) (Ext ((((w.alloc (.cells #[.slice (some ⟨g, of, none⟩) n c] 34)).alloc (.cells #[.int .i64 r.ao, .int .i64 r.sq, .int .i64 r.kind, .int .i64 r.ship, .int .i64 r.day, .int .i64 r.known, .int .i64 r.wo, .int .i64 r.ws, .int .i64 r.to, .int .i64 r.til, .string r.text] 46)).alloc (.cells #[.slice none 0 0] 34)))) (by kernel_rfl) (by kernel_rfl) (by repeat (first | (with_reducible first | exact Ext.refl _ | exact Ext.same _ _ _ _ | assumption | apply Ext.alloc | apply Ext.ext | apply Ext.drew) | (with_reducible refine Ext.setCell ?_ _ _ ?_; rotate_left; focus (first | omega | (simp only [zs1, zs2, zs3, size_ext]; omega))) | (with_reducible refine Ext.trans ?_ (by assumption)))) ?_
        repeat ((first | refine wpOrd_pass rfl rfl ?_ | (refine wpOrd_free (v := ?_) rfl rfl (fun _ hS => ?_) ?_; rotate_left; focus (obtain ⟨E9, d9, rfl⟩ := hS; go_simp; try with_reducible rfl))); simp only [Act.put, zp1, zp2, zp3, zp4, zp5, zp6])
        refine wpOrd_fork ?_ ?_
        focus
         refine wpOrd_act rfl rfl (fun K hK => ?_)
         go_simp
         refine hK _ _ ⟨?_, ?_⟩
         · exact (by repeat (first | (with_reducible first | exact Ext.refl _ | exact Ext.same _ _ _ _ | assumption | apply Ext.alloc | apply Ext.ext | apply Ext.drew) | (with_reducible refine Ext.setCell ?_ _ _ ?_; rotate_left; focus (first | omega | (simp only [zs1, zs2, zs3, size_ext]; omega))) | (with_reducible refine Ext.trans ?_ (by assumption))))
         clear hK K
         try simp only [Act.put, zp1, zp2, zp3, zp4, zp5, zp6]
         refine wpOrd_act rfl rfl (fun K hK => ?_)
         go_simp
         refine hK _ _ ⟨?_, ?_⟩
         · exact (by repeat (first | (with_reducible first | exact Ext.refl _ | exact Ext.same _ _ _ _ | assumption | apply Ext.alloc | apply Ext.ext | apply Ext.drew) | (with_reducible refine Ext.setCell ?_ _ _ ?_; rotate_left; focus (first | omega | (simp only [zs1, zs2, zs3, size_ext]; omega))) | (with_reducible refine Ext.trans ?_ (by assumption))))
         clear hK K
         try simp only [Act.put, zp1, zp2, zp3, zp4, zp5, zp6]
         refine wpOrd_arec rfl ((((w.alloc (.cells #[.slice (some ⟨g, of, none⟩) n c] 34)).alloc (.cells #[.int .i64 r.ao, .int .i64 r.sq, .int .i64 r.kind, .int .i64 r.ship, .int .i64 r.day, .int .i64 r.known, .int .i64 r.wo, .int .i64 r.ws, .int .i64 r.to, .int .i64 r.til, .string r.text] 46)).alloc (.cells #[.slice none 0 0] 34)).alloc (.cells #[v] 34)) (w.heap.size + 1 + 1 + 1 + 1) (by simp [World.size_alloc]) rfl rfl _ _ rfl [q] rfl (by exact (by repeat (first | (with_reducible first | exact Ext.refl _ | exact Ext.same _ _ _ _ | assumption | apply Ext.alloc | apply Ext.ext | apply Ext.drew) | (with_reducible refine Ext.setCell ?_ _ _ ?_; rotate_left; focus (first | omega | (simp only [zs1, zs2, zs3, size_ext]; omega)))))) (by exact Hown.out.of_ext (by repeat (first | (with_reducible first | exact Ext.refl _ | exact Ext.same _ _ _ _ | assumption | apply Ext.alloc | apply Ext.ext | apply Ext.drew) | (with_reducible refine Ext.setCell ?_ _ _ ?_; rotate_left; focus (first | omega | (simp only [zs1, zs2, zs3, size_ext]; omega)))))) rfl rfl (Sl_at (encRec q) _ 11 1 _ rfl (by simp [World.size_alloc])) (by have := Hol.out; simp; omega) (fun v201 E201 d201 ho201 => ?_)
         obtain ⟨Av, mv, cv, rfl, hmv, hcv, hsv⟩ := ho201.open
         have HoX := hid ho201
         clear ho201 hcv hsv hmv
         refine ⟨?_, ?_⟩
         · exact (by repeat (first | (with_reducible first | exact Ext.refl _ | exact Ext.same _ _ _ _ | assumption | apply Ext.alloc | apply Ext.ext | apply Ext.drew) | (with_reducible refine Ext.setCell ?_ _ _ ?_; rotate_left; focus (first | omega | (simp only [zs1, zs2, zs3, size_ext]; omega))) | (with_reducible refine Ext.trans ?_ (by assumption))))
         try simp only [Act.put, zp1, zp2, zp3, zp4, zp5, zp6]
         repeat ((first | refine wpOrd_pass rfl rfl ?_ | (refine wpOrd_free (v := ?_) rfl rfl (fun _ hS => ?_) ?_; rotate_left; focus (obtain ⟨E9, d9, rfl⟩ := hS; go_simp; try with_reducible rfl))); simp only [Act.put, zp1, zp2, zp3, zp4, zp5, zp6])
         refine wpOrd_act rfl rfl (fun K hK => ?_)
         go_simp
         refine hK _ _ ⟨?_, ?_⟩
         · exact (by repeat (first | (with_reducible first | exact Ext.refl _ | exact Ext.same _ _ _ _ | assumption | apply Ext.alloc | apply Ext.ext | apply Ext.drew) | (with_reducible refine Ext.setCell ?_ _ _ ?_; rotate_left; focus (first | omega | (simp only [zs1, zs2, zs3, size_ext]; omega))) | (with_reducible refine Ext.trans ?_ (by assumption))))
         clear hK K
         try simp only [Act.put, zp1, zp2, zp3, zp4, zp5, zp6]
         refine wpOrd_nil ?_
        rotate_right
        focus
         refine wpOrd_act rfl rfl (fun K hK => ?_)
         go_simp
         refine hK _ _ ⟨?_, ?_⟩
         · exact (by repeat (first | (with_reducible first | exact Ext.refl _ | exact Ext.same _ _ _ _ | assumption | apply Ext.alloc | apply Ext.ext | apply Ext.drew) | (with_reducible refine Ext.setCell ?_ _ _ ?_; rotate_left; focus (first | omega | (simp only [zs1, zs2, zs3, size_ext]; omega))) | (with_reducible refine Ext.trans ?_ (by assumption))))
         clear hK K
         try simp only [Act.put, zp1, zp2, zp3, zp4, zp5, zp6]
         refine wpOrd_act rfl rfl (fun K hK => ?_)
         go_simp
         refine hK _ _ ⟨?_, ?_⟩
         · exact (by repeat (first | (with_reducible first | exact Ext.refl _ | exact Ext.same _ _ _ _ | assumption | apply Ext.alloc | apply Ext.ext | apply Ext.drew) | (with_reducible refine Ext.setCell ?_ _ _ ?_; rotate_left; focus (first | omega | (simp only [zs1, zs2, zs3, size_ext]; omega))) | (with_reducible refine Ext.trans ?_ (by assumption))))
         clear hK K
         try simp only [Act.put, zp1, zp2, zp3, zp4, zp5, zp6]
         refine wpOrd_arec rfl ((((w.alloc (.cells #[.slice (some ⟨g, of, none⟩) n c] 34)).alloc (.cells #[.int .i64 r.ao, .int .i64 r.sq, .int .i64 r.kind, .int .i64 r.ship, .int .i64 r.day, .int .i64 r.known, .int .i64 r.wo, .int .i64 r.ws, .int .i64 r.to, .int .i64 r.til, .string r.text] 46)).alloc (.cells #[.slice none 0 0] 34)).alloc (.cells #[v] 34)) (w.heap.size + 1 + 1 + 1 + 1) (by simp [World.size_alloc]) rfl rfl _ _ rfl [q] rfl (by exact (by repeat (first | (with_reducible first | exact Ext.refl _ | exact Ext.same _ _ _ _ | assumption | apply Ext.alloc | apply Ext.ext | apply Ext.drew) | (with_reducible refine Ext.setCell ?_ _ _ ?_; rotate_left; focus (first | omega | (simp only [zs1, zs2, zs3, size_ext]; omega)))))) (by exact Hown.out.of_ext (by repeat (first | (with_reducible first | exact Ext.refl _ | exact Ext.same _ _ _ _ | assumption | apply Ext.alloc | apply Ext.ext | apply Ext.drew) | (with_reducible refine Ext.setCell ?_ _ _ ?_; rotate_left; focus (first | omega | (simp only [zs1, zs2, zs3, size_ext]; omega)))))) rfl rfl (Sl_at (encRec q) _ 11 1 _ rfl (by simp [World.size_alloc])) (by have := Hol.out; simp; omega) (fun v202 E202 d202 ho202 => ?_)
         obtain ⟨Av, mv, cv, rfl, hmv, hcv, hsv⟩ := ho202.open
         have HoX := hid ho202
         clear ho202 hcv hsv hmv
         refine ⟨?_, ?_⟩
         · exact (by repeat (first | (with_reducible first | exact Ext.refl _ | exact Ext.same _ _ _ _ | assumption | apply Ext.alloc | apply Ext.ext | apply Ext.drew) | (with_reducible refine Ext.setCell ?_ _ _ ?_; rotate_left; focus (first | omega | (simp only [zs1, zs2, zs3, size_ext]; omega))) | (with_reducible refine Ext.trans ?_ (by assumption))))
         try simp only [Act.put, zp1, zp2, zp3, zp4, zp5, zp6]
         repeat ((first | refine wpOrd_pass rfl rfl ?_ | (refine wpOrd_free (v := ?_) rfl rfl (fun _ hS => ?_) ?_; rotate_left; focus (obtain ⟨E9, d9, rfl⟩ := hS; go_simp; try with_reducible rfl))); simp only [Act.put, zp1, zp2, zp3, zp4, zp5, zp6])
         refine wpOrd_act rfl rfl (fun K hK => ?_)
         go_simp
         refine hK _ _ ⟨?_, ?_⟩
         · exact (by repeat (first | (with_reducible first | exact Ext.refl _ | exact Ext.same _ _ _ _ | assumption | apply Ext.alloc | apply Ext.ext | apply Ext.drew) | (with_reducible refine Ext.setCell ?_ _ _ ?_; rotate_left; focus (first | omega | (simp only [zs1, zs2, zs3, size_ext]; omega))) | (with_reducible refine Ext.trans ?_ (by assumption))))
         clear hK K
         try simp only [Act.put, zp1, zp2, zp3, zp4, zp5, zp6]
         refine wpOrd_nil ?_
        all_goals
          go_wp2_with fail
        all_goals first
          | exact ⟨⟨k + 1, _, by omega, by go_num, congrArg Value.bool (by rw [O4.out]; rfl), (by repeat (first | (with_reducible first | exact Ext.refl _ | exact Ext.same _ _ _ _ | assumption | apply Ext.alloc | apply Ext.ext | apply Ext.drew) | (with_reducible refine Ext.setCell ?_ _ _ ?_; rotate_left; focus (first | omega | (simp only [zs1, zs2, zs3, size_ext]; omega))))), by rw [O1.out]; exact OwnR.box HoX.out (by simp [World.size_alloc])⟩, by simp [intOf]; omega⟩
      | false =>
        rw [hat] at o4
        have O4 := hid o4
        cases hah : aheadB r q with
        | true =>
          have O2 := hid (o2 hat hah)
          rw [hah] at O4 hpl
          clear o1 o2 o3 o4 hat hah
          go_wp2_with fail
          refine wp_region_ord_same (.f 0 (.f 1 (.f 2 (.f 3 (.f 4 (.f 5 (.f 6 (.f 7 (.f 8 (.f 9 (.f 10 (.a 11 (.f 12 .d))))))))))))) (by kernel_rfl) (by kernel_rfl) ?_
          repeat ((first | refine wpOrd_pass rfl rfl ?_ | (refine wpOrd_free (v := ?_) rfl rfl (fun _ hS => ?_) ?_; rotate_left; focus (go_simp; try with_reducible rfl))); simp only [Act.put, zp1, zp2, zp3, zp4, zp5, zp6])
          refine ord_bool (j := 2) rfl (fun hb2 => ?_) (fun hb2 => ?_)
          rotate_left
          focus
           try (exfalso; first | (simp at hb2; done) | (simp at hb2; omega))
           all_goals
            (try simp only [hb2])
            repeat ((first | refine wpOrd_pass rfl rfl ?_ | (refine wpOrd_free (v := ?_) rfl rfl (fun _ hS => ?_) ?_; rotate_left; focus (go_simp; try with_reducible rfl))); simp only [Act.put, zp1, zp2, zp3, zp4, zp5, zp6])
            refine wpOrd_actPass rfl rfl ?_ ?_
            · (first | exact fun b o hb => Ext.cellOf (by repeat (first | (with_reducible first | exact Ext.refl _ | exact Ext.same _ _ _ _ | assumption | apply Ext.alloc | apply Ext.ext | apply Ext.drew) | (with_reducible refine Ext.setCell ?_ _ _ ?_; rotate_left; focus (first | omega | (simp only [zs1, zs2, zs3, size_ext]; omega))))) hb | (intro b o hb; (try simp only [size_ext, zs1, zs2, zs3] at hb); go_simp; try rfl))
            simp only [Act.put, zp1, zp2, zp3, zp4, zp5, zp6]
            repeat ((first | refine wpOrd_pass rfl rfl ?_ | (refine wpOrd_free (v := ?_) rfl rfl (fun _ hS => ?_) ?_; rotate_left; focus (go_simp; try with_reducible rfl))); simp only [Act.put, zp1, zp2, zp3, zp4, zp5, zp6])
            refine wpOrd_nil ?_
          rotate_right
          focus
           try (exfalso; first | (simp at hb2; done) | (simp at hb2; omega))
           all_goals
            (try simp only [hb2])
            repeat ((first | refine wpOrd_pass rfl rfl ?_ | (refine wpOrd_free (v := ?_) rfl rfl (fun _ hS => ?_) ?_; rotate_left; focus (go_simp; try with_reducible rfl))); simp only [Act.put, zp1, zp2, zp3, zp4, zp5, zp6])
            refine wpOrd_call rfl rfl rfl Tryz.call136 (fun R hR => ?_)
            go_simp
            refine (Ahead_any _ _ _ _ _).mono ?_
            rintro e w1 ⟨rfl, E1, d1, rfl⟩
            refine hR _ _ ⟨_, rfl, ?_, ?_⟩
            · (first | exact fun b o hb => Ext.cellOf (by repeat (first | (with_reducible first | exact Ext.refl _ | exact Ext.same _ _ _ _ | assumption | apply Ext.alloc | apply Ext.ext | apply Ext.drew) | (with_reducible refine Ext.setCell ?_ _ _ ?_; rotate_left; focus (first | omega | (simp only [zs1, zs2, zs3, size_ext]; omega))))) hb | (intro b o hb; (try simp only [size_ext, zs1, zs2, zs3] at hb); go_simp; try rfl))
            clear hR R
            simp only [Act.put, zp1, zp2, zp3, zp4, zp5, zp6]
            repeat ((first | refine wpOrd_pass rfl rfl ?_ | (refine wpOrd_free (v := ?_) rfl rfl (fun _ hS => ?_) ?_; rotate_left; focus (go_simp; try with_reducible rfl))); simp only [Act.put, zp1, zp2, zp3, zp4, zp5, zp6])
            refine wpOrd_nil ?_
          go_wp2_with (at_builtin; refine wpList_arec rfl ((((w.alloc (.cells #[.slice (some ⟨g, of, none⟩) n c] 34)).alloc (.cells #[.int .i64 r.ao, .int .i64 r.sq, .int .i64 r.kind, .int .i64 r.ship, .int .i64 r.day, .int .i64 r.known, .int .i64 r.wo, .int .i64 r.ws, .int .i64 r.to, .int .i64 r.til, .string r.text] 46)).alloc (.cells #[.slice none 0 0] 34)).alloc (.cells #[v] 34)) (w.heap.size + 1 + 1 + 1 + 1) (by simp [World.size_alloc]) rfl _ _ rfl [r] rfl (by exact (by repeat (first | (with_reducible first | exact Ext.refl _ | exact Ext.same _ _ _ _ | assumption | apply Ext.alloc | apply Ext.ext | apply Ext.drew) | (with_reducible refine Ext.setCell ?_ _ _ ?_; rotate_left; focus (first | omega | (simp only [zs1, zs2, zs3, size_ext]; omega)))))) (by exact Hown.out.of_ext (by repeat (first | (with_reducible first | exact Ext.refl _ | exact Ext.same _ _ _ _ | assumption | apply Ext.alloc | apply Ext.ext | apply Ext.drew) | (with_reducible refine Ext.setCell ?_ _ _ ?_; rotate_left; focus (first | omega | (simp only [zs1, zs2, zs3, size_ext]; omega)))))) rfl rfl (Sl_at (encRec r) _ 11 1 _ rfl (by simp [World.size_alloc])) (by have := Hol.out; simp; omega) (fun v1 E1 d1 ho1 => ?_); obtain ⟨Av1, mv1, cv1, rfl, hmv1, hcv1, hsv1⟩ := ho1.open; have Ho1 := hid ho1; clear ho1 hcv1 hsv1 hmv1)
          have HoB := hid (OwnR.box (o' := .cells #[.slice Av1 mv1 cv1] 34) (d' := d1) Ho1.out (by simp [World.size_alloc]))
          clear Ho1
          refine wp_region_ord (.f 0 (.f 2 (.f 3 (.f 4 (.f 5 (.f 6 (.k 1 (.a 7 (.a 8 (.f 9 (.a 10 .d)))) 7 (.a 1 (.a 8 (.f 9 (.a 10 .d))))))))))) (Ext ((((w.alloc (.cells #[.slice (some ⟨g, of, none⟩) n c] 34)).alloc (.cells #[.int .i64 r.ao, .int .i64 r.sq, .int .i64 r.kind, .int .i64 r.ship, .int .i64 r.day, .int .i64 r.known, .int .i64 r.wo, .int .i64 r.ws, .int .i64 r.to, .int .i64 r.til, .string r.text] 46)).alloc (.cells #[.slice none 0 0] 34)))) (by kernel_rfl) (by kernel_rfl) (by repeat (first | (with_reducible first | exact Ext.refl _ | exact Ext.same _ _ _ _ | assumption | apply Ext.alloc | apply Ext.ext | apply Ext.drew) | (with_reducible refine Ext.setCell ?_ _ _ ?_; rotate_left; focus (first | omega | (simp only [zs1, zs2, zs3, size_ext]; omega))) | (with_reducible refine Ext.trans ?_ (by assumption)))) ?_
          repeat ((first | refine wpOrd_pass rfl rfl ?_ | (refine wpOrd_free (v := ?_) rfl rfl (fun _ hS => ?_) ?_; rotate_left; focus (obtain ⟨E9, d9, rfl⟩ := hS; go_simp; try with_reducible rfl))); simp only [Act.put, zp1, zp2, zp3, zp4, zp5, zp6])
          refine wpOrd_fork ?_ ?_
          focus
           refine wpOrd_act rfl rfl (fun K hK => ?_)
           go_simp
           refine hK _ _ ⟨?_, ?_⟩
           · exact (by repeat (first | (with_reducible first | exact Ext.refl _ | exact Ext.same _ _ _ _ | assumption | apply Ext.alloc | apply Ext.ext | apply Ext.drew) | (with_reducible refine Ext.setCell ?_ _ _ ?_; rotate_left; focus (first | omega | (simp only [zs1, zs2, zs3, size_ext]; omega))) | (with_reducible refine Ext.trans ?_ (by assumption))))
           clear hK K
           try simp only [Act.put, zp1, zp2, zp3, zp4, zp5, zp6]
           refine wpOrd_act rfl rfl (fun K hK => ?_)
           go_simp
           refine hK _ _ ⟨?_, ?_⟩
           · exact (by repeat (first | (with_reducible first | exact Ext.refl _ | exact Ext.same _ _ _ _ | assumption | apply Ext.alloc | apply Ext.ext | apply Ext.drew) | (with_reducible refine Ext.setCell ?_ _ _ ?_; rotate_left; focus (first | omega | (simp only [zs1, zs2, zs3, size_ext]; omega))) | (with_reducible refine Ext.trans ?_ (by assumption))))
           clear hK K
           try simp only [Act.put, zp1, zp2, zp3, zp4, zp5, zp6]
           refine wpOrd_arec rfl ((((w.alloc (.cells #[.slice (some ⟨g, of, none⟩) n c] 34)).alloc (.cells #[.int .i64 r.ao, .int .i64 r.sq, .int .i64 r.kind, .int .i64 r.ship, .int .i64 r.day, .int .i64 r.known, .int .i64 r.wo, .int .i64 r.ws, .int .i64 r.to, .int .i64 r.til, .string r.text] 46)).alloc (.cells #[.slice none 0 0] 34)).alloc (.cells #[.slice Av1 mv1 cv1] 34)) (w.heap.size + 1 + 1 + 1 + 1) (by simp [World.size_alloc]) rfl rfl _ _ rfl [q] rfl (by exact (by repeat (first | (with_reducible first | exact Ext.refl _ | exact Ext.same _ _ _ _ | assumption | apply Ext.alloc | apply Ext.ext | apply Ext.drew) | (with_reducible refine Ext.setCell ?_ _ _ ?_; rotate_left; focus (first | omega | (simp only [zs1, zs2, zs3, size_ext]; omega)))))) (by exact HoB.out.of_ext (by repeat (first | (with_reducible first | exact Ext.refl _ | exact Ext.same _ _ _ _ | assumption | apply Ext.alloc | apply Ext.ext | apply Ext.drew) | (with_reducible refine Ext.setCell ?_ _ _ ?_; rotate_left; focus (first | omega | (simp only [zs1, zs2, zs3, size_ext]; omega)))))) rfl rfl (Sl_at (encRec q) _ 11 1 _ rfl (by simp [World.size_alloc])) (by have := Hol.out; simp only [List.length_append, List.length_cons, List.length_nil]; omega) (fun v201 E201 d201 ho201 => ?_)
           obtain ⟨Av, mv, cv, rfl, hmv, hcv, hsv⟩ := ho201.open
           have HoX := hid ho201
           clear ho201 hcv hsv hmv
           refine ⟨?_, ?_⟩
           · exact (by repeat (first | (with_reducible first | exact Ext.refl _ | exact Ext.same _ _ _ _ | assumption | apply Ext.alloc | apply Ext.ext | apply Ext.drew) | (with_reducible refine Ext.setCell ?_ _ _ ?_; rotate_left; focus (first | omega | (simp only [zs1, zs2, zs3, size_ext]; omega))) | (with_reducible refine Ext.trans ?_ (by assumption))))
           try simp only [Act.put, zp1, zp2, zp3, zp4, zp5, zp6]
           repeat ((first | refine wpOrd_pass rfl rfl ?_ | (refine wpOrd_free (v := ?_) rfl rfl (fun _ hS => ?_) ?_; rotate_left; focus (obtain ⟨E9, d9, rfl⟩ := hS; go_simp; try with_reducible rfl))); simp only [Act.put, zp1, zp2, zp3, zp4, zp5, zp6])
           refine wpOrd_act rfl rfl (fun K hK => ?_)
           go_simp
           refine hK _ _ ⟨?_, ?_⟩
           · exact (by repeat (first | (with_reducible first | exact Ext.refl _ | exact Ext.same _ _ _ _ | assumption | apply Ext.alloc | apply Ext.ext | apply Ext.drew) | (with_reducible refine Ext.setCell ?_ _ _ ?_; rotate_left; focus (first | omega | (simp only [zs1, zs2, zs3, size_ext]; omega))) | (with_reducible refine Ext.trans ?_ (by assumption))))
           clear hK K
           try simp only [Act.put, zp1, zp2, zp3, zp4, zp5, zp6]
           refine wpOrd_nil ?_
          rotate_right
          focus
           refine wpOrd_act rfl rfl (fun K hK => ?_)
           go_simp
           refine hK _ _ ⟨?_, ?_⟩
           · exact (by repeat (first | (with_reducible first | exact Ext.refl _ | exact Ext.same _ _ _ _ | assumption | apply Ext.alloc | apply Ext.ext | apply Ext.drew) | (with_reducible refine Ext.setCell ?_ _ _ ?_; rotate_left; focus (first | omega | (simp only [zs1, zs2, zs3, size_ext]; omega))) | (with_reducible refine Ext.trans ?_ (by assumption))))
           clear hK K
           try simp only [Act.put, zp1, zp2, zp3, zp4, zp5, zp6]
           refine wpOrd_act rfl rfl (fun K hK => ?_)
           go_simp
           refine hK _ _ ⟨?_, ?_⟩
           · exact (by repeat (first | (with_reducible first | exact Ext.refl _ | exact Ext.same _ _ _ _ | assumption | apply Ext.alloc | apply Ext.ext | apply Ext.drew) | (with_reducible refine Ext.setCell ?_ _ _ ?_; rotate_left; focus (first | omega | (simp only [zs1, zs2, zs3, size_ext]; omega))) | (with_reducible refine Ext.trans ?_ (by assumption))))
           clear hK K
           try simp only [Act.put, zp1, zp2, zp3, zp4, zp5, zp6]
           refine wpOrd_arec rfl ((((w.alloc (.cells #[.slice (some ⟨g, of, none⟩) n c] 34)).alloc (.cells #[.int .i64 r.ao, .int .i64 r.sq, .int .i64 r.kind, .int .i64 r.ship, .int .i64 r.day, .int .i64 r.known, .int .i64 r.wo, .int .i64 r.ws, .int .i64 r.to, .int .i64 r.til, .string r.text] 46)).alloc (.cells #[.slice none 0 0] 34)).alloc (.cells #[.slice Av1 mv1 cv1] 34)) (w.heap.size + 1 + 1 + 1 + 1) (by simp [World.size_alloc]) rfl rfl _ _ rfl [q] rfl (by exact (by repeat (first | (with_reducible first | exact Ext.refl _ | exact Ext.same _ _ _ _ | assumption | apply Ext.alloc | apply Ext.ext | apply Ext.drew) | (with_reducible refine Ext.setCell ?_ _ _ ?_; rotate_left; focus (first | omega | (simp only [zs1, zs2, zs3, size_ext]; omega)))))) (by exact HoB.out.of_ext (by repeat (first | (with_reducible first | exact Ext.refl _ | exact Ext.same _ _ _ _ | assumption | apply Ext.alloc | apply Ext.ext | apply Ext.drew) | (with_reducible refine Ext.setCell ?_ _ _ ?_; rotate_left; focus (first | omega | (simp only [zs1, zs2, zs3, size_ext]; omega)))))) rfl rfl (Sl_at (encRec q) _ 11 1 _ rfl (by simp [World.size_alloc])) (by have := Hol.out; simp only [List.length_append, List.length_cons, List.length_nil]; omega) (fun v202 E202 d202 ho202 => ?_)
           obtain ⟨Av, mv, cv, rfl, hmv, hcv, hsv⟩ := ho202.open
           have HoX := hid ho202
           clear ho202 hcv hsv hmv
           refine ⟨?_, ?_⟩
           · exact (by repeat (first | (with_reducible first | exact Ext.refl _ | exact Ext.same _ _ _ _ | assumption | apply Ext.alloc | apply Ext.ext | apply Ext.drew) | (with_reducible refine Ext.setCell ?_ _ _ ?_; rotate_left; focus (first | omega | (simp only [zs1, zs2, zs3, size_ext]; omega))) | (with_reducible refine Ext.trans ?_ (by assumption))))
           try simp only [Act.put, zp1, zp2, zp3, zp4, zp5, zp6]
           repeat ((first | refine wpOrd_pass rfl rfl ?_ | (refine wpOrd_free (v := ?_) rfl rfl (fun _ hS => ?_) ?_; rotate_left; focus (obtain ⟨E9, d9, rfl⟩ := hS; go_simp; try with_reducible rfl))); simp only [Act.put, zp1, zp2, zp3, zp4, zp5, zp6])
           refine wpOrd_act rfl rfl (fun K hK => ?_)
           go_simp
           refine hK _ _ ⟨?_, ?_⟩
           · exact (by repeat (first | (with_reducible first | exact Ext.refl _ | exact Ext.same _ _ _ _ | assumption | apply Ext.alloc | apply Ext.ext | apply Ext.drew) | (with_reducible refine Ext.setCell ?_ _ _ ?_; rotate_left; focus (first | omega | (simp only [zs1, zs2, zs3, size_ext]; omega))) | (with_reducible refine Ext.trans ?_ (by assumption))))
           clear hK K
           try simp only [Act.put, zp1, zp2, zp3, zp4, zp5, zp6]
           refine wpOrd_nil ?_
          all_goals
            go_wp2_with fail
          all_goals first
            | exact ⟨⟨k + 1, _, by omega, by go_num, congrArg Value.bool (by rw [O4.out]; rfl), (by repeat (first | (with_reducible first | exact Ext.refl _ | exact Ext.same _ _ _ _ | assumption | apply Ext.alloc | apply Ext.ext | apply Ext.drew) | (with_reducible refine Ext.setCell ?_ _ _ ?_; rotate_left; focus (first | omega | (simp only [zs1, zs2, zs3, size_ext]; omega))))), by rw [O2.out]; exact OwnR.box HoX.out (by simp [World.size_alloc])⟩, by simp [intOf]; omega⟩
        | false =>
          have O3 := hid (o3 hat hah)
          rw [hah] at O4 hpl
          clear o1 o2 o3 o4 hat hah
          go_wp2_with fail
          refine wp_region_ord_same (.f 0 (.f 1 (.f 2 (.f 3 (.f 4 (.f 5 (.f 6 (.f 7 (.f 8 (.f 9 (.f 10 (.a 11 (.f 12 .d))))))))))))) (by kernel_rfl) (by kernel_rfl) ?_
          repeat ((first | refine wpOrd_pass rfl rfl ?_ | (refine wpOrd_free (v := ?_) rfl rfl (fun _ hS => ?_) ?_; rotate_left; focus (go_simp; try with_reducible rfl))); simp only [Act.put, zp1, zp2, zp3, zp4, zp5, zp6])
          refine ord_bool (j := 2) rfl (fun hb2 => ?_) (fun hb2 => ?_)
          rotate_left
          focus
           try (exfalso; first | (simp at hb2; done) | (simp at hb2; omega))
           all_goals
            (try simp only [hb2])
            repeat ((first | refine wpOrd_pass rfl rfl ?_ | (refine wpOrd_free (v := ?_) rfl rfl (fun _ hS => ?_) ?_; rotate_left; focus (go_simp; try with_reducible rfl))); simp only [Act.put, zp1, zp2, zp3, zp4, zp5, zp6])
            refine wpOrd_actPass rfl rfl ?_ ?_
            · (first | exact fun b o hb => Ext.cellOf (by repeat (first | (with_reducible first | exact Ext.refl _ | exact Ext.same _ _ _ _ | assumption | apply Ext.alloc | apply Ext.ext | apply Ext.drew) | (with_reducible refine Ext.setCell ?_ _ _ ?_; rotate_left; focus (first | omega | (simp only [zs1, zs2, zs3, size_ext]; omega))))) hb | (intro b o hb; (try simp only [size_ext, zs1, zs2, zs3] at hb); go_simp; try rfl))
            simp only [Act.put, zp1, zp2, zp3, zp4, zp5, zp6]
            repeat ((first | refine wpOrd_pass rfl rfl ?_ | (refine wpOrd_free (v := ?_) rfl rfl (fun _ hS => ?_) ?_; rotate_left; focus (go_simp; try with_reducible rfl))); simp only [Act.put, zp1, zp2, zp3, zp4, zp5, zp6])
            refine wpOrd_nil ?_
          rotate_right
          focus
           try (exfalso; first | (simp at hb2; done) | (simp at hb2; omega))
           all_goals
            (try simp only [hb2])
            repeat ((first | refine wpOrd_pass rfl rfl ?_ | (refine wpOrd_free (v := ?_) rfl rfl (fun _ hS => ?_) ?_; rotate_left; focus (go_simp; try with_reducible rfl))); simp only [Act.put, zp1, zp2, zp3, zp4, zp5, zp6])
            refine wpOrd_call rfl rfl rfl Tryz.call136 (fun R hR => ?_)
            go_simp
            refine (Ahead_any _ _ _ _ _).mono ?_
            rintro e w1 ⟨rfl, E1, d1, rfl⟩
            refine hR _ _ ⟨_, rfl, ?_, ?_⟩
            · (first | exact fun b o hb => Ext.cellOf (by repeat (first | (with_reducible first | exact Ext.refl _ | exact Ext.same _ _ _ _ | assumption | apply Ext.alloc | apply Ext.ext | apply Ext.drew) | (with_reducible refine Ext.setCell ?_ _ _ ?_; rotate_left; focus (first | omega | (simp only [zs1, zs2, zs3, size_ext]; omega))))) hb | (intro b o hb; (try simp only [size_ext, zs1, zs2, zs3] at hb); go_simp; try rfl))
            clear hR R
            simp only [Act.put, zp1, zp2, zp3, zp4, zp5, zp6]
            repeat ((first | refine wpOrd_pass rfl rfl ?_ | (refine wpOrd_free (v := ?_) rfl rfl (fun _ hS => ?_) ?_; rotate_left; focus (go_simp; try with_reducible rfl))); simp only [Act.put, zp1, zp2, zp3, zp4, zp5, zp6])
            refine wpOrd_nil ?_
          go_wp2_with fail
          refine wp_region_ord (.f 0 (.f 2 (.f 3 (.f 4 (.f 5 (.f 6 (.k 1 (.a 7 (.a 8 (.f 9 (.a 10 .d)))) 7 (.a 1 (.a 8 (.f 9 (.a 10 .d))))))))))) (Ext ((((w.alloc (.cells #[.slice (some ⟨g, of, none⟩) n c] 34)).alloc (.cells #[.int .i64 r.ao, .int .i64 r.sq, .int .i64 r.kind, .int .i64 r.ship, .int .i64 r.day, .int .i64 r.known, .int .i64 r.wo, .int .i64 r.ws, .int .i64 r.to, .int .i64 r.til, .string r.text] 46)).alloc (.cells #[.slice none 0 0] 34)))) (by kernel_rfl) (by kernel_rfl) (by repeat (first | (with_reducible first | exact Ext.refl _ | exact Ext.same _ _ _ _ | assumption | apply Ext.alloc | apply Ext.ext | apply Ext.drew) | (with_reducible refine Ext.setCell ?_ _ _ ?_; rotate_left; focus (first | omega | (simp only [zs1, zs2, zs3, size_ext]; omega))) | (with_reducible refine Ext.trans ?_ (by assumption)))) ?_
          repeat ((first | refine wpOrd_pass rfl rfl ?_ | (refine wpOrd_free (v := ?_) rfl rfl (fun _ hS => ?_) ?_; rotate_left; focus (obtain ⟨E9, d9, rfl⟩ := hS; go_simp; try with_reducible rfl))); simp only [Act.put, zp1, zp2, zp3, zp4, zp5, zp6])
          refine wpOrd_fork ?_ ?_
          focus
           refine wpOrd_act rfl rfl (fun K hK => ?_)
           go_simp
           refine hK _ _ ⟨?_, ?_⟩
           · exact (by repeat (first | (with_reducible first | exact Ext.refl _ | exact Ext.same _ _ _ _ | assumption | apply Ext.alloc | apply Ext.ext | apply Ext.drew) | (with_reducible refine Ext.setCell ?_ _ _ ?_; rotate_left; focus (first | omega | (simp only [zs1, zs2, zs3, size_ext]; omega))) | (with_reducible refine Ext.trans ?_ (by assumption))))
           clear hK K
           try simp only [Act.put, zp1, zp2, zp3, zp4, zp5, zp6]
           refine wpOrd_act rfl rfl (fun K hK => ?_)
           go_simp
           refine hK _ _ ⟨?_, ?_⟩
           · exact (by repeat (first | (with_reducible first | exact Ext.refl _ | exact Ext.same _ _ _ _ | assumption | apply Ext.alloc | apply Ext.ext | apply Ext.drew) | (with_reducible refine Ext.setCell ?_ _ _ ?_; rotate_left; focus (first | omega | (simp only [zs1, zs2, zs3, size_ext]; omega))) | (with_reducible refine Ext.trans ?_ (by assumption))))
           clear hK K
           try simp only [Act.put, zp1, zp2, zp3, zp4, zp5, zp6]
           refine wpOrd_arec rfl ((((w.alloc (.cells #[.slice (some ⟨g, of, none⟩) n c] 34)).alloc (.cells #[.int .i64 r.ao, .int .i64 r.sq, .int .i64 r.kind, .int .i64 r.ship, .int .i64 r.day, .int .i64 r.known, .int .i64 r.wo, .int .i64 r.ws, .int .i64 r.to, .int .i64 r.til, .string r.text] 46)).alloc (.cells #[.slice none 0 0] 34)).alloc (.cells #[v] 34)) (w.heap.size + 1 + 1 + 1 + 1) (by simp [World.size_alloc]) rfl rfl _ _ rfl [q] rfl (by exact (by repeat (first | (with_reducible first | exact Ext.refl _ | exact Ext.same _ _ _ _ | assumption | apply Ext.alloc | apply Ext.ext | apply Ext.drew) | (with_reducible refine Ext.setCell ?_ _ _ ?_; rotate_left; focus (first | omega | (simp only [zs1, zs2, zs3, size_ext]; omega)))))) (by exact Hown.out.of_ext (by repeat (first | (with_reducible first | exact Ext.refl _ | exact Ext.same _ _ _ _ | assumption | apply Ext.alloc | apply Ext.ext | apply Ext.drew) | (with_reducible refine Ext.setCell ?_ _ _ ?_; rotate_left; focus (first | omega | (simp only [zs1, zs2, zs3, size_ext]; omega)))))) rfl rfl (Sl_at (encRec q) _ 11 1 _ rfl (by simp [World.size_alloc])) (by have := Hol.out; simp; omega) (fun v201 E201 d201 ho201 => ?_)
           obtain ⟨Av, mv, cv, rfl, hmv, hcv, hsv⟩ := ho201.open
           have HoX := hid ho201
           clear ho201 hcv hsv hmv
           refine ⟨?_, ?_⟩
           · exact (by repeat (first | (with_reducible first | exact Ext.refl _ | exact Ext.same _ _ _ _ | assumption | apply Ext.alloc | apply Ext.ext | apply Ext.drew) | (with_reducible refine Ext.setCell ?_ _ _ ?_; rotate_left; focus (first | omega | (simp only [zs1, zs2, zs3, size_ext]; omega))) | (with_reducible refine Ext.trans ?_ (by assumption))))
           try simp only [Act.put, zp1, zp2, zp3, zp4, zp5, zp6]
           repeat ((first | refine wpOrd_pass rfl rfl ?_ | (refine wpOrd_free (v := ?_) rfl rfl (fun _ hS => ?_) ?_; rotate_left; focus (obtain ⟨E9, d9, rfl⟩ := hS; go_simp; try with_reducible rfl))); simp only [Act.put, zp1, zp2, zp3, zp4, zp5, zp6])
           refine wpOrd_act rfl rfl (fun K hK => ?_)
           go_simp
           refine hK _ _ ⟨?_, ?_⟩
           · exact (by repeat (first | (with_reducible first | exact Ext.refl _ | exact Ext.same _ _ _ _ | assumption | apply Ext.alloc | apply Ext.ext | apply Ext.drew) | (with_reducible refine Ext.setCell ?_ _ _ ?_; rotate_left; focus (first | omega | (simp only [zs1, zs2, zs3, size_ext]; omega))) | (with_reducible refine Ext.trans ?_ (by assumption))))
           clear hK K
           try simp only [Act.put, zp1, zp2, zp3, zp4, zp5, zp6]
           refine wpOrd_nil ?_
          rotate_right
          focus
           refine wpOrd_act rfl rfl (fun K hK => ?_)
           go_simp
           refine hK _ _ ⟨?_, ?_⟩
           · exact (by repeat (first | (with_reducible first | exact Ext.refl _ | exact Ext.same _ _ _ _ | assumption | apply Ext.alloc | apply Ext.ext | apply Ext.drew) | (with_reducible refine Ext.setCell ?_ _ _ ?_; rotate_left; focus (first | omega | (simp only [zs1, zs2, zs3, size_ext]; omega))) | (with_reducible refine Ext.trans ?_ (by assumption))))
           clear hK K
           try simp only [Act.put, zp1, zp2, zp3, zp4, zp5, zp6]
           refine wpOrd_act rfl rfl (fun K hK => ?_)
           go_simp
           refine hK _ _ ⟨?_, ?_⟩
           · exact (by repeat (first | (with_reducible first | exact Ext.refl _ | exact Ext.same _ _ _ _ | assumption | apply Ext.alloc | apply Ext.ext | apply Ext.drew) | (with_reducible refine Ext.setCell ?_ _ _ ?_; rotate_left; focus (first | omega | (simp only [zs1, zs2, zs3, size_ext]; omega))) | (with_reducible refine Ext.trans ?_ (by assumption))))
           clear hK K
           try simp only [Act.put, zp1, zp2, zp3, zp4, zp5, zp6]
           refine wpOrd_arec rfl ((((w.alloc (.cells #[.slice (some ⟨g, of, none⟩) n c] 34)).alloc (.cells #[.int .i64 r.ao, .int .i64 r.sq, .int .i64 r.kind, .int .i64 r.ship, .int .i64 r.day, .int .i64 r.known, .int .i64 r.wo, .int .i64 r.ws, .int .i64 r.to, .int .i64 r.til, .string r.text] 46)).alloc (.cells #[.slice none 0 0] 34)).alloc (.cells #[v] 34)) (w.heap.size + 1 + 1 + 1 + 1) (by simp [World.size_alloc]) rfl rfl _ _ rfl [q] rfl (by exact (by repeat (first | (with_reducible first | exact Ext.refl _ | exact Ext.same _ _ _ _ | assumption | apply Ext.alloc | apply Ext.ext | apply Ext.drew) | (with_reducible refine Ext.setCell ?_ _ _ ?_; rotate_left; focus (first | omega | (simp only [zs1, zs2, zs3, size_ext]; omega)))))) (by exact Hown.out.of_ext (by repeat (first | (with_reducible first | exact Ext.refl _ | exact Ext.same _ _ _ _ | assumption | apply Ext.alloc | apply Ext.ext | apply Ext.drew) | (with_reducible refine Ext.setCell ?_ _ _ ?_; rotate_left; focus (first | omega | (simp only [zs1, zs2, zs3, size_ext]; omega)))))) rfl rfl (Sl_at (encRec q) _ 11 1 _ rfl (by simp [World.size_alloc])) (by have := Hol.out; simp; omega) (fun v202 E202 d202 ho202 => ?_)
           obtain ⟨Av, mv, cv, rfl, hmv, hcv, hsv⟩ := ho202.open
           have HoX := hid ho202
           clear ho202 hcv hsv hmv
           refine ⟨?_, ?_⟩
           · exact (by repeat (first | (with_reducible first | exact Ext.refl _ | exact Ext.same _ _ _ _ | assumption | apply Ext.alloc | apply Ext.ext | apply Ext.drew) | (with_reducible refine Ext.setCell ?_ _ _ ?_; rotate_left; focus (first | omega | (simp only [zs1, zs2, zs3, size_ext]; omega))) | (with_reducible refine Ext.trans ?_ (by assumption))))
           try simp only [Act.put, zp1, zp2, zp3, zp4, zp5, zp6]
           repeat ((first | refine wpOrd_pass rfl rfl ?_ | (refine wpOrd_free (v := ?_) rfl rfl (fun _ hS => ?_) ?_; rotate_left; focus (obtain ⟨E9, d9, rfl⟩ := hS; go_simp; try with_reducible rfl))); simp only [Act.put, zp1, zp2, zp3, zp4, zp5, zp6])
           refine wpOrd_act rfl rfl (fun K hK => ?_)
           go_simp
           refine hK _ _ ⟨?_, ?_⟩
           · exact (by repeat (first | (with_reducible first | exact Ext.refl _ | exact Ext.same _ _ _ _ | assumption | apply Ext.alloc | apply Ext.ext | apply Ext.drew) | (with_reducible refine Ext.setCell ?_ _ _ ?_; rotate_left; focus (first | omega | (simp only [zs1, zs2, zs3, size_ext]; omega))) | (with_reducible refine Ext.trans ?_ (by assumption))))
           clear hK K
           try simp only [Act.put, zp1, zp2, zp3, zp4, zp5, zp6]
           refine wpOrd_nil ?_
          all_goals
            go_wp2_with fail
          all_goals first
            | exact ⟨⟨k + 1, _, by omega, by go_num, congrArg Value.bool (by rw [O4.out]; rfl), (by repeat (first | (with_reducible first | exact Ext.refl _ | exact Ext.same _ _ _ _ | assumption | apply Ext.alloc | apply Ext.ext | apply Ext.drew) | (with_reducible refine Ext.setCell ?_ _ _ ?_; rotate_left; focus (first | omega | (simp only [zs1, zs2, zs3, size_ext]; omega))))), by rw [O3.out]; exact OwnR.box HoX.out (by simp [World.size_alloc])⟩, by simp [intOf]; omega⟩
    · obtain rfl : k = n := by omega
      have e1 := outG_end_true (l := l) (r := r)
      have e2 := outG_end_false (l := l) (r := r)
      have hol := outG_length l r (k := l.length) (Nat.le_refl _)
      rw [hn] at e1 e2 hol
      obtain ⟨v0, m0, c0, rfl, hm0, hc0, hs0⟩ := Hown.out.open
      clear hm0 hc0 hs0
      have Hol := hid hol
      clear hol
      cases hat : anyAhead (l.take k) r with
      | true =>
        have E1 := hid (e1 hat)
        clear e1 e2 hat
        go_wp2_with fail
        refine bodyPost_ret (v := .agg #[.slice v0 m0 c0]) (by simp [results, Tryz.results127, go_sem]) rfl ?_
        exact ⟨_, rfl, by rw [← E1.out]; exact OwnR.base (base := (w.heap.size + 1 + 1 + 1 + 1)) (OwnR.swap Hown.out (by simp [World.size_alloc]) (by simp [World.size_alloc])) (by omega), (by repeat (first | (with_reducible first | exact Ext.refl _ | exact Ext.same _ _ _ _ | assumption | apply Ext.alloc | apply Ext.ext | apply Ext.drew) | (with_reducible refine Ext.setCell ?_ _ _ ?_; rotate_left; focus (first | omega | (simp only [zs1, zs2, zs3, size_ext]; omega)))))⟩
      | false =>
        have G1 := hid (e2 hat)
        clear e1 e2 hat
        go_wp2_with (at_builtin; refine wpList_arec rfl ((((w.alloc (.cells #[.slice A k c] 34)).alloc (.cells #[.int .i64 r.ao, .int .i64 r.sq, .int .i64 r.kind, .int .i64 r.ship, .int .i64 r.day, .int .i64 r.known, .int .i64 r.wo, .int .i64 r.ws, .int .i64 r.to, .int .i64 r.til, .string r.text] 46)).alloc (.cells #[.slice none 0 0] 34)).alloc (.cells #[.slice v0 m0 c0] 34)) (w.heap.size + 1 + 1 + 1 + 1) (by simp [World.size_alloc]) rfl _ _ rfl [r] rfl (by exact (by repeat (first | (with_reducible first | exact Ext.refl _ | exact Ext.same _ _ _ _ | assumption | apply Ext.alloc | apply Ext.ext | apply Ext.drew) | (with_reducible refine Ext.setCell ?_ _ _ ?_; rotate_left; focus (first | omega | (simp only [zs1, zs2, zs3, size_ext]; omega)))))) (by exact Hown.out.of_ext (by repeat (first | (with_reducible first | exact Ext.refl _ | exact Ext.same _ _ _ _ | assumption | apply Ext.alloc | apply Ext.ext | apply Ext.drew) | (with_reducible refine Ext.setCell ?_ _ _ ?_; rotate_left; focus (first | omega | (simp only [zs1, zs2, zs3, size_ext]; omega)))))) rfl rfl (Sl_at (encRec r) _ 11 1 _ rfl (by simp [World.size_alloc])) (by have := Hol.out; simp only [List.length_cons, List.length_nil]; omega) (fun v1 E1 d1 ho1 => ?_); obtain ⟨Av1, mv1, cv1, rfl, hmv1, hcv1, hsv1⟩ := ho1.open; have Ho1 := hid ho1; clear ho1 hcv1 hsv1 hmv1)
        have HoB := OwnR.box (o' := .cells #[.slice Av1 mv1 cv1] 34) (d' := d1) Ho1.out (by simp [World.size_alloc])
        refine bodyPost_ret (v := .agg #[.slice Av1 mv1 cv1]) (by simp [results, Tryz.results127, go_sem]) rfl ?_
        exact ⟨_, rfl, by rw [← G1.out]; exact OwnR.base (base := (w.heap.size + 1 + 1 + 1 + 1)) (OwnR.swap HoB (by simp [World.size_alloc]) (by simp [World.size_alloc])) (by omega), (by repeat (first | (with_reducible first | exact Ext.refl _ | exact Ext.same _ _ _ _ | assumption | apply Ext.alloc | apply Ext.ext | apply Ext.drew) | (with_reducible refine Ext.setCell ?_ _ _ ?_; rotate_left; focus (first | omega | (simp only [zs1, zs2, zs3, size_ext]; omega)))))⟩
theorem rinsert_own (A : Option Addr) (c n : Nat) (l : List Rec) (r : Rec) (hn : l.length = n) (hbig : n ≤ 100000) (w : World) (hr : Recs w A l) :
    Calls Tryz.prog 127 #[regV A n c, recV r] w fun e w' => ∃ A' n' c', e = .returned (regV A' n' c') ∧ Hid (n' = (insG l r).length) ∧ OwnR w.heap.size w' (.slice A' n' c') (insG l r) ∧ Ext w w' := by
  refine (rinsert_any A c n l r hn hbig w hr).mono ?_
  rintro e w' ⟨v, rfl, ho, hx⟩
  obtain ⟨A', c', rfl, _, _⟩ := ho.slice
  exact ⟨_, _, _, rfl, hid rfl, ho, hx⟩
end Go.Proofs.YtekjdeibnfaehaaGreat
/- Registers copied. -/
namespace Go.Proofs.YtekjdeibnfaehaaGreat
open Go.RowKit

set_option maxRecDepth 100000 in
set_option maxHeartbeats 2000000 in
theorem copied_any (A : Option Addr) (c n : Nat) (l : List Rec) (hn : l.length = n) (hbig : n ≤ 1000000) (w : World) (hr : Recs w A l) :
    Calls Tryz.prog 79 #[regV A n c] w fun e w' => ∃ A' n' c', e = .returned (regV A' n' c') ∧ Hid (n' = l.length) ∧ OwnR w.heap.size w' (.slice A' n' c') l ∧ Ext w w' := by
  go_enter Tryz.func79, Tryz.ntmps79
  go_wp2_with (go_at_call 90; refine (Clone_own _ _ _ _ (by first | rfl | assumption) (by omega) _ (by with_reducible repeat (first | assumption | apply Recs.ext | apply Recs.alloc | apply Recs.drew | (refine Recs.of_ext ?_ (by assumption))))).mono ?_; rintro e w1 ⟨Ac1, nc1, cc1, rfl, hnc1, hvc1, E1, d1, rfl⟩)
  refine bodyPost_ret (v := regV Ac1 nc1 cc1) (by simp [results, Tryz.results79, go_sem]) rfl ?_
  have HH := hvc1
  simp only [World.size_alloc] at HH
  exact ⟨_, _, _, rfl, hnc1, OwnR.base (base := w.heap.size + 1 + 1) (OwnR.swap HH (by simp [World.size_alloc]) (by simp [World.size_alloc])) (by omega), (by repeat (first | (with_reducible first | exact Ext.refl _ | exact Ext.same _ _ _ _ | assumption | apply Ext.alloc | apply Ext.ext | apply Ext.drew) | (with_reducible refine Ext.setCell ?_ _ _ ?_; rotate_left; focus (first | omega | (simp only [zs1, zs2, zs3, size_ext]; omega)))))⟩
set_option maxRecDepth 100000 in
set_option maxHeartbeats 2000000 in
theorem rcopied_any (A : Option Addr) (c n : Nat) (l : List Rec) (hn : l.length = n) (hbig : n ≤ 1000000) (w : World) (hr : Recs w A l) :
    Calls Tryz.prog 131 #[regV A n c] w fun e w' => ∃ A' n' c', e = .returned (regV A' n' c') ∧ Hid (n' = l.length) ∧ OwnR w.heap.size w' (.slice A' n' c') l ∧ Ext w w' := by
  subst hn
  go_enter Tryz.func131, Tryz.ntmps131
  go_wp2_with (at_builtin; refine wpList_arec rfl ((w.alloc (.cells #[.slice A l.length c] 34)).alloc (.cells #[.slice none 0 0] 34)) (w.heap.size + 1 + 1) (by simp [World.size_alloc]) rfl _ _ rfl (l := []) l rfl (by exact (by repeat (first | (with_reducible first | exact Ext.refl _ | exact Ext.same _ _ _ _ | assumption | apply Ext.alloc | apply Ext.ext | apply Ext.drew) | (with_reducible refine Ext.setCell ?_ _ _ ?_; rotate_left; focus (first | omega | (simp only [zs1, zs2, zs3, size_ext]; omega)))))) (OwnR.empty _ _ _ (by simp [World.size_alloc]) (Nat.le_refl _)) rfl rfl (show Recs _ A l from (by with_reducible repeat (first | assumption | apply Recs.ext | apply Recs.alloc | apply Recs.drew | (refine Recs.of_ext ?_ (by assumption))))) (by simp; omega) (fun v1 E1 d1 ho1 => ?_); obtain ⟨Av1, mv1, cv1, rfl, hmv1, hcv1, hsv1⟩ := ho1.open; have Ho1 := hid ho1; have Hm1 := hid hmv1; clear ho1 hcv1 hsv1 hmv1)
  refine bodyPost_ret (v := regV Av1 mv1 cv1) (by simp [results, Tryz.results131, go_sem]) rfl ?_
  have HH := Ho1.out
  exact ⟨_, _, _, rfl, hid (by simpa using Hm1.out), OwnR.base (base := w.heap.size + 1 + 1) (OwnR.swap HH (by simp [World.size_alloc]) (by simp [World.size_alloc])) (by omega), (by repeat (first | (with_reducible first | exact Ext.refl _ | exact Ext.same _ _ _ _ | assumption | apply Ext.alloc | apply Ext.ext | apply Ext.drew) | (with_reducible refine Ext.setCell ?_ _ _ ?_; rotate_left; focus (first | omega | (simp only [zs1, zs2, zs3, size_ext]; omega)))))⟩
end Go.Proofs.YtekjdeibnfaehaaGreat
