/- slices.SortFunc at records: a row of one's own is put in order. -/
import Derived.Test.YtekjdeibnfaehaaGreatPage
import Derived.Test.YtekjdeibnfaehaaGreatLay
import Derived.Shelf.SlSortCmp.NoneTotal
set_option linter.unusedSimpArgs false
set_option linter.unusedVariables false
namespace Go.Proofs.YtekjdeibnfaehaaGreat
open Go Go.RowKit Go.Shelf Go.Sort

/-- Blocks laid and draws made. -/
def Gr (w w' : World) : Prop := ∃ q os, w' = grow (w.drewN q) os
theorem Gr.refl (w : World) : Gr w w := ⟨0, #[], by simp [grow, World.drewN]⟩
theorem Gr.trans {a b c : World} (h : Gr a b) (h' : Gr b c) : Gr a c := by
  obtain ⟨q, os, rfl⟩ := h
  obtain ⟨q', os', rfl⟩ := h'
  exact ⟨q + q', os ++ os', by simp [grow, World.drewN, Array.append_assoc, Nat.add_assoc]⟩
theorem Gr.alloc {a b : World} (h : Gr a b) (o : Obj) : Gr a (b.alloc o) := h.trans ⟨0, #[o], by rw [alloc_eq_grow]; rfl⟩
theorem Gr.drew {a b : World} (h : Gr a b) : Gr a b.drew := h.trans ⟨1, #[], by rw [grow_empty]; rfl⟩
set_option maxHeartbeats 1000000 in
theorem compare_gr (o1 s1 o2 s2 : Int) (w : World) :
    Calls Tryz.prog 122 #[.agg #[.int .i64 o1, .int .i64 s1], .agg #[.int .i64 o2, .int .i64 s2]] w
      fun e w' => e = .returned (.int .i64 (cmpP o1 s1 o2 s2)) ∧ Gr w w' := by
  go_enter Tryz.func122, Tryz.ntmps122
  go_wp2_with fail
  refine wp_region_ord_same (.f 0 (.f 1 (.f 2 (.f 3 (.f 5 (.f 6 (.f 7 (.f 8 (.a 4 (.a 9 (.a 10 (.a 11 (.f 12 .d))))))))))))) (by kernel_rfl) (by kernel_rfl) ?_
  repeat ((first | refine wpOrd_pass rfl rfl ?_ | (refine wpOrd_free (v := ?_) rfl rfl (fun _ hS => ?_) ?_; rotate_left; focus (go_simp; try with_reducible rfl))); simp only [Act.put, zp1, zp2, zp3, zp4, zp5, zp6])
  refine wpOrd_call rfl rfl rfl Tryz.call157 (fun R hR => ?_)
  go_simp
  refine (Compare_any _ _ _).mono ?_
  rintro e w1 ⟨rfl, rfl⟩
  refine hR _ _ ⟨_, rfl, ?_, ?_⟩
  · (first | exact fun b o hb => Ext.cellOf (by repeat (first | (with_reducible first | exact Ext.refl _ | exact Ext.same _ _ _ _ | assumption | apply Ext.alloc | apply Ext.ext | apply Ext.drew) | (with_reducible refine Ext.setCell ?_ _ _ ?_; rotate_left; focus (first | omega | (simp only [zs1, zs2, zs3, size_ext]; omega))))) hb | (intro b o hb; (try simp only [size_ext, zs1, zs2, zs3] at hb); go_simp; try rfl))
  clear hR R
  simp only [Act.put, zp1, zp2, zp3, zp4, zp5, zp6]
  refine wpOrd_call rfl rfl rfl Tryz.call157 (fun R hR => ?_)
  go_simp
  refine (Compare_any _ _ _).mono ?_
  rintro e w1 ⟨rfl, rfl⟩
  refine hR _ _ ⟨_, rfl, ?_, ?_⟩
  · (first | exact fun b o hb => Ext.cellOf (by repeat (first | (with_reducible first | exact Ext.refl _ | exact Ext.same _ _ _ _ | assumption | apply Ext.alloc | apply Ext.ext | apply Ext.drew) | (with_reducible refine Ext.setCell ?_ _ _ ?_; rotate_left; focus (first | omega | (simp only [zs1, zs2, zs3, size_ext]; omega))))) hb | (intro b o hb; (try simp only [size_ext, zs1, zs2, zs3] at hb); go_simp; try rfl))
  clear hR R
  simp only [Act.put, zp1, zp2, zp3, zp4, zp5, zp6]
  refine wpOrd_act rfl rfl (fun K hK => ?_)
  go_simp
  refine hK _ _ ⟨?_, ?_⟩
  · (first | exact fun b o hb => Ext.cellOf (by repeat (first | (with_reducible first | exact Ext.refl _ | exact Ext.same _ _ _ _ | assumption | apply Ext.alloc | apply Ext.ext | apply Ext.drew) | (with_reducible refine Ext.setCell ?_ _ _ ?_; rotate_left; focus (first | omega | (simp only [zs1, zs2, zs3, size_ext]; omega))))) hb | (intro b o hb; (try simp only [size_ext, zs1, zs2, zs3] at hb); go_simp; try rfl))
  clear hK K
  try simp only [Act.put, zp1, zp2, zp3, zp4, zp5, zp6]
  refine wpOrd_call rfl rfl rfl Tryz.call156 (fun R hR => ?_)
  go_simp
  refine (Or2_any (cmpI o1 o2) (cmpI s1 s2) _ _ _ _ (by go_simp) (by go_simp)).mono ?_
  rintro e w1 ⟨rfl, rfl⟩
  refine hR _ _ ⟨_, rfl, ?_, ?_⟩
  · (first | exact fun b o hb => Ext.cellOf (by repeat (first | (with_reducible first | exact Ext.refl _ | exact Ext.same _ _ _ _ | assumption | apply Ext.alloc | apply Ext.ext | apply Ext.drew) | (with_reducible refine Ext.setCell ?_ _ _ ?_; rotate_left; focus (first | omega | (simp only [zs1, zs2, zs3, size_ext]; omega))))) hb | (intro b o hb; (try simp only [size_ext, zs1, zs2, zs3] at hb); go_simp; try rfl))
  clear hR R
  simp only [Act.put, zp1, zp2, zp3, zp4, zp5, zp6]
  repeat ((first | refine wpOrd_pass rfl rfl ?_ | (refine wpOrd_free (v := ?_) rfl rfl (fun _ hS => ?_) ?_; rotate_left; focus (go_simp; try with_reducible rfl))); simp only [Act.put, zp1, zp2, zp3, zp4, zp5, zp6])
  refine wpOrd_nil ?_
  go_wp2
  go_ret
  exact ⟨rfl, by repeat (first | exact Gr.refl _ | apply Gr.alloc | apply Gr.drew)⟩
set_option maxRecDepth 100000 in
set_option maxHeartbeats 1000000 in
theorem sortcmp_gr (x y : Rec) (w : World) :
    Calls Tryz.prog 121 #[recV x, recV y] w fun e w' => e = .returned (.int .i64 (cmpP x.ao x.sq y.ao y.sq)) ∧ Gr w w' := by
  go_enter Tryz.func121, Tryz.ntmps121
  go_wp2_with fail
  refine (compare_gr _ _ _ _ _).mono ?_
  rintro e w1 ⟨rfl, q, os, rfl⟩
  go_wp2_with fail
  go_ret
  exact ⟨rfl, Gr.trans (by repeat (first | exact Gr.refl _ | apply Gr.alloc | apply Gr.drew)) ⟨q, os, rfl⟩⟩
/-- The order of places. -/
def cfR (x y : Rec) : Int := cmpP x.ao x.sq y.ao y.sq
theorem ltR (x y : Rec) : ltOf cfR x y = ltP x.ao x.sq y.ao y.sq := aheadI _ _ _ _
theorem swoR : SWO (ltOf cfR) where
  irrefl x := by rw [ltR, ← Bool.not_eq_true, ltP_iff]; omega
  trans x y z h1 h2 := by rw [ltR, ltP_iff] at *; omega
  ntrans x y z h1 h2 := by
    rw [ltR, ← Bool.not_eq_true, ltP_iff] at *
    omega
instance instRec : Inhabited Rec := ⟨zeroR⟩
theorem flatK_rec (l : List Rec) (j : Nat) (hj : j < l.length * 11) : (l.flatMap encRec)[j]? = some (flatK encRec 11 l.toArray)[j]! := by
  have hi : j / 11 < l.length := by omega
  have hc : j % 11 < 11 := Nat.mod_lt _ (by omega)
  have h := flatMap_get encRec 11 (fun _ => rfl) l (j / 11) (j % 11) hi hc
  rw [show j / 11 * 11 + j % 11 = j by omega] at h
  rw [h, get_flatK encRec 11 l.toArray j (by simpa using hj)]
  have e : (l.toArray)[j / 11]! = l[j / 11] := by simp [hi]
  rw [e]
  have hl : (encRec l[j / 11]).length = 11 := rfl
  rw [List.getElem?_eq_getElem (by rw [hl]; exact hc)]
  simp [hl, hc]
set_option maxRecDepth 100000 in
set_option maxHeartbeats 2000000 in
/-- **slices.SortFunc at a row of records of one's own.** -/
theorem sort_own (N : Nat) (A : Option Addr) (n c : Nat) (l : List Rec) (W : World) (hn : l.length = n) (hbig : n ≤ 1000000) (hown : OwnR N W (.slice A n c) l) (g : Nat) (eg : ∀ args w, (callFunc g args).run Tryz.prog w = .ok (.enter g args) w)
    (hg : ∀ (x y : Rec) (w : World), Calls Tryz.prog g #[recV x, recV y] w fun e w' => e = .returned (.int .i64 (cfR x y)) ∧ Gr w w') :
    Calls Tryz.prog 120 #[.slice A n c, .func (.func g) #[] #[]] W fun e w' => e = .returned (.tuple #[]) ∧ ∃ l' : List Rec, l'.Perm l ∧ Hid (l'.Pairwise fun a b => ¬(cmpP b.ao b.sq a.ao a.sq < 0)) ∧ OwnR N w' (.slice A n c) l' ∧ Below N W w' := by
  subst hn
  rcases hown.2 with ⟨hv, h0⟩ | ⟨gb, cap, cur, hv, hb, hh, hnc, hcm, hcs, hcur⟩
  · have hl : l = [] := List.eq_nil_of_length_eq_zero h0
    subst hl
    simp only [Value.slice.injEq] at hv
    obtain ⟨rfl, -, rfl⟩ := hv
    have hS := AnyF.slices_SortFunc_none (P := Tryz.prog) (ρ := sortL_ren) { sortL with } none 0 (.func (.func g) #[] #[]) W
    refine hS.mono ?_
    rintro e w' ⟨rfl, rfl⟩
    exact ⟨rfl, [], List.Perm.refl _, hid List.Pairwise.nil, OwnR.nil _ _, Below.refl _ _⟩
  · simp only [Value.slice.injEq] at hv
    obtain ⟨rfl, -, rfl⟩ := hv
    have hgb : gb < W.heap.size := (Array.getElem?_eq_some_iff.1 hh).1
    have hcell : ∀ j, j < l.length * 11 → W.cell? ⟨gb, j, none⟩ = some (flatK encRec 11 l.toArray)[j]! ∧ W.frozen? ⟨gb, j, none⟩ = false := by
      intro j hj
      refine ⟨?_, by simp [World.frozen?, hh]⟩
      rw [← flatK_rec l j hj, ← hcur, List.getElem?_take_of_lt hj]
      simp [World.cell?, hh]
    have hH : HoldsK encRec 11 W gb 0 l.toArray := fun j hj => by
      rw [size_flatK] at hj
      rw [Nat.zero_add]
      exact hcell j (by simpa using hj)
    have hS := AnyQ.slices_SortFunc sortL 11 Tryz.isAgg46 Tryz.sizeOf46 encRec (fun _ => rfl) (fun x v hv => encRec_one [x] v (by simpa using hv)) cfR swoR g #[] gb 0 c l.toArray W eg (fun m os dk _ x y => (hg x y _).mono fun e w' h => h) hH hgb (by simp; omega)
    rw [List.size_toArray] at hS
    refine hS.mono ?_
    rintro e w' ⟨rfl, d', q, os, hp, hs, rfl⟩
    have hd : d'.size = l.length := by have := hp.1; simpa using this
    have hperm : d'.toList.Perm l := by
      have := hp.2.2
      rw [← hd, Array.extract_size] at this
      have h2 : (l.toArray.extract 0 d'.size).toList = l := by rw [hd]; simp
      rwa [h2] at this
    refine ⟨rfl, d'.toList, hperm, hid ?_, ?_, ?_⟩
    · rw [List.pairwise_iff_getElem]
      intro i j hi hj hij
      have := hs i j (Nat.zero_le _) hij (by simpa [hd] using hj)
      simp only [Array.length_toList] at hi hj
      rw [getElem!_pos d' j hj, getElem!_pos d' i hi] at this
      unfold ltOf cfR at this
      simpa using this
    · have hB : (putRowK encRec 11 (Sort.ahead W q) gb 0 d').heap[gb]? = some (.cells (putCells id 0 (flatK encRec 11 d') cur) 46) := by
        simp only [putRowK, putRow, mapBlock, Array.getElem?_modify, Sort.ahead, hh, if_true, Option.map_some, onCells]
      refine ⟨by rw [hperm.length_eq, recs_length, hperm.length_eq], .inr ⟨gb, c, putCells id 0 (flatK encRec 11 d') cur, by rw [hperm.length_eq], hb, ?_, by rw [hperm.length_eq]; exact hnc, hcm, by rw [← hcs]; simp [putCells], ?_⟩⟩
      · unfold sortWorldK grow
        rw [Array.getElem?_append_left (Array.getElem?_eq_some_iff.1 hB).1]
        exact hB
      · refine List.ext_getElem? fun j => ?_
        have hsz : cur.size = c * 11 := hcs
        have hfl : (flatK encRec 11 d').size = l.length * 11 := by rw [size_flatK, hd]
        have hle : l.length * 11 ≤ c * 11 := Nat.mul_le_mul_right _ hnc
        by_cases hj : j < l.length * 11
        · have hf := flatK_rec d'.toList j (by simpa [hd] using hj)
          rw [Array.toArray_toList] at hf
          rw [hf, List.getElem?_take_of_lt (by rw [hperm.length_eq]; exact hj)]
          simp only [putCells, Array.toList_mapIdx, List.getElem?_mapIdx, Nat.zero_le, true_and, Nat.zero_add, hfl, if_pos hj, Nat.sub_zero, id]
          rw [Array.getElem?_toList, Array.getElem?_eq_getElem (by omega)]
          rfl
        · rw [List.getElem?_eq_none (by rw [List.length_take, hperm.length_eq]; omega), List.getElem?_eq_none (by rw [recs_length, hperm.length_eq]; omega)]
    · refine ⟨rfl, rfl, rfl, by simp [sortWorldK, grow, putRowK, putRow, mapBlock, Sort.ahead], fun k hk => ?_⟩
      unfold sortWorldK grow
      have h1 : (putRowK encRec 11 (Sort.ahead W q) gb 0 d').heap[k]? = W.heap[k]? := by
        simp only [putRowK, putRow, mapBlock, Array.getElem?_modify, Sort.ahead]
        rw [if_neg (by omega)]
      have h2 : k < (putRowK encRec 11 (Sort.ahead W q) gb 0 d').heap.size := by simp [putRowK, putRow, mapBlock, Sort.ahead]; omega
      show ((putRowK encRec 11 (Sort.ahead W q) gb 0 d').heap ++ os)[k]? = _
      rw [Array.getElem?_append_left h2, h1]
end Go.Proofs.YtekjdeibnfaehaaGreat
