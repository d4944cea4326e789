/- The reference's stands and Stands. -/
import Derived.Test.YtekjdeibnfaehaaGreatTellP
import Derived.Test.YtekjdeibnfaehaaGreatStands
set_option linter.unusedSimpArgs false
set_option linter.unusedVariables false
namespace Go.Proofs.YtekjdeibnfaehaaGreat
open Go.RowKit

/-- The row of answers at w's end. -/
structure StandV (w wr : World) (row : List Value) : Prop where
  ext : Ext w wr
  row : wr.heap[w.heap.size]? = some (.cells row.toArray 4)
theorem StandV.lt {w wr : World} {row : List Value} (h : StandV w wr row) : w.heap.size < wr.heap.size := (Array.getElem?_eq_some_iff.1 h.row).1
theorem StandV.cell {w wr : World} {row : List Value} (h : StandV w wr row) {j : Nat} {v : Value} (hj : row[j]? = some v) : wr.cell? ⟨w.heap.size, j, none⟩ = some v := by
  simp only [World.cell?, h.row, Option.isSome_none, Bool.false_eq_true, if_false]
  rw [List.getElem?_toArray, hj]
theorem StandV.drew {w wr : World} {row : List Value} (h : StandV w wr row) : StandV w wr.drew row := ⟨h.ext.drew, h.row⟩
theorem StandV.frozen {w wr : World} {row : List Value} (h : StandV w wr row) (j : Nat) : wr.frozen? ⟨w.heap.size, j, none⟩ = false := by simp [World.frozen?, h.row]
theorem StandV.stored {w wr : World} {row : List Value} (h : StandV w wr row) (m : Nat) (v : Value) : StandV w (wr.setCell ⟨w.heap.size, m, none⟩ v) (row.set m v) := by
  rw [setCell_eq_setRow wr w.heap.size m _ 4 (0, 0) _ h.row]
  refine ⟨h.ext.setRow _ _ (Nat.le_refl _), ?_⟩
  have hh := setRow_heap wr w.heap.size _ (row.toArray.setIfInBounds m v) _ _ h.row
  rw [hh]
  simp
/-- The row while round m looks for what withdraws its record. -/
def rowK (l : List Rec) (m K : Nat) (r : Rec) : List Value := (boolRow l (m + 1)).set m (.bool (standK l m K r))
theorem rowK_start (l : List Rec) (m : Nat) (r : Rec) : (boolRow l (m + 1)).set m (.bool true) = rowK l m (m + 1) r := by rw [rowK, standK_start]
theorem rowK_done {l : List Rec} {m : Nat} (hm : m < l.length) : rowK l m l.length l[m] = boolRow l m := by rw [rowK, standK_done hm, boolRow_step l m hm]
theorem rowK_lease {l : List Rec} {m : Nat} (hm : m < l.length) (K : Nat) (h : (l[m].kind == 1) = true) : rowK l m K l[m] = boolRow l m := by
  rw [← rowK_done hm, rowK, rowK, standK_lease h, standK_lease h]
theorem rowK_miss {l : List Rec} {m K : Nat} (hK : m < K) (r : Rec) (h : hitJ l r.ao r.sq K = false) : rowK l m (K + 1) r = rowK l m K r := by
  rw [rowK, rowK, standK, standK, hitW_succ hK, h, Bool.or_false]
theorem rowK_hit {l : List Rec} {m K : Nat} (hK : m < K) (r : Rec) (h1 : (r.kind == 1) = false) (h : hitJ l r.ao r.sq K = true) : (rowK l m K r).set m (.bool false) = rowK l m (K + 1) r := by
  rw [rowK, rowK, List.set_set, standK, hitW_succ hK, h, Bool.or_true]
  have : ¬ r.kind = 1 := by simpa using h1
  simp [this]
theorem rowK_get {l : List Rec} {m K : Nat} (hm : m < K) (k : Nat) (r : Rec) {b : Bool} (hb : (standL l)[K]? = some b) : (rowK l m k r)[K]? = some (.bool b) := by
  rw [rowK, List.getElem?_set_ne (by omega), boolRow, List.map_append, List.getElem?_append_right (by simp; omega), List.getElem?_map, standL_drop, List.getElem?_drop]
  simp only [List.length_map, List.length_replicate]
  rw [show m + 1 + (K - (m + 1)) = K from by omega, hb]
  rfl
theorem rowK_length {l : List Rec} {m : Nat} (hm : m < l.length) (K : Nat) (r : Rec) : (rowK l m K r).length = l.length := by
  rw [rowK, List.length_set, boolRow_length l (by omega)]
set_option maxRecDepth 100000 in
set_option maxHeartbeats 8000000 in
theorem rstands_any (A : Option Addr) (c n : Nat) (l : List Rec) (hn : l.length = n) (hbig : n ≤ 100000) (w : World) (hr : Recs w A l) :
    Calls Tryz.prog 86 #[.slice A n c] w fun e w' => e = .returned (.slice (some ⟨w.heap.size, 0, none⟩) n n) ∧ Hid (w.heap.size < w'.heap.size ∧ ∀ (j : Nat) b, (standL l)[j]? = some b → w'.cell? ⟨w.heap.size, j, none⟩ = some (.bool b)) ∧ Ext w w' := by
  obtain ⟨i0, hi0, hz0, hzs, hzb⟩ := info_parts info_bool
  go_enter Tryz.func86, Tryz.ntmps86
  go_wp2_with (at_make; refine wpList_make_row _ rfl _ _ 142 rfl 4 i0 _ Tryz.underlying142 hi0 hz0 hzs rfl .i64 .i64 n rfl rfl (by rw [hzb]; omega) (by omega) ?_)
  go_loopw [4, 5] (fun i _ wr => ∃ k : Nat, k ≤ n ∧ i = .int .i64 ((k : Int) - 1) ∧ StandV w wr (boolRow l k)) (fun i _ _ => (intOf i + 1).toNat)
  case atStart =>
    refine ⟨n, Nat.le_refl _, rfl, ⟨(by repeat (first | (with_reducible first | exact Ext.refl _ | exact Ext.same _ _ _ _ | assumption | apply Ext.alloc | apply Ext.ext | apply Ext.drew) | (with_reducible refine Ext.setCell ?_ _ _ ?_; rotate_left; focus (first | omega | (simp only [zs1, zs2, zs3, size_ext]; omega))))), ?_⟩⟩
    rw [← hn, boolRow_all, madeBools]
    exact heap_alloc_new w _
  case round =>
    obtain ⟨k, hk, rfl, hst⟩ := hrel
    by_cases h0 : k = 0
    · subst h0
      go_wp2_with fail
      go_ret
      refine ⟨rfl, hid ⟨hst.lt, fun j b hu => ?_⟩, hst.ext⟩
      refine hst.cell ?_
      rw [boolRow_zero, List.getElem?_map, hu]
      rfl
    · obtain ⟨m, rfl⟩ : ∃ m, k = m + 1 := ⟨k - 1, by omega⟩
      have hm : m < l.length := by omega
      have hmn : m < n := by omega
      have e2 : (((m + 1 : Nat) : Int) - 1) = m := by omega
      rw [e2]
      have hlt := hst.lt
      have hfz := hst.frozen m
      have hcell : ∃ v, wr.cell? ⟨w.heap.size, m, none⟩ = some v := ⟨_, hst.cell (List.getElem?_eq_getElem (by rw [boolRow_length l (by omega)]; exact hm))⟩
      obtain ⟨v0, hcell⟩ := hcell
      obtain ⟨r, hrk⟩ : ∃ r, l[m] = r := ⟨_, rfl⟩
      have hs0 := hst.stored m (.bool true)
      rw [rowK_start l m r] at hs0
      have HS0 := hid hs0
      have Hrk := hid hrk
      clear hs0 hst hrk
      go_wp2_with fail
      go_loopw [5] (fun kv wr => ∃ K : Nat, m < K ∧ K ≤ n ∧ kv = .int .i64 K ∧ StandV w wr (rowK l m K r)) (fun kv _ => n - (intOf kv).toNat)
      case atStart => exact ⟨m + 1, by omega, by omega, by go_num, HS0.out⟩
      case round =>
        obtain ⟨K, hmK, hKn, rfl, hsv⟩ := hrel
        clear hcell hfz HS0
        have hlt2 := hsv.lt
        by_cases hlt3 : K < n
        · have hK : K < l.length := by omega
          have hr2 := hr.of_ext hsv.ext
          obtain ⟨g, of, rfl, hg⟩ := hr2.addr (by omega)
          have hrowm := hr2.row hm
          have hrowK := hr2.row hK
          rw [Hrk.out] at hrowm
          obtain ⟨m0, m1, m2, _⟩ := hrowm
          cases k1 : (r.kind == 1) with
          | true =>
            have HT := hid (rowK_lease hm K (by rw [Hrk.out]; exact k1))
            rw [Hrk.out] at HT
            have HS := hid (show StandV w wr (boolRow l m) by rw [← HT.out]; exact hsv)
            clear hsv HT hr2 hrowK
            go_wp2_with fail
            exact ⟨⟨m, by omega, by go_num, HS.out⟩, by simp [intOf]⟩
          | false =>
            obtain ⟨b, hb⟩ : ∃ b, (standL l)[K]? = some b := ⟨_, List.getElem?_eq_getElem (by rw [standL_length]; exact hK)⟩
            have hcb := hsv.cell (rowK_get hmK K r hb)
            have hfz := hsv.frozen m
            have hcell : ∃ v, wr.cell? ⟨w.heap.size, m, none⟩ = some v := ⟨_, hsv.cell (List.getElem?_eq_getElem (by rw [rowK_length hm]; exact hm))⟩
            obtain ⟨v0, hcell⟩ := hcell
            have hj := hitJ_at (o := r.ao) (s := r.sq) (List.getElem?_eq_getElem hK) hb
            have Again : Hid (hitJ l r.ao r.sq K = false → StandV w wr.drew (rowK l m (K + 1) r)) := hid fun h => by rw [rowK_miss hmK r h]; exact hsv.drew
            have Hit : Hid (hitJ l r.ao r.sq K = true → StandV w (wr.drew.setCell ⟨w.heap.size, m, none⟩ (.bool false)) (rowK l m (K + 1) r)) := hid fun h => by
              rw [← rowK_hit hmK r k1 h]; exact hsv.drew.stored m _
            obtain ⟨x, hxk⟩ : ∃ x, l[K] = x := ⟨_, rfl⟩
            rw [hxk] at hrowK hj
            obtain ⟨x0, x1, x2, x3, x4, x5, x6, x7, x8, _⟩ := hrowK
            have x7' : wr.cell? ⟨g, of + K * 11 + 6 + 1, none⟩ = some (.int .i64 x.ws) := x7
            have Hj := hid hj
            clear hsv hr2 hxk hj hb
            cases k2 : (x.kind == 0) with
            | false =>
              have HA := hid (Again.out (by rw [Hj.out]; have : ¬ x.kind = 0 := by simpa using k2
                                            simp [this]))
              clear Again Hit Hj
              go_wp2_with fail
              refine wp_region_ord_same (.f 0 (.f 1 (.f 2 (.f 3 (.f 4 (.f 5 (.f 6 (.f 7 (.f 8 (.f 9 (.f 10 (.f 11 (.f 12 (.f 13 (.f 14 (.f 15 (.f 16 (.f 17 (.f 18 (.f 19 (.f 20 (.f 21 (.f 22 (.f 23 (.f 24 .d))))))))))))))))))))))))) (by kernel_rfl) (by kernel_rfl) ?_
              repeat ((first | refine wpOrd_pass rfl rfl ?_ | (refine wpOrd_free (v := ?_) rfl rfl (fun _ hS => ?_) ?_; rotate_left; focus (go_simp; try with_reducible rfl))); simp only [Act.put, zp1, zp2, zp3, zp4, zp5, zp6])
              refine ord_bool (j := 6) rfl (fun hb6 => ?_) (fun hb6 => ?_)
              rotate_left
              focus
               try (exfalso; first | (simp at hb6; done) | (simp at hb6; omega))
               all_goals
                (try simp only [hb6])
                repeat ((first | refine wpOrd_pass rfl rfl ?_ | (refine wpOrd_free (v := ?_) rfl rfl (fun _ hS => ?_) ?_; rotate_left; focus (go_simp; try with_reducible rfl))); simp only [Act.put, zp1, zp2, zp3, zp4, zp5, zp6])
                refine wpOrd_nil ?_
              rotate_right
              focus
               try (exfalso; first | (simp at hb6; done) | (simp at hb6; omega))
               all_goals
                (try simp only [hb6])
                repeat ((first | refine wpOrd_pass rfl rfl ?_ | (refine wpOrd_free (v := ?_) rfl rfl (fun _ hS => ?_) ?_; rotate_left; focus (go_simp; try with_reducible rfl))); simp only [Act.put, zp1, zp2, zp3, zp4, zp5, zp6])
                refine ord_bool (j := 19) rfl (fun hb19 => ?_) (fun hb19 => ?_)
                rotate_left
                focus
                 try (exfalso; first | (simp at hb19; done) | (simp at hb19; omega))
                 all_goals
                  (try simp only [hb19])
                  repeat ((first | refine wpOrd_pass rfl rfl ?_ | (refine wpOrd_free (v := ?_) rfl rfl (fun _ hS => ?_) ?_; rotate_left; focus (go_simp; try with_reducible rfl))); simp only [Act.put, zp1, zp2, zp3, zp4, zp5, zp6])
                  refine wpOrd_nil ?_
                rotate_right
                focus
                 try (exfalso; first | (simp at hb19; done) | (simp at hb19; omega))
                 all_goals
                  (try simp only [hb19])
                  repeat ((first | refine wpOrd_pass rfl rfl ?_ | (refine wpOrd_free (v := ?_) rfl rfl (fun _ hS => ?_) ?_; rotate_left; focus (go_simp; try with_reducible rfl))); simp only [Act.put, zp1, zp2, zp3, zp4, zp5, zp6])
                  refine wpOrd_nil ?_
              go_wp2_with fail
              exact ⟨⟨K + 1, by omega, by omega, by go_num, HA.out⟩, by simp [intOf]; omega⟩
            | true =>
              cases k3 : plcEqB x.wo x.ws r.ao r.sq with
              | false =>
                have HA := hid (Again.out (by rw [Hj.out]; rw [plcEqB] at k3; simp [k3]))
                clear Again Hit Hj
                go_wp2_with fail
                refine wp_region_ord_same (.f 0 (.f 1 (.f 2 (.f 3 (.f 4 (.f 5 (.f 6 (.f 7 (.f 8 (.f 9 (.f 10 (.f 11 (.f 12 (.f 13 (.f 14 (.f 15 (.f 16 (.f 17 (.f 18 (.f 19 (.f 20 (.f 21 (.f 22 (.f 23 (.f 24 .d))))))))))))))))))))))))) (by kernel_rfl) (by kernel_rfl) ?_
                repeat ((first | refine wpOrd_pass rfl rfl ?_ | (refine wpOrd_free (v := ?_) rfl rfl (fun _ hS => ?_) ?_; rotate_left; focus (go_simp; try with_reducible rfl))); simp only [Act.put, zp1, zp2, zp3, zp4, zp5, zp6])
                refine ord_bool (j := 6) rfl (fun hb6 => ?_) (fun hb6 => ?_)
                rotate_left
                focus
                 try (exfalso; first | (simp at hb6; done) | (simp at hb6; omega))
                 all_goals
                  (try simp only [hb6])
                  repeat ((first | refine wpOrd_pass rfl rfl ?_ | (refine wpOrd_free (v := ?_) rfl rfl (fun _ hS => ?_) ?_; rotate_left; focus (go_simp; try with_reducible rfl))); simp only [Act.put, zp1, zp2, zp3, zp4, zp5, zp6])
                  refine wpOrd_nil ?_
                rotate_right
                focus
                 try (exfalso; first | (simp at hb6; done) | (simp at hb6; omega))
                 all_goals
                  (try simp only [hb6])
                  repeat ((first | refine wpOrd_pass rfl rfl ?_ | (refine wpOrd_free (v := ?_) rfl rfl (fun _ hS => ?_) ?_; rotate_left; focus (go_simp; try with_reducible rfl))); simp only [Act.put, zp1, zp2, zp3, zp4, zp5, zp6])
                  refine ord_bool (j := 19) rfl (fun hb19 => ?_) (fun hb19 => ?_)
                  rotate_left
                  focus
                   try (exfalso; first | (simp at hb19; done) | (simp at hb19; omega))
                   all_goals
                    (try simp only [hb19])
                    repeat ((first | refine wpOrd_pass rfl rfl ?_ | (refine wpOrd_free (v := ?_) rfl rfl (fun _ hS => ?_) ?_; rotate_left; focus (go_simp; try with_reducible rfl))); simp only [Act.put, zp1, zp2, zp3, zp4, zp5, zp6])
                    refine wpOrd_nil ?_
                  rotate_right
                  focus
                   try (exfalso; first | (simp at hb19; done) | (simp at hb19; omega))
                   all_goals
                    (try simp only [hb19])
                    repeat ((first | refine wpOrd_pass rfl rfl ?_ | (refine wpOrd_free (v := ?_) rfl rfl (fun _ hS => ?_) ?_; rotate_left; focus (go_simp; try with_reducible rfl))); simp only [Act.put, zp1, zp2, zp3, zp4, zp5, zp6])
                    refine wpOrd_nil ?_
                go_wp2_with fail
                exact ⟨⟨K + 1, by omega, by omega, by go_num, HA.out⟩, by simp [intOf]; omega⟩
              | true =>
                have hj2 : hitJ l r.ao r.sq K = b := by rw [Hj.out]; rw [plcEqB] at k3; simp [k3, eq_of_beq k2]
                rw [hj2] at Again Hit
                clear Hj hj2
                cases b with
                | false =>
                  have HA := hid (Again.out rfl)
                  clear Again Hit
                  go_wp2_with fail
                  refine wp_region_ord_same (.f 0 (.f 1 (.f 2 (.f 3 (.f 4 (.f 5 (.f 6 (.f 7 (.f 8 (.f 9 (.f 10 (.f 11 (.f 12 (.f 13 (.f 14 (.f 15 (.f 16 (.f 17 (.f 18 (.f 19 (.f 20 (.f 21 (.f 22 (.f 23 (.f 24 .d))))))))))))))))))))))))) (by kernel_rfl) (by kernel_rfl) ?_
                  repeat ((first | refine wpOrd_pass rfl rfl ?_ | (refine wpOrd_free (v := ?_) rfl rfl (fun _ hS => ?_) ?_; rotate_left; focus (go_simp; try with_reducible rfl))); simp only [Act.put, zp1, zp2, zp3, zp4, zp5, zp6])
                  refine ord_bool (j := 6) rfl (fun hb6 => ?_) (fun hb6 => ?_)
                  rotate_left
                  focus
                   try (exfalso; first | (simp at hb6; done) | (simp at hb6; omega))
                   all_goals
                    (try simp only [hb6])
                    repeat ((first | refine wpOrd_pass rfl rfl ?_ | (refine wpOrd_free (v := ?_) rfl rfl (fun _ hS => ?_) ?_; rotate_left; focus (go_simp; try with_reducible rfl))); simp only [Act.put, zp1, zp2, zp3, zp4, zp5, zp6])
                    refine wpOrd_nil ?_
                  rotate_right
                  focus
                   try (exfalso; first | (simp at hb6; done) | (simp at hb6; omega))
                   all_goals
                    (try simp only [hb6])
                    repeat ((first | refine wpOrd_pass rfl rfl ?_ | (refine wpOrd_free (v := ?_) rfl rfl (fun _ hS => ?_) ?_; rotate_left; focus (go_simp; try with_reducible rfl))); simp only [Act.put, zp1, zp2, zp3, zp4, zp5, zp6])
                    refine ord_bool (j := 19) rfl (fun hb19 => ?_) (fun hb19 => ?_)
                    rotate_left
                    focus
                     try (exfalso; first | (simp at hb19; done) | (simp at hb19; omega))
                     all_goals
                      (try simp only [hb19])
                      repeat ((first | refine wpOrd_pass rfl rfl ?_ | (refine wpOrd_free (v := ?_) rfl rfl (fun _ hS => ?_) ?_; rotate_left; focus (go_simp; try with_reducible rfl))); simp only [Act.put, zp1, zp2, zp3, zp4, zp5, zp6])
                      refine wpOrd_nil ?_
                    rotate_right
                    focus
                     try (exfalso; first | (simp at hb19; done) | (simp at hb19; omega))
                     all_goals
                      (try simp only [hb19])
                      repeat ((first | refine wpOrd_pass rfl rfl ?_ | (refine wpOrd_free (v := ?_) rfl rfl (fun _ hS => ?_) ?_; rotate_left; focus (go_simp; try with_reducible rfl))); simp only [Act.put, zp1, zp2, zp3, zp4, zp5, zp6])
                      refine wpOrd_nil ?_
                  go_wp2_with fail
                  exact ⟨⟨K + 1, by omega, by omega, by go_num, HA.out⟩, by simp [intOf]; omega⟩
                | true =>
                  have HA := hid (Hit.out rfl)
                  clear Again Hit
                  go_wp2_with fail
                  refine wp_region_ord_same (.f 0 (.f 1 (.f 2 (.f 3 (.f 4 (.f 5 (.f 6 (.f 7 (.f 8 (.f 9 (.f 10 (.f 11 (.f 12 (.f 13 (.f 14 (.f 15 (.f 16 (.f 17 (.f 18 (.f 19 (.f 20 (.f 21 (.f 22 (.f 23 (.f 24 .d))))))))))))))))))))))))) (by kernel_rfl) (by kernel_rfl) ?_
                  repeat ((first | refine wpOrd_pass rfl rfl ?_ | (refine wpOrd_free (v := ?_) rfl rfl (fun _ hS => ?_) ?_; rotate_left; focus (go_simp; try with_reducible rfl))); simp only [Act.put, zp1, zp2, zp3, zp4, zp5, zp6])
                  refine ord_bool (j := 6) rfl (fun hb6 => ?_) (fun hb6 => ?_)
                  rotate_left
                  focus
                   try (exfalso; first | (simp at hb6; done) | (simp at hb6; omega))
                   all_goals
                    (try simp only [hb6])
                    repeat ((first | refine wpOrd_pass rfl rfl ?_ | (refine wpOrd_free (v := ?_) rfl rfl (fun _ hS => ?_) ?_; rotate_left; focus (go_simp; try with_reducible rfl))); simp only [Act.put, zp1, zp2, zp3, zp4, zp5, zp6])
                    refine wpOrd_nil ?_
                  rotate_right
                  focus
                   try (exfalso; first | (simp at hb6; done) | (simp at hb6; omega))
                   all_goals
                    (try simp only [hb6])
                    repeat ((first | refine wpOrd_pass rfl rfl ?_ | (refine wpOrd_free (v := ?_) rfl rfl (fun _ hS => ?_) ?_; rotate_left; focus (go_simp; try with_reducible rfl))); simp only [Act.put, zp1, zp2, zp3, zp4, zp5, zp6])
                    refine ord_bool (j := 19) rfl (fun hb19 => ?_) (fun hb19 => ?_)
                    rotate_left
                    focus
                     try (exfalso; first | (simp at hb19; done) | (simp at hb19; omega))
                     all_goals
                      (try simp only [hb19])
                      repeat ((first | refine wpOrd_pass rfl rfl ?_ | (refine wpOrd_free (v := ?_) rfl rfl (fun _ hS => ?_) ?_; rotate_left; focus (go_simp; try with_reducible rfl))); simp only [Act.put, zp1, zp2, zp3, zp4, zp5, zp6])
                      refine wpOrd_nil ?_
                    rotate_right
                    focus
                     try (exfalso; first | (simp at hb19; done) | (simp at hb19; omega))
                     all_goals
                      (try simp only [hb19])
                      repeat ((first | refine wpOrd_pass rfl rfl ?_ | (refine wpOrd_free (v := ?_) rfl rfl (fun _ hS => ?_) ?_; rotate_left; focus (go_simp; try with_reducible rfl))); simp only [Act.put, zp1, zp2, zp3, zp4, zp5, zp6])
                      refine wpOrd_nil ?_
                  go_wp2_with fail
                  exact ⟨⟨K + 1, by omega, by omega, by go_num, HA.out⟩, by simp [intOf]; omega⟩
        · obtain rfl : K = n := by omega
          have HT := rowK_done hm
          rw [Hrk.out, hn] at HT
          have HS := hid (show StandV w wr (boolRow l m) by rw [← HT]; exact hsv)
          clear hsv HT
          go_wp2_with fail
          exact ⟨⟨m, by omega, by go_num, HS.out⟩, by simp [intOf]⟩
end Go.Proofs.YtekjdeibnfaehaaGreat
