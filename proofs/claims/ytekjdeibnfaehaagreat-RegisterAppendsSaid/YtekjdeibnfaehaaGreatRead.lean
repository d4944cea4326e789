/- The reference's reading of a file. -/
import Derived.Test.YtekjdeibnfaehaaGreatRDrive
set_option linter.unusedSimpArgs false
set_option linter.unusedVariables false
namespace Go.Proofs.YtekjdeibnfaehaaGreat
open Go Go.RowKit

def rdG (l : List UInt8) : Int := if pageOk l = true then genB l else 0
def rdR (l : List UInt8) : List Rec := if pageOk l = true then recsB l else []
def rdN (l : List UInt8) : Nat := if pageOk l = true then longB l else 0
theorem rd_yes {l : List UInt8} (h : pageOk l = true) : rdG l = genB l ∧ rdR l = recsB l ∧ rdN l = longB l := by simp [rdG, rdR, rdN, h]
theorem rd_no {l : List UInt8} (h : pageOk l = false) : rdG l = 0 ∧ rdR l = [] ∧ rdN l = 0 := by simp [rdG, rdR, rdN, h]
theorem get_gen (A : Option Addr) (n c : Nat) (l : List UInt8) (hn : l.length = n) (h10 : 10 ≤ n) (hbig : n ≤ 9223372036854775807) (w : World) (hb : Byt w A l) :
    Calls Tryz.prog 125 #[.slice A n c, .int .i64 4, .int .i64 4] w fun e w' => e = .returned (.int .i64 (genB l)) ∧ w = w' :=
  get_i A c n l 4 4 hn (by omega) (by omega) (by omega) (by omega) hbig w hb
theorem get_cnt (A : Option Addr) (n c : Nat) (l : List UInt8) (hn : l.length = n) (h10 : 10 ≤ n) (hbig : n ≤ 9223372036854775807) (w : World) (hb : Byt w A l) :
    Calls Tryz.prog 125 #[.slice A n c, .int .i64 8, .int .i64 2] w fun e w' => e = .returned (.int .i64 (cntB l)) ∧ w = w' :=
  get_i A c n l 8 2 hn (by omega) (by omega) (by omega) (by omega) hbig w hb
theorem bytesR_one (o : List Rec) (r : Rec) : (bytesR (o ++ [r])).length = (bytesR o).length + (24 + r.text.size) := by
  rw [bytesR_append, List.length_append, bytesR_cons, bytesR_nil, List.append_nil, frameB_length]
/-- What is there while frames are read. -/
structure RdW (w wr : World) (l : List UInt8) (a : Nat) (o : List Rec) (v : Value) : Prop where
  ext : Ext w wr
  own : OwnR w.heap.size wr v o
  eq : recsB l = o ++ framesL (l.drop a)
  at_ : a = 10 + (bytesR o).length
  few : o.length ≤ a
set_option maxRecDepth 100000 in
set_option maxHeartbeats 8000000 in
theorem read_any (A : Option Addr) (n c : Nat) (l : List UInt8) (hl : l.length = n) (hnc : n ≤ c) (hbig : c ≤ 9223372036854775807) (hn : n ≤ 100000) (w : World) (hb : Byt w A l) :
    Calls Tryz.prog 67 #[.slice A n c] w fun e w' => ∃ A' n' c', e = .returned (.tuple #[.int .i64 (rdG l), .slice A' n' c', .int .i64 (rdN l)]) ∧ Hid (n' = (rdR l).length) ∧ OwnR w.heap.size w' (.slice A' n' c') (rdR l) ∧ Ext w w' := by
  have hhe := isHead_eq hl
  by_cases h10 : n < 10
  · have hp : pageOk l = false := by rw [pageOk, hhe, show decide (10 ≤ n) = false from decide_eq_false (by omega)]; rfl
    obtain ⟨e1, e2, e3⟩ := rd_no hp
    rw [e1, e2, e3]
    clear hp e1 e2 e3 hhe
    go_enter Tryz.func67, Tryz.ntmps67
    go_wp2_with fail
    refine bodyPost_ret (v := .tuple #[.int .i64 0, .slice none 0 0, .int .i64 0]) (by simp [results, Tryz.results67, go_sem]) rfl ?_
    exact ⟨none, 0, 0, rfl, hid rfl, OwnR.none _ _, (by repeat (first | (with_reducible first | exact Ext.refl _ | exact Ext.same _ _ _ _ | assumption | apply Ext.alloc | apply Ext.ext | apply Ext.drew) | (with_reducible refine Ext.setCell ?_ _ _ ?_; rotate_left; focus (first | omega | (simp only [zs1, zs2, zs3, size_ext]; omega)))))⟩
  have h10' : 10 ≤ n := by omega
  have hcv : (convert 22 9 (.slice A 4 c)).run Tryz.prog w = .ok (.string ⟨(l.take 4).toArray⟩) w := by
    have h := run_of_bytes (hb.take 4 (by omega)) c
    rwa [show (l.take 4).length = 4 from by rw [List.length_take]; omega] at h
  have hmq := moor_eq l
  rw [show decide (10 ≤ n) = true from decide_eq_true h10', Bool.true_and, ← hmq] at hhe
  clear hmq
  cases hm : (l.take 4 == [109, 111, 111, 114]) with
  | false =>
    rw [hm] at hhe
    have hp : pageOk l = false := by rw [pageOk, hhe]; rfl
    obtain ⟨e1, e2, e3⟩ := rd_no hp
    rw [e1, e2, e3]
    clear hp e1 e2 e3 hhe
    go_enter Tryz.func67, Tryz.ntmps67
    go_wp2_with fail
    refine bodyPost_ret (v := .tuple #[.int .i64 0, .slice none 0 0, .int .i64 0]) (by simp [results, Tryz.results67, go_sem]) rfl ?_
    exact ⟨none, 0, 0, rfl, hid rfl, OwnR.none _ _, (by repeat (first | (with_reducible first | exact Ext.refl _ | exact Ext.same _ _ _ _ | assumption | apply Ext.alloc | apply Ext.ext | apply Ext.drew) | (with_reducible refine Ext.setCell ?_ _ _ ?_; rotate_left; focus (first | omega | (simp only [zs1, zs2, zs3, size_ext]; omega)))))⟩
  | true =>
    rw [hm] at hhe
    have hgb := genB_bound l
    have hcb := cntB_bound l
    obtain ⟨G, hG⟩ : ∃ G, genB l = G := ⟨_, rfl⟩
    obtain ⟨C, hC⟩ : ∃ C, cntB l = C := ⟨_, rfl⟩
    rw [hG] at hgb
    rw [hC] at hcb
    obtain ⟨g0, g1⟩ := hgb
    obtain ⟨c0, c1⟩ := hcb
    have HG := hid hG
    have HC := hid hC
    have HP : Hid (pageOk l = (inB G 1 1000000000 && decide (C ≤ ((recsB l).length : Int)))) := hid (by rw [pageOk, hhe, hG, hC]; rfl)
    clear hhe hG hC
    cases hgi : inB G 1 1000000000 with
    | false =>
      obtain ⟨e1, e2, e3⟩ := rd_no (l := l) (by rw [HP.out, hgi]; rfl)
      rw [e1, e2, e3]
      clear e1 e2 e3
      go_enter Tryz.func67, Tryz.ntmps67
      go_wp2_with (first | (go_at_call 125; refine (get_i _ _ _ l _ _ hl (by omega) (by omega) (by omega) (by omega) (by omega) _ (by with_reducible repeat (first | assumption | apply Byt.ext | apply Byt.alloc | apply Byt.drew | (refine Byt.of_ext ?_ (by assumption))))).mono ?_; rintro e w1 ⟨rfl, rfl⟩; (first | rw [show valB ((l.drop (Int.toNat 4)).take (Int.toNat 4)) = G from HG.out] | rw [show valB ((l.drop (Int.toNat 8)).take (Int.toNat 2)) = C from HC.out])) | (go_at_call 92; refine (rin_any _ _ _ _).mono ?_; rintro e w1 ⟨rfl, rfl⟩))
      refine bodyPost_ret (v := .tuple #[.int .i64 0, .slice none 0 0, .int .i64 0]) (by simp [results, Tryz.results67, go_sem]) rfl ?_
      exact ⟨none, 0, 0, rfl, hid rfl, OwnR.none _ _, (by repeat (first | (with_reducible first | exact Ext.refl _ | exact Ext.same _ _ _ _ | assumption | apply Ext.alloc | apply Ext.ext | apply Ext.drew) | (with_reducible refine Ext.setCell ?_ _ _ ?_; rotate_left; focus (first | omega | (simp only [zs1, zs2, zs3, size_ext]; omega)))))⟩
    | true =>
      have HP2 : Hid (pageOk l = decide (C ≤ ((recsB l).length : Int))) := hid (by rw [HP.out, hgi]; rfl)
      clear HP
      go_enter Tryz.func67, Tryz.ntmps67
      go_wp2_with (first | (go_at_call 125; refine (get_i _ _ _ l _ _ hl (by omega) (by omega) (by omega) (by omega) (by omega) _ (by with_reducible repeat (first | assumption | apply Byt.ext | apply Byt.alloc | apply Byt.drew | (refine Byt.of_ext ?_ (by assumption))))).mono ?_; rintro e w1 ⟨rfl, rfl⟩; (first | rw [show valB ((l.drop (Int.toNat 4)).take (Int.toNat 4)) = G from HG.out] | rw [show valB ((l.drop (Int.toNat 8)).take (Int.toNat 2)) = C from HC.out])) | (go_at_call 92; refine (rin_any _ _ _ _).mono ?_; rintro e w1 ⟨rfl, rfl⟩))
      go_loopw [5, 6] (fun v i wr => ∃ (a : Nat) (o : List Rec), a ≤ n ∧ i = .int .i64 a ∧ RdW w wr l a o v) (fun _ i _ => n - (intOf i).toNat)
      case atStart => exact ⟨10, [], h10', rfl, Ext.refl _, OwnR.none _ _, rfl, rfl, by simp⟩
      case round =>
        obtain ⟨a, o, ha, rfl, ⟨E9, d9, rfl⟩, hown, heq, hat, hfew⟩ := hrel
        have Hown := hid hown
        have Heq := hid heq
        have Hat := hid hat
        have hfew2 : o.length ≤ 100000 := by omega
        have Hfew := hid hfew
        have ha10 : 10 ≤ a := by omega
        clear hown heq hat hfew
        by_cases hlt : a < n
        · have hal : a < l.length := by omega
          obtain ⟨g, of, rfl, hg, hcell⟩ := hb.at_ hal
          obtain ⟨bt, hbt⟩ : ∃ bt, l[a].toNat = bt := ⟨_, rfl⟩
          have hb256 := l[a].toNat_lt
          have hdrop := List.drop_eq_getElem_cons hal
          have Hdrop := hid hdrop
          have Hbt := hid hbt
          rw [hbt] at hcell hb256
          clear hdrop hbt
          have hb256 : bt < 256 := hb256
          by_cases hle : a + 1 + bt ≤ n
          · obtain ⟨X, hX⟩ : ∃ X, (l.drop (a + 1)).take bt = X := ⟨_, rfl⟩
            have hXl : X.length = bt := by rw [← hX, List.length_take, List.length_drop]; omega
            have hbX : Byt w (cutA (some ⟨g, of, none⟩) c (a + 1)) X := by
              rw [← hX]
              exact (hb.cut (c := c) (k := a + 1) (by omega) (by omega)).take bt (by rw [List.length_drop]; omega)
            obtain ⟨AX, hAX⟩ : ∃ AX, cutA (some ⟨g, of, none⟩) c (a + 1) = AX := ⟨_, rfl⟩
            obtain ⟨cX, hcX⟩ : ∃ cX, c - (a + 1) = cX := ⟨_, rfl⟩
            have hsl : ∀ W, (Instr.slice 22 (.slice (some ⟨g, of, none⟩) n c) (some (.int .i64 ((a : Int) + 1))) (some (.int .i64 ((a : Int) + 1 + bt))) none).run Tryz.prog W = .ok (.slice AX bt cX) W := fun W => by
              have h := run_slice_mid (A := some ⟨g, of, none⟩) (n := n) (c := c) (l := a + 1) (h := a + 1 + bt) (by omega) (by omega) W
              rw [show a + 1 + bt - (a + 1) = bt from by omega, show ((a + 1 : Nat) : Int) = (a : Int) + 1 from by omega, show ((a + 1 + bt : Nat) : Int) = (a : Int) + 1 + bt from by omega, hAX, hcX] at h
              exact h
            rw [hAX] at hbX
            have hcX1 : bt ≤ cX := by omega
            have hcX2 : cX ≤ 9223372036854775807 := by omega
            have HX := hid hX
            clear hAX hcX hX
            cases hd : decOk X with
            | true =>
              obtain ⟨r, hr⟩ : ∃ r, decR X = r := ⟨_, rfl⟩
              have hdv : decV X = r := by rw [decV, hd, if_pos rfl, hr]
              have hde : errDec X = 0 := by rw [errDec, hd]; rfl
              have hrl : bt = 23 + r.text.size := by
                have h1 := recB_length r
                rw [← hr, recB_decR X (by simp only [decOk, Bool.and_eq_true] at hd; exact hd.1), hXl, hr] at h1
                exact h1
              have Hrl := hid hrl
              have HF : Hid (framesL (l.drop a) = r :: framesL (l.drop (a + 1 + bt))) := hid (by
                rw [Hdrop.out, framesL_some (by rw [Hbt.out, List.length_drop]; omega) (by rw [Hbt.out, HX.out]; exact hd), Hbt.out, HX.out, hr, List.drop_drop])
              clear hr hrl hd
              go_wp2_with (first | (go_at_call 126; refine (rDecode_any _ _ _ X hXl (by omega) (by omega) _ (by with_reducible repeat (first | assumption | apply Byt.ext | apply Byt.alloc | apply Byt.drew | (refine Byt.of_ext ?_ (by assumption))))).mono ?_; rintro e w1 ⟨rfl, E1, d1, rfl⟩; rw [hdv, hde]) | (at_builtin; refine wpList_arec rfl w w.heap.size rfl rfl _ _ rfl [r] rfl (by exact (by repeat (first | (with_reducible first | exact Ext.refl _ | exact Ext.same _ _ _ _ | assumption | apply Ext.alloc | apply Ext.ext | apply Ext.drew) | (with_reducible refine Ext.setCell ?_ _ _ ?_; rotate_left; focus (first | omega | (simp only [zs1, zs2, zs3, size_ext]; omega)))))) (by exact Hown.out.of_ext (by repeat (first | (with_reducible first | exact Ext.refl _ | exact Ext.same _ _ _ _ | assumption | apply Ext.alloc | apply Ext.ext | apply Ext.drew) | (with_reducible refine Ext.setCell ?_ _ _ ?_; rotate_left; focus (first | omega | (simp only [zs1, zs2, zs3, size_ext]; omega)))))) rfl rfl (Sl_at (encRec r) _ 11 1 _ rfl (by simp [World.size_alloc])) (by simp; omega) (fun v1 E2 d2 ho1 => ?_)))
              refine ⟨⟨a + 1 + bt, o ++ [r], by omega, by go_num, ⟨(by repeat (first | (with_reducible first | exact Ext.refl _ | exact Ext.same _ _ _ _ | assumption | apply Ext.alloc | apply Ext.ext | apply Ext.drew) | (with_reducible refine Ext.setCell ?_ _ _ ?_; rotate_left; focus (first | omega | (simp only [zs1, zs2, zs3, size_ext]; omega))))), ho1, ?_, ?_, ?_⟩⟩, by simp [intOf]; omega⟩
              · rw [Heq.out, HF.out, List.append_assoc]; rfl
              · have h1 := Hat.out
                have h2 := Hrl.out
                rw [bytesR_one]; omega
              · have := Hfew.out
                rw [List.length_append]; simp; omega
            | false =>
              have hdv : decV X = zeroR := decV_no hd
              have hde : errDec X = 70 := by rw [errDec, hd]; rfl
              have HR : Hid (recsB l = o) := hid (by
                rw [Heq.out, Hdrop.out, framesL_bad (by rw [Hbt.out, HX.out]; exact hd), List.append_nil])
              clear hd
              obtain ⟨Av, nv, cv, hv5, hnv, hcv5, hsv5⟩ := Hown.out.open
              subst hv5
              have Hnv := hid hnv
              have hnv2 : nv ≤ 100000 := by omega
              clear hnv hcv5 hsv5
              by_cases hC : C ≤ (nv : Int)
              · obtain ⟨e1, e2, e3⟩ := rd_yes (l := l) (by rw [HP2.out, HR.out, ← Hnv.out]; exact decide_eq_true hC)
                have e4 : longB l = a := by rw [longB, HR.out]; exact Hat.out.symm
                have E1' := hid e1
                have E2' := hid e2
                have E3' := hid (e3.trans e4)
                clear e1 e2 e3 e4
                go_wp2_with (first | (go_at_call 126; refine (rDecode_any _ _ _ X hXl (by omega) (by omega) _ (by with_reducible repeat (first | assumption | apply Byt.ext | apply Byt.alloc | apply Byt.drew | (refine Byt.of_ext ?_ (by assumption))))).mono ?_; rintro e w1 ⟨rfl, E1, d1, rfl⟩; rw [hdv, hde]) | (go_at_call 125; refine (get_i _ _ _ l _ _ hl (by omega) (by omega) (by omega) (by omega) (by omega) _ (by with_reducible repeat (first | assumption | apply Byt.ext | apply Byt.alloc | apply Byt.drew | (refine Byt.of_ext ?_ (by assumption))))).mono ?_; rintro e w1 ⟨rfl, rfl⟩; (first | rw [show valB ((l.drop (Int.toNat 4)).take (Int.toNat 4)) = G from HG.out] | rw [show valB ((l.drop (Int.toNat 8)).take (Int.toNat 2)) = C from HC.out])) | (go_at_call 92; refine (rin_any _ _ _ _).mono ?_; rintro e w1 ⟨rfl, rfl⟩))
                refine bodyPost_ret (v := .tuple #[.int .i64 G, .slice Av nv cv, .int .i64 a]) (by simp [results, Tryz.results67, go_sem]) rfl ?_
                refine ⟨Av, nv, cv, by rw [E1'.out, E3'.out, HG.out], hid (by rw [E2'.out, HR.out]; exact Hnv.out), ?_, (by repeat (first | (with_reducible first | exact Ext.refl _ | exact Ext.same _ _ _ _ | assumption | apply Ext.alloc | apply Ext.ext | apply Ext.drew) | (with_reducible refine Ext.setCell ?_ _ _ ?_; rotate_left; focus (first | omega | (simp only [zs1, zs2, zs3, size_ext]; omega)))))⟩
                rw [E2'.out, HR.out]
                exact OwnR.of_ext Hown.out (by repeat (first | (with_reducible first | exact Ext.refl _ | exact Ext.same _ _ _ _ | assumption | apply Ext.alloc | apply Ext.ext | apply Ext.drew) | (with_reducible refine Ext.setCell ?_ _ _ ?_; rotate_left; focus (first | omega | (simp only [zs1, zs2, zs3, size_ext]; omega))) | (with_reducible refine Ext.trans ?_ (by assumption))))
              · obtain ⟨e1, e2, e3⟩ := rd_no (l := l) (by rw [HP2.out, HR.out, ← Hnv.out]; exact decide_eq_false hC)
                have E1' := hid e1
                have E2' := hid e2
                have E3' := hid e3
                clear e1 e2 e3
                go_wp2_with (first | (go_at_call 126; refine (rDecode_any _ _ _ X hXl (by omega) (by omega) _ (by with_reducible repeat (first | assumption | apply Byt.ext | apply Byt.alloc | apply Byt.drew | (refine Byt.of_ext ?_ (by assumption))))).mono ?_; rintro e w1 ⟨rfl, E1, d1, rfl⟩; rw [hdv, hde]) | (go_at_call 125; refine (get_i _ _ _ l _ _ hl (by omega) (by omega) (by omega) (by omega) (by omega) _ (by with_reducible repeat (first | assumption | apply Byt.ext | apply Byt.alloc | apply Byt.drew | (refine Byt.of_ext ?_ (by assumption))))).mono ?_; rintro e w1 ⟨rfl, rfl⟩; (first | rw [show valB ((l.drop (Int.toNat 4)).take (Int.toNat 4)) = G from HG.out] | rw [show valB ((l.drop (Int.toNat 8)).take (Int.toNat 2)) = C from HC.out])) | (go_at_call 92; refine (rin_any _ _ _ _).mono ?_; rintro e w1 ⟨rfl, rfl⟩))
                refine bodyPost_ret (v := .tuple #[.int .i64 0, .slice none 0 0, .int .i64 0]) (by simp [results, Tryz.results67, go_sem]) rfl ?_
                exact ⟨none, 0, 0, by rw [E1'.out, E3'.out]; rfl, hid (by rw [E2'.out]; rfl), by rw [E2'.out]; exact OwnR.none _ _, (by repeat (first | (with_reducible first | exact Ext.refl _ | exact Ext.same _ _ _ _ | assumption | apply Ext.alloc | apply Ext.ext | apply Ext.drew) | (with_reducible refine Ext.setCell ?_ _ _ ?_; rotate_left; focus (first | omega | (simp only [zs1, zs2, zs3, size_ext]; omega)))))⟩
          · have HR : Hid (recsB l = o) := hid (by rw [Heq.out, Hdrop.out, framesL_short (by rw [List.length_drop, Hbt.out]; omega), List.append_nil])
            obtain ⟨Av, nv, cv, hv5, hnv, hcv5, hsv5⟩ := Hown.out.open
            subst hv5
            have Hnv := hid hnv
            have hnv2 : nv ≤ 100000 := by omega
            clear hnv hcv5 hsv5
            by_cases hC : C ≤ (nv : Int)
            · obtain ⟨e1, e2, e3⟩ := rd_yes (l := l) (by rw [HP2.out, HR.out, ← Hnv.out]; exact decide_eq_true hC)
              have e4 : longB l = a := by rw [longB, HR.out]; exact Hat.out.symm
              have E1' := hid e1
              have E2' := hid e2
              have E3' := hid (e3.trans e4)
              clear e1 e2 e3 e4
              go_wp2_with (first | (go_at_call 125; refine (get_i _ _ _ l _ _ hl (by omega) (by omega) (by omega) (by omega) (by omega) _ (by with_reducible repeat (first | assumption | apply Byt.ext | apply Byt.alloc | apply Byt.drew | (refine Byt.of_ext ?_ (by assumption))))).mono ?_; rintro e w1 ⟨rfl, rfl⟩; (first | rw [show valB ((l.drop (Int.toNat 4)).take (Int.toNat 4)) = G from HG.out] | rw [show valB ((l.drop (Int.toNat 8)).take (Int.toNat 2)) = C from HC.out])) | (go_at_call 92; refine (rin_any _ _ _ _).mono ?_; rintro e w1 ⟨rfl, rfl⟩))
              refine bodyPost_ret (v := .tuple #[.int .i64 G, .slice Av nv cv, .int .i64 a]) (by simp [results, Tryz.results67, go_sem]) rfl ?_
              refine ⟨Av, nv, cv, by rw [E1'.out, E3'.out, HG.out], hid (by rw [E2'.out, HR.out]; exact Hnv.out), ?_, (by repeat (first | (with_reducible first | exact Ext.refl _ | exact Ext.same _ _ _ _ | assumption | apply Ext.alloc | apply Ext.ext | apply Ext.drew) | (with_reducible refine Ext.setCell ?_ _ _ ?_; rotate_left; focus (first | omega | (simp only [zs1, zs2, zs3, size_ext]; omega)))))⟩
              rw [E2'.out, HR.out]
              exact OwnR.of_ext Hown.out (by repeat (first | (with_reducible first | exact Ext.refl _ | exact Ext.same _ _ _ _ | assumption | apply Ext.alloc | apply Ext.ext | apply Ext.drew) | (with_reducible refine Ext.setCell ?_ _ _ ?_; rotate_left; focus (first | omega | (simp only [zs1, zs2, zs3, size_ext]; omega))) | (with_reducible refine Ext.trans ?_ (by assumption))))
            · obtain ⟨e1, e2, e3⟩ := rd_no (l := l) (by rw [HP2.out, HR.out, ← Hnv.out]; exact decide_eq_false hC)
              have E1' := hid e1
              have E2' := hid e2
              have E3' := hid e3
              clear e1 e2 e3
              go_wp2_with (first | (go_at_call 125; refine (get_i _ _ _ l _ _ hl (by omega) (by omega) (by omega) (by omega) (by omega) _ (by with_reducible repeat (first | assumption | apply Byt.ext | apply Byt.alloc | apply Byt.drew | (refine Byt.of_ext ?_ (by assumption))))).mono ?_; rintro e w1 ⟨rfl, rfl⟩; (first | rw [show valB ((l.drop (Int.toNat 4)).take (Int.toNat 4)) = G from HG.out] | rw [show valB ((l.drop (Int.toNat 8)).take (Int.toNat 2)) = C from HC.out])) | (go_at_call 92; refine (rin_any _ _ _ _).mono ?_; rintro e w1 ⟨rfl, rfl⟩))
              refine bodyPost_ret (v := .tuple #[.int .i64 0, .slice none 0 0, .int .i64 0]) (by simp [results, Tryz.results67, go_sem]) rfl ?_
              exact ⟨none, 0, 0, by rw [E1'.out, E3'.out]; rfl, hid (by rw [E2'.out]; rfl), by rw [E2'.out]; exact OwnR.none _ _, (by repeat (first | (with_reducible first | exact Ext.refl _ | exact Ext.same _ _ _ _ | assumption | apply Ext.alloc | apply Ext.ext | apply Ext.drew) | (with_reducible refine Ext.setCell ?_ _ _ ?_; rotate_left; focus (first | omega | (simp only [zs1, zs2, zs3, size_ext]; omega)))))⟩
        · have HR : Hid (recsB l = o) := hid (by rw [Heq.out, List.drop_of_length_le (by omega), framesL_nil, List.append_nil])
          have han : a = n := by omega
          subst han
          obtain ⟨Av, nv, cv, hv5, hnv, hcv5, hsv5⟩ := Hown.out.open
          subst hv5
          have Hnv := hid hnv
          have hnv2 : nv ≤ 100000 := by omega
          clear hnv hcv5 hsv5
          by_cases hC : C ≤ (nv : Int)
          · obtain ⟨e1, e2, e3⟩ := rd_yes (l := l) (by rw [HP2.out, HR.out, ← Hnv.out]; exact decide_eq_true hC)
            have e4 : longB l = a := by rw [longB, HR.out]; exact Hat.out.symm
            have E1' := hid e1
            have E2' := hid e2
            have E3' := hid (e3.trans e4)
            clear e1 e2 e3 e4
            go_wp2_with (first | (go_at_call 125; refine (get_i _ _ _ l _ _ hl (by omega) (by omega) (by omega) (by omega) (by omega) _ (by with_reducible repeat (first | assumption | apply Byt.ext | apply Byt.alloc | apply Byt.drew | (refine Byt.of_ext ?_ (by assumption))))).mono ?_; rintro e w1 ⟨rfl, rfl⟩; (first | rw [show valB ((l.drop (Int.toNat 4)).take (Int.toNat 4)) = G from HG.out] | rw [show valB ((l.drop (Int.toNat 8)).take (Int.toNat 2)) = C from HC.out])) | (go_at_call 92; refine (rin_any _ _ _ _).mono ?_; rintro e w1 ⟨rfl, rfl⟩))
            refine bodyPost_ret (v := .tuple #[.int .i64 G, .slice Av nv cv, .int .i64 a]) (by simp [results, Tryz.results67, go_sem]) rfl ?_
            refine ⟨Av, nv, cv, by rw [E1'.out, E3'.out, HG.out], hid (by rw [E2'.out, HR.out]; exact Hnv.out), ?_, (by repeat (first | (with_reducible first | exact Ext.refl _ | exact Ext.same _ _ _ _ | assumption | apply Ext.alloc | apply Ext.ext | apply Ext.drew) | (with_reducible refine Ext.setCell ?_ _ _ ?_; rotate_left; focus (first | omega | (simp only [zs1, zs2, zs3, size_ext]; omega)))))⟩
            rw [E2'.out, HR.out]
            exact OwnR.of_ext Hown.out (by repeat (first | (with_reducible first | exact Ext.refl _ | exact Ext.same _ _ _ _ | assumption | apply Ext.alloc | apply Ext.ext | apply Ext.drew) | (with_reducible refine Ext.setCell ?_ _ _ ?_; rotate_left; focus (first | omega | (simp only [zs1, zs2, zs3, size_ext]; omega))) | (with_reducible refine Ext.trans ?_ (by assumption))))
          · obtain ⟨e1, e2, e3⟩ := rd_no (l := l) (by rw [HP2.out, HR.out, ← Hnv.out]; exact decide_eq_false hC)
            have E1' := hid e1
            have E2' := hid e2
            have E3' := hid e3
            clear e1 e2 e3
            go_wp2_with (first | (go_at_call 125; refine (get_i _ _ _ l _ _ hl (by omega) (by omega) (by omega) (by omega) (by omega) _ (by with_reducible repeat (first | assumption | apply Byt.ext | apply Byt.alloc | apply Byt.drew | (refine Byt.of_ext ?_ (by assumption))))).mono ?_; rintro e w1 ⟨rfl, rfl⟩; (first | rw [show valB ((l.drop (Int.toNat 4)).take (Int.toNat 4)) = G from HG.out] | rw [show valB ((l.drop (Int.toNat 8)).take (Int.toNat 2)) = C from HC.out])) | (go_at_call 92; refine (rin_any _ _ _ _).mono ?_; rintro e w1 ⟨rfl, rfl⟩))
            refine bodyPost_ret (v := .tuple #[.int .i64 0, .slice none 0 0, .int .i64 0]) (by simp [results, Tryz.results67, go_sem]) rfl ?_
            exact ⟨none, 0, 0, by rw [E1'.out, E3'.out]; rfl, hid (by rw [E2'.out]; rfl), by rw [E2'.out]; exact OwnR.none _ _, (by repeat (first | (with_reducible first | exact Ext.refl _ | exact Ext.same _ _ _ _ | assumption | apply Ext.alloc | apply Ext.ext | apply Ext.drew) | (with_reducible refine Ext.setCell ?_ _ _ ?_; rotate_left; focus (first | omega | (simp only [zs1, zs2, zs3, size_ext]; omega)))))⟩
end Go.Proofs.YtekjdeibnfaehaaGreat
