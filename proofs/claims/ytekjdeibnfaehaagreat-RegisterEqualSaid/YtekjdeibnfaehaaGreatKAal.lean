/- Texts of a proof. -/
import Derived.Test.YtekjdeibnfaehaaGreatKAak
/- Stands and Standing. -/
set_option linter.unusedSimpArgs false
set_option linter.unusedVariables false
namespace Go.Proofs.YtekjdeibnfaehaaGreat
open Go.RowKit

theorem standsE_bad {l : List Rec} {o s : Int} (h : checkB l = false) : standsE l o s = 71 := by simp [standsE, h]
theorem standsB_bad {l : List Rec} {o s : Int} (h : checkB l = false) : standsB l o s = false := by simp [standsB, standsE, h]
theorem standsE_none {l : List Rec} {o s : Int} (h : checkB l = true) (h2 : hasR l o s = false) : standsE l o s = 3 := by simp [standsE, h, h2]
theorem standsB_none {l : List Rec} {o s : Int} (h : checkB l = true) (h2 : hasR l o s = false) : standsB l o s = false := by simp [standsB, standsE, h, h2]
theorem standsE_ok {l : List Rec} {o s : Int} (h : checkB l = true) (h2 : hasR l o s = true) : standsE l o s = 0 := by simp [standsE, h, h2]
theorem standsB_ok {l : List Rec} {o s : Int} (h : checkB l = true) (h2 : hasR l o s = true) : standsB l o s = (standL l).getD (posR l o s) false := by simp [standsB, standsE, h, h2]
set_option maxRecDepth 100000 in
set_option maxHeartbeats 4000000 in
theorem Stands_any (A : Option Addr) (c n : Nat) (l : List Rec) (o s : Int) (hn : l.length = n) (hbig : n ≤ 9223372036854775807) (ht : TxtBig l) (w : World) (hr : Recs w A l) :
    Calls Tryz.prog 24 #[regV A n c, .agg #[.int .i64 o, .int .i64 s]] w fun e w' => e = .returned (.tuple #[.bool (standsB l o s), .int .i64 (standsE l o s)]) ∧ Ext w w' := by
  cases hc : checkB l with
  | false =>
    have he := errReg_bad hc
    have HE := hid (standsE_bad (o := o) (s := s) hc)
    have HB := hid (standsB_bad (o := o) (s := s) hc)
    clear hc
    go_enter Tryz.func24, Tryz.ntmps24
    go_wp2_with (go_at_call 81; refine (Check_any _ _ _ _ (by first | rfl | assumption) (by omega) (by assumption) _ (recI ‹_›)).mono ?_; rintro e w1 ⟨rfl, E1, d1, rfl⟩)
    go_ret2
    exact ⟨ret_val (by rw [HE.out, HB.out]; rfl), exI⟩
  | true =>
    have he := errReg_ok hc
    obtain ⟨h80, _, hs⟩ := checkB_iff.1 hc
    cases hh : hasR l o s with
    | false =>
      have HE := hid (standsE_none hc hh)
      have HB := hid (standsB_none hc hh)
      clear hc
      go_enter Tryz.func24, Tryz.ntmps24
      go_wp2_with (first | (go_at_call 81; refine (Check_any _ _ _ _ (by first | rfl | assumption) (by omega) (by assumption) _ (recI ‹_›)).mono ?_; rintro e w1 ⟨rfl, E1, d1, rfl⟩) | (go_at_call 82; refine (find_any _ _ _ _ _ _ (by first | rfl | assumption) (by omega) (by assumption) _ (recI ‹_›)).mono ?_; rintro e w1 ⟨rfl, E1, d1, rfl⟩))
      go_ret2
      exact ⟨ret_val (by rw [HE.out, HB.out]; rfl), exI⟩
    | true =>
      have HE := hid (standsE_ok hc hh)
      have HB := hid (standsB_ok hc hh)
      obtain ⟨hp, _⟩ := (hasR_pos hs o s).1 hh
      have hps : posR l o s < (standL l).length := by rw [standL_length]; exact hp
      have hg : (standL l).getD (posR l o s) false = (standL l)[posR l o s] := by simp [List.getD_eq_getElem?_getD, hps]
      obtain ⟨k, hk⟩ : ∃ k, posR l o s = k := ⟨_, rfl⟩
      obtain ⟨b, hb⟩ : ∃ b, (standL l)[posR l o s] = b := ⟨_, rfl⟩
      rw [hb] at hg
      have HG := hid hg
      have Hb : Hid ((standL l)[k]? = some b) := hid (by subst hk; rw [List.getElem?_eq_getElem hps, hb])
      have hkn : k < n := by omega
      have h80' : n ≤ 80 := by omega
      clear hc hb hg
      go_enter Tryz.func24, Tryz.ntmps24
      go_wp2_with (first | (go_at_call 83; refine (standing_any _ _ _ l (by assumption) (by omega) _ (recI ‹_›)).mono ?_; rintro e w1 ⟨rfl, hss, E2, d2, rfl⟩; have hck := hss.out.2 k b Hb.out; have hcl := hss.out.1; simp only [World.size_alloc, size_ext] at hck hcl; clear hss) | (go_at_call 81; refine (Check_any _ _ _ _ (by first | rfl | assumption) (by omega) (by assumption) _ (recI ‹_›)).mono ?_; rintro e w1 ⟨rfl, E1, d1, rfl⟩) | (go_at_call 82; refine (find_any _ _ _ _ _ _ (by first | rfl | assumption) (by omega) (by assumption) _ (recI ‹_›)).mono ?_; rintro e w1 ⟨rfl, E1, d1, rfl⟩))
      go_ret2
      exact ⟨ret_val (by rw [HE.out, HB.out, HG.out]; rfl), exI⟩
theorem standingE_bad {l : List Rec} {s d : Int} (h : checkB l = false) : standingE l s d = 71 := by simp [standingE, h]
theorem standingE_ship {l : List Rec} {s d : Int} (h : checkB l = true) (h2 : inB s 1 999 = false) : standingE l s d = 1 := by simp [standingE, h, h2]
theorem standingE_day {l : List Rec} {s d : Int} (h : checkB l = true) (h2 : inB s 1 999 = true) (h3 : inB d 0 100000 = false) : standingE l s d = 6 := by simp [standingE, h, h2, h3]
theorem standingE_ok {l : List Rec} {s d : Int} (h : checkB l = true) (h2 : inB s 1 999 = true) (h3 : inB d 0 100000 = true) : standingE l s d = 0 := by simp [standingE, h, h2, h3]
/-- What Standing returns. -/
def standingR (l : List Rec) (s d : Int) : List Rec := if standingE l s d = 0 then standingL l s d else []
theorem standingR_err {l : List Rec} {s d e : Int} (h : standingE l s d = e) (he : e ≠ 0) : standingR l s d = [] := by rw [standingR, if_neg (by rw [h]; exact he)]
theorem standingR_ok {l : List Rec} {s d : Int} (h : standingE l s d = 0) : standingR l s d = standingL l s d := by rw [standingR, if_pos h]
/-- The events that stand, while they are picked. -/
structure PickW (w X wr : World) (A : Option Addr) (bk : Nat) (kn : List Rec) (s : Int) (k : Nat) (v : Value) : Prop where
  e1 : Ext w X
  recs : Recs X A kn
  lt : bk < X.heap.size
  bools : ∀ (j : Nat) b, (standL kn)[j]? = some b → X.cell? ⟨bk, j, none⟩ = some (.bool b)
  ext : Ext X wr
  own : OwnR X.heap.size wr v (pickL s (kn.take k) ((standL kn).take k))
theorem pick_step (s : Int) (kn : List Rec) {k : Nat} (hk : k < kn.length) (b : Bool) (hb : (standL kn)[k]? = some b) :
    pickL s (kn.take (k + 1)) ((standL kn).take (k + 1)) = pickL s (kn.take k) ((standL kn).take k) ++ if wantB s kn[k] b = true then [kn[k]] else [] := by
  have hl : k < (standL kn).length := by rw [standL_length]; exact hk
  have hb' : (standL kn)[k] = b := by rw [List.getElem?_eq_getElem hl] at hb; exact Option.some.inj hb
  rw [List.take_succ_eq_append_getElem hk, List.take_succ_eq_append_getElem hl, pickL_snoc _ _ _ _ _ (by rw [List.length_take, List.length_take, standL_length]), hb']
theorem pick_length (s : Int) (kn : List Rec) (bs : List Bool) : (pickL s kn bs).length ≤ kn.length := by
  unfold pickL
  rw [List.length_map]
  exact Nat.le_trans (List.length_filter_le _ _) (by rw [List.length_zip]; exact Nat.min_le_left _ _)
set_option maxRecDepth 100000 in
set_option maxHeartbeats 8000000 in
theorem Standing_any (A : Option Addr) (c n : Nat) (l : List Rec) (s d : Int) (hn : l.length = n) (hbig : n ≤ 9223372036854775807) (ht : TxtBig l) (w : World) (hr : Recs w A l) :
    Calls Tryz.prog 26 #[regV A n c, .int .i64 s, .int .i64 d] w fun e w' => ∃ A' n' c', e = .returned (.tuple #[.slice A' n' c', .int .i64 (standingE l s d)]) ∧ Hid (n' = (standingR l s d).length) ∧ Recs w' A' (standingR l s d) ∧ Ext w w' := by
  cases hc : checkB l with
  | false =>
    have he := errReg_bad hc
    have HE := hid (standingE_bad (s := s) (d := d) hc)
    have HR := hid (standingR_err HE.out (by decide))
    clear hc
    go_enter Tryz.func26, Tryz.ntmps26
    go_wp2_with (go_at_call 81; refine (Check_any _ _ _ _ (by first | rfl | assumption) (by omega) (by assumption) _ (recI ‹_›)).mono ?_; rintro e w1 ⟨rfl, E1, d1, rfl⟩)
    go_ret2
    exact ⟨none, 0, 0, ret_val (by rw [HE.out]; rfl), hid (by rw [HR.out]; rfl), by rw [HR.out]; exact Recs.nil _ _, exI⟩
  | true =>
    have he := errReg_ok hc
    obtain ⟨h80, _, hs⟩ := checkB_iff.1 hc
    cases h1 : inB s 1 999 with
    | false =>
      have HE := hid (standingE_ship (d := d) hc h1)
      have HR := hid (standingR_err HE.out (by decide))
      clear hc
      go_enter Tryz.func26, Tryz.ntmps26
      go_wp2_with (first | (go_at_call 81; refine (Check_any _ _ _ _ (by first | rfl | assumption) (by omega) (by assumption) _ (recI ‹_›)).mono ?_; rintro e w1 ⟨rfl, E1, d1, rfl⟩) | (go_at_call 87; refine (isShip_any _ _).mono ?_; rintro e w1 ⟨rfl, rfl⟩))
      go_ret2
      exact ⟨none, 0, 0, ret_val (by rw [HE.out]; rfl), hid (by rw [HR.out]; rfl), by rw [HR.out]; exact Recs.nil _ _, exI⟩
    | true =>
      cases h2 : inB d 0 100000 with
      | false =>
        have HE := hid (standingE_day hc h1 h2)
        have HR := hid (standingR_err HE.out (by decide))
        clear hc
        go_enter Tryz.func26, Tryz.ntmps26
        go_wp2_with (first | (go_at_call 81; refine (Check_any _ _ _ _ (by first | rfl | assumption) (by omega) (by assumption) _ (recI ‹_›)).mono ?_; rintro e w1 ⟨rfl, E1, d1, rfl⟩) | (go_at_call 87; refine (isShip_any _ _).mono ?_; rintro e w1 ⟨rfl, rfl⟩) | (go_at_call 88; refine (isDay_any _ _).mono ?_; rintro e w1 ⟨rfl, rfl⟩))
        go_ret2
        exact ⟨none, 0, 0, ret_val (by rw [HE.out]; rfl), hid (by rw [HR.out]; rfl), by rw [HR.out]; exact Recs.nil _ _, exI⟩
      | true =>
        have HE := hid (standingE_ok hc h1 h2)
        have HR := hid (standingR_ok HE.out)
        have h80' : n ≤ 80 := by omega
        have hkl : (knownL l d).length ≤ 80 := Nat.le_trans (List.length_filter_le _ _) h80
        clear hc
        go_enter Tryz.func26, Tryz.ntmps26
        go_wp2_with (first | (go_at_call 89; refine (Delete_any _ _ _ _ l d (w.heap.size + 1) (Hid.out hnc1).symm (by omega) _ (by exact OwnR.of_ext hvc1 exI) (by exact exI) (by go_simp) (by (try simp only [World.size_alloc, size_ext, World.size_drew, World.size_setCell]); omega)).mono ?_; rintro e w1 ⟨Ad, nd, cd, rfl, hnd, hrd, E2, d2, rfl⟩) | (go_at_call 83; refine (standing_any _ _ _ (knownL l d) (Hid.out hnd).symm (by have := hnd.out; omega) _ (recI ‹_›)).mono ?_; rintro e w1 ⟨rfl, hss, E3, d3, rfl⟩) | (go_at_call 81; refine (Check_any _ _ _ _ (by first | rfl | assumption) (by omega) (by assumption) _ (recI ‹_›)).mono ?_; rintro e w1 ⟨rfl, E1, d1, rfl⟩) | (go_at_call 87; refine (isShip_any _ _).mono ?_; rintro e w1 ⟨rfl, rfl⟩) | (go_at_call 88; refine (isDay_any _ _).mono ?_; rintro e w1 ⟨rfl, rfl⟩) | (go_at_call 90; refine (Clone_own _ _ _ _ (by first | rfl | assumption) (by omega) _ (recI ‹_›)).mono ?_; rintro e w1 ⟨Ac1, nc1, cc1, rfl, hnc1, hvc1, E1, d1, rfl⟩))
        rename_i Ea da Ka aa
        go_loopw [9, 32] (fun v i wr => ∃ (k : Nat) (X : World), k ≤ nd ∧ i = .int .i64 k ∧ PickW w X wr Ad (w.heap.size + 1 + 1 + Ea.size + E2.size) (knownL l d) s k v) (fun _ i _ => nd - (intOf i).toNat)
        case atStart =>
          refine ⟨0, _, Nat.zero_le _, rfl, ⟨?_, hrd.ext _ _, ?_, fun j b hb => ?_, Ext.refl _, OwnR.none _ _⟩⟩
          · exact exI
          · have := hss.out.1
            simpa only [World.size_alloc, size_ext] using this
          · have := hss.out.2 j b hb
            simpa only [World.size_alloc, size_ext] using this
        case round =>
          obtain ⟨k, X, hk, rfl, hP⟩ := hrel
          obtain ⟨hP1, hP2, hP3, hP4, ⟨E9, d9, rfl⟩, hP6⟩ := hP
          have Hown := hid hP6
          have HP1 := hid hP1
          have HP4 := hid hP4
          clear hP6 hP1 hP4 hss hvc1 hrd
          by_cases hlt : k < nd
          · have hm : k < (knownL l d).length := by have := hnd.out; omega
            have hl : k < (standL (knownL l d)).length := by rw [standL_length]; exact hm
            obtain ⟨b, hb⟩ : ∃ b, (standL (knownL l d))[k]? = some b := ⟨_, List.getElem?_eq_getElem hl⟩
            have hstep := pick_step s (knownL l d) hm b hb
            have hcb := HP4.out k b hb
            obtain ⟨g, of, rfl, hg⟩ := hP2.addr (by omega)
            have hrow := hP2.row hm
            have hpl := pick_length s ((knownL l d).take k) ((standL (knownL l d)).take k)
            have hpl2 : ((knownL l d).take k).length ≤ 80 := by rw [List.length_take]; omega
            obtain ⟨r, hrk⟩ : ∃ r, (knownL l d)[k] = r := ⟨_, rfl⟩
            rw [hrk] at hrow hstep
            obtain ⟨h0, h1, h2, h3, h4, h5, h6, h7, h8, h9, h10⟩ := hrow
            have Hpl := hid (Nat.le_trans hpl hpl2)
            clear hrk hb hpl hpl2
            have again : wantB s r b = false → PickW w X (X.ext E9 d9) (some ⟨g, of, none⟩) (w.heap.size + 1 + 1 + Ea.size + E2.size) (knownL l d) s (k + 1) _ := fun hw => by
              rw [hw] at hstep
              exact ⟨HP1.out, hP2, hP3, HP4.out, (Ext.refl _).ext _ _, by rw [hstep]; simpa using Hown.out⟩
            have Again := hid again
            have Step := hid hstep
            clear again hstep
            cases b with
            | false =>
              have HA := hid (Again.out (by simp [wantB]))
              clear Again Step
              go_wp2_with fail
              exact ⟨⟨k + 1, X, by omega, by go_num, HA.out⟩, by simp [intOf]; omega⟩
            | true =>
              by_cases k2 : 2 ≤ r.kind
              · cases ks : (r.ship == s) with
                | true =>
                  have HS := Step.out
                  rw [if_pos (by simp [wantB, k2, eq_of_beq ks])] at HS
                  have HS' := hid HS
                  clear Again Step HS
                  go_wp2_with (at_builtin; refine wpList_arec rfl X X.heap.size rfl rfl _ _ rfl [r] rfl (by exact exI) (by exact Hown.out.of_ext exI) rfl rfl (Sl_at (encRec r) _ 11 1 _ rfl (by simp [World.size_alloc])) (by have := Hpl.out; simp only [List.length_cons, List.length_nil]; omega) (fun v1 E1 d1 ho1 => ?_))
                  exact ⟨⟨k + 1, X, by omega, by go_num, ⟨HP1.out, hP2, hP3, HP4.out, (Ext.refl _).ext _ _, by rw [HS'.out]; exact ho1⟩⟩, by simp [intOf]; omega⟩
                | false =>
                  have HA := hid (Again.out (by simp only [wantB]; have : ¬ r.ship = s := by simpa using ks
                                                simp [this]))
                  clear Again Step
                  go_wp2_with fail
                  exact ⟨⟨k + 1, X, by omega, by go_num, HA.out⟩, by simp [intOf]; omega⟩
              · have HA := hid (Again.out (by simp [wantB, k2]))
                clear Again Step
                go_wp2_with fail
                exact ⟨⟨k + 1, X, by omega, by go_num, HA.out⟩, by simp [intOf]; omega⟩
          · obtain rfl : k = nd := by omega
            have hall : pickL s ((knownL l d).take k) ((standL (knownL l d)).take k) = standingL l s d := by
              rw [hnd.out, List.take_length, ← standL_length, List.take_length]; rfl
            have hO := Hown.out
            rw [hall] at hO
            obtain ⟨Av, mv, cv, rfl, hmv, hcv, hsv⟩ := hO.open
            have HM := hid hmv
            clear Hown hmv hcv hall
            go_wp2_with fail
            go_ret2
            exact ⟨Av, mv, cv, ret_val (by rw [HE.out]; rfl), hid (by rw [HR.out]; exact HM.out), by rw [HR.out]; exact hsv, HP1.out.ext _ _⟩
end Go.Proofs.YtekjdeibnfaehaaGreat
