/- Texts of a proof. -/
import Derived.Test.YtekjdeibnfaehaaGreatKBbl
import Derived.Test.YtekjdeibnfaehaaGreatKBbo
import Derived.Test.YtekjdeibnfaehaaGreatKBbp
import Derived.Test.YtekjdeibnfaehaaGreatKBas
/- RegisterLeases: what its loops keep. -/
set_option linter.unusedSimpArgs false
set_option linter.unusedVariables false
namespace Go.Proofs.YtekjdeibnfaehaaGreat
open Go Go.RowKit

section
variable {w wr w' : World} {b k na c n' c' : Nat} {W : WD} {G G' : Gh} {Ls Ls' : Nat → OffL} {A A' : Option Addr} {v v1 : Value} {gv : List Rec}
/-- A row of one's own grows beside a world in a box. -/
theorem WBox.push (hw : WBox w b wr k W G Ls A na c) (hb : w.heap.size ≤ b) (hne : ∀ g, v.ownBlock = some g → b < g) (hf : ∀ g, v.ownBlock = some g → WorldF g Ls A na) {o : Obj} {w1 : World} (hg : (wr.alloc o).grownBy w1 v.ownBlock)
    (hat : v1.ownBlock = v.ownBlock ∨ v1.ownBlock = some (wr.alloc o).heap.size) : WBox w b w1 k W G Ls A na c ∧ ∀ g, v1.ownBlock = some g → WorldF g Ls A na := by
  have hlt := hw.q.lt
  have hsz := hg.size
  have hy1 : WorldY w1 W Ls A na c := by
    have hy := hw.y.of_ext ((Ext.refl wr).alloc o)
    cases hv : v.ownBlock with
    | none => exact hy.grown (hy.far (Nat.le_refl _)) (gb_any hg hv _)
    | some g => rw [hv] at hg; exact hy.grown (hf g hv) hg
  have hx1 : Ext w w1 := by
    have hx := hw.x.alloc o
    have hbl : Below w.heap.size (wr.alloc o) w1 := (Below.refl w.heap.size (wr.alloc o)).grown hg (by have := hx.below.size; exact this) (fun g hv => by have := hne g hv; omega)
    obtain ⟨E, d, he⟩ := hx.below_of hbl (Nat.le_refl _)
    exact ⟨E, d, he⟩
  refine ⟨⟨hx1, ?_, hw.i, hy1, hw.f, hw.l⟩, fun g hv => ?_⟩
  · have e1 := hg.block b (by rw [World.size_alloc]; omega) (fun he => by have := hne b he.symm; omega)
    unfold BoxC at *
    rw [e1]
    exact hw.q.alloc o
  · rcases hat with hat | hat
    · exact hf g (by rw [← hat]; exact hv)
    · rw [hat] at hv
      cases hv
      exact (hw.y.of_ext ((Ext.refl wr).alloc o)).far (Nat.le_refl _)
/-- Leases that were given, in a row. -/
structure GivV (b : Nat) (wr : World) (v : Value) (gv : List Rec) (G : Gh) (Ls : Nat → OffL) (A : Option Addr) (na : Nat) : Prop where
  o : OwnR (b + 1) wr v gv
  f : ∀ g, v.ownBlock = some g → WorldF g Ls A na
  k : Given G gv
theorem GivV.next (h : GivV b wr v gv G Ls A na) {vs : List Value} {W' : WD} (hM : MovR wr w' Ls A na W' Ls' A' n' c') (hG : Grows G G') : GivV b (w'.setCells b 0 vs) v gv G' Ls' A' n' := by
  refine ⟨(h.o.of_ext hM.2.2).kept (gb_cells b vs 0 w') (.inr fun he => ?_), fun g hg => hM.2.1 g (h.o.lt g hg).2 (h.f g hg), h.k.grows hG⟩
  have := own_base h.o b he; omega
theorem GivV.of_ext (h : GivV b wr v gv G Ls A na) (hx : Ext wr w') : GivV b w' v gv G Ls A na := ⟨h.o.of_ext hx, h.f, h.k⟩
theorem GivV.ne (h : GivV b wr v gv G Ls A na) : ∀ g, v.ownBlock = some g → b < g := fun g hv => own_base h.o g hv
theorem GivV.few (h : GivV b wr v gv G Ls A na) (hI : WI k W G) : gv.length ≤ k := by
  obtain ⟨U, hU, hin⟩ := hI.u
  refine Nat.le_trans (nodup_len h.k.nd fun x hx => ?_) hU
  obtain ⟨_, h1, h2, h3, _⟩ := h.k.k x hx
  exact hin x.ao.toNat (by omega) x (firm_sub h3)
end
end Go.Proofs.YtekjdeibnfaehaaGreat
/- RegisterLeases: the walk. -/
set_option linter.unusedSimpArgs false
set_option linter.unusedVariables false
namespace Go.Proofs.YtekjdeibnfaehaaGreat
open Go Go.RowKit

set_option maxRecDepth 100000 in
set_option maxHeartbeats 16000000 in
theorem lea_walk (A0 : Option Addr) (n c0 : Nat) (l : List MoveD) (s0 d0 : Int) (hn : l.length = n) (hbig : n ≤ 9223372036854775807) (hok : ∀ m ∈ l, MovOk m) (w : World) (hl : Moves w A0 l) :
    Calls Tryz.prog 9 #[.slice A0 n c0, .int .i64 s0, .int .i64 d0] w fun e w' => e = .returned (.bool true) ∧ Ext w w' := by
  have Hok := hid hok
  have Hl := hid hl
  clear hok hl
  obtain ⟨zc, hzc⟩ : ∃ zc, worldC zeroW (fun _ => zL) none 0 0 = zc := ⟨_, rfl⟩
  have hzw := zero_world
  rw [hzc] at hzw
  have lzc : zc.length = 70 := by rw [← hzc]; rfl
  clear hzc
  go_enter Tryz.func9, Tryz.ntmps9
  go_wp2_with fail
  refine (begun_any w).mono ?_
  rintro e w1 ⟨Ls0, rfl, hY0, hF0, ⟨E0, d1, rfl⟩⟩
  obtain ⟨wc, hwc⟩ : ∃ wc, worldC beginW Ls0 none 0 0 = wc := ⟨_, rfl⟩
  have wwc : Whole wc.toArray 70 := by rw [← hwc]; exact worldC_whole _ _ _ _ _
  have lwc : wc.length = 70 := by rw [← hwc]; rfl
  rw [hwc]
  have Hwc := hid hwc
  have HY0 := hid hY0
  clear hwc hY0 hF0
  have hs1 : IntKind.i64.wrap (1 + s0 % 20) = 1 + s0 % 20 := IntWalk.i64_in _ (by omega)
  go_wp2_with fail
  refine (Mod_any _ _ (by decide) (by decide) _).mono ?_
  rintro e w1 ⟨rfl, rfl⟩
  go_wp2_with fail
  refine (Mod_any _ _ (by decide) (by decide) _).mono ?_
  rintro e w1 ⟨rfl, rfl⟩
  obtain ⟨sh, hsh⟩ : ∃ sh, 1 + s0 % 20 = sh := ⟨_, rfl⟩
  obtain ⟨dy, hdy⟩ : ∃ dy, d0 % 75 = dy := ⟨_, rfl⟩
  have Hsd : Hid ((1 ≤ sh ∧ sh ≤ 20) ∧ (0 ≤ dy ∧ dy ≤ 74)) := hid (by omega)
  simp only [hsh, hdy]
  rw [hsh] at hs1
  clear hsh hdy
  go_wp2_with fail
  obtain ⟨b, hb⟩ : ∃ b, w.heap.size + E0.size = b := ⟨_, rfl⟩
  simp only [hb]
  have hsb : (w.ext E0 d1).heap.size = b := by rw [size_ext]; exact hb
  obtain ⟨P, hP⟩ : ∃ P, ((w.ext E0 d1).alloc (.cells zc.toArray 83)).setCells b 0 wc = P := ⟨_, rfl⟩
  simp only [hP]
  have hwb : w.heap.size ≤ b := by omega
  have hF1 : WorldF b Ls0 none 0 := HY0.out.far (by omega)
  have HW : WBox w b P 0 beginW noGh Ls0 none 0 0 := by
    rw [← hP]
    refine ⟨Ext.cells _ _ (Ext.alloc ((Ext.refl w).ext E0 d1) _) hwb, ?_, WI.begin, ?_, hF1, Nat.zero_le _⟩
    · rw [Hwc.out]; exact box_whole (BoxC.new_at zc _ hsb.symm) (by rw [lzc, lwc])
    · exact (HY0.out.of_ext ((Ext.refl _).alloc _)).grown hF1 (gb_cells b wc 0 _)
  have HA : GivV b P (.slice none 0 0) [] noGh Ls0 none 0 := ⟨OwnR.none _ _, fun g hg => by simp [Value.ownBlock] at hg, Given.none _⟩
  clear hP hsb hF1 HY0 hb hzw hs1
  go_loopw [8, 9] (fun v i wr => ∃ (k : Nat) (W : WD) (G : Gh) (Ls : Nat → OffL) (A : Option Addr) (na c : Nat) (gv : List Rec), k ≤ n ∧ k ≤ 36 ∧ i = .int .i64 k ∧ Hid (WBox w b wr k W G Ls A na c) ∧ Hid (GivV b wr v gv G Ls A na)) (fun _ i _ => 36 - (intOf i).toNat)
  case atStart => exact ⟨0, _, _, _, _, _, _, _, Nat.zero_le _, Nat.zero_le _, rfl, hid HW, hid HA⟩
  case round =>
    obtain ⟨k, W, G, Ls, A, na, c, gv, hkn, hk36, rfl, hW, hA⟩ := hrel
    clear HW HA
    by_cases hlt : k < n ∧ k < 36
    · obtain ⟨hk1, hk2⟩ := hlt
      have hkl : k < l.length := by omega
      obtain ⟨w68, w69, lq0, rq0⟩ := hW.out.q.world
      have t0 := hW.out.q.lt
      have f0 := hW.out.q.frozen
      have fb := fars t0
      obtain ⟨wc, hwc⟩ : ∃ wc, worldC W Ls A na c = wc := ⟨_, rfl⟩
      rw [hwc] at rq0
      have Hwc := hid hwc
      have wwc : Whole wc.toArray 70 := by rw [← hwc]; exact worldC_whole _ _ _ _ _
      obtain ⟨g, o, rfl, hg⟩ := Hl.out.addr (by omega)
      have hcl := (Hl.out.of_ext hW.out.x).at hkl
      obtain ⟨m, hm⟩ : ∃ m, l[k] = m := ⟨_, rfl⟩
      rw [hm] at hcl
      have Hm : Hid (MovOk m) := hid (Hok.out m (by rw [← hm]; exact List.getElem_mem hkl))
      have hna : na ≤ 432 := by have := hW.out.l; omega
      have hg2 : g < wr.heap.size := Nat.lt_of_lt_of_le hg hW.out.x.below.size
      have fg := fars hg2
      have hki : (k : Int) < n := by omega
      have hk36i : (k : Int) < 36 := by omega
      clear hwc hm
      go_wp2_with fail
      refine wp_region_ordZ 6 (.f 0 (.f 1 (.f 2 (.f 3 (.f 4 (.a 5 (.z 6))))))) (Kept (wr) (wr.heap.size) (wr.heap.size)) (by kernel_rfl) (by kernel_rfl) (Kept.refl _ _ _).drew ?_
      repeat ((first | refine wpOrd_pass rfl rfl ?_ | (refine wpOrd_free (v := ?_) rfl rfl (fun _ hS => ?_) ?_; rotate_left; focus (have hS1 := Kept.rows hS; have hS2 := Kept.len hS; have hS3 := Kept.cell hS; go_simp; try with_reducible rfl))); simp only [Act.put, zp])
      refine wpOrd_call rfl rfl rfl Tryz.call38 (fun R hR => ?_)
      go_simp
      refine (moved_q wc Hwc.out hW.out.i _ (hW.out.y.of_ext exI) Hm.out (by omega)).mono ?_
      rintro e w1 ⟨Ls1, A1, n1, c1, nc, rfl, wn, ln, hN, E1, d1, rfl⟩
      refine hR _ _ ⟨_, rfl, ?_, ?_⟩
      · exact (by repeat (first | with_reducible exact Kept.refl _ _ _ | with_reducible assumption | with_reducible apply Kept.drew | with_reducible apply Kept.alloc | with_reducible apply Kept.ext | (with_reducible refine Kept.cells ?_ ?_; rotate_left; focus (first | exact .inl rfl | exact .inr (.inl rfl) | (refine .inr (.inr ?_); simp only [zs]; omega) | omega)) | (with_reducible refine Kept.set ?_ ?_; rotate_left; focus (first | exact .inl rfl | exact .inr (.inl rfl) | (refine .inr (.inr ?_); simp only [zs]; omega) | omega))))
      clear hR R
      simp only [Act.put, zp]
      refine wpOrd_last rfl rfl (fun K hK => ?_)
      go_simp
      refine hK _ _ ?_
      clear hK K
      try simp only [Act.put, zp]
      obtain ⟨G1, hW1, hG1, he1, he2⟩ := hW.out.next hwb hN.out.2.drew
      have hA1 := hA.out.next (vs := nc) hN.out.2.drew hG1
      rw [hN.out.1] at hW1
      obtain ⟨W1, hW1e⟩ : ∃ W1, movedW W m = W1 := ⟨_, rfl⟩
      rw [hW1e] at hW1
      obtain ⟨R, hR⟩ : ∃ R, (wr.drew.ext E1 d1).setCells b 0 nc = R := ⟨_, rfl⟩
      rw [hR] at hW1 hA1
      simp only [hR]
      have HW1 := hid hW1
      have HA1 := hid hA1
      clear hW hA hR hW1e hG1 hN wn ln hcl fg hg2 w68 w69 lq0 rq0 t0 f0 fb wwc Hm hW1 hA1 Hwc he1 he2
      go_wp2_with fail
      obtain ⟨i0, hi, hz0, hz1, hz2⟩ := info_parts info_rec
      go_loopw [8, 10] (fun v j w2 => ∃ (p : Nat) (gv : List Rec), p ≤ 4 ∧ j = .int .i64 p ∧ Hid (WBox w b w2 (k + 1) W1 G1 Ls1 A1 n1 c1) ∧ Hid (GivV b w2 v gv G1 Ls1 A1 n1)) (fun _ j _ => 4 - (intOf j).toNat)
      case atStart => exact ⟨0, gv, Nat.zero_le _, rfl, HW1, HA1⟩
      case round =>
        clear HW1 HA1
        obtain ⟨p, gv, hp4, rfl, hW2, hA2⟩ := hrel
        by_cases hp : p < 4
        · have hpi : (p : Int) < 4 := by omega
          have hft : p * 17 ≤ 51 := by omega
          have hreg := hW2.out.q.cell (worldC_reg W1 Ls1 A1 n1 c1 hp)
          obtain ⟨Am, hAm⟩ : ∃ Am, (Ls1 p).Am = Am := ⟨_, rfl⟩
          obtain ⟨nm, hnm⟩ : ∃ nm, (Ls1 p).nm = nm := ⟨_, rfl⟩
          obtain ⟨cm, hcm⟩ : ∃ cm, (Ls1 p).cm = cm := ⟨_, rfl⟩
          have HR : Hid (∀ w', WorldY w' W1 Ls1 A1 n1 c1 → Recs w' Am (W1.off p).m.recs ∧ (W1.off p).m.recs.length = nm) := hid fun w' hy => ⟨by rw [← hAm]; exact (hy.o p hp).r, by rw [← hnm]; exact (hy.o p hp).l⟩
          rw [hAm, hnm, hcm] at hreg
          obtain ⟨rs, hrs⟩ : ∃ rs, (W1.off p).m.recs = rs := ⟨_, rfl⟩
          rw [hrs] at HR
          have Hrs := hid hrs
          have h80 : nm ≤ 1000 := by
            have h := (checkB_iff.1 (hW2.out.i.o p hp).check).1
            rw [hrs] at h
            have := (HR.out _ hW2.out.y).2
            omega
          clear hAm hnm hcm hrs
          go_wp2_with fail
          go_loopw [8, 12] (fun v j w3 => ∃ (q : Nat) (gv : List Rec), q ≤ nm ∧ j = .int .i64 q ∧ Hid (WBox w b w3 (k + 1) W1 G1 Ls1 A1 n1 c1) ∧ Hid (GivV b w3 v gv G1 Ls1 A1 n1)) (fun _ j _ => nm - (intOf j).toNat)
          case atStart => exact ⟨0, gv, Nat.zero_le _, rfl, hW2, hA2⟩
          case round =>
            clear hW2 hA2 hreg
            obtain ⟨q, gv, hqn, rfl, hW2, hA2⟩ := hrel
            obtain ⟨hrr, hrl⟩ := HR.out _ hW2.out.y
            by_cases hq : q < nm
            · have hqi : (q : Int) < nm := by omega
              have hm : q < rs.length := by omega
              obtain ⟨gr, or, rfl, hgr⟩ := hrr.addr (by omega)
              have hrow := hrr.row hm
              have hrE : ∀ E d, (ldRow 46 ⟨gr, or + q * 11, none⟩).run Tryz.prog (wr.ext E d) = .ok (recV rs[q]) (wr.ext E d) := fun E d => by
                obtain ⟨h0, h1, h2, h3, h4, h5, h6, h7, h8, h9, h10⟩ := (hrr.ext E d).row hm
                exact ld_rec rs[q] h0 h1 h2 h3 h4 h5 h6 h7 h8 h9 h10
              have hmem : rs[q] ∈ (W1.off p).m.recs := by rw [Hrs.out]; exact List.getElem_mem hm
              obtain ⟨x, hx⟩ : ∃ x, rs[q] = x := ⟨_, rfl⟩
              rw [hx] at hrow hrE hmem
              have Hmem := hid hmem
              obtain ⟨h0, h1, h2, h3, h4, h5, h6, h7, h8, h9, h10⟩ := hrow
              have hr0 := ld_rec x h0 h1 h2 h3 h4 h5 h6 h7 h8 h9 h10
              clear h0 h1 h3 h4 h5 h6 h7 h8 h9 h10 hx hmem
              cases hk1 : (x.kind == 1) with
              | false =>
                go_wp2_with fail
                exact ⟨⟨q + 1, gv, by omega, by go_num, hW2, hA2⟩, by simp [intOf]; omega⟩
              | true =>
                obtain ⟨Ag, _, cg, rfl, rfl, hcg, hrg⟩ := hA2.out.o.open
                have hfew := hA2.out.few hW2.out.i
                go_wp2_with fail
                refine (has_any _ _ _ gv x rfl (by omega) _ hrg).mono ?_
                rintro e w1 ⟨rfl, ⟨E3, d3, rfl⟩⟩
                have hx3 : Ext wr (wr.ext E3 d3) := ⟨E3, d3, rfl⟩
                cases hh : hasB gv x with
                | true =>
                  go_wp2_with fail
                  exact ⟨⟨q + 1, gv, by omega, by go_num, hid (hW2.out.of_ext hx3), hid (hA2.out.of_ext hx3)⟩, by simp [intOf]; omega⟩
                | false =>
                  have hnot : x ∉ gv := fun h => by rw [hasB_iff.2 h] at hh; cases hh
                  have hWx := hid (hW2.out.of_ext hx3)
                  have hAx := hid (hA2.out.of_ext hx3)
                  have howa := hid (hAx.out.o.alloc (.cells (encRec x).toArray 46))
                  have hsx : (wr.ext E3 d3).heap.size = wr.heap.size + E3.size := size_ext _ _ _
                  have hbs : b + 1 ≤ wr.heap.size + E3.size := by have := hWx.out.q.lt; omega
                  have Hk1 := hid hk1
                  clear hh hW2 hA2 hrg hrr hx3
                  go_wp2_with (at_builtin; go_loud (refine wpList_append_own_at (P := Tryz.prog) _ rfl _ _ 32 rfl (b + 1) 46 i0 _ 11 96 Tryz.underlying32 hi hz0 hz1 hz2 rfl (by decide) (.slice Ag gv.length cg) gv.length _ rfl howa.out ⟨wr.heap.size + E3.size, 0, none⟩ 1 1 (encRec x) rfl rfl (fun j u hj => by rw [addr_add, Nat.zero_add]; exact (BoxC.new_at (encRec x) 46 hsx.symm).cell hj) (fun u hu => encRec_one [x] u (by simpa using hu)) (by unfold maxLen; omega) (by omega) (by rw [World.size_alloc]; omega) (fun v1 w1 hown1 hgb1 _ hat1 => ?_)); have Hown1 := hid hown1; have Hgb1 := hid hgb1; have Hat1 := hid hat1; clear hown1 hgb1 hat1)
                  obtain ⟨hW3, hF3⟩ := hWx.out.push hwb hAx.out.ne hAx.out.f Hgb1.out Hat1.out
                  have ho1 : OwnR (b + 1) w1 v1 (gv ++ [x]) := by
                    have h := Hown1.out
                    unfold OwnR
                    rw [List.length_append, List.flatMap_append]
                    simpa using h
                  exact ⟨⟨q + 1, gv ++ [x], by omega, by go_num, hid hW3, hid ⟨ho1, hF3, hAx.out.k.push hWx.out.i hp Hmem.out (eq_of_beq Hk1.out) hnot⟩⟩, by simp [intOf]; omega⟩
            · obtain rfl : q = nm := by omega
              go_wp2_with fail
              exact ⟨⟨p + 1, gv, by omega, by go_num, hW2, hA2⟩, by simp [intOf]; omega⟩
        · have hpi : ¬ ((p : Int) < 4) := by omega
          obtain ⟨Ag, _, cg, rfl, rfl, hcg, hrg⟩ := hA2.out.o.open
          have hfew := hA2.out.few hW2.out.i
          go_wp2_with fail
          go_loopw [13, 14] (fun hd j w3 => ∃ (p : Nat) (h : Int), p ≤ 4 ∧ j = .int .i64 p ∧ hd = .int .i64 h ∧ Ext wr w3 ∧ Hid (h = -1 ∨ ∃ p', p' < 4 ∧ ∃ r, heldR (W1.off p').m.recs sh dy = some r ∧ h = r.to)) (fun _ j _ => 4 - (intOf j).toNat)
          case atStart => exact ⟨0, -1, Nat.zero_le _, rfl, rfl, Ext.refl _, hid (.inl rfl)⟩
          case round =>
            obtain ⟨p, h, hp4, rfl, rfl, ⟨E3, d3, rfl⟩, hh⟩ := hrel
            by_cases hp : p < 4
            · have hpi : (p : Int) < 4 := by omega
              have hft : p * 17 ≤ 51 := by omega
              have hreg := hW2.out.q.cell (worldC_reg W1 Ls1 A1 n1 c1 hp)
              have tb := hW2.out.q.lt
              have hoy := hid (hW2.out.y.o p hp)
              have hck := (hW2.out.i.o p hp).check
              have hol := hoy.out.l
              have h80 : (Ls1 p).nm ≤ 1000 := by
                have h := (checkB_iff.1 hck).1
                omega
              have Hck := hid hck
              clear hck
              go_wp2_with fail
              refine (Holder_any _ _ _ (W1.off p).m.recs sh dy hol (by omega) (txtBig_of Hck.out) _ (hoy.out.r.ext E3 d3)).mono ?_
              rintro e w1 ⟨rfl, ⟨E4, d4, rfl⟩⟩
              rcases hW2.out.i.holder hp Hsd.out.1 Hsd.out.2 with h3 | ⟨h0, r, hr, hN⟩
              · simp only [h3]
                clear h3
                go_wp2_with fail
                exact ⟨⟨p + 1, h, by omega, by go_num, rfl, by rw [ext_ext]; exact ⟨_, _, rfl⟩, hh⟩, by simp [intOf]; omega⟩
              · simp only [h0, hN]
                have hsame : h = -1 ∨ h = r.to := by
                  rcases hh.out with hh | ⟨p', hp', r', hr', hh⟩
                  · exact .inl hh
                  · exact .inr (by rw [hh, hW2.out.i.same hp' hp hr' hr])
                have hnew : Hid (r.to = -1 ∨ ∃ p', p' < 4 ∧ ∃ x, heldR (W1.off p').m.recs sh dy = some x ∧ r.to = x.to) := hid (.inr ⟨p, hp, r, hr, rfl⟩)
                clear h0 hN hr hh hreg
                rcases hsame with rfl | rfl
                · go_wp2_with fail
                  exact ⟨⟨p + 1, r.to, by omega, by go_num, rfl, by rw [ext_ext]; exact ⟨_, _, rfl⟩, hnew⟩, by simp [intOf]; omega⟩
                · by_cases h9 : 0 ≤ r.to
                  · go_wp2_with fail
                    exact ⟨⟨p + 1, r.to, by omega, by go_num, rfl, by rw [ext_ext]; exact ⟨_, _, rfl⟩, hnew⟩, by simp [intOf]; omega⟩
                  · go_wp2_with fail
                    exact ⟨⟨p + 1, r.to, by omega, by go_num, rfl, by rw [ext_ext]; exact ⟨_, _, rfl⟩, hnew⟩, by simp [intOf]; omega⟩
            · have hpi : ¬ ((p : Int) < 4) := by omega
              clear hh
              go_wp2_with fail
              go_loopw [17] (fun j w4 => ∃ q : Nat, q ≤ gv.length ∧ j = .int .i64 q ∧ Ext wr w4) (fun j _ => gv.length - (intOf j).toNat)
              case atStart => exact ⟨0, Nat.zero_le _, rfl, ⟨E3, d3, rfl⟩⟩
              case round =>
                obtain ⟨q, hqn, rfl, ⟨E5, d5, rfl⟩⟩ := hrel
                by_cases hq : q < gv.length
                · have hqi : (q : Int) < gv.length := by omega
                  obtain ⟨gg, og, rfl, hgg⟩ := hrg.addr (by omega)
                  have hrow := hrg.row hq
                  have hrE : ∀ E d, (ldRow 46 ⟨gg, og + q * 11, none⟩).run Tryz.prog (wr.ext E d) = .ok (recV gv[q]) (wr.ext E d) := fun E d => by
                    obtain ⟨h0, h1, h2, h3, h4, h5, h6, h7, h8, h9, h10⟩ := (hrg.ext E d).row hq
                    exact ld_rec gv[q] h0 h1 h2 h3 h4 h5 h6 h7 h8 h9 h10
                  obtain ⟨x, hx⟩ : ∃ x, gv[q] = x := ⟨_, rfl⟩
                  have hxq : gv[q]? = some x := by rw [List.getElem?_eq_getElem hq, hx]
                  obtain ⟨k1, a0, a1, a2, a3⟩ := hA2.out.k.k x (by rw [← hx]; exact List.getElem_mem hq)
                  rw [hx] at hrow hrE
                  obtain ⟨h0, h1, h2, h3, h4, h5, h6, h7, h8, h9, h10⟩ := hrow
                  obtain ⟨f, hf⟩ : ∃ f : Nat, x.ao = f := ⟨x.ao.toNat, by omega⟩
                  have hf4 : f < 4 := by omega
                  have hfi : (f : Int) < 4 := by omega
                  have hfz : ¬ ((f : Int) < 0) := by omega
                  have hfg : ¬ (4 ≤ (f : Int)) := by omega
                  have hft : f * 17 ≤ 51 := by omega
                  rw [hf] at a3
                  have hreg := hW2.out.q.cell (worldC_reg W1 Ls1 A1 n1 c1 hf4)
                  have tb := hW2.out.q.lt
                  have hoy := hid (hW2.out.y.o f hf4)
                  have hol := hoy.out.l
                  have h80 : (Ls1 f).nm ≤ 1000000 := by
                    have h := (checkB_iff.1 (hW2.out.i.o f hf4).check).1
                    omega
                  have hhas : hasB (W1.off f).m.recs x = true := hasB_iff.2 (by
                    have h := hW2.out.i.firm a0 a1 a2
                    rw [hf] at h
                    exact h)
                  have Hxq := hid hxq
                  clear h0 h1 h2 h5 h6 h7 h8 h10 hx hxq k1 a0 a1 a2 hf
                  go_wp2_with fail
                  refine (Home_any _ _).mono ?_
                  rintro e w1 ⟨rfl, rfl⟩
                  rw [a3]
                  clear a3
                  go_wp2_with fail
                  refine wp_region_ord (.f 0 (.f 1 (.f 2 (.f 3 (.f 4 (.f 5 (.f 6 (.f 7 (.f 8 (.f 9 (.f 10 (.f 11 (.f 12 (.f 13 (.f 14 (.f 15 (.f 16 (.a 17 (.f 18 (.f 19 .d)))))))))))))))))))) (Ext (wr)) (by kernel_rfl) (by kernel_rfl) exI ?_
                  repeat ((first | refine wpOrd_pass rfl rfl ?_ | (refine wpOrd_free (v := ?_) rfl rfl (fun _ hS => ?_) ?_; rotate_left; focus (obtain ⟨E9, d9, rfl⟩ := hS; go_simp; try with_reducible rfl))); simp only [Act.put, zp])
                  refine ord_bool (j := 2) rfl (fun hb2 => ?_) (fun hb2 => ?_)
                  rotate_left
                  focus
                   try (exfalso; first | (simp at hb2; done) | (simp at hb2; omega))
                   all_goals
                    (try simp only [hb2])
                    repeat ((first | refine wpOrd_pass rfl rfl ?_ | (refine wpOrd_free (v := ?_) rfl rfl (fun _ hS => ?_) ?_; rotate_left; focus (obtain ⟨E9, d9, rfl⟩ := hS; go_simp; try with_reducible rfl))); simp only [Act.put, zp])
                    refine ord_bool (j := 6) rfl (fun hb6 => ?_) (fun hb6 => ?_)
                    rotate_left
                    focus
                     try (exfalso; first | (simp at hb6; done) | (simp at hb6; omega))
                     all_goals
                      (try simp only [hb6])
                      repeat ((first | refine wpOrd_pass rfl rfl ?_ | (refine wpOrd_free (v := ?_) rfl rfl (fun _ hS => ?_) ?_; rotate_left; focus (obtain ⟨E9, d9, rfl⟩ := hS; go_simp; try with_reducible rfl))); simp only [Act.put, zp])
                      refine wpOrd_call rfl rfl rfl Tryz.call51 (fun R hR => ?_)
                      go_simp
                      refine (has_any _ _ _ (W1.off f).m.recs x hol h80 _ (hoy.out.r.of_ext exI)).mono ?_
                      rintro e w1 ⟨rfl, E201, d201, rfl⟩
                      refine hR _ _ ⟨_, rfl, ?_, ?_⟩
                      · exact exI
                      clear hR R
                      simp only [Act.put, zp]
                      repeat ((first | refine wpOrd_pass rfl rfl ?_ | (refine wpOrd_free (v := ?_) rfl rfl (fun _ hS => ?_) ?_; rotate_left; focus (obtain ⟨E9, d9, rfl⟩ := hS; go_simp; try with_reducible rfl))); simp only [Act.put, zp])
                      refine wpOrd_nil ?_
                    rotate_right
                    focus
                     try (exfalso; first | (simp at hb6; done) | (simp at hb6; omega))
                     all_goals
                      (try simp only [hb6])
                      repeat ((first | refine wpOrd_pass rfl rfl ?_ | (refine wpOrd_free (v := ?_) rfl rfl (fun _ hS => ?_) ?_; rotate_left; focus (obtain ⟨E9, d9, rfl⟩ := hS; go_simp; try with_reducible rfl))); simp only [Act.put, zp])
                      refine wpOrd_actPass rfl rfl ?_ ?_
                      · exact exI
                      simp only [Act.put, zp]
                      repeat ((first | refine wpOrd_pass rfl rfl ?_ | (refine wpOrd_free (v := ?_) rfl rfl (fun _ hS => ?_) ?_; rotate_left; focus (obtain ⟨E9, d9, rfl⟩ := hS; go_simp; try with_reducible rfl))); simp only [Act.put, zp])
                      refine wpOrd_nil ?_
                  rotate_right
                  focus
                   try (exfalso; first | (simp at hb2; done) | (simp at hb2; omega))
                   all_goals
                    (try simp only [hb2])
                    repeat ((first | refine wpOrd_pass rfl rfl ?_ | (refine wpOrd_free (v := ?_) rfl rfl (fun _ hS => ?_) ?_; rotate_left; focus (obtain ⟨E9, d9, rfl⟩ := hS; go_simp; try with_reducible rfl))); simp only [Act.put, zp])
                    refine wpOrd_actPass rfl rfl ?_ ?_
                    · exact exI
                    simp only [Act.put, zp]
                    repeat ((first | refine wpOrd_pass rfl rfl ?_ | (refine wpOrd_free (v := ?_) rfl rfl (fun _ hS => ?_) ?_; rotate_left; focus (obtain ⟨E9, d9, rfl⟩ := hS; go_simp; try with_reducible rfl))); simp only [Act.put, zp])
                    refine wpOrd_nil ?_
                  clear hreg hol h80 hhas hrE
                  go_wp2_with fail
                  go_loopw [19] (fun j w5 => ∃ i : Nat, i ≤ q ∧ j = .int .i64 i ∧ Ext wr w5) (fun j _ => q - (intOf j).toNat)
                  case atStart => exact ⟨0, Nat.zero_le _, rfl, exI⟩
                  case round =>
                    obtain ⟨i, hiq, rfl, ⟨E6, d6, rfl⟩⟩ := hrel
                    by_cases hi : i < q
                    · have hii : (i : Int) < q := by omega
                      have hig : (i : Int) < gv.length := by omega
                      have hil : i < gv.length := by omega
                      obtain ⟨y0, y1, y2, y3, y4, y5, y6, y7, y8, y9, y10⟩ := hrg.row hil
                      obtain ⟨y, hy⟩ : ∃ y, gv[i] = y := ⟨_, rfl⟩
                      have hap := hA2.out.k.apart hW2.out.i hi (by rw [List.getElem?_eq_getElem hil, hy]) Hxq.out
                      rw [hy] at y3 y4 y9
                      have hcs : (¬ y.ship = x.ship) ∨ (y.ship = x.ship ∧ ¬ y.day ≤ x.til) ∨ (y.ship = x.ship ∧ y.day ≤ x.til ∧ ¬ x.day ≤ y.til) := by omega
                      clear y0 y1 y2 y5 y6 y7 y8 y10 hy hap
                      rcases hcs with c1 | ⟨c1, c2⟩ | ⟨c1, c2, c3⟩
                      all_goals
                        go_wp2_with fail
                        refine wp_region_ord (.f 0 (.f 1 (.f 2 (.f 3 (.f 4 (.f 5 (.f 6 (.f 7 (.f 8 (.f 9 (.f 10 (.f 11 (.f 12 (.f 13 (.f 14 (.f 15 (.f 16 (.f 17 (.f 18 (.f 19 (.f 20 (.f 21 (.f 22 (.f 23 (.f 24 (.f 25 (.f 26 (.f 27 (.f 28 (.f 29 (.f 30 (.f 31 (.f 32 (.f 33 (.f 34 (.f 35 (.f 36 .d))))))))))))))))))))))))))))))))))))) (Ext (wr)) (by kernel_rfl) (by kernel_rfl) exI ?_
                        repeat ((first | refine wpOrd_pass rfl rfl ?_ | (refine wpOrd_free (v := ?_) rfl rfl (fun _ hS => ?_) ?_; rotate_left; focus (obtain ⟨E9, d9, rfl⟩ := hS; go_simp; try with_reducible rfl))); simp only [Act.put, zp])
                        refine ord_bool (j := 11) rfl (fun hb11 => ?_) (fun hb11 => ?_)
                        rotate_left
                        focus
                         try (exfalso; first | (simp at hb11; done) | (simp at hb11; omega))
                         all_goals
                          (try simp only [hb11])
                          repeat ((first | refine wpOrd_pass rfl rfl ?_ | (refine wpOrd_free (v := ?_) rfl rfl (fun _ hS => ?_) ?_; rotate_left; focus (obtain ⟨E9, d9, rfl⟩ := hS; go_simp; try with_reducible rfl))); simp only [Act.put, zp])
                          refine wpOrd_nil ?_
                        rotate_right
                        focus
                         try (exfalso; first | (simp at hb11; done) | (simp at hb11; omega))
                         all_goals
                          (try simp only [hb11])
                          repeat ((first | refine wpOrd_pass rfl rfl ?_ | (refine wpOrd_free (v := ?_) rfl rfl (fun _ hS => ?_) ?_; rotate_left; focus (obtain ⟨E9, d9, rfl⟩ := hS; go_simp; try with_reducible rfl))); simp only [Act.put, zp])
                          refine ord_bool (j := 24) rfl (fun hb24 => ?_) (fun hb24 => ?_)
                          rotate_left
                          focus
                           try (exfalso; first | (simp at hb24; done) | (simp at hb24; omega))
                           all_goals
                            (try simp only [hb24])
                            repeat ((first | refine wpOrd_pass rfl rfl ?_ | (refine wpOrd_free (v := ?_) rfl rfl (fun _ hS => ?_) ?_; rotate_left; focus (obtain ⟨E9, d9, rfl⟩ := hS; go_simp; try with_reducible rfl))); simp only [Act.put, zp])
                            refine wpOrd_nil ?_
                          rotate_right
                          focus
                           try (exfalso; first | (simp at hb24; done) | (simp at hb24; omega))
                           all_goals
                            (try simp only [hb24])
                            repeat ((first | refine wpOrd_pass rfl rfl ?_ | (refine wpOrd_free (v := ?_) rfl rfl (fun _ hS => ?_) ?_; rotate_left; focus (obtain ⟨E9, d9, rfl⟩ := hS; go_simp; try with_reducible rfl))); simp only [Act.put, zp])
                            refine wpOrd_nil ?_
                        all_goals
                          go_wp2_with fail
                          exact ⟨⟨i + 1, by omega, by go_num, exI⟩, by simp [intOf]; omega⟩
                    · obtain rfl : i = q := by omega
                      go_wp2_with fail
                      exact ⟨⟨i + 1, by omega, by go_num, ⟨E6, d6, rfl⟩⟩, by simp [intOf]; omega⟩
                · obtain rfl : q = gv.length := by omega
                  go_wp2_with fail
                  exact ⟨⟨k + 1, W1, G1, Ls1, A1, n1, c1, gv, by omega, by omega, by go_num, hid (hW2.out.of_ext ⟨E5, d5, rfl⟩), hid (hA2.out.of_ext ⟨E5, d5, rfl⟩)⟩, by simp [intOf]; omega⟩
    · have xwr := hW.out.x
      clear hW hA
      by_cases hc : k < n
      · have h1 : (k : Int) < n := by omega
        have h2 : ¬ ((k : Int) < 36) := by omega
        go_wp2_with (go_at_call 18; refine (sane_any _).mono ?_; rintro e w1 ⟨rfl, E1, d1, rfl⟩)
        go_ret
        exact ⟨ret_val rfl, xwr.ext _ _⟩
      · have h1 : ¬ ((k : Int) < n) := by omega
        go_wp2_with (go_at_call 18; refine (sane_any _).mono ?_; rintro e w1 ⟨rfl, E1, d1, rfl⟩)
        go_ret
        exact ⟨ret_val rfl, xwr.ext _ _⟩
end Go.Proofs.YtekjdeibnfaehaaGreat
