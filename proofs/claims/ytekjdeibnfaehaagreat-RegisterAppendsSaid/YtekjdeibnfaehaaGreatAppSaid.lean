/- RegisterAppends returns true for all drives, memories and records, valid or not, and leaves what came in as it was. No conditions. -/
import Derived.Test.YtekjdeibnfaehaaGreatRows
import Derived.Test.YtekjdeibnfaehaaGreatClApp
import Derived.Test.YtekjdeibnfaehaaGreatArgD
import Derived.Test.YtekjdeibnfaehaaGreatArgM
import Derived.Handed
import Derived.JoinedOf
set_option linter.unusedSimpArgs false
set_option linter.unusedVariables false
namespace Go.Proofs.YtekjdeibnfaehaaGreat.apps
open Go Go.RowKit Go.ChangeShapes Go.WideShapes Go.ChangeAt

theorem own : ownKnob Tryz.prog.godebug = none := by kernel_rfl
theorem resT : Tryz.f4.resultTypes = #[4] := by kernel_rfl
set_option maxRecDepth 100000 in
theorem contract (H : Type) (enc : TypeId × Value → H) (W : World) (base : Nat) (args : Array Value) (ds gs : List (DataW H)) (before : List MemPlace)
    (hval : ∀ (j : Nat) t v, Tryz.f4.params[j]? = some t → args[j]? = some v → Value.okWide Tryz.prog W .any base t v)
    (hW : DataW.Whole enc Tryz.prog Tryz.f4.params.toList Rows.registerAppendsSpec.vars false W args.toList ds gs before)
    (hz : (DataW.weightsEach Tryz.prog (Tryz.f4.params.toList ++ Rows.registerAppendsSpec.plain.varTypes Tryz.prog) (ds ++ gs)).all (· ≤ reachBytes) = true) :
    Calls Tryz.prog 4 args W fun e W' => ∃ v, e = .returned v ∧ Rows.registerAppendsSpec.post enc Tryz.prog Tryz.f4 false true false false W args v W' := by
  have hW' := hW
  have hlt := fun p hp => hW.lt p hp
  obtain ⟨p, q, hA0, hV, hbf, hfz, hnd⟩ := hW
  have hA : DataW.TrodAll enc Tryz.prog W 0 (fun _ => true) true Tryz.f4.params.toList args.toList ds p := hA0
  have hA2 := hA
  rw [Tryz.params4] at hA hval
  obtain ⟨v0, vs0, d0, ds0, p0, q0, hargs0, hds0, hp0, h0, tr0⟩ := trodAll_cons hA
  obtain ⟨v1, vs1, d1, ds1, p1, q1, hargs1, hds1, hp1, h1, tr1⟩ := trodAll_cons tr0
  obtain ⟨v2, vs2, d2, ds2, p2, q2, hargs2, hds2, hp2, h2, tr2⟩ := trodAll_cons tr1
  obtain ⟨hvs, hdn, hpn⟩ := trodAll_nil tr2
  obtain rfl : args = #[v0, v1, v2] := by
    apply Array.ext'
    rw [hargs0, hargs1, hargs2, hvs]
  obtain ⟨hgs, hq⟩ := trodVars_none hV
  obtain ⟨A0, n0, c0, B0, m0, e0, D0, rfl, hy0, hu0⟩ := open_drv (hval 0 _ v0 rfl rfl) h0
  obtain ⟨hs0, ht0⟩ := hu0 (under_of hz (j := 0) (by rw [Tryz.params4]; rfl) (by rw [hds0]; rfl))
  obtain ⟨A1, n1, c1, fi1, ge1, l1, rfl, hn1, hnc1, hcm1, htx1, hb1⟩ := open_mem (hval 1 _ v1 rfl rfl) h1
  obtain ⟨r2, rfl, ht2⟩ := open_rec (hval 2 _ v2 rfl rfl) h2
  refine (appends_walk A0 n0 c0 B0 m0 e0 D0 A1 n1 c1 fi1 ge1 l1 r2 hn1 (Nat.le_trans hnc1 (Nat.le_trans hcm1 maxLen_le)) htx1 (Nat.le_trans ht2 maxLen_le) W hy0 hb1).mono ?_
  rintro e W' ⟨rfl, hx⟩
  refine ⟨_, rfl, ds, gs, before, [], p, [], hW', ?_, ?_, ?_, keptBut_ext hx _, fun h => by cases h⟩
  · rw [hds0, hds1, hds2, hdn, hgs, resT]
    exact trodAll_cons_mk (shut_bool Tryz.underlying4 _) trodAll_mk0
  · have h9 := trodAll_ext (enc := enc) (sp := fun b => decide (b < W.heap.size)) hx (by rw [Tryz.params4]; decide +kernel) hA2 (fun x hx' => by
      have := hlt x (by rw [hbf]; exact List.mem_append_left _ hx')
      simpa using this)
    rw [hds0, hds1, hds2, hdn] at h9
    rw [hds0, hds1, hds2, hdn, hgs]
    exact h9
  · rw [hds0, hds1, hds2, hdn, hgs]
    exact rfl
set_option maxRecDepth 100000 in
theorem lifted (os : Os) (started : os.Started) (H : Type) (enc : TypeId × Value → H) :
    ReturnsInHanded {} Tryz.checked os 4 .any (Rows.registerAppendsSpec.pre6 enc Tryz.prog Tryz.f4 Rows.registerAppendsRow.domain false) (Rows.registerAppendsSpec.post enc Tryz.prog Tryz.f4 false true false false) := by
  refine returnsInHanded_of_change_sized (C := Tryz.checked) own started (by kernel_rfl) Tryz.func4
    (ChangeSpec.witness6 (enc := enc) (C := Tryz.checked) false ⟨#[], #[drvV none 0 0 0 none 0 0 0, memV none 0 0 0 0, recV zeroR], []⟩ 8 (by kernel_rfl) (by kernel_rfl) (by kernel_rfl) (by kernel_rfl)) ?_
  intro W base args ds gs before hval hW _ hz _
  exact contract H enc W base args ds gs before hval hW hz
theorem said : Rows.RegisterAppendsSaid :=
  OpenClaim.holds_of_wide 4 Tryz.f4 rfl rfl rfl rfl rfl rfl rfl ⟨rfl, rfl, rfl, rfl, rfl⟩ rfl rfl rfl rfl rfl (by kernel_rfl) Tryz.func4 (by kernel_rfl)
    (of_decide_eq_true (by kernel_rfl)) (by unfold Func.isWrapper; first | (rw [if_pos (by decide +kernel)]; kernel_rfl) | (rw [if_neg (by decide +kernel)]; exact ⟨rfl, rfl⟩))
    (fun os started H enc _ => lifted os started H enc)
#print axioms said
end Go.Proofs.YtekjdeibnfaehaaGreat.apps
