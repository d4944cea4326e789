/- RegisterPacks returns true for all acts and all numbers, and leaves what came in as it was. No conditions. -/
import Derived.Test.YtekjdeibnfaehaaRows
import Derived.Test.YtekjdeibnfaehaaClPk
import Derived.Test.YtekjdeibnfaehaaArgs
import Derived.Test.YtekjdeibnfaehaaArgI
import Derived.Handed
import Derived.JoinedOf
set_option linter.unusedSimpArgs false
set_option linter.unusedVariables false
namespace Go.Proofs.Ytekjdeibnfaehaa.packs
open Go Go.RowKit Go.ChangeShapes Go.WideShapes Go.ChangeAt

theorem own : ownKnob Try.prog.godebug = none := by kernel_rfl
theorem resT : Try.f8.resultTypes = #[4] := by kernel_rfl
set_option maxRecDepth 100000 in
theorem contract (H : Type) (enc : TypeId × Value → H) (W : World) (base : Nat) (args : Array Value) (ds gs : List (DataW H)) (before : List MemPlace)
    (hval : ∀ (j : Nat) t v, Try.f8.params[j]? = some t → args[j]? = some v → Value.okWide Try.prog W .any base t v)
    (hW : DataW.Whole enc Try.prog Try.f8.params.toList Rows.registerPacksSpec.vars false W args.toList ds gs before) :
    Calls Try.prog 8 args W fun e W' => ∃ v, e = .returned v ∧ Rows.registerPacksSpec.post enc Try.prog Try.f8 false true false false W args v W' := by
  have hW' := hW
  have hlt := fun p hp => hW.lt p hp
  obtain ⟨p, q, hA0, hV, hbf, hfz, hnd⟩ := hW
  have hA : DataW.TrodAll enc Try.prog W 0 (fun _ => true) true Try.f8.params.toList args.toList ds p := hA0
  have hA2 := hA
  rw [Try.params8] at hA hval
  obtain ⟨v0, vs0, d0, ds0, p0, q0, hargs0, hds0, hp0, h0, tr0⟩ := trodAll_cons hA
  obtain ⟨v1, vs1, d1, ds1, p1, q1, hargs1, hds1, hp1, h1, tr1⟩ := trodAll_cons tr0
  obtain ⟨hvs, hdn, hpn⟩ := trodAll_nil tr1
  obtain rfl : args = #[v0, v1] := by
    apply Array.ext'
    rw [hargs0, hargs1, hvs]
  obtain ⟨hgs, hq⟩ := trodVars_none hV
  obtain ⟨A0, n0, c0, l0, rfl, hn0, hnc0, hcm0, hx0, hb0⟩ := open_acts (hval 0 _ v0 rfl rfl) h0
  obtain ⟨x1, y1, rfl, hx1, hy1⟩ := open_two (hval 1 _ v1 rfl rfl) h1
  refine ((packs_walk A0 n0 c0 l0 x1 y1 hn0 (Nat.le_trans hnc0 (Nat.le_trans hcm0 maxLen_le)) hx0 hx1 hy1 W hb0)).mono ?_
  rintro e W' ⟨rfl, hx⟩
  refine ⟨_, rfl, ds, gs, before, [], p, [], hW', ?_, ?_, ?_, keptBut_ext hx _, fun h => by cases h⟩
  · rw [hds0, hds1, hdn, hgs, resT]
    exact trodAll_cons_mk (shut_bool Try.underlying4 _) trodAll_mk0
  · have h9 := trodAll_ext (enc := enc) (sp := fun b => decide (b < W.heap.size)) hx (by rw [Try.params8]; decide +kernel) hA2 (fun x hx' => by
      have := hlt x (by rw [hbf]; exact List.mem_append_left _ hx')
      simpa using this)
    rw [hds0, hds1, hdn] at h9
    rw [hds0, hds1, hdn, hgs]
    exact h9
  · rw [hds0, hds1, hdn, hgs]
    exact rfl
set_option maxRecDepth 100000 in
theorem lifted (os : Os) (started : os.Started) (H : Type) (enc : TypeId × Value → H) :
    ReturnsInHanded {} Try.checked os 8 .any (Rows.registerPacksSpec.pre6 enc Try.prog Try.f8 Rows.registerPacksRow.domain false) (Rows.registerPacksSpec.post enc Try.prog Try.f8 false true false false) := by
  refine returnsInHanded_of_change (C := Try.checked) own started (by kernel_rfl) Try.func8
    (ChangeSpec.witness6 (enc := enc) (C := Try.checked) false ⟨#[], #[.slice none 0 0, .agg #[.int .i64 0, .int .i64 0]], []⟩ 8 (by kernel_rfl) (by kernel_rfl) (by kernel_rfl) (by kernel_rfl)) ?_
  intro W base args ds gs before hval hW _ _
  exact contract H enc W base args ds gs before hval hW
theorem said : Rows.RegisterPacksSaid :=
  OpenClaim.holds_of_wide 8 Try.f8 rfl rfl rfl rfl rfl rfl rfl ⟨rfl, rfl, rfl, rfl, rfl⟩ rfl rfl rfl rfl rfl (by kernel_rfl) Try.func8 (by kernel_rfl)
    (of_decide_eq_true (by kernel_rfl)) (by unfold Func.isWrapper; first | (rw [if_pos (by decide +kernel)]; kernel_rfl) | (rw [if_neg (by decide +kernel)]; exact ⟨rfl, rfl⟩))
    (fun os started H enc _ => lifted os started H enc)
#print axioms said
end Go.Proofs.Ytekjdeibnfaehaa.packs
