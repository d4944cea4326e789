/- RegisterLeases returns true for all lists of moves, ships and days, and changes nothing that was there. -/
import Derived.Test.YtekjdeibnfaehaaGreatRows
import Derived.Test.YtekjdeibnfaehaaGreatKBbq
import Derived.Test.YtekjdeibnfaehaaGreatKBbt
import Derived.Handed
import Derived.JoinedOf
set_option linter.unusedSimpArgs false
set_option linter.unusedVariables false
namespace Go.Proofs.YtekjdeibnfaehaaGreat.leas
open Go Go.RowKit Go.ChangeShapes Go.WideShapes Go.ChangeAt

theorem own : ownKnob Tryz.prog.godebug = none := by kernel_rfl
theorem resT : Tryz.f9.resultTypes = #[4] := by kernel_rfl
set_option maxRecDepth 100000 in
theorem contract (H : Type) (enc : TypeId × Value → H) (W : World) (base : Nat) (args : Array Value) (ds gs : List (DataW H)) (before : List MemPlace)
    (hval : ∀ (j : Nat) t v, Tryz.f9.params[j]? = some t → args[j]? = some v → Value.okWide Tryz.prog W .any base t v)
    (hW : DataW.Whole enc Tryz.prog Tryz.f9.params.toList Rows.registerLeasesSpec.vars false W args.toList ds gs before) :
    Calls Tryz.prog 9 args W fun e W' => ∃ v, e = .returned v ∧ Rows.registerLeasesSpec.post enc Tryz.prog Tryz.f9 false true false false W args v W' := by
  have hW' := hW
  have hlt := fun p hp => hW.lt p hp
  obtain ⟨p, q, hA0, hV, hbf, hfz, hnd⟩ := hW
  have hA : DataW.TrodAll enc Tryz.prog W 0 (fun _ => true) true Tryz.f9.params.toList args.toList ds p := hA0
  have hA2 := hA
  rw [Tryz.params9] at hA hval
  obtain ⟨v0, vs0, d0, ds0, p0, q0, hargs0, hds0, hp0, h0, tr0⟩ := trodAll_cons hA
  obtain ⟨v1, vs1, d1, ds1, p1, q1, hargs1, hds1, hp1, h1, tr1⟩ := trodAll_cons tr0
  obtain ⟨v2, vs2, d2, ds2, p2, q2, hargs2, hds2, hp2, h2, tr2⟩ := trodAll_cons tr1
  obtain ⟨hvs, hdn, hpn⟩ := trodAll_nil tr2
  obtain rfl : args = #[v0, v1, v2] := by
    apply Array.ext'
    rw [hargs0, hargs1, hargs2, hvs]
  obtain ⟨hgs, hq⟩ := trodVars_none hV
  obtain ⟨A0, n0, c0, l0, rfl, hn0, hnc0, hcm0, hx0, hb0⟩ := open_moves (hval 0 _ v0 rfl rfl) h0
  obtain ⟨z1, rfl⟩ := okWide_int Tryz.underlying3 (hval 1 _ v1 rfl rfl)
  obtain ⟨z2, rfl⟩ := okWide_int Tryz.underlying3 (hval 2 _ v2 rfl rfl)
  refine (lea_walk A0 n0 c0 l0 z1 z2 hn0 (by have := maxLen_le; omega) hx0 W hb0).mono ?_
  rintro e W' ⟨rfl, hx⟩
  refine ⟨_, rfl, ds, gs, before, [], p, [], hW', ?_, ?_, ?_, keptBut_ext hx _, fun h => by cases h⟩
  · rw [hds0, hds1, hds2, hdn, hgs, resT]
    exact trodAll_cons_mk (shut_bool Tryz.underlying4 _) trodAll_mk0
  · have h9 := trodAll_ext (enc := enc) (sp := fun b => decide (b < W.heap.size)) hx (by rw [Tryz.params9]; decide +kernel) hA2 (fun x hx' => by
      have := hlt x (by rw [hbf]; exact List.mem_append_left _ hx')
      simpa using this)
    rw [hds0, hds1, hds2, hdn] at h9
    rw [hds0, hds1, hds2, hdn, hgs]
    exact h9
  · rw [hds0, hds1, hds2, hdn, hgs]
    exact rfl
set_option maxRecDepth 100000 in
theorem lifted (os : Os) (started : os.Started) (H : Type) (enc : TypeId × Value → H) :
    ReturnsInHanded {} Tryz.checked os 9 .any (Rows.registerLeasesSpec.pre6 enc Tryz.prog Tryz.f9 Rows.registerLeasesRow.domain false) (Rows.registerLeasesSpec.post enc Tryz.prog Tryz.f9 false true false false) := by
  refine returnsInHanded_of_change (C := Tryz.checked) own started (by kernel_rfl) Tryz.func9
    (ChangeSpec.witness6 (enc := enc) (C := Tryz.checked) false ⟨#[], #[.slice none 0 0, .int .i64 0, .int .i64 0], []⟩ 8 (by kernel_rfl) (by kernel_rfl) (by kernel_rfl) (by kernel_rfl)) ?_
  intro W base args ds gs before hval hW _ _
  exact contract H enc W base args ds gs before hval hW
theorem said : Rows.RegisterLeasesSaid :=
  OpenClaim.holds_of_wide 9 Tryz.f9 rfl rfl rfl rfl rfl rfl rfl ⟨rfl, rfl, rfl, rfl, rfl⟩ rfl rfl rfl rfl rfl (by kernel_rfl) Tryz.func9 (by kernel_rfl)
    (of_decide_eq_true (by kernel_rfl)) (by unfold Func.isWrapper; first | (rw [if_pos (by decide +kernel)]; kernel_rfl) | (rw [if_neg (by decide +kernel)]; exact ⟨rfl, rfl⟩))
    (fun os started H enc _ => lifted os started H enc)
#print axioms said
end Go.Proofs.YtekjdeibnfaehaaGreat.leas
