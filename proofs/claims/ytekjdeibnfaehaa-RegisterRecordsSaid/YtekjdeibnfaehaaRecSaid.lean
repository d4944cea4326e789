/- RegisterRecords returns true for every record and all bytes, and leaves them as they were. -/
import Derived.Test.YtekjdeibnfaehaaRows
import Derived.Test.YtekjdeibnfaehaaClRec
import Derived.Handed
import Derived.JoinedOf
set_option linter.unusedSimpArgs false
set_option linter.unusedVariables false
namespace Go.Proofs.Ytekjdeibnfaehaa.recs
open Go Go.RowKit Go.ChangeShapes Go.WideShapes Go.ChangeAt

theorem own : ownKnob Try.prog.godebug = none := by kernel_rfl
theorem resT : Try.f3.resultTypes = #[4] := by kernel_rfl
set_option maxRecDepth 100000 in
theorem contract (H : Type) (enc : TypeId × Value → H) (W : World) (base : Nat) (args : Array Value) (ds gs : List (DataW H)) (before : List MemPlace)
    (hval : ∀ (j : Nat) t v, Try.f3.params[j]? = some t → args[j]? = some v → Value.okWide Try.prog W .any base t v)
    (hW : DataW.Whole enc Try.prog Try.f3.params.toList Rows.registerRecordsSpec.vars false W args.toList ds gs before) :
    Calls Try.prog 3 args W fun e W' => ∃ v, e = .returned v ∧ Rows.registerRecordsSpec.post enc Try.prog Try.f3 false true false false W args v W' := by
  have hW' := hW
  have hlt := fun p hp => hW.lt p hp
  obtain ⟨p, q, hA0, hV, hbf, hfz, hnd⟩ := hW
  have hA : DataW.TrodAll enc Try.prog W 0 (fun _ => true) true Try.f3.params.toList args.toList ds p := hA0
  have hA2 := hA
  rw [Try.params3] at hA hval
  obtain ⟨v0, vs0, d0, ds0, p0, q0, hargs, hds, hp, h0, r0⟩ := trodAll_cons hA
  obtain ⟨v1, vs1, d1, ds1, p1, q1, hargs1, hds1, hp1, h1, r1⟩ := trodAll_cons r0
  obtain ⟨hvs, hdn, hpn⟩ := trodAll_nil r1
  obtain rfl : args = #[v0, v1] := by
    apply Array.ext'
    rw [hargs, hargs1, hvs]
  obtain ⟨hgs, hq⟩ := trodVars_none hV
  obtain ⟨r, rfl, ht⟩ := open_rec (hval 0 _ v0 rfl rfl) h0
  obtain ⟨A, n, c, l, rfl, hn, hnc, hcm, hb⟩ := open_byts (hval 1 _ v1 rfl rfl) h1
  refine (records_walk r A n c l (Nat.le_trans ht maxLen_le) hn hnc (Nat.le_trans hcm maxLen_le) W hb).mono ?_
  rintro e W' ⟨rfl, hx⟩
  refine ⟨_, rfl, ds, gs, before, [], p, [], hW', ?_, ?_, ?_, keptBut_ext hx _, fun h => by cases h⟩
  · rw [hds, hds1, hdn, hgs, resT]
    exact trodAll_cons_mk (shut_bool Try.underlying4 _) trodAll_mk0
  · have h9 := trodAll_ext (enc := enc) (sp := fun b => decide (b < W.heap.size)) hx (by rw [Try.params3]; decide +kernel) hA2 (fun x hx' => by
      have := hlt x (by rw [hbf]; exact List.mem_append_left _ hx')
      simpa using this)
    rw [hds, hds1, hdn] at h9
    rw [hds, hds1, hdn, hgs]
    exact h9
  · rw [hds, hds1, hdn, hgs]
    exact rfl
set_option maxRecDepth 100000 in
theorem lifted (os : Os) (started : os.Started) (H : Type) (enc : TypeId × Value → H) :
    ReturnsInHanded {} Try.checked os 3 .any (Rows.registerRecordsSpec.pre6 enc Try.prog Try.f3 Rows.registerRecordsRow.domain false) (Rows.registerRecordsSpec.post enc Try.prog Try.f3 false true false false) := by
  refine returnsInHanded_of_change (C := Try.checked) own started (by kernel_rfl) Try.func3
    (ChangeSpec.witness6 (enc := enc) (C := Try.checked) false ⟨#[], #[recV zeroR, .slice none 0 0], []⟩ 8 (by kernel_rfl) (by kernel_rfl) (by kernel_rfl) (by kernel_rfl)) ?_
  intro W base args ds gs before hval hW _ _
  exact contract H enc W base args ds gs before hval hW
theorem said : Rows.RegisterRecordsSaid :=
  OpenClaim.holds_of_wide 3 Try.f3 rfl rfl rfl rfl rfl rfl rfl ⟨rfl, rfl, rfl, rfl, rfl⟩ rfl rfl rfl rfl rfl (by kernel_rfl) Try.func3 (by kernel_rfl)
    (of_decide_eq_true (by kernel_rfl)) (by unfold Func.isWrapper; first | (rw [if_pos (by decide +kernel)]; kernel_rfl) | (rw [if_neg (by decide +kernel)]; exact ⟨rfl, rfl⟩))
    (fun os started H enc _ => lifted os started H enc)
end Go.Proofs.Ytekjdeibnfaehaa.recs
