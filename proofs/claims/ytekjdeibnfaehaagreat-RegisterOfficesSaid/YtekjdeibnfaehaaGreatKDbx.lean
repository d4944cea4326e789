/- RegisterOffices returns true for all lists of moves and whatever is asked of the offices at the end, and changes nothing that was there. -/
import Derived.Test.YtekjdeibnfaehaaGreatRows
import Derived.Test.YtekjdeibnfaehaaGreatKDbw
import Derived.Test.YtekjdeibnfaehaaGreatKDbv
import Derived.Handed
import Derived.JoinedOf
set_option linter.unusedSimpArgs false
set_option linter.unusedVariables false
namespace Go.Proofs.YtekjdeibnfaehaaGreat.offs
open Go Go.RowKit Go.ChangeShapes Go.WideShapes Go.ChangeAt
theorem own:ownKnob Tryz.prog.godebug=none:=by kernel_rfl
theorem resT:Tryz.f6.resultTypes= #[4]:=by kernel_rfl
set_option maxRecDepth 100000 in
theorem contract(H:Type)(enc:TypeId×Value→H)(W:World)(base:Nat)(args:Array Value)(ds gs:List (DataW H))(before:List MemPlace)
 (hval:∀ (j:Nat) t v,Tryz.f6.params[j]? =some t→args[j]? =some v→Value.okWide Tryz.prog W .any base t v)
 (hW:DataW.Whole enc Tryz.prog Tryz.f6.params.toList Rows.registerOfficesSpec.vars false W args.toList ds gs before):
 Calls Tryz.prog 6 args W fun e W'=> ∃v,e= .returned v∧Rows.registerOfficesSpec.post enc Tryz.prog Tryz.f6 false true false false W args v W':=by
 have hW':=hW
 have hlt:=fun p hp=>hW.lt p hp
 obtain⟨p,q,hA0,hV,hbf,hfz,hnd⟩:=hW
 have hA:DataW.TrodAll enc Tryz.prog W 0 (fun _=>true) true Tryz.f6.params.toList args.toList ds p:=hA0
 have hA2:=hA
 rw[Tryz.params6] at hA hval
 obtain⟨v0,vs0,d0,ds0,p0,q0,hargs0,hds0,hp0,h0,tr0⟩:=trodAll_cons hA
 obtain⟨v1,vs1,d1,ds1,p1,q1,hargs1,hds1,hp1,h1,tr1⟩:=trodAll_cons tr0
 obtain⟨hvs,hdn,hpn⟩:=trodAll_nil tr1
 obtain rfl:args= #[v0,v1]:=by
  apply Array.ext'
  rw[hargs0,hargs1,hvs]
 obtain⟨hgs,hq⟩:=trodVars_none hV
 obtain⟨A0,n0,c0,l0,rfl,hn0,hnc0,hcm0,hx0,hb0⟩:=open_moves (hval 0 _ v0 rfl rfl) h0
 obtain⟨pr1,A1,n1,c1,l1,rfl,hp1,hk1⟩:=open_prb (hval 1 _ v1 rfl rfl) h1
 refine(of_walk A0 n0 c0 l0 hn0 (by have:=maxLen_le;omega) hx0 pr1 A1 n1 c1 l1 hp1 W hb0 hk1).mono ?_
 rintro e W' ⟨rfl,hx⟩
 refine⟨_,rfl,ds,gs,before,[],p,[],hW',?_,?_,?_,keptBut_ext hx _,fun h=>by cases h⟩
 ·rw[hds0,hds1,hdn,hgs,resT]
  exact trodAll_cons_mk (shut_bool Tryz.underlying4 _) trodAll_mk0
 ·have h9:=trodAll_ext (enc:=enc) (sp:=fun b=>decide (b<W.heap.size)) hx (by rw[Tryz.params6];decide+kernel) hA2 (fun x hx'=>by
   have:=hlt x (by rw[hbf];exact List.mem_append_left _ hx')
   simpa using this)
  rw[hds0,hds1,hdn] at h9
  rw[hds0,hds1,hdn,hgs]
  exact h9
 ·rw[hds0,hds1,hdn,hgs]
  exact rfl
set_option maxRecDepth 100000 in
theorem lifted(os:Os)(started:os.Started)(H:Type)(enc:TypeId×Value→H):
 ReturnsInHanded {} Tryz.checked os 6 .any (Rows.registerOfficesSpec.pre6 enc Tryz.prog Tryz.f6 Rows.registerOfficesRow.domain false) (Rows.registerOfficesSpec.post enc Tryz.prog Tryz.f6 false true false false):=by
 refine returnsInHanded_of_change (C:=Tryz.checked) own started tG Tryz.func6
  (ChangeSpec.witness6 (enc:=enc) (C:=Tryz.checked) false ⟨#[],#[.slice none 0 0,.agg (prbC ⟨0,0,0,0,0,0,zeroR,⟨0,0,false,zeroR⟩,false⟩ none 0 0).toArray],[]⟩ 8 tG tG tG tG) ?_
 intro W base args ds gs before hval hW _ _
 exact contract H enc W base args ds gs before hval hW
theorem said:Rows.RegisterOfficesSaid:=
 OpenClaim.holds_of_wide 6 Tryz.f6 rfl rfl rfl rfl rfl rfl rfl ⟨rfl,rfl,rfl,rfl,rfl⟩ rfl rfl rfl rfl rfl tG Tryz.func6 tG
  (of_decide_eq_true tG) (by unfold Func.isWrapper;first|(rw[if_pos (by decide+kernel)];kernel_rfl)|(rw[if_neg (by decide+kernel)];exact⟨rfl,rfl⟩))
  (fun os started H enc _=>lifted os started H enc)
#print axioms said
end Go.Proofs.YtekjdeibnfaehaaGreat.offs
