/- Texts of a proof. -/
import Derived.Test.YtekjdeibnfaehaaGreatKDbt
import Derived.SizedLaws
set_option linter.unusedSimpArgs false
set_option linter.unusedVariables false
namespace Go.Proofs.YtekjdeibnfaehaaGreat
open Go Go.RowKit Go.ChangeShapes Go.WideShapes Go.ChangeAt Go.Deep
def I64(k:Int):Prop:= -9223372036854775808≤k∧k≤9223372036854775807
section
variable{H:Type}{enc:TypeId×Value→H}{W:World}{b:Nat}{sp:Nat→Bool}{hd:Bool}
theorem cT_two:Tryz.prog.cellsOf 28=2:=by kernel_rfl
theorem int_cell2{n:Nat}{c:List Value}{x:DataW H×List MemPlace}(h:DataW.trod enc Tryz.prog W b sp hd n 3 c=some x):∃ k:Int,c=[.int .i64 k]∧I64 k:=by
 obtain⟨k,hc,_,hw⟩:=DataW.trod_int Tryz.underlying3 h
 exact⟨k,hc,bounds_i64 hw⟩
set_option maxRecDepth 100000 in
theorem two_cells{n:Nat}{c:List Value}{x:DataW H×List MemPlace}(h:DataW.trod enc Tryz.prog W b sp hd n 28 c=some x):∃ k0 k1:Int,c=[.int .i64 k0,.int .i64 k1]∧I64 k0∧I64 k1:=by
 obtain⟨xs,m,_,_,hl,hlen,hf⟩:=DataW.trod_array Tryz.underlying28 h
 rw[cT_two] at hl
 have h0:=hf 0 tN
 have h1:=hf 1 tN
 rw[List.getElem?_eq_getElem tB,cT_int] at h0 h1
 obtain⟨k0,e0,b0⟩:=int_cell2 h0
 obtain⟨k1,e1,b1⟩:=int_cell2 h1
 match c,hl with
 | [c0,c1],_=>
  simp only[Nat.zero_mul,Nat.one_mul,List.drop_zero,List.drop_succ_cons,List.take_succ_cons,List.take_zero,List.cons.injEq,and_true] at e0 e1
  exact⟨k0,k1,by rw[e0,e1],b0,b1⟩
end
end Go.Proofs.YtekjdeibnfaehaaGreat
