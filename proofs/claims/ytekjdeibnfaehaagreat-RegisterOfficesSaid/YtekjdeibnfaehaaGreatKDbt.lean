/- Texts of a proof. -/
import Derived.Test.YtekjdeibnfaehaaGreatKDar
import Derived.ProofKit
import Derived.OpenShut
import Derived.Deep.Slices
import Derived.Deep.DeepHandedRow
import Derived.ChangeStays
import Derived.JoinedCond
import Derived.Lib.SmallJoins
set_option linter.unusedSimpArgs false
set_option linter.unusedVariables false
namespace Go.Proofs.YtekjdeibnfaehaaGreat
open Go Go.RowKit Go.ChangeShapes Go.WideShapes Go.ChangeAt Go.Deep
section
variable{H:Type}{enc:TypeId×Value→H}{W:World}{b:Nat}{sp:Nat→Bool}{hd:Bool}
theorem maxLen_le:maxLen≤9223372036854775807:=by decide+kernel
theorem cT_int:Tryz.prog.cellsOf 3=1:=by kernel_rfl
theorem cT_str:Tryz.prog.cellsOf 9=1:=by kernel_rfl
theorem cT_plc:Tryz.prog.cellsOf 44=2:=by kernel_rfl
theorem cT_rec:Tryz.prog.cellsOf 46=11:=by kernel_rfl
theorem kids:Kids Tryz.prog (· <Tryz.prog.types.size):=kids_rows tG tG
theorem slices_rowed:((List.range Tryz.prog.types.size).all fun t=>match Tryz.prog.underlying t with|some (.slice e)=>decide (0<Tryz.prog.cellsOf e)|_=>true)=true:=by kernel_rfl
theorem slice_rowed{t e:TypeId}(ht:t<Tryz.prog.types.size)(h:Tryz.prog.underlying t=some (.slice e)):0<Tryz.prog.cellsOf e:=by
 have h1:=List.all_eq_true.1 slices_rowed t (List.mem_range.2 ht)
 rw[h] at h1
 exact of_decide_eq_true h1
theorem sameAt_ext{W W':World}(hx:Ext W W'){p:MemPlace}(hp:p.block<W.heap.size):W.sameAt W' p:=by
 obtain⟨E,d,rfl⟩:=hx
 cases p with
 | cell g o=>exact cell?_ext W E d g o none hp
 | map g=>exact heap_ext W E d g hp
theorem trodAll_ext{W W':World}(hx:Ext W W'):∀ {ts:List TypeId}{vs:List Value}{ds:List (DataW H)}{ps:List MemPlace},(∀t∈ts,t<Tryz.prog.types.size)→DataW.TrodAll enc Tryz.prog W 0 (fun _=>true) true ts vs ds ps→
 (∀p∈ps,sp p.block=true)→DataW.TrodAll enc Tryz.prog W' 0 sp true ts vs ds ps
 | [],[],[],_,_,h,_=>h
 | t::ts,v::vs,d::ds,ps,ht,h,hs=>by
  obtain⟨p,q,⟨n,hn⟩,hr,rfl⟩:=h
  refine⟨p,q,⟨n,?_⟩,trodAll_ext hx (fun x hx=>ht x tQ) hr (fun x hx=>hs x tQ),rfl⟩
  exact DataW.trod_stays kids slice_rowed (fun h=>by cases h) (ht t tE) hn (fun x hx'=>sameAt_ext hx (DataW.trod_lt _ _ _ _ hn x hx')) (fun x hx'=>hs x (by simp[hx']))
 | [],_::_,_,_,_,h,_=>by cases h
 | [],[],_::_,_,_,h,_=>by cases h
 | _::_,[],_,_,_,h,_=>by cases h
 | _::_,_::_,[],_,_,h,_=>by cases h
theorem keptBut_ext{W W':World}(hx:Ext W W')(may:MemPlace→Prop):W.keptBut W' may:=by
 obtain⟨E,d,rfl⟩:=hx
 refine⟨rfl,rfl,fun i hi=> ?_⟩
 rw[heap_ext _ _ _ _ hi]
 cases h:W.heap[i]? with
 | none=>rfl
 | some o=>cases o <;> simp
theorem int_cell{n:Nat}{c:List Value}{x:DataW H×List MemPlace}(h:DataW.trod enc Tryz.prog W b sp hd n 3 c=some x):∃ k:Int,c=[.int .i64 k]:=by
 obtain⟨k,hc,_,_⟩:=DataW.trod_int Tryz.underlying3 h
 exact⟨k,hc⟩
set_option maxRecDepth 100000 in
theorem plc_cells{n:Nat}{c:List Value}{x:DataW H×List MemPlace}(h:DataW.trod enc Tryz.prog W b sp hd n 44 c=some x):∃ o s:Int,c=[.int .i64 o,.int .i64 s]:=by
 obtain⟨xs,m,_,_,hl,hlen,hf⟩:=DataW.trod_struct Tryz.underlying44 h
 rw[cT_plc] at hl
 have h0:DataW.trod enc Tryz.prog W b sp hd m 3 ((c.drop 0).take (Tryz.prog.cellsOf 3))=xs[0]? :=hf 0 _ rfl
 have h1:DataW.trod enc Tryz.prog W b sp hd m 3 ((c.drop 1).take (Tryz.prog.cellsOf 3))=xs[1]? :=hf 1 _ rfl
 rw[List.getElem?_eq_getElem (by have h9:xs.length=2:=hlen;omega),cT_int] at h0 h1
 obtain⟨k0,e0⟩:=int_cell h0
 obtain⟨k1,e1⟩:=int_cell h1
 match c,hl with
 | [c0,c1],_=>
  simp only[List.drop_zero,List.drop_succ_cons,List.take_succ_cons,List.take_zero,List.cons.injEq,and_true] at e0 e1
  exact⟨k0,k1,by rw[e0,e1]⟩
set_option maxRecDepth 100000 in
theorem rec_cells{n:Nat}{c:List Value}{x:DataW H×List MemPlace}(h:DataW.trod enc Tryz.prog W b sp hd n 46 c=some x):∃ r:Rec,c=encRec r∧r.text.size≤maxLen:=by
 obtain⟨xs,m,_,_,hl,hlen,hf⟩:=DataW.trod_struct Tryz.underlying46 h
 rw[cT_rec] at hl
 have h0:DataW.trod enc Tryz.prog W b sp hd m 44 ((c.drop 0).take (Tryz.prog.cellsOf 44))=xs[0]? :=hf 0 _ rfl
 have h1:DataW.trod enc Tryz.prog W b sp hd m 3 ((c.drop 2).take (Tryz.prog.cellsOf 3))=xs[1]? :=hf 1 _ rfl
 have h2:DataW.trod enc Tryz.prog W b sp hd m 3 ((c.drop 3).take (Tryz.prog.cellsOf 3))=xs[2]? :=hf 2 _ rfl
 have h3:DataW.trod enc Tryz.prog W b sp hd m 3 ((c.drop 4).take (Tryz.prog.cellsOf 3))=xs[3]? :=hf 3 _ rfl
 have h4:DataW.trod enc Tryz.prog W b sp hd m 3 ((c.drop 5).take (Tryz.prog.cellsOf 3))=xs[4]? :=hf 4 _ rfl
 have h5:DataW.trod enc Tryz.prog W b sp hd m 44 ((c.drop 6).take (Tryz.prog.cellsOf 44))=xs[5]? :=hf 5 _ rfl
 have h6:DataW.trod enc Tryz.prog W b sp hd m 3 ((c.drop 8).take (Tryz.prog.cellsOf 3))=xs[6]? :=hf 6 _ rfl
 have h7:DataW.trod enc Tryz.prog W b sp hd m 3 ((c.drop 9).take (Tryz.prog.cellsOf 3))=xs[7]? :=hf 7 _ rfl
 have h8:DataW.trod enc Tryz.prog W b sp hd m 9 ((c.drop 10).take (Tryz.prog.cellsOf 9))=xs[8]? :=hf 8 _ rfl
 have hsz:xs.length=9:=hlen
 rw[List.getElem?_eq_getElem tB] at h0 h1 h2 h3 h4 h5 h6 h7 h8
 rw[cT_int] at h1 h2 h3 h4 h6 h7
 rw[cT_plc] at h0 h5
 rw[cT_str] at h8
 obtain⟨o,s,e0⟩:=plc_cells h0
 obtain⟨k1,e1⟩:=int_cell h1
 obtain⟨k2,e2⟩:=int_cell h2
 obtain⟨k3,e3⟩:=int_cell h3
 obtain⟨k4,e4⟩:=int_cell h4
 obtain⟨o5,s5,e5⟩:=plc_cells h5
 obtain⟨k6,e6⟩:=int_cell h6
 obtain⟨k7,e7⟩:=int_cell h7
 obtain⟨tx,e8,_,htx⟩:=DataW.trod_string Tryz.underlying9 h8
 match c,hl with
 | [c0,c1,c2,c3,c4,c5,c6,c7,c8,c9,c10],_=>
  simp only[List.drop_zero,List.drop_succ_cons,List.take_succ_cons,List.take_zero,List.cons.injEq,and_true] at e0 e1 e2 e3 e4 e5 e6 e7 e8
  refine⟨⟨o,s,k1,k2,k3,k4,o5,s5,k6,k7,tx⟩,?_,htx⟩
  simp only[encRec,e0.1,e0.2,e1,e2,e3,e4,e5.1,e5.2,e6,e7,e8]
set_option maxRecDepth 100000 in
theorem cell_addr{a:Addr}{v:Value}(h:W.cell? a=some v):∃ g o,a=⟨g,o,none⟩∧g<W.heap.size:=by
 obtain⟨g,o,s⟩:=a
 unfold World.cell? at h
 cases hg:W.heap[g]? with
 | none=>simp[hg] at h
 | some ob=>
  cases s with
  | none=>exact⟨g,o,rfl,(Array.getElem?_eq_some_iff.1 hg).1⟩
  | some s=>cases ob <;> simp[hg] at h
end
end Go.Proofs.YtekjdeibnfaehaaGreat
