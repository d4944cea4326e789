/- Texts of a proof. -/
import Derived.Test.YtekjdeibnfaehaaGreatKDbl
import Derived.Test.YtekjdeibnfaehaaGreatKDbm
set_option linter.unusedSimpArgs false
set_option linter.unusedVariables false
namespace Go.Proofs.YtekjdeibnfaehaaGreat
open Go Go.RowKit
def MovOk(m:MoveD):Prop:=m.x.text.size≤9223372036854775807∧ -9223372036854775808≤m.k0∧m.k0≤9223372036854775807∧ -9223372036854775808≤m.k1∧m.k1≤9223372036854775807
def Moves(w:World)(A:Option Addr)(l:List MoveD):Prop:=Sl 13 w A l.length (l.flatMap mvC)
section
variable{w wr w':World}{b k na c n' c':Nat}{W:WD}{G:Gh}{Ls Ls':Nat→OffL}{A A':Option Addr}{m:MoveD}{l:List MoveD}{v v1:Value}{ack:List MsgD}
theorem Moves.at{g o:Nat}(h:Moves w (some ⟨g,o,none⟩) l)(hk:k<l.length):w.cell? ⟨g,o+k * 13,none⟩=some (.int .i64 l[k].what)∧w.cell? ⟨g,o+k * 13+1,none⟩=some (.int .i64 l[k].a)∧w.cell? ⟨g,o+k * 13+2,none⟩=some (.int .i64 l[k].b)∧w.cell? ⟨g,o+k * 13+3,none⟩=some (.int .i64 l[k].x.a0)∧w.cell? ⟨g,o+k * 13+4,none⟩=some (.int .i64 l[k].x.a1)∧w.cell? ⟨g,o+k * 13+5,none⟩=some (.int .i64 l[k].x.a2)∧w.cell? ⟨g,o+k * 13+6,none⟩=some (.int .i64 l[k].x.a3)∧w.cell? ⟨g,o+k * 13+7,none⟩=some (.int .i64 l[k].x.a4)∧w.cell? ⟨g,o+k * 13+8,none⟩=some (.int .i64 l[k].x.a5)∧w.cell? ⟨g,o+k * 13+9,none⟩=some (.int .i64 l[k].x.a6)∧w.cell? ⟨g,o+k * 13+10,none⟩=some (.string l[k].x.text)∧w.cell? ⟨g,o+k * 13+11,none⟩=some (.int .i64 l[k].k0)∧w.cell? ⟨g,o+k * 13+12,none⟩=some (.int .i64 l[k].k1):=by
 obtain⟨g',o',he,_,hc⟩:=h.2 tB
 cases he
 have key:∀ j u,(mvC l[k])[j]? =some u→w.cell? ⟨g,o+k * 13+j,none⟩=some u:=fun j u hu=>by
  rw[Nat.add_assoc]
  refine hc _ u ?_
  rw[flatMap_get mvC 13 (fun _=>rfl) l k j hk (by have:=(List.getElem?_eq_some_iff.1 hu).1;exact this)]
  exact hu
 exact⟨key 0 _ rfl,key 1 _ rfl,key 2 _ rfl,key 3 _ rfl,key 4 _ rfl,key 5 _ rfl,key 6 _ rfl,key 7 _ rfl,key 8 _ rfl,key 9 _ rfl,key 10 _ rfl,key 11 _ rfl,key 12 _ rfl⟩
theorem Moves.of_ext(h:Moves w A l)(hx:Ext w w'):Moves w' A l:=Sl.of_ext h hx
theorem Moves.addr(h:Moves w A l)(hn:0<l.length):∃ g o,A=some ⟨g,o,none⟩∧g<w.heap.size:=by
 obtain⟨g,o,h1,h2,_⟩:=h.2 hn
 exact⟨g,o,h1,h2⟩
theorem moved_q(wc:List Value)(hwc:worldC W Ls A na c=wc)(hI:WI k W G)(w:World)(hY:WorldY w W Ls A na c)(hm:MovOk m)(hlong:na≤100000):
 Calls Tryz.prog 38 #[.agg wc.toArray,mvV m] w fun e w'=> ∃(Ls':Nat→OffL) (A':Option Addr) (n' c':Nat) (nc:List Value),e= .returned (.agg nc.toArray)∧Whole nc.toArray 70∧nc.length=70∧Hid (worldC (movedW W m) Ls' A' n' c'=nc∧MovR w w' Ls A na (movedW W m) Ls' A' n' c')∧Ext w w':=by
 subst hwc
 obtain⟨h0,h1,h2,h3,h4⟩:=hm
 refine(moved_any W Ls A na c m w hI hY h0 h1 h2 h3 h4 hlong).mono ?_
 rintro e w' ⟨Ls',A',n',c',rfl,hM⟩
 exact⟨Ls',A',n',c',_,rfl,worldC_whole _ _ _ _ _,rfl,hid ⟨rfl,hM⟩,hM.2.2⟩
theorem movedW_way(W:WD)(m:MoveD):(movedW W m).way.length≤W.way.length+12:=by
 unfold movedW restW offerW recvW grantW noteW
 have hw:∀ d b,(wayW W d b).length≤W.way.length:=fun d b=>by
  unfold wayW
  split
  ·rw[List.length_append,List.length_take,List.length_drop];omega
  ·exact Nat.le_refl _
 split
 ·split <;> simp[setW,errW]
 split
 ·split
  ·simp only[setW,List.length_append,List.length_take];omega
  ·simp[errW]
 split
 ·split
  ·simp[errW]
  ·split
   ·have:=hw 3 m.b;simp only[errW];omega
   ·split
    ·have h1:=hw (m.what % 12) m.b
     have h2:(recvL (W.off (msgW W m.b).to.toNat) (msgW W m.b)).length≤1:=by unfold recvL;split <;> simp
     simp only[setW,List.length_append];omega
    ·have:=hw (m.what % 12) m.b;simp only[errW];omega
 split <;> split <;> simp[setW,errW]
structure WBox(w:World)(b:Nat)(wr:World)(k:Nat)(W:WD)(G:Gh)(Ls:Nat→OffL)(A:Option Addr)(na c:Nat):Prop where
 x:Ext w wr
 q:BoxC wr b (worldC W Ls A na c) 83
 i:WI k W G
 y:WorldY wr W Ls A na c
 f:WorldF b Ls A na
 l:na≤12 * k
theorem box_whole{vs cs:List Value}{t:TypeId}(h:BoxC w b cs t)(hl:cs.length=vs.length):BoxC (w.setCells b 0 vs) b vs t:=by
 have:=BoxC.cells vs 0 h tB
 rwa [List.take_zero,List.nil_append,Nat.zero_add,←hl,List.drop_length,List.append_nil] at this
theorem WBox.next(h:WBox w b wr k W G Ls A na c)(hb:w.heap.size≤b)(hM:MovR wr w' Ls A na (movedW W m) Ls' A' n' c'):
 ∃G',WBox w b (w'.setCells b 0 (worldC (movedW W m) Ls' A' n' c')) (k+1) (movedW W m) G' Ls' A' n' c'∧Grows G G'∧(movedW W m).e≠72∧(movedW W m).e≠76:=by
 obtain⟨G',h1,h2,h3,h4⟩:=h.i.moved m
 have hlt:=h.q.lt
 have hF:=hM.2.1 b hlt h.f
 refine⟨G',⟨Ext.cells _ _ (h.x.trans hM.2.2) hb,box_whole (h.q.of_ext hM.2.2) rfl,h1,hM.1.grown hF (gb_cells b _ 0 w'),hF,?_⟩,h2,h3,h4⟩
 have e1:=hM.1.m.1
 have e2:=h.y.m.1
 have e3:=movedW_way W m
 have:=h.l
 omega
theorem MovR.drew{W':WD}(h:MovR wr.drew w' Ls A na W' Ls' A' n' c'):MovR wr w' Ls A na W' Ls' A' n' c':=⟨h.1,h.2.1,(Ext.refl wr).drew.trans h.2.2⟩
end
end Go.Proofs.YtekjdeibnfaehaaGreat
