/- Texts of a proof. -/
import Derived.Test.YtekjdeibnfaehaaGreatKDbu
import Derived.Test.YtekjdeibnfaehaaGreatKDbn
import Derived.Test.YtekjdeibnfaehaaGreatKDbp
import Derived.Test.YtekjdeibnfaehaaGreatKDbr
import Derived.Test.YtekjdeibnfaehaaGreatKDbs
import Derived.Test.YtekjdeibnfaehaaGreatKDbf
import Derived.Test.YtekjdeibnfaehaaGreatKDbg
set_option linter.unusedSimpArgs false
set_option linter.unusedVariables false
namespace Go.Proofs.YtekjdeibnfaehaaGreat
open Go Go.RowKit Go.ChangeShapes Go.WideShapes Go.ChangeAt Go.Deep
def encRawM(x:RawD):List Value:=[.int .i64 x.a0,.int .i64 x.a1,.int .i64 x.a2,.int .i64 x.a3,.int .i64 x.a4,.int .i64 x.a5,.int .i64 x.a6,.string x.text]
section
variable{H:Type}{enc:TypeId×Value→H}{W:World}{b:Nat}{sp:Nat→Bool}{hd:Bool}
theorem cT_seven:Tryz.prog.cellsOf 86=7:=by kernel_rfl
theorem cT_raw:Tryz.prog.cellsOf 88=8:=by kernel_rfl
theorem cT_move:Tryz.prog.cellsOf 90=13:=by kernel_rfl
theorem flatMap_length{α:Type}(f:α→List Value)(k:Nat)(hk:∀ x,(f x).length=k):∀ l:List α,(l.flatMap f).length=l.length * k
 | []=>by simp
 | x::l=>by rw[List.flatMap_cons,List.length_append,hk,flatMap_length f k hk l,List.length_cons,Nat.add_mul];omega
theorem choose_lt'{α:Type}{n:Nat}{p:Nat→α→Prop}(h:∀ i,i<n→∃ v,p i v):∃ l:List α,l.length=n∧∀ i (hi:i<l.length),i<n→p i l[i]:=by
 induction n with
 | zero=>exact⟨[],rfl,fun i hi=>absurd hi (Nat.not_lt_zero _)⟩
 | succ n ih=>
  obtain⟨l,hl,hp⟩:=ih fun i hi=>h i tB
  obtain⟨v,hv⟩:=h n tB
  refine⟨l++[v],by simp[hl],fun i hi hin=> ?_⟩
  by_cases e:i<n
  ·rw[List.getElem_append_left tB]
   exact hp i tB e
  ·have:i=n:=by omega
   subst this
   rw[List.getElem_append_right tB]
   simpa [hl] using hv
set_option maxRecDepth 100000 in
theorem seven_cells{n:Nat}{c:List Value}{x:DataW H×List MemPlace}(h:DataW.trod enc Tryz.prog W b sp hd n 86 c=some x):
 ∃k0 k1 k2 k3 k4 k5 k6:Int,c=[.int .i64 k0,.int .i64 k1,.int .i64 k2,.int .i64 k3,.int .i64 k4,.int .i64 k5,.int .i64 k6]:=by
 obtain⟨xs,m,_,_,hl,hlen,hf⟩:=DataW.trod_array Tryz.underlying86 h
 rw[cT_seven] at hl
 have h0:=hf 0 tN
 have h1:=hf 1 tN
 have h2:=hf 2 tN
 have h3:=hf 3 tN
 have h4:=hf 4 tN
 have h5:=hf 5 tN
 have h6:=hf 6 tN
 rw[List.getElem?_eq_getElem tB,cT_int] at h0 h1 h2 h3 h4 h5 h6
 obtain⟨k0,e0⟩:=int_cell h0
 obtain⟨k1,e1⟩:=int_cell h1
 obtain⟨k2,e2⟩:=int_cell h2
 obtain⟨k3,e3⟩:=int_cell h3
 obtain⟨k4,e4⟩:=int_cell h4
 obtain⟨k5,e5⟩:=int_cell h5
 obtain⟨k6,e6⟩:=int_cell h6
 match c,hl with
 | [c0,c1,c2,c3,c4,c5,c6],_=>
  simp only[Nat.zero_mul,Nat.one_mul,Nat.mul_one,List.drop_zero,List.drop_succ_cons,List.take_succ_cons,List.take_zero,List.cons.injEq,and_true] at e0 e1 e2 e3 e4 e5 e6
  exact⟨k0,k1,k2,k3,k4,k5,k6,by rw[e0,e1,e2,e3,e4,e5,e6]⟩
set_option maxRecDepth 100000 in
theorem raw_cells{n:Nat}{c:List Value}{x:DataW H×List MemPlace}(h:DataW.trod enc Tryz.prog W b sp hd n 88 c=some x):∃ r:RawD,c=encRawM r∧r.text.size≤9223372036854775807:=by
 obtain⟨xs,m,_,_,hl,hlen,hf⟩:=DataW.trod_struct Tryz.underlying88 h
 rw[cT_raw] at hl
 have h0:DataW.trod enc Tryz.prog W b sp hd m 86 ((c.drop 0).take (Tryz.prog.cellsOf 86))=xs[0]? :=hf 0 _ rfl
 have h1:DataW.trod enc Tryz.prog W b sp hd m 9 ((c.drop 7).take (Tryz.prog.cellsOf 9))=xs[1]? :=hf 1 _ rfl
 have hsz:xs.length=2:=hlen
 rw[List.getElem?_eq_getElem tB] at h0 h1
 rw[cT_seven] at h0
 rw[cT_str] at h1
 obtain⟨k0,k1,k2,k3,k4,k5,k6,e0⟩:=seven_cells h0
 obtain⟨tx,e1,_,htx⟩:=DataW.trod_string Tryz.underlying9 h1
 match c,hl with
 | [c0,c1,c2,c3,c4,c5,c6,c7],_=>
  simp only[List.drop_zero,List.drop_succ_cons,List.take_succ_cons,List.take_zero,List.cons.injEq,and_true] at e0 e1
  refine⟨⟨k0,k1,k2,k3,k4,k5,k6,tx⟩,?_,Nat.le_trans htx maxLen_le⟩
  simp only[encRawM,e0,e1]
set_option maxRecDepth 100000 in
theorem move_cells{n:Nat}{c:List Value}{x:DataW H×List MemPlace}(h:DataW.trod enc Tryz.prog W b sp hd n 90 c=some x):∃ a:MoveD,c=mvC a∧MovOk a:=by
 obtain⟨xs,m,_,_,hl,hlen,hf⟩:=DataW.trod_struct Tryz.underlying90 h
 rw[cT_move] at hl
 have h0:DataW.trod enc Tryz.prog W b sp hd m 3 ((c.drop 0).take (Tryz.prog.cellsOf 3))=xs[0]? :=hf 0 _ rfl
 have h1:DataW.trod enc Tryz.prog W b sp hd m 3 ((c.drop 1).take (Tryz.prog.cellsOf 3))=xs[1]? :=hf 1 _ rfl
 have h2:DataW.trod enc Tryz.prog W b sp hd m 3 ((c.drop 2).take (Tryz.prog.cellsOf 3))=xs[2]? :=hf 2 _ rfl
 have h3:DataW.trod enc Tryz.prog W b sp hd m 88 ((c.drop 3).take (Tryz.prog.cellsOf 88))=xs[3]? :=hf 3 _ rfl
 have h4:DataW.trod enc Tryz.prog W b sp hd m 28 ((c.drop 11).take (Tryz.prog.cellsOf 28))=xs[4]? :=hf 4 _ rfl
 have hsz:xs.length=5:=hlen
 rw[List.getElem?_eq_getElem tB] at h0 h1 h2 h3 h4
 rw[cT_int] at h0 h1 h2
 rw[cT_raw] at h3
 rw[cT_two] at h4
 obtain⟨j,e0,_⟩:=int_cell2 h0
 obtain⟨p,e1,_⟩:=int_cell2 h1
 obtain⟨q,e2,_⟩:=int_cell2 h2
 obtain⟨r,e3,htx⟩:=raw_cells h3
 obtain⟨j0,j1,e4,b1,b2⟩:=two_cells h4
 match c,hl with
 | [c0,c1,c2,c3,c4,c5,c6,c7,c8,c9,c10,c11,c12],_=>
  simp only[encRawM,List.drop_zero,List.drop_succ_cons,List.take_succ_cons,List.take_zero,List.cons.injEq,and_true] at e0 e1 e2 e3 e4
  refine⟨⟨j,p,q,r,j0,j1⟩,?_,htx,b1.1,b1.2,b2.1,b2.2⟩
  simp only[mvC,e0,e1,e2,e3,e4]
set_option maxRecDepth 100000 in
theorem open_rows{α:Type}(f:α→List Value)(k:Nat)(hk0:0<k)(hk:∀ x,(f x).length=k)(good:α→Prop){t e:TypeId}(ht:Tryz.prog.underlying t=some (.slice e))(hce:Tryz.prog.cellsOf e=k)
 (hcell:∀ {n:Nat} {c:List Value} {x:DataW H×List MemPlace},DataW.trod enc Tryz.prog W b sp hd n e c=some x→∃ r:α,c=f r∧good r) {c0:List Value} {fuel:Nat} {x:DataW H×List MemPlace} (hf:DataW.trod enc Tryz.prog W b sp hd fuel t c0=some x):
 ∃A n c,∃l:List α,c0=[.slice A n c]∧l.length=n∧n≤c∧c≤maxLen∧(∀r∈l,good r)∧Sl k W A l.length (l.flatMap f):=by
 rcases open_slice ht hf with⟨hc,_⟩|⟨a,len,cap,m,n,D,Pl,hc,_,hlc,hcm,hm,_,hx⟩
 ·exact⟨none,0,0,[],hc,rfl,Nat.le_refl _,Nat.zero_le _,fun r hr=>by(cases hr),by simp,fun h=>absurd h tE⟩
 ·have hlm:len≤m:=by rw[hm];split <;> omega
  obtain⟨g0,hfv⟩:=choose_lt' (n:=len) (p:=fun i r=>good r∧∀ j,j<k→W.cell? ((a.add (i * k)).add j)=(f r)[j]?) (fun i hi=>by
   obtain⟨cs',h1,h2⟩:=hx i tB
   rw[hce] at h1
   obtain⟨r,rfl,hg⟩:=hcell h2
   exact⟨r,hg,(World.cells?_some h1).2.2⟩)
  refine⟨some a,len,cap,g0,hc,hfv.1,hlc,hcm,?_,?_⟩
  ·intro r hr
   obtain⟨i,hi,rfl⟩:=List.getElem_of_mem hr
   exact(hfv.2 i hi (by have:=hfv.1;omega)).1
  ·refine⟨flatMap_length f k hk _,fun hn=> ?_⟩
   have hfl:=hfv.1
   have h0:=(hfv.2 0 hn tB).2 0 hk0
   have h00:∃ v,W.cell? a=some v:=by
    rw[List.getElem?_eq_getElem (by rw[hk];exact hk0)] at h0
    exact⟨_,by simpa [Addr.add] using h0⟩
   obtain⟨v0,h00⟩:=h00
   obtain⟨g,o,rfl,hg⟩:=cell_addr h00
   refine⟨g,o,rfl,hg,fun j u hu=> ?_⟩
   have hj:j<g0.length * k:=by have:=(List.getElem?_eq_some_iff.1 hu).1;rwa [flatMap_length f k hk] at this
   have hi:j / k<g0.length:=Nat.div_lt_of_lt_mul (by rw[Nat.mul_comm];exact hj)
   have hr:=(hfv.2 (j / k) hi tB).2 (j % k) (Nat.mod_lt _ hk0)
   have hg2:=flatMap_get f k hk g0 (j / k) (j % k) hi (Nat.mod_lt _ hk0)
   have hjk:j / k * k+j % k=j:=by rw[Nat.mul_comm];exact Nat.div_add_mod j k
   rw[hjk,hu] at hg2
   rw[Addr.add_lit,Addr.add_lit,Nat.add_assoc,hjk] at hr
   rw[hr,hg2]
set_option maxRecDepth 100000 in
theorem open_moves{v:Value}{d:DataW H}{p:List MemPlace}{r0:Reach}{b0:Nat}(hv:Value.okWide Tryz.prog W r0 b0 68 v)(h:DataW.Trod enc Tryz.prog W b sp hd 68 v d p):
 ∃A n c,∃l:List MoveD,v= .slice A n c∧l.length=n∧n≤c∧c≤maxLen∧(∀a∈l,MovOk a)∧Moves W A l:=by
 obtain⟨a0,n0,c0,rfl⟩:=okWide_slice Tryz.underlying68 hv
 obtain⟨fuel,hf⟩:=h
 obtain⟨A,n,c,l,he,h1,h2,h3,h4,h5⟩:=open_rows mvC 13 tN (fun _=>rfl) MovOk Tryz.underlying68 cT_move move_cells hf
 simp only[Value.cells,List.cons.injEq,Value.slice.injEq,and_true] at he
 obtain⟨rfl,rfl,rfl⟩:=he
 exact⟨_,_,_,l,rfl,h1,h2,h3,h4,h5⟩
end
end Go.Proofs.YtekjdeibnfaehaaGreat
set_option linter.unusedSimpArgs false
set_option linter.unusedVariables false
namespace Go.Proofs.YtekjdeibnfaehaaGreat
open Go Go.RowKit Go.ChangeShapes Go.WideShapes Go.ChangeAt Go.Deep
structure PrbD where
 a:Int
 b:Int
 ship:Int
 til:Int
 k0:Int
 k1:Int
 x:Rec
 m:MsgD
 cut:Bool
@[reducible] def prbC(p:PrbD)(A:Option Addr)(n c:Nat):List Value:=[.int .i64 p.a,.int .i64 p.b,.int .i64 p.ship,.int .i64 p.til,.int .i64 p.k0,.int .i64 p.k1,.int .i64 p.x.ao,.int .i64 p.x.sq,.int .i64 p.x.kind,.int .i64 p.x.ship,.int .i64 p.x.day,.int .i64 p.x.known,.int .i64 p.x.wo,.int .i64 p.x.ws,.int .i64 p.x.to,.int .i64 p.x.til,.string p.x.text,
 .int .i64 p.m.fr,.int .i64 p.m.to,.bool p.m.ack,.int .i64 p.m.r.ao,.int .i64 p.m.r.sq,.int .i64 p.m.r.kind,.int .i64 p.m.r.ship,.int .i64 p.m.r.day,.int .i64 p.m.r.known,.int .i64 p.m.r.wo,.int .i64 p.m.r.ws,.int .i64 p.m.r.to,.int .i64 p.m.r.til,.string p.m.r.text,.bool p.cut,.slice A n c]
structure PrbOk(p:PrbD):Prop where
 a:I64 p.a
 b:I64 p.b
 k0:I64 p.k0
 k1:I64 p.k1
 x:p.x.text.size≤9223372036854775807
 m:p.m.r.text.size≤9223372036854775807
section
variable{H:Type}{enc:TypeId×Value→H}{W:World}{b:Nat}{sp:Nat→Bool}{hd:Bool}
theorem cT_bool:Tryz.prog.cellsOf 4=1:=by kernel_rfl
theorem cT_msg:Tryz.prog.cellsOf 70=14:=by kernel_rfl
theorem cT_plcs:Tryz.prog.cellsOf 71=1:=by kernel_rfl
theorem cT_prb:Tryz.prog.cellsOf 73=33:=by kernel_rfl
set_option maxRecDepth 100000 in
theorem msg_cells{n:Nat}{c:List Value}{x:DataW H×List MemPlace}(h:DataW.trod enc Tryz.prog W b sp hd n 70 c=some x):∃ m:MsgD,c=msgC m∧m.r.text.size≤9223372036854775807:=by
 obtain⟨xs,m,_,_,hl,hlen,hf⟩:=DataW.trod_struct Tryz.underlying70 h
 rw[cT_msg] at hl
 have h0:DataW.trod enc Tryz.prog W b sp hd m 3 ((c.drop 0).take (Tryz.prog.cellsOf 3))=xs[0]? :=hf 0 _ rfl
 have h1:DataW.trod enc Tryz.prog W b sp hd m 3 ((c.drop 1).take (Tryz.prog.cellsOf 3))=xs[1]? :=hf 1 _ rfl
 have h2:DataW.trod enc Tryz.prog W b sp hd m 4 ((c.drop 2).take (Tryz.prog.cellsOf 4))=xs[2]? :=hf 2 _ rfl
 have h3:DataW.trod enc Tryz.prog W b sp hd m 46 ((c.drop 3).take (Tryz.prog.cellsOf 46))=xs[3]? :=hf 3 _ rfl
 have hsz:xs.length=4:=hlen
 rw[List.getElem?_eq_getElem tB] at h0 h1 h2 h3
 rw[cT_int] at h0 h1
 rw[cT_bool] at h2
 rw[cT_rec] at h3
 obtain⟨j,e0⟩:=int_cell h0
 obtain⟨p,e1⟩:=int_cell h1
 obtain⟨q,e2,_⟩:=DataW.trod_bool Tryz.underlying4 h2
 obtain⟨r,e3,htx⟩:=rec_cells h3
 match c,hl with
 | [c0,c1,c2,c3,c4,c5,c6,c7,c8,c9,c10,c11,c12,c13],_=>
  simp only[encRec,List.drop_zero,List.drop_succ_cons,List.take_succ_cons,List.take_zero,List.cons.injEq,and_true] at e0 e1 e2 e3
  refine⟨⟨j,p,q,r⟩,?_,Nat.le_trans htx maxLen_le⟩
  simp only[msgC,e0,e1,e2,e3]
theorem plc_cellsP{n:Nat}{c:List Value}{x:DataW H×List MemPlace}(h:DataW.trod enc Tryz.prog W b sp hd n 44 c=some x):∃ p:Plc,c=encP p∧True:=by
 obtain⟨o,s,e⟩:=plc_cells h
 exact⟨⟨o,s⟩,e,trivial⟩
theorem open_plcs{fuel:Nat}{c0:List Value}{x:DataW H×List MemPlace}(hf:DataW.trod enc Tryz.prog W b sp hd fuel 71 c0=some x):∃ A n c,∃l:List Plc,c0=[.slice A n c]∧Plcs W ⟨A,n,c⟩ l:=by
 obtain⟨A,n,c,l,he,h1,h2,h3,h4,h5⟩:=open_rows encP 2 tN (fun _=>rfl) (fun _=>True) Tryz.underlying71 cT_plc plc_cellsP hf
 refine⟨A,n,c,l,he,h1,h2,Nat.le_trans h3 maxLen_le,?_⟩
 rw[h1] at h5
 exact h5
set_option maxRecDepth 100000 in
theorem prb_cells{n:Nat}{c:List Value}{x:DataW H×List MemPlace}(h:DataW.trod enc Tryz.prog W b sp hd n 73 c=some x):∃ (p:PrbD) (A:Option Addr) (nn cc:Nat) (l:List Plc),c=prbC p A nn cc∧PrbOk p∧Plcs W ⟨A,nn,cc⟩ l:=by
 obtain⟨xs,m,_,_,hl,hlen,hf⟩:=DataW.trod_struct Tryz.underlying73 h
 rw[cT_prb] at hl
 have h0:DataW.trod enc Tryz.prog W b sp hd m 3 ((c.drop 0).take (Tryz.prog.cellsOf 3))=xs[0]? :=hf 0 _ rfl
 have h1:DataW.trod enc Tryz.prog W b sp hd m 3 ((c.drop 1).take (Tryz.prog.cellsOf 3))=xs[1]? :=hf 1 _ rfl
 have h2:DataW.trod enc Tryz.prog W b sp hd m 3 ((c.drop 2).take (Tryz.prog.cellsOf 3))=xs[2]? :=hf 2 _ rfl
 have h3:DataW.trod enc Tryz.prog W b sp hd m 3 ((c.drop 3).take (Tryz.prog.cellsOf 3))=xs[3]? :=hf 3 _ rfl
 have h4:DataW.trod enc Tryz.prog W b sp hd m 28 ((c.drop 4).take (Tryz.prog.cellsOf 28))=xs[4]? :=hf 4 _ rfl
 have h5:DataW.trod enc Tryz.prog W b sp hd m 46 ((c.drop 6).take (Tryz.prog.cellsOf 46))=xs[5]? :=hf 5 _ rfl
 have h6:DataW.trod enc Tryz.prog W b sp hd m 70 ((c.drop 17).take (Tryz.prog.cellsOf 70))=xs[6]? :=hf 6 _ rfl
 have h7:DataW.trod enc Tryz.prog W b sp hd m 4 ((c.drop 31).take (Tryz.prog.cellsOf 4))=xs[7]? :=hf 7 _ rfl
 have h8:DataW.trod enc Tryz.prog W b sp hd m 71 ((c.drop 32).take (Tryz.prog.cellsOf 71))=xs[8]? :=hf 8 _ rfl
 have hsz:xs.length=9:=hlen
 rw[List.getElem?_eq_getElem tB] at h0 h1 h2 h3 h4 h5 h6 h7 h8
 rw[cT_int] at h0 h1 h2 h3
 rw[cT_two] at h4
 rw[cT_rec] at h5
 rw[cT_msg] at h6
 rw[cT_bool] at h7
 rw[cT_plcs] at h8
 obtain⟨i0,e0,b0⟩:=int_cell2 h0
 obtain⟨i1,e1,b1⟩:=int_cell2 h1
 obtain⟨i2,e2⟩:=int_cell h2
 obtain⟨i3,e3⟩:=int_cell h3
 obtain⟨j0,j1,e4,b4,b5⟩:=two_cells h4
 obtain⟨r,e5,t5⟩:=rec_cells h5
 obtain⟨g,e6,t6⟩:=msg_cells h6
 obtain⟨q,e7,_⟩:=DataW.trod_bool Tryz.underlying4 h7
 obtain⟨A,nn,cc,l,e8,hp⟩:=open_plcs h8
 have st:∀ k n m,k+n=m→c.drop k=(c.drop k).take n++c.drop m:=fun k n m h=>by
  rw[←h,←List.drop_drop,List.take_append_drop]
 have hend:c.drop 33=[]:=List.drop_eq_nil_of_le tB
 refine⟨⟨i0,i1,i2,i3,j0,j1,r,g,q⟩,A,nn,cc,l,?_,⟨b0,b1,b4,b5,Nat.le_trans t5 maxLen_le,t6⟩,hp⟩
 have key:c.drop 0=prbC ⟨i0,i1,i2,i3,j0,j1,r,g,q⟩ A nn cc:=by
  rw[st 0 1 1 rfl,e0,st 1 1 2 rfl,e1,st 2 1 3 rfl,e2,st 3 1 4 rfl,e3,st 4 2 6 rfl,e4,st 6 11 17 rfl,e5,st 17 14 31 rfl,e6,st 31 1 32 rfl,e7,st 32 1 33 rfl,e8,hend]
  rfl
 rw[List.drop_zero] at key
 exact key
set_option maxRecDepth 100000 in
theorem open_prb{v:Value}{d:DataW H}{p:List MemPlace}{r0:Reach}{b0:Nat}(hv:Value.okWide Tryz.prog W r0 b0 73 v)(h:DataW.Trod enc Tryz.prog W b sp hd 73 v d p):
 ∃(p:PrbD) (A:Option Addr) (nn cc:Nat) (l:List Plc),v= .agg (prbC p A nn cc).toArray∧PrbOk p∧Plcs W ⟨A,nn,cc⟩ l:=by
 obtain⟨cs,rfl,_⟩:=okWide_struct Tryz.underlying73 hv
 obtain⟨fuel,hf⟩:=h
 obtain⟨p,A,nn,cc,l,e,h1,h2⟩:=prb_cells hf
 refine⟨p,A,nn,cc,l,?_,h1,h2⟩
 have:cs=(prbC p A nn cc).toArray:=by
  apply Array.ext'
  exact e
 rw[this]
end
end Go.Proofs.YtekjdeibnfaehaaGreat
set_option linter.unusedSimpArgs false
set_option linter.unusedVariables false
namespace Go.Proofs.YtekjdeibnfaehaaGreat
open Go Go.RowKit
theorem OffA.g{base:Nat}{w:World}{O:OffD}{L:OffL}(h:OffA base w O L):OffG w O L:=h.f.read
def Ans(w:World)(O:OffD)(nc:List Value):Prop:=∃ L,offQ O L=nc∧OffG w O L
theorem Ans.of_ext{w w':World}{O:OffD}{nc:List Value}(h:Ans w O nc)(hx:Ext w w'):Ans w' O nc:=by
 obtain⟨L,h1,h2⟩:=h
 exact⟨L,h1,h2.of_ext hx⟩
theorem same_q(O:OffD)(a b:List Value)(w:World)(h:Ans w O a)(h':Ans w O b)(hbig:O.m.recs.length≤9223372036854775807):
 Calls Tryz.prog 36 #[.agg a.toArray,.agg b.toArray] w fun e w'=>e= .returned (.bool true)∧Ext w w':=by
 obtain⟨L,rfl,h1⟩:=h
 obtain⟨L',rfl,h2⟩:=h'
 exact sameO_any O L L' w h1 h2 hbig
theorem recC_whole(r:Rec):Whole (recC r).toArray 11:=one11 _ _ _ _ _ _ _ _ _ _ _
theorem prb_facts{P:World}{b:Nat}{p:PrbD}{A:Option Addr}{n c:Nat}{t:TypeId}{xc mc:List Value}(h:BoxC P b (prbC p A n c) t)(hx:recC p.x=xc)(hm:msgC p.m=mc):
 (P.cell? ⟨b,0,none⟩=some (.int .i64 p.a)∧P.cell? ⟨b,1,none⟩=some (.int .i64 p.b)∧P.cell? ⟨b,2,none⟩=some (.int .i64 p.ship)∧P.cell? ⟨b,3,none⟩=some (.int .i64 p.til)∧P.cell? ⟨b,4,none⟩=some (.int .i64 p.k0)∧P.cell? ⟨b,5,none⟩=some (.int .i64 p.k1))∧
 P.cell? ⟨b,10,none⟩=some (.int .i64 p.x.day)∧P.cell? ⟨b,31,none⟩=some (.bool p.cut)∧P.cell? ⟨b,32,none⟩=some (.slice A n c)∧rowLen P b=33∧rowAt P b 6 11=xc.toArray∧rowAt P b 17 14=mc.toArray:=by
 subst hx hm
 exact⟨⟨h.cell (i:=0) rfl,h.cell (i:=1) rfl,h.cell (i:=2) rfl,h.cell (i:=3) rfl,h.cell (i:=4) rfl,h.cell (i:=5) rfl⟩,h.cell (i:=10) rfl,h.cell (i:=31) rfl,h.cell (i:=32) rfl,h.len,h.rows 6 11 (show 6+11≤33 by decide),h.rows 17 14 (show 17+14≤33 by decide)⟩
theorem newP_q(me:Int)(w:World):
 Calls Tryz.prog 34 #[.int .i64 me] w fun e w'=> ∃(nc:List Value) (j:Int),e= .returned (.tuple #[.agg nc.toArray,.int .i64 j])∧Whole nc.toArray 17∧nc.length=17∧Hid (Ans w' (newO me) nc∧((newO me)).m.recs.length≤9223372036854775807∧newOE me=j)∧Ext w w':=by
 refine(NewOffice_any me w).mono ?_
 rintro e w' ⟨L',rfl,hA,hx⟩
 exact⟨_,_,rfl,offQ_whole _ _,rfl,hid ⟨⟨L',rfl,hA.g⟩,by rw[hA.l];exact Nat.le_trans hA.h.1 hA.h.2,rfl⟩,hx⟩
theorem noteP_q(O:OffD)(L:OffL)(oc:List Value)(ho:offQ O L=oc)(w:World)(x:Rec)(xc:List Value)(hx:recC x=xc)(h:OffY w O L)(htx:x.text.size≤9223372036854775807):
 Calls Tryz.prog 40 #[.agg oc.toArray,.agg xc.toArray] w fun e w'=> ∃(nc:List Value) (rc:List Value) (j:Int),e= .returned (.tuple #[.agg nc.toArray,.agg rc.toArray,.int .i64 j])∧Whole nc.toArray 17∧nc.length=17∧Whole rc.toArray 11∧rc.length=11∧Hid (Ans w' (noteO O x) nc∧((noteO O x)).m.recs.length≤9223372036854775807∧recC (noteR O x)=rc∧noteE O x=j)∧Ext w w':=by
 subst ho hx
 refine(Note_any O L w x h htx).mono ?_
 rintro e w' ⟨L',rfl,hA,hx⟩
 exact⟨_,_,_,rfl,offQ_whole _ _,rfl,recC_whole _,rfl,hid ⟨⟨L',rfl,hA.g⟩,by rw[hA.l];exact Nat.le_trans hA.h.1 hA.h.2,rfl,rfl⟩,hx⟩
theorem grantP_q(O:OffD)(L:OffL)(oc:List Value)(ho:offQ O L=oc)(w:World)(s t d u:Int)(h:OffY w O L):
 Calls Tryz.prog 42 #[.agg oc.toArray,.int .i64 s,.int .i64 t,.int .i64 d,.int .i64 u] w fun e w'=> ∃(nc:List Value) (rc:List Value) (j:Int),e= .returned (.tuple #[.agg nc.toArray,.agg rc.toArray,.int .i64 j])∧Whole nc.toArray 17∧nc.length=17∧Whole rc.toArray 11∧rc.length=11∧Hid (Ans w' (grantO O s t d u) nc∧((grantO O s t d u)).m.recs.length≤9223372036854775807∧recC (grantR O s t d u)=rc∧grantE O s t d u=j)∧Ext w w':=by
 subst ho
 refine(Grant_any O L w s t d u h).mono ?_
 rintro e w' ⟨L',rfl,hA,hx⟩
 exact⟨_,_,_,rfl,offQ_whole _ _,rfl,recC_whole _,rfl,hid ⟨⟨L',rfl,hA.g⟩,by rw[hA.l];exact Nat.le_trans hA.h.1 hA.h.2,rfl,rfl⟩,hx⟩
theorem offerP_q(O:OffD)(L:OffL)(oc:List Value)(ho:offQ O L=oc)(w:World)(t:Int)(h:OffY w O L):
 Calls Tryz.prog 44 #[.agg oc.toArray,.int .i64 t] w fun e w'=> ∃(nc:List Value) (A:Option Addr) (n c:Nat) (j:Int),e= .returned (.tuple #[.agg nc.toArray,.slice A n c,.int .i64 j])∧Whole nc.toArray 17∧nc.length=17∧Hid (Ans w' (offerO O t) nc∧((offerO O t)).m.recs.length≤9223372036854775807∧MsgsY w' A n c (offerL O t)∧offerE O t=j)∧Ext w w':=by
 subst ho
 refine(Offer_any O L w t h).mono ?_
 rintro e w' ⟨L',A,n,c,rfl,hA,hM,hx⟩
 exact⟨_,_,_,_,_,rfl,offQ_whole _ _,rfl,hid ⟨⟨L',rfl,hA.g⟩,by rw[hA.l];exact Nat.le_trans hA.h.1 hA.h.2,hM.read,rfl⟩,hx⟩
theorem recvP_q(O:OffD)(L:OffL)(oc:List Value)(ho:offQ O L=oc)(w:World)(x:MsgD)(xc:List Value)(hx:msgC x=xc)(h:OffY w O L)(htx:x.r.text.size≤9223372036854775807):
 Calls Tryz.prog 46 #[.agg oc.toArray,.agg xc.toArray] w fun e w'=> ∃(nc:List Value) (A:Option Addr) (n c:Nat) (j:Int),e= .returned (.tuple #[.agg nc.toArray,.slice A n c,.int .i64 j])∧Whole nc.toArray 17∧nc.length=17∧Hid (Ans w' (recvO O x) nc∧((recvO O x)).m.recs.length≤9223372036854775807∧MsgsY w' A n c (recvL O x)∧recvE O x=j)∧Ext w w':=by
 subst ho hx
 refine(Receive_any O L w x h htx).mono ?_
 rintro e w' ⟨L',A,n,c,rfl,hA,hM,hx⟩
 exact⟨_,_,_,_,_,rfl,offQ_whole _ _,rfl,hid ⟨⟨L',rfl,hA.g⟩,by rw[hA.l];exact Nat.le_trans hA.h.1 hA.h.2,hM.read,rfl⟩,hx⟩
theorem restP_q(O:OffD)(L:OffL)(oc:List Value)(ho:offQ O L=oc)(w:World)(k0 k1:Int)(h:OffY w O L)(hk0: -9223372036854775808≤k0)(hk0':k0≤9223372036854775807)(hk1: -9223372036854775808≤k1)(hk1':k1≤9223372036854775807):
 Calls Tryz.prog 48 #[.agg oc.toArray,.agg #[.int .i64 k0,.int .i64 k1]] w fun e w'=> ∃(nc:List Value) (j:Int),e= .returned (.tuple #[.agg nc.toArray,.int .i64 j])∧Whole nc.toArray 17∧nc.length=17∧Hid (Ans w' (restO O k0 k1) nc∧((restO O k0 k1)).m.recs.length≤9223372036854775807∧restE O k0 k1=j)∧Ext w w':=by
 subst ho
 refine(Restart_any O L w k0 k1 h hk0 hk0' hk1 hk1').mono ?_
 rintro e w' ⟨L',rfl,hA,hx⟩
 exact⟨_,_,rfl,offQ_whole _ _,rfl,hid ⟨⟨L',rfl,hA.g⟩,by rw[hA.l];exact Nat.le_trans hA.h.1 hA.h.2,rfl⟩,hx⟩
theorem newR_q(me:Int)(w:World):
 Calls Tryz.prog 35 #[.int .i64 me] w fun e w'=> ∃(nc:List Value) (j:Int),e= .returned (.tuple #[.agg nc.toArray,.int .i64 j])∧Whole nc.toArray 17∧nc.length=17∧Hid (Ans w' (newO me) nc∧((newO me)).m.recs.length≤9223372036854775807∧newOE me=j)∧Ext w w':=by
 refine(rNewOffice_any me w).mono ?_
 rintro e w' ⟨L',rfl,hA,hx⟩
 exact⟨_,_,rfl,offQ_whole _ _,rfl,hid ⟨⟨L',rfl,hA.g⟩,by rw[hA.l];exact Nat.le_trans hA.h.1 hA.h.2,rfl⟩,hx⟩
theorem noteR_q(O:OffD)(L:OffL)(oc:List Value)(ho:offQ O L=oc)(w:World)(x:Rec)(xc:List Value)(hx:recC x=xc)(h:OffY w O L)(htx:x.text.size≤9223372036854775807):
 Calls Tryz.prog 41 #[.agg oc.toArray,.agg xc.toArray] w fun e w'=> ∃(nc:List Value) (rc:List Value) (j:Int),e= .returned (.tuple #[.agg nc.toArray,.agg rc.toArray,.int .i64 j])∧Whole nc.toArray 17∧nc.length=17∧Whole rc.toArray 11∧rc.length=11∧Hid (Ans w' (noteO O x) nc∧recC (noteR O x)=rc∧noteE O x=j)∧Ext w w':=by
 subst ho hx
 refine(rNote_any O L w x h htx).mono ?_
 rintro e w' ⟨L',rfl,hA,hx⟩
 exact⟨_,_,_,rfl,offQ_whole _ _,rfl,recC_whole _,rfl,hid ⟨⟨L',rfl,hA.read⟩,rfl,rfl⟩,hx⟩
theorem grantR_q(O:OffD)(L:OffL)(oc:List Value)(ho:offQ O L=oc)(w:World)(s t d u:Int)(h:OffY w O L):
 Calls Tryz.prog 43 #[.agg oc.toArray,.int .i64 s,.int .i64 t,.agg #[.int .i64 d,.int .i64 u]] w fun e w'=> ∃(nc:List Value) (rc:List Value) (j:Int),e= .returned (.tuple #[.agg nc.toArray,.agg rc.toArray,.int .i64 j])∧Whole nc.toArray 17∧nc.length=17∧Whole rc.toArray 11∧rc.length=11∧Hid (Ans w' (grantO O s t d u) nc∧recC (grantR O s t d u)=rc∧grantE O s t d u=j)∧Ext w w':=by
 subst ho
 refine(rGrant_any O L w s t d u h).mono ?_
 rintro e w' ⟨L',rfl,hA,hx⟩
 exact⟨_,_,_,rfl,offQ_whole _ _,rfl,recC_whole _,rfl,hid ⟨⟨L',rfl,hA.read⟩,rfl,rfl⟩,hx⟩
theorem offerR_q(O:OffD)(L:OffL)(oc:List Value)(ho:offQ O L=oc)(w:World)(t:Int)(h:OffY w O L):
 Calls Tryz.prog 45 #[.agg oc.toArray,.int .i64 t] w fun e w'=> ∃(nc:List Value) (A:Option Addr) (n c:Nat) (j:Int),e= .returned (.tuple #[.agg nc.toArray,.slice A n c,.int .i64 j])∧Whole nc.toArray 17∧nc.length=17∧Hid (Ans w' (offerO O t) nc∧MsgsY w' A n c (offerL O t)∧offerE O t=j)∧Ext w w':=by
 subst ho
 refine(rOffer_any O L w t h).mono ?_
 rintro e w' ⟨L',A,n,c,rfl,hA,hM,hx⟩
 exact⟨_,_,_,_,_,rfl,offQ_whole _ _,rfl,hid ⟨⟨L',rfl,hA.read⟩,hM.read,rfl⟩,hx⟩
theorem recvR_q(O:OffD)(L:OffL)(oc:List Value)(ho:offQ O L=oc)(w:World)(x:MsgD)(xc:List Value)(hx:msgC x=xc)(h:OffY w O L)(htx:x.r.text.size≤9223372036854775807):
 Calls Tryz.prog 47 #[.agg oc.toArray,.agg xc.toArray] w fun e w'=> ∃(nc:List Value) (A:Option Addr) (n c:Nat) (j:Int),e= .returned (.tuple #[.agg nc.toArray,.slice A n c,.int .i64 j])∧Whole nc.toArray 17∧nc.length=17∧Hid (Ans w' (recvO O x) nc∧MsgsY w' A n c (recvL O x)∧recvE O x=j)∧Ext w w':=by
 subst ho hx
 refine(rReceive_any O L w x h htx).mono ?_
 rintro e w' ⟨L',A,n,c,rfl,hA,hM,hx⟩
 exact⟨_,_,_,_,_,rfl,offQ_whole _ _,rfl,hid ⟨⟨L',rfl,hA.read⟩,hM.read,rfl⟩,hx⟩
theorem restR_q(O:OffD)(L:OffL)(oc:List Value)(ho:offQ O L=oc)(w:World)(k0 k1:Int)(h:OffY w O L):
 Calls Tryz.prog 49 #[.agg oc.toArray,.agg #[.int .i64 k0,.int .i64 k1]] w fun e w'=> ∃(nc:List Value) (j:Int),e= .returned (.tuple #[.agg nc.toArray,.int .i64 j])∧Whole nc.toArray 17∧nc.length=17∧Hid (Ans w' (restO O k0 k1) nc∧restE O k0 k1=j)∧Ext w w':=by
 subst ho
 refine(rRestart_any O L w k0 k1 h).mono ?_
 rintro e w' ⟨L',rfl,hA,hx⟩
 exact⟨_,_,rfl,offQ_whole _ _,rfl,hid ⟨⟨L',rfl,hA.read⟩,rfl⟩,hx⟩
section
open Op
theorem run_eql_rc(r:Rec)(rc:List Value)(h:recC r=rc):∀ w:World,(binOp .eql 46 (.agg rc.toArray) (.agg rc.toArray)).run Tryz.prog w= .ok (.bool true) w:=fun w=>by
 subst h
 rw[show((Value.agg (recC r).toArray):Value)=recV r from rfl,run_eql_rec,recEqB_iff.2 rfl]
end
end Go.Proofs.YtekjdeibnfaehaaGreat
