/- Texts of a proof. -/
import Derived.Test.YtekjdeibnfaehaaGreatProg
import Derived.KernelRfl
import Derived.WalkKit
import Derived.WalkSpells
import Derived.WalkLawsBesides
import Derived.Deep.Draws
import Derived.OrdersHeld
import Derived.Tactics
set_option linter.unusedSimpArgs false
set_option linter.unusedVariables false
namespace Go.Proofs.YtekjdeibnfaehaaGreat
open Go.RowKit
theorem tA{p:Prop}(h:p:=by simp;omega):p:=h
theorem tB{p:Prop}(h:p:=by omega):p:=h
theorem tC{p:Prop}(h:p:=by rw[h0];exact List.not_mem_nil):p:=h
theorem tD{p:Prop}(h:p:=by exact absurd (ready_mono hj hji) (by rw[h.1];exact List.not_mem_nil)):p:=h
theorem tE{p:Prop}(h:p:=by simp):p:=h
theorem tF{p:Prop}(h:p:=by assumption):p:=h
theorem tG{p:Prop}(h:p:=by kernel_rfl):p:=h
theorem tH{p:Prop}(h:p:=by(first|exact fun b o hb=>Ext.cellOf Tv hb|(intro b o hb;(try simp only[zs] at hb);go_simp;try rfl))):p:=h
theorem tI{p:Prop}(h:p:=by go_simp):p:=h
theorem tJ{p:Prop}(h:p:=by simpa using hlt):p:=h
theorem tK{p:Prop}(h:p:=by rw[hb];simp only[chrOk];simp;omega):p:=h
theorem tL{p:Prop}(h:p:=by simp[Builtin.append_,run_underlying ht,sizeOf,typeInfo,hi,Builtin.lenOf,Builtin.firstCells]):p:=h
theorem tM{p:Prop}(h:p:=by simp[Builtin.append_,run_underlying ht,sizeOf,typeInfo,hi,Builtin.lenOf,Builtin.firstCells,hnc,storeCells]):p:=h
theorem tN{p:Prop}(h:p:=by decide):p:=h
theorem tO{p:Prop}(h:p:=by unfold maxLen;omega):p:=h
theorem tP{p:Prop}(h:p:=by have:=Hlen.out;omega):p:=h
theorem tQ{p:Prop}(h:p:=by simp[hx]):p:=h
theorem tR{p:Prop}(h:p:=by repeat(with_reducible first|exact Ext.refl _|exact Ext.same _ _ _ _|assumption|apply Ext.alloc|apply Ext.ext|apply Ext.drew)):p:=h
theorem tS{p:Prop}(h:p:=by repeat(first|exact Ext.refl _|assumption|apply Ext.ext|(refine Ext.trans ?_ tF))):p:=h
theorem tT{p:Prop}(h:p:=by simp[go_sem]):p:=h
theorem tU{p:Prop}(h:p:=by rw[List.length_drop];omega):p:=h
theorem tV{p:Prop}(h:p:=by with_reducible repeat(first|assumption|apply Byt.ext|apply Byt.alloc|apply Byt.drew|(refine Byt.of_ext ?_ tF))):p:=h
theorem tW{p:Prop}(h:p:=by repeat(first|(with_reducible first|exact Ext.refl _|exact Ext.same _ _ _ _|assumption|apply Ext.alloc|apply Ext.ext|apply Ext.drew)|(with_reducible refine Ext.setCell ?_ _ _ ?_;rotate_left;focus(first|omega|(simp only[zs];omega)))|(with_reducible refine Ext.trans ?_ tF))):p:=h
theorem tX{p:Prop}(h:p:=by rw[HE.out];rfl):p:=h
theorem tY{p:Prop}(h:p:=by rw[Hpos.out,Hhas.out];rfl):p:=h
theorem tZ{p:Prop}(h:p:=by first|rfl|assumption):p:=h
theorem t7{p:Prop}(h:p:=by rw[Hf.out];rfl):p:=h
theorem t8{p:Prop}(h:p:=by rw[hN];exact hx.below.size):p:=h
theorem ta{p:Prop}(h:p:=by simp[World.size_alloc]):p:=h
theorem tc{p:Prop}(h:p:=by exact exI):p:=h
theorem td{p:Prop}(h:p:=by exact Hown.out.of_ext exI):p:=h
theorem te{p:Prop}(h:p:=by have:=Hol.out;simp;omega):p:=h
theorem tf{p:Prop}(h:p:=by have:=Hol.out;simp only[List.length_append,List.length_cons,List.length_nil];omega):p:=h
theorem tg{p:Prop}(h:p:=by rw[List.length_take];omega):p:=h
theorem th{p:Prop}(h:p:=by simp only[Nat.min_def];split <;> omega):p:=h
theorem ti{p:Prop}(h:p:=by simpa using hv):p:=h
theorem tj{p:Prop}(h:p:=by simp[World.frozen?,hv.at_]):p:=h
theorem tk{p:Prop}(h:p:=by exact(List.size_toArray).trans (hr1.trans ((Array.length_toList).trans hcs))):p:=h
theorem tm{p:Prop}(h:p:=by rw[hrt];exact Nat.le_refl _):p:=h
theorem tn{p:Prop}(h:p:=by rw[show ROW.toList.length=ROW.size from Array.length_toList,hRl];exact Nat.mul_le_mul_right _ hGn):p:=h
theorem tp{p:Prop}(h:p:=by exact(List.size_toArray).trans (hr1.trans ((Array.length_toList).trans hRl))):p:=h
theorem tq{p:Prop}(h:p:=by simp[results,Tryz.results130,go_sem]):p:=h
theorem tr{p:Prop}(h:p:=by rw[HL.out];rfl):p:=h
theorem tt{p:Prop}(h:p:=by first|exact Laid.new _ _ r ta|exact Laid.ext (Laid.new _ _ r ta) _ _):p:=h
theorem tu{p:Prop}(h:p:=by simp[results,Tryz.results76,go_sem]):p:=h
theorem tv{p:Prop}(h:p:=by go_simp;try assumption):p:=h
theorem tw{p:Prop}(h:p:=by(try simp only[World.size_alloc,size_ext,World.size_drew,World.size_setCell]);omega):p:=h
theorem tz{p:Prop}(h:p:=by rw[HR.out];rfl):p:=h
theorem TA{p:Prop}(h:p:=by simp[World.size_alloc];omega):p:=h
theorem TB{p:Prop}(h:p:=by have h9:=hb1.alloc (.cells #[.int .u8 ((23+(r.text.size:Int)) % 256)] 5);unfold Byt at h9;rw[hrb] at h9;exact h9):p:=h
theorem TC{p:Prop}(h:p:=by simp[World.size_alloc];try omega):p:=h
theorem TD{p:Prop}(h:p:=by(first|(intro b o hb hx;(try rw[show ∀(X:World) (a:Addr),X.drew.cell? a=X.cell? a from fun _ _=>rfl]);(repeat(refine(World.cell?_setCell_other _ _ _ _ ?_).trans ?_;(focus exact fun e=>hx (congrArg Addr.block e).symm)));rfl)|exact fun b o hb _=>Ext.cellOf exI hb|(intro b o hb hx;(try simp only[size_ext,World.size_alloc,World.size_drew,World.size_setCell] at hb hx);go_simp;try rfl))):p:=h
theorem TE{p:Prop}(h:p:=by show k≠w.heap.size;omega):p:=h
theorem TF{p:Prop}(h:p:=by rw[frameB_length]):p:=h
theorem TG{p:Prop}(h:p:=by exact(bytI ‹_›)):p:=h
theorem TH{p:Prop}(h:p:=by rw[HN.out];rfl):p:=h
theorem TI{p:Prop}(h:p:=by rw[HM.out];rfl):p:=h
theorem TJ{p:Prop}(h:p:=by rw[HMF3.out,Hgen.out,show decide (G=M.gen)=true from by simpa using hgq];rfl):p:=h
theorem TK{p:Prop}(h:p:=by rw[HMF5.out,←Hrec.out,hro];rfl):p:=h
theorem TL{p:Prop}(h:p:=by rw[HMF3.out,Hgen.out,show decide (G=M.gen)=false from by simpa using hgq];rfl):p:=h
theorem TM{p:Prop}(h:p:=by simp[results,Tryz.results15,go_sem]):p:=h
theorem TN{p:Prop}(h:p:=by rw[←Hrec.out];exact hro):p:=h
theorem TO{p:Prop}(h:p:=by exact SameL.out QG):p:=h
theorem TP{p:Prop}(h:p:=by exact⟨by rw[(ordL_perm _).length_eq];exact hng.out,OwnR.moved2 Hog.out tR tE tE tA⟩):p:=h
theorem TQ{p:Prop}(h:p:=by exact .inr (OwnB.moved2 Hox.out tR tE tE tA)):p:=h
theorem TR{p:Prop}(h:p:=by exact .inr (OwnB.moved2 Hoy.out tR tE tE tA)):p:=h
theorem TS{p:Prop}(h:p:=by exact OwnR.moved2 Hv.out tR tE tE tA):p:=h
theorem TT{p:Prop}(h:p:=by rw[frameB_length];omega):p:=h
theorem TU{p:Prop}(h:p:=by exact tR):p:=h
theorem TV{p:Prop}(h:p:=by exact OwnB.moved2 Hox.out tR tE tE tE):p:=h
theorem TW{p:Prop}(h:p:=by exact tV):p:=h
theorem TX{p:Prop}(h:p:=by exact .inr (OwnB.moved2 How.out tR tE tE tA)):p:=h
theorem TY{p:Prop}(h:p:=by exact OwnB.moved2 Hoy.out tR tE tE tE):p:=h
theorem TZ{p:Prop}(h:p:=by simp[results,Tryz.results19,go_sem]):p:=h
theorem T3{p:Prop}(h:p:=by exact RowB.moved2 Hy0.out tR tE tE tA):p:=h
theorem T4{p:Prop}(h:p:=by exact RowB.moved2 Hy1.out tR tE tE tA):p:=h
theorem T5{p:Prop}(h:p:=by exact OwnR.moved2 Hog.out tR tE tE tA):p:=h
theorem T6{p:Prop}(h:p:=by with_reducible repeat(first|assumption|apply Recs.ext|apply Recs.alloc|apply Recs.drew|(refine Recs.of_ext ?_ tF))):p:=h
theorem T7{p:Prop}(h:p:=by exact OwnB.moved2 hos1 tR ta ta TC):p:=h
theorem T8{p:Prop}(h:p:=by exact OwnB.moved2 hot1 tR ta ta TC):p:=h
theorem T9{p:Prop}(h:p:=by simp[results,Tryz.results67,go_sem]):p:=h
theorem Ta{p:Prop}(h:p:=by rw[HP2.out,HR.out,←Hnv.out];exact decide_eq_true hC):p:=h
theorem Tb{p:Prop}(h:p:=by rw[HP2.out,HR.out,←Hnv.out];exact decide_eq_false hC):p:=h
theorem Tc{p:Prop}(h:p:=by with_reducible repeat(first|assumption|exact hsvd _|apply Recs.ext|apply Recs.alloc|apply Recs.drew|(refine Recs.of_ext ?_ tF))):p:=h
theorem Td{p:Prop}(h:p:=by simp[results,Tryz.results16,go_sem]):p:=h
theorem Te{p:Prop}(h:p:=by rw[hbest,←e2,hL];exact h):p:=h
theorem Tf{p:Prop}(h:p:=by exact OwnB.moved2 Hbf.out tR ta ta TC):p:=h
theorem Tg{p:Prop}(h:p:=by have q:=x1.below.size;have:=HB.out;simp only[World.size_alloc] at q;omega):p:=h
theorem Th{p:Prop}(h:p:=by simp only[World.size_alloc];have:=HB.out;omega):p:=h
theorem Ti{p:Prop}(h:p:=by simp only[World.size_alloc];have:=HB9.out;omega):p:=h
theorem Tj{p:Prop}(h:p:=by(first|(intro b o hb hx hy;go_simp;done)|(intro b o hb hx hy;(try(refine(World.cell?_alloc_lt _ _ _ ?_).trans ?_;focus(simp only[zs];omega)));(repeat(refine(World.cell?_setCell_other _ _ _ _ ?_).trans ?_;focus(intro e;first|exact hx (congrArg Addr.block e).symm|exact hy (congrArg Addr.block e).symm)));go_simp;done))):p:=h
theorem Tk{p:Prop}(h:p:=by simp[results,Tryz.results20,go_sem,m6,m7,q60,q61,q62,q63,q70,q71,q72,cell?_dx,lt_add_any]):p:=h
theorem Tl{p:Prop}(h:p:=by exact⟨hl0,hl1,Hos.out.le,Hot.out.le,Hos.out.cap,Hot.out.cap,BytA.mono (base:=B+5) QH tB,BytA.mono (base:=B+5) QH tB⟩):p:=h
theorem Tm{p:Prop}(h:p:=by exact RecsA.moved2 hrs (Ext.refl _) tE (Nat.le_refl _) qU):p:=h
theorem Tn{p:Prop}(h:p:=by(first|(intro b o hb;have hb2:b<(P4).heap.size:=tB;go_simp;done)|(intro b o hb;have hb2:b<(P4).heap.size:=tB;(try(refine(World.cell?_alloc_lt _ _ _ ?_).trans ?_;focus(simp only[zs];omega)));(repeat(refine(World.cell?_setCell_other _ _ _ _ ?_).trans ?_;focus(intro e;have:=congrArg Addr.block e;simp only at this;omega)));first|(go_simp;done)|rfl))):p:=h
theorem To{p:Prop}(h:p:=by simp only[size_ext,zs1,zs2];omega):p:=h
theorem Tp{p:Prop}(h:p:=by exact OwnB.of_ext HO.out exI):p:=h
theorem Tq{p:Prop}(h:p:=by have hb2:b<P4.heap.size:=tB;go_simp):p:=h
theorem Tr{p:Prop}(h:p:=by simp only[zs1];have:=HB9.out;omega):p:=h
theorem Ts{p:Prop}(h:p:=by rw[←hP6];exact(BytA.setBox HOV.out.anc (by rw[List.length_append,frameB_length];omega) B11n.out tE).alloc _):p:=h
theorem Tt{p:Prop}(h:p:=by exact BytA.mono (base:=B9+1) QH tB):p:=h
theorem Tu{p:Prop}(h:p:=by exact RecsA.mono (base:=B+5) QI tB):p:=h
theorem Tv{p:Prop}(h:p:=by repeat(first|(with_reducible first|exact Ext.refl _|exact Ext.same _ _ _ _|assumption|apply Ext.alloc|apply Ext.ext|apply Ext.drew)|(with_reducible refine Ext.setCell ?_ _ _ ?_;rotate_left;focus(first|omega|(simp only[zs];omega))))):p:=h
theorem Tw{p:Prop}(h:p:=by have:=HB.out;simp only[World.size_alloc];omega):p:=h
theorem Tx{p:Prop}(h:p:=by rw[←hQ1];exact Ext.box (Ext.box (Ext.box (Ext.box E1.out _ _ qA) _ _ qA) _ _ qA) _ _ qA):p:=h
theorem Ty{p:Prop}(h:p:=by rw[←hQ1];exact(((ho0.out.set tB).set tB).set tB).set tB):p:=h
theorem Tz{p:Prop}(h:p:=by rw[←hQ1];exact(((ho1.out.set tB).set tB).set tB).set tB):p:=h
theorem qA{p:Prop}(h:p:=by rw[HB.out];omega):p:=h
theorem qB{p:Prop}(h:p:=by simp only[zs]):p:=h
theorem qC{p:Prop}(h:p:=by(try simp only[zs]);(try rfl);(try omega)):p:=h
theorem qD{p:Prop}(h:p:=by have:=Hk.out.sm;omega):p:=h
theorem qE{p:Prop}(h:p:=by(first|(intro b o hb hx;go_simp;done)|(intro b o hb hx;(try(refine(World.cell?_alloc_lt _ _ _ ?_).trans ?_;focus(simp only[zs];omega)));(repeat(refine(World.cell?_setCell_other _ _ _ _ ?_).trans ?_;focus exact fun e=>hx (congrArg Addr.block e).symm));go_simp;done)|(intro b o hb hx;(try rw[show ∀(X:World) (a:Addr),X.drew.cell? a=X.cell? a from fun _ _=>rfl]);(repeat(refine(World.cell?_setCell_other _ _ _ _ ?_).trans ?_;(focus exact fun e=>hx (congrArg Addr.block e).symm)));rfl)|exact fun b o hb _=>Ext.cellOf exI hb|(intro b o hb hx;(try simp only[size_ext,World.size_alloc,World.size_drew,World.size_setCell] at hb hx);go_simp;try rfl))):p:=h
theorem qF{p:Prop}(h:p:=by rw[l4];decide):p:=h
theorem qG{p:Prop}(h:p:=by rw[ho];simp):p:=h
theorem qH{p:Prop}(h:p:=by simp[HB.out]):p:=h
theorem qI{p:Prop}(h:p:=by rw[rowLen_setCells,l5];decide):p:=h
theorem qJ{p:Prop}(h:p:=by simp only[rowLen_setCells];rw[rowLen_alloc_old t4];exact l4):p:=h
theorem qK{p:Prop}(h:p:=by rw[rowLen_setCells,rowLen_alloc_old t4,l4];decide):p:=h
theorem qL{p:Prop}(h:p:=by have:=HO.out;rw[hj,if_neg tN] at this;exact this):p:=h
theorem qM{p:Prop}(h:p:=by have:=HL.out;rw[hj,if_neg tE] at this;exact this):p:=h
theorem qN{p:Prop}(h:p:=by rw[←HE.out];exact recvE_not ho (fun hx=>by simp only[bne_iff_ne,ne_eq] at hto;exact hto hx.1)):p:=h
theorem qO{p:Prop}(h:p:=by have e:=HE.out;rw[recvE_at ho ⟨by simpa using hto,hfr,by simpa using hne⟩] at e;exact e):p:=h
theorem qP{p:Prop}(h:p:=by have:=b4.out.lt;omega):p:=h
theorem qQ{p:Prop}(h:p:=by rw[hack];simp):p:=h
theorem qR{p:Prop}(h:p:=by simp only[size_cells,World.size_drew];exact t4):p:=h
theorem qS{p:Prop}(h:p:=by simp only[rowLen_drew,l4];decide):p:=h
theorem qT{p:Prop}(h:p:=by have:=HL.out;rw[hj,if_neg tN] at this;exact this):p:=h
theorem qU{p:Prop}(h:p:=by simp only[zs];omega):p:=h
theorem qV{p:Prop}(h:p:=by rw[Hrk.out,offK_snoc,Int.toNat_natCast,hkk];simp):p:=h
theorem qW{p:Prop}(h:p:=by simp only[rowLen_setCells,rowLen_setCell];rw[rowLen_alloc_old tA,rowLen_alloc_old tB];exact l4):p:=h
theorem qX{p:Prop}(h:p:=by rw[rowLen_alloc_old tA,rowLen_alloc_old tB,l4];decide):p:=h
theorem qY{p:Prop}(h:p:=by simp only[rowLen_setCells,rowLen_drew_ext,rowLen_drew,rowLen_ext,t4,l4]):p:=h
theorem qZ{p:Prop}(h:p:=by simp only[rowLen_setCells,rowLen_drew_ext,rowLen_drew,rowLen_ext,t4,l4];decide):p:=h
theorem q7{p:Prop}(h:p:=by simp only[rowLen_setCells,rowLen_drew_ext,rowLen_drew,rowLen_ext,t5,l5]):p:=h
theorem q8{p:Prop}(h:p:=by simp only[rowLen_setCells,rowLen_drew_ext,rowLen_drew,rowLen_ext,t5,l5];decide):p:=h
theorem qa{p:Prop}(h:p:=by simp only[rowLen_setCells,rowLen_drew];exact l4):p:=h
theorem qb{p:Prop}(h:p:=by simp only[rowLen_setCells,rowLen_drew];exact l5):p:=h
theorem qc{p:Prop}(h:p:=by simp only[rowLen_setCells,rowLen_drew,l5];decide):p:=h
theorem qd{p:Prop}(h:p:=by exact⟨by decide,by decide⟩):p:=h
theorem qe{p:Prop}(h:p:=by have:=hm.a0;have:=hm.a1;omega):p:=h
theorem qf{p:Prop}(h:p:=by exact⟨G,(h.way (fun _ hx=>hx) _).le tB,Grows.refl G,h1,h2⟩):p:=h
theorem qg{p:Prop}(h:p:=by simp[results,Tryz.results100,go_sem,noText]):p:=h
theorem qh{p:Prop}(h:p:=by rw[←hP0];exact exI):p:=h
theorem qi{p:Prop}(h:p:=by have:=BoxC.cells (P:=P0.alloc _) (t:=76) (cs:=[.int .i64 0,.slice none 0 0,.int .i64 0,.slice none 0 0,.int .i64 0,.slice none 0 0,.int .i64 0,.int .i64 0,.slice none 0 0,.slice none 0 0,.slice none 0 0,.slice none 0 0,.slice none 0 0,.slice none 0 0,.slice none 0 0,.slice none 0 0,.slice none 0 0]) oc 0 (BoxC.new_at _ _ zP.symm) QJ;rw[lo] at this;simpa using this):p:=h
theorem qj{p:Prop}(h:p:=by rw[←hQ];exact Ext.box (Ext.cells _ _ (Ext.alloc xP.out _) QD) _ _ QD):p:=h
theorem qk{p:Prop}(h:p:=by rw[←Hoc.out];rfl):p:=h
theorem ql{p:Prop}(h:p:=by rw[←Hzc.out];rfl):p:=h
theorem qm{p:Prop}(h:p:=by repeat(first|with_reducible exact Kept.refl _ _ _|with_reducible assumption|with_reducible apply Kept.drew|with_reducible apply Kept.alloc|with_reducible apply Kept.ext|(with_reducible refine Kept.cells ?_ ?_;rotate_left;focus(first|exact .inl rfl|exact .inr (.inl rfl)|(refine .inr (.inr ?_);simp only[zs];omega)|omega))|(with_reducible refine Kept.set ?_ ?_;rotate_left;focus(first|exact .inl rfl|exact .inr (.inl rfl)|(refine .inr (.inr ?_);simp only[zs];omega)|omega)))):p:=h
theorem qn{p:Prop}(h:p:=by repeat(first|with_reducible exact lq2|with_reducible refine rowLen_setCells.trans ?_|with_reducible refine rowLen_setCell.trans ?_|with_reducible refine rowLen_drew.trans ?_|with_reducible refine(rowLen_ext qs).trans ?_|with_reducible refine(rowLen_alloc_old qs).trans ?_)):p:=h
theorem qo{p:Prop}(h:p:=by repeat(first|with_reducible exact XQ.out|with_reducible refine Ext.cells _ _ ?_ QK|with_reducible refine Ext.box ?_ _ _ QK|with_reducible refine Ext.alloc ?_ _|with_reducible refine Ext.drew ?_|with_reducible refine Ext.ext ?_ _ _)):p:=h
theorem qp{p:Prop}(h:p:=by repeat(first|with_reducible exact hZ|with_reducible refine OffZ.cells ?_ QL|with_reducible refine OffZ.set ?_ QL|with_reducible refine OffZ.alloc ?_ _|with_reducible refine OffZ.drew ?_|with_reducible refine OffZ.ext ?_ _ _)):p:=h
theorem qq{p:Prop}(h:p:=by repeat(first|with_reducible exact hMZ|with_reducible refine MsgZ.cells ?_ QL|with_reducible refine MsgZ.set ?_ QL|with_reducible refine MsgZ.alloc ?_ _|with_reducible refine MsgZ.drew ?_|with_reducible refine MsgZ.ext ?_ _ _)):p:=h
theorem qs{p:Prop}(h:p:=by repeat(first|with_reducible exact t2|with_reducible refine lw_alloc ?_|with_reducible refine lw_ext ?_|with_reducible refine lw_drew ?_|with_reducible refine lw_set ?_|with_reducible refine lw_cells ?_)):p:=h
theorem qt{p:Prop}(h:p:=by have:=Hd.out;omega):p:=h
theorem qu{p:Prop}(h:p:=by repeat(first|with_reducible exact K3.out|with_reducible refine WayO.cells ?_ QM|with_reducible refine WayO.set ?_ QM|with_reducible refine WayO.alloc ?_ _|with_reducible refine WayO.drew ?_|with_reducible refine WayO.ext ?_ _ _)):p:=h
theorem qv{p:Prop}(h:p:=by rw[hX];exact qo):p:=h
theorem qw{p:Prop}(h:p:=by rw[hX];go_simp):p:=h
theorem qx{p:Prop}(h:p:=by rw[hX];exact qn):p:=h
theorem qy{p:Prop}(h:p:=by rw[hX];exact qp):p:=h
theorem qz{p:Prop}(h:p:=by rw[hX];exact qq):p:=h
theorem QA{p:Prop}(h:p:=by rw[hX];exact qu):p:=h
theorem QB{p:Prop}(h:p:=by rw[hX];simp only[size_ext,World.size_alloc,size_cells,World.size_setCell,szd];omega):p:=h
theorem QC{p:Prop}(h:p:=by rw[hX];(try simp only[zs,size_cells,World.size_setCell,szd]);(try omega)):p:=h
theorem QD{p:Prop}(h:p:=by have:=HB.out;omega):p:=h
theorem QE{p:Prop}(h:p:=by have:=HR.out;rw[hj,if_neg tN] at this;exact this):p:=h
theorem QF{p:Prop}(h:p:=by rw[Hpc.out];exact hbp):p:=h
theorem zs1:type_of% @World.size_alloc:=@World.size_alloc
theorem zs2:type_of% @World.size_drew:=@World.size_drew
theorem hid{p:Prop}(h:p):Hid p:=h
def _root_.Go.World.ext(w:World)(E:Array Obj)(d:Nat):World:={w with heap:=w.heap++E,drawn:=d}
@[go_sem] theorem lt_add_any(a b c:Nat)(h:a<b):a<b+c:=Nat.lt_of_lt_of_le h (Nat.le_add_right _ _)
section
variable(w:World)(E:Array Obj)(d:Nat)
@[go_sem,simp] theorem size_ext:(w.ext E d).heap.size=w.heap.size+E.size:=by simp[World.ext]
@[go_sem] theorem cell?_ext(n i:Nat)(s:Option Nat)(hn:n<w.heap.size):(w.ext E d).cell? ⟨n,i,s⟩=w.cell? ⟨n,i,s⟩:=by
 simp only[World.ext,World.cell?,Array.getElem?_append_left hn]
@[go_sem] theorem frozen?_ext(n i:Nat)(s:Option Nat)(hn:n<w.heap.size):(w.ext E d).frozen? ⟨n,i,s⟩=w.frozen? ⟨n,i,s⟩:=by
 simp only[World.ext,World.frozen?,Array.getElem?_append_left hn]
theorem heap_ext(n:Nat)(hn:n<w.heap.size):(w.ext E d).heap[n]? =w.heap[n]? :=by
 simp only[World.ext,Array.getElem?_append_left hn]
@[go_sem] theorem setCell_ext(n i:Nat)(s:Option Nat)(v:Value)(hn:n<w.heap.size):(w.ext E d).setCell ⟨n,i,s⟩ v=(w.setCell ⟨n,i,s⟩ v).ext E d:=by
 unfold World.setCell World.ext
 congr 1
 apply Array.ext_getElem?
 intro k
 by_cases hk:k<w.heap.size
 ·rw[Array.getElem?_append_left (by simpa using hk),Array.getElem?_modify,Array.getElem?_modify,Array.getElem?_append_left hk]
 ·rw[Array.getElem?_append_right (by simpa using hk),Array.getElem?_modify,if_neg tA,Array.getElem?_append_right tB]
  simp
@[go_sem] theorem drew_ext:(w.ext E d).drew=w.ext E (d+1):=rfl
theorem ext_zero:w.ext #[] w.drawn=w:=by simp[World.ext]
theorem alloc_ext(o:Obj):(w.ext E d).alloc o=w.ext (E.push o) d:=by simp[World.ext,World.alloc]
theorem ext_ext(E':Array Obj)(d':Nat):(w.ext E d).ext E' d'=w.ext (E++E') d':=by simp[World.ext]
end
def _root_.Go.Ext(w w':World):Prop:=∃ E d,w'=w.ext E d
theorem _root_.Go.Ext.refl(w:World):Ext w w:=⟨#[],_,(ext_zero w).symm⟩
theorem _root_.Go.Ext.alloc{w w1:World}(h:Ext w w1)(o:Obj):Ext w (w1.alloc o):=by
 obtain⟨E,d,rfl⟩:=h;exact⟨_,_,alloc_ext ..⟩
theorem _root_.Go.Ext.drew{w w1:World}(h:Ext w w1):Ext w w1.drew:=by
 obtain⟨E,d,rfl⟩:=h;exact⟨E,d+1,rfl⟩
theorem _root_.Go.Ext.ext{w w1:World}(h:Ext w w1)(E:Array Obj)(d:Nat):Ext w (w1.ext E d):=by
 obtain⟨E,d,rfl⟩:=h;exact⟨_,_,ext_ext ..⟩
theorem _root_.Go.Ext.trans{w w1 w2:World}(h:Ext w w1)(h':Ext w1 w2):Ext w w2:=by
 obtain⟨E,d,rfl⟩:=h';exact h.ext E d
theorem _root_.Go.Ext.below{w w':World}(h:Ext w w'):Below w.heap.size w w':=by
 obtain⟨E,d,rfl⟩:=h
 exact⟨rfl,rfl,rfl,by simp,fun i hi=>heap_ext w E d i hi⟩
theorem _root_.Go.Ext.of_below{w w':World}(h:Below w.heap.size w w'):Ext w w':=by
 refine⟨w'.heap.extract w.heap.size w'.heap.size,w'.drawn,?_⟩
 obtain⟨hos,htape,hout,hsize,hblock⟩:=h
 cases w;cases w'
 simp only[World.ext] at *
 subst hos htape hout
 simp only[World.mk.injEq,true_and,and_true]
 apply Array.ext_getElem?
 intro k
 rename_i heap _ _ _ _ heap' _
 by_cases hk:k<heap.size
 ·rw[Array.getElem?_append_left hk,hblock k hk]
 ·rw[Array.getElem?_append_right tB,Array.getElem?_extract]
  simp only[Nat.min_self]
  split
  ·congr 1;omega
  ·rw[Array.getElem?_eq_none tB]
theorem zs:(type_of% @World.size_alloc)∧(type_of% @World.size_drew)∧(type_of% @World.size_setCell)∧(type_of% @size_ext):=⟨@World.size_alloc,@World.size_drew,@World.size_setCell,@size_ext⟩
section
variable{w P:World}
instance:Nonempty (Ext w w):=⟨Ext.refl w⟩
instance[h:Nonempty (Ext w P)](o:Obj):Nonempty (Ext w (P.alloc o)):=⟨(h.elim id).alloc o⟩
instance[h:Nonempty (Ext w P)](E:Array Obj)(d:Nat):Nonempty (Ext w (P.ext E d)):=⟨(h.elim id).ext E d⟩
instance[h:Nonempty (Ext w P)]:Nonempty (Ext w P.drew):=⟨(h.elim id).drew⟩
theorem exI[h:Nonempty (Ext w P)]:Ext w P:=h.elim id
end
end Go.Proofs.YtekjdeibnfaehaaGreat
namespace Go.Proofs.YtekjdeibnfaehaaGreat
theorem zp:(type_of% @List.getElem_toArray.{0})∧(type_of% @List.getElem_cons_succ.{0})∧(type_of% @List.getElem_cons_zero.{0})∧(type_of% @List.setIfInBounds_toArray.{0})∧(type_of% @List.set_cons_zero.{0})∧(type_of% @List.set_cons_succ.{0}):=
 ⟨@List.getElem_toArray.{0},@List.getElem_cons_succ.{0},@List.getElem_cons_zero.{0},@List.setIfInBounds_toArray.{0},@List.set_cons_zero.{0},@List.set_cons_succ.{0}⟩
def calm(Q:Exit→Act→World→Prop):Exit→Act→World→Prop
 | .panic _,_,_=>False
 | e,a,w=>Q e a w
theorem calm_imp{Q:Exit→Act→World→Prop}:∀ (e:Exit) (a:Act) (w:World),calm Q e a w→Q e a w:=fun e a w h=>by
 cases e <;> first|exact h|exact(h:False).elim
section
variable{P:Program}{ops:Array Oper}{Q:Exit→Act→World→Prop}{S:World→Prop}
inductive Plan where
 | d
 | f (i:Nat) (p:Plan)
 | a (i:Nat) (p:Plan)
 | k (i:Nat) (p:Plan) (j:Nat) (q:Plan)
 | k3 (i:Nat) (p:Plan) (j:Nat) (q:Plan) (l:Nat) (r:Plan)
 | e (i:Nat) (p:Plan)
 | z (i:Nat)
def Silent(P:Program)(ops:Array Oper)(S:World→Prop)(o:Oper)(v:Value)(a:Act):Prop:=
 Region.wanted o (yielded ops a.tmps)=true∧∃ f args,(∀w,(execOp a.eval o).run P w= .ok (.enter f args) w)∧∀ w,S w→∀ R:Ending→World→Prop,R (.returned v) w→Calls P f args w R
theorem wpOp_form{j:Nat}{o:Oper}(hj:ops[j]? =some o){K:Act→World→Prop}{a:Act}{w:World}(h:wpOp P ops Q j K a w):
 wpOp P ops Q j (fun a' w'=>(∃d u,a'=({a with defers:=d}:Act).put o.dst u)∧K a' w') a w:=by
 unfold wpOp at *
 simp only[hj] at *
 by_cases hw:Region.wanted o (yielded ops a.tmps)=true
 ·simp only[hw,if_true] at h ⊢
  rcases h with h|h
  ·left
   unfold Oper.wp at *
   cases hr:(execOp a.eval o).run P w with
   | ok x w'=>
    rw[hr] at h
    cases x with
    | value u=>exact⟨⟨a.defers,u,rfl⟩,h⟩
    | skip=>exact⟨⟨a.defers,undef,rfl⟩,h⟩
    | defer d=>exact⟨⟨d::a.defers,undef,rfl⟩,h⟩
    | enter f args=>
     refine Calls.mono (show Calls P f args w' _ from h) fun e w2 he=> ?_
     cases e with
     | returned u=>exact⟨⟨a.defers,u,rfl⟩,he⟩
     | panicked c=>exact he
     | outgrown=>exact he
    | row r args=>exact Rows.mono (show Rows P r args w' _ from h) fun u w2 he=>⟨⟨a.defers,u,rfl⟩,he⟩
    | _=>exact h
   | halt x w'=>
    rw[hr] at h
    cases x <;> exact h
  ·exact .inr h
 ·simp only[hw,if_false] at h ⊢
  exact⟨⟨a.defers,undef,rfl⟩,h⟩
theorem Silent.later{oi oj:Oper}{v:Value}{a:Act}(h:Silent P ops S oi v a)(hs:∀ cs b,oi.op≠.select cs b)(hd:∀ d,oj.dst=some d→d∉oi.looksAt ops)(d:List Deferred)(u:Value):
 Silent P ops S oi v (({a with defers:=d}:Act).put oj.dst u):=by
 unfold Silent at *
 rw[execOp_put oi hs {a with defers:=d} oj.dst u hd,wanted_put oi {a with defers:=d} oj.dst u hd]
 exact h
theorem Silent.op{i:Nat}{o:Oper}{v:Value}{a:Act}{w:World}(hi:ops[i]? =some o)(h:Silent P ops S o v a)(hS:S w){K:Act→World→Prop}(hk:K (a.put o.dst v) w):wpOp P ops Q i K a w:=by
 obtain⟨hw,f,args,hr,hc⟩:=h
 unfold wpOp
 simp only[hi,hw,if_true]
 left
 unfold Oper.wp
 rw[hr w]
 exact hc w hS _ hk
theorem wpAnyH_silent{i:Nat}{oi:Oper}{v:Value}(hi:ops[i]? =some oi)(hsel:∀ (j:Nat) (o:Oper) cs b,ops[j]? =some o→o.op≠.select cs b):
 ∀(fuel:Nat) (listed:Array Bool) (a:Act) (w:World),
  (∀j oj,ops[j]? =some oj→j≠i→listed.getD j true=false→(∀e∈oj.after,Region.binds .any e=true→e.on≠i)→oi.apart ops oj=true)→
  i∈Region.ready .any ops listed→Silent P ops S oi v a→S w→
  wpAnyH P .any ops (calm Q) S fuel (listed.setIfInBounds i true) (a.put oi.dst v) w→wpAnyH P .any ops (calm Q) S (fuel+1) listed a w:=by
 intro fuel
 induction fuel with
 | zero=>
  intro listed a w _ hr hy hS h
  refine⟨fun h0=>absurd hr tC,fun j hj=> ?_⟩
  rcases Nat.decEq j i with hji|hji
  ·exact tD
  ·subst hji
   exact hy.op hi hS ⟨hS,h⟩
 | succ fuel ih=>
  intro listed a w hfree hr hy hS h
  refine⟨fun h0=>absurd hr tC,fun j hj=> ?_⟩
  rcases Nat.decEq j i with hji|hji
  ·obtain⟨hjun,oj,hoj,hall⟩:=mem_ready.1 hj
   have hin:listed.getD i true=false:=(mem_ready.1 hr).1
   have hnot:∀ e∈oj.after,Region.binds .any e=true→e.on≠i:=by
    intro e he hb heq
    have h1:=hall e he hb
    rw[heq] at h1
    simp only[Array.getD_eq_getD_getElem?] at h1 hin
    cases hq:listed[i]? with
    | none=>simp[hq] at hin
    | some b=>simp[hq] at h1 hin;rw[h1] at hin;cases hin
   have hap:=hfree j oj hoj hji hjun hnot
   have h2:=wpOp_form hoj (wpOp_putIf (S:=fun _=>False) hoj hap (fun cs b=>hsel i oi cs b hi) (fun cs b=>hsel j oj cs b hoj) (fun _ _ _ hp=>hp) (.inl ⟨hy.1,fun _ hf=>hf.elim⟩) (h.2 j (ready_mono hj hji)))
   refine wpOp_mono (fun a' w' h3=> ?_) h2
   obtain⟨⟨d,u,rfl⟩,_,hS',h4⟩:=h3
   refine⟨hS',ih _ _ _ (fun k ok hk hki hun hno=>hfree k ok hk hki ?_ hno) (ready_mono hr (Ne.symm hji)) (hy.later (fun cs b=>hsel i oi cs b hi) (Oper.apart_spec hap).2.2 d u) hS' ?_⟩
   ·rcases Nat.decEq j k with hjk|hjk
    ·rwa [getD_set_ne true hjk] at hun
    ·rw[←hjk];exact hjun
   ·rw[Array.setIfInBounds_comm _ _ hji]
    exact h4
  ·subst hji
   exact hy.op hi hS ⟨hS,h⟩
def wpOrd(P:Program)(ops:Array Oper)(Q:Exit→Act→World→Prop)(S:World→Prop):Plan→Act→World→Prop
 | .d,a,w=>Q .normal a w
 | .f i p,a,w=> ∃o v,ops[i]? =some o∧YieldsIf P ops S o v a∧wpOrd P ops Q S p (a.put o.dst v) w
 | .a i p,a,w=>wpOp P ops (calm Q) i (fun a' w'=>S w'∧wpOrd P ops Q S p a' w') a w
 | .z i,a,w=>wpOp P ops (calm Q) i (fun a' w'=>Q .normal a' w') a w
 | .e i p,a,w=> ∃o v,ops[i]? =some o∧Silent P ops S o v a∧wpOrd P ops Q S p (a.put o.dst v) w
 | .k i p j q,a,w=>wpOp P ops (calm Q) i (fun a' w'=>S w'∧wpOrd P ops Q S p a' w') a w∧wpOp P ops (calm Q) j (fun a' w'=>S w'∧wpOrd P ops Q S q a' w') a w
 | .k3 i p j q l r,a,w=>wpOp P ops (calm Q) i (fun a' w'=>S w'∧wpOrd P ops Q S p a' w') a w∧wpOp P ops (calm Q) j (fun a' w'=>S w'∧wpOrd P ops Q S q a' w') a w∧
  wpOp P ops (calm Q) l (fun a' w'=>S w'∧wpOrd P ops Q S r a' w') a w
def ordOk(ops:Array Oper):Plan→Nat→Array Bool→Bool
 | .d,n,listed=>(Region.ready .any ops listed).isEmpty&&n==0
 | .f i p,n,listed=>Region.free .any ops listed i&&(Region.ready .any ops listed).contains i&&n != 0&&ordOk ops p (n-1) (listed.setIfInBounds i true)
 | .z _,_,_=>false
 | .e i p,n,listed=>Region.free .any ops listed i&&(Region.ready .any ops listed).contains i&&n != 0&&ordOk ops p (n-1) (listed.setIfInBounds i true)
 | .a i p,n,listed=>(Region.ready .any ops listed)==[i]&&n != 0&&ordOk ops p (n-1) (listed.setIfInBounds i true)
 | .k i p j q,n,listed=>(Region.ready .any ops listed)==[i,j]&&n != 0&&ordOk ops p (n-1) (listed.setIfInBounds i true)&&ordOk ops q (n-1) (listed.setIfInBounds j true)
 | .k3 i p j q l r,n,listed=>(Region.ready .any ops listed)==[i,j,l]&&n != 0&&ordOk ops p (n-1) (listed.setIfInBounds i true)&&ordOk ops q (n-1) (listed.setIfInBounds j true)&&ordOk ops r (n-1) (listed.setIfInBounds l true)
theorem wpAnyH_of_ord(hsel:Region.noSelect ops=true):∀ (l:Plan) (listed:Array Bool) (a:Act) (w:World) (n:Nat),ordOk ops l n listed=true→S w→
 wpOrd P ops Q S l a w→wpAnyH P .any ops (calm Q) S n listed a w:=by
 intro l
 induction l with
 | d=>
  intro listed a w n ho _ h
  simp only[ordOk,Bool.and_eq_true,List.isEmpty_iff,beq_iff_eq] at ho
  exact wpAnyH_done (Q:=calm Q) ho.1 (show calm Q .normal a w from h) _
 | f i p ih=>
  intro listed a w n ho hS h
  simp only[ordOk,Bool.and_eq_true,bne_iff_ne,ne_eq] at ho
  obtain⟨m,rfl⟩:∃ m,n=m+1:=⟨n-1,by omega⟩
  obtain⟨o,v,hi,hy,h⟩:=h
  exact wpAnyH_take hi hsel ho.1.1.1 ho.1.1.2 (fun _ _ _ h=>h) hy hS (ih _ _ _ _ ho.2 hS h)
 | z i=>
  intro listed a w n ho hS h
  cases ho
 | e i p ih=>
  intro listed a w n ho hS h
  simp only[ordOk,Bool.and_eq_true,bne_iff_ne,ne_eq] at ho
  obtain⟨m,rfl⟩:∃ m,n=m+1:=⟨n-1,by omega⟩
  obtain⟨o,v,hi,hy,h⟩:=h
  exact wpAnyH_silent hi (Region.noSelect_spec hsel) m listed a w (Region.free_spec hi ho.1.1.1) (by simpa using ho.1.1.2) hy hS (ih _ _ _ _ ho.2 hS h)
 | a i p ih=>
  intro listed a w n ho hS h
  simp only[ordOk,Bool.and_eq_true,beq_iff_eq,bne_iff_ne,ne_eq] at ho
  obtain⟨m,rfl⟩:∃ m,n=m+1:=⟨n-1,by omega⟩
  refine wpAnyH_all ho.1.1 tE fun j hj=> ?_
  obtain rfl:j=i:=by simpa using hj
  exact wpOp_mono (fun a' w' h'=>⟨h'.1,ih _ _ _ _ ho.2 h'.1 h'.2⟩) h
 | k i p j q ihp ihq=>
  intro listed a w n ho hS h
  simp only[ordOk,Bool.and_eq_true,beq_iff_eq,bne_iff_ne,ne_eq] at ho
  obtain⟨m,rfl⟩:∃ m,n=m+1:=⟨n-1,by omega⟩
  refine wpAnyH_all ho.1.1.1 tE fun x hx=> ?_
  have hx':x=i∨x=j:=by simpa using hx
  rcases hx' with rfl|rfl
  ·exact wpOp_mono (fun a' w' h'=>⟨h'.1,ihp _ _ _ _ ho.1.2 h'.1 h'.2⟩) h.1
  ·exact wpOp_mono (fun a' w' h'=>⟨h'.1,ihq _ _ _ _ ho.2 h'.1 h'.2⟩) h.2
 | k3 i p j q l r ihp ihq ihr=>
  intro listed a w n ho hS h
  simp only[ordOk,Bool.and_eq_true,beq_iff_eq,bne_iff_ne,ne_eq] at ho
  obtain⟨m,rfl⟩:∃ m,n=m+1:=⟨n-1,by omega⟩
  refine wpAnyH_all ho.1.1.1.1 tE fun x hx=> ?_
  have hx':x=i∨x=j∨x=l:=by simpa using hx
  rcases hx' with rfl|rfl|rfl
  ·exact wpOp_mono (fun a' w' h'=>⟨h'.1,ihp _ _ _ _ ho.1.1.2 h'.1 h'.2⟩) h.1
  ·exact wpOp_mono (fun a' w' h'=>⟨h'.1,ihq _ _ _ _ ho.1.2 h'.1 h'.2⟩) h.2.1
  ·exact wpOp_mono (fun a' w' h'=>⟨h'.1,ihr _ _ _ _ ho.2 h'.1 h'.2⟩) h.2.2
theorem wp_region_ord{id:Nat}{a:Act}{w:World}(l:Plan)(S:World→Prop)(hm:P.follows .mixedOrders=true)
 (ho:(Region.noSelect ops&&ordOk ops l ops.size (Array.replicate ops.size false))=true) (hS:S w.drew)
 (h:wpOrd P ops Q S l a w.drew):(Code.region id ops true).wp P Q a w:=by
 simp only[Bool.and_eq_true] at ho
 refine Code.wp_mono calm_imp (wp_region_held (S:=S) hm ?_)
 exact wpAnyH_of_ord ho.1 l _ a _ _ ho.2 hS h
def Closed(ops:Array Oper)(listed:Array Bool):Prop:=∀ (k:Nat) o,ops[k]? =some o→listed.getD k false=true→∀ e∈o.after,Region.binds .any e=true→listed.getD e.on false=true
theorem Closed.set{listed:Array Bool}{j:Nat}(h:Closed ops listed)(hj:j∈Region.ready .any ops listed):Closed ops (listed.setIfInBounds j true):=by
 intro k o hk hl e he hb
 refine getD_set_true ?_
 rcases Nat.decEq j k with hjk|hjk
 ·rw[getD_set_ne false hjk] at hl
  exact h k o hk hl e he hb
 ·subst hjk
  obtain⟨_,o',ho',hall⟩:=mem_ready.1 hj
  rw[hk] at ho'
  cases ho'
  exact hall e he hb
theorem Closed.none(n:Nat):Closed ops (Array.replicate n false):=by
 intro k o _ hl
 simp only[Array.getD_eq_getD_getElem?] at hl
 cases hq:(Array.replicate n false)[k]? with
 | none=>simp[hq] at hl
 | some b=>
  simp only[hq,Option.getD_some] at hl
  have:=Array.mem_of_getElem? hq
  simp only[Array.mem_replicate] at this
  rw[this.2] at hl
  cases hl
def waits(ops:Array Oper):Nat→Nat→Nat→Bool
 | 0,_,_=>false
 | n+1,z,i=>match ops[z]? with
  | some o=>o.after.any fun e=>Region.binds .any e&&(e.on==i||waits ops n e.on i)
  | none=>false
theorem waits_listed{listed:Array Bool}(h:Closed ops listed){i:Nat}:∀ (n z:Nat) (o:Oper),ops[z]? =some o→(∀e∈o.after,Region.binds .any e=true→listed.getD e.on false=true)→waits ops n z i=true→listed.getD i false=true
 | 0,_,_,_,_,hw=>by cases hw
 | n+1,z,o,hz,hall,hw=>by
  simp only[waits,hz] at hw
  obtain⟨e,he,hb⟩:=Array.any_eq_true'.1 hw
  simp only[Bool.and_eq_true,Bool.or_eq_true,beq_iff_eq] at hb
  have hl:=hall e he hb.1
  rcases hb.2 with hb2|hb2
  ·rw[←hb2];exact hl
  ·cases ho:ops[e.on]? with
   | none=>
    cases n with
    | zero=>cases hb2
    | succ n=>simp[waits,ho] at hb2
   | some o'=>exact waits_listed h n e.on o' ho (h e.on o' ho hl) hb2
def wpAnyE(P:Program)(ops:Array Oper)(Q:Exit→Act→World→Prop)(S:World→Prop)(z:Nat):Nat→Array Bool→Act→World→Prop
 | 0,listed,a,w=>Region.ready .any ops listed=[]∧Q .normal a w
 | n+1,listed,a,w=>(Region.ready .any ops listed=[]→Q .normal a w)∧
  ∀i∈Region.ready .any ops listed,wpOp P ops Q i (fun a' w'=>(i≠z→S w')∧wpAnyE P ops Q S z n (listed.setIfInBounds i true) a' w') a w
theorem wpAny_of_E{z:Nat}:∀ (n:Nat) (listed:Array Bool) (a:Act) (w:World),wpAnyE P ops Q S z n listed a w→wpAny P .any ops Q n listed a w
 | 0,_,_,_,h=>h
 | n+1,_,_,_,h=>⟨h.1,fun i hi=>wpOp_mono (fun a' w' h'=>wpAny_of_E n _ a' w' h'.2) (h.2 i hi)⟩
theorem wpAnyE_early{z i:Nat}{oi:Oper}{v:Value}(hi:ops[i]? =some oi)(hsel:∀ (j:Nat) (o:Oper) cs b,ops[j]? =some o→o.op≠.select cs b)(E:Act→Prop)
 (hop:∀ (K:Act→World→Prop) a w,E a→S w→K (a.put oi.dst v) w→wpOp P ops (calm Q) i K a w) (hwt:∀ a,E a→YieldsIf P ops (fun _=>False) oi v a)
 (hlater:∀ a (oj:Oper) d u,E a→(∀t,oj.dst=some t→t∉oi.looksAt ops)→E (({a with defers:=d}:Act).put oj.dst u)) (hz:waits ops ops.size z i=true):
 ∀(fuel:Nat) (listed:Array Bool) (a:Act) (w:World),
  (∀j oj,ops[j]? =some oj→j≠i→listed.getD j true=false→(∀e∈oj.after,Region.binds .any e=true→e.on≠i)→oi.apart ops oj=true)→Closed ops listed→
  i∈Region.ready .any ops listed→E a→S w→
  wpAnyE P ops (calm Q) S z fuel (listed.setIfInBounds i true) (a.put oi.dst v) w→wpAnyE P ops (calm Q) S z (fuel+1) listed a w:=by
 intro fuel
 induction fuel with
 | zero=>
  intro listed a w _ _ hr hy hS h
  refine⟨fun h0=>absurd hr tC,fun j hj=> ?_⟩
  rcases Nat.decEq j i with hji|hji
  ·exact tD
  ·subst hji
   exact hop _ _ _ hy hS ⟨fun _=>hS,h⟩
 | succ fuel ih=>
  intro listed a w hfree hcl hr hy hS h
  refine⟨fun h0=>absurd hr tC,fun j hj=> ?_⟩
  rcases Nat.decEq j i with hji|hji
  ·obtain⟨hjun,oj,hoj,hall⟩:=mem_ready.1 hj
   have hin:listed.getD i false=false:=by
    have:=(mem_ready.1 hr).1
    simp only[Array.getD_eq_getD_getElem?] at this ⊢
    cases hq:listed[i]? with
    | none=>rfl
    | some b=>simpa [hq] using this
   have hjz:j≠z:=by
    intro e
    subst e
    have:=waits_listed hcl _ _ oj hoj hall hz
    rw[hin] at this
    cases this
   have hnot:∀ e∈oj.after,Region.binds .any e=true→e.on≠i:=by
    intro e he hb heq
    have h1:=hall e he hb
    rw[heq,hin] at h1
    cases h1
   have hap:=hfree j oj hoj hji hjun hnot
   have h2:=wpOp_form hoj (wpOp_putIf (S:=fun _=>False) hoj hap (fun cs b=>hsel i oi cs b hi) (fun cs b=>hsel j oj cs b hoj) (fun _ _ _ hp=>hp) (hwt a hy) (h.2 j (ready_mono hj hji)))
   refine wpOp_mono (fun a' w' h3=> ?_) h2
   obtain⟨⟨d,u,rfl⟩,_,hS',h4⟩:=h3
   have hS'':=hS' hjz
   refine⟨fun _=>hS'',ih _ _ _ (fun k ok hk hki hun hno=>hfree k ok hk hki ?_ hno) (hcl.set hj) (ready_mono hr (Ne.symm hji)) (hlater _ _ d u hy (Oper.apart_spec hap).2.2) hS'' ?_⟩
   ·rcases Nat.decEq j k with hjk|hjk
    ·rwa [getD_set_ne true hjk] at hun
    ·rw[←hjk];exact hjun
   ·rw[Array.setIfInBounds_comm _ _ hji]
    exact h4
  ·subst hji
   exact hop _ _ _ hy hS ⟨fun _=>hS,h⟩
theorem yields_later{oi oj:Oper}{v:Value}{a:Act}(h:YieldsIf P ops S oi v a)(hs:∀ cs b,oi.op≠.select cs b)(hd:∀ d,oj.dst=some d→d∉oi.looksAt ops)(d:List Deferred)(u:Value):
 YieldsIf P ops S oi v (({a with defers:=d}:Act).put oj.dst u):=
 YieldsIf.of_same (a:={a with defers:=d}) (h.of_same rfl rfl) (execOp_put oi hs {a with defers:=d} oj.dst u hd) (wanted_put oi {a with defers:=d} oj.dst u hd)
def ordOkZ(ops:Array Oper)(z:Nat):Plan→Nat→Array Bool→Bool
 | .d,_,_=>false
 | .f i p,n,listed=>Region.free .any ops listed i&&(Region.ready .any ops listed).contains i&&waits ops ops.size z i&&n != 0&&ordOkZ ops z p (n-1) (listed.setIfInBounds i true)
 | .e i p,n,listed=>Region.free .any ops listed i&&(Region.ready .any ops listed).contains i&&waits ops ops.size z i&&n != 0&&ordOkZ ops z p (n-1) (listed.setIfInBounds i true)
 | .a i p,n,listed=>(Region.ready .any ops listed)==[i]&&n != 0&&ordOkZ ops z p (n-1) (listed.setIfInBounds i true)
 | .k i p j q,n,listed=>(Region.ready .any ops listed)==[i,j]&&n != 0&&ordOkZ ops z p (n-1) (listed.setIfInBounds i true)&&ordOkZ ops z q (n-1) (listed.setIfInBounds j true)
 | .k3 i p j q l r,n,listed=>(Region.ready .any ops listed)==[i,j,l]&&n != 0&&ordOkZ ops z p (n-1) (listed.setIfInBounds i true)&&ordOkZ ops z q (n-1) (listed.setIfInBounds j true)&&ordOkZ ops z r (n-1) (listed.setIfInBounds l true)
 | .z i,n,listed=>(Region.ready .any ops listed)==[i]&&n==1&&i==z&&(Region.ready .any ops (listed.setIfInBounds i true)).isEmpty
theorem wpAnyE_of_ord{z:Nat}(hsel:Region.noSelect ops=true):∀ (l:Plan) (listed:Array Bool) (a:Act) (w:World) (n:Nat),ordOkZ ops z l n listed=true→Closed ops listed→S w→
 wpOrd P ops Q S l a w→wpAnyE P ops (calm Q) S z n listed a w:=by
 intro l
 have one:∀ {i j:Nat} {listed:Array Bool} {l:List Nat},Region.ready .any ops listed=l→j∈l→j∈Region.ready .any ops listed:=fun h hj=>by rw[h];exact hj
 induction l with
 | d=>
  intro listed a w n ho
  cases ho
 | f i p ih=>
  intro listed a w n ho hc hS h
  simp only[ordOkZ,Bool.and_eq_true,bne_iff_ne,ne_eq] at ho
  obtain⟨m,rfl⟩:∃ m,n=m+1:=⟨n-1,by omega⟩
  obtain⟨o,v,hi,hy,h⟩:=h
  have hr:i∈Region.ready .any ops listed:=by simpa using ho.1.1.1.2
  have hs:=Region.noSelect_spec hsel
  exact wpAnyE_early hi hs (YieldsIf P ops S o v) (fun K a w hy hS hk=>hy.wpOp hi hS hk) (fun a hy=>hy.imp (fun h=>⟨h.1,fun _ hf=>hf.elim⟩) id) (fun a oj d u hy hd=>yields_later hy (fun cs b=>hs i o cs b hi) hd d u) ho.1.1.2
   m listed a w (Region.free_spec hi ho.1.1.1.1) hc hr hy hS (ih _ _ _ _ ho.2 (hc.set hr) hS h)
 | e i p ih=>
  intro listed a w n ho hc hS h
  simp only[ordOkZ,Bool.and_eq_true,bne_iff_ne,ne_eq] at ho
  obtain⟨m,rfl⟩:∃ m,n=m+1:=⟨n-1,by omega⟩
  obtain⟨o,v,hi,hy,h⟩:=h
  have hr:i∈Region.ready .any ops listed:=by simpa using ho.1.1.1.2
  have hs:=Region.noSelect_spec hsel
  exact wpAnyE_early hi hs (Silent P ops S o v) (fun K a w hy hS hk=>hy.op hi hS hk) (fun a hy=> .inl ⟨hy.1,fun _ hf=>hf.elim⟩) (fun a oj d u hy hd=>hy.later (fun cs b=>hs i o cs b hi) hd d u) ho.1.1.2
   m listed a w (Region.free_spec hi ho.1.1.1.1) hc hr hy hS (ih _ _ _ _ ho.2 (hc.set hr) hS h)
 | a i p ih=>
  intro listed a w n ho hc hS h
  simp only[ordOkZ,Bool.and_eq_true,beq_iff_eq,bne_iff_ne,ne_eq] at ho
  obtain⟨m,rfl⟩:∃ m,n=m+1:=⟨n-1,by omega⟩
  refine⟨fun h0=>(by rw[ho.1.1] at h0;cases h0),fun x hx=> ?_⟩
  have hx':=hx
  rw[ho.1.1] at hx'
  obtain rfl:x=i:=by simpa using hx'
  exact wpOp_mono (fun a' w' h'=>⟨fun _=>h'.1,ih _ _ _ _ ho.2 (hc.set hx) h'.1 h'.2⟩) h
 | k i p j q ihp ihq=>
  intro listed a w n ho hc hS h
  simp only[ordOkZ,Bool.and_eq_true,beq_iff_eq,bne_iff_ne,ne_eq] at ho
  obtain⟨m,rfl⟩:∃ m,n=m+1:=⟨n-1,by omega⟩
  refine⟨fun h0=>(by rw[ho.1.1.1] at h0;cases h0),fun x hx=> ?_⟩
  have hx':=hx
  rw[ho.1.1.1] at hx'
  have hx2:x=i∨x=j:=by simpa using hx'
  rcases hx2 with rfl|rfl
  ·exact wpOp_mono (fun a' w' h'=>⟨fun _=>h'.1,ihp _ _ _ _ ho.1.2 (hc.set hx) h'.1 h'.2⟩) h.1
  ·exact wpOp_mono (fun a' w' h'=>⟨fun _=>h'.1,ihq _ _ _ _ ho.2 (hc.set hx) h'.1 h'.2⟩) h.2
 | k3 i p j q l r ihp ihq ihr=>
  intro listed a w n ho hc hS h
  simp only[ordOkZ,Bool.and_eq_true,beq_iff_eq,bne_iff_ne,ne_eq] at ho
  obtain⟨m,rfl⟩:∃ m,n=m+1:=⟨n-1,by omega⟩
  refine⟨fun h0=>(by rw[ho.1.1.1.1] at h0;cases h0),fun x hx=> ?_⟩
  have hx':=hx
  rw[ho.1.1.1.1] at hx'
  have hx2:x=i∨x=j∨x=l:=by simpa using hx'
  rcases hx2 with rfl|rfl|rfl
  ·exact wpOp_mono (fun a' w' h'=>⟨fun _=>h'.1,ihp _ _ _ _ ho.1.1.2 (hc.set hx) h'.1 h'.2⟩) h.1
  ·exact wpOp_mono (fun a' w' h'=>⟨fun _=>h'.1,ihq _ _ _ _ ho.1.2 (hc.set hx) h'.1 h'.2⟩) h.2.1
  ·exact wpOp_mono (fun a' w' h'=>⟨fun _=>h'.1,ihr _ _ _ _ ho.2 (hc.set hx) h'.1 h'.2⟩) h.2.2
 | z i=>
  intro listed a w n ho hc hS h
  simp only[ordOkZ,Bool.and_eq_true,beq_iff_eq,List.isEmpty_iff] at ho
  obtain⟨⟨⟨h1,rfl⟩,rfl⟩,h2⟩:=ho
  refine⟨fun h0=>(by rw[h1] at h0;cases h0),fun x hx=> ?_⟩
  rw[h1] at hx
  obtain rfl:x=i:=by simpa using hx
  exact wpOp_mono (fun a' w' h'=>⟨fun hne=>absurd rfl hne,h2,h'⟩) h
theorem wp_region_ordZ{id:Nat}{a:Act}{w:World}(z:Nat)(l:Plan)(S:World→Prop)(hm:P.follows .mixedOrders=true)
 (ho:(Region.noSelect ops&&ordOkZ ops z l ops.size (Array.replicate ops.size false))=true) (hS:S w.drew)
 (h:wpOrd P ops Q S l a w.drew):(Code.region id ops true).wp P Q a w:=by
 simp only[Bool.and_eq_true] at ho
 refine Code.wp_mono calm_imp (wp_region_any hm (wpAny_of_E (S:=S) (z:=z) _ _ _ _ ?_))
 exact wpAnyE_of_ord ho.1 l _ a _ _ ho.2 (Closed.none _) hS h
theorem wpOrd_last{i:Nat}{a:Act}{w:World}{o:Oper}(hi:ops[i]? =some o)(hw:Region.wanted o (yielded ops a.tmps)=true)
 (h:∀ K:Act→World→Prop,(∀a' w',Q .normal a' w'→K a' w')→o.wp P a w K (calm Q)):wpOrd P ops Q S (.z i) a w:=by
 show wpOp P ops (calm Q) i _ a w
 unfold wpOp
 simp only[hi,hw,if_true]
 exact .inl (h _ fun _ _ h=>h)
theorem wp_region_ord_same{id:Nat}{a:Act}{w:World}(l:Plan)(hm:P.follows .mixedOrders=true)
 (ho:(Region.noSelect ops&&ordOk ops l ops.size (Array.replicate ops.size false))=true)
 (h:wpOrd P ops Q (fun w'=> ∀b o,b<w.heap.size→w'.cell? ⟨b,o,none⟩=w.cell? ⟨b,o,none⟩) l a w.drew):(Code.region id ops true).wp P Q a w:=
 wp_region_ord l _ hm ho (fun _ _ _=>rfl) h
theorem wp_region_ord_but{id:Nat}{a:Act}{w:World}(x:Nat)(l:Plan)(hm:P.follows .mixedOrders=true)
 (ho:(Region.noSelect ops&&ordOk ops l ops.size (Array.replicate ops.size false))=true)
 (h:wpOrd P ops Q (fun w'=> ∀b o,b<w.heap.size→b≠x→w'.cell? ⟨b,o,none⟩=w.cell? ⟨b,o,none⟩) l a w.drew):(Code.region id ops true).wp P Q a w:=
 wp_region_ord l _ hm ho (fun _ _ _ _=>rfl) h
theorem wpOrd_nil{a:Act}{w:World}(h:Q .normal a w):wpOrd P ops Q S .d a w:=h
theorem wpOrd_free{i:Nat}{rest:Plan}{a:Act}{w:World}{o:Oper}{v:Value}(hi:ops[i]? =some o)(hw:Region.wanted o (yielded ops a.tmps)=true)
 (hy:∀ w',S w'→(execOp a.eval o).run P w'= .ok (.value v) w') (h:wpOrd P ops Q S rest (a.put o.dst v) w):wpOrd P ops Q S (.f i rest) a w:=
 ⟨o,v,hi,.inl ⟨hw,hy⟩,h⟩
theorem wpOrd_fork{i j:Nat}{p q:Plan}{a:Act}{w:World}(h1:wpOrd P ops Q S (.a i p) a w)(h2:wpOrd P ops Q S (.a j q) a w):wpOrd P ops Q S (.k i p j q) a w:=⟨h1,h2⟩
theorem wpOrd_fork3{i j l:Nat}{p q r:Plan}{a:Act}{w:World}(h1:wpOrd P ops Q S (.a i p) a w)(h2:wpOrd P ops Q S (.a j q) a w)(h3:wpOrd P ops Q S (.a l r) a w):
 wpOrd P ops Q S (.k3 i p j q l r) a w:=⟨h1,h2,h3⟩
theorem wpOrd_pass{i:Nat}{rest:Plan}{a:Act}{w:World}{o:Oper}(hi:ops[i]? =some o)(hw:Region.wanted o (yielded ops a.tmps)=false)
 (h:wpOrd P ops Q S rest (a.put o.dst undef) w):wpOrd P ops Q S (.f i rest) a w:=
 ⟨o,undef,hi,.inr ⟨hw,rfl⟩,h⟩
theorem wpOrd_act{i:Nat}{rest:Plan}{a:Act}{w:World}{o:Oper}(hi:ops[i]? =some o)(hw:Region.wanted o (yielded ops a.tmps)=true)
 (h:∀ K:Act→World→Prop,(∀a' w',S w'∧wpOrd P ops Q S rest a' w'→K a' w')→o.wp P a w K (calm Q)):wpOrd P ops Q S (.a i rest) a w:=by
 show wpOp P ops (calm Q) i _ a w
 unfold wpOp
 simp only[hi,hw,if_true]
 exact .inl (h _ fun _ _ h=>h)
theorem wpOrd_actPass{i:Nat}{rest:Plan}{a:Act}{w:World}{o:Oper}(hi:ops[i]? =some o)(hw:Region.wanted o (yielded ops a.tmps)=false)(hS:S w)
 (h:wpOrd P ops Q S rest (a.put o.dst undef) w):wpOrd P ops Q S (.a i rest) a w:=by
 show wpOp P ops (calm Q) i _ a w
 unfold wpOp
 simp only[hi,hw,if_false,Bool.false_eq_true]
 exact⟨hS,h⟩
theorem wpOrd_call{i:Nat}{rest:Plan}{a:Act}{w:World}{o:Oper}{f:FuncId}{xs:List Operand}{ats:Array TypeId}(hi:ops[i]? =some o)
 (hw:Region.wanted o (yielded ops a.tmps)=true) (ho:o.op= .call {callee:=.value (.func f),args:=xs.toArray,argTypes:=ats})
 (hf:∀ args w,(callFunc f args).run P w= .ok (.enter f args) w)
 (h:∀ R:Ending→World→Prop,(∀e w',(∃v,e= .returned v∧S w'∧wpOrd P ops Q S rest (a.put o.dst v) w')→R e w')→Calls P f (xs.map a.eval).toArray w R):wpOrd P ops Q S (.a i rest) a w:=by
 refine wpOrd_act hi hw fun K hK=> ?_
 obtain⟨dst,op,type,pos,after,guard⟩:=o
 subst ho
 unfold Oper.wp
 rw[show execOp a.eval {dst,op:=.call {callee:=.value (.func f),args:=xs.toArray,argTypes:=ats},type,pos,after,guard}=callFunc f (xs.map a.eval).toArray from by
  show callFunc f (#[]++xs.toArray.map a.eval++ #[])=_
  simp,hf]
 refine(h _ fun _ _ h=>h).mono fun e w' hR=> ?_
 obtain⟨v,rfl,hS,h⟩:=hR
 exact hK _ _ ⟨hS,h⟩
theorem wpOrd_early{i:Nat}{rest:Plan}{a:Act}{w:World}{o:Oper}{f:FuncId}{xs:List Operand}{ats:Array TypeId}{v:Value}(hi:ops[i]? =some o)
 (hw:Region.wanted o (yielded ops a.tmps)=true) (ho:o.op= .call {callee:=.value (.func f),args:=xs.toArray,argTypes:=ats})
 (hf:∀ args w,(callFunc f args).run P w= .ok (.enter f args) w)
 (hc:∀ w',S w'→∀ R:Ending→World→Prop,R (.returned v) w'→Calls P f (xs.map a.eval).toArray w' R) (h:wpOrd P ops Q S rest (a.put o.dst v) w):wpOrd P ops Q S (.e i rest) a w:=by
 refine⟨o,v,hi,⟨hw,f,(xs.map a.eval).toArray,fun w'=> ?_,hc⟩,h⟩
 obtain⟨dst,op,type,pos,after,guard⟩:=o
 subst ho
 rw[show execOp a.eval {dst,op:=.call {callee:=.value (.func f),args:=xs.toArray,argTypes:=ats},type,pos,after,guard}=callFunc f (xs.map a.eval).toArray from by
  show callFunc f (#[]++xs.toArray.map a.eval++ #[])=_
  simp,hf]
theorem ord_bool{l:Plan}{j:Nat}{a:Act}{w:World}{b:Bool}(hy:yielded ops a.tmps j=some b)(ht:b=true→wpOrd P ops Q S l a w)(hf:b=false→wpOrd P ops Q S l a w):
 wpOrd P ops Q S l a w:=by
 cases b
 ·exact hf rfl
 ·exact ht rfl
end
section
variable{P:Program}{ops:Array Oper}{Q:Exit→Act→World→Prop}{S:World→Prop}{i:Nat}{rest:Plan}{a a':Act}{w w':World}{o:Oper}{v:Value}
theorem oP(h:wpOrd P ops Q S rest a' w)(hi:ops[i]? =some o:=by rfl)(hw:Region.wanted o (yielded ops a.tmps)=false:=by rfl)(ha:a.put o.dst undef=a':=by simp only[Act.put,zp];exact rfl):wpOrd P ops Q S (.f i rest) a w:=wpOrd_pass hi hw (ha.symm▸h)
theorem oF(h:wpOrd P ops Q S rest a' w)(hi:ops[i]? =some o:=by rfl)(hw:Region.wanted o (yielded ops a.tmps)=true:=by rfl)(hy:∀ w',S w'→(execOp a.eval o).run P w'= .ok (.value v) w':=by(intro _ hS;go_simp;try with_reducible rfl))(ha:a.put o.dst v=a':=by simp only[Act.put,zp];exact rfl):wpOrd P ops Q S (.f i rest) a w:=wpOrd_free hi hw hy (ha.symm▸h)
theorem oR{l:Plan}(h:wpOrd P ops Q S rest a' w)(hr:wpOrd P ops Q S rest a' w→wpOrd P ops Q S l a w:=by intro h;(repeat(first|refine oP ?_|refine oF ?_));exact h):wpOrd P ops Q S l a w:=hr h
theorem oE(h:wpOrd P ops Q S rest a' w)(hi:ops[i]? =some o:=by rfl)(hw:Region.wanted o (yielded ops a.tmps)=true:=by rfl)(hy:∀ w',S w'→(execOp a.eval o).run P w'= .ok (.value v) w':=by(intro _ hS;obtain⟨E9,d9,rfl⟩:=hS;go_simp;try with_reducible rfl))(ha:a.put o.dst v=a':=by simp only[Act.put,zp];exact rfl):wpOrd P ops Q S (.f i rest) a w:=wpOrd_free hi hw hy (ha.symm▸h)
theorem oS{l:Plan}(h:wpOrd P ops Q S rest a' w)(hr:wpOrd P ops Q S rest a' w→wpOrd P ops Q S l a w:=by intro h;(repeat(first|refine oP ?_|refine oE ?_));exact h):wpOrd P ops Q S l a w:=hr h
theorem oK(h:wpOrd P ops Q S rest a' w)(hi:ops[i]? =some o:=by rfl)(hw:Region.wanted o (yielded ops a.tmps)=true:=by rfl)(hy:∀ w',S w'→(execOp a.eval o).run P w'= .ok (.value v) w':=by(intro _ hS;have hS1:=Kept.rows hS;have hS2:=Kept.len hS;have hS3:=Kept.cell hS;go_simp;try with_reducible rfl))(ha:a.put o.dst v=a':=by simp only[Act.put,zp];exact rfl):wpOrd P ops Q S (.f i rest) a w:=wpOrd_free hi hw hy (ha.symm▸h)
theorem oT{l:Plan}(h:wpOrd P ops Q S rest a' w)(hr:wpOrd P ops Q S rest a' w→wpOrd P ops Q S l a w:=by intro h;(repeat(first|refine oP ?_|refine oK ?_));exact h):wpOrd P ops Q S l a w:=hr h
theorem oA(h:wpOrd P ops Q S rest a' w')(hi:ops[i]? =some o:=by rfl)(hw:Region.wanted o (yielded ops a.tmps)=true:=by rfl)(hx:∀ K:Act→World→Prop,K a' w'→o.wp P a w K (calm Q):=by(intro K hK;go_simp;(try simp only[Act.put,zp]);exact hK))(hs:S w':=by repeat(with_reducible first|exact Ext.refl _|exact Ext.same _ _ _ _|assumption|apply Ext.alloc|apply Ext.ext|apply Ext.drew)):wpOrd P ops Q S (.a i rest) a w:=wpOrd_act hi hw fun _ hK=>hx _ (hK _ _ ⟨hs,h⟩)
theorem oB(h:wpOrd P ops Q S rest a' w')(hi:ops[i]? =some o:=by rfl)(hw:Region.wanted o (yielded ops a.tmps)=true:=by rfl)(hx:∀ K:Act→World→Prop,K a' w'→o.wp P a w K (calm Q):=by(intro K hK;go_simp;(try simp only[Act.put,zp]);exact hK))(hs:S w':=by repeat(first|(with_reducible first|exact Ext.refl _|exact Ext.same _ _ _ _|assumption|apply Ext.alloc|apply Ext.ext|apply Ext.drew)|(with_reducible refine Ext.setCell ?_ _ _ ?_;rotate_left;focus(first|omega|(simp only[zs];omega)))|(with_reducible refine Ext.trans ?_ (by assumption)))):wpOrd P ops Q S (.a i rest) a w:=wpOrd_act hi hw fun _ hK=>hx _ (hK _ _ ⟨hs,h⟩)
theorem oC(h:wpOrd P ops Q S rest a' w')(hi:ops[i]? =some o:=by rfl)(hw:Region.wanted o (yielded ops a.tmps)=true:=by rfl)(hx:∀ K:Act→World→Prop,K a' w'→o.wp P a w K (calm Q):=by(intro K hK;go_simp;(try simp only[Act.put,zp]);exact hK))(hs:S w':=by exact exI):wpOrd P ops Q S (.a i rest) a w:=wpOrd_act hi hw fun _ hK=>hx _ (hK _ _ ⟨hs,h⟩)
theorem oD(h:wpOrd P ops Q S rest a' w')(hi:ops[i]? =some o:=by rfl)(hw:Region.wanted o (yielded ops a.tmps)=true:=by rfl)(hx:∀ K:Act→World→Prop,K a' w'→o.wp P a w K (calm Q):=by(intro K hK;go_simp;(try simp only[Act.put,zp]);exact hK))(hs:S w':=by exact keepI):wpOrd P ops Q S (.a i rest) a w:=wpOrd_act hi hw fun _ hK=>hx _ (hK _ _ ⟨hs,h⟩)
theorem oG(h:wpOrd P ops Q S rest a' w')(hi:ops[i]? =some o:=by rfl)(hw:Region.wanted o (yielded ops a.tmps)=true:=by rfl)(hx:∀ K:Act→World→Prop,K a' w'→o.wp P a w K (calm Q):=by(intro K hK;go_simp;(try simp only[Act.put,zp]);exact hK))(hs:S w':=by repeat(first|with_reducible exact Kept.refl _ _ _|with_reducible assumption|with_reducible apply Kept.drew|with_reducible apply Kept.alloc|with_reducible apply Kept.ext|(with_reducible refine Kept.cells ?_ ?_;rotate_left;focus(first|exact .inl rfl|exact .inr (.inl rfl)|(refine .inr (.inr ?_);simp only[zs];omega)|omega))|(with_reducible refine Kept.set ?_ ?_;rotate_left;focus(first|exact .inl rfl|exact .inr (.inl rfl)|(refine .inr (.inr ?_);simp only[zs];omega)|omega)))):wpOrd P ops Q S (.a i rest) a w:=wpOrd_act hi hw fun _ hK=>hx _ (hK _ _ ⟨hs,h⟩)
end
end Go.Proofs.YtekjdeibnfaehaaGreat
namespace Go.Proofs.YtekjdeibnfaehaaGreat
open Go.RowKit
structure Rec where
 ao:Int
 sq:Int
 kind:Int
 ship:Int
 day:Int
 known:Int
 wo:Int
 ws:Int
 to:Int
 til:Int
 text:ByteArray
abbrev encRec(r:Rec):List Value:=[.int .i64 r.ao,.int .i64 r.sq,.int .i64 r.kind,.int .i64 r.ship,.int .i64 r.day,.int .i64 r.known,.int .i64 r.wo,.int .i64 r.ws,.int .i64 r.to,.int .i64 r.til,.string r.text]
abbrev recV(r:Rec):Value:=.agg #[.int .i64 r.ao,.int .i64 r.sq,.int .i64 r.kind,.int .i64 r.ship,.int .i64 r.day,.int .i64 r.known,.int .i64 r.wo,.int .i64 r.ws,.int .i64 r.to,.int .i64 r.til,.string r.text]
def plcEqB(a b c d:Int):Bool:=decide (a=c)&&decide (b=d)
def recEqB(r s:Rec):Bool:=decide (r.ao=s.ao)&&decide (r.sq=s.sq)&&decide (r.kind=s.kind)&&decide (r.ship=s.ship)&&decide (r.day=s.day)&&decide (r.known=s.known)&&decide (r.wo=s.wo)&&decide (r.ws=s.ws)&&decide (r.to=s.to)&&decide (r.til=s.til)&&decide (r.text.toList=s.text.toList)
theorem plcEqB_iff{a b c d:Int}:plcEqB a b c d=true↔a=c∧b=d:=by simp[plcEqB]
theorem toList_inj{s t:ByteArray}(h:s.toList=t.toList):s=t:=by
 rw[ByteArray.toList_eq,ByteArray.toList_eq] at h
 obtain⟨⟨x⟩⟩:=s
 obtain⟨⟨y⟩⟩:=t
 simpa using h
theorem recEqB_iff{r s:Rec}:recEqB r s=true↔r=s:=by
 constructor
 ·intro h
  simp only[recEqB,Bool.and_eq_true,decide_eq_true_eq] at h
  obtain⟨⟨⟨⟨⟨⟨⟨⟨⟨⟨h0,h1⟩,h2⟩,h3⟩,h4⟩,h5⟩,h6⟩,h7⟩,h8⟩,h9⟩,h10⟩:=h
  cases r;cases s
  simp only at h0 h1 h2 h3 h4 h5 h6 h7 h8 h9 h10
  rw[h0,h1,h2,h3,h4,h5,h6,h7,h8,h9,toList_inj h10]
 ·rintro rfl
  simp[recEqB]
theorem ite_ok(c:Prop)[Decidable c](x:Bool)(w:World):(if c then Result.ok (Value.bool x) w else Result.ok (Value.bool false) w)=Result.ok (Value.bool (decide c&&x)) w:=by
 by_cases h:c <;> simp[h]
theorem ite_ok'(c:Prop)[Decidable c](x:Bool)(w:World):(if c then Result.ok (Value.bool (!x)) w else Result.ok (Value.bool true) w)=Result.ok (Value.bool (!(decide c&&x))) w:=by
 by_cases h:c <;> simp[h]
theorem ite_ok0(c:Prop)[Decidable c](w:World):(if c then Result.ok (Value.bool false) w else Result.ok (Value.bool true) w)=Result.ok (Value.bool (!(decide c&&true))) w:=by
 by_cases h:c <;> simp[h]
section
open Op
@[go_sem ↓] theorem run_eql_place(a b c d:Int)(w:World):(binOp .eql 44 (.agg #[.int .i64 a,.int .i64 b]) (.agg #[.int .i64 c,.int .i64 d])).run Tryz.prog w= .ok (.bool (plcEqB a b c d)) w:=by
 by_cases h1:a=c <;> by_cases h2:b=d <;> simp[go_sem,plcEqB,h1,h2]
@[go_sem ↓] theorem run_neq_place(a b c d:Int)(w:World):(binOp .neq 44 (.agg #[.int .i64 a,.int .i64 b]) (.agg #[.int .i64 c,.int .i64 d])).run Tryz.prog w= .ok (.bool (!plcEqB a b c d)) w:=by
 by_cases h1:a=c <;> by_cases h2:b=d <;> simp[go_sem,plcEqB,h1,h2]
@[go_sem ↓] theorem run_eql_rec(a0 a1 a2 a3 a4 a5 a6 a7 a8 a9 b0 b1 b2 b3 b4 b5 b6 b7 b8 b9:Int)(s t:ByteArray)(w:World):
 (binOp .eql 46 (.agg #[.int .i64 a0,.int .i64 a1,.int .i64 a2,.int .i64 a3,.int .i64 a4,.int .i64 a5,.int .i64 a6,.int .i64 a7,.int .i64 a8,.int .i64 a9,.string s]) (.agg #[.int .i64 b0,.int .i64 b1,.int .i64 b2,.int .i64 b3,.int .i64 b4,.int .i64 b5,.int .i64 b6,.int .i64 b7,.int .i64 b8,.int .i64 b9,.string t])).run Tryz.prog w= .ok (.bool (recEqB ⟨a0,a1,a2,a3,a4,a5,a6,a7,a8,a9,s⟩ ⟨b0,b1,b2,b3,b4,b5,b6,b7,b8,b9,t⟩)) w:=by
 simp[go_sem]
 simp only[ite_ok]
 simp[recEqB,Bool.and_assoc]
@[go_sem ↓] theorem run_eql_rec2(a0 a1 a2 a3 a4 a5 a6 a7 a8 a9 b0 b1 b2 b3 b4 b5 b6 b7 b8 b9:Int)(s t:ByteArray)(w:World):
 (binOp .eql 197 (.agg #[.int .i64 a0,.int .i64 a1,.int .i64 a2,.int .i64 a3,.int .i64 a4,.int .i64 a5,.int .i64 a6,.int .i64 a7,.int .i64 a8,.int .i64 a9,.string s]) (.agg #[.int .i64 b0,.int .i64 b1,.int .i64 b2,.int .i64 b3,.int .i64 b4,.int .i64 b5,.int .i64 b6,.int .i64 b7,.int .i64 b8,.int .i64 b9,.string t])).run Tryz.prog w= .ok (.bool (recEqB ⟨a0,a1,a2,a3,a4,a5,a6,a7,a8,a9,s⟩ ⟨b0,b1,b2,b3,b4,b5,b6,b7,b8,b9,t⟩)) w:=by
 simp[go_sem]
 simp only[ite_ok]
 simp[recEqB,Bool.and_assoc]
@[go_sem ↓] theorem run_neq_rec(a0 a1 a2 a3 a4 a5 a6 a7 a8 a9 b0 b1 b2 b3 b4 b5 b6 b7 b8 b9:Int)(s t:ByteArray)(w:World):
 (binOp .neq 46 (.agg #[.int .i64 a0,.int .i64 a1,.int .i64 a2,.int .i64 a3,.int .i64 a4,.int .i64 a5,.int .i64 a6,.int .i64 a7,.int .i64 a8,.int .i64 a9,.string s]) (.agg #[.int .i64 b0,.int .i64 b1,.int .i64 b2,.int .i64 b3,.int .i64 b4,.int .i64 b5,.int .i64 b6,.int .i64 b7,.int .i64 b8,.int .i64 b9,.string t])).run Tryz.prog w= .ok (.bool (!recEqB ⟨a0,a1,a2,a3,a4,a5,a6,a7,a8,a9,s⟩ ⟨b0,b1,b2,b3,b4,b5,b6,b7,b8,b9,t⟩)) w:=by
 simp[go_sem]
 simp only[ite_ok0,ite_ok']
 simp[recEqB,Bool.and_assoc]
@[go_sem ↓] theorem run_neq_rec2(a0 a1 a2 a3 a4 a5 a6 a7 a8 a9 b0 b1 b2 b3 b4 b5 b6 b7 b8 b9:Int)(s t:ByteArray)(w:World):
 (binOp .neq 197 (.agg #[.int .i64 a0,.int .i64 a1,.int .i64 a2,.int .i64 a3,.int .i64 a4,.int .i64 a5,.int .i64 a6,.int .i64 a7,.int .i64 a8,.int .i64 a9,.string s]) (.agg #[.int .i64 b0,.int .i64 b1,.int .i64 b2,.int .i64 b3,.int .i64 b4,.int .i64 b5,.int .i64 b6,.int .i64 b7,.int .i64 b8,.int .i64 b9,.string t])).run Tryz.prog w= .ok (.bool (!recEqB ⟨a0,a1,a2,a3,a4,a5,a6,a7,a8,a9,s⟩ ⟨b0,b1,b2,b3,b4,b5,b6,b7,b8,b9,t⟩)) w:=by
 simp[go_sem]
 simp only[ite_ok0,ite_ok']
 simp[recEqB,Bool.and_assoc]
end
def Sl(k:Nat)(w:World)(A:Option Addr)(n:Nat)(xs:List Value):Prop:=
 xs.length=n * k∧(0<n→∃ g o,A=some ⟨g,o,none⟩∧g<w.heap.size∧∀ j u,xs[j]? =some u→w.cell? ⟨g,o+j,none⟩=some u)
section
variable{k:Nat}{w:World}{A:Option Addr}{n:Nat}{xs:List Value}
theorem Sl.ext(h:Sl k w A n xs)(E:Array Obj)(d:Nat):Sl k (w.ext E d) A n xs:=
 ⟨h.1,fun hn=>by
  obtain⟨g,o,hA,hg,hc⟩:=h.2 hn
  exact⟨g,o,hA,by simp;omega,fun j u hu=>by rw[cell?_ext _ _ _ _ _ _ hg];exact hc j u hu⟩⟩
theorem Sl.alloc(h:Sl k w A n xs)(ob:Obj):Sl k (w.alloc ob) A n xs:=
 ⟨h.1,fun hn=>by
  obtain⟨g,o,hA,hg,hc⟩:=h.2 hn
  exact⟨g,o,hA,by simp;omega,fun j u hu=>by rw[World.cell?_alloc_lt _ _ _ hg];exact hc j u hu⟩⟩
theorem Sl.of_ext{w':World}(h:Sl k w A n xs)(hx:Ext w w'):Sl k w' A n xs:=by
 obtain⟨E,d,rfl⟩:=hx
 exact h.ext E d
end
def Recs(w:World)(A:Option Addr)(l:List Rec):Prop:=Sl 11 w A l.length (l.flatMap encRec)
theorem flatMap_get{α:Type}(enc:α→List Value)(k:Nat)(hk:∀ x,(enc x).length=k):∀ (l:List α) (i j:Nat) (hi:i<l.length),j<k→
 (l.flatMap enc)[i * k+j]? =(enc l[i])[j]?
 | x::l,0,j,_,hj=>by
  simp only[List.flatMap_cons,Nat.zero_mul,Nat.zero_add,List.getElem_cons_zero]
  rw[List.getElem?_append_left (by rw[hk];exact hj)]
 | x::l,i+1,j,hi,hj=>by
  simp only[List.flatMap_cons,List.getElem_cons_succ]
  rw[List.getElem?_append_right (by rw[hk,Nat.add_mul];omega),hk,show(i+1) * k+j-k=i * k+j from by rw[Nat.add_mul];omega]
  exact flatMap_get enc k hk l i j (by simpa using hi) hj
theorem Recs.ext{w:World}{A:Option Addr}{l:List Rec}(h:Recs w A l)(E:Array Obj)(d:Nat):Recs (w.ext E d) A l:=Sl.ext h E d
theorem Recs.alloc{w:World}{A:Option Addr}{l:List Rec}(h:Recs w A l)(o:Obj):Recs (w.alloc o) A l:=Sl.alloc h o
theorem Recs.drew{w:World}{A:Option Addr}{l:List Rec}(h:Recs w A l):Recs w.drew A l:=h
theorem Recs.at_{w:World}{A:Option Addr}{l:List Rec}(h:Recs w A l){i:Nat}(hi:i<l.length):
 ∃g o,A=some ⟨g,o,none⟩∧g<w.heap.size∧∀ j u,(encRec l[i])[j]? =some u→w.cell? ⟨g,o+i * 11+j,none⟩=some u:=by
 obtain⟨g,o,hA,hg,hc⟩:=h.2 tB
 refine⟨g,o,hA,hg,fun j u hu=> ?_⟩
 have hj:j<11:=by
  have:=(List.getElem?_eq_some_iff.1 hu).1
  simpa using this
 rw[Nat.add_assoc]
 exact hc _ u (by rw[flatMap_get encRec 11 (fun _=>rfl) l i j hi hj];exact hu)
end Go.Proofs.YtekjdeibnfaehaaGreat
namespace Go.Proofs.YtekjdeibnfaehaaGreat
open Go.RowKit
def inB(n lo hi:Int):Bool:=decide (lo≤n)&&decide (n≤hi)
theorem ret_val{a b:Value}(h:a=b):Ending.returned a= .returned b:=by rw[h]
set_option maxHeartbeats 400000 in
theorem in_any(a b c:Int)(w:World):
 Calls Tryz.prog 117 #[.int .i64 a,.int .i64 b,.int .i64 c] w fun e w'=>e= .returned (.bool (inB a b c))∧w=w':=by
 go_enter Tryz.func117,Tryz.ntmps117
 go_wp2_with fail
 all_goals
  go_ret
  refine⟨ret_val ?_,rfl⟩
  show Value.bool _=_
  simp[inB]
  try omega
set_option maxHeartbeats 400000 in
theorem isOffice_any(a:Int)(w:World):
 Calls Tryz.prog 97 #[.int .i64 a] w fun e w'=>e= .returned (.bool (inB a 0 8))∧w=w':=by
 go_enter Tryz.func97,Tryz.ntmps97
 go_wp2_with (go_at_call 117;refine(in_any _ _ _ _).mono ?_;rintro e w1 ⟨rfl,rfl⟩)
 go_ret
 exact⟨rfl,rfl⟩
set_option maxHeartbeats 400000 in
theorem isShip_any(a:Int)(w:World):
 Calls Tryz.prog 87 #[.int .i64 a] w fun e w'=>e= .returned (.bool (inB a 1 999))∧w=w':=by
 go_enter Tryz.func87,Tryz.ntmps87
 go_wp2_with (go_at_call 117;refine(in_any _ _ _ _).mono ?_;rintro e w1 ⟨rfl,rfl⟩)
 go_ret
 exact⟨rfl,rfl⟩
set_option maxHeartbeats 400000 in
theorem isDay_any(a:Int)(w:World):
 Calls Tryz.prog 88 #[.int .i64 a] w fun e w'=>e= .returned (.bool (inB a 0 100000))∧w=w':=by
 go_enter Tryz.func88,Tryz.ntmps88
 go_wp2_with (go_at_call 117;refine(in_any _ _ _ _).mono ?_;rintro e w1 ⟨rfl,rfl⟩)
 go_ret
 exact⟨rfl,rfl⟩
def isPlaceB(o s:Int):Bool:=inB o 0 8&&inB s 0 9999
set_option maxHeartbeats 400000 in
theorem isPlace_any(o s:Int)(w:World):
 Calls Tryz.prog 139 #[.agg #[.int .i64 o,.int .i64 s]] w fun e w'=>e= .returned (.bool (isPlaceB o s))∧Ext w w':=by
 go_enter Tryz.func139,Tryz.ntmps139
 go_wp2_with (first|(go_at_call 97;refine(isOffice_any _ _).mono ?_;rintro e w1 ⟨rfl,rfl⟩)|(go_at_call 117;refine(in_any _ _ _ _).mono ?_;rintro e w1 ⟨rfl,rfl⟩))
 all_goals
  go_ret
  refine⟨ret_val ?_,exI⟩
  show Value.bool _=_
  simp[isPlaceB, *]
def cmpI(a b:Int):Int:=if a<b then -1 else if b<a then 1 else 0
set_option maxHeartbeats 400000 in
theorem isNaN_any(a:Int)(w:World):
 Calls Tryz.prog 176 #[.int .i64 a] w fun e w'=>e= .returned (.bool false)∧w=w':=by
 go_enter Tryz.func176,Tryz.ntmps176
 go_wp2_with fail
 go_ret
 simp
set_option maxHeartbeats 400000 in
theorem Compare_any(a b:Int)(w:World):
 Calls Tryz.prog 157 #[.int .i64 a,.int .i64 b] w fun e w'=>e= .returned (.int .i64 (cmpI a b))∧w=w':=by
 go_enter Tryz.func157,Tryz.ntmps157
 go_wp2_with (go_at_call 176;refine(isNaN_any _ _).mono ?_;rintro e w1 ⟨rfl,rfl⟩)
 all_goals
  go_ret
  refine⟨ret_val ?_,rfl⟩
  show Value.int .i64 _=_
  simp only[cmpI]
  first|rw[if_pos tF]|rw[if_neg tB,if_pos tF]|rw[if_neg tB,if_neg tB]
def orI(a b:Int):Int:=if a=0 then b else a
set_option maxHeartbeats 400000 in
theorem Or2_any(a b:Int)(g o c:Nat)(w:World)(h0:w.cell? ⟨g,o,none⟩=some (.int .i64 a))(h1:w.cell? ⟨g,o+1,none⟩=some (.int .i64 b)):
 Calls Tryz.prog 156 #[.slice (some ⟨g,o,none⟩) 2 c] w fun e w'=>e= .returned (.int .i64 (orI a b))∧w=w':=by
 unfold orI
 by_cases ha:a=0
 ·subst ha
  by_cases hb:b=0
  ·subst hb
   go_enter Tryz.func156,Tryz.ntmps156
   go_wp2_with fail
   refine wp_loop_rounds 3 ?_
   rw[rounds_succ];go_wp2
   rw[rounds_succ];go_wp2
   rw[rounds_succ];go_wp2
   go_ret
   exact⟨rfl,rfl⟩
  ·have hb':(b != 0)=true:=by simpa using hb
   go_enter Tryz.func156,Tryz.ntmps156
   go_wp2_with fail
   refine wp_loop_rounds 3 ?_
   rw[rounds_succ];go_wp2
   rw[rounds_succ];go_wp2
   go_ret
   exact⟨rfl,rfl⟩
 ·have ha':(a != 0)=true:=by simpa using ha
  rw[if_neg ha]
  go_enter Tryz.func156,Tryz.ntmps156
  go_wp2_with fail
  refine wp_loop_rounds 3 ?_
  rw[rounds_succ];go_wp2
  go_ret
  exact⟨rfl,rfl⟩
def cmpP(o1 s1 o2 s2:Int):Int:=orI (cmpI o1 o2) (cmpI s1 s2)
set_option maxHeartbeats 1000000 in
theorem compare_any(o1 s1 o2 s2:Int)(w:World):
 Calls Tryz.prog 122 #[.agg #[.int .i64 o1,.int .i64 s1],.agg #[.int .i64 o2,.int .i64 s2]] w
  fun e w'=>e= .returned (.int .i64 (cmpP o1 s1 o2 s2))∧Ext w w':=by
 go_enter Tryz.func122,Tryz.ntmps122
 go_wp2_with fail
 refine wp_region_ord_same (.f 0 (.f 1 (.f 2 (.f 3 (.f 5 (.f 6 (.f 7 (.f 8 (.a 4 (.a 9 (.a 10 (.a 11 (.f 12 .d))))))))))))) tG tG ?_
 refine oR ?_
 refine wpOrd_call rfl rfl rfl Tryz.call157 (fun R hR=> ?_)
 go_simp
 refine(Compare_any _ _ _).mono ?_
 rintro e w1 ⟨rfl,rfl⟩
 refine hR _ _ ⟨_,rfl,?_,?_⟩
 ·exact tH
 clear hR R
 simp only[Act.put,zp]
 refine wpOrd_call rfl rfl rfl Tryz.call157 (fun R hR=> ?_)
 go_simp
 refine(Compare_any _ _ _).mono ?_
 rintro e w1 ⟨rfl,rfl⟩
 refine hR _ _ ⟨_,rfl,?_,?_⟩
 ·exact tH
 clear hR R
 simp only[Act.put,zp]
 refine wpOrd_act rfl rfl (fun K hK=> ?_)
 go_simp
 refine hK _ _ ⟨?_,?_⟩
 ·exact tH
 clear hK K
 try simp only[Act.put,zp]
 refine wpOrd_call rfl rfl rfl Tryz.call156 (fun R hR=> ?_)
 go_simp
 refine(Or2_any (cmpI o1 o2) (cmpI s1 s2) _ _ _ _ tI tI).mono ?_
 rintro e w1 ⟨rfl,rfl⟩
 refine hR _ _ ⟨_,rfl,?_,?_⟩
 ·exact tH
 clear hR R
 simp only[Act.put,zp]
 refine oR ?_
 refine wpOrd_nil ?_
 go_wp2
 go_ret
 exact⟨rfl,exI⟩
end Go.Proofs.YtekjdeibnfaehaaGreat
namespace Go.Proofs.YtekjdeibnfaehaaGreat
open Go.RowKit
def homeI(ship:Int):Int:=if inB ship 1 999=true then ship % 9 else -1
set_option maxHeartbeats 400000 in
theorem Home_any(ship:Int)(w:World):
 Calls Tryz.prog 54 #[.int .i64 ship] w fun e w'=>e= .returned (.int .i64 (homeI ship))∧w=w':=by
 by_cases h:inB ship 1 999=true
 ·have h':0≤ship:=by unfold inB at h;simp at h;omega
  have hr:homeI ship=ship % 9:=by rw[homeI,if_pos h]
  go_enter Tryz.func54,Tryz.ntmps54
  go_wp2_with (go_at_call 87;refine(isShip_any _ _).mono ?_;rintro e w1 ⟨rfl,rfl⟩)
  go_ret
  exact⟨ret_val (by rw[hr];rfl),rfl⟩
 ·have hr:homeI ship= -1:=by rw[homeI,if_neg h]
  have h:=eq_false_of_ne_true h
  go_enter Tryz.func54,Tryz.ntmps54
  go_wp2_with (go_at_call 87;refine(isShip_any _ _).mono ?_;rintro e w1 ⟨rfl,rfl⟩)
  go_ret
  exact⟨ret_val (by rw[hr];rfl),rfl⟩
def withdrawB(r:Rec):Bool:=isPlaceB r.wo r.ws&&decide (r.wo=r.ao)&&decide (r.ws<r.sq)&&decide (r.ship=0)&&decide (r.day=0)&&decide (r.to=0)&&decide (r.til=0)&&decide (r.text.toList=[])
set_option maxHeartbeats 1000000 in
theorem withdraws_any(r:Rec)(w:World):
 Calls Tryz.prog 161 #[recV r] w fun e w'=>e= .returned (.bool (withdrawB r))∧Ext w w':=by
 go_enter Tryz.func161,Tryz.ntmps161
 go_wp2_with (go_at_call 139;refine(isPlace_any _ _ _).mono ?_;rintro e w1 ⟨rfl,E,d,rfl⟩)
 all_goals
  go_ret
  refine⟨ret_val ?_,exI⟩
  show Value.bool _=_
  have hl1:∀ a b:Int,b≤a→decide (a<b)=false:=fun a b h=>by simpa using h
  first|(simp[withdrawB,recEqB, *];done)|(simp_all [withdrawB,recEqB];done)
def minI(a b:Int):Int:=if b<a then b else a
def leaseB(r:Rec):Bool:=inB r.ship 1 999&&decide (homeI r.ship=r.ao)&&inB r.to 0 8&&inB r.til r.day (minI 100000 (r.day+399))&&decide (r.wo=0)&&decide (r.ws=0)&&decide (r.text.toList=[])
set_option maxHeartbeats 1000000 in
theorem leases_any(r:Rec)(hd:0≤r.day)(hd':r.day≤100000)(w:World):
 Calls Tryz.prog 162 #[recV r] w fun e w'=>e= .returned (.bool (leaseB r))∧Ext w w':=by
 have hw1:IntKind.i64.wrap (r.day+400)=r.day+400:=IntWalk.i64_in _ tB
 have hw2:IntKind.i64.wrap (r.day+400-1)=r.day+399:=by rw[show r.day+400-1=r.day+399 from by omega];exact IntWalk.i64_in _ tB
 have hmin:(if r.day+399<100000 then r.day+399 else 100000)=minI 100000 (r.day+399):=rfl
 go_enter Tryz.func162,Tryz.ntmps162
 go_wp2_with fail
 refine wp_region_ord_same (.f 0 (.f 1 (.a 2 (.f 3 (.f 4 (.f 5 (.f 6 (.f 8 (.f 9 (.f 10 (.a 7 (.f 11 (.f 12 (.f 13 (.f 14 (.f 15 (.a 16 (.f 17 (.f 18 (.f 19 (.f 20 (.f 21 (.f 22 (.f 23 (.f 24 (.f 25 (.f 26 (.f 27 (.f 28 (.a 29 (.f 30 (.f 31 .d)))))))))))))))))))))))))))))))) tG tG ?_
 refine oR ?_
 refine wpOrd_call rfl rfl rfl Tryz.call87 (fun R hR=> ?_)
 go_simp
 refine(isShip_any _ _).mono ?_
 rintro e w1 ⟨rfl,rfl⟩
 refine hR _ _ ⟨_,rfl,?_,?_⟩
 ·exact tH
 clear hR R
 simp only[Act.put,zp]
 refine oR ?_
 refine ord_bool (j:=4) rfl (fun hb4=> ?_) (fun hb4=> ?_)
 rotate_left
 focus
  try(exfalso;first|(simp at hb4;done)|(simp at hb4;omega))
  all_goals
   (try simp only[hb4])
   refine oR ?_
   refine wpOrd_call rfl rfl rfl Tryz.call54 (fun R hR=> ?_)
   go_simp
   refine(Home_any _ _).mono ?_
   rintro e w1 ⟨rfl,rfl⟩
   refine hR _ _ ⟨_,rfl,?_,?_⟩
   ·exact tH
   clear hR R
   simp only[Act.put,zp]
   refine oR ?_
   refine ord_bool (j:=13) rfl (fun hb13=> ?_) (fun hb13=> ?_)
   rotate_left
   focus
    try(exfalso;first|(simp at hb13;done)|(simp at hb13;omega))
    all_goals
     (try simp only[hb13])
     refine oR ?_
     refine wpOrd_call rfl rfl rfl Tryz.call97 (fun R hR=> ?_)
     go_simp
     refine(isOffice_any _ _).mono ?_
     rintro e w1 ⟨rfl,rfl⟩
     refine hR _ _ ⟨_,rfl,?_,?_⟩
     ·exact tH
     clear hR R
     simp only[Act.put,zp]
     refine oR ?_
     refine ord_bool (j:=19) rfl (fun hb19=> ?_) (fun hb19=> ?_)
     rotate_left
     focus
      try(exfalso;first|(simp at hb19;done)|(simp at hb19;omega))
      all_goals
       (try simp only[hb19])
       refine oR ?_
       refine wpOrd_call rfl rfl rfl Tryz.call117 (fun R hR=> ?_)
       go_simp
       refine(in_any _ _ _ _).mono ?_
       rintro e w1 ⟨rfl,rfl⟩
       refine hR _ _ ⟨_,rfl,?_,?_⟩
       ·exact tH
       clear hR R
       simp only[Act.put,zp]
       refine oR ?_
       refine wpOrd_nil ?_
     rotate_right
     focus
      try(exfalso;first|(simp at hb19;done)|(simp at hb19;omega))
      all_goals
       (try simp only[hb19])
       refine oR ?_
       refine wpOrd_actPass rfl rfl ?_ ?_
       ·exact tH
       simp only[Act.put,zp]
       refine oR ?_
       refine wpOrd_nil ?_
   rotate_right
   focus
    try(exfalso;first|(simp at hb13;done)|(simp at hb13;omega))
    all_goals
     (try simp only[hb13])
     refine oR ?_
     refine wpOrd_actPass rfl rfl ?_ ?_
     ·exact tH
     simp only[Act.put,zp]
     refine oR ?_
     refine wpOrd_actPass rfl rfl ?_ ?_
     ·exact tH
     simp only[Act.put,zp]
     refine oR ?_
     refine wpOrd_nil ?_
 rotate_right
 focus
  try(exfalso;first|(simp at hb4;done)|(simp at hb4;omega))
  all_goals
   (try simp only[hb4])
   refine oR ?_
   refine wpOrd_actPass rfl rfl ?_ ?_
   ·exact tH
   simp only[Act.put,zp]
   refine oR ?_
   refine wpOrd_actPass rfl rfl ?_ ?_
   ·exact tH
   simp only[Act.put,zp]
   refine oR ?_
   refine wpOrd_actPass rfl rfl ?_ ?_
   ·exact tH
   simp only[Act.put,zp]
   refine oR ?_
   refine wpOrd_nil ?_
 all_goals go_wp2_with fail
 all_goals
  go_ret
  refine⟨ret_val ?_,exI⟩
  show Value.bool _=_
  first|(simp[leaseB,recEqB, *];done)|(simp_all [leaseB,recEqB];done)
def eventB(r:Rec):Bool:=inB r.ship 1 999&&decide (r.wo=0)&&decide (r.ws=0)&&decide (r.to=0)&&decide (r.til=0)
set_option maxHeartbeats 1000000 in
theorem tells_any(r:Rec)(w:World):
 Calls Tryz.prog 143 #[recV r] w fun e w'=>e= .returned (.bool (eventB r))∧Ext w w':=by
 go_enter Tryz.func143,Tryz.ntmps143
 go_wp2_with (go_at_call 87;refine(isShip_any _ _).mono ?_;rintro e w1 ⟨rfl,rfl⟩)
 all_goals
  go_ret
  refine⟨ret_val ?_,exI⟩
  show Value.bool _=_
  first|(simp[eventB,recEqB, *];done)|(simp_all [eventB,recEqB];done)
end Go.Proofs.YtekjdeibnfaehaaGreat
