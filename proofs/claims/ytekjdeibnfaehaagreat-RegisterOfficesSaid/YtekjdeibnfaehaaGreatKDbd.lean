/- Texts of a proof. -/
import Derived.Test.YtekjdeibnfaehaaGreatKDax
import Derived.Test.YtekjdeibnfaehaaGreatKDaw
import Derived.Test.YtekjdeibnfaehaaGreatKDbc
set_option linter.unusedSimpArgs false
set_option linter.unusedVariables false
namespace Go.Proofs.YtekjdeibnfaehaaGreat
open Go Go.RowKit
def apO(O:OffD)(r:Rec):OffD:=if appE O.d O.m r=0 then apdO O r else noOff
set_option maxRecDepth 100000 in
set_option maxHeartbeats 16000000 in
theorem appended_any(O:OffD)(L:OffL)(w:World)(r:Rec)(h:OffY w O L)(ho:offOk O=true)(htx:r.text.size≤9223372036854775807):
 Calls Tryz.prog 103 #[offV O L,recV r] w fun e w'=> ∃L',e= .returned (.tuple #[offV (apO O r) L',.int .i64 (appE O.d O.m r)])∧OffU w.heap.size w' (apO O r) L'∧Ext w w':=by
 have hk:=h.ok ho
 have hm:=h.l
 have H:=hid h
 have Hk:=hid hk
 clear h hk
 obtain⟨j,hjv⟩:∃ j,appE O.d O.m r=j:=⟨_,rfl⟩
 have Hj:=hid hjv
 obtain⟨B,hB⟩:∃ B:Nat,w.heap.size=B:=⟨_,rfl⟩
 have HB:=hid hB
 by_cases hj0:j=0
 ·subst hj0
  have hap:apO O r=apdO O r:=by rw[apO,if_pos hjv]
  rw[hap,hjv]
  clear hap hjv hB
  go_enter Tryz.func103,Tryz.ntmps103
  go_wp2_with fail
  refine(calls_at (add_all L.A0 L.n0 L.c0 L.A1 L.n1 L.c1 O.d L.Am L.nm L.cm O.m r hm Hk.out.mo htx _ ⟨H.out.d.l0,H.out.d.l1,H.out.d.h0,H.out.d.h1,H.out.d.k0,H.out.d.k1,H.out.d.b0.of_ext exI,H.out.d.b1.of_ext exI⟩ (H.out.r.of_ext exI)) tE).mono ?_
  rintro e P1 ⟨rfl,x1,hres⟩
  have X1:Hid (Ext w P1):=hid (Ext.trans exI x1)
  have b2:BoxC P1 B (offC O L) 76:=BoxC.of_ext (((BoxC.new_at _ _ HB.out.symm).alloc _).alloc _) x1
  have b4:BoxC P1 (B+2) (offC noOff zL) 76:=BoxC.of_ext (BoxC.new_at _ _ Th) x1
  have z1:Hid (B+3≤P1.heap.size):=hid Tg
  have hr:=hid hres
  rw[Hj.out]
  have l2:=b2.lt
  have c2:=b2.c17
  have l4:rowLen P1 (B+2)=17:=b4.len
  have V2:=hid b2
  have V4:=hid b4
  clear b2 b4 x1 hres
  simp only[HB.out]
  go_wp2_with fail
  obtain⟨B0,m0,d0,B1,m1,d1,Ag,ng,cg,hbx,hdA,hmA,hng⟩:=hr.out Hj.out
  simp only[World.size_alloc,HB.out] at hbx hdA hmA
  have hlow:Hid ((0<m0→∀ a,B0=some a→a.block<P1.heap.size)∧(0<m1→∀ a,B1=some a→a.block<P1.heap.size)∧(0<ng→∀ a,Ag=some a→a.block<P1.heap.size)):=hid ⟨fun h a ha=>sl_low hdA.b0.1 (by rw[hdA.l0];exact h) ha,fun h a ha=>sl_low hdA.b1.1 (by rw[hdA.l1];exact h) ha,fun h a ha=>sl_low hmA.r.1 (by rw[hmA.l];exact h) ha⟩
  have Hng:=hid hng
  have Hz:=hid z1.out
  refine(officeCopy_any O L P1 (H.out.of_ext X1.out) Hk.out.s0 Hk.out.s1 qD (fun i hi=>by have:=Hk.out.k i hi;omega)).mono ?_
  rintro e P2 ⟨L2,rfl,hU,x2⟩
  have x2':=hid x2
  have X2:Hid (Ext w P2):=hid (X1.out.trans x2)
  have hd2:=hid (hdA.of_ext x2)
  have hm2:=hid (hmA.of_ext x2)
  have HU:=hid hU
  have b2:=V2.out.of_ext x2
  have b4:=V4.out.of_ext x2
  have bj:=hbx.of_ext x2
  have k2:rowLen P2 B=17:=b2.len
  have W4:=hid b4
  have Wj:=hid bj
  have W2:=hid b2
  clear hU hng hdA hmA hbx x2 c2 l2 l4 V2 V4 b2 b4 bj
  go_wp2_with fail
  obtain⟨Q,hQ⟩:∃ Q,P2.setCells B 0 (offC O L2)=Q:=⟨_,rfl⟩
  simp only[hQ]
  have bB:BoxC Q B (offC O L2) 76:=by rw[←hQ];exact BoxC.cells _ 0 W2.out (Nat.le_refl _)
  have bj:BoxC Q (B+1+1+1) [.slice B0 m0 d0,.int .i64 (appD O.d O.m r).f0.firm,.slice B1 m1 d1,.int .i64 (appD O.d O.m r).f1.firm,.slice Ag ng cg,.int .i64 (appM O.d O.m r).file,.int .i64 (appM O.d O.m r).gen] 131:=by rw[←hQ];exact BoxC.cellsOther tB _ _ Wj.out
  have l4:rowLen Q (B+1+1)=17:=by rw[←hQ,rowLen_setCells];exact W4.out.len
  have hB:=HB.out
  have XQ:Hid (Ext w Q):=hid (by rw[←hQ];exact Ext.cells _ _ X2.out tB)
  have hdQ:Hid (DrvA (B+1+1+1+1) Q (appD O.d O.m r) B0 m0 d0 B1 m1 d1):=hid (by rw[←hQ];exact hd2.out.cells tB)
  have hmQ:Hid (RecsA (B+1+1+1+1) Q Ag (appM O.d O.m r).recs):=hid (by rw[←hQ];exact SlA.cells tB _ _ hm2.out.r)
  have hz1:=Hz.out
  have hkQ:Hid (KnO P1.heap.size 9 Q L2.k O.kn):=hid (by rw[←hQ];exact HU.out.k.cells tB)
  have hml:=hid hm2.out.l
  clear hQ hB hz1
  have cB:=bB.c17
  have lB:=bB.lt
  have fB:=bB.frozen
  have j0:=bj.cell (i:=0) rfl
  have j1:=bj.cell (i:=1) rfl
  have j2:=bj.cell (i:=2) rfl
  have j3:=bj.cell (i:=3) rfl
  have j4:=bj.cell (i:=4) rfl
  have j5:=bj.cell (i:=5) rfl
  have j6:=bj.cell (i:=6) rfl
  have lj:=bj.lt
  have ne3:¬ (B+1+1+1=B):=by omega
  have ne2:¬ (B+1+1=B):=by omega
  clear bB bj x2' k2 W2 W4 Wj
  refine wp_region_ord_but (B) (.f 0 (.f 1 (.f 2 (.f 3 (.f 4 (.a 5 (.f 6 (.a 7 .d)))))))) tG tG ?_
  refine oR ?_
  refine wpOrd_act rfl rfl (fun K hK=> ?_)
  go_simp
  refine hK _ _ ⟨?_,?_⟩
  ·exact qE
  clear hK K
  try simp only[Act.put,zp]
  refine oR ?_
  refine wpOrd_act rfl rfl (fun K hK=> ?_)
  go_simp
  refine hK _ _ ⟨?_,?_⟩
  ·exact qE
  clear hK K
  try simp only[Act.put,zp]
  refine wpOrd_nil ?_
  go_wp2_with fail
  have hB:=HB.out
  have hz:=Hz.out
  have U0:OffU (B+3) Q (apdO O r) ⟨B0,m0,d0,B1,m1,d1,Ag,ng,cg,L2.k⟩:=OffU.low (N:=P1.heap.size) (hdQ.out.mono tB) hml.out Hng.out (hmQ.out.mono tB) hkQ.out hz hlow.out.1 hlow.out.2.1 hlow.out.2.2
  refine bodyPost_ret (ret_ct rfl rfl (rowLen_setCells.trans (by simp only[rowLen_drew,rowLen_setCell];exact l4)) (rowAt_setCells_same rfl (by simp only[rowLen_drew,rowLen_setCell,l4];decide)) rfl) rfl ?_
  refine⟨⟨B0,m0,d0,B1,m1,d1,Ag,ng,cg,L2.k⟩,rfl,OffU.mono (base:=B+3) (OffU.cells (OffU.drew ?_) tB) tB,Ext.cells _ _ (Ext.drew ?_) tB⟩
  ·repeat refine OffU.set ?_ tB
   exact U0
  ·repeat refine Ext.box ?_ _ _ tB
   exact XQ.out
 ·have hap:apO O r=noOff:=by rw[apO,if_neg (by rw[hjv];exact hj0)]
  rw[hap,hjv]
  have hj2:(j != 0)=true:=by simpa using hj0
  clear hap hj0 hjv hB
  go_enter Tryz.func103,Tryz.ntmps103
  go_wp2_with fail
  refine(calls_at (add_all L.A0 L.n0 L.c0 L.A1 L.n1 L.c1 O.d L.Am L.nm L.cm O.m r hm Hk.out.mo htx _ ⟨H.out.d.l0,H.out.d.l1,H.out.d.h0,H.out.d.h1,H.out.d.k0,H.out.d.k1,H.out.d.b0.of_ext exI,H.out.d.b1.of_ext exI⟩ (H.out.r.of_ext exI)) tE).mono ?_
  rintro e P1 ⟨rfl,x1,hres⟩
  have X1:Hid (Ext w P1):=hid (Ext.trans exI x1)
  have b2:BoxC P1 B (offC O L) 76:=BoxC.of_ext (((BoxC.new_at _ _ HB.out.symm).alloc _).alloc _) x1
  have b4:BoxC P1 (B+2) (offC noOff zL) 76:=BoxC.of_ext (BoxC.new_at _ _ Th) x1
  have z1:Hid (B+3≤P1.heap.size):=hid Tg
  have hr:=hid hres
  rw[Hj.out]
  have l2:=b2.lt
  have c2:=b2.c17
  have l4:rowLen P1 (B+2)=17:=b4.len
  have V2:=hid b2
  have V4:=hid b4
  clear b2 b4 x1 hres
  simp only[HB.out]
  go_wp2_with fail
  refine bodyPost_ret (ret_ct rfl rfl (rowLen_setCells.trans l4) (rowAt_setCells_same rfl qF) rfl) rfl ?_
  have hB:=HB.out
  exact⟨zL,rfl,OffU.zero _ _,Ext.cells _ _ X1.out tB⟩
end Go.Proofs.YtekjdeibnfaehaaGreat
set_option linter.unusedSimpArgs false
set_option linter.unusedVariables false
namespace Go.Proofs.YtekjdeibnfaehaaGreat
open Go Go.RowKit
@[reducible] def recC(r:Rec):List Value:=[.int .i64 r.ao,.int .i64 r.sq,.int .i64 r.kind,.int .i64 r.ship,.int .i64 r.day,.int .i64 r.known,.int .i64 r.wo,.int .i64 r.ws,.int .i64 r.to,.int .i64 r.til,.string r.text]
set_option maxRecDepth 100000 in
set_option maxHeartbeats 16000000 in
theorem Note_any(O:OffD)(L:OffL)(w:World)(r:Rec)(h:OffY w O L)(htx:r.text.size≤9223372036854775807):
 Calls Tryz.prog 40 #[offV O L,recV r] w fun e w'=> ∃L',e= .returned (.tuple #[offV (noteO O r) L',recV (noteR O r),.int .i64 (noteE O r)])∧OffA w.heap.size w' (noteO O r) L'∧Ext w w':=by
 have H:=hid h
 clear h
 obtain⟨B,hB⟩:∃ B:Nat,w.heap.size=B:=⟨_,rfl⟩
 have HB:=hid hB
 obtain⟨j,hj⟩:∃ j,noteE O r=j:=⟨_,rfl⟩
 cases ho:offOk O with
 | false=>
  obtain rfl:76=j:=by rw[←hj,noteE,if_neg qG]
  rw[noteO,noteR,hj,if_neg tN,if_neg tN]
  clear hj hB
  go_enter Tryz.func40,Tryz.ntmps40
  go_wp2_with fail
  refine(isAsOffice_any O L _ (H.out.of_ext exI)).mono ?_
  rintro e P1 ⟨rfl,x1⟩
  rw[ho]
  have X1:Hid (Ext w P1):=hid (Ext.trans exI x1)
  have l4:rowLen P1 (B+1+1)=17:=(BoxC.of_ext ((BoxC.new_at (offC noOff zL) 76 qH).alloc _) x1).len
  have l5:rowLen P1 (B+1+1+1)=11:=(BoxC.of_ext (BoxC.new_at (recC zeroR) 46 qH) x1).len
  simp only[HB.out]
  clear x1
  go_wp2_with fail
  refine bodyPost_ret (ret_cct rfl rfl (rowLen_setCells.trans (rowLen_setCells.trans l4)) ((rowAt_setCells_off tB).trans (rowAt_setCells_same rfl qF)) rfl (rowLen_setCells.trans (rowLen_setCells.trans l5)) (rowAt_setCells_same rfl qI) rfl) rfl ?_
  have hB:=HB.out
  exact⟨zL,rfl,OffA.zero _ _,Ext.cells _ _ (Ext.cells _ _ X1.out tB) tB⟩
 | true=>
  have Hk:=hid (H.out.ok ho)
  cases hkd:(r.kind==1) with
  | true=>
   obtain rfl:75=j:=by rw[←hj,noteE,if_pos ho,if_pos (by simpa using hkd)]
   rw[noteO,noteR,hj,if_neg tN,if_neg tN]
   clear hj hB
   go_enter Tryz.func40,Tryz.ntmps40
   go_wp2_with fail
   refine(isAsOffice_any O L _ (H.out.of_ext exI)).mono ?_
   rintro e P1 ⟨rfl,x1⟩
   rw[ho]
   have X1:Hid (Ext w P1):=hid (Ext.trans exI x1)
   have b2:BoxC P1 B (offC O L) 76:=BoxC.of_ext ((((BoxC.new_at _ _ HB.out.symm).alloc _).alloc _).alloc _) x1
   have b3:BoxC P1 (B+1) (recC r) 46:=BoxC.of_ext (((BoxC.new_at _ _ qH).alloc _).alloc _) x1
   have b4:BoxC P1 (B+1+1) (offC noOff zL) 76:=BoxC.of_ext ((BoxC.new_at _ _ qH).alloc _) x1
   have b5:BoxC P1 (B+1+1+1) (recC zeroR) 46:=BoxC.of_ext (BoxC.new_at _ _ qH) x1
   simp only[HB.out]
   have l4:rowLen P1 (B+1+1)=17:=b4.len
   have l5:rowLen P1 (B+1+1+1)=11:=b5.len
   have c3:=b3.c11
   clear x1 b2 b3 b4 b5
   go_wp2_with fail
   refine bodyPost_ret (ret_cct rfl rfl (rowLen_setCells.trans (rowLen_setCells.trans l4)) ((rowAt_setCells_off tB).trans (rowAt_setCells_same rfl qF)) rfl (rowLen_setCells.trans (rowLen_setCells.trans l5)) (rowAt_setCells_same rfl qI) rfl) rfl ?_
   have hB:=HB.out
   exact⟨zL,rfl,OffA.zero _ _,Ext.cells _ _ (Ext.cells _ _ X1.out tB) tB⟩
  | false=>
   have hE:appE O.d O.m (ownR O r)=j:=by rw[←hj,noteE,if_pos ho,if_neg (by simpa using hkd)]
   have HE:=hid hE
   by_cases hj0:j=0
   ·subst hj0
    have hap:apO O (ownR O r)=apdO O (ownR O r):=by rw[apO,if_pos hE]
    have Hap:=hid hap
    rw[noteO,noteR,hj,if_pos rfl,if_pos rfl]
    clear hj hB hE hap
    go_enter Tryz.func40,Tryz.ntmps40
    go_wp2_with fail
    refine(isAsOffice_any O L _ (H.out.of_ext exI)).mono ?_
    rintro e P1 ⟨rfl,x1⟩
    rw[ho]
    have X1:Hid (Ext w P1):=hid (Ext.trans exI x1)
    have b2:BoxC P1 B (offC O L) 76:=BoxC.of_ext ((((BoxC.new_at _ _ HB.out.symm).alloc _).alloc _).alloc _) x1
    have b3:BoxC P1 (B+1) (recC r) 46:=BoxC.of_ext (((BoxC.new_at _ _ qH).alloc _).alloc _) x1
    have b4:BoxC P1 (B+1+1) (offC noOff zL) 76:=BoxC.of_ext ((BoxC.new_at _ _ qH).alloc _) x1
    have b5:BoxC P1 (B+1+1+1) (recC zeroR) 46:=BoxC.of_ext (BoxC.new_at _ _ qH) x1
    simp only[HB.out]
    have c2:=b2.c17
    have c3:=b3.c11
    have l2:=b2.lt
    have l3:=b3.lt
    have f3:=b3.frozen
    have V3:=hid b3
    have V4:=hid b4
    have V5:=hid b5
    have V2:=hid b2
    clear x1 b2 b3 b4 b5
    go_wp2_with fail
    refine(own_any O L P1 (H.out.of_ext X1.out)).mono ?_
    rintro e P2 ⟨rfl,x2⟩
    have X2:Hid (Ext w P2):=hid (X1.out.trans x2)
    have b2:=V2.out.of_ext x2
    have b3:=V3.out.of_ext x2
    have W4:=hid (V4.out.of_ext x2)
    have W5:=hid (V5.out.of_ext x2)
    clear c2 c3 l2 l3 f3 V2 V3 V4 V5
    have c2:=b2.c17
    have c3:=b3.c11
    have l2:=b2.lt
    have l3:=b3.lt
    have f3:=b3.frozen
    have W3:=hid b3
    clear b2 b3 x2
    go_wp2_with fail
    have hB:=HB.out
    refine(appended_any O L _ (ownR O r) (H.out.of_ext (Ext.box (Ext.box X2.out _ _ tB) _ _ tB)) ho htx).mono ?_
    rintro e P3 ⟨L3,rfl,hU,x3⟩
    rw[Hap.out] at hU
    rw[Hap.out,HE.out]
    have hx3:Ext w P3:=Ext.trans (Ext.box (Ext.box X2.out _ _ tB) _ _ tB) x3
    have X3:=hid hx3
    have q3:BoxC P3 (B+1) (recC (ownR O r)) 46:=BoxC.of_ext (by exact(W3.out.set 0 _).set 1 _) x3
    have q4:=((W4.out.other (b':=B+1) 0 _ tB).other (b':=B+1) 1 _ tB).of_ext x3
    have q5:=((W5.out.other (b':=B+1) 0 _ tB).other (b':=B+1) 1 _ tB).of_ext x3
    have hU':=hU.mono (b:=B+1+1+1+1) (by have:=W5.out.lt;simp only[World.size_setCell];omega)
    obtain⟨B5,hB5⟩:∃ B5,P3.heap.size=B5:=⟨_,rfl⟩
    have lt5:B+1+1+1<B5:=by rw[←hB5];exact q5.lt
    have HU:=hid hU'
    have HB5:=hid hB5
    have l4:rowLen P3 (B+1+1)=17:=q4.len
    have l5:rowLen P3 (B+1+1+1)=11:=q5.len
    have t4:=q4.lt
    have t5:=q5.lt
    have t3:=q3.lt
    have n4:¬ (P3.heap.size=B+1+1):=by omega
    have n5:¬ (P3.heap.size=B+1+1+1):=by omega
    clear hU hU' x3 hx3 c2 c3 l2 l3 f3 W3 W4 W5 hB hB5
    go_wp2_with fail
    simp only[HB5.out]
    obtain⟨Q,hQ⟩:∃ Q,(P3.alloc (.cells #[.int .i64 0,.slice none 0 0,.int .i64 0,.slice none 0 0,.int .i64 0,.slice none 0 0,.int .i64 0,.int .i64 0,.slice none 0 0,.slice none 0 0,.slice none 0 0,.slice none 0 0,.slice none 0 0,.slice none 0 0,.slice none 0 0,.slice none 0 0,.slice none 0 0] 76)).setCells B5 0 (offC (apdO O (ownR O r)) L3)=Q:=⟨_,rfl⟩
    simp only[hQ]
    have hb5:=HB5.out
    have hB:=HB.out
    have XQ3:Ext P3 Q:=by rw[←hQ];exact Ext.cells _ _ (Ext.alloc (Ext.refl _) _) tB
    have m5:rowLen Q B5=17:=by rw[←hQ,rowLen_setCells];exact rowLen_alloc_new hb5.symm
    have r5:rowAt Q B5 0 17=(offC (apdO O (ownR O r)) L3).toArray:=by rw[←hQ];exact rowAt_setCells_same rfl (by rw[rowLen_alloc_new hb5.symm];decide)
    have p3:=q3.of_ext XQ3
    have m3:rowLen Q (B+1)=11:=p3.len
    have r3:rowAt Q (B+1) 0 11=(recC (ownR O r)).toArray:=p3.row
    have m4:rowLen Q (B+1+1)=17:=(q4.of_ext XQ3).len
    have mm5:rowLen Q (B+1+1+1)=11:=(q5.of_ext XQ3).len
    have s5:B5<Q.heap.size:=by rw[←hQ,size_cells,World.size_alloc];omega
    have s3:=p3.lt
    have e1:¬ (B5=B+1+1):=by omega
    have e2:¬ (B5=B+1+1+1):=by omega
    have e3:¬ (B+1=B+1+1):=by omega
    have e4:¬ (B+1=B+1+1+1):=by omega
    have e5:¬ (B=B+1+1):=by omega
    have Qx:=hid XQ3
    clear hQ hb5 hB XQ3 p3 q3 q4 q5 l4 l5 t4 t5 t3 n4 n5 lt5
    refine wp_region_ord (.f 0 (.f 1 (.a 2 (.a 3 (.f 4 .d))))) (Kept (Q) (B+1+1) (B+1+1+1)) tG tG (Kept.refl _ _ _).drew ?_
    refine oT ?_
    refine oG ?_
    refine oG ?_
    refine oT ?_
    refine wpOrd_nil ?_
    go_wp2_with fail
    have hB:=HB.out
    refine bodyPost_ret (ret_cct rfl rfl (by simp only[rowLen_setCells,rowLen_drew];exact m4) ((rowAt_setCells_off tB).trans (rowAt_setCells_same rfl (by simp only[rowLen_drew,m4];decide))) rfl (by simp only[rowLen_setCells,rowLen_drew];exact mm5) (rowAt_setCells_same rfl (by simp only[rowLen_setCells,rowLen_drew,mm5];decide)) rfl) rfl ?_
    refine⟨L3,rfl,OffA.mono (base:=B+1+1+1+1) (OffA.cells (OffA.cells (OffA.drew (HU.out.of_ext Qx.out).a) tB) tB) tB,Ext.cells _ _ (Ext.cells _ _ (Ext.drew (X3.out.trans Qx.out)) tB) tB⟩
   ·have hap:apO O (ownR O r)=noOff:=by rw[apO,if_neg (by rw[hE];exact hj0)]
    have Hap:=hid hap
    have hj2:(j != 0)=true:=by simpa using hj0
    rw[noteO,noteR,hj,if_neg hj0,if_neg hj0]
    clear hj hB hE hap hj0
    go_enter Tryz.func40,Tryz.ntmps40
    go_wp2_with fail
    refine(isAsOffice_any O L _ (H.out.of_ext exI)).mono ?_
    rintro e P1 ⟨rfl,x1⟩
    rw[ho]
    have X1:Hid (Ext w P1):=hid (Ext.trans exI x1)
    have b2:BoxC P1 B (offC O L) 76:=BoxC.of_ext ((((BoxC.new_at _ _ HB.out.symm).alloc _).alloc _).alloc _) x1
    have b3:BoxC P1 (B+1) (recC r) 46:=BoxC.of_ext (((BoxC.new_at _ _ qH).alloc _).alloc _) x1
    have b4:BoxC P1 (B+1+1) (offC noOff zL) 76:=BoxC.of_ext ((BoxC.new_at _ _ qH).alloc _) x1
    have b5:BoxC P1 (B+1+1+1) (recC zeroR) 46:=BoxC.of_ext (BoxC.new_at _ _ qH) x1
    simp only[HB.out]
    have c2:=b2.c17
    have c3:=b3.c11
    have l2:=b2.lt
    have l3:=b3.lt
    have f3:=b3.frozen
    have V3:=hid b3
    have V4:=hid b4
    have V5:=hid b5
    have V2:=hid b2
    clear x1 b2 b3 b4 b5
    go_wp2_with fail
    refine(own_any O L P1 (H.out.of_ext X1.out)).mono ?_
    rintro e P2 ⟨rfl,x2⟩
    have X2:Hid (Ext w P2):=hid (X1.out.trans x2)
    have b2:=V2.out.of_ext x2
    have b3:=V3.out.of_ext x2
    have W4:=hid (V4.out.of_ext x2)
    have W5:=hid (V5.out.of_ext x2)
    clear c2 c3 l2 l3 f3 V2 V3 V4 V5
    have c2:=b2.c17
    have c3:=b3.c11
    have l2:=b2.lt
    have l3:=b3.lt
    have f3:=b3.frozen
    have W3:=hid b3
    clear b2 b3 x2
    go_wp2_with fail
    have hB:=HB.out
    refine(appended_any O L _ (ownR O r) (H.out.of_ext (Ext.box (Ext.box X2.out _ _ tB) _ _ tB)) ho htx).mono ?_
    rintro e P3 ⟨L3,rfl,hU,x3⟩
    rw[Hap.out] at hU
    rw[Hap.out,HE.out]
    have hx3:Ext w P3:=Ext.trans (Ext.box (Ext.box X2.out _ _ tB) _ _ tB) x3
    have X3:=hid hx3
    have q3:BoxC P3 (B+1) (recC (ownR O r)) 46:=BoxC.of_ext (by exact(W3.out.set 0 _).set 1 _) x3
    have q4:=((W4.out.other (b':=B+1) 0 _ tB).other (b':=B+1) 1 _ tB).of_ext x3
    have q5:=((W5.out.other (b':=B+1) 0 _ tB).other (b':=B+1) 1 _ tB).of_ext x3
    have hU':=hU.mono (b:=B+1+1+1+1) (by have:=W5.out.lt;simp only[World.size_setCell];omega)
    obtain⟨B5,hB5⟩:∃ B5,P3.heap.size=B5:=⟨_,rfl⟩
    have lt5:B+1+1+1<B5:=by rw[←hB5];exact q5.lt
    have HU:=hid hU'
    have HB5:=hid hB5
    have l4:rowLen P3 (B+1+1)=17:=q4.len
    have l5:rowLen P3 (B+1+1+1)=11:=q5.len
    have t4:=q4.lt
    have t5:=q5.lt
    have t3:=q3.lt
    have n4:¬ (P3.heap.size=B+1+1):=by omega
    have n5:¬ (P3.heap.size=B+1+1+1):=by omega
    clear hU hU' x3 hx3 c2 c3 l2 l3 f3 W3 W4 W5 hB hB5
    go_wp2_with fail
    have hB:=HB.out
    refine bodyPost_ret (ret_cct rfl rfl qJ ((rowAt_setCells_off tB).trans (rowAt_setCells_same rfl qK)) rfl (by simp only[rowLen_setCells];rw[rowLen_alloc_old t5];exact l5) (rowAt_setCells_same rfl (by rw[rowLen_setCells,rowLen_setCells,rowLen_alloc_old t5,l5];decide)) rfl) rfl ?_
    exact⟨zL,rfl,OffA.zero _ _,Ext.cells _ _ (Ext.cells _ _ (Ext.cells _ _ (Ext.alloc X3.out _) tB) tB) tB⟩
end Go.Proofs.YtekjdeibnfaehaaGreat
