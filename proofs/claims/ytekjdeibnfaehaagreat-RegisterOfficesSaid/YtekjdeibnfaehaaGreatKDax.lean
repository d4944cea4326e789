/- Texts of a proof. -/
import Derived.Test.YtekjdeibnfaehaaGreatKDaw
set_option linter.unusedSimpArgs false
set_option linter.unusedVariables false
namespace Go.Proofs.YtekjdeibnfaehaaGreat
open Go Go.RowKit
set_option maxRecDepth 100000 in
set_option maxHeartbeats 16000000 in
theorem officeCopy_any(O:OffD)(L:OffL)(w:World)(h:OffY w O L)(hs0:L.n0≤100000)(hs1:L.n1≤100000)(hnm:L.nm≤1000000)(hkn:∀ i,i<9→(O.kn i).length≤1000000):
 Calls Tryz.prog 110 #[offV O L] w fun e w'=> ∃L',e= .returned (offV O L')∧OffU w.heap.size w' O L'∧Ext w w':=by
 have hl0:=h.d.l0
 have hl1:=h.d.l1
 have hm:=h.l
 have H:=hid h
 have Hkn:=hid hkn
 clear h hkn
 obtain⟨B,hB⟩:∃ B:Nat,w.heap.size=B:=⟨_,rfl⟩
 have HB:=hid hB
 clear hB
 go_enter Tryz.func110,Tryz.ntmps110
 go_wp2_with fail
 refine(driveCopy_any _ _ _ _ _ _ _ _ O.d.f0.bytes O.d.f1.bytes hl0 hl1 tB tB _ (H.out.d.b0.of_ext exI) (H.out.d.b1.of_ext exI)).mono ?_
 rintro e P1 ⟨Ax,Ay,rfl,hox,hoy,x1⟩
 have z1:Hid (B+2≤P1.heap.size):=hid Tg
 have b1:BoxC P1 B [.int .i64 O.me,.slice L.A0 L.n0 L.c0,.int .i64 O.d.f0.firm,.slice L.A1 L.n1 L.c1,.int .i64 O.d.f1.firm,.slice L.Am L.nm L.cm,.int .i64 O.m.file,.int .i64 O.m.gen,.slice (L.k 0).A (L.k 0).n (L.k 0).c,.slice (L.k 1).A (L.k 1).n (L.k 1).c,.slice (L.k 2).A (L.k 2).n (L.k 2).c,.slice (L.k 3).A (L.k 3).n (L.k 3).c,.slice (L.k 4).A (L.k 4).n (L.k 4).c,.slice (L.k 5).A (L.k 5).n (L.k 5).c,.slice (L.k 6).A (L.k 6).n (L.k 6).c,.slice (L.k 7).A (L.k 7).n (L.k 7).c,.slice (L.k 8).A (L.k 8).n (L.k 8).c] 76:=BoxC.of_ext ((BoxC.new_at _ _ HB.out.symm).alloc _) x1
 have b2:BoxC P1 (B+1) [.int .i64 0,.slice none 0 0,.int .i64 0,.slice none 0 0,.int .i64 0,.slice none 0 0,.int .i64 0,.int .i64 0,.slice none 0 0,.slice none 0 0,.slice none 0 0,.slice none 0 0,.slice none 0 0,.slice none 0 0,.slice none 0 0,.slice none 0 0,.slice none 0 0] 76:=BoxC.of_ext (BoxC.new_at _ _ Th) x1
 have E1:Hid (Ext w P1):=hid (Ext.trans exI x1)
 have ho0:=hid (hox.anc.mono (base':=B+2) Tw)
 have ho1:=hid (hoy.anc.mono (base':=B+2) Tw)
 have q0:=hid hox.cap
 have q1:=hid hoy.cap
 simp only[HB.out]
 have c0:=b1.cell (i:=0) rfl
 have c1:=b1.cell (i:=1) rfl
 have c2:=b1.cell (i:=2) rfl
 have c3:=b1.cell (i:=3) rfl
 have c4:=b1.cell (i:=4) rfl
 have c5:=b1.cell (i:=5) rfl
 have c6:=b1.cell (i:=6) rfl
 have c7:=b1.cell (i:=7) rfl
 have c8:=b1.cell (i:=8) rfl
 have c9:=b1.cell (i:=9) rfl
 have c10:=b1.cell (i:=10) rfl
 have c11:=b1.cell (i:=11) rfl
 have c12:=b1.cell (i:=12) rfl
 have c13:=b1.cell (i:=13) rfl
 have c14:=b1.cell (i:=14) rfl
 have c15:=b1.cell (i:=15) rfl
 have c16:=b1.cell (i:=16) rfl
 have l1:=b1.lt
 have fz:=b1.frozen
 have V1:=hid b1
 have V2:=hid b2
 clear b1 b2 x1 hox hoy
 go_wp2_with fail
 obtain⟨Q1,hQ1⟩:∃ Q1,(((P1.setCell ⟨B,1,none⟩ (.slice Ax L.n0 L.n0)).setCell ⟨B,2,none⟩ (.int .i64 O.d.f0.firm)).setCell ⟨B,3,none⟩ (.slice Ay L.n1 L.n1)).setCell ⟨B,4,none⟩ (.int .i64 O.d.f1.firm)=Q1:=⟨_,rfl⟩
 simp only[hQ1]
 have W1:Hid (BoxC Q1 B [.int .i64 O.me,.slice Ax L.n0 L.n0,.int .i64 O.d.f0.firm,.slice Ay L.n1 L.n1,.int .i64 O.d.f1.firm,.slice L.Am L.nm L.cm,.int .i64 O.m.file,.int .i64 O.m.gen,.slice (L.k 0).A (L.k 0).n (L.k 0).c,.slice (L.k 1).A (L.k 1).n (L.k 1).c,.slice (L.k 2).A (L.k 2).n (L.k 2).c,.slice (L.k 3).A (L.k 3).n (L.k 3).c,.slice (L.k 4).A (L.k 4).n (L.k 4).c,.slice (L.k 5).A (L.k 5).n (L.k 5).c,.slice (L.k 6).A (L.k 6).n (L.k 6).c,.slice (L.k 7).A (L.k 7).n (L.k 7).c,.slice (L.k 8).A (L.k 8).n (L.k 8).c] 76):=hid (by rw[←hQ1];exact(((V1.out.set 1 _).set 2 _).set 3 _).set 4 _)
 have W2:=hid (show BoxC Q1 (B+1) [.int .i64 0,.slice none 0 0,.int .i64 0,.slice none 0 0,.int .i64 0,.slice none 0 0,.int .i64 0,.int .i64 0,.slice none 0 0,.slice none 0 0,.slice none 0 0,.slice none 0 0,.slice none 0 0,.slice none 0 0,.slice none 0 0,.slice none 0 0,.slice none 0 0] 76 by rw[←hQ1];exact(((V2.out.other _ _ tB).other _ _ tB).other _ _ tB).other _ _ tB)
 have G1:Hid (Ext w Q1):=hid Tx
 have g0:Hid (BytA (B+2) Q1 Ax O.d.f0.bytes):=hid Ty
 have g1:Hid (BytA (B+2) Q1 Ay O.d.f1.bytes):=hid Tz
 have z2:Hid (B+2≤Q1.heap.size):=hid (by rw[←hQ1];simp only[zs];exact z1.out)
 clear hQ1 c0 c1 c2 c3 c4 c5 c6 c7 c8 c9 c10 c11 c12 c13 c14 c15 c16 l1 fz V1 V2 E1 ho0 ho1 z1
 refine(copied_any _ _ _ O.m.recs hm hnm _ (H.out.r.of_ext G1.out)).mono ?_
 rintro e P2 ⟨Ac,nc,cc,rfl,hnc,hvc,x2⟩
 have b1:=W1.out.of_ext x2
 have V1:=hid b1
 have V2:=hid (W2.out.of_ext x2)
 have G2:=hid (G1.out.trans x2)
 have k0:=hid (g0.out.of_ext x2)
 have k1:=hid (g1.out.of_ext x2)
 have kr:=hid (hvc.anc.mono (base':=B+2) z2.out)
 have Hnc:=hid hnc.out
 have Hcap:=hid hvc.caps
 have z3:Hid (B+2≤P2.heap.size):=hid (by have q:=x2.below.size;have:=z2.out;omega)
 have c0:=b1.cell (i:=0) rfl
 have c1:=b1.cell (i:=1) rfl
 have c2:=b1.cell (i:=2) rfl
 have c3:=b1.cell (i:=3) rfl
 have c4:=b1.cell (i:=4) rfl
 have c5:=b1.cell (i:=5) rfl
 have c6:=b1.cell (i:=6) rfl
 have c7:=b1.cell (i:=7) rfl
 have c8:=b1.cell (i:=8) rfl
 have c9:=b1.cell (i:=9) rfl
 have c10:=b1.cell (i:=10) rfl
 have c11:=b1.cell (i:=11) rfl
 have c12:=b1.cell (i:=12) rfl
 have c13:=b1.cell (i:=13) rfl
 have c14:=b1.cell (i:=14) rfl
 have c15:=b1.cell (i:=15) rfl
 have c16:=b1.cell (i:=16) rfl
 have l1:=b1.lt
 have fz:=b1.frozen
 clear b1 x2 hnc hvc W1 W2 G1 g0 g1 z2
 go_wp2_with fail
 obtain⟨Q2,hQ2⟩:∃ Q2,P2.setCell ⟨B,5,none⟩ (.slice Ac nc cc)=Q2:=⟨_,rfl⟩
 simp only[hQ2]
 have W1:BoxC Q2 B [.int .i64 O.me,.slice Ax L.n0 L.n0,.int .i64 O.d.f0.firm,.slice Ay L.n1 L.n1,.int .i64 O.d.f1.firm,.slice Ac nc cc,.int .i64 O.m.file,.int .i64 O.m.gen,.slice (L.k 0).A (L.k 0).n (L.k 0).c,.slice (L.k 1).A (L.k 1).n (L.k 1).c,.slice (L.k 2).A (L.k 2).n (L.k 2).c,.slice (L.k 3).A (L.k 3).n (L.k 3).c,.slice (L.k 4).A (L.k 4).n (L.k 4).c,.slice (L.k 5).A (L.k 5).n (L.k 5).c,.slice (L.k 6).A (L.k 6).n (L.k 6).c,.slice (L.k 7).A (L.k 7).n (L.k 7).c,.slice (L.k 8).A (L.k 8).n (L.k 8).c] 76:=by rw[←hQ2];exact V1.out.set 5 _
 have W2:BoxC Q2 (B+1) [.int .i64 0,.slice none 0 0,.int .i64 0,.slice none 0 0,.int .i64 0,.slice none 0 0,.int .i64 0,.int .i64 0,.slice none 0 0,.slice none 0 0,.slice none 0 0,.slice none 0 0,.slice none 0 0,.slice none 0 0,.slice none 0 0,.slice none 0 0,.slice none 0 0] 76:=by rw[←hQ2];exact V2.out.other _ _ tB
 have G3:Ext w Q2:=by rw[←hQ2];exact Ext.box G2.out _ _ qA
 have g0:BytA (B+2) Q2 Ax O.d.f0.bytes:=by rw[←hQ2];exact k0.out.set tB
 have g1:BytA (B+2) Q2 Ay O.d.f1.bytes:=by rw[←hQ2];exact k1.out.set tB
 have gr:RecsA (B+2) Q2 Ac O.m.recs:=by rw[←hQ2];exact kr.out.set tB
 have z4:B+2≤Q2.heap.size:=by rw[←hQ2];simp only[zs];exact z3.out
 have HQ:=hid (show _∧_∧_∧_∧_∧_∧_ from⟨W1,W2,G3,g0,g1,gr,z4⟩)
 clear hQ2 c0 c1 c2 c3 c4 c5 c6 c7 c8 c9 c10 c11 c12 c13 c14 c15 c16 l1 fz V1 V2 G2 k0 k1 kr z3 W1 W2 G3 g0 g1 gr z4
 obtain⟨NQ,hNQ⟩:∃ NQ,Q2.heap.size=NQ:=⟨_,rfl⟩
 go_loopw [17] (fun v wr=> ∃(k:Nat) (K:Nat→SlT),k≤9∧v= .int .i64 k∧BoxC wr B [.int .i64 O.me,.slice Ax L.n0 L.n0,.int .i64 O.d.f0.firm,.slice Ay L.n1 L.n1,.int .i64 O.d.f1.firm,.slice Ac nc cc,.int .i64 O.m.file,.int .i64 O.m.gen,.slice (K 0).A (K 0).n (K 0).c,.slice (K 1).A (K 1).n (K 1).c,.slice (K 2).A (K 2).n (K 2).c,.slice (K 3).A (K 3).n (K 3).c,.slice (K 4).A (K 4).n (K 4).c,.slice (K 5).A (K 5).n (K 5).c,.slice (K 6).A (K 6).n (K 6).c,.slice (K 7).A (K 7).n (K 7).c,.slice (K 8).A (K 8).n (K 8).c] 76∧BoxC wr (B+1) [.int .i64 0,.slice none 0 0,.int .i64 0,.slice none 0 0,.int .i64 0,.slice none 0 0,.int .i64 0,.int .i64 0,.slice none 0 0,.slice none 0 0,.slice none 0 0,.slice none 0 0,.slice none 0 0,.slice none 0 0,.slice none 0 0,.slice none 0 0,.slice none 0 0] 76∧Ext w wr∧BytA (B+2) wr Ax O.d.f0.bytes∧BytA (B+2) wr Ay O.d.f1.bytes∧RecsA (B+2) wr Ac O.m.recs∧B+2≤wr.heap.size∧NQ≤wr.heap.size∧KnO NQ k wr K O.kn) (fun v _=>9-(intOf v).toNat)
 case atStart=>
  obtain⟨W1,W2,G3,g0,g1,gr,z4⟩:=HQ.out
  exact⟨0,L.k,Nat.zero_le _,rfl,W1,W2,G3,g0,g1,gr,z4,Nat.le_of_eq hNQ.symm,KnO.zero _ _ _ _⟩
 case round=>
  rename_i K0 hK0
  obtain⟨k,K,hk,rfl,W1,W2,G3,g0,g1,gr,z4,hnq,hpl⟩:=hrel
  have V1:=hid W1
  have V2:=hid W2
  have G:=hid G3
  have R0:=hid g0
  have R1:=hid g1
  have Rr:=hid gr
  have Z:=hid z4
  have Hpl:=hid hpl
  have Hnq:=hid hnq
  have H0:Hid (B+2≤NQ):=hid (by rw[←hNQ];exact HQ.out.2.2.2.2.2.2)
  have HL:Hid ((0<L.n0→∀ a,Ax=some a→a.block<NQ)∧(0<L.n1→∀ a,Ay=some a→a.block<NQ)∧(0<nc→∀ a,Ac=some a→a.block<NQ)):=hid (by
   obtain⟨_,_,_,q0,q1,qr,_⟩:=HQ.out
   rw[←hNQ]
   exact⟨fun h a ha=>sl_low q0.1 (by rw[hl0];exact h) ha,fun h a ha=>sl_low q1.1 (by rw[hl1];exact h) ha,fun h a ha=>sl_low qr.1 (by rw[←Hnc.out];exact h) ha⟩)
  clear hnq hNQ HQ W2 G3 g0 g1 gr z4 hpl
  by_cases hlt:k<9
  ·clear W1
   go_wp2_with fail
   have hkk:=H.out.k k hlt
   refine(ClonePl_any _ _ _ (O.kn k) hkk.1 (by have:=Hkn.out k hlt;have:=hkk.1;omega) _ (hkk.2.2.2.of_ext G.out)).mono ?_
   rintro e P3 ⟨v3,rfl,hpl,x3⟩
   obtain⟨A3,m3,c3,rfl⟩:∃ A3 m3 c3,v3= .slice A3 m3 c3:=by obtain⟨A',c',h,_⟩:=hpl.slice;exact⟨_,_,_,h⟩
   obtain⟨t',ht'⟩:∃ t':SlT,t'=⟨A3,m3,c3⟩:=⟨_,rfl⟩
   rw[show(Value.slice A3 m3 c3)= .slice t'.A t'.n t'.c by rw[ht']] at hpl ⊢
   clear ht'
   have b1:=V1.out.of_ext x3
   have l1:=b1.lt
   have fz:=b1.frozen
   have U1:=hid b1
   have X3:=hid x3
   have Hp:=hid hpl
   have ck:=b1.cell (i:=8+k) (get_kn _ _ _ _ _ _ _ _ K k hlt)
   clear b1 x3 hpl V1
   go_wp2_with fail
   have x3:=X3.out
   have z:=Z.out
   have hB:=HB.out
   refine⟨⟨k+1,upd K k t',by omega,by go_num,?_,(V2.out.of_ext x3).other _ _ tB,Ext.box (G.out.trans x3) _ _ tB,(R0.out.of_ext x3).set tB,(R1.out.of_ext x3).set tB,(Rr.out.of_ext x3).set tB,by rw[World.size_setCell];have:=x3.below.size;omega,by rw[World.size_setCell];have:=x3.below.size;have:=Hnq.out;omega,(Hpl.out.next x3 Hp.out Hnq.out).set (by have:=H0.out;omega)⟩,by simp[intOf];omega⟩
   rw[←set_kn _ _ _ _ _ _ _ _ K k _ hlt]
   exact U1.out.set (8+k) _
  ·obtain rfl:k=9:=by omega
   have hc17:=W1.c17
   have len2:rowLen wr (B+1)=17:=V2.out.len
   have l1:=W1.lt
   clear W1 V1
   go_wp2_with fail
   have U0:OffU (B+2) wr O ⟨Ax,L.n0,L.n0,Ay,L.n1,L.n1,Ac,nc,cc,K⟩:=OffU.low (N:=NQ) ⟨hl0,hl1,Nat.le_refl _,Nat.le_refl _,q0.out,q1.out,R0.out,R1.out⟩ Hnc.out.symm Hcap.out Rr.out Hpl.out H0.out HL.out.1 HL.out.2.1 HL.out.2.2
   have hB:=HB.out
   refine bodyPost_ret (ret_c rfl rfl (rowLen_setCells.trans len2) (rowAt_setCells_same rfl (by rw[len2];omega))) rfl ?_
   exact⟨⟨Ax,L.n0,L.n0,Ay,L.n1,L.n1,Ac,nc,cc,K⟩,rfl,(U0.cells tB).mono tB,Ext.cells _ _ G.out tB⟩
end Go.Proofs.YtekjdeibnfaehaaGreat
