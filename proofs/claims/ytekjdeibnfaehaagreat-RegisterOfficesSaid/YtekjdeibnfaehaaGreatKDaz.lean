/- Texts of a proof. -/
import Derived.Test.YtekjdeibnfaehaaGreatKDaw
import Derived.Test.YtekjdeibnfaehaaGreatKDax
import Derived.Test.YtekjdeibnfaehaaGreatKDay
set_option linter.unusedSimpArgs false
set_option linter.unusedVariables false
namespace Go.Proofs.YtekjdeibnfaehaaGreat
open Go Go.RowKit
structure OffRf(base:Nat)(w:World)(O:OffD)(L:OffL):Prop where
 d:DrvA base w O.d L.A0 L.n0 L.c0 L.A1 L.n1 L.c1
 l:O.m.recs.length=L.nm
 r:RecsA base w L.Am O.m.recs
 k:∀ i,i<9→PlcA base w (L.k i) (O.kn i)
section
variable{base base' b i:Nat}{w w':World}{O:OffD}{L:OffL}{v:Value}{vs:List Value}
theorem OffA.f(h:OffA base w O L):OffRf base w O L:=⟨h.d,h.l,h.r,h.k⟩
theorem OffRf.of_ext(h:OffRf base w O L)(hx:Ext w w'):OffRf base w' O L:=⟨h.d.of_ext hx,h.l,h.r.of_ext hx,fun i hi=>(h.k i hi).of_ext hx⟩
theorem OffRf.mono(h:OffRf base w O L)(hb:base'≤base):OffRf base' w O L:=⟨h.d.mono hb,h.l,h.r.mono hb,fun i hi=>(h.k i hi).mono hb⟩
theorem OffRf.cells(h:OffRf base w O L)(hb:b<base):OffRf base (w.setCells b i vs) O L:=⟨h.d.cells hb,h.l,SlA.cells hb vs i h.r,fun i hi=>(h.k i hi).cells hb⟩
theorem OffRf.alloc(h:OffRf base w O L)(o:Obj):OffRf base (w.alloc o) O L:=h.of_ext ((Ext.refl w).alloc o)
theorem OffRf.drew(h:OffRf base w O L):OffRf base w.drew O L:=h.of_ext (Ext.refl w).drew
theorem OffRf.learn{f:Nat}{t:SlT}{l':List Plc}(h:OffRf base w O L)(hx:Ext w w')(hp:PlcA base w' t l'):OffRf base w' ⟨O.me,O.d,O.m,upd O.kn f l'⟩ ⟨L.A0,L.n0,L.c0,L.A1,L.n1,L.c1,L.Am,L.nm,L.cm,upd L.k f t⟩:=
 ⟨h.d.of_ext hx,h.l,h.r.of_ext hx,fun i hi=>by
  by_cases he:i=f
  ·subst he
   show PlcA base w' (upd L.k i t i) (upd O.kn i l' i)
   rw[upd_at,upd_at]
   exact hp
  ·show PlcA base w' (upd L.k f t i) (upd O.kn f l' i)
   rw[upd_ne _ _ he,upd_ne _ _ he]
   exact(h.k i hi).of_ext hx⟩
theorem OffRf.drive{D:DriveD}{A0 A1:Option Addr}{n0 c0 n1 c1:Nat}(h:OffRf base w O L)(hx:Ext w w')(hd:DrvA base w' D A0 n0 c0 A1 n1 c1):OffRf base w' ⟨O.me,D,O.m,O.kn⟩ ⟨A0,n0,c0,A1,n1,c1,L.Am,L.nm,L.cm,L.k⟩:=
 ⟨hd,h.l,h.r.of_ext hx,fun i hi=>(h.k i hi).of_ext hx⟩
theorem OffRf.both{D:DriveD}{M:MemD}{A0 A1 Ag:Option Addr}{n0 c0 n1 c1 ng cg:Nat}(h:OffRf base w O L)(hx:Ext w w')(hd:DrvA base w' D A0 n0 c0 A1 n1 c1)(hl:M.recs.length=ng)(hr:RecsA base w' Ag M.recs):OffRf base w' ⟨O.me,D,M,O.kn⟩ ⟨A0,n0,c0,A1,n1,c1,Ag,ng,cg,L.k⟩:=
 ⟨hd,hl,hr,fun i hi=>(h.k i hi).of_ext hx⟩
theorem OffRf.zero(base:Nat)(w:World):OffRf base w noOff zL:=(OffA.zero base w).f
end
theorem far2{b N:Nat}(h:b<N):¬ (b=N)∧¬ (N=b):=by omega
set_option maxRecDepth 100000 in
set_option maxHeartbeats 16000000 in
theorem sameOffice_any(O:OffD)(L:OffL)(w:World)(h:OffY w O L)(hs0:L.n0≤100000)(hs1:L.n1≤100000)(hnm:L.nm≤1000000)(hkn:∀ i,i<9→(O.kn i).length≤1000000):
 Calls Tryz.prog 113 #[offV O L] w fun e w'=> ∃L',e= .returned (offV O L')∧OffRf w.heap.size w' O L'∧Ext w w':=by
 obtain⟨i0,hi,hz0,hz1,hz2⟩:=info_parts info_plc
 have hl0:=h.d.l0
 have hl1:=h.d.l1
 have hm:=h.l
 have H:=hid h
 have Hkn:=hid hkn
 clear h hkn
 obtain⟨B,hB⟩:∃ B:Nat,w.heap.size=B:=⟨_,rfl⟩
 have HB:=hid hB
 clear hB
 go_enter Tryz.func113,Tryz.ntmps113
 go_wp2_with fail
 refine(sameDrive_any _ _ _ _ _ _ _ _ O.d.f0.bytes O.d.f1.bytes hl0 hl1 tB tB _ (H.out.d.b0.of_ext exI) (H.out.d.b1.of_ext exI)).mono ?_
 rintro e P1 ⟨Ax,cx,Ay,cy,rfl,hox,hoy,x1⟩
 have z1:Hid (B+2≤P1.heap.size):=hid Tg
 have b1:BoxC P1 B [.int .i64 O.me,.slice L.A0 L.n0 L.c0,.int .i64 O.d.f0.firm,.slice L.A1 L.n1 L.c1,.int .i64 O.d.f1.firm,.slice L.Am L.nm L.cm,.int .i64 O.m.file,.int .i64 O.m.gen,.slice (L.k 0).A (L.k 0).n (L.k 0).c,.slice (L.k 1).A (L.k 1).n (L.k 1).c,.slice (L.k 2).A (L.k 2).n (L.k 2).c,.slice (L.k 3).A (L.k 3).n (L.k 3).c,.slice (L.k 4).A (L.k 4).n (L.k 4).c,.slice (L.k 5).A (L.k 5).n (L.k 5).c,.slice (L.k 6).A (L.k 6).n (L.k 6).c,.slice (L.k 7).A (L.k 7).n (L.k 7).c,.slice (L.k 8).A (L.k 8).n (L.k 8).c] 76:=BoxC.of_ext ((BoxC.new_at _ _ HB.out.symm).alloc _) x1
 have b2:BoxC P1 (B+1) [.int .i64 0,.slice none 0 0,.int .i64 0,.slice none 0 0,.int .i64 0,.slice none 0 0,.int .i64 0,.int .i64 0,.slice none 0 0,.slice none 0 0,.slice none 0 0,.slice none 0 0,.slice none 0 0,.slice none 0 0,.slice none 0 0,.slice none 0 0,.slice none 0 0] 76:=BoxC.of_ext (BoxC.new_at _ _ Th) x1
 have E1:Hid (Ext w P1):=hid (Ext.trans exI x1)
 have ho0:=hid (hox.anc.mono (base':=B+2) Tw)
 have ho1:=hid (hoy.anc.mono (base':=B+2) Tw)
 have q0:=hid (And.intro hox.le hox.cap)
 have q1:=hid (And.intro hoy.le hoy.cap)
 simp only[HB.out]
 have c1:=b1.c17
 have l1:=b1.lt
 have fz:=b1.frozen
 have V1:=hid b1
 have V2:=hid b2
 clear b1 b2 x1 hox hoy
 go_wp2_with fail
 obtain⟨Q1,hQ1⟩:∃ Q1,(((P1.setCell ⟨B,1,none⟩ (.slice Ax L.n0 cx)).setCell ⟨B,2,none⟩ (.int .i64 O.d.f0.firm)).setCell ⟨B,3,none⟩ (.slice Ay L.n1 cy)).setCell ⟨B,4,none⟩ (.int .i64 O.d.f1.firm)=Q1:=⟨_,rfl⟩
 simp only[hQ1]
 have W1:Hid (BoxC Q1 B [.int .i64 O.me,.slice Ax L.n0 cx,.int .i64 O.d.f0.firm,.slice Ay L.n1 cy,.int .i64 O.d.f1.firm,.slice L.Am L.nm L.cm,.int .i64 O.m.file,.int .i64 O.m.gen,.slice (L.k 0).A (L.k 0).n (L.k 0).c,.slice (L.k 1).A (L.k 1).n (L.k 1).c,.slice (L.k 2).A (L.k 2).n (L.k 2).c,.slice (L.k 3).A (L.k 3).n (L.k 3).c,.slice (L.k 4).A (L.k 4).n (L.k 4).c,.slice (L.k 5).A (L.k 5).n (L.k 5).c,.slice (L.k 6).A (L.k 6).n (L.k 6).c,.slice (L.k 7).A (L.k 7).n (L.k 7).c,.slice (L.k 8).A (L.k 8).n (L.k 8).c] 76):=hid (by rw[←hQ1];exact(((V1.out.set 1 _).set 2 _).set 3 _).set 4 _)
 have W2:=hid (show BoxC Q1 (B+1) [.int .i64 0,.slice none 0 0,.int .i64 0,.slice none 0 0,.int .i64 0,.slice none 0 0,.int .i64 0,.int .i64 0,.slice none 0 0,.slice none 0 0,.slice none 0 0,.slice none 0 0,.slice none 0 0,.slice none 0 0,.slice none 0 0,.slice none 0 0,.slice none 0 0] 76 by rw[←hQ1];exact(((V2.out.other _ _ tB).other _ _ tB).other _ _ tB).other _ _ tB)
 have G1:Hid (Ext w Q1):=hid Tx
 have g0:Hid (BytA (B+2) Q1 Ax O.d.f0.bytes):=hid Ty
 have g1:Hid (BytA (B+2) Q1 Ay O.d.f1.bytes):=hid Tz
 have z2:Hid (B+2≤Q1.heap.size):=hid (by rw[←hQ1];simp only[zs];exact z1.out)
 clear hQ1 c1 l1 fz V1 V2 E1 ho0 ho1 z1
 refine(rsameMem_any _ _ _ O.m.recs _ _ hm hnm _ (H.out.r.of_ext G1.out)).mono ?_
 rintro e P2 ⟨Ac,nc,cc,rfl,hnc,hvc,x2⟩
 have b1:=W1.out.of_ext x2
 have V1:=hid b1
 have V2:=hid (W2.out.of_ext x2)
 have G2:=hid (G1.out.trans x2)
 have k0:=hid (g0.out.of_ext x2)
 have k1:=hid (g1.out.of_ext x2)
 have kr:=hid (hvc.mono (base':=B+2) z2.out)
 have Hnc:=hid hnc.out
 have z3:Hid (B+2≤P2.heap.size):=hid (by have q:=x2.below.size;have:=z2.out;omega)
 have c1:=b1.c17
 have l1:=b1.lt
 have fz:=b1.frozen
 clear b1 x2 hnc hvc W1 W2 G1 g0 g1 z2
 go_wp2_with fail
 obtain⟨Q2,hQ2⟩:∃ Q2,((P2.setCell ⟨B,5,none⟩ (.slice Ac nc cc)).setCell ⟨B,6,none⟩ (.int .i64 O.m.file)).setCell ⟨B,7,none⟩ (.int .i64 O.m.gen)=Q2:=⟨_,rfl⟩
 simp only[hQ2]
 have W1:BoxC Q2 B [.int .i64 O.me,.slice Ax L.n0 cx,.int .i64 O.d.f0.firm,.slice Ay L.n1 cy,.int .i64 O.d.f1.firm,.slice Ac nc cc,.int .i64 O.m.file,.int .i64 O.m.gen,.slice (L.k 0).A (L.k 0).n (L.k 0).c,.slice (L.k 1).A (L.k 1).n (L.k 1).c,.slice (L.k 2).A (L.k 2).n (L.k 2).c,.slice (L.k 3).A (L.k 3).n (L.k 3).c,.slice (L.k 4).A (L.k 4).n (L.k 4).c,.slice (L.k 5).A (L.k 5).n (L.k 5).c,.slice (L.k 6).A (L.k 6).n (L.k 6).c,.slice (L.k 7).A (L.k 7).n (L.k 7).c,.slice (L.k 8).A (L.k 8).n (L.k 8).c] 76:=by rw[←hQ2];exact((V1.out.set 5 _).set 6 _).set 7 _
 have W2:BoxC Q2 (B+1) [.int .i64 0,.slice none 0 0,.int .i64 0,.slice none 0 0,.int .i64 0,.slice none 0 0,.int .i64 0,.int .i64 0,.slice none 0 0,.slice none 0 0,.slice none 0 0,.slice none 0 0,.slice none 0 0,.slice none 0 0,.slice none 0 0,.slice none 0 0,.slice none 0 0] 76:=by rw[←hQ2];exact((V2.out.other _ _ tB).other _ _ tB).other _ _ tB
 have G3:Ext w Q2:=by rw[←hQ2];exact Ext.box (Ext.box (Ext.box G2.out _ _ qA) _ _ qA) _ _ qA
 have g0:BytA (B+2) Q2 Ax O.d.f0.bytes:=by rw[←hQ2];exact((k0.out.set tB).set tB).set tB
 have g1:BytA (B+2) Q2 Ay O.d.f1.bytes:=by rw[←hQ2];exact((k1.out.set tB).set tB).set tB
 have gr:RecsA (B+2) Q2 Ac O.m.recs:=by rw[←hQ2];exact((kr.out.set tB).set tB).set tB
 have z4:B+2≤Q2.heap.size:=by rw[←hQ2];simp only[zs];exact z3.out
 have HQ:=hid (show _∧_∧_∧_∧_∧_∧_ from⟨W1,W2,G3,g0,g1,gr,z4⟩)
 clear hQ2 c1 l1 fz V1 V2 G2 k0 k1 kr z3 W1 W2 G3 g0 g1 gr z4
 go_loopw [3] (fun v wr=> ∃(k:Nat) (K:Nat→SlT),k≤9∧v= .int .i64 k∧BoxC wr B [.int .i64 O.me,.slice Ax L.n0 cx,.int .i64 O.d.f0.firm,.slice Ay L.n1 cy,.int .i64 O.d.f1.firm,.slice Ac nc cc,.int .i64 O.m.file,.int .i64 O.m.gen,.slice (K 0).A (K 0).n (K 0).c,.slice (K 1).A (K 1).n (K 1).c,.slice (K 2).A (K 2).n (K 2).c,.slice (K 3).A (K 3).n (K 3).c,.slice (K 4).A (K 4).n (K 4).c,.slice (K 5).A (K 5).n (K 5).c,.slice (K 6).A (K 6).n (K 6).c,.slice (K 7).A (K 7).n (K 7).c,.slice (K 8).A (K 8).n (K 8).c] 76∧BoxC wr (B+1) [.int .i64 0,.slice none 0 0,.int .i64 0,.slice none 0 0,.int .i64 0,.slice none 0 0,.int .i64 0,.int .i64 0,.slice none 0 0,.slice none 0 0,.slice none 0 0,.slice none 0 0,.slice none 0 0,.slice none 0 0,.slice none 0 0,.slice none 0 0,.slice none 0 0] 76∧Ext w wr∧BytA (B+2) wr Ax O.d.f0.bytes∧BytA (B+2) wr Ay O.d.f1.bytes∧RecsA (B+2) wr Ac O.m.recs∧B+2≤wr.heap.size∧(∀i,i<k→PlcA (B+2) wr (K i) (O.kn i))∧(∀i,k≤i→K i=L.k i)) (fun v _=>9-(intOf v).toNat)
 case atStart=>
  obtain⟨W1,W2,G3,g0,g1,gr,z4⟩:=HQ.out
  exact⟨0,L.k,Nat.zero_le _,rfl,W1,W2,G3,g0,g1,gr,z4,fun i hi=>absurd hi (Nat.not_lt_zero i),fun _ _=>rfl⟩
 case round=>
  rename_i K0 hK0
  obtain⟨k,K,hk,rfl,W1,W2,G3,g0,g1,gr,z4,hpl,hkk⟩:=hrel
  have V1:=hid W1
  have V2:=hid W2
  have G:=hid G3
  have R0:=hid g0
  have R1:=hid g1
  have Rr:=hid gr
  have Z:=hid z4
  have Hpl:=hid hpl
  have Hkk:=hid hkk
  clear HQ W2 G3 g0 g1 gr z4 hpl hkk
  by_cases hlt:k<9
  ·have hki:(k:Int)<9:=by omega
   have hk8:8+k<17:=by omega
   have ck:=W1.cell (i:=8+k) (get_kn _ _ _ _ _ _ _ _ K k hlt)
   have l1:=W1.lt
   have fz:=W1.frozen
   obtain⟨t,ht⟩:∃ t,K k=t:=⟨_,rfl⟩
   have ht2:L.k k=t:=by rw[←ht,Hkk.out k (Nat.le_refl _)]
   rw[ht] at ck
   have hkk:=H.out.k k hlt
   rw[ht2] at hkk
   obtain⟨p1,p2,p3,p4⟩:=hkk
   have hlk:=Hkn.out k hlt
   have hr:=p4.of_ext G.out
   have Hr:=hid hr
   have Hp:=hid (And.intro p1 (And.intro hlk (And.intro p2 p3)))
   clear W1 p4 ht ht2 hr p1 p2 p3 hlk
   go_wp2_with (at_builtin;refine wpList_append (w:=wr) rfl _ _ 71 rfl 44 i0 _ 2 16 Tryz.underlying71 hi hz0 hz1 hz2 rfl tN rfl ((Ext.refl _).alloc _) (ownsRow_empty _ _ _ _ (Nat.le_refl _)) rfl (Hr.out.alloc _) (encP_one _) (by have:=Hp.out;unfold maxLen;omega) (by have:=Hp.out;omega) ?_;intro v1 E1 d1 hown1;have hown2:OwnP wr.heap.size (wr.ext E1 d1) v1 (O.kn k):=(by unfold OwnP;rw[Hp.out.1];simpa using hown1);obtain⟨t',rfl,ht'⟩:=hown2.out;have Ht:=hid ht';clear hown1 hown2 ht')
   have hx1:Ext wr (wr.ext E1 d1):=⟨E1,d1,rfl⟩
   rw[show(wr.setCell ⟨B,8+k,none⟩ (.slice t'.A t'.n t'.c)).ext E1 d1=(wr.ext E1 d1).setCell ⟨B,8+k,none⟩ (.slice t'.A t'.n t'.c) from(setCell_ext wr E1 d1 B (8+k) none _ l1).symm]
   have hB:=HB.out
   have hZ:=Z.out
   refine⟨⟨k+1,upd K k t',by omega,by go_num,?_,(V2.out.of_ext hx1).other _ _ tB,Ext.box (G.out.trans hx1) _ _ tB,(R0.out.of_ext hx1).set tB,(R1.out.of_ext hx1).set tB,(Rr.out.of_ext hx1).set tB,by rw[World.size_setCell];have:=hx1.below.size;omega,fun i hi=> ?_,fun i hi=> ?_⟩,by simp[intOf];omega⟩
   ·rw[←set_kn _ _ _ _ _ _ _ _ K k _ hlt]
    exact(V1.out.of_ext hx1).set (8+k) _
   ·by_cases he:i=k
    ·subst he
     rw[upd_at]
     exact(Ht.out.mono tB).set tB
    ·rw[upd_ne _ _ he]
     exact((Hpl.out i tB).of_ext hx1).set tB
   ·rw[upd_ne _ _ tB]
    exact Hkk.out i tB
  ·have hki:¬ ((k:Int)<9):=by omega
   obtain rfl:k=9:=by omega
   have hc17:=W1.c17
   have len2:rowLen wr (B+1)=17:=V2.out.len
   have l1:=W1.lt
   clear W1 V1
   go_wp2_with fail
   have hB:=HB.out
   have U0:OffRf (B+2) wr O ⟨Ax,L.n0,cx,Ay,L.n1,cy,Ac,nc,cc,K⟩:=⟨⟨hl0,hl1,q0.out.1,q1.out.1,q0.out.2,q1.out.2,R0.out,R1.out⟩,Hnc.out.symm,Rr.out,fun i hi=>Hpl.out i hi⟩
   refine bodyPost_ret (ret_c rfl rfl (rowLen_setCells.trans len2) (rowAt_setCells_same rfl (by rw[len2];omega))) rfl ?_
   exact⟨⟨Ax,L.n0,cx,Ay,L.n1,cy,Ac,nc,cc,K⟩,rfl,(U0.cells tB).mono tB,Ext.cells _ _ G.out tB⟩
end Go.Proofs.YtekjdeibnfaehaaGreat
