/- Texts of a proof. -/
import Derived.Test.YtekjdeibnfaehaaGreatKDbp
import Derived.Test.YtekjdeibnfaehaaGreatKDbr
import Derived.Test.YtekjdeibnfaehaaGreatKDay
import Derived.Test.YtekjdeibnfaehaaGreatKDag
import Derived.Test.YtekjdeibnfaehaaGreatKDbf
import Derived.Test.YtekjdeibnfaehaaGreatKDaz
import Derived.Test.YtekjdeibnfaehaaGreatKDau
set_option linter.unusedSimpArgs false
set_option linter.unusedVariables false
namespace Go.Proofs.YtekjdeibnfaehaaGreat
open Go Go.RowKit
theorem rfind_x(O:OffD)(L:OffL)(hl:O.m.recs.length=L.nm)(hk:OffOk O L)(o s:Int)(P:World)(hr:Recs P L.Am O.m.recs):
 Calls Tryz.prog 85 #[regV L.Am L.nm L.cm,.agg #[.int .i64 o,.int .i64 s]] P fun e w'=>e= .returned (.int .i64 (findI O.m.recs o s))∧Ext P w':=
 rfind_any L.Am L.cm L.nm O.m.recs o s hl (by have:=hk.sm;omega) P hr
theorem findI_lt{l:List Rec}{o s:Int}:(findI l o s<0)↔hasR l o s=false:=by
 unfold findI
 split
 ·rename_i h
  rw[h]
  exact⟨fun h2=>by omega,fun h2=>by cases h2⟩
 ·rename_i h
  exact⟨fun _=>by simpa using h,fun _=>by omega⟩
set_option maxRecDepth 100000 in
set_option maxHeartbeats 16000000 in
theorem rReceive_any(O:OffD)(L:OffL)(w:World)(m:MsgD)(h:OffY w O L)(htx:m.r.text.size≤9223372036854775807):
 Calls Tryz.prog 47 #[offV O L,msgV m] w fun e w'=> ∃L' A n c,e= .returned (.tuple #[offV (recvO O m) L',.slice A n c,.int .i64 (recvE O m)])∧OffRf w.heap.size w' (recvO O m) L'∧MsgsA w.heap.size w' A n c (recvL O m)∧Ext w w':=by
 have H:=hid h
 clear h
 obtain⟨B,hB⟩:∃ B:Nat,w.heap.size=B:=⟨_,rfl⟩
 have HB:=hid hB
 obtain⟨j,hj⟩:∃ j,recvE O m=j:=⟨_,rfl⟩
 obtain⟨GO,hGO⟩:∃ GO,recvO O m=GO:=⟨_,rfl⟩
 obtain⟨GL,hGL⟩:∃ GL,recvL O m=GL:=⟨_,rfl⟩
 rw[hj,hGO,hGL]
 have HE:=hid hj
 have HO:Hid (GO=if j=0 then if m.ack=true then learnO O m else learnO (firmO (apdO O m.r)) m else noOff):=hid (by rw[←hGO,recvO,hj])
 have HL:Hid (GL=if j=0∧m.ack=false then[⟨O.me,m.fr,true,m.r⟩] else[]):=hid (by rw[←hGL,recvL,hj])
 clear hj hGO hGL hB
 go_enter Tryz.func47,Tryz.ntmps47
 go_wp2_with fail
 refine(rCheckOffice_any O L _ (H.out.of_ext exI)).mono ?_
 rintro e P1 ⟨rfl,x1⟩
 have X1:Hid (Ext w P1):=hid (Ext.trans exI x1)
 have b2:BoxC P1 B (offC O L) 76:=BoxC.of_ext (((BoxC.new_at _ _ HB.out.symm).alloc _).alloc _) x1
 have b3:BoxC P1 (B+1) (msgC m) 70:=BoxC.of_ext ((BoxC.new_at _ _ qH).alloc _) x1
 have b4:BoxC P1 (B+1+1) (offC noOff zL) 76:=BoxC.of_ext (BoxC.new_at _ _ qH) x1
 simp only[HB.out]
 have V2:=hid b2
 have V3:=hid b3
 have V4:=hid b4
 have c2:=b2.c17
 have c3:=b3.c14
 have l2:=b2.lt
 have l3:=b3.lt
 have t4:=b4.lt
 have l4:rowLen P1 (B+1+1)=17:=b4.len
 clear x1 b2 b3 b4
 cases ho:offOk O with
 | false=>
  have Hj:Hid (j=76):=hid (by rw[←HE.out,recvE,if_neg qG])
  rw[errOff_no ho]
  clear c2 c3
  go_wp2_with fail
  have hj:=Hj.out
  refine bodyPost_ret (ret_ctt rfl rfl (rowLen_setCells.trans l4) (rowAt_setCells_same rfl qF) rfl rfl) rfl ?_;have hB:=HB.out;have e1:GO=noOff:=qL;have e2:GL=[]:=qM;rw[hj,e1,e2];exact⟨zL,none,0,0,rfl,OffRf.zero _ _,MsgsA.nil _ _,Ext.cells _ _ X1.out tB⟩
 | true=>
  have Hk:=hid (H.out.ok ho)
  rw[errOff_ok ho]
  cases hto:(m.to != O.me) with
  | true=>
   have Hj:Hid (j=1):=hid qN
   go_wp2_with (go_at_call 98;refine(risOffice_any _ _).mono ?_;rintro e w1 ⟨rfl,rfl⟩)
   have hj:=Hj.out
   refine bodyPost_ret (ret_ctt rfl rfl (rowLen_setCells.trans l4) (rowAt_setCells_same rfl qF) rfl rfl) rfl ?_;have hB:=HB.out;have e1:GO=noOff:=qL;have e2:GL=[]:=qM;rw[hj,e1,e2];exact⟨zL,none,0,0,rfl,OffRf.zero _ _,MsgsA.nil _ _,Ext.cells _ _ X1.out tB⟩
  | false=>
   cases hfr:inB m.fr 0 8 with
   | false=>
    have Hj:Hid (j=1):=hid (by rw[←HE.out];exact recvE_not ho (fun hx=>by rw[hfr] at hx;cases hx.2.1))
    go_wp2_with (go_at_call 98;refine(risOffice_any _ _).mono ?_;rintro e w1 ⟨rfl,rfl⟩)
    have hj:=Hj.out
    refine bodyPost_ret (ret_ctt rfl rfl (rowLen_setCells.trans l4) (rowAt_setCells_same rfl qF) rfl rfl) rfl ?_;have hB:=HB.out;have e1:GO=noOff:=qL;have e2:GL=[]:=qM;rw[hj,e1,e2];exact⟨zL,none,0,0,rfl,OffRf.zero _ _,MsgsA.nil _ _,Ext.cells _ _ X1.out tB⟩
   | true=>
    cases hne:(m.fr==O.me) with
    | true=>
     have Hj:Hid (j=1):=hid (by rw[←HE.out];exact recvE_not ho (fun hx=>hx.2.2 (by simpa using hne)))
     go_wp2_with (go_at_call 98;refine(risOffice_any _ _).mono ?_;rintro e w1 ⟨rfl,rfl⟩)
     have hj:=Hj.out
     refine bodyPost_ret (ret_ctt rfl rfl (rowLen_setCells.trans l4) (rowAt_setCells_same rfl qF) rfl rfl) rfl ?_;have hB:=HB.out;have e1:GO=noOff:=qL;have e2:GL=[]:=qM;rw[hj,e1,e2];exact⟨zL,none,0,0,rfl,OffRf.zero _ _,MsgsA.nil _ _,Ext.cells _ _ X1.out tB⟩
    | false=>
     have HE2:Hid ((if m.ack=true then if hasR O.m.recs m.r.ao m.r.sq=true then 0 else 3 else appE O.d O.m m.r)=j):=hid qO
     clear HE
     cases hack:m.ack with
     | true=>
      have HE3:Hid ((if hasR O.m.recs m.r.ao m.r.sq=true then 0 else 3)=j):=hid (by have e:=HE2.out;rw[if_pos hack] at e;exact e)
      clear HE2
      rw[hack] at c3
      go_wp2_with (go_at_call 98;refine(risOffice_any _ _).mono ?_;rintro e w1 ⟨rfl,rfl⟩)
      refine(rfind_x O L H.out.l Hk.out m.r.ao m.r.sq _ (H.out.r.of_ext X1.out)).mono ?_
      rintro e P2 ⟨rfl,x2⟩
      have X2:Hid (Ext w P2):=hid (X1.out.trans x2)
      have b2:=hid (V2.out.of_ext x2)
      have b3:=hid (V3.out.of_ext x2)
      have b4:=hid (V4.out.of_ext x2)
      clear c2 c3 l2 l3 l4 V2 V3 V4 x2 X1
      have X1:=X2
      have c2:=b2.out.c17
      have t4:=b4.out.lt
      have l4:rowLen P2 (B+1+1)=17:=b4.out.len
      cases hh:hasR O.m.recs m.r.ao m.r.sq with
      | false=>
       have Hj:Hid (j=3):=hid (by rw[←HE3.out,hh];rfl)
       have hfl:=findI_lt.2 hh
       go_wp2_with fail
       have hj:=Hj.out
       refine bodyPost_ret (ret_ctt rfl rfl (rowLen_setCells.trans l4) (rowAt_setCells_same rfl qF) rfl rfl) rfl ?_;have hB:=HB.out;have e1:GO=noOff:=qL;have e2:GL=[]:=qM;rw[hj,e1,e2];exact⟨zL,none,0,0,rfl,OffRf.zero _ _,MsgsA.nil _ _,Ext.cells _ _ X1.out tB⟩
      | true=>
       obtain rfl:0=j:=by rw[←HE3.out,hh];rfl
       have hfl:¬ (findI O.m.recs m.r.ao m.r.sq<0):=fun hx=>by rw[findI_lt.1 hx] at hh;cases hh
       obtain⟨f,hf⟩:∃ f:Nat,m.fr=f:=⟨m.fr.toNat,by have:=inB_spec.1 hfr;omega⟩
       have hf9:f<9:=by have:=inB_spec.1 hfr;omega
       have hkb:=Hk.out.kb f hf9
       have hlen:=knB_len hkb
       have hso:=(knB_iff.1 hkb).2
       go_wp2_with fail
       refine(sameOffice_any O L P2 (H.out.of_ext X1.out) Hk.out.s0 Hk.out.s1 qD (fun i hi=>by have:=Hk.out.k i hi;omega)).mono ?_
       rintro e P3 ⟨L3,rfl,hU,x3⟩
       have hB:=HB.out
       have v2:=hid (b2.out.of_ext x3)
       have v3:=hid (b3.out.of_ext x3)
       have v4:=hid (b4.out.of_ext x3)
       have X3:=hid (X1.out.trans x3)
       have HU:=hid (hU.mono (base':=B+1+1+1) qP)
       have HS:=hid (show B+1+1<P3.heap.size from v4.out.lt)
       rename_i K5 hK5 K4 hK4
       have HK5:=hid hK5
       clear hK5 c2 t4 l4 hU x3 b2 b3 b4 hB X1
       go_wp2_with fail
       obtain⟨B6,hB6⟩:∃ B6,P3.heap.size=B6:=⟨_,rfl⟩
       simp only[hB6]
       obtain⟨Q1,hQ⟩:∃ Q1,(P3.alloc (.cells #[.int .i64 0,.slice none 0 0,.int .i64 0,.slice none 0 0,.int .i64 0,.slice none 0 0,.int .i64 0,.int .i64 0,.slice none 0 0,.slice none 0 0,.slice none 0 0,.slice none 0 0,.slice none 0 0,.slice none 0 0,.slice none 0 0,.slice none 0 0,.slice none 0 0] 76)).setCells B6 0 (offC O L3)=Q1:=⟨_,rfl⟩
       simp only[hQ]
       have XQ1:Ext P3 Q1:=by rw[←hQ];exact Ext.cells _ _ (Ext.alloc (Ext.refl _) _) tB
       have q6:BoxC Q1 B6 (offC O L3) 76:=by rw[←hQ];exact BoxC.cells (cs:=[.int .i64 0,.slice none 0 0,.int .i64 0,.slice none 0 0,.int .i64 0,.slice none 0 0,.int .i64 0,.int .i64 0,.slice none 0 0,.slice none 0 0,.slice none 0 0,.slice none 0 0,.slice none 0 0,.slice none 0 0,.slice none 0 0,.slice none 0 0,.slice none 0 0]) _ 0 (BoxC.new_at _ _ hB6.symm) (Nat.le_refl _)
       have u2:=v2.out.of_ext XQ1
       have u3:=v3.out.of_ext XQ1
       have ck:=u2.cell (i:=8+f) (get_kn _ _ _ _ _ _ _ _ L.k f hf9)
       have c3:=u3.c14
       have l2:=u2.lt
       have l3:=u3.lt
       have m6:=q6.lt
       have f6:=q6.frozen
       have ck6:=q6.cell (i:=8+f) (get_kn _ _ _ _ _ _ _ _ L3.k f hf9)
       have W4:=hid (v4.out.of_ext XQ1)
       have W6:=hid q6
       have XQ:=hid XQ1
       have H6:=hid hB6
       obtain⟨hkn0,_,_,hsl0⟩:=H.out.k f hf9
       have hsl:=hsl0.of_ext (X3.out.trans XQ1)
       have hfi:(f:Int)<9:=by omega
       have fb2:=far2 l2
       have fb3:=far2 l3
       have fb6:=far2 m6
       refine HK5.out _ _ ?_
       clear HK5 hQ q6 u2 u3 XQ1 v2 v3 v4 hB6 hsl0
       rw[hf] at c3
       go_wp2_with fail
       refine wp_region_ordZ 13 (.f 0 (.f 1 (.f 2 (.f 3 (.f 4 (.f 5 (.f 6 (.f 7 (.f 8 (.f 9 (.f 11 (.a 10 (.f 12 (.z 13)))))))))))))) (Kept (Q1) (Q1.heap.size) (Q1.heap.size)) tG tG (Kept.refl _ _ _).drew ?_
       refine oT ?_
       refine wpOrd_call rfl rfl rfl Tryz.call115 (fun R hR=> ?_)
       go_simp
       refine(learnt_any _ _ _ (O.kn f) m.r.ao m.r.sq hkn0 tB hso _ (hsl.of_ext exI)).mono ?_
       rintro e w1 ⟨tl,rfl,hpl,E1,d1,rfl⟩
       refine hR _ _ ⟨_,rfl,?_,?_⟩
       ·exact qm
       clear hR R
       simp only[Act.put,zp]
       refine oT ?_
       refine wpOrd_last rfl rfl (fun K hK=> ?_)
       go_simp
       refine hK _ _ ?_
       clear hK K
       try simp only[Act.put,zp]
       have hm6:=W6.out.lt
       have hw:(Q1.setCell ⟨B6,8+f,none⟩ (.slice tl.A tl.n tl.c)).drew.ext E1 d1=(Q1.drew.ext E1 d1).setCell ⟨B6,8+f,none⟩ (.slice tl.A tl.n tl.c):=(setCell_dx Q1 E1 d1 B6 (8+f) _ hm6).symm
       rw[hw]
       have x4:Ext Q1 (Q1.drew.ext E1 d1):=exI
       obtain⟨QW,hQW⟩:∃ QW,(Q1.drew.ext E1 d1).setCell ⟨B6,8+f,none⟩ (.slice tl.A tl.n tl.c)=QW:=⟨_,rfl⟩
       rw[hQW]
       have h6:=H6.out
       have hs:=HS.out
       have hB:=HB.out
       have z6:BoxC QW B6 (offC ⟨O.me,O.d,O.m,upd O.kn f (learnL (O.kn f) m.r.ao m.r.sq)⟩ ⟨L3.A0,L3.n0,L3.c0,L3.A1,L3.n1,L3.c1,L3.Am,L3.nm,L3.cm,upd L3.k f tl⟩) 76:=by
        rw[←hQW]
        have h2:=(W6.out.of_ext x4).set (8+f) (.slice tl.A tl.n tl.c)
        rw[set_kn _ _ _ _ _ _ _ _ L3.k f tl hf9] at h2
        exact h2
       have z4:BoxC QW (B+1+1) (offC noOff zL) 76:=by rw[←hQW];exact(W4.out.of_ext x4).other _ _ tB
       have X3W:Ext P3 QW:=by rw[←hQW];exact Ext.box (XQ.out.trans x4) _ _ tB
       have hpW:PlcA (B+1+1+1) QW tl (learnL (O.kn f) m.r.ao m.r.sq):=by
        rw[←hQW]
        exact PlcA.mono ((PlcA.mono (base':=B6+1) hpl qU).set (Nat.lt_succ_self _)) tB
       have A4:=hid (HU.out.learn (f:=f) X3W hpW)
       have X5:=hid (X3.out.trans X3W)
       have l9:rowLen QW B6=17:=z6.len
       have r9:rowAt QW B6 0 17=(offC ⟨O.me,O.d,O.m,upd O.kn f (learnL (O.kn f) m.r.ao m.r.sq)⟩ ⟨L3.A0,L3.n0,L3.c0,L3.A1,L3.n1,L3.c1,L3.Am,L3.nm,L3.cm,upd L3.k f tl⟩).toArray:=z6.row
       have l4:rowLen QW (B+1+1)=17:=z4.len
       have t4:=z4.lt
       have t9:=z6.lt
       rename_i K9 hK9
       have HK9:=hid hK9
       clear hK9 hQW hw x4 hpl z6 z4 X3W hpW ck ck6 c3 l2 l3 f6 fb2 fb3 fb6 hm6 h6 hs hB
       go_wp2_with fail
       refine HK9.out _ _ ?_
       clear HK9
       go_wp2_with fail
       have hB:=HB.out
       have hs:=HS.out
       refine bodyPost_ret (ret_ctt rfl rfl (rowLen_setCells.trans l4) (rowAt_setCells_same rfl (Nat.le_of_eq l4.symm)) rfl rfl) rfl ?_
       have e1:GO=⟨O.me,O.d,O.m,upd O.kn f (learnL (O.kn f) m.r.ao m.r.sq)⟩:=by have:=HO.out;simp only[if_true] at this;rw[if_pos hack,learnO,show m.fr.toNat=f by rw[hf];rfl] at this;exact this
       have e2:GL=[]:=by have:=HL.out;rw[if_neg qQ] at this;exact this
       rw[e1,e2]
       exact⟨_,none,0,0,rfl,OffRf.mono (base:=B+1+1+1) (OffRf.cells A4.out tB) tB,MsgsA.nil _ _,Ext.cells _ _ X5.out tB⟩
     | false=>
      have HE3:Hid (appE O.d O.m m.r=j):=hid (by have e:=HE2.out;rw[if_neg qQ] at e;exact e)
      clear HE2
      rw[hack] at c3
      go_wp2_with (go_at_call 98;refine(risOffice_any _ _).mono ?_;rintro e w1 ⟨rfl,rfl⟩)
      refine(rCheckRecord_any m.r _ htx).mono ?_
      rintro e P2 ⟨rfl,x2⟩
      have X2:=hid (X1.out.trans x2)
      have b2:=hid (V2.out.of_ext x2)
      have b3:=hid (V3.out.of_ext x2)
      have b4:=hid (V4.out.of_ext x2)
      clear c2 c3 l2 l3 l4 t4 V2 V3 V4 x2 X1
      have X1:=X2
      have t4:=b4.out.lt
      have l4:rowLen P2 (B+1+1)=17:=b4.out.len
      cases hrk:recOk m.r with
      | false=>
       have Hj:Hid (j=70):=hid (by rw[←HE3.out,appE,if_pos Hk.out.mo,if_neg (by rw[hrk];simp)])
       have he:errRec m.r=70:=by rw[errRec,hrk];rfl
       rw[he]
       go_wp2_with fail
       have hj:=Hj.out
       refine bodyPost_ret (ret_ctt rfl rfl (rowLen_setCells.trans l4) (rowAt_setCells_same rfl qF) rfl rfl) rfl ?_;have hB:=HB.out;have e1:GO=noOff:=qL;have e2:GL=[]:=qM;rw[hj,e1,e2];exact⟨zL,none,0,0,rfl,OffRf.zero _ _,MsgsA.nil _ _,Ext.cells _ _ X1.out tB⟩
      | true=>
       have he:errRec m.r=0:=by rw[errRec,hrk];rfl
       rw[he]
       have c2:=b2.out.c17
       have c3:=b3.out.c14
       rw[hack] at c3
       have l2:=b2.out.lt
       have l3:=b3.out.lt
       go_wp2_with fail
       refine(rWritten_any O L P2 m.r (H.out.of_ext X1.out) ho htx).mono ?_
       rintro e P3 ⟨L3,rfl,hU,x3⟩
       rw[HE3.out]
       have hB:=HB.out
       have v2:=hid (b2.out.of_ext x3)
       have v3:=hid (b3.out.of_ext x3)
       have v4:=hid (b4.out.of_ext x3)
       have X3:=hid (X1.out.trans x3)
       have HU:=hid (hU.mono (base':=B+1+1+1) qP)
       have HS:=hid (show B+1+1<P3.heap.size from v4.out.lt)
       have n4:¬ (P3.heap.size=B+1+1):=by have:=v4.out.lt;omega
       rename_i K5 hK5 K4 hK4
       have HK5:=hid hK5
       clear hK5 c2 c3 l2 l3 t4 l4 hU x3 b2 b3 b4 hB X1 he
       go_wp2_with fail
       obtain⟨B6,hB6⟩:∃ B6,P3.heap.size=B6:=⟨_,rfl⟩
       simp only[hB6]
       obtain⟨Q1,hQ⟩:∃ Q1,(P3.alloc (.cells #[.int .i64 0,.slice none 0 0,.int .i64 0,.slice none 0 0,.int .i64 0,.slice none 0 0,.int .i64 0,.int .i64 0,.slice none 0 0,.slice none 0 0,.slice none 0 0,.slice none 0 0,.slice none 0 0,.slice none 0 0,.slice none 0 0,.slice none 0 0,.slice none 0 0] 76)).setCells B6 0 (offC (apO O m.r) L3)=Q1:=⟨_,rfl⟩
       simp only[hQ]
       have XQ1:Ext P3 Q1:=by rw[←hQ];exact Ext.cells _ _ (Ext.alloc (Ext.refl _) _) tB
       have q6:BoxC Q1 B6 (offC (apO O m.r) L3) 76:=by rw[←hQ];exact BoxC.cells (cs:=[.int .i64 0,.slice none 0 0,.int .i64 0,.slice none 0 0,.int .i64 0,.slice none 0 0,.int .i64 0,.int .i64 0,.slice none 0 0,.slice none 0 0,.slice none 0 0,.slice none 0 0,.slice none 0 0,.slice none 0 0,.slice none 0 0,.slice none 0 0,.slice none 0 0]) _ 0 (BoxC.new_at _ _ hB6.symm) (Nat.le_refl _)
       have W2:=hid (v2.out.of_ext XQ1)
       have W3:=hid (v3.out.of_ext XQ1)
       have W4:=hid (v4.out.of_ext XQ1)
       have XQ:=hid XQ1
       have H6:=hid hB6
       have l4:rowLen Q1 (B+1+1)=17:=W4.out.len
       have t4:=W4.out.lt
       refine HK5.out _ _ ?_
       clear HK5 hQ XQ1 v2 v3 v4 hB6 n4
       by_cases hj0:j=0
       ·subst hj0
        have hap:apO O m.r=apdO O m.r:=by rw[apO,if_pos HE3.out]
        rw[hap] at q6 HU
        have Hap:=hid hap
        have Hdr:=hid (syncD_firm (apd_drive Hk.out.mo HE3.out))
        have Hlen:=hid (apd_len Hk.out.mo HE3.out)
        have c6:=q6.c17
        have k6:=q6.lt
        have W6:=hid q6
        rw[Hap.out]
        clear hap q6 l4 t4
        go_wp2_with fail
        have hlen:=Hlen.out
        have hUd:=HU.out.d.read.of_ext XQ.out
        have hd0:=hUd.l0
        have hd1:=hUd.l1
        refine(rSync_any _ _ _ _ _ _ (apdO O m.r).d (by rw[←hd0];exact Nat.le_trans hlen.1 tN) (by rw[←hd1];exact Nat.le_trans hlen.2 tN) Q1 hUd).mono ?_
        rintro e P5 ⟨B0,m0,g0,B1,m1,g1,rfl,hd,x5⟩
        rw[show syncD (apdO O m.r).d=firmD (apdO O m.r).d from Hdr.out] at hd ⊢
        have h6:=H6.out
        have hs:=HS.out
        have q6:=W6.out.of_ext x5
        have hs5:=W6.out.lt
        have Hd:=hid (hd.anc.mono (base':=B6+1) tB)
        have X5:=hid (XQ.out.trans x5)
        have e6:=q6.c17
        have m6:=q6.lt
        have f6:=q6.frozen
        have Y2:=hid (W2.out.of_ext x5)
        have Y3:=hid (W3.out.of_ext x5)
        have Y4:=hid (W4.out.of_ext x5)
        have Y6:=hid q6
        rename_i K8 hK8 K4 hK4
        have HK8:=hid hK8
        clear hK8 hd x5 q6 c6 k6 W2 W3 W4 W6 hlen hUd hd0 hd1 h6 hs hs5
        go_wp2_with fail
        obtain⟨Q2,hQ2⟩:∃ Q2,(((P5.setCell ⟨B6,1,none⟩ (.slice B0 m0 g0)).setCell ⟨B6,2,none⟩ (.int .i64 (firmD (apdO O m.r).d).f0.firm)).setCell ⟨B6,3,none⟩ (.slice B1 m1 g1)).setCell ⟨B6,4,none⟩ (.int .i64 (firmD (apdO O m.r).d).f1.firm)=Q2:=⟨_,rfl⟩
        simp only[hQ2]
        have h6:=H6.out
        have hs:=HS.out
        have z6:BoxC Q2 B6 (offC (firmO (apdO O m.r)) ⟨B0,m0,g0,B1,m1,g1,L3.Am,L3.nm,L3.cm,L3.k⟩) 76:=by rw[←hQ2];exact(((Y6.out.set 1 _).set 2 _).set 3 _).set 4 _
        have z2:BoxC Q2 B (offC O L) 76:=by rw[←hQ2];exact(((Y2.out.other 1 _ tB).other 2 _ tB).other 3 _ tB).other 4 _ tB
        have z3:BoxC Q2 (B+1) (msgC m) 70:=by rw[←hQ2];exact(((Y3.out.other 1 _ tB).other 2 _ tB).other 3 _ tB).other 4 _ tB
        have z4:BoxC Q2 (B+1+1) (offC noOff zL) 76:=by rw[←hQ2];exact(((Y4.out.other 1 _ tB).other 2 _ tB).other 3 _ tB).other 4 _ tB
        have X32:Ext P3 Q2:=by rw[←hQ2];exact Ext.box (Ext.box (Ext.box (Ext.box X5.out _ _ tB) _ _ tB) _ _ tB) _ _ tB
        have hdA:DrvA (B6+1) Q2 (firmD (apdO O m.r).d) B0 m0 g0 B1 m1 g1:=by rw[←hQ2];exact(((Hd.out.set (Nat.lt_succ_self _)).set (Nat.lt_succ_self _)).set (Nat.lt_succ_self _)).set (Nat.lt_succ_self _)
        have A4:=hid (HU.out.drive X32 (hdA.mono (show B+1+1+1≤B6+1 by omega)))
        have HDA:=hid hdA
        have X6:=hid (X3.out.trans X32)
        have XW3:=hid X32
        obtain⟨f,hf⟩:∃ f:Nat,m.fr=f:=⟨m.fr.toNat,by have:=inB_spec.1 hfr;omega⟩
        have hf9:f<9:=by have:=inB_spec.1 hfr;omega
        have hfi:(f:Int)<9:=by omega
        have hkb:=Hk.out.kb f hf9
        have hlen:=knB_len hkb
        have hso:=(knB_iff.1 hkb).2
        have ck:=z2.cell (i:=8+f) (get_kn _ _ _ _ _ _ _ _ L.k f hf9)
        have ck6:=z6.cell (i:=8+f) (get_kn _ _ _ _ _ _ _ _ L3.k f hf9)
        have c3:=z3.c14
        rw[hack,hf] at c3
        have l2:=z2.lt
        have l3:=z3.lt
        have l6:=z6.lt
        have fz6:=z6.frozen
        have fb2:=far2 l2
        have fb3:=far2 l3
        have fb6:=far2 l6
        obtain⟨hkn0,_,_,hsl0⟩:=H.out.k f hf9
        have hsl:=hsl0.of_ext X6.out
        have U2:=hid z2
        have U3:=hid z3
        have U4:=hid z4
        have U6:=hid z6
        refine HK8.out _ _ ?_
        clear HK8 hQ2 h6 hs z6 z2 z3 z4 X32 hdA e6 m6 f6 Y2 Y3 Y4 Y6 hsl0
        go_wp2_with fail
        refine wp_region_ordZ 13 (.f 0 (.f 1 (.f 2 (.f 3 (.f 4 (.f 5 (.f 6 (.f 7 (.f 8 (.f 9 (.f 11 (.a 10 (.f 12 (.z 13)))))))))))))) (Kept (Q2) (Q2.heap.size) (Q2.heap.size)) tG tG (Kept.refl _ _ _).drew ?_
        refine oT ?_
        refine wpOrd_call rfl rfl rfl Tryz.call115 (fun R hR=> ?_)
        go_simp
        refine(learnt_any _ _ _ (O.kn f) m.r.ao m.r.sq hkn0 tB hso _ (hsl.of_ext exI)).mono ?_
        rintro e w1 ⟨tl,rfl,hpl,E1,d1,rfl⟩
        refine hR _ _ ⟨_,rfl,?_,?_⟩
        ·exact qm
        clear hR R
        simp only[Act.put,zp]
        refine oT ?_
        refine wpOrd_last rfl rfl (fun K hK=> ?_)
        go_simp
        refine hK _ _ ?_
        clear hK K
        try simp only[Act.put,zp]
        have hw:(Q2.setCell ⟨B6,8+f,none⟩ (.slice tl.A tl.n tl.c)).drew.ext E1 d1=(Q2.drew.ext E1 d1).setCell ⟨B6,8+f,none⟩ (.slice tl.A tl.n tl.c):=(setCell_dx Q2 E1 d1 B6 (8+f) _ l6).symm
        rw[hw]
        have x4:Ext Q2 (Q2.drew.ext E1 d1):=exI
        obtain⟨QW,hQW⟩:∃ QW,(Q2.drew.ext E1 d1).setCell ⟨B6,8+f,none⟩ (.slice tl.A tl.n tl.c)=QW:=⟨_,rfl⟩
        rw[hQW]
        have h6:=H6.out
        have hs:=HS.out
        have hB:=HB.out
        have z6:BoxC QW B6 (offC ⟨O.me,(firmD (apdO O m.r).d),(apdO O m.r).m,upd O.kn f (learnL (O.kn f) m.r.ao m.r.sq)⟩ ⟨B0,m0,g0,B1,m1,g1,L3.Am,L3.nm,L3.cm,upd L3.k f tl⟩) 76:=by
         rw[←hQW]
         have h2:=(U6.out.of_ext x4).set (8+f) (.slice tl.A tl.n tl.c)
         rw[set_kn _ _ _ _ _ _ _ _ L3.k f tl hf9] at h2
         exact h2
        have z2:BoxC QW B (offC O L) 76:=by rw[←hQW];exact(U2.out.of_ext x4).other _ _ tB
        have z3:BoxC QW (B+1) (msgC m) 70:=by rw[←hQW];exact(U3.out.of_ext x4).other _ _ tB
        have z4:BoxC QW (B+1+1) (offC noOff zL) 76:=by rw[←hQW];exact(U4.out.of_ext x4).other _ _ tB
        have X3W:Ext P3 QW:=by rw[←hQW];exact Ext.box (XW3.out.trans x4) _ _ tB
        have hpW:PlcA (B+1+1+1) QW tl (learnL (O.kn f) m.r.ao m.r.sq):=by
         rw[←hQW]
         exact PlcA.mono ((PlcA.mono (base':=B6+1) hpl qU).set (Nat.lt_succ_self _)) tB
        have hdW:DrvA (B6+1) QW (firmD (apdO O m.r).d) B0 m0 g0 B1 m1 g1:=by rw[←hQW];exact(HDA.out.of_ext x4).set (Nat.lt_succ_self _)
        have A5:=hid (((HU.out.learn (f:=f) X3W hpW)).drive (Ext.refl _) (hdW.mono (show B+1+1+1≤B6+1 by omega)))
        have X5w:=hid (X3.out.trans X3W)
        have c2:=z2.cell (i:=0) rfl
        have c3:=z3.c14
        rw[hack,hf] at c3
        have c6:=z6.c17
        have l2:=z2.lt
        have l3:=z3.lt
        have l6:=z6.lt
        have l4:rowLen QW (B+1+1)=17:=z4.len
        have t4:=z4.lt
        have n6:¬ (B6=B+1+1):=by omega
        have n3:¬ (B+1=B+1+1):=by omega
        have n2:¬ (B=B+1+1):=by omega
        rename_i K9 hK9
        have HK9:=hid hK9
        clear hK9 hQW hw x4 hpl z6 z2 z3 z4 X3W hpW hdW ck ck6 fz6 fb2 fb3 fb6 h6 hs hB U2 U3 U4 U6
        go_wp2_with fail
        refine HK9.out _ _ ?_
        clear HK9
        go_wp2_with fail
        refine wp_region_ord (.f 0 (.f 1 (.f 2 (.f 3 (.f 4 (.f 5 (.f 6 (.f 7 (.k 8 (.a 9 (.f 10 (.f 11 .d))) 9 (.a 8 (.f 10 (.f 11 .d)))))))))))) (Kept (QW) (B+1+1) (B+1+1)) tG tG (Kept.refl _ _ _).drew ?_
        refine oT ?_
        refine wpOrd_fork ?_ ?_
        focus
         refine oG ?_
         refine oG ?_
         refine oT ?_
         refine wpOrd_nil ?_
        rotate_right
        focus
         refine oG ?_
         refine oG ?_
         refine oT ?_
         refine wpOrd_nil ?_
        all_goals
         go_wp2_with fail
        all_goals
         have hB:=HB.out
         have e1:GO=⟨O.me,firmD (apdO O m.r).d,(apdO O m.r).m,upd O.kn f (learnL (O.kn f) m.r.ao m.r.sq)⟩:=by have:=HO.out;simp only[if_true] at this;rw[if_neg qQ,learnO,show m.fr.toNat=f by rw[hf];rfl] at this;exact this
         have e2:GL=[⟨O.me,f,true,m.r⟩]:=by have:=HL.out;simp only[true_and] at this;rw[if_pos hack,hf] at this;exact this
        ·refine bodyPost_ret (ret_ctt rfl rfl ((rowLen_alloc_old qR).trans (rowLen_setCells.trans l4)) ((rowAt_alloc_old qR).trans (rowAt_setCells_same rfl qS)) rfl rfl) rfl ?_
         rw[e1,e2]
         exact⟨_,_,1,1,rfl,OffRf.mono (base:=B+1+1+1) (OffRf.alloc (OffRf.cells (OffRf.drew A5.out) tB) _) tB,MsgsA.one (m:=⟨O.me,f,true,m.r⟩) (BoxC.new_at _ _ (by simp only[size_cells,World.size_drew])) tB,Ext.alloc (Ext.cells _ _ (Ext.drew X5w.out) tB) _⟩
        ·refine bodyPost_ret (ret_ctt rfl rfl (rowLen_setCells.trans ((rowLen_alloc_old t4).trans l4)) (rowAt_setCells_same rfl (by rw[rowLen_drew,rowLen_alloc_old t4,l4];decide)) rfl rfl) rfl ?_
         rw[e1,e2]
         exact⟨_,_,1,1,rfl,OffRf.mono (base:=B+1+1+1) (OffRf.cells (OffRf.drew (OffRf.alloc A5.out _)) tB) tB,MsgsA.one (m:=⟨O.me,f,true,m.r⟩) (BoxC.cellsOther tB _ _ (BoxC.drew (BoxC.new_at _ _ rfl))) tB,Ext.cells _ _ (Ext.drew (Ext.alloc X5w.out _)) tB⟩
       ·have hj2:(j != 0)=true:=by simpa using hj0
        clear q6
        go_wp2_with fail
        refine bodyPost_ret (ret_ctt rfl rfl (rowLen_setCells.trans l4) (rowAt_setCells_same rfl (Nat.le_of_eq l4.symm)) rfl rfl) rfl ?_
        have hB:=HB.out
        have e1:GO=noOff:=by have:=HO.out;rw[if_neg hj0] at this;exact this
        have e2:GL=[]:=by have:=HL.out;rw[if_neg (fun h=>hj0 h.1)] at this;exact this
        rw[e1,e2]
        exact⟨zL,none,0,0,rfl,OffRf.zero _ _,MsgsA.nil _ _,Ext.cells _ _ (X3.out.trans XQ.out) tB⟩
end Go.Proofs.YtekjdeibnfaehaaGreat
set_option linter.unusedSimpArgs false
set_option linter.unusedVariables false
namespace Go.Proofs.YtekjdeibnfaehaaGreat
open Go Go.RowKit
set_option maxRecDepth 100000 in
set_option maxHeartbeats 16000000 in
theorem rRestart_any(O:OffD)(L:OffL)(w:World)(k0 k1:Int)(h:OffY w O L):
 Calls Tryz.prog 49 #[offV O L,.agg #[.int .i64 k0,.int .i64 k1]] w fun e w'=> ∃L',e= .returned (.tuple #[offV (restO O k0 k1) L',.int .i64 (restE O k0 k1)])∧OffRf w.heap.size w' (restO O k0 k1) L'∧Ext w w':=by
 have H:=hid h
 clear h
 obtain⟨B,hB⟩:∃ B:Nat,w.heap.size=B:=⟨_,rfl⟩
 have HB:=hid hB
 obtain⟨j,hj⟩:∃ j,restE O k0 k1=j:=⟨_,rfl⟩
 obtain⟨GO,hGO⟩:∃ GO,restO O k0 k1=GO:=⟨_,rfl⟩
 rw[hj,hGO]
 have HE:=hid hj
 have HO:Hid (GO=if j=0 then⟨O.me,openD (crashD O.d k0 k1),openM (crashD O.d k0 k1),fun _=>[]⟩ else noOff):=hid (by rw[←hGO,restO,hj])
 clear hj hGO hB
 go_enter Tryz.func49,Tryz.ntmps49
 go_wp2_with fail
 refine(rCheckOffice_any O L _ (H.out.of_ext exI)).mono ?_
 rintro e P1 ⟨rfl,x1⟩
 have X1:Hid (Ext w P1):=hid (Ext.trans exI x1)
 have b2:BoxC P1 B (offC O L) 76:=BoxC.of_ext (((BoxC.new_at _ _ HB.out.symm).alloc _).alloc _) x1
 have b3:BoxC P1 (B+1) [.int .i64 k0,.int .i64 k1] 28:=BoxC.of_ext ((BoxC.new_at _ _ qH).alloc _) x1
 have b4:BoxC P1 (B+1+1) (offC noOff zL) 76:=BoxC.of_ext (BoxC.new_at _ _ qH) x1
 simp only[HB.out]
 have c2:=b2.c17
 have d0:=b3.cell (i:=0) rfl
 have d1:=b3.cell (i:=1) rfl
 have l4:rowLen P1 (B+1+1)=17:=b4.len
 have l3:=b3.lt
 have V2:=hid b2
 have V4:=hid b4
 clear x1 b2 b3 b4
 cases ho:offOk O with
 | false=>
  have Hj:Hid (j=76):=hid (by rw[←HE.out,restE,if_neg qG])
  rw[errOff_no ho]
  clear c2 d0 d1
  go_wp2_with fail
  have hj:=Hj.out
  have hB:=HB.out
  have e1:GO=noOff:=by have:=HO.out;rw[hj] at this;simpa using this
  refine bodyPost_ret (ret_ct rfl rfl (rowLen_setCells.trans l4) (rowAt_setCells_same rfl qF) rfl) rfl ?_
  rw[hj,e1]
  exact⟨zL,rfl,OffRf.zero _ _,Ext.cells _ _ X1.out tB⟩
 | true=>
  have Hk:=hid (H.out.ok ho)
  rw[errOff_ok ho]
  have HE2:Hid (openE (crashD O.d k0 k1)=j):=hid (by have e:=HE.out;rw[restE,if_pos ho] at e;exact e)
  clear HE
  go_wp2_with fail
  refine(rCrash_any _ _ _ _ _ _ O.d k0 k1 (by have:=Hk.out.s0;omega) (by have:=Hk.out.s1;omega) _ (H.out.d.of_ext X1.out)).mono ?_
  rintro e P2 ⟨B0,m0,e0,B1,m1,e1,rfl,hy,x2⟩
  have Hy:=hid hy.anc.read
  have X2:Hid (Ext w P2):=hid (X1.out.trans x2)
  have b2:=hid (V2.out.of_ext x2)
  have b4:=hid (V4.out.of_ext x2)
  clear hy x2 c2 d0 d1 l4 V2 V4
  go_wp2_with fail
  refine(rOpen_any B0 m0 e0 B1 m1 e1 (crashD O.d k0 k1) _ Hy.out).mono ?_
  rintro e P3 ⟨C0,n0,f0,C1,n1,f1,Am,nm,cm,rfl,hd,hm,x3⟩
  rw[HE2.out]
  have X3:Hid (Ext w P3):=hid (X2.out.trans x3)
  have v2:=b2.out.of_ext x3
  have v4:=b4.out.of_ext x3
  have Hd:=hid hd.anc
  have Hm:=hid hm
  have hz:Hid (B+1+1+1≤P2.heap.size):=hid qP
  have l4:rowLen P3 (B+1+1)=17:=v4.len
  have g2:=v2.cell (i:=0) rfl
  have s2:=v2.lt
  have s4:=v4.lt
  have s4b:B+1<P3.heap.size:=by omega
  clear hd hm x3 v2 v4 b2 b4 Hy l3
  by_cases hj0:j=0
  ·subst hj0
   go_wp2_with fail
   have hB:=HB.out
   have hzz:=hz.out
   have e1:GO=⟨O.me,openD (crashD O.d k0 k1),openM (crashD O.d k0 k1),fun _=>[]⟩:=by have:=HO.out;simpa using this
   rw[e1]
   have U:OffRf (B+1+1+1) P3 ⟨O.me,openD (crashD O.d k0 k1),openM (crashD O.d k0 k1),fun _=>[]⟩ ⟨C0,n0,f0,C1,n1,f1,Am,nm,cm,fun _=>⟨none,0,0⟩⟩:=⟨Hd.out.mono hzz,Hm.out.anc.l,Hm.out.anc.r.mono hzz,fun _ _=>PlcA.nil _ _⟩
   refine bodyPost_ret (ret_ct rfl rfl qW (rowAt_setCells_same rfl qX) rfl) rfl ?_
   exact⟨⟨C0,n0,f0,C1,n1,f1,Am,nm,cm,fun _=>⟨none,0,0⟩⟩,rfl,OffRf.mono (base:=B+1+1+1) (OffRf.cells (OffRf.alloc (OffRf.alloc U _) _) tB) tB,Ext.cells _ _ (Ext.alloc (Ext.alloc X3.out _) _) tB⟩
  ·have hj2:(j != 0)=true:=by simpa using hj0
   go_wp2_with fail
   have hB:=HB.out
   have e1:GO=noOff:=by have:=HO.out;rw[if_neg hj0] at this;exact this
   rw[e1]
   refine bodyPost_ret (ret_ct rfl rfl qW (rowAt_setCells_same rfl qX) rfl) rfl ?_
   exact⟨zL,rfl,OffRf.zero _ _,Ext.cells _ _ (Ext.alloc (Ext.alloc X3.out _) _) tB⟩
end Go.Proofs.YtekjdeibnfaehaaGreat
set_option linter.unusedSimpArgs false
set_option linter.unusedVariables false
namespace Go.Proofs.YtekjdeibnfaehaaGreat
open Go Go.RowKit
set_option maxRecDepth 100000 in
set_option maxHeartbeats 4000000 in
theorem rNew_any(w:World):
 Calls Tryz.prog 99 #[] w fun e w'=> ∃A0 c0,e= .returned (.tuple #[drvV A0 10 c0 10 none 0 0 0,memV none 0 0 0 1])∧OwnB w.heap.size w' (.slice A0 10 c0) (headB 1 0)∧Ext w w':=by
 go_enter Tryz.func99,Tryz.ntmps99
 go_wp2_with fail
 refine(rhead_any 1 0 tN tN tN tN _).mono ?_
 rintro e w1 ⟨v,rfl,ho,E1,d1,rfl⟩
 obtain⟨A0,c0,rfl,hc,hs⟩:=ownsRow_slice ho
 rw[headB_length] at *
 have Ho:=hid ho
 clear ho hc hs
 go_wp2_with fail
 refine bodyPost_ret (v:=.tuple #[drvV A0 10 c0 10 none 0 0 0,memV none 0 0 0 1]) (by simp[results,Tryz.results99,go_sem]) rfl ?_
 refine⟨A0,c0,rfl,?_,exI⟩
 exact OwnB.moved2 Ho.out (Ext.alloc (Ext.refl _) _) ta ta TC
set_option maxRecDepth 100000 in
set_option maxHeartbeats 4000000 in
theorem rNewOffice_any(me:Int)(w:World):
 Calls Tryz.prog 35 #[.int .i64 me] w fun e w'=> ∃L',e= .returned (.tuple #[offV (newO me) L',.int .i64 (newOE me)])∧OffA w.heap.size w' (newO me) L'∧Ext w w':=by
 cases hme:inB me 0 8 with
 | false=>
  have e1:newO me=noOff:=by rw[newO,hme];rfl
  have e2:newOE me=1:=by rw[newOE,hme];rfl
  rw[e1,e2]
  clear e1 e2
  go_enter Tryz.func35,Tryz.ntmps35
  go_wp2_with (go_at_call 98;refine(risOffice_any _ _).mono ?_;rintro e w1 ⟨rfl,rfl⟩)
  refine bodyPost_ret (ret_ct rfl rfl (rowLen_setCells.trans (rowLen_alloc_new rfl)) (rowAt_setCells_same rfl (by rw[rowLen_alloc_new rfl];decide)) rfl) rfl ?_
  exact⟨zL,rfl,OffA.zero _ _,Ext.cells _ _ exI (Nat.le_refl _)⟩
 | true=>
  have e1:newO me=⟨me,newDrive,newMem,fun _=>[]⟩:=by rw[newO,hme];rfl
  have e2:newOE me=0:=by rw[newOE,hme];rfl
  rw[e1,e2]
  clear e1 e2
  obtain⟨B,hB⟩:∃ B:Nat,w.heap.size=B:=⟨_,rfl⟩
  have HB:=hid hB
  clear hB
  go_enter Tryz.func35,Tryz.ntmps35
  go_wp2_with (go_at_call 98;refine(risOffice_any _ _).mono ?_;rintro e w1 ⟨rfl,rfl⟩)
  refine(rNew_any _).mono ?_
  rintro e P1 ⟨A0,c0,rfl,how,x1⟩
  have b0:BoxC P1 B (offC noOff zL) 76:=BoxC.of_ext (BoxC.new_at _ _ HB.out.symm) x1
  have X1:Hid (Ext w P1):=hid (Ext.trans exI x1)
  have Ho:=hid (how.anc.mono (base':=B+1) qH)
  have Hc:Hid (10≤c0∧c0≤9223372036854775807):=hid ⟨how.le,how.cap⟩
  have l0:rowLen P1 B=17:=b0.len
  have t0:=b0.lt
  have t1:B<P1.heap.size+1:=by omega
  have V0:=hid b0
  simp only[HB.out]
  clear b0 x1 how
  go_wp2_with fail
  have hB:=HB.out
  have hc:=Hc.out
  have U:OffA (B+1) P1 ⟨me,newDrive,newMem,fun _=>[]⟩ ⟨A0,10,c0,none,0,0,none,0,0,fun _=>⟨none,0,0⟩⟩:=⟨⟨headB_length 1 0,rfl,hc.1,Nat.le_refl _,hc.2,Nat.zero_le _,Ho.out,BytA.nil _ _ _⟩,rfl,⟨Nat.le_refl _,Nat.zero_le _⟩,RecsA.nil _ _ _,fun _ _=>PlcA.nil _ _⟩
  refine bodyPost_ret (ret_ct rfl rfl (rowLen_setCells.trans ((V0.out.alloc _).alloc _).len) (rowAt_setCells_same rfl (Nat.le_of_eq ((V0.out.alloc _).alloc _).len.symm)) rfl) rfl ?_
  exact⟨⟨A0,10,c0,none,0,0,none,0,0,fun _=>⟨none,0,0⟩⟩,rfl,OffA.mono (base:=B+1) (OffA.cells (OffA.alloc (OffA.alloc U _) _) tB) tB,Ext.cells _ _ (Ext.alloc (Ext.alloc X1.out _) _) tB⟩
end Go.Proofs.YtekjdeibnfaehaaGreat
