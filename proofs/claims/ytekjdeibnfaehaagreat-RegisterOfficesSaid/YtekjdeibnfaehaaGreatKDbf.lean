/- Texts of a proof. -/
import Derived.Test.YtekjdeibnfaehaaGreatKDbd
import Derived.Test.YtekjdeibnfaehaaGreatKDbe
import Derived.Test.YtekjdeibnfaehaaGreatKDbb
set_option linter.unusedSimpArgs false
set_option linter.unusedVariables false
namespace Go.Proofs.YtekjdeibnfaehaaGreat
open Go Go.RowKit
theorem addF_len(D:DriveD)(i:Int)(b:List UInt8):(addF D i b).f0.bytes.length≤D.f0.bytes.length+b.length∧(addF D i b).f1.bytes.length≤D.f1.bytes.length+b.length:=by
 unfold addF withFile fileAt
 split <;> simp
theorem apd_len{D:DriveD}{M:MemD}{r:Rec}(hm:memOk D M=true)(h0:appE D M r=0):(appD D M r).f0.bytes.length≤100224∧(appD D M r).f1.bytes.length≤100224:=by
 have hk:recOk r=true:=by
  rw[appE,if_pos hm] at h0
  cases hq:recOk r with
  | true=>rfl
  | false=>rw[hq] at h0;cases h0
 have h1:=driveOk_len (memOk_facts hm).1
 have h2:=addF_len D M.file (frameB r)
 have h3:=frameB_length r
 have h4:=recOk_text hk
 rw[appD,if_pos h0]
 split <;> omega
@[go_sem] theorem cellde(w:World)(E:Array Obj)(d n i:Nat)(hn:n<w.heap.size):(w.drew.ext E d).cell? ⟨n,i,none⟩=w.cell? ⟨n,i,none⟩:=cell?_drew_ext w E d n i hn
@[go_sem] theorem frozende(w:World)(E:Array Obj)(d n i:Nat)(hn:n<w.heap.size):(w.drew.ext E d).frozen? ⟨n,i,none⟩=w.frozen? ⟨n,i,none⟩:=frozen?_drew_ext w E d n i hn
@[reducible] def syncL(L:OffL)(A0 A1:Option Addr):OffL:=⟨A0,L.n0,L.n0,A1,L.n1,L.n1,L.Am,L.nm,L.cm,L.k⟩
theorem OffA.sync2{base:Nat}{P P':World}{O:OffD}{L:OffL}{A0 A1:Option Addr}(h:OffA base P O L)(x:Ext P P')(k0:L.n0≤9223372036854775807)(k1:L.n1≤9223372036854775807)(o0:BytA base P' A0 O.d.f0.bytes)(o1:BytA base P' A1 O.d.f1.bytes):OffA base P' (firmO O) (syncL L A0 A1):=
 ⟨⟨h.d.l0,h.d.l1,Nat.le_refl _,Nat.le_refl _,k0,k1,o0,o1⟩,h.l,h.h,h.r.of_ext x,fun i hi=>(h.k i hi).of_ext x⟩
theorem OffU.sync2{base:Nat}{P P':World}{O:OffD}{L:OffL}{A0 A1:Option Addr}(h:OffU base P O L)(hb:base≤P.heap.size)(x:Ext P P')(k0:L.n0≤9223372036854775807)(k1:L.n1≤9223372036854775807)(o0:BytA P.heap.size P' A0 O.d.f0.bytes)(o1:BytA P.heap.size P' A1 O.d.f1.bytes):OffU base P' (firmO O) (syncL L A0 A1):=by
 refine⟨h.a.sync2 x k0 k1 (o0.mono hb) (o1.mono hb),h.k.of_ext x,fun i hi a ha=> ?_⟩
 have hlt:=((h.k.own i hi).lies a ha).2
 refine⟨fun hn b hb=> ?_,fun hn b hb=> ?_,(h.s i hi a ha).2.2⟩
 ·have:=o0.2 (by rw[h.a.d.l0];exact hn) b hb;omega
 ·have:=o1.2 (by rw[h.a.d.l1];exact hn) b hb;omega
theorem offV_firm{O:OffD}{L:OffL}(h0:O.d.f0.bytes.length=L.n0)(h1:O.d.f1.bytes.length=L.n1)(A0 A1:Option Addr):
 offV (firmO O) (syncL L A0 A1)= .agg #[.int .i64 O.me,.slice A0 L.n0 L.n0,.int .i64 L.n0,.slice A1 L.n1 L.n1,.int .i64 L.n1,.slice L.Am L.nm L.cm,.int .i64 O.m.file,.int .i64 O.m.gen,.slice (L.k 0).A (L.k 0).n (L.k 0).c,.slice (L.k 1).A (L.k 1).n (L.k 1).c,.slice (L.k 2).A (L.k 2).n (L.k 2).c,.slice (L.k 3).A (L.k 3).n (L.k 3).c,.slice (L.k 4).A (L.k 4).n (L.k 4).c,.slice (L.k 5).A (L.k 5).n (L.k 5).c,.slice (L.k 6).A (L.k 6).n (L.k 6).c,.slice (L.k 7).A (L.k 7).n (L.k 7).c,.slice (L.k 8).A (L.k 8).n (L.k 8).c]:=by
 simp only[offV,firmO,firmD,firmF,h0,h1]
end Go.Proofs.YtekjdeibnfaehaaGreat
set_option linter.unusedSimpArgs false
set_option linter.unusedVariables false
namespace Go.Proofs.YtekjdeibnfaehaaGreat
open Go Go.RowKit
@[reducible] def msgC(m:MsgD):List Value:=[.int .i64 m.fr,.int .i64 m.to,.bool m.ack,.int .i64 m.r.ao,.int .i64 m.r.sq,.int .i64 m.r.kind,.int .i64 m.r.ship,.int .i64 m.r.day,.int .i64 m.r.known,.int .i64 m.r.wo,.int .i64 m.r.ws,.int .i64 m.r.to,.int .i64 m.r.til,.string m.r.text]
@[reducible] def msgV(m:MsgD):Value:=.agg #[.int .i64 m.fr,.int .i64 m.to,.bool m.ack,.int .i64 m.r.ao,.int .i64 m.r.sq,.int .i64 m.r.kind,.int .i64 m.r.ship,.int .i64 m.r.day,.int .i64 m.r.known,.int .i64 m.r.wo,.int .i64 m.r.ws,.int .i64 m.r.to,.int .i64 m.r.til,.string m.r.text]
def MsgsA(base:Nat)(w:World)(A:Option Addr)(n c:Nat)(l:List MsgD):Prop:=l.length=n∧n≤c∧c≤9223372036854775807∧SlA base 14 w A n (l.flatMap msgC)
theorem MsgsA.nil(base:Nat)(w:World):MsgsA base w none 0 0 []:=⟨rfl,Nat.le_refl _,Nat.zero_le _,⟨⟨rfl,fun h=>absurd h (Nat.lt_irrefl 0)⟩,fun h=>absurd h (Nat.lt_irrefl 0)⟩⟩
section
variable{base b g i n c:Nat}{P w w':World}{A:Option Addr}{l:List MsgD}{t:TypeId}{vs:List Value}{v:Value}
theorem MsgsA.mono(h:MsgsA base w A n c l)(hb:b≤base):MsgsA b w A n c l:=⟨h.1,h.2.1,h.2.2.1,h.2.2.2.mono hb⟩
theorem MsgsA.cells(h:MsgsA base w A n c l)(hb:g<base):MsgsA base (w.setCells g i vs) A n c l:=⟨h.1,h.2.1,h.2.2.1,SlA.cells hb vs i h.2.2.2⟩
theorem MsgsA.one{m:MsgD}(h:BoxC P g (msgC m) t)(hb:base≤g):MsgsA base P (some ⟨g,0,none⟩) 1 1 [m]:=by
 refine⟨rfl,Nat.le_refl _,by decide,⟨rfl,fun _=>⟨g,0,rfl,h.lt,fun j u hu=> ?_⟩⟩,fun _ a ha=>by cases ha;exact hb⟩
 rw[Nat.zero_add]
 exact h.cell (by simpa using hu)
theorem offN_low{w:World}{O:OffD}{L:OffL}(h:OffA base w O L):OffN w.heap.size L:=
 ⟨fun hn a ha=>by have:=sl_low h.d.b0.1 (by rw[h.d.l0];exact hn) ha;omega,fun hn a ha=>by have:=sl_low h.d.b1.1 (by rw[h.d.l1];exact hn) ha;omega,fun hn a ha=>by have:=sl_low h.r.1 (by rw[h.l];exact hn) ha;omega⟩
theorem offC_firm{O:OffD}{L:OffL}(h0:O.d.f0.bytes.length=L.n0)(h1:O.d.f1.bytes.length=L.n1)(A0 A1:Option Addr):
 offC (firmO O) (syncL L A0 A1)=[.int .i64 O.me,.slice A0 L.n0 L.n0,.int .i64 L.n0,.slice A1 L.n1 L.n1,.int .i64 L.n1,.slice L.Am L.nm L.cm,.int .i64 O.m.file,.int .i64 O.m.gen,.slice (L.k 0).A (L.k 0).n (L.k 0).c,.slice (L.k 1).A (L.k 1).n (L.k 1).c,.slice (L.k 2).A (L.k 2).n (L.k 2).c,.slice (L.k 3).A (L.k 3).n (L.k 3).c,.slice (L.k 4).A (L.k 4).n (L.k 4).c,.slice (L.k 5).A (L.k 5).n (L.k 5).c,.slice (L.k 6).A (L.k 6).n (L.k 6).c,.slice (L.k 7).A (L.k 7).n (L.k 7).c,.slice (L.k 8).A (L.k 8).n (L.k 8).c]:=by
 simp only[offC,firmO,firmD,firmF,h0,h1]
theorem BoxC.c14{v0 v1 v2 v3 v4 v5 v6 v7 v8 v9 v10 v11 v12 v13:Value}(h:BoxC P b [v0,v1,v2,v3,v4,v5,v6,v7,v8,v9,v10,v11,v12,v13] t):P.cell? ⟨b,0,none⟩=some v0∧P.cell? ⟨b,1,none⟩=some v1∧P.cell? ⟨b,2,none⟩=some v2∧P.cell? ⟨b,3,none⟩=some v3∧P.cell? ⟨b,4,none⟩=some v4∧P.cell? ⟨b,5,none⟩=some v5∧P.cell? ⟨b,6,none⟩=some v6∧P.cell? ⟨b,7,none⟩=some v7∧P.cell? ⟨b,8,none⟩=some v8∧P.cell? ⟨b,9,none⟩=some v9∧P.cell? ⟨b,10,none⟩=some v10∧P.cell? ⟨b,11,none⟩=some v11∧P.cell? ⟨b,12,none⟩=some v12∧P.cell? ⟨b,13,none⟩=some v13∧rowLen P b=14∧rowAt P b 3 11= #[v3,v4,v5,v6,v7,v8,v9,v10,v11,v12,v13]∧rowAt P b 0 14= #[v0,v1,v2,v3,v4,v5,v6,v7,v8,v9,v10,v11,v12,v13]:=
 ⟨h.cell (i:=0) rfl,h.cell (i:=1) rfl,h.cell (i:=2) rfl,h.cell (i:=3) rfl,h.cell (i:=4) rfl,h.cell (i:=5) rfl,h.cell (i:=6) rfl,h.cell (i:=7) rfl,h.cell (i:=8) rfl,h.cell (i:=9) rfl,h.cell (i:=10) rfl,h.cell (i:=11) rfl,h.cell (i:=12) rfl,h.cell (i:=13) rfl,h.len,h.rows 3 11 (Nat.le_refl 14),h.row⟩
end
end Go.Proofs.YtekjdeibnfaehaaGreat
set_option linter.unusedSimpArgs false
set_option linter.unusedVariables false
namespace Go.Proofs.YtekjdeibnfaehaaGreat
open Go Go.RowKit
theorem recvE_at{O:OffD}{m:MsgD}(ho:offOk O=true)(h:m.to=O.me∧inB m.fr 0 8=true∧m.fr≠O.me):recvE O m=if m.ack=true then if hasR O.m.recs m.r.ao m.r.sq=true then 0 else 3 else appE O.d O.m m.r:=by rw[recvE,if_pos ho,if_pos h]
theorem recvE_not{O:OffD}{m:MsgD}(ho:offOk O=true)(h:¬ (m.to=O.me∧inB m.fr 0 8=true∧m.fr≠O.me)):recvE O m=1:=by rw[recvE,if_pos ho,if_neg h]
set_option maxRecDepth 100000 in
set_option maxHeartbeats 16000000 in
theorem Receive_any(O:OffD)(L:OffL)(w:World)(m:MsgD)(h:OffY w O L)(htx:m.r.text.size≤9223372036854775807):
 Calls Tryz.prog 46 #[offV O L,msgV m] w fun e w'=> ∃L' A n c,e= .returned (.tuple #[offV (recvO O m) L',.slice A n c,.int .i64 (recvE O m)])∧OffA w.heap.size w' (recvO O m) L'∧MsgsA w.heap.size w' A n c (recvL O m)∧Ext w w':=by
 have H:=hid h
 clear h
 obtain⟨B,hB⟩:∃ B:Nat,w.heap.size=B:=⟨_,rfl⟩
 have HB:=hid hB
 obtain⟨j,hj⟩:∃ j,recvE O m=j:=⟨_,rfl⟩
 obtain⟨GO,hGO⟩:∃ GO,recvO O m=GO:=⟨_,rfl⟩
 obtain⟨GL,hGL⟩:∃ GL,recvL O m=GL:=⟨_,rfl⟩
 rw[hj,hGO,hGL]
 have HE:=hid hj
 have HO:Hid (GO=if j=0 then if m.ack=true then learnO O m else learnO (firmO (apdO O m.r)) m else noOff):=hid (by rw[←hGO,recvO,hj])
 have HL:Hid (GL=if j=0∧m.ack=false then[⟨O.me,m.fr,true,m.r⟩] else[]):=hid (by rw[←hGL,recvL,hj])
 clear hj hGO hGL hB
 go_enter Tryz.func46,Tryz.ntmps46
 go_wp2_with fail
 refine(isAsOffice_any O L _ (H.out.of_ext exI)).mono ?_
 rintro e P1 ⟨rfl,x1⟩
 have X1:Hid (Ext w P1):=hid (Ext.trans exI x1)
 have b2:BoxC P1 B (offC O L) 76:=BoxC.of_ext (((BoxC.new_at _ _ HB.out.symm).alloc _).alloc _) x1
 have b3:BoxC P1 (B+1) (msgC m) 70:=BoxC.of_ext ((BoxC.new_at _ _ qH).alloc _) x1
 have b4:BoxC P1 (B+1+1) (offC noOff zL) 76:=BoxC.of_ext (BoxC.new_at _ _ qH) x1
 simp only[HB.out]
 have V2:=hid b2
 have V3:=hid b3
 have V4:=hid b4
 have c2:=b2.c17
 have c3:=b3.c14
 have l2:=b2.lt
 have l3:=b3.lt
 have l4:rowLen P1 (B+1+1)=17:=b4.len
 clear x1 b2 b3 b4
 cases ho:offOk O with
 | false=>
  have Hj:Hid (j=76):=hid (by rw[←HE.out,recvE,if_neg qG])
  go_wp2_with fail
  have hj:=Hj.out
  refine bodyPost_ret (ret_ctt rfl rfl (rowLen_setCells.trans l4) (rowAt_setCells_same rfl qF) rfl rfl) rfl ?_;have hB:=HB.out;have e1:GO=noOff:=qL;have e2:GL=[]:=qM;rw[hj,e1,e2];exact⟨zL,none,0,0,rfl,OffA.zero _ _,MsgsA.nil _ _,Ext.cells _ _ X1.out tB⟩
 | true=>
  have Hk:=hid (H.out.ok ho)
  cases hto:(m.to != O.me) with
  | true=>
   have Hj:Hid (j=1):=hid qN
   go_wp2_with (go_at_call 97;refine(isOffice_any _ _).mono ?_;rintro e w1 ⟨rfl,rfl⟩)
   have hj:=Hj.out
   refine bodyPost_ret (ret_ctt rfl rfl (rowLen_setCells.trans l4) (rowAt_setCells_same rfl qF) rfl rfl) rfl ?_;have hB:=HB.out;have e1:GO=noOff:=qL;have e2:GL=[]:=qM;rw[hj,e1,e2];exact⟨zL,none,0,0,rfl,OffA.zero _ _,MsgsA.nil _ _,Ext.cells _ _ X1.out tB⟩
  | false=>
   cases hfr:inB m.fr 0 8 with
   | false=>
    have Hj:Hid (j=1):=hid (by rw[←HE.out];exact recvE_not ho (fun hx=>by rw[hfr] at hx;cases hx.2.1))
    go_wp2_with (go_at_call 97;refine(isOffice_any _ _).mono ?_;rintro e w1 ⟨rfl,rfl⟩)
    have hj:=Hj.out
    refine bodyPost_ret (ret_ctt rfl rfl (rowLen_setCells.trans l4) (rowAt_setCells_same rfl qF) rfl rfl) rfl ?_;have hB:=HB.out;have e1:GO=noOff:=qL;have e2:GL=[]:=qM;rw[hj,e1,e2];exact⟨zL,none,0,0,rfl,OffA.zero _ _,MsgsA.nil _ _,Ext.cells _ _ X1.out tB⟩
   | true=>
    cases hne:(m.fr==O.me) with
    | true=>
     have Hj:Hid (j=1):=hid (by rw[←HE.out];exact recvE_not ho (fun hx=>hx.2.2 (by simpa using hne)))
     go_wp2_with (go_at_call 97;refine(isOffice_any _ _).mono ?_;rintro e w1 ⟨rfl,rfl⟩)
     have hj:=Hj.out
     refine bodyPost_ret (ret_ctt rfl rfl (rowLen_setCells.trans l4) (rowAt_setCells_same rfl qF) rfl rfl) rfl ?_;have hB:=HB.out;have e1:GO=noOff:=qL;have e2:GL=[]:=qM;rw[hj,e1,e2];exact⟨zL,none,0,0,rfl,OffA.zero _ _,MsgsA.nil _ _,Ext.cells _ _ X1.out tB⟩
    | false=>
     have HE2:Hid ((if m.ack=true then if hasR O.m.recs m.r.ao m.r.sq=true then 0 else 3 else appE O.d O.m m.r)=j):=hid qO
     clear HE
     cases hack:m.ack with
     | true=>
      have HE3:Hid ((if hasR O.m.recs m.r.ao m.r.sq=true then 0 else 3)=j):=hid (by have e:=HE2.out;rw[if_pos hack] at e;exact e)
      clear HE2
      have hsrt:=(checkB_iff.1 Hk.out.ck).2.2
      rw[hack] at c3
      go_wp2_with (go_at_call 97;refine(isOffice_any _ _).mono ?_;rintro e w1 ⟨rfl,rfl⟩)
      refine(find_any L.Am L.cm L.nm O.m.recs m.r.ao m.r.sq H.out.l qD hsrt _ (H.out.r.of_ext X1.out)).mono ?_
      rintro e P2 ⟨rfl,x2⟩
      have X2:Hid (Ext w P2):=hid (X1.out.trans x2)
      have b2:=hid (V2.out.of_ext x2)
      have b3:=hid (V3.out.of_ext x2)
      have b4:=hid (V4.out.of_ext x2)
      clear c2 c3 l2 l3 l4 V2 V3 V4 x2 X1 hsrt
      have X1:=X2
      have c2:=b2.out.c17
      have l4:rowLen P2 (B+1+1)=17:=b4.out.len
      cases hh:hasR O.m.recs m.r.ao m.r.sq with
      | false=>
       have Hj:Hid (j=3):=hid (by rw[←HE3.out,hh];rfl)
       go_wp2_with fail
       have hj:=Hj.out
       refine bodyPost_ret (ret_ctt rfl rfl (rowLen_setCells.trans l4) (rowAt_setCells_same rfl qF) rfl rfl) rfl ?_;have hB:=HB.out;have e1:GO=noOff:=qL;have e2:GL=[]:=qM;rw[hj,e1,e2];exact⟨zL,none,0,0,rfl,OffA.zero _ _,MsgsA.nil _ _,Ext.cells _ _ X1.out tB⟩
      | true=>
       obtain rfl:0=j:=by rw[←HE3.out,hh];rfl
       obtain⟨f,hf⟩:∃ f:Nat,m.fr=f:=⟨m.fr.toNat,by have:=inB_spec.1 hfr;omega⟩
       have hf9:f<9:=by have:=inB_spec.1 hfr;omega
       have c3:=b3.out.c14
       rw[hack] at c3
       have l3:=b3.out.lt
       go_wp2_with fail
       refine(officeCopy_any O L P2 (H.out.of_ext X2.out) Hk.out.s0 Hk.out.s1 qD (fun i hi=>by have:=Hk.out.k i hi;omega)).mono ?_
       rintro e P3 ⟨L3,rfl,hU,x3⟩
       have hoff:=hid (offN_low hU.a)
       have X3:Hid (Ext w P3):=hid (X2.out.trans x3)
       have hB:=HB.out
       have HU:=hid (hU.mono (b:=B+1+1+1) qP)
       have v3:=hid (b3.out.of_ext x3)
       have v4:=hid (b4.out.of_ext x3)
       clear c2 c3 l3 l4 hU x3 b2 b3 b4 hB
       have c3:=v3.out.c14
       rw[hack] at c3
       have l3:=v3.out.lt
       have n3:¬ (P3.heap.size=B+1):=by omega
       go_wp2_with fail
       obtain⟨B6,hB6⟩:∃ B6,P3.heap.size=B6:=⟨_,rfl⟩
       simp only[hB6]
       obtain⟨Q1,hQ⟩:∃ Q1,(P3.alloc (.cells #[.int .i64 0,.slice none 0 0,.int .i64 0,.slice none 0 0,.int .i64 0,.slice none 0 0,.int .i64 0,.int .i64 0,.slice none 0 0,.slice none 0 0,.slice none 0 0,.slice none 0 0,.slice none 0 0,.slice none 0 0,.slice none 0 0,.slice none 0 0,.slice none 0 0] 76)).setCells B6 0 (offC O L3)=Q1:=⟨_,rfl⟩
       simp only[hQ]
       have XQ1:Ext P3 Q1:=by rw[←hQ];exact Ext.cells _ _ (Ext.alloc (Ext.refl _) _) tB
       have q6:BoxC Q1 B6 (offC O L3) 76:=by rw[←hQ];exact BoxC.cells (cs:=[.int .i64 0,.slice none 0 0,.int .i64 0,.slice none 0 0,.int .i64 0,.slice none 0 0,.int .i64 0,.int .i64 0,.slice none 0 0,.slice none 0 0,.slice none 0 0,.slice none 0 0,.slice none 0 0,.slice none 0 0,.slice none 0 0,.slice none 0 0,.slice none 0 0]) _ 0 (BoxC.new_at _ _ hB6.symm) (Nat.le_refl _)
       have hB:=HB.out
       have h46:B+1+1<B6:=by rw[←hB6];exact v4.out.lt
       try rw[hf]
       refine(learn_any O L3 (B+1+1+1) B6 f m.r.ao m.r.sq w Q1 hf9 q6 (HU.out.of_ext XQ1) (by rw[←hB6];exact hoff.out) tB (Hk.out.kb f hf9) (X3.out.trans XQ1) tB).mono ?_
       rintro e P4 ⟨L4,rfl,hb6,hA4,hx4,hkeep⟩
       have hb4:=hkeep (B+1+1) _ _ tB tN (v4.out.of_ext XQ1)
       have X4:=hid hx4
       have A4:=hid hA4
       have l4:rowLen P4 (B+1+1)=17:=hb4.len
       have c6:=hb6.c17
       clear hb4 hb6 hA4 hx4 hkeep q6 XQ1 hQ hB6 c3 l3 v3 v4 h46 hB
       go_wp2_with fail
       have hB:=HB.out
       refine bodyPost_ret (ret_ctt rfl rfl (rowLen_setCells.trans l4) (rowAt_setCells_same rfl qF) rfl rfl) rfl ?_
       have e1:GO=⟨O.me,O.d,O.m,upd O.kn f (learnL (O.kn f) m.r.ao m.r.sq)⟩:=by have:=HO.out;simp only[if_true] at this;rw[if_pos hack,learnO,show m.fr.toNat=f by rw[hf];rfl] at this;exact this
       have e2:GL=[]:=by have:=HL.out;rw[if_neg qQ] at this;exact this
       rw[e1,e2]
       exact⟨L4,none,0,0,rfl,OffA.mono (base:=B+1+1+1) (OffA.cells A4.out tB) tB,MsgsA.nil _ _,Ext.cells _ _ X4.out tB⟩
     | false=>
      have HE3:Hid (appE O.d O.m m.r=j):=hid (by have e:=HE2.out;rw[if_neg qQ] at e;exact e)
      clear HE2
      rw[hack] at c3
      go_wp2_with (go_at_call 97;refine(isOffice_any _ _).mono ?_;rintro e w1 ⟨rfl,rfl⟩)
      obtain⟨f,hf⟩:∃ f:Nat,m.fr=f:=⟨m.fr.toNat,by have:=inB_spec.1 hfr;omega⟩
      have hf9:f<9:=by have:=inB_spec.1 hfr;omega
      refine(appended_any O L P1 m.r (H.out.of_ext X1.out) ho htx).mono ?_
      rintro e P3 ⟨L3,rfl,hU,x3⟩
      rw[HE3.out]
      have hj:=HE3.out
      have X3:Hid (Ext w P3):=hid (X1.out.trans x3)
      have q2:=V2.out.of_ext x3
      have q3:=V3.out.of_ext x3
      have q4:=V4.out.of_ext x3
      have hU':=hU.mono (b:=B+1+1+1) (by have:=V4.out.lt;omega)
      clear hU x3 c2 c3 l2 l3 l4 V2 V3 V4
      have l4:rowLen P3 (B+1+1)=17:=q4.len
      have t4:=q4.lt
      have n4:¬ (P3.heap.size=B+1+1):=by omega
      by_cases hj0:j=0
      ·subst hj0
       have hap:apO O m.r=apdO O m.r:=by rw[apO,if_pos hj]
       rw[hap] at hU' ⊢
       have HU:=hid hU'
       have hoff:=hid (offN_low hU'.a)
       have W2:=hid q2
       have W3:=hid q3
       have W4:=hid q4
       have hlen:=hid (apd_len Hk.out.mo hj)
       clear hap hU' q2 q3 q4 hj
       go_wp2_with fail
       obtain⟨B6,hB6⟩:∃ B6,P3.heap.size=B6:=⟨_,rfl⟩
       simp only[hB6]
       obtain⟨Q1,hQ⟩:∃ Q1,(P3.alloc (.cells #[.int .i64 0,.slice none 0 0,.int .i64 0,.slice none 0 0,.int .i64 0,.slice none 0 0,.int .i64 0,.int .i64 0,.slice none 0 0,.slice none 0 0,.slice none 0 0,.slice none 0 0,.slice none 0 0,.slice none 0 0,.slice none 0 0,.slice none 0 0,.slice none 0 0] 76)).setCells B6 0 (offC (apdO O m.r) L3)=Q1:=⟨_,rfl⟩
       simp only[hQ]
       have XQ1:Ext P3 Q1:=by rw[←hQ];exact Ext.cells _ _ (Ext.alloc (Ext.refl _) _) tB
       have q6:BoxC Q1 B6 (offC (apdO O m.r) L3) 76:=by rw[←hQ];exact BoxC.cells (cs:=[.int .i64 0,.slice none 0 0,.int .i64 0,.slice none 0 0,.int .i64 0,.slice none 0 0,.int .i64 0,.int .i64 0,.slice none 0 0,.slice none 0 0,.slice none 0 0,.slice none 0 0,.slice none 0 0,.slice none 0 0,.slice none 0 0,.slice none 0 0,.slice none 0 0]) _ 0 (BoxC.new_at _ _ hB6.symm) (Nat.le_refl _)
       have hUa:=HU.out.of_ext XQ1
       have e0:(appD O.d O.m m.r).f0.bytes.length=L3.n0:=hUa.a.d.l0
       have e1:(appD O.d O.m m.r).f1.bytes.length=L3.n1:=hUa.a.d.l1
       have hle:=hlen.out
       refine(synced_any _ _ _ _ _ _ _ _ (apdO O m.r).d.f0.bytes (apdO O m.r).d.f1.bytes e0 e1 tB tB _ hUa.a.d.b0.read hUa.a.d.b1.read).mono ?_
       rintro e P4 ⟨A0,A1,rfl,o0,o1,x4⟩
       have hq1:B6<Q1.heap.size:=q6.lt
       have k0:=hid (o0.anc.mono (base':=B6+1) tB)
       have k1:=hid (o1.anc.mono (base':=B6+1) tB)
       have hcap:Hid (L3.n0≤9223372036854775807∧L3.n1≤9223372036854775807):=hid ⟨o0.cap,o1.cap⟩
       have h46:B+1+1<B6:=by rw[←hB6];exact t4
       have X34:Hid (Ext P3 P4∧P3.heap.size≤B6∧P3.heap.size=B6∧B+1+1<B6):=hid ⟨XQ1.trans x4,by omega,hB6,h46⟩
       have E0:=hid e0
       have E1:=hid e1
       have v6:=q6.of_ext x4
       have v2:=hid ((W2.out.of_ext XQ1).of_ext x4)
       have v3:=(W3.out.of_ext XQ1).of_ext x4
       have v4:=hid ((W4.out.of_ext XQ1).of_ext x4)
       have N2:Hid (¬(B6=B)):=hid tB
       have N3:Hid (¬(B6=B+1)):=hid tB
       have N4:Hid (¬(B6=B+1+1)):=hid tB
       have ne3:¬ (B+1=B6):=by omega
       clear hUa o0 o1 x4 hle hlen q6 hQ hB6 l4 t4 n4 XQ1 e0 e1 W2 W3 W4 hq1 h46
       have c6:=v6.c17
       have l6:=v6.lt
       have f6:=v6.frozen
       have c3:=v3.c14
       rw[hack] at c3
       have l3:=v3.lt
       have V6:=hid v6
       have V3:=hid v3
       clear v6 v3
       go_wp2_with fail
       obtain⟨Q2,hQ2⟩:∃ Q2,(((P4.setCell ⟨B6,1,none⟩ (.slice A0 L3.n0 L3.n0)).setCell ⟨B6,2,none⟩ (.int .i64 L3.n0)).setCell ⟨B6,3,none⟩ (.slice A1 L3.n1 L3.n1)).setCell ⟨B6,4,none⟩ (.int .i64 L3.n1)=Q2:=⟨_,rfl⟩
       simp only[hQ2]
       have z6:BoxC Q2 B6 (offC (firmO (apdO O m.r)) (syncL L3 A0 A1)) 76:=by rw[offC_firm E0.out E1.out,←hQ2];exact(((V6.out.set 1 _).set 2 _).set 3 _).set 4 _
       have z2:BoxC Q2 B (offC O L) 76:=by rw[←hQ2];exact(((v2.out.other _ _ N2.out).other _ _ N2.out).other _ _ N2.out).other _ _ N2.out
       have z3:BoxC Q2 (B+1) (msgC m) 70:=by rw[←hQ2];exact(((V3.out.other _ _ N3.out).other _ _ N3.out).other _ _ N3.out).other _ _ N3.out
       have z4:BoxC Q2 (B+1+1) (offC noOff zL) 76:=by rw[←hQ2];exact(((v4.out.other _ _ N4.out).other _ _ N4.out).other _ _ N4.out).other _ _ N4.out
       obtain⟨x34,h36,h66,h46⟩:=X34.out
       have x32:Ext P3 Q2:=by rw[←hQ2];exact Ext.box (Ext.box (Ext.box (Ext.box x34 _ _ h36) _ _ h36) _ _ h36) _ _ h36
       have w0:BytA (B6+1) Q2 A0 (apdO O m.r).d.f0.bytes:=by rw[←hQ2];exact(((k0.out.set (Nat.lt_succ_self _)).set (Nat.lt_succ_self _)).set (Nat.lt_succ_self _)).set (Nat.lt_succ_self _)
       have w1:BytA (B6+1) Q2 A1 (apdO O m.r).d.f1.bytes:=by rw[←hQ2];exact(((k1.out.set (Nat.lt_succ_self _)).set (Nat.lt_succ_self _)).set (Nat.lt_succ_self _)).set (Nat.lt_succ_self _)
       have U2:=HU.out.sync2 tB x32 hcap.out.1 hcap.out.2 (w0.mono tB) (w1.mono tB)
       have hof:OffN B6 (syncL L3 A0 A1):=⟨fun hn a ha=>by have:=w0.2 (by rw[show(apdO O m.r).d.f0.bytes.length=L3.n0 from E0.out];exact hn) a ha;omega,fun hn a ha=>by have:=w1.2 (by rw[show(apdO O m.r).d.f1.bytes.length=L3.n1 from E1.out];exact hn) a ha;omega,by rw[←h66];exact hoff.out.2.2⟩
       have hB:=HB.out
       try rw[hf]
       refine(learn_any (firmO (apdO O m.r)) (syncL L3 A0 A1) (B+1+1+1) B6 f m.r.ao m.r.sq w Q2 hf9 z6 U2 hof tB (Hk.out.kb f hf9) (X3.out.trans x32) tB).mono ?_
       rintro e P5 ⟨L5,rfl,hb6,hA5,hx5,hkeep⟩
       have y2:=hkeep B _ _ tB tN z2
       have y3:=hkeep (B+1) _ _ tB tN z3
       have y4:=hkeep (B+1+1) _ _ tB tN z4
       have X5:=hid hx5
       have A5:=hid hA5
       clear hA5 hx5 hkeep z2 z3 z4 z6 hof U2 w0 w1 x32 h36 h66 h46 x34 hQ2 c6 l6 f6 c3 l3 V6 V3 v2 v4 hB ne3 hoff HU k0 k1 hcap X34 E0 E1
       have c2:=y2.c17
       have c3:=y3.c14
       rw[hack] at c3
       have c6:=hb6.c17
       have l2:=y2.lt
       have l3:=y3.lt
       have l6:=hb6.lt
       have l4:rowLen P5 (B+1+1)=17:=y4.len
       have t4:=y4.lt
       have n6:=N4.out
       have n3:¬ (B+1=B+1+1):=by omega
       have n2:¬ (B=B+1+1):=by omega
       try rw[hf] at c3
       clear y2 y3 y4 hb6
       go_wp2_with fail
       refine wp_region_ord (.f 0 (.f 1 (.f 2 (.f 3 (.f 4 (.f 5 (.f 6 (.f 7 (.k 8 (.a 9 (.f 10 (.f 11 .d))) 9 (.a 8 (.f 10 (.f 11 .d)))))))))))) (Kept (P5) (B+1+1) (B+1+1)) tG tG (Kept.refl _ _ _).drew ?_
       refine oT ?_
       refine wpOrd_fork ?_ ?_
       focus
        refine oG ?_
        refine oG ?_
        refine oT ?_
        refine wpOrd_nil ?_
       rotate_right
       focus
        refine oG ?_
        refine oG ?_
        refine oT ?_
        refine wpOrd_nil ?_
       all_goals
        go_wp2_with fail
       have hB:=HB.out
       have e1:GO=⟨(firmO (apdO O m.r)).me,(firmO (apdO O m.r)).d,(firmO (apdO O m.r)).m,upd (firmO (apdO O m.r)).kn f (learnL ((firmO (apdO O m.r)).kn f) m.r.ao m.r.sq)⟩:=by have:=HO.out;simp only[if_true] at this;rw[if_neg qQ,learnO,show m.fr.toNat=f by rw[hf];rfl] at this;exact this
       have e2:GL=[⟨O.me,f,true,m.r⟩]:=by have:=HL.out;simp only[true_and] at this;rw[if_pos hack,hf] at this;exact this
       ·refine bodyPost_ret (ret_ctt rfl rfl ((rowLen_alloc_old qR).trans (rowLen_setCells.trans l4)) ((rowAt_alloc_old qR).trans (rowAt_setCells_same rfl qS)) rfl rfl) rfl ?_
        rw[e1,e2]
        exact⟨L5,_,1,1,rfl,OffA.mono (base:=B+1+1+1) (OffA.alloc (OffA.cells (OffA.drew A5.out) tB) _) tB,MsgsA.one (m:=⟨O.me,f,true,m.r⟩) (BoxC.new_at _ _ (by simp only[size_cells,World.size_drew])) tB,Ext.alloc (Ext.cells _ _ (Ext.drew X5.out) tB) _⟩
       ·have hB:=HB.out
        have e1:GO=⟨(firmO (apdO O m.r)).me,(firmO (apdO O m.r)).d,(firmO (apdO O m.r)).m,upd (firmO (apdO O m.r)).kn f (learnL ((firmO (apdO O m.r)).kn f) m.r.ao m.r.sq)⟩:=by have:=HO.out;simp only[if_true] at this;rw[if_neg qQ,learnO,show m.fr.toNat=f by rw[hf];rfl] at this;exact this
        have e2:GL=[⟨O.me,f,true,m.r⟩]:=by have:=HL.out;simp only[true_and] at this;rw[if_pos hack,hf] at this;exact this
        refine bodyPost_ret (ret_ctt rfl rfl (rowLen_setCells.trans ((rowLen_alloc_old t4).trans l4)) (rowAt_setCells_same rfl (by rw[rowLen_drew,rowLen_alloc_old t4,l4];decide)) rfl rfl) rfl ?_
        rw[e1,e2]
        exact⟨L5,_,1,1,rfl,OffA.mono (base:=B+1+1+1) (OffA.cells (OffA.drew (OffA.alloc A5.out _)) tB) tB,MsgsA.one (m:=⟨O.me,f,true,m.r⟩) (BoxC.cellsOther tB _ _ (BoxC.drew (BoxC.new_at _ _ rfl))) tB,Ext.cells _ _ (Ext.drew (Ext.alloc X5.out _)) tB⟩
      ·have hj2:(j != 0)=true:=by simpa using hj0
       clear hj
       go_wp2_with fail
       have hB:=HB.out
       have e1:GO=noOff:=by have:=HO.out;rw[if_neg hj0] at this;exact this
       have e2:GL=[]:=by have:=HL.out;rw[if_neg (by simp[hj0])] at this;exact this
       rw[e1,e2]
       refine bodyPost_ret (ret_ctt rfl rfl qJ (rowAt_setCells_same rfl qK) rfl rfl) rfl ?_
       exact⟨zL,none,0,0,rfl,OffA.zero _ _,MsgsA.nil _ _,Ext.cells _ _ (Ext.cells _ _ (Ext.alloc X3.out _) tB) tB⟩
end Go.Proofs.YtekjdeibnfaehaaGreat
set_option linter.unusedSimpArgs false
set_option linter.unusedVariables false
namespace Go.Proofs.YtekjdeibnfaehaaGreat
open Go Go.RowKit
theorem info_msg:(Tryz.prog.info? 70).map (fun i=>(i.zero,i.size,i.bytes))=some (some (.agg #[.int .i64 0,.int .i64 0,.bool false,.int .i64 0,.int .i64 0,.int .i64 0,.int .i64 0,.int .i64 0,.int .i64 0,.int .i64 0,.int .i64 0,.int .i64 0,.int .i64 0,.string ⟨#[]⟩]),14,120):=by kernel_rfl
theorem msgC_one(l:List MsgD):∀ u∈l.flatMap msgC,u.oneCell'=true:=by
 intro u hu
 obtain⟨r,_,hr⟩:=List.mem_flatMap.1 hu
 simp only[msgC,List.mem_cons,List.not_mem_nil,or_false] at hr
 rcases hr with rfl|rfl|rfl|rfl|rfl|rfl|rfl|rfl|rfl|rfl|rfl|rfl|rfl|rfl <;> rfl
def OwnM(base:Nat)(w:World)(v:Value)(l:List MsgD):Prop:=w.ownsRow base 70 14 v l.length (l.flatMap msgC)
theorem OwnM.of_ext{base:Nat}{w w':World}{v:Value}{l:List MsgD}(h:OwnM base w v l)(hx:Ext w w'):OwnM base w' v l:=by
 obtain⟨E,d,rfl⟩:=hx
 exact ownsRow_ext h E d
theorem OwnM.none(base:Nat)(w:World):OwnM base w (.slice none 0 0) []:=ownsRow_none base
theorem OwnM.msgs{base n c:Nat}{w:World}{A:Option Addr}{l:List MsgD}(h:OwnM base w (.slice A n c) l):MsgsA base w A n c l:=by
 obtain⟨A2,c2,hv,hc,hs⟩:=ownsRow_slice h
 rcases h.2 with⟨h0,hx⟩|⟨g,cap,cur,hg,hb,hh,h1,h2,_⟩
 ·cases hv
  simp only[Value.slice.injEq] at h0
  exact⟨rfl,hc,by omega,hs,fun hn=>by omega⟩
 ·cases hv
  simp only[Value.slice.injEq] at hg
  exact⟨rfl,hc,by unfold maxLen at h2;omega,hs,fun _ a ha=>by rw[hg.1] at ha;cases ha;exact hb⟩
theorem OwnM.slice{base:Nat}{w:World}{v:Value}{l:List MsgD}(h:OwnM base w v l):∃ A n c,v= .slice A n c:=by
 obtain⟨A,c,hv,_⟩:=ownsRow_slice h
 exact⟨A,_,c,hv⟩
theorem ld_rec{P:World}{g i:Nat}(r:Rec)(h0:P.cell? ⟨g,i,none⟩=some (.int .i64 r.ao))(h1:P.cell? ⟨g,i+1,none⟩=some (.int .i64 r.sq))(h2:P.cell? ⟨g,i+2,none⟩=some (.int .i64 r.kind))(h3:P.cell? ⟨g,i+3,none⟩=some (.int .i64 r.ship))(h4:P.cell? ⟨g,i+4,none⟩=some (.int .i64 r.day))(h5:P.cell? ⟨g,i+5,none⟩=some (.int .i64 r.known))(h6:P.cell? ⟨g,i+6,none⟩=some (.int .i64 r.wo))(h7:P.cell? ⟨g,i+7,none⟩=some (.int .i64 r.ws))(h8:P.cell? ⟨g,i+8,none⟩=some (.int .i64 r.to))(h9:P.cell? ⟨g,i+9,none⟩=some (.int .i64 r.til))(h10:P.cell? ⟨g,i+10,none⟩=some (.string r.text)):(ldRow 46 ⟨g,i,none⟩).run Tryz.prog P= .ok (recV r) P:=by
 have hl:=run_loadCells_list (P:=Tryz.prog) P ⟨g,i,none⟩ (recC r) (fun j v hv=>by
  rw[addr_add]
  have:j<11:=(List.getElem?_eq_some_iff.1 hv).1
  have hj:j=0∨j=1∨j=2∨j=3∨j=4∨j=5∨j=6∨j=7∨j=8∨j=9∨j=10:=by omega
  rcases hj with rfl|rfl|rfl|rfl|rfl|rfl|rfl|rfl|rfl|rfl|rfl <;> (cases hv;assumption))
 have hu:=agg_rcd
 have hi:=size_rcd
 unfold ldRow
 cases hq:Tryz.prog.info? 46 with
 | none=>simp[hq] at hi
 | some f=>
  have hs:f.size=11:=by simpa [hq] using hi
  have hagg:(isAgg 46).run Tryz.prog P= .ok true P:=by
   unfold isAgg
   cases hx:Tryz.prog.underlying 46 with
   | none=>simp[hx] at hu
   | some u=>
    rw[Sem.run_bind,run_underlying hx P]
    simp only[hx,Option.map_some,Option.some.injEq] at hu
    cases u <;> simp_all [aggD]
  simp only[List.length_cons,List.length_nil,Nat.zero_add,Nat.reduceAdd] at hl
  simp[loadVar,Sem.run_bind,hagg,sizeOf,typeInfo,hq,hs,hl]
def offK(O:OffD)(to:Int)(l:List Rec):List MsgD:=(l.filter fun r=> !knowsB (O.kn to.toNat) r.ao r.sq).map fun r=>⟨O.me,to,false,r⟩
theorem offK_snoc(O:OffD)(to:Int)(l:List Rec)(r:Rec):offK O to (l++[r])=offK O to l++if knowsB (O.kn to.toNat) r.ao r.sq=true then[] else[⟨O.me,to,false,r⟩]:=by
 unfold offK
 rw[List.filter_append,List.map_append]
 congr 1
 cases h:knowsB (O.kn to.toNat) r.ao r.sq <;> simp[List.filter,h]
theorem offK_len(O:OffD)(to:Int)(l:List Rec):(offK O to l).length≤l.length:=by
 unfold offK
 rw[List.length_map]
 exact List.length_filter_le _ _
theorem OwnM.block{base:Nat}{w:World}{v:Value}{l:List MsgD}(h:OwnM base w v l):∀ k,v.ownBlock=some k→base≤k:=by
 intro k hk
 rcases h.2 with⟨h0,_⟩|⟨g,cap,cur,hg,hb,_⟩
 ·rw[h0] at hk;cases hk
 ·rw[hg] at hk;cases hk;exact hb
set_option maxRecDepth 100000 in
set_option maxHeartbeats 16000000 in
theorem Offer_any(O:OffD)(L:OffL)(w:World)(t:Int)(h:OffY w O L):
 Calls Tryz.prog 44 #[offV O L,.int .i64 t] w fun e w'=> ∃L' A n c,e= .returned (.tuple #[offV (offerO O t) L',.slice A n c,.int .i64 (offerE O t)])∧OffA w.heap.size w' (offerO O t) L'∧MsgsA w.heap.size w' A n c (offerL O t)∧Ext w w':=by
 obtain⟨i0,hi,hz0,hz1,hz2⟩:=info_parts info_msg
 have H:=hid h
 clear h
 obtain⟨B,hB⟩:∃ B:Nat,w.heap.size=B:=⟨_,rfl⟩
 have HB:=hid hB
 obtain⟨j,hj⟩:∃ j,offerE O t=j:=⟨_,rfl⟩
 obtain⟨GO,hGO⟩:∃ GO,offerO O t=GO:=⟨_,rfl⟩
 obtain⟨GL,hGL⟩:∃ GL,offerL O t=GL:=⟨_,rfl⟩
 rw[hj,hGO,hGL]
 have HE:=hid hj
 have HO:Hid (GO=if j=0 then firmO O else noOff):=hid (by rw[←hGO,offerO,hj])
 have HL:Hid (GL=if j=0 then offK O t O.m.recs else[]):=hid (by rw[←hGL,offerL,hj];rfl)
 clear hj hGO hGL hB
 go_enter Tryz.func44,Tryz.ntmps44
 go_wp2_with fail
 refine(isAsOffice_any O L _ (H.out.of_ext exI)).mono ?_
 rintro e P1 ⟨rfl,x1⟩
 have X1:Hid (Ext w P1):=hid (Ext.trans exI x1)
 have b2:BoxC P1 B (offC O L) 76:=BoxC.of_ext ((BoxC.new_at _ _ HB.out.symm).alloc _) x1
 have b4:BoxC P1 (B+1) (offC noOff zL) 76:=BoxC.of_ext (BoxC.new_at _ _ qH) x1
 simp only[HB.out]
 have V2:=hid b2
 have V4:=hid b4
 have c2:=b2.c17
 have l2:=b2.lt
 have l4:rowLen P1 (B+1)=17:=b4.len
 clear x1 b2 b4
 cases ho:offOk O with
 | false=>
  have Hj:Hid (j=76):=hid (by rw[←HE.out,offerE,if_neg qG])
  go_wp2_with fail
  have hj:=Hj.out
  refine bodyPost_ret (ret_ctt rfl rfl (rowLen_setCells.trans l4) (rowAt_setCells_same rfl qF) rfl rfl) rfl ?_;have hB:=HB.out;have e1:GO=noOff:=qL;have e2:GL=[]:=qT;rw[hj,e1,e2];exact⟨zL,none,0,0,rfl,OffA.zero _ _,MsgsA.nil _ _,Ext.cells _ _ X1.out tB⟩
 | true=>
  have Hk:=hid (H.out.ok ho)
  cases hfr:inB t 0 8 with
  | false=>
   have Hj:Hid (j=1):=hid (by rw[←HE.out,offerE,if_pos ho,if_neg (by rw[hfr];simp)])
   go_wp2_with (go_at_call 97;refine(isOffice_any _ _).mono ?_;rintro e w1 ⟨rfl,rfl⟩)
   have hj:=Hj.out
   refine bodyPost_ret (ret_ctt rfl rfl (rowLen_setCells.trans l4) (rowAt_setCells_same rfl qF) rfl rfl) rfl ?_;have hB:=HB.out;have e1:GO=noOff:=qL;have e2:GL=[]:=qT;rw[hj,e1,e2];exact⟨zL,none,0,0,rfl,OffA.zero _ _,MsgsA.nil _ _,Ext.cells _ _ X1.out tB⟩
  | true=>
   cases hne:(t==O.me) with
   | true=>
    have Hj:Hid (j=1):=hid (by rw[←HE.out,offerE,if_pos ho,if_neg (fun hx=>hx.2 (by simpa using hne))])
    go_wp2_with (go_at_call 97;refine(isOffice_any _ _).mono ?_;rintro e w1 ⟨rfl,rfl⟩)
    have hj:=Hj.out
    refine bodyPost_ret (ret_ctt rfl rfl (rowLen_setCells.trans l4) (rowAt_setCells_same rfl qF) rfl rfl) rfl ?_;have hB:=HB.out;have e1:GO=noOff:=qL;have e2:GL=[]:=qT;rw[hj,e1,e2];exact⟨zL,none,0,0,rfl,OffA.zero _ _,MsgsA.nil _ _,Ext.cells _ _ X1.out tB⟩
   | false=>
    obtain rfl:0=j:=by rw[←HE.out,offerE,if_pos ho,if_pos ⟨hfr,by simpa using hne⟩]
    clear HE
    go_wp2_with (go_at_call 97;refine(isOffice_any _ _).mono ?_;rintro e w1 ⟨rfl,rfl⟩)
    refine(officeCopy_any O L P1 (H.out.of_ext X1.out) Hk.out.s0 Hk.out.s1 qD (fun i hi=>by have:=Hk.out.k i hi;omega)).mono ?_
    rintro e P3 ⟨L3,rfl,hU,x3⟩
    have X3:Hid (Ext w P3):=hid (X1.out.trans x3)
    have hB:=HB.out
    have HU:=hid (hU.mono (b:=B+1+1) (by have:=V4.out.lt;omega))
    have v2:=hid (V2.out.of_ext x3)
    have v4:=hid (V4.out.of_ext x3)
    clear c2 l2 l4 hU x3 V2 V4 hB
    go_wp2_with fail
    obtain⟨B6,hB6⟩:∃ B6,P3.heap.size=B6:=⟨_,rfl⟩
    simp only[hB6]
    obtain⟨Q1,hQ⟩:∃ Q1,(P3.alloc (.cells #[.int .i64 0,.slice none 0 0,.int .i64 0,.slice none 0 0,.int .i64 0,.slice none 0 0,.int .i64 0,.int .i64 0,.slice none 0 0,.slice none 0 0,.slice none 0 0,.slice none 0 0,.slice none 0 0,.slice none 0 0,.slice none 0 0,.slice none 0 0,.slice none 0 0] 76)).setCells B6 0 (offC O L3)=Q1:=⟨_,rfl⟩
    simp only[hQ]
    have XQ1:Ext P3 Q1:=by rw[←hQ];exact Ext.cells _ _ (Ext.alloc (Ext.refl _) _) tB
    have q6:BoxC Q1 B6 (offC O L3) 76:=by rw[←hQ];exact BoxC.cells (cs:=[.int .i64 0,.slice none 0 0,.int .i64 0,.slice none 0 0,.int .i64 0,.slice none 0 0,.int .i64 0,.int .i64 0,.slice none 0 0,.slice none 0 0,.slice none 0 0,.slice none 0 0,.slice none 0 0,.slice none 0 0,.slice none 0 0,.slice none 0 0,.slice none 0 0]) _ 0 (BoxC.new_at _ _ hB6.symm) (Nat.le_refl _)
    have hUa:=HU.out.of_ext XQ1
    have e0:=hUa.a.d.l0
    have e1:=hUa.a.d.l1
    have hs0:=Hk.out.s0
    have hs1:=Hk.out.s1
    have hy0:=H.out.d.l0
    have hy1:=H.out.d.l1
    refine(synced_any _ _ _ _ _ _ _ _ O.d.f0.bytes O.d.f1.bytes e0 e1 tB tB _ hUa.a.d.b0.read hUa.a.d.b1.read).mono ?_
    rintro e P4 ⟨A0,A1,rfl,o0,o1,x4⟩
    have hq1:B6<Q1.heap.size:=q6.lt
    have k0:=hid (o0.anc.mono (base':=B6+1) tB)
    have k1:=hid (o1.anc.mono (base':=B6+1) tB)
    have hcap:Hid (L3.n0≤9223372036854775807∧L3.n1≤9223372036854775807):=hid ⟨o0.cap,o1.cap⟩
    have h46:B+1<B6:=by rw[←hB6];exact v4.out.lt
    have X34:Hid (Ext P3 P4∧P3.heap.size≤B6∧B+1<B6):=hid ⟨XQ1.trans x4,by omega,h46⟩
    have E0:=hid e0
    have E1:=hid e1
    have v6:=q6.of_ext x4
    have u2:=(v2.out.of_ext XQ1).of_ext x4
    have u4:=(v4.out.of_ext XQ1).of_ext x4
    have N2:Hid (¬(B6=B)):=hid tB
    have N4:Hid (¬(B6=B+1)):=hid tB
    clear hUa o0 o1 x4 q6 hQ hB6 XQ1 e0 e1 hq1 h46 hs0 hs1 hy0 hy1 v2 v4
    have c6:=v6.c17
    have l6:=v6.lt
    have f6:=v6.frozen
    have V6:=hid v6
    have V2:=hid u2
    have V4:=hid u4
    clear v6 u2 u4
    go_wp2_with fail
    obtain⟨Q2,hQ2⟩:∃ Q2,(((P4.setCell ⟨B6,1,none⟩ (.slice A0 L3.n0 L3.n0)).setCell ⟨B6,2,none⟩ (.int .i64 L3.n0)).setCell ⟨B6,3,none⟩ (.slice A1 L3.n1 L3.n1)).setCell ⟨B6,4,none⟩ (.int .i64 L3.n1)=Q2:=⟨_,rfl⟩
    simp only[hQ2]
    have z6:BoxC Q2 B6 [.int .i64 O.me,.slice A0 L3.n0 L3.n0,.int .i64 L3.n0,.slice A1 L3.n1 L3.n1,.int .i64 L3.n1,.slice L3.Am L3.nm L3.cm,.int .i64 O.m.file,.int .i64 O.m.gen,.slice (L3.k 0).A (L3.k 0).n (L3.k 0).c,.slice (L3.k 1).A (L3.k 1).n (L3.k 1).c,.slice (L3.k 2).A (L3.k 2).n (L3.k 2).c,.slice (L3.k 3).A (L3.k 3).n (L3.k 3).c,.slice (L3.k 4).A (L3.k 4).n (L3.k 4).c,.slice (L3.k 5).A (L3.k 5).n (L3.k 5).c,.slice (L3.k 6).A (L3.k 6).n (L3.k 6).c,.slice (L3.k 7).A (L3.k 7).n (L3.k 7).c,.slice (L3.k 8).A (L3.k 8).n (L3.k 8).c] 76:=by rw[←hQ2];exact(((V6.out.set 1 _).set 2 _).set 3 _).set 4 _
    have z2:BoxC Q2 B (offC O L) 76:=by rw[←hQ2];exact(((V2.out.other _ _ N2.out).other _ _ N2.out).other _ _ N2.out).other _ _ N2.out
    have z4:BoxC Q2 (B+1) (offC noOff zL) 76:=by rw[←hQ2];exact(((V4.out.other _ _ N4.out).other _ _ N4.out).other _ _ N4.out).other _ _ N4.out
    obtain⟨x34,h36,h46⟩:=X34.out
    have x32:Ext P3 Q2:=by rw[←hQ2];exact Ext.box (Ext.box (Ext.box (Ext.box x34 _ _ h36) _ _ h36) _ _ h36) _ _ h36
    have w0:BytA (B6+1) Q2 A0 O.d.f0.bytes:=by rw[←hQ2];exact(((k0.out.set (Nat.lt_succ_self _)).set (Nat.lt_succ_self _)).set (Nat.lt_succ_self _)).set (Nat.lt_succ_self _)
    have w1:BytA (B6+1) Q2 A1 O.d.f1.bytes:=by rw[←hQ2];exact(((k1.out.set (Nat.lt_succ_self _)).set (Nat.lt_succ_self _)).set (Nat.lt_succ_self _)).set (Nat.lt_succ_self _)
    have A2:Hid (OffA (B+1+1) Q2 (firmO O) (syncL L3 A0 A1)):=hid (HU.out.a.sync2 x32 hcap.out.1 hcap.out.2 (w0.mono tB) (w1.mono tB))
    have XQ2:Hid (Ext w Q2):=hid (X3.out.trans x32)
    have hr:=HU.out.a.r.read.of_ext x32
    have hnl:=HU.out.a.l
    have Z6:=hid z6
    have Z2:=hid z2
    have Z4:=hid z4
    have Hlt:Hid (B+1<B6):=hid h46
    clear z6 z2 z4 x34 h36 h46 x32 w0 w1 hQ2 V6 V2 V4 X34 k0 k1 hcap c6 l6 f6
    obtain⟨f,rfl⟩:∃ f:Nat,t=f:=⟨t.toNat,by have:=inB_spec.1 hfr;omega⟩
    have hf9:f<9:=by have:=inB_spec.1 hfr;omega
    have hfi:(f:Int)<9:=by omega
    have hkb:=Hk.out.kb f hf9
    have hso:=(knB_iff.1 hkb).2
    have hlen:=knB_len hkb
    have hKn:=hid ((A2.out.k f hf9).read)
    have h80:=Hk.out.sm
    have hyl:=H.out.l
    obtain⟨AV,hAV⟩:∃ AV,L3.Am=AV:=⟨_,rfl⟩
    simp only[hAV]
    rw[hAV] at hr
    clear hfr hAV
    go_loopw [8,40] (fun v i wr=> ∃k:Nat,k≤L3.nm∧i= .int .i64 k∧Ext Q2 wr∧OwnM Q2.heap.size wr v (offK O f (O.m.recs.take k))) (fun _ i _=>L3.nm-(intOf i).toNat)
    case atStart=>exact⟨0,Nat.zero_le _,rfl,Ext.refl _,OwnM.none _ _⟩
    case round=>
     obtain⟨k,hk,rfl,⟨E0',d0,rfl⟩,hown⟩:=hrel
     obtain⟨A3,n3,c3,rfl⟩:=hown.slice
     have Hown:=hid hown
     clear hown
     by_cases hlt:k<L3.nm
     ·have hm:k<O.m.recs.length:=by omega
      obtain⟨g,of,rfl,hg⟩:=hr.addr tB
      obtain⟨h0,h1,h2,h3,h4,h5,h6,h7,h8,h9,h10⟩:=(hr.of_ext ⟨E0',d0,rfl⟩).row hm
      obtain⟨r,hrk⟩:∃ r,O.m.recs[k]=r:=⟨_,rfl⟩
      rw[hrk] at h0 h1 h2 h3 h4 h5 h6 h7 h8 h9 h10
      have Hrk:Hid (O.m.recs.take (k+1)=O.m.recs.take k++[r]):=hid (by rw[List.take_succ_eq_append_getElem hm,hrk])
      have hrow:=ld_rec (P:=Q2.ext E0' d0) (g:=g) (i:=of+k * 11) r h0 h1 h2 h3 h4 h5 h6 h7 h8 h9 h10
      have Hr:=hid hr
      clear h0 h1 h2 h3 h4 h5 h6 h7 h8 h9 h10 hrk hr
      go_wp2_with fail
      obtain⟨BR,hBR⟩:∃ BR,Q2.heap.size+E0'.size=BR:=⟨_,rfl⟩
      simp only[hBR]
      obtain⟨Q3,hQ3⟩:∃ Q3,((Q2.ext E0' d0).alloc (.cells #[.int .i64 0,.int .i64 0,.int .i64 0,.int .i64 0,.int .i64 0,.int .i64 0,.int .i64 0,.int .i64 0,.int .i64 0,.int .i64 0,.string ⟨#[]⟩] 46)).setCells BR 0 (recC r)=Q3:=⟨_,rfl⟩
      simp only[hQ3]
      have XQ3:Ext Q2 Q3:=by rw[←hQ3];exact Ext.cells _ _ (Ext.alloc ⟨E0',d0,rfl⟩ _) tB
      have XQ3':Ext (Q2.ext E0' d0) Q3:=by rw[←hQ3];exact Ext.cells _ _ (Ext.alloc (Ext.refl _) _) qU
      have q:BoxC Q3 BR (recC r) 46:=by rw[←hQ3];exact BoxC.cells (cs:=[.int .i64 0,.int .i64 0,.int .i64 0,.int .i64 0,.int .i64 0,.int .i64 0,.int .i64 0,.int .i64 0,.int .i64 0,.int .i64 0,.string ⟨#[]⟩]) _ 0 (BoxC.new_at _ _ qU) (Nat.le_refl _)
      have c11:=q.c11
      have lq:=q.lt
      have y6:=Z6.out.of_ext XQ3
      have ck:=y6.cell (i:=8+f) (get_kn _ _ _ _ _ _ _ _ L3.k f hf9)
      have l6:=y6.lt
      have y2:=(Z2.out.of_ext XQ3).cell (i:=0) rfl
      have l2:=(Z2.out.of_ext XQ3).lt
      obtain⟨hkn0,_,_,hsl0⟩:=hKn.out
      have hkn:(O.kn f).length=(L3.k f).n:=hkn0
      have hx23:Q2.heap.size≤Q3.heap.size:=XQ3.below.size
      have hol:=offK_len O f (O.m.recs.take k)
      have hol2:(offK O f (O.m.recs.take k)).length≤80:=by rw[List.length_take] at hol;omega
      have hsl:=hsl0.of_ext XQ3
      have Hown3:=hid (Hown.out.of_ext XQ3')
      have X23:=hid XQ3
      clear hrow y6 q hQ3 XQ3' hsl0 XQ3 hkn0 hol
      cases hkk:knowsB (O.kn f) r.ao r.sq with
      | true=>
       have Hs:Hid (offK O f (O.m.recs.take (k+1))=offK O f (O.m.recs.take k)):=hid qV
       refine wp_region_ord (.f 0 (.f 1 (.f 2 (.f 3 (.f 4 (.f 5 (.a 6 (.f 7 (.f 8 (.f 9 (.f 10 (.f 11 .d)))))))))))) (Ext (Q3)) tG tG exI ?_
       refine oS ?_
       refine wpOrd_call rfl rfl rfl Tryz.call111 (fun R hR=> ?_)
       go_simp
       refine(knows_any _ _ _ (O.kn f) r.ao r.sq hkn tB hso _ (hsl.of_ext exI)).mono ?_
       rintro e w1 ⟨rfl,E201,d201,rfl⟩
       refine hR _ _ ⟨_,rfl,?_,?_⟩
       ·exact exI
       clear hR R
       simp only[Act.put,zp]
       refine oS ?_
       refine wpOrd_nil ?_
       go_wp2_with fail
       exact⟨⟨k+1,by omega,by go_num,X23.out.trans exI,by rw[Hs.out];exact Hown3.out.of_ext exI⟩,by simp[intOf];omega⟩
      | false=>
       have Hs:Hid (offK O f (O.m.recs.take (k+1))=offK O f (O.m.recs.take k)++[⟨O.me,f,false,r⟩]):=hid qV
       refine wp_region_ord (.f 0 (.f 1 (.f 2 (.f 3 (.f 4 (.f 5 (.a 6 (.f 7 (.f 8 (.f 9 (.f 10 (.f 11 .d)))))))))))) (Ext (Q3)) tG tG exI ?_
       refine oS ?_
       refine wpOrd_call rfl rfl rfl Tryz.call111 (fun R hR=> ?_)
       go_simp
       refine(knows_any _ _ _ (O.kn f) r.ao r.sq hkn tB hso _ (hsl.of_ext exI)).mono ?_
       rintro e w1 ⟨rfl,E201,d201,rfl⟩
       refine hR _ _ ⟨_,rfl,?_,?_⟩
       ·exact exI
       clear hR R
       simp only[Act.put,zp]
       refine oS ?_
       refine wpOrd_nil ?_
       go_wp2_with (at_builtin;go_loud (refine wpList_append_own (P:=Tryz.prog) _ rfl _ _ 81 rfl Q2.heap.size 70 i0 _ 14 120 Tryz.underlying81 hi hz0 hz1 hz2 rfl tN (.slice A3 n3 c3) (offK O f (O.m.recs.take k)).length _ rfl (Hown3.out.of_ext exI) ⟨_,0,none⟩ 1 1 (msgC ⟨O.me,f,false,r⟩) rfl rfl (fun j u hj=>by rw[addr_add,Nat.zero_add];exact(BoxC.new_at (msgC ⟨O.me,f,false,r⟩) 70 qB).cell hj) (fun u hu=>msgC_one [⟨O.me,f,false,r⟩] u (by simpa using hu)) tO tB qU (fun v1 w1 hown1 hgb1 _=> ?_));have Hown1:=hid hown1;have Hgb1:=hid hgb1;clear hown1 hgb1)
       exact⟨⟨k+1,by omega,by go_num,Ext.of_below (Below.grown ((X23.out.trans exI).below) Hgb1.out qU fun i hi=>Hown3.out.block i hi),by have:=Hown1.out;rw[Hs.out];unfold OwnM;simpa using this⟩,by simp[intOf];omega⟩
     ·obtain rfl:L3.nm=k:=by omega
      have hall:O.m.recs.take L3.nm=O.m.recs:=by rw[←hnl,List.take_length]
      rw[hall] at Hown
      have XE:Ext Q2 (Q2.ext E0' d0):=⟨E0',d0,rfl⟩
      have hB:=HB.out
      have hb1:=Hlt.out
      have y4:=Z4.out.of_ext XE
      have y6:=Z6.out.of_ext XE
      have l4:rowLen (Q2.ext E0' d0) (B+1)=17:=y4.len
      have c6:=y6.c17
      have l6:=y6.lt
      have e1:GO=firmO O:=by have:=HO.out;simpa using this
      have e2:GL=offK O f O.m.recs:=by have:=HL.out;simpa using this
      have m6:rowLen Q2 B6=17:=Z6.out.len
      have r6:rowAt Q2 B6 0 17= #[.int .i64 O.me,.slice A0 L3.n0 L3.n0,.int .i64 L3.n0,.slice A1 L3.n1 L3.n1,.int .i64 L3.n1,.slice L3.Am L3.nm L3.cm,.int .i64 O.m.file,.int .i64 O.m.gen,.slice (L3.k 0).A (L3.k 0).n (L3.k 0).c,.slice (L3.k 1).A (L3.k 1).n (L3.k 1).c,.slice (L3.k 2).A (L3.k 2).n (L3.k 2).c,.slice (L3.k 3).A (L3.k 3).n (L3.k 3).c,.slice (L3.k 4).A (L3.k 4).n (L3.k 4).c,.slice (L3.k 5).A (L3.k 5).n (L3.k 5).c,.slice (L3.k 6).A (L3.k 6).n (L3.k 6).c,.slice (L3.k 7).A (L3.k 7).n (L3.k 7).c,.slice (L3.k 8).A (L3.k 8).n (L3.k 8).c]:=Z6.out.row
      have m4:rowLen Q2 (B+1)=17:=Z4.out.len
      have s6:=Z6.out.lt
      have s4:=Z4.out.lt
      clear y4 y6 c6 hall
      go_wp2_with fail
      refine bodyPost_ret (ret_ctt rfl rfl (rowLen_setCells.trans l4) (rowAt_setCells_same rfl qF) rfl rfl) rfl ?_
      (try rw[e1])
      (try rw[e2])
      refine⟨syncL L3 A0 A1,A3,n3,c3,?_,OffA.mono (base:=B+1+1) (OffA.cells (A2.out.of_ext XE) tB) tB,MsgsA.mono (MsgsA.cells Hown.out.msgs tB) tB,Ext.cells _ _ (XQ2.out.trans XE) tB⟩
      rw[offV_firm E0.out E1.out]
      rfl
end Go.Proofs.YtekjdeibnfaehaaGreat
set_option linter.unusedSimpArgs false
set_option linter.unusedVariables false
namespace Go.Proofs.YtekjdeibnfaehaaGreat
open Go Go.RowKit
set_option maxRecDepth 100000 in
set_option maxHeartbeats 16000000 in
theorem Restart_any(O:OffD)(L:OffL)(w:World)(k0 k1:Int)(h:OffY w O L)(hk0: -9223372036854775808≤k0)(hk0':k0≤9223372036854775807)(hk1: -9223372036854775808≤k1)(hk1':k1≤9223372036854775807):
 Calls Tryz.prog 48 #[offV O L,.agg #[.int .i64 k0,.int .i64 k1]] w fun e w'=> ∃L',e= .returned (.tuple #[offV (restO O k0 k1) L',.int .i64 (restE O k0 k1)])∧OffA w.heap.size w' (restO O k0 k1) L'∧Ext w w':=by
 have H:=hid h
 clear h
 obtain⟨B,hB⟩:∃ B:Nat,w.heap.size=B:=⟨_,rfl⟩
 have HB:=hid hB
 obtain⟨j,hj⟩:∃ j,restE O k0 k1=j:=⟨_,rfl⟩
 obtain⟨GO,hGO⟩:∃ GO,restO O k0 k1=GO:=⟨_,rfl⟩
 rw[hj,hGO]
 have HE:=hid hj
 have HO:Hid (GO=if j=0 then⟨O.me,openD (crashD O.d k0 k1),openM (crashD O.d k0 k1),fun _=>[]⟩ else noOff):=hid (by rw[←hGO,restO,hj])
 clear hj hGO hB
 have HK:=hid (show _∧_∧_∧_ from⟨hk0,hk0',hk1,hk1'⟩)
 clear hk0 hk0' hk1 hk1'
 go_enter Tryz.func48,Tryz.ntmps48
 go_wp2_with fail
 refine(isAsOffice_any O L _ (H.out.of_ext exI)).mono ?_
 rintro e P1 ⟨rfl,x1⟩
 have X1:Hid (Ext w P1):=hid (Ext.trans exI x1)
 have b2:BoxC P1 B (offC O L) 76:=BoxC.of_ext (((BoxC.new_at _ _ HB.out.symm).alloc _).alloc _) x1
 have b3:BoxC P1 (B+1) [.int .i64 k0,.int .i64 k1] 28:=BoxC.of_ext ((BoxC.new_at _ _ qH).alloc _) x1
 have b4:BoxC P1 (B+1+1) (offC noOff zL) 76:=BoxC.of_ext (BoxC.new_at _ _ qH) x1
 simp only[HB.out]
 have c2:=b2.c17
 have d0:=b3.cell (i:=0) rfl
 have d1:=b3.cell (i:=1) rfl
 have l4:rowLen P1 (B+1+1)=17:=b4.len
 have V2:=hid b2
 have V4:=hid b4
 clear x1 b2 b3 b4
 cases ho:offOk O with
 | false=>
  have Hj:Hid (j=76):=hid (by rw[←HE.out,restE,if_neg qG])
  go_wp2_with fail
  have hj:=Hj.out
  have hB:=HB.out
  have e1:GO=noOff:=by have:=HO.out;rw[hj] at this;simpa using this
  refine bodyPost_ret (ret_ct rfl rfl (rowLen_setCells.trans l4) (rowAt_setCells_same rfl qF) rfl) rfl ?_
  rw[hj,e1]
  exact⟨zL,rfl,OffA.zero _ _,Ext.cells _ _ X1.out tB⟩
 | true=>
  have Hk:=hid (H.out.ok ho)
  have HE2:Hid (openE (crashD O.d k0 k1)=j):=hid (by have e:=HE.out;rw[restE,if_pos ho] at e;exact e)
  clear HE
  go_wp2_with fail
  refine(Crash_y _ _ _ _ _ _ O.d k0 k1 _ (H.out.d.of_ext X1.out) (by have:=Hk.out.s0;omega) (by have:=Hk.out.s1;omega) HK.out.1 HK.out.2.1 HK.out.2.2.1 HK.out.2.2.2).mono ?_
  rintro e P2 ⟨B0,m0,e0,B1,m1,e1,rfl,hy,x2⟩
  have Hy:=hid hy
  have X2:Hid (Ext w P2):=hid (X1.out.trans x2)
  have b2:=hid (V2.out.of_ext x2)
  have b4:=hid (V4.out.of_ext x2)
  clear hy x2 c2 d0 d1 l4 V2 V4
  go_wp2_with fail
  refine(Open_any B0 m0 e0 B1 m1 e1 (crashD O.d k0 k1) Hy.out.l0 Hy.out.l1 Hy.out.h0 Hy.out.h1 Hy.out.k0 Hy.out.k1 _ Hy.out.b0 Hy.out.b1).mono ?_
  rintro e P3 ⟨C0,n0,f0,C1,n1,f1,Am,nm,cm,rfl,hd,hm,x3⟩
  rw[HE2.out]
  have X3:Hid (Ext w P3):=hid (X2.out.trans x3)
  have v2:=b2.out.of_ext x3
  have v4:=b4.out.of_ext x3
  have Hd:=hid hd.anc
  have Hm:=hid hm
  have hz:Hid (B+1+1+1≤P2.heap.size):=hid qP
  have l4:rowLen P3 (B+1+1)=17:=v4.len
  have g2:=v2.cell (i:=0) rfl
  have s2:=v2.lt
  have s4:=v4.lt
  have s4b:B+1<P3.heap.size:=by omega
  clear hd hm x3 v2 v4 b2 b4 Hy
  by_cases hj0:j=0
  ·subst hj0
   go_wp2_with fail
   have hB:=HB.out
   have hzz:=hz.out
   have e1:GO=⟨O.me,openD (crashD O.d k0 k1),openM (crashD O.d k0 k1),fun _=>[]⟩:=by have:=HO.out;simpa using this
   rw[e1]
   have U:OffA (B+1+1+1) P3 ⟨O.me,openD (crashD O.d k0 k1),openM (crashD O.d k0 k1),fun _=>[]⟩ ⟨C0,n0,f0,C1,n1,f1,Am,nm,cm,fun _=>⟨none,0,0⟩⟩:=⟨Hd.out.mono hzz,Hm.out.anc.l,Hm.out.r.caps,Hm.out.anc.r.mono hzz,fun _ _=>PlcA.nil _ _⟩
   refine bodyPost_ret (ret_ct rfl rfl qW (rowAt_setCells_same rfl qX) rfl) rfl ?_
   exact⟨⟨C0,n0,f0,C1,n1,f1,Am,nm,cm,fun _=>⟨none,0,0⟩⟩,rfl,OffA.mono (base:=B+1+1+1) (OffA.cells (OffA.alloc (OffA.alloc U _) _) tB) tB,Ext.cells _ _ (Ext.alloc (Ext.alloc X3.out _) _) tB⟩
  ·have hj2:(j != 0)=true:=by simpa using hj0
   go_wp2_with fail
   have hB:=HB.out
   have e1:GO=noOff:=by have:=HO.out;rw[if_neg hj0] at this;exact this
   rw[e1]
   refine bodyPost_ret (ret_ct rfl rfl qW (rowAt_setCells_same rfl qX) rfl) rfl ?_
   exact⟨zL,rfl,OffA.zero _ _,Ext.cells _ _ (Ext.alloc (Ext.alloc X3.out _) _) tB⟩
end Go.Proofs.YtekjdeibnfaehaaGreat
