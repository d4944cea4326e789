/- Texts of a proof. -/
import Derived.Test.YtekjdeibnfaehaaGreatKDbn
import Derived.Test.YtekjdeibnfaehaaGreatKDbo
import Derived.Test.YtekjdeibnfaehaaGreatKDaz
import Derived.Test.YtekjdeibnfaehaaGreatKDat
import Derived.Test.YtekjdeibnfaehaaGreatKDbf
import Derived.Test.YtekjdeibnfaehaaGreatKDbd
set_option linter.unusedSimpArgs false
set_option linter.unusedVariables false
namespace Go.Proofs.YtekjdeibnfaehaaGreat
open Go Go.RowKit
section
variable{w wr w':World}{B base na c p:Nat}{W:WD}{Ls0 Ls:Nat→OffL}{A:Option Addr}{O:OffD}{L:OffL}
end
theorem ld_msgC{w:World}{g i:Nat}{l:List Value}(hl:l.length=14)(h:∀ j v,l[j]? =some v→w.cell? ⟨g,i+j,none⟩=some v):(ldRow 70 ⟨g,i,none⟩).run Tryz.prog w= .ok (.agg l.toArray) w:=by
 have hl2:=run_loadCells_list (P:=Tryz.prog) w ⟨g,i,none⟩ l (fun j v hv=>by
  rw[addr_add]
  exact h j v hv)
 rw[hl] at hl2
 have hu:=agg_msg
 have hi:=size_msg
 unfold ldRow
 cases hq:Tryz.prog.info? 70 with
 | none=>simp[hq] at hi
 | some f=>
  have hs:f.size=14:=by simpa [hq] using hi
  have hagg:(isAgg 70).run Tryz.prog w= .ok true w:=by
   unfold isAgg
   cases hx:Tryz.prog.underlying 70 with
   | none=>simp[hx] at hu
   | some u=>
    rw[Sem.run_bind,run_underlying hx w]
    simp only[hx,Option.map_some,Option.some.injEq] at hu
    cases u <;> simp_all [aggD]
  simp[loadVar,Sem.run_bind,hagg,sizeOf,typeInfo,hq,hs,hl2]
theorem MsgsY.loadK{w:World}{g o n c k:Nat}{l:List MsgD}{m:MsgD}(h:MsgsY w (some ⟨g,o,none⟩) n c l)(hk:l[k]? =some m)(N:Nat)(hN:w.heap.size≤N):∀ w',Kept w N N w'→(ldRow 70 ⟨g,o+k * 14,none⟩).run Tryz.prog w'= .ok (.agg (msgC m).toArray) w':=by
 intro w' hK
 have hlt:g<w.heap.size:=by
  obtain⟨g',o',he,hg,_⟩:=h.2.2.2.2 (by have:=(List.getElem?_eq_some_iff.1 hk).1;have:=h.1;omega)
  cases he
  exact hg
 exact ld_msgC rfl fun j v hv=>by rw[hK.cell g _ hlt tB tB];exact h.at hk hv
end Go.Proofs.YtekjdeibnfaehaaGreat
set_option linter.unusedSimpArgs false
set_option linter.unusedVariables false
namespace Go.Proofs.YtekjdeibnfaehaaGreat
open Go Go.RowKit
structure OffG(w:World)(O:OffD)(L:OffL):Prop where
 d:DrvY w O.d L.A0 L.n0 L.c0 L.A1 L.n1 L.c1
 l:O.m.recs.length=L.nm
 r:Recs w L.Am O.m.recs
 k:∀ i,i<9→Plcs w (L.k i) (O.kn i)
theorem OffRf.read{base:Nat}{w:World}{O:OffD}{L:OffL}(h:OffRf base w O L):OffG w O L:=⟨h.d.read,h.l,h.r.read,fun i hi=>(h.k i hi).read⟩
theorem OffG.of_ext{w w':World}{O:OffD}{L:OffL}(h:OffG w O L)(hx:Ext w w'):OffG w' O L:=⟨h.d.of_ext hx,h.l,h.r.of_ext hx,fun i hi=>(h.k i hi).of_ext hx⟩
theorem SameDrv_eq(A0:Option Addr)(n0 c0:Nat)(A1:Option Addr)(n1 c1:Nat)(B0:Option Addr)(m0 d0:Nat)(B1:Option Addr)(m1 d1:Nat)(D:DriveD)(w:World)(h:DrvY w D A0 n0 c0 A1 n1 c1)(h':DrvY w D B0 m0 d0 B1 m1 d1):
 Calls Tryz.prog 10 #[drvV A0 n0 c0 D.f0.firm A1 n1 c1 D.f1.firm,drvV B0 m0 d0 D.f0.firm B1 m1 d1 D.f1.firm] w fun e w'=>e= .returned (.bool true)∧Ext w w':=by
 have:=SameDrive_any A0 A1 B0 B1 n0 c0 n1 c1 m0 d0 m1 d1 D D h.l0 h.l1 h'.l0 h'.l1 w h.b0 h.b1 h'.b0 h'.b1
 rw[driveEqB_self] at this
 exact this
theorem SameMem_eq(A B:Option Addr)(n c m d:Nat)(M:MemD)(hn:M.recs.length=n)(hm:M.recs.length=m)(hbig:M.recs.length≤9223372036854775807)(w:World)(h:Recs w A M.recs)(h':Recs w B M.recs):
 Calls Tryz.prog 17 #[memV A n c M.file M.gen,memV B m d M.file M.gen] w fun e w'=>e= .returned (.bool true)∧Ext w w':=by
 have:=SameMemory_any A B n c m d M.file M.gen M.file M.gen M.recs M.recs hn hm tB w h h'
 rw[memEqB_iff.2 rfl] at this
 exact this
theorem plcEqB_self(a b:Int):plcEqB a b a b=true:=plcEqB_iff.2 ⟨rfl,rfl⟩
set_option maxRecDepth 100000 in
set_option maxHeartbeats 16000000 in
theorem sameO_any(O:OffD)(L L':OffL)(w:World)(h:OffG w O L)(h':OffG w O L')(hbig:O.m.recs.length≤9223372036854775807):
 Calls Tryz.prog 36 #[offV O L,offV O L'] w fun e w'=>e= .returned (.bool true)∧Ext w w':=by
 have H:=hid h
 have H':=hid h'
 clear h h'
 obtain⟨B,hB⟩:∃ B:Nat,w.heap.size=B:=⟨_,rfl⟩
 have HB:=hid hB
 clear hB
 go_enter Tryz.func36,Tryz.ntmps36
 go_wp2_with fail
 simp only[HB.out]
 obtain⟨P,hP⟩:∃ P,(w.alloc (.cells (offC O L).toArray 76)).alloc (.cells (offC O L').toArray 76)=P:=⟨_,rfl⟩
 simp only[hP]
 have b1:BoxC P B (offC O L) 76:=by rw[←hP];exact(BoxC.new_at _ _ HB.out.symm).alloc _
 have b2:BoxC P (B+1) (offC O L') 76:=by rw[←hP];exact BoxC.new_at _ _ qH
 have XP:Ext w P:=by rw[←hP];exact exI
 have HP:=hid (And.intro b1 (And.intro b2 XP))
 clear hP b1 b2 XP
 go_loopw [5] (fun v wr=> ∃k:Nat,k≤9∧v= .int .i64 k∧Ext P wr) (fun v _=>9-(intOf v).toNat)
 case atStart=>exact⟨0,Nat.zero_le _,rfl,Ext.refl _⟩
 case round=>
  rename_i K hKK
  obtain⟨k,hk,rfl,hx⟩:=hrel
  have Hx:=hid hx
  have b1:=HP.out.1.of_ext hx
  have b2:=HP.out.2.1.of_ext hx
  have V1:=hid b1
  have V2:=hid b2
  have t1:=b1.lt
  have t2:=b2.lt
  clear hx
  by_cases hlt:k<9
  ·have hki:(k:Int)<9:=by omega
   have ck:=b1.cell (i:=8+k) (get_kn _ _ _ _ _ _ _ _ L.k k hlt)
   have ck':=b2.cell (i:=8+k) (get_kn _ _ _ _ _ _ _ _ L'.k k hlt)
   obtain⟨hn,hnc,hcm,hsl⟩:=H.out.k k hlt
   obtain⟨hn',hnc',hcm',hsl'⟩:=H'.out.k k hlt
   obtain⟨⟨A,n,c⟩,hkv⟩:∃ t,L.k k=t:=⟨_,rfl⟩
   obtain⟨⟨A',n',c'⟩,hkv'⟩:∃ t,L'.k k=t:=⟨_,rfl⟩
   have HKv:=hid hkv
   have HKv':=hid hkv'
   rw[hkv] at ck hn hnc hcm hsl
   rw[hkv'] at ck' hn' hnc' hcm' hsl'
   simp only[] at ck ck' hn hn' hnc hnc' hcm hcm' hsl hsl'
   obtain rfl:n=n':=by omega
   have hsl:=hsl.of_ext HP.out.2.2
   have hsl':=hsl'.of_ext HP.out.2.2
   clear b1 b2 hkv hkv'
   go_wp2_with fail
   refine wp_region_ord_same (.f 0 (.f 1 (.f 2 (.f 3 (.f 4 (.f 5 (.f 6 (.f 7 (.f 8 (.f 9 (.f 10 .d))))))))))) tG tG ?_
   refine oR ?_
   refine wpOrd_nil ?_
   go_wp2_with fail
   go_loopw [6] (fun v w2=> ∃m:Nat,m≤n∧v= .int .i64 m∧Ext P w2) (fun v _=>n-(intOf v).toNat)
   case atStart=>exact⟨0,Nat.zero_le _,rfl,Ext.trans Hx.out exI⟩
   case round=>
    rename_i K2 hK2
    obtain⟨m,hm,rfl,hx2⟩:=hrel
    have b1:=HP.out.1.of_ext hx2
    have b2:=HP.out.2.1.of_ext hx2
    have ck:=b1.cell (i:=8+k) (get_kn _ _ _ _ _ _ _ _ L.k k hlt)
    have ck':=b2.cell (i:=8+k) (get_kn _ _ _ _ _ _ _ _ L'.k k hlt)
    rw[HKv.out] at ck
    rw[HKv'.out] at ck'
    have t1:=b1.lt
    have t2:=b2.lt
    have Hx2:=hid hx2
    have hsl2:=hsl.of_ext hx2
    have hsl2':=hsl'.of_ext hx2
    clear hx2 b1 b2 V1 V2
    by_cases hlm:m<n
    ·have hmi:(m:Int)<n:=by omega
     obtain⟨g,o,rfl,hg,hrow⟩:=plcs_row hsl2 hn tB
     obtain⟨g',o',rfl,hg',hrow'⟩:=plcs_row hsl2' hn' tB
     obtain⟨x0,x1⟩:=hrow m hlm
     obtain⟨y0,y1⟩:=hrow' m hlm
     have hpe:=plcEqB_self (pAt (O.kn k) m).o (pAt (O.kn k) m).s
     obtain⟨p,hp⟩:∃ p,pAt (O.kn k) m=p:=⟨_,rfl⟩
     rw[hp] at x0 x1 y0 y1 hpe
     clear hrow hrow' hsl2 hsl2' hp
     go_wp2_with fail
     refine wp_region_ord_same (.f 0 (.f 1 (.f 2 (.f 3 (.f 4 (.f 5 (.f 6 (.f 7 (.f 8 (.f 9 (.f 10 (.f 11 (.f 12 (.f 13 (.f 14 .d))))))))))))))) tG tG ?_
     refine oR ?_
     refine wpOrd_nil ?_
     go_wp2_with fail
     exact⟨⟨m+1,by omega,by go_num,Ext.trans Hx2.out exI⟩,by simp[intOf];omega⟩
    ·have hmi:¬ ((m:Int)<n):=by omega
     clear hsl2 hsl2'
     go_wp2_with fail
     exact⟨⟨k+1,by omega,by go_num,Hx2.out⟩,by simp[intOf];omega⟩
  ·have hki:¬ ((k:Int)<9):=by omega
   have XR:Ext w wr:=HP.out.2.2.trans Hx.out
   have c1:=b1.c17
   have c2:=b2.c17
   have HX:=hid XR
   have hD:=hid (H.out.d.of_ext XR)
   have hD':=hid (H'.out.d.of_ext XR)
   have hr:=hid (H.out.r.of_ext XR)
   have hr':=hid (H'.out.r.of_ext XR)
   have hm:=H.out.l
   have hm':=H'.out.l
   clear b1 b2 XR
   go_wp2_with fail
   refine(SameDrv_eq _ _ _ _ _ _ _ _ _ _ _ _ O.d _ hD.out hD'.out).mono ?_
   rintro e w1 ⟨rfl,E1,d1,rfl⟩
   go_wp2_with fail
   refine(SameMem_eq _ _ _ _ _ _ O.m hm hm' hbig _ (hr.out.ext _ _) (hr'.out.ext _ _)).mono ?_
   rintro e w1 ⟨rfl,E2,d2,rfl⟩
   go_wp2_with fail
   go_ret
   exact⟨rfl,HX.out.trans exI⟩
section
open Op
@[go_sem ↓] theorem run_neq_msg(m:MsgD)(w:World):(binOp .neq 70 (.agg (msgC m).toArray) (.agg (msgC m).toArray)).run Tryz.prog w= .ok (.bool false) w:=by
 simp[go_sem]
end
set_option maxRecDepth 100000 in
set_option maxHeartbeats 4000000 in
theorem sameMsgs_any(A A':Option Addr)(n c n' c':Nat)(l:List MsgD)(w:World)(h:MsgsY w A n c l)(h':MsgsY w A' n' c' l):
 Calls Tryz.prog 50 #[.slice A n c,.slice A' n' c'] w fun e w'=>e= .returned (.bool true)∧Ext w w':=by
 obtain rfl:n=n':=by have h1:=h.1;have h2:=h'.1;omega
 have hn:=h.1
 have hbig:n≤9223372036854775807:=by have h1:=h.2.1;have h2:=h.2.2.1;omega
 go_enter Tryz.func50,Tryz.ntmps50
 go_wp2_with fail
 go_loopw [5] (fun i wr=> ∃k:Nat,k≤n∧i= .int .i64 k∧Ext w wr) (fun i _=>n-(intOf i).toNat)
 case atStart=>exact⟨0,Nat.zero_le _,rfl,Ext.refl _⟩
 case round=>
  obtain⟨k,hk,rfl,hx⟩:=hrel
  by_cases hlt:k<n
  ·have hki:(k:Int)<n:=by omega
   obtain⟨g,o,rfl,hg⟩:=h.addr tB
   obtain⟨g',o',rfl,hg'⟩:=h'.addr tB
   obtain⟨m,hm⟩:∃ m,l[k]? =some m:=⟨l[k]'tB,List.getElem?_eq_getElem _⟩
   have hsz:=hx.below.size
   have ld:=(h.of_ext hx).loadK hm wr.heap.size (Nat.le_refl _)
   have ld':=(h'.of_ext hx).loadK hm wr.heap.size (Nat.le_refl _)
   have Hx:=hid hx
   clear hx
   go_wp2_with fail
   refine wp_region_ord (.f 0 (.f 1 (.f 2 (.f 3 (.f 4 (.f 5 (.f 6 (.f 7 (.f 8 .d))))))))) (Kept (wr) (wr.heap.size) (wr.heap.size)) tG tG (Kept.refl _ _ _).drew ?_
   refine oT ?_
   refine wpOrd_nil ?_
   go_wp2_with fail
   exact⟨⟨k+1,by omega,by go_num,Ext.trans Hx.out exI⟩,by simp[intOf];omega⟩
  ·have hki:¬ ((k:Int)<n):=by omega
   have Hx:=hid hx
   clear hx
   go_wp2_with fail
   go_ret
   exact⟨rfl,Hx.out⟩
end Go.Proofs.YtekjdeibnfaehaaGreat
set_option linter.unusedSimpArgs false
set_option linter.unusedVariables false
namespace Go.Proofs.YtekjdeibnfaehaaGreat
open Go Go.RowKit
set_option maxRecDepth 100000 in
set_option maxHeartbeats 16000000 in
theorem rWritten_any(O:OffD)(L:OffL)(w:World)(r:Rec)(h:OffY w O L)(ho:offOk O=true)(htx:r.text.size≤9223372036854775807):
 Calls Tryz.prog 106 #[offV O L,recV r] w fun e w'=> ∃L',e= .returned (.tuple #[offV (apO O r) L',.int .i64 (appE O.d O.m r)])∧OffRf w.heap.size w' (apO O r) L'∧Ext w w':=by
 have hk:=h.ok ho
 have hm:=h.l
 have hmb:=h.h
 have ht:=h.t
 have H:=hid h
 have Hk:=hid hk
 clear h hk
 obtain⟨j,hjv⟩:∃ j,appE O.d O.m r=j:=⟨_,rfl⟩
 have Hj:=hid hjv
 obtain⟨GO,hGO⟩:∃ GO,apO O r=GO:=⟨_,rfl⟩
 have HO:Hid (GO=if j=0 then apdO O r else noOff):=hid (by rw[←hGO,apO,hjv])
 obtain⟨B,hB⟩:∃ B:Nat,w.heap.size=B:=⟨_,rfl⟩
 have HB:=hid hB
 rw[hjv,hGO]
 clear hjv hGO hB
 go_enter Tryz.func106,Tryz.ntmps106
 go_wp2_with fail
 refine(rAppA_any L.A0 L.n0 L.c0 L.A1 L.n1 L.c1 O.d L.Am L.nm L.cm O.m r hm tB ht htx _ (H.out.d.of_ext exI) (H.out.r.of_ext exI)).mono ?_
 rintro e P1 ⟨B0,m0,d0,B1,m1,d1,Ag,ng,cg,rfl,hd,hn,hr,x1⟩
 rw[Hj.out]
 have X1:Hid (Ext w P1):=hid (Ext.trans exI x1)
 have b2:BoxC P1 B (offC O L) 76:=BoxC.of_ext (((BoxC.new_at _ _ HB.out.symm).alloc _).alloc _) x1
 have b4:BoxC P1 (B+1+1) (offC noOff zL) 76:=BoxC.of_ext (BoxC.new_at _ _ Th) x1
 have Hd:=hid (hd.mono (base':=B+1+1+1) Th)
 have Hr:=hid (hr.mono (base':=B+1+1+1) Th)
 have Hn:=hid hn.out
 simp only[HB.out]
 have c2:=b2.c17
 have l2:=b2.lt
 have t4:=b4.lt
 have t4b:B+1+1<P1.heap.size+1:=by omega
 have t2b:B<P1.heap.size+1:=by omega
 have l4:rowLen P1 (B+1+1)=17:=b4.len
 have V2:=hid b2
 have V4:=hid b4
 clear b2 b4 x1 hd hr hn hm hmb ht
 by_cases hj0:j=0
 ·subst hj0
  go_wp2_with fail
  obtain⟨B6,hB6⟩:∃ B6,P1.heap.size=B6:=⟨_,rfl⟩
  simp only[hB6]
  obtain⟨Q0,hQ0⟩:∃ Q0,(P1.alloc (.cells #[.slice B0 m0 d0,.int .i64 (appD O.d O.m r).f0.firm,.slice B1 m1 d1,.int .i64 (appD O.d O.m r).f1.firm] 27)).alloc (.cells #[.slice Ag ng cg,.int .i64 (appM O.d O.m r).file,.int .i64 (appM O.d O.m r).gen] 36)=Q0:=⟨_,rfl⟩
  have XQ0:Ext P1 Q0:=by rw[←hQ0];exact exI
  have b6:BoxC Q0 B6 [.slice B0 m0 d0,.int .i64 (appD O.d O.m r).f0.firm,.slice B1 m1 d1,.int .i64 (appD O.d O.m r).f1.firm] 27:=by rw[←hQ0];exact(BoxC.new_at _ _ hB6.symm).alloc _
  have b7:BoxC Q0 (B6+1) [.slice Ag ng cg,.int .i64 (appM O.d O.m r).file,.int .i64 (appM O.d O.m r).gen] 36:=by rw[←hQ0];exact BoxC.new_at _ _ (by simp[hB6])
  have z6:Q0.heap.size=B6+2:=by rw[←hQ0];simp[hB6]
  simp only[hQ0]
  clear hQ0
  have h26:B+1+1<B6:=by omega
  refine(sameOffice_any O L _ (H.out.of_ext (X1.out.trans XQ0)) Hk.out.s0 Hk.out.s1 qD (fun i hi=>by have:=Hk.out.k i hi;omega)).mono ?_
  rintro e P2 ⟨L2,rfl,hU,x2⟩
  have X12:Hid (Ext P1 P2):=hid (XQ0.trans x2)
  have v6:=hid (b6.of_ext x2)
  have v7:=hid (b7.of_ext x2)
  have v4:=hid (V4.out.of_ext X12.out)
  have hU2:=hid (hU.mono (base':=B6+2) tB)
  have H6:=hid (And.intro hB6 h26)
  have HZ:=hid (And.intro z6 x2.below.size)
  rename_i K5 hK5 K4 hK4
  have HK5:=hid hK5
  have hs2:=x2.below.size
  clear b6 b7 c2 l2 V2 t2b t4b XQ0 x2 hU hB6 h26 z6 V4 l4 t4 hK5
  go_wp2_with fail
  obtain⟨B9,hB9⟩:∃ B9,P2.heap.size=B9:=⟨_,rfl⟩
  simp only[hB9]
  obtain⟨Q1,hQ1⟩:∃ Q1,(P2.alloc (.cells #[.int .i64 0,.slice none 0 0,.int .i64 0,.slice none 0 0,.int .i64 0,.slice none 0 0,.int .i64 0,.int .i64 0,.slice none 0 0,.slice none 0 0,.slice none 0 0,.slice none 0 0,.slice none 0 0,.slice none 0 0,.slice none 0 0,.slice none 0 0,.slice none 0 0] 76)).setCells B9 0 (offC O L2)=Q1:=⟨_,rfl⟩
  simp only[hQ1]
  have XQ1:Ext P2 Q1:=by rw[←hQ1];exact Ext.cells _ _ (Ext.alloc (Ext.refl _) _) tB
  have b9:BoxC Q1 B9 (offC O L2) 76:=by rw[←hQ1];exact BoxC.cells (cs:=[.int .i64 0,.slice none 0 0,.int .i64 0,.slice none 0 0,.int .i64 0,.slice none 0 0,.int .i64 0,.int .i64 0,.slice none 0 0,.slice none 0 0,.slice none 0 0,.slice none 0 0,.slice none 0 0,.slice none 0 0,.slice none 0 0,.slice none 0 0,.slice none 0 0]) _ 0 (BoxC.new_at _ _ hB9.symm) (Nat.le_refl _)
  have u6:=hid (v6.out.of_ext XQ1)
  have u7:=hid (v7.out.of_ext XQ1)
  have u4:=hid (v4.out.of_ext XQ1)
  have u9:=hid b9
  have hz:=HZ.out
  have h6:=H6.out
  have n69:¬ (B9=B6):=by omega
  have n79:¬ (B9=B6+1):=by omega
  have HN:=hid (show B9=B9∧B6+2≤B9∧B+1+1<B9 by omega)
  have X2q:=hid XQ1
  have hU3:=hid (hU2.out.of_ext XQ1)
  have HB9:=hid hB9
  have q60:=u6.out.cell (i:=0) rfl
  have q61:=u6.out.cell (i:=1) rfl
  have q62:=u6.out.cell (i:=2) rfl
  have q63:=u6.out.cell (i:=3) rfl
  have m6:=u6.out.lt
  have c9:=b9.c17
  have m9:=b9.lt
  have f9:=b9.frozen
  clear hQ1 hB9 b9 XQ1 hz h6 hs2 v4 v6 v7
  refine HK5.out _ _ ?_
  clear HK5
  refine wp_seq_k fun K6 hK6=> ?_
  have HK6:=hid hK6
  clear hK6
  go_wp2_with fail
  obtain⟨Q2,hQ2⟩:∃ Q2,(((Q1.setCell ⟨B9,1,none⟩ (.slice B0 m0 d0)).setCell ⟨B9,2,none⟩ (.int .i64 (appD O.d O.m r).f0.firm)).setCell ⟨B9,3,none⟩ (.slice B1 m1 d1)).setCell ⟨B9,4,none⟩ (.int .i64 (appD O.d O.m r).f1.firm)=Q2:=⟨_,rfl⟩
  simp only[hQ2]
  have hn:=HN.out
  have hp:=HB9.out
  have h9:BoxC Q2 B9 [.int .i64 O.me,.slice B0 m0 d0,.int .i64 (appD O.d O.m r).f0.firm,.slice B1 m1 d1,.int .i64 (appD O.d O.m r).f1.firm,.slice L2.Am L2.nm L2.cm,.int .i64 O.m.file,.int .i64 O.m.gen,.slice (L2.k 0).A (L2.k 0).n (L2.k 0).c,.slice (L2.k 1).A (L2.k 1).n (L2.k 1).c,.slice (L2.k 2).A (L2.k 2).n (L2.k 2).c,.slice (L2.k 3).A (L2.k 3).n (L2.k 3).c,.slice (L2.k 4).A (L2.k 4).n (L2.k 4).c,.slice (L2.k 5).A (L2.k 5).n (L2.k 5).c,.slice (L2.k 6).A (L2.k 6).n (L2.k 6).c,.slice (L2.k 7).A (L2.k 7).n (L2.k 7).c,.slice (L2.k 8).A (L2.k 8).n (L2.k 8).c] 76:=by rw[←hQ2];exact(((u9.out.set 1 _).set 2 _).set 3 _).set 4 _
  have h7:BoxC Q2 (B6+1) [.slice Ag ng cg,.int .i64 (appM O.d O.m r).file,.int .i64 (appM O.d O.m r).gen] 36:=by rw[←hQ2];exact(((u7.out.other 1 _ n79).other 2 _ n79).other 3 _ n79).other 4 _ n79
  have h4:BoxC Q2 (B+1+1) (offC noOff zL) 76:=by rw[←hQ2];exact(((u4.out.other 1 _ tB).other 2 _ tB).other 3 _ tB).other 4 _ tB
  have XQ2:Hid (Ext P2 Q2):=hid (by rw[←hQ2];exact Ext.box (Ext.box (Ext.box (Ext.box (X2q.out) _ _ tB) _ _ tB) _ _ tB) _ _ tB)
  have W9:=hid h9
  have W4:=hid h4
  have q70:=h7.cell (i:=0) rfl
  have q71:=h7.cell (i:=1) rfl
  have q72:=h7.cell (i:=2) rfl
  have m7:=h7.lt
  have c9':=h9.c17
  have m9':=h9.lt
  have f9':=h9.frozen
  clear hQ2 h9 h7 h4 c9 m9 f9 q60 q61 q62 q63 m6 hn hp u4 u6 u7 u9
  refine HK6.out _ _ ?_
  clear HK6
  refine wp_seq_k fun K7 hK7=> ?_
  have HK7:=hid hK7
  clear hK7
  go_wp2_with fail
  obtain⟨Q3,hQ3⟩:∃ Q3,((Q2.setCell ⟨B9,5,none⟩ (.slice Ag ng cg)).setCell ⟨B9,6,none⟩ (.int .i64 (appM O.d O.m r).file)).setCell ⟨B9,7,none⟩ (.int .i64 (appM O.d O.m r).gen)=Q3:=⟨_,rfl⟩
  simp only[hQ3]
  have hn:=HN.out
  have hp:=HB9.out
  have h9:BoxC Q3 B9 [.int .i64 O.me,.slice B0 m0 d0,.int .i64 (appD O.d O.m r).f0.firm,.slice B1 m1 d1,.int .i64 (appD O.d O.m r).f1.firm,.slice Ag ng cg,.int .i64 (appM O.d O.m r).file,.int .i64 (appM O.d O.m r).gen,.slice (L2.k 0).A (L2.k 0).n (L2.k 0).c,.slice (L2.k 1).A (L2.k 1).n (L2.k 1).c,.slice (L2.k 2).A (L2.k 2).n (L2.k 2).c,.slice (L2.k 3).A (L2.k 3).n (L2.k 3).c,.slice (L2.k 4).A (L2.k 4).n (L2.k 4).c,.slice (L2.k 5).A (L2.k 5).n (L2.k 5).c,.slice (L2.k 6).A (L2.k 6).n (L2.k 6).c,.slice (L2.k 7).A (L2.k 7).n (L2.k 7).c,.slice (L2.k 8).A (L2.k 8).n (L2.k 8).c] 76:=by rw[←hQ3];exact((W9.out.set 5 _).set 6 _).set 7 _
  have h4:BoxC Q3 (B+1+1) (offC noOff zL) 76:=by rw[←hQ3];exact((W4.out.other 5 _ tB).other 6 _ tB).other 7 _ tB
  have XQ3:Hid (Ext P2 Q3):=hid (by rw[←hQ3];exact Ext.box (Ext.box (Ext.box XQ2.out _ _ tB) _ _ tB) _ _ tB)
  have l9:rowLen Q3 B9=17:=h9.len
  have r9:rowAt Q3 B9 0 17=[.int .i64 O.me,.slice B0 m0 d0,.int .i64 (appD O.d O.m r).f0.firm,.slice B1 m1 d1,.int .i64 (appD O.d O.m r).f1.firm,.slice Ag ng cg,.int .i64 (appM O.d O.m r).file,.int .i64 (appM O.d O.m r).gen,.slice (L2.k 0).A (L2.k 0).n (L2.k 0).c,.slice (L2.k 1).A (L2.k 1).n (L2.k 1).c,.slice (L2.k 2).A (L2.k 2).n (L2.k 2).c,.slice (L2.k 3).A (L2.k 3).n (L2.k 3).c,.slice (L2.k 4).A (L2.k 4).n (L2.k 4).c,.slice (L2.k 5).A (L2.k 5).n (L2.k 5).c,.slice (L2.k 6).A (L2.k 6).n (L2.k 6).c,.slice (L2.k 7).A (L2.k 7).n (L2.k 7).c,.slice (L2.k 8).A (L2.k 8).n (L2.k 8).c].toArray:=h9.row
  have l4:rowLen Q3 (B+1+1)=17:=h4.len
  have t4:=h4.lt
  have t9:=h9.lt
  have V4:=hid h4
  clear hQ3 h9 h4 q70 q71 q72 m7 c9' m9' f9' hn hp n69 n79
  refine HK7.out _ _ ?_
  clear HK7
  go_wp2_with fail
  have hB:=HB.out
  have h6:=H6.out
  have hU4:OffRf (B+1+1+1) P2 O L2:=hU2.out.mono tB
  have X13:=X12.out.trans XQ3.out
  have e1:GO=⟨O.me,appD O.d O.m r,appM O.d O.m r,O.kn⟩:=(by have:=HO.out;simpa using this:GO=apdO O r)
  rw[e1]
  refine bodyPost_ret (ret_ct rfl rfl (rowLen_setCells.trans l4) (rowAt_setCells_same rfl (Nat.le_of_eq l4.symm)) rfl) rfl ?_
  refine⟨⟨B0,m0,d0,B1,m1,d1,Ag,ng,cg,L2.k⟩,rfl,OffRf.mono (base:=B+1+1+1) (OffRf.cells (hU4.both XQ3.out (Hd.out.of_ext X13) Hn.out (Hr.out.of_ext X13)) tB) tB,Ext.cells _ _ (X1.out.trans X13) tB⟩
 ·have hj2:(j != 0)=true:=by simpa using hj0
  clear V2 Hd Hr Hn
  go_wp2_with fail
  have hB:=HB.out
  have e1:GO=noOff:=by have:=HO.out;rw[if_neg hj0] at this;exact this
  rw[e1]
  refine bodyPost_ret (ret_ct rfl rfl (rowLen_setCells.trans ((V4.out.alloc _).alloc _).len) (rowAt_setCells_same rfl (Nat.le_of_eq ((V4.out.alloc _).alloc _).len.symm)) rfl) rfl ?_
  exact⟨zL,rfl,OffRf.zero _ _,Ext.cells _ _ (Ext.alloc (Ext.alloc X1.out _) _) tB⟩
end Go.Proofs.YtekjdeibnfaehaaGreat
set_option linter.unusedSimpArgs false
set_option linter.unusedVariables false
namespace Go.Proofs.YtekjdeibnfaehaaGreat
open Go Go.RowKit
theorem rnext_x(O:OffD)(L:OffL)(hl:O.m.recs.length=L.nm)(hk:OffOk O L)(P:World)(hr:Recs P L.Am O.m.recs):
 Calls Tryz.prog 105 #[regV L.Am L.nm L.cm,.int .i64 O.me] P fun e w'=>e= .returned (.int .i64 (nextI O.m.recs O.me))∧Ext P w':=by
 have h:=rnext_any L.Am L.cm L.nm O.m.recs O.me hl (by have:=hk.sm;omega) (checkB_sq hk.ck) P hr
 rw[nextI_ok hk.ck (inB_spec.2 hk.me)]
 exact h
set_option maxRecDepth 100000 in
set_option maxHeartbeats 16000000 in
theorem rNote_any(O:OffD)(L:OffL)(w:World)(r:Rec)(h:OffY w O L)(htx:r.text.size≤9223372036854775807):
 Calls Tryz.prog 41 #[offV O L,recV r] w fun e w'=> ∃L',e= .returned (.tuple #[offV (noteO O r) L',recV (noteR O r),.int .i64 (noteE O r)])∧OffRf w.heap.size w' (noteO O r) L'∧Ext w w':=by
 have H:=hid h
 clear h
 obtain⟨B,hB⟩:∃ B:Nat,w.heap.size=B:=⟨_,rfl⟩
 have HB:=hid hB
 obtain⟨j,hj⟩:∃ j,noteE O r=j:=⟨_,rfl⟩
 obtain⟨GO,hGO⟩:∃ GO,noteO O r=GO:=⟨_,rfl⟩
 obtain⟨GR,hGR⟩:∃ GR,noteR O r=GR:=⟨_,rfl⟩
 rw[hj,hGO,hGR]
 have HE:=hid hj
 have HO:Hid (GO=if j=0 then apdO O (ownR O r) else noOff):=hid (by rw[←hGO,noteO,hj])
 have HR:Hid (GR=if j=0 then ownR O r else zeroR):=hid (by rw[←hGR,noteR,hj])
 clear hj hGO hGR hB
 go_enter Tryz.func41,Tryz.ntmps41
 go_wp2_with fail
 refine(rCheckOffice_any O L _ (H.out.of_ext exI)).mono ?_
 rintro e P1 ⟨rfl,x1⟩
 have X1:Hid (Ext w P1):=hid (Ext.trans exI x1)
 have b2:BoxC P1 B (offC O L) 76:=BoxC.of_ext ((((BoxC.new_at _ _ HB.out.symm).alloc _).alloc _).alloc _) x1
 have b3:BoxC P1 (B+1) (recC r) 46:=BoxC.of_ext (((BoxC.new_at _ _ qH).alloc _).alloc _) x1
 have b4:BoxC P1 (B+1+1) (offC noOff zL) 76:=BoxC.of_ext ((BoxC.new_at _ _ qH).alloc _) x1
 have b5:BoxC P1 (B+1+1+1) (recC zeroR) 46:=BoxC.of_ext (BoxC.new_at _ _ qH) x1
 simp only[HB.out]
 have V2:=hid b2
 have V3:=hid b3
 have V4:=hid b4
 have V5:=hid b5
 have c2:=b2.c17
 have c3:=b3.c11
 have l2:=b2.lt
 have l3:=b3.lt
 have f3:=b3.frozen
 have t4:=b4.lt
 have t5:=b5.lt
 have l4:rowLen P1 (B+1+1)=17:=b4.len
 have l5:rowLen P1 (B+1+1+1)=11:=b5.len
 clear x1 b2 b3 b4 b5
 cases ho:offOk O with
 | false=>
  have Hj:Hid (j=76):=hid (by rw[←HE.out,noteE,if_neg qG])
  rw[errOff_no ho]
  clear c2 c3
  go_wp2_with fail
  have hj:=Hj.out
  refine bodyPost_ret (ret_cct rfl rfl (rowLen_setCells.trans (rowLen_setCells.trans l4)) ((rowAt_setCells_off tB).trans (rowAt_setCells_same rfl qF)) rfl (rowLen_setCells.trans (rowLen_setCells.trans l5)) (rowAt_setCells_same rfl qI) rfl) rfl ?_;have hB:=HB.out;have e1:GO=noOff:=qL;have e2:GR=zeroR:=QE;rw[hj,e1,e2];exact⟨zL,rfl,OffRf.zero _ _,Ext.cells _ _ (Ext.cells _ _ X1.out tB) tB⟩
 | true=>
  have Hk:=hid (H.out.ok ho)
  rw[errOff_ok ho]
  cases hkd:(r.kind==1) with
  | true=>
   have Hj:Hid (j=75):=hid (by rw[←HE.out,noteE,if_pos ho,if_pos (by simpa using hkd)])
   go_wp2_with fail
   have hj:=Hj.out
   refine bodyPost_ret (ret_cct rfl rfl (rowLen_setCells.trans (rowLen_setCells.trans l4)) ((rowAt_setCells_off tB).trans (rowAt_setCells_same rfl qF)) rfl (rowLen_setCells.trans (rowLen_setCells.trans l5)) (rowAt_setCells_same rfl qI) rfl) rfl ?_;have hB:=HB.out;have e1:GO=noOff:=qL;have e2:GR=zeroR:=QE;rw[hj,e1,e2];exact⟨zL,rfl,OffRf.zero _ _,Ext.cells _ _ (Ext.cells _ _ X1.out tB) tB⟩
  | false=>
   have HA:Hid (appE O.d O.m (ownR O r)=j):=hid (by rw[←HE.out,noteE,if_pos ho,if_neg (by simpa using hkd)])
   clear HE
   have hyl:=H.out.l
   go_wp2_with fail
   have fb2:=far2 l2
   have fb3:=far2 l3
   refine wp_region_ordZ 10 (.f 0 (.f 1 (.f 2 (.f 3 (.f 4 (.f 5 (.f 6 (.a 7 (.f 8 (.f 9 (.z 10))))))))))) (Kept (P1) (P1.heap.size) (P1.heap.size)) tG tG (Kept.refl _ _ _).drew ?_
   refine oT ?_
   refine wpOrd_call rfl rfl rfl Tryz.call105 (fun R hR=> ?_)
   go_simp
   refine(rnext_x O L hyl Hk.out _ ((H.out.r.of_ext X1.out).of_ext exI)).mono ?_
   rintro e w1 ⟨rfl,E1,d1,rfl⟩
   refine hR _ _ ⟨_,rfl,?_,?_⟩
   ·exact qm
   clear hR R
   simp only[Act.put,zp]
   refine oT ?_
   refine wpOrd_last rfl rfl (fun K hK=> ?_)
   go_simp
   refine hK _ _ ?_
   clear hK K
   try simp only[Act.put,zp]
   go_wp2_with fail
   obtain⟨QW,hQW⟩:∃ QW,((P1.setCell ⟨B+1,0,none⟩ (.int .i64 O.me)).setCell ⟨B+1,1,none⟩ (.int .i64 (nextI O.m.recs O.me))).drew.ext E1 d1=QW:=⟨_,rfl⟩
   simp only[hQW]
   have hB:=HB.out
   have XW:Ext w QW:=by rw[←hQW];exact Ext.ext (Ext.drew (Ext.box (Ext.box X1.out _ _ tB) _ _ tB)) _ _
   have w3:=hid (show BoxC QW (B+1) (recC (ownR O r)) 46 by rw[←hQW];exact BoxC.of_ext (BoxC.drew ((V3.out.set 0 _).set 1 _)) ⟨_,_,rfl⟩)
   have w4:=hid (show BoxC QW (B+1+1) (offC noOff zL) 76 by rw[←hQW];exact BoxC.of_ext (BoxC.drew ((V4.out.other 0 _ tB).other 1 _ tB)) ⟨_,_,rfl⟩)
   have w5:=hid (show BoxC QW (B+1+1+1) (recC zeroR) 46 by rw[←hQW];exact BoxC.of_ext (BoxC.drew ((V5.out.other 0 _ tB).other 1 _ tB)) ⟨_,_,rfl⟩)
   refine(rWritten_any O L QW (ownR O r) (H.out.of_ext XW) ho htx).mono ?_
   rintro e P3 ⟨L3,rfl,hU,x3⟩
   rw[HA.out]
   have X3:Hid (Ext w P3):=hid (XW.trans x3)
   have v3:=w3.out.of_ext x3
   have v4:=w4.out.of_ext x3
   have v5:=w5.out.of_ext x3
   have U3:=hid v3
   have U4:=hid v4
   have U5:=hid v5
   have HU:=hid (hU.mono (base':=B+1+1+1+1) (by have:=w5.out.lt;omega))
   have n5:¬ (P3.heap.size=B+1+1+1):=by have:=v5.lt;omega
   have n4:¬ (P3.heap.size=B+1+1):=by have:=v5.lt;omega
   have t4:=v4.lt
   have t5:=v5.lt
   have l4:rowLen P3 (B+1+1)=17:=v4.len
   have l5:rowLen P3 (B+1+1+1)=11:=v5.len
   clear hQW c2 c3 l2 l3 f3 V2 V3 V4 V5 w3 w4 w5 x3 hU fb2 fb3 hB XW v3 v4 v5
   rename_i K5 hK5 K4 hK4
   have HK5:=hid hK5
   clear hK5
   go_wp2_with fail
   obtain⟨B5,hB5⟩:∃ B5,P3.heap.size=B5:=⟨_,rfl⟩
   simp only[hB5]
   obtain⟨Q,hQ⟩:∃ Q,(P3.alloc (.cells #[.int .i64 0,.slice none 0 0,.int .i64 0,.slice none 0 0,.int .i64 0,.slice none 0 0,.int .i64 0,.int .i64 0,.slice none 0 0,.slice none 0 0,.slice none 0 0,.slice none 0 0,.slice none 0 0,.slice none 0 0,.slice none 0 0,.slice none 0 0,.slice none 0 0] 76)).setCells B5 0 (offC (apO O (ownR O r)) L3)=Q:=⟨_,rfl⟩
   simp only[hQ]
   have hB:=HB.out
   have XQ:Ext P3 Q:=by rw[←hQ];exact Ext.cells _ _ (Ext.alloc (Ext.refl _) _) tB
   have p5:BoxC Q B5 (offC (apO O (ownR O r)) L3) 76:=by rw[←hQ];exact BoxC.cells (cs:=[.int .i64 0,.slice none 0 0,.int .i64 0,.slice none 0 0,.int .i64 0,.slice none 0 0,.int .i64 0,.int .i64 0,.slice none 0 0,.slice none 0 0,.slice none 0 0,.slice none 0 0,.slice none 0 0,.slice none 0 0,.slice none 0 0,.slice none 0 0,.slice none 0 0]) _ 0 (BoxC.new_at _ _ hB5.symm) (Nat.le_refl _)
   have u3:=U3.out.of_ext XQ
   have u4:=U4.out.of_ext XQ
   have u5:=U5.out.of_ext XQ
   have Qx:=hid XQ
   have Y4:=hid u4
   have Y5:=hid u5
   have l4:rowLen Q (B+1+1)=17:=u4.len
   have l5:rowLen Q (B+1+1+1)=11:=u5.len
   have t4:=u4.lt
   have t5:=u5.lt
   have e3:¬ (B+1=B+1+1):=by omega
   have e4:¬ (B+1=B+1+1+1):=by omega
   have e5:¬ (B5=B+1+1):=by omega
   have e6:¬ (B5=B+1+1+1):=by omega
   refine HK5.out _ _ ?_
   clear HK5 hQ hB5 XQ n4 n5 hB
   by_cases hj0:j=0
   ·have hap:apO O (ownR O r)=apdO O (ownR O r):=by rw[apO,if_pos (HA.out.trans hj0)]
    rw[hap] at p5 HU
    have Hap:=hid hap
    have c5:=p5.c17
    have k5:=p5.lt
    have c3:=u3.c11
    have k3:=u3.lt
    have Hj0:=hid hj0
    subst hj0
    clear hap p5 u3 u4 u5
    rw[Hap.out]
    go_wp2_with fail
    refine wp_region_ord (.f 0 (.f 1 (.a 2 (.a 3 (.f 4 .d))))) (Kept (Q) (B+1+1) (B+1+1+1)) tG tG (Kept.refl _ _ _).drew ?_
    refine oT ?_
    refine oG ?_
    refine oG ?_
    refine oT ?_
    refine wpOrd_nil ?_
    go_wp2_with fail
    have hB:=HB.out
    have e1:GO=apdO O (ownR O r):=by have:=HO.out;simpa using this
    have e2:GR=ownR O r:=by have:=HR.out;simpa using this
    rw[e1,e2]
    refine bodyPost_ret (ret_cct rfl rfl qa ((rowAt_setCells_off tB).trans (rowAt_setCells_same rfl qS)) rfl qb (rowAt_setCells_same rfl qc) rfl) rfl ?_
    refine⟨L3,rfl,OffRf.mono (base:=B+1+1+1+1) (OffRf.cells (OffRf.cells (OffRf.drew (HU.out.of_ext Qx.out)) tB) tB) tB,Ext.cells _ _ (Ext.cells _ _ (Ext.drew (X3.out.trans Qx.out)) tB) tB⟩
   ·have hj2:(j != 0)=true:=by simpa using hj0
    clear p5 u3 u4 u5
    go_wp2_with fail
    refine bodyPost_ret (ret_cct rfl rfl (rowLen_setCells.trans (rowLen_setCells.trans l4)) ((rowAt_setCells_off tB).trans (rowAt_setCells_same rfl qF)) rfl (rowLen_setCells.trans (rowLen_setCells.trans l5)) (rowAt_setCells_same rfl qI) rfl) rfl ?_
    have hB:=HB.out
    have e1:GO=noOff:=by have:=HO.out;rw[if_neg hj0] at this;exact this
    have e2:GR=zeroR:=by have:=HR.out;rw[if_neg hj0] at this;exact this
    rw[e1,e2]
    exact⟨zL,rfl,OffRf.zero _ _,Ext.cells _ _ (Ext.cells _ _ (X3.out.trans Qx.out) tB) tB⟩
end Go.Proofs.YtekjdeibnfaehaaGreat
