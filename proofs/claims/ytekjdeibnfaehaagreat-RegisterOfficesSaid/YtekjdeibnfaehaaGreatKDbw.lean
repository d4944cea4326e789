/- Texts of a proof. -/
import Derived.Test.YtekjdeibnfaehaaGreatKDbv
import Derived.Test.YtekjdeibnfaehaaGreatKDbp
import Derived.Test.YtekjdeibnfaehaaGreatKDar
set_option linter.unusedSimpArgs false
set_option linter.unusedVariables false
namespace Go.Proofs.YtekjdeibnfaehaaGreat
open Go Go.RowKit
theorem put1{P P1:World}{z:Array Value}{nc:List Value}{t:TypeId}(x:Ext P P1)(hz:z.size=nc.length):
 Ext P ((P1.alloc (.cells z t)).setCells P1.heap.size 0 nc)∧BoxC ((P1.alloc (.cells z t)).setCells P1.heap.size 0 nc) P1.heap.size nc t∧Ext P1 ((P1.alloc (.cells z t)).setCells P1.heap.size 0 nc):=by
 refine⟨Ext.cells _ _ (Ext.alloc x _) x.below.size,box_whole (cs:=z.toList) (BoxC.new_at z.toList t rfl) (by simpa using hz),Ext.cells _ _ (Ext.alloc (Ext.refl _) _) (Nat.le_refl _)⟩
theorem put2{P P1:World}{z z2:Array Value}{nc rc:List Value}{t t2:TypeId}(x:Ext P P1)(hz:z.size=nc.length)(hz2:z2.size=rc.length):
 Ext P ((((P1.alloc (.cells z t)).alloc (.cells z2 t2)).setCells P1.heap.size 0 nc).setCells (P1.heap.size+1) 0 rc)∧BoxC ((((P1.alloc (.cells z t)).alloc (.cells z2 t2)).setCells P1.heap.size 0 nc).setCells (P1.heap.size+1) 0 rc) P1.heap.size nc t∧
 BoxC ((((P1.alloc (.cells z t)).alloc (.cells z2 t2)).setCells P1.heap.size 0 nc).setCells (P1.heap.size+1) 0 rc) (P1.heap.size+1) rc t2∧Ext P1 ((((P1.alloc (.cells z t)).alloc (.cells z2 t2)).setCells P1.heap.size 0 nc).setCells (P1.heap.size+1) 0 rc):=by
 have hs:=x.below.size
 refine⟨Ext.cells _ _ (Ext.cells _ _ (Ext.alloc (Ext.alloc x _) _) hs) tB,BoxC.cellsOther tB _ _ (box_whole (cs:=z.toList) ((BoxC.new_at z.toList t rfl).alloc _) (by simpa using hz)),box_whole (cs:=z2.toList) (BoxC.cellsOther tB _ _ (BoxC.new_at z2.toList t2 tE)) (by simpa using hz2),Ext.cells _ _ (Ext.cells _ _ (Ext.alloc (Ext.alloc (Ext.refl _) _) _) (Nat.le_refl _)) tB⟩
theorem OffY.cut0{w:World}{O:OffD}{L:OffL}(h:OffY w O L):OffY w ⟨O.me,⟨⟨[],O.d.f0.firm⟩,O.d.f1⟩,O.m,O.kn⟩ ⟨L.A0,0,L.c0,L.A1,L.n1,L.c1,L.Am,L.nm,L.cm,L.k⟩:=
 ⟨⟨rfl,h.d.l1,Nat.zero_le _,h.d.h1,h.d.k0,h.d.k1,Byt.nil _ _,h.d.b1⟩,h.l,h.h,h.t,h.r,h.k⟩
theorem OffY.cut1{w:World}{O:OffD}{L:OffL}(h:OffY w O L):OffY w ⟨O.me,⟨O.d.f0,⟨[],O.d.f1.firm⟩⟩,O.m,O.kn⟩ ⟨L.A0,L.n0,L.c0,L.A1,0,L.c1,L.Am,L.nm,L.cm,L.k⟩:=
 ⟨⟨h.d.l0,rfl,h.d.h0,Nat.zero_le _,h.d.k0,h.d.k1,h.d.b0,Byt.nil _ _⟩,h.l,h.h,h.t,h.r,h.k⟩
theorem OffY.known{w:World}{O:OffD}{L:OffL}(h:OffY w O L)(k:Nat){t:SlT}{l:List Plc}(hk:Plcs w t l):OffY w ⟨O.me,O.d,O.m,upd O.kn k l⟩ ⟨L.A0,L.n0,L.c0,L.A1,L.n1,L.c1,L.Am,L.nm,L.cm,upd L.k k t⟩:=
 ⟨h.d,h.l,h.h,h.t,h.r,fun i hi=>by
  by_cases he:i=k
  ·subst he
   show Plcs w (upd L.k i t i) (upd O.kn i l i)
   rw[upd_at,upd_at]
   exact hk
  ·show Plcs w (upd L.k k t i) (upd O.kn k l i)
   rw[upd_ne _ _ he,upd_ne _ _ he]
   exact h.k i hi⟩
set_option maxRecDepth 100000 in
set_option maxHeartbeats 32000000 in
theorem of_walk(A0:Option Addr)(n c0:Nat)(l:List MoveD)(hn:l.length=n)(hbig:n≤9223372036854775807)(hok:∀ m∈l,MovOk m)(p:PrbD)(Ak:Option Addr)(nk ck:Nat)(kl:List Plc)(hp:PrbOk p)(w:World)(hl:Moves w A0 l)(hkl:Plcs w ⟨Ak,nk,ck⟩ kl):
 Calls Tryz.prog 6 #[.slice A0 n c0,.agg (prbC p Ak nk ck).toArray] w fun e w'=>e= .returned (.bool true)∧Ext w w':=by
 have Hok:=hid hok
 have Hl:=hid hl
 have Hp:=hid hp
 have Hkl:=hid hkl
 obtain⟨xc,hxc⟩:∃ xc,recC p.x=xc:=⟨_,rfl⟩
 obtain⟨mc,hmc⟩:∃ mc,msgC p.m=mc:=⟨_,rfl⟩
 obtain⟨pc,hpc⟩:∃ pc,prbC p Ak nk ck=pc:=⟨_,rfl⟩
 rw[hpc]
 have Hxc:=hid hxc
 have Hmc:=hid hmc
 have Hpc:=hid hpc
 obtain⟨zc,hzc⟩:∃ zc,worldC zeroW (fun _=>zL) none 0 0=zc:=⟨_,rfl⟩
 have hzw:=zero_world
 rw[hzc] at hzw
 have lzc:zc.length=70:=by rw[←hzc];rfl
 obtain⟨B,hB⟩:∃ B:Nat,w.heap.size=B:=⟨_,rfl⟩
 have HB:=hid hB
 clear hok hl hp hkl hxc hmc hpc hzc hB
 go_enter Tryz.func6,Tryz.ntmps6
 refine wp_seq_k fun K hK=> ?_
 have HK:=hid hK
 clear hK
 go_wp2_with fail
 obtain⟨P0,hP0⟩:∃ P0,w.alloc (.cells pc.toArray 73)=P0:=⟨_,rfl⟩
 simp only[hP0,HB.out]
 have B0:Hid (BoxC P0 B pc 73):=hid (by rw[←hP0];exact BoxC.new_at _ _ HB.out.symm)
 have X0:Hid (Ext w P0):=hid (by rw[←hP0];exact(Ext.refl _).alloc _)
 clear hP0
 have hb:=B0.out
 obtain⟨⟨_,g1,_⟩,_⟩:=prb_facts (p:=p) (by rw[Hpc.out];exact hb) Hxc.out Hmc.out
 have tb:=hb.lt
 clear hb
 refine HK.out _ _ ?_
 clear HK
 refine wp_seq_k fun K hK=> ?_
 have HK:=hid hK
 clear hK
 go_wp2_with fail
 refine(newP_q p.b _).mono ?_
 rintro e P1 ⟨n5,j5,rfl,w5,l5,H5,x1⟩
 go_wp2_with fail
 obtain⟨hx,hb,_⟩:=put1 (z:=#[.int .i64 0,.slice none 0 0,.int .i64 0,.slice none 0 0,.int .i64 0,.slice none 0 0,.int .i64 0,.int .i64 0,.slice none 0 0,.slice none 0 0,.slice none 0 0,.slice none 0 0,.slice none 0 0,.slice none 0 0,.slice none 0 0,.slice none 0 0,.slice none 0 0]) (nc:=n5) (t:=76) x1 l5.symm
 obtain⟨Q1,hQ⟩:∃ Q,(P1.alloc (.cells #[.int .i64 0,.slice none 0 0,.int .i64 0,.slice none 0 0,.int .i64 0,.slice none 0 0,.int .i64 0,.int .i64 0,.slice none 0 0,.slice none 0 0,.slice none 0 0,.slice none 0 0,.slice none 0 0,.slice none 0 0,.slice none 0 0,.slice none 0 0,.slice none 0 0] 76)).setCells P1.heap.size 0 n5=Q:=⟨_,rfl⟩
 simp only[hQ] at hx hb ⊢
 obtain⟨b5,hb5⟩:∃ b,P1.heap.size=b:=⟨_,rfl⟩
 simp only[hb5] at hb ⊢
 have XQ1:=hid hx
 have B5:=hid hb
 have A5:Hid (Ans Q1 (newO p.b) n5):=hid (H5.out.1.of_ext (by rw[←hQ];exact Ext.cells _ _ (Ext.alloc (Ext.refl _) _) tB))
 have hb:=B0.out.of_ext hx
 clear g1 tb hQ hb5 x1 hx
 obtain⟨⟨_,g1,_⟩,_⟩:=prb_facts (p:=p) (by rw[Hpc.out];exact hb) Hxc.out Hmc.out
 have tb:=hb.lt
 clear hb
 refine HK.out _ _ ?_
 clear HK
 refine wp_seq_k fun K hK=> ?_
 have HK:=hid hK
 clear hK
 go_wp2_with fail
 refine(newR_q p.b _).mono ?_
 rintro e P2 ⟨n7,j7,rfl,w7,l7,H7,x2⟩
 go_wp2_with fail
 obtain⟨hx,hb,_⟩:=put1 (z:=#[.int .i64 0,.slice none 0 0,.int .i64 0,.slice none 0 0,.int .i64 0,.slice none 0 0,.int .i64 0,.int .i64 0,.slice none 0 0,.slice none 0 0,.slice none 0 0,.slice none 0 0,.slice none 0 0,.slice none 0 0,.slice none 0 0,.slice none 0 0,.slice none 0 0]) (nc:=n7) (t:=76) x2 l7.symm
 obtain⟨Q2,hQ⟩:∃ Q,(P2.alloc (.cells #[.int .i64 0,.slice none 0 0,.int .i64 0,.slice none 0 0,.int .i64 0,.slice none 0 0,.int .i64 0,.int .i64 0,.slice none 0 0,.slice none 0 0,.slice none 0 0,.slice none 0 0,.slice none 0 0,.slice none 0 0,.slice none 0 0,.slice none 0 0,.slice none 0 0] 76)).setCells P2.heap.size 0 n7=Q:=⟨_,rfl⟩
 simp only[hQ] at hx hb ⊢
 obtain⟨b7,hb7⟩:∃ b,P2.heap.size=b:=⟨_,rfl⟩
 simp only[hb7] at hb ⊢
 have XQ2:=hid hx
 have A7:Hid (Ans Q2 (newO p.b) n7):=hid (H7.out.1.of_ext (by rw[←hQ];exact Ext.cells _ _ (Ext.alloc (Ext.refl _) _) tB))
 have h5:=B5.out.of_ext hx
 obtain rfl:j5=j7:=by rw[←H5.out.2.2,←H7.out.2.2]
 have r5:rowAt Q2 b5 0 17=n5.toArray:=by have h:=h5.row;rwa [l5] at h
 have r7:rowAt Q2 b7 0 17=n7.toArray:=by have h:=hb.row;rwa [l7] at h
 have k5:rowLen Q2 b5=17:=h5.len.trans l5
 have k7:rowLen Q2 b7=17:=hb.len.trans l7
 clear g1 tb hQ hb7 x2 hx h5 hb
 refine HK.out _ _ ?_
 clear HK
 refine wp_seq_k fun K hK=> ?_
 have HK:=hid hK
 clear hK
 go_wp2_with fail
 refine(same_q (newO p.b) n5 n7 Q2 (A5.out.of_ext XQ2.out) A7.out H5.out.2.1).mono ?_
 rintro e Wb ⟨rfl,x3⟩
 go_wp2_with fail
 have XWb:=hid (((X0.out.trans XQ1.out).trans XQ2.out).trans x3)
 have BP:=hid (((B0.out.of_ext XQ1.out).of_ext XQ2.out).of_ext x3)
 clear r5 r7 k5 k7 x3
 refine HK.out _ _ ?_
 clear HK
 refine wp_seq_k fun K hK=> ?_
 have HK:=hid hK
 clear hK
 go_wp2_with fail
 refine(begun_any Wb).mono ?_
 rintro e P4 ⟨Ls0,rfl,hY0,hF0,x4⟩
 obtain⟨wc,hwc⟩:∃ wc,worldC beginW Ls0 none 0 0=wc:=⟨_,rfl⟩
 have wwc:Whole wc.toArray 70:=by rw[←hwc];exact worldC_whole _ _ _ _ _
 have lwc:wc.length=70:=by rw[←hwc];rfl
 rw[hwc]
 have Hwc:=hid hwc
 have HY0:=hid hY0
 have X4:=hid x4
 clear hwc hY0 hF0 x4
 go_wp2_with fail
 obtain⟨b,hb⟩:∃ b,P4.heap.size=b:=⟨_,rfl⟩
 simp only[hb]
 obtain⟨P,hP⟩:∃ P,(P4.alloc (.cells zc.toArray 83)).setCells b 0 wc=P:=⟨_,rfl⟩
 simp only[hP]
 have hwb:Wb.heap.size≤b:=by have:=X4.out.below.size;omega
 have hF1:WorldF b Ls0 none 0:=HY0.out.far tB
 have HW:WBox Wb b P 0 beginW noGh Ls0 none 0 0:=by
  rw[←hP]
  refine⟨Ext.cells _ _ (Ext.alloc X4.out _) hwb,?_,WI.begin,?_,hF1,Nat.zero_le _⟩
  ·rw[Hwc.out];exact box_whole (BoxC.new_at zc _ hb.symm) (by rw[lzc,lwc])
  ·exact(HY0.out.of_ext ((Ext.refl _).alloc _)).grown hF1 (gb_cells b wc 0 _)
 clear hP hF1 HY0 hb hzw X4 wwc lwc lzc
 refine HK.out _ _ ?_
 clear HK
 refine wp_seq_k fun K hK=> ?_
 have HK:=hid hK
 clear hK
 go_wp2_with fail
 have hrest:∀ (v0 v1 v2 v4 v5 v6 v7 v8 v10 v41 v42 v43 v44 v45 v46 v47 v48 v49 v50 v51 v52 v53 v54 v55 v56 v57 v58 v59 v60 v61 v62 v63 v64 v65 v66 v67 v68 v69 v70 v71 v72 v73 v74 v75 v76 v77 v78:Value) (k:Nat) (W:WD) (G:Gh) (Ls:Nat→OffL) (A:Option Addr) (na c:Nat) (wr:World),WBox Wb b wr k W G Ls A na c→k≤24→K ⟨#[v0,v1,v2,.pointer (some ⟨B,0,none⟩),v4,v5,v6,v7,v8,.pointer (some ⟨b,0,none⟩),v10,undef,undef,undef,undef,undef,undef,undef,undef,undef,undef,undef,undef,undef,undef,undef,undef,undef,undef,undef,undef,undef,undef,undef,undef,undef,undef,undef,undef,undef,undef,v41,v42,v43,v44,v45,v46,v47,v48,v49,v50,v51,v52,v53,v54,v55,v56,v57,v58,v59,v60,v61,v62,v63,v64,v65,v66,v67,v68,v69,v70,v71,v72,v73,v74,v75,v76,v77,v78,undef,undef,undef,undef,undef,undef,undef,undef,undef,undef,undef,undef,undef,undef,undef,undef,undef,undef,undef,undef,undef,undef,undef,undef,undef,undef,undef,undef,undef,undef,undef,undef,undef,undef,undef,undef,undef,undef,undef,undef,undef,undef,undef,undef,undef,undef,undef,undef,undef,undef,undef,undef,undef,undef,undef,undef,undef,undef,undef,undef,undef,undef,undef,undef,undef,undef,undef,undef,undef,undef,undef,undef,undef,undef,undef,undef,undef,undef,undef,undef,undef,undef,undef,undef,undef,undef,undef,undef,undef,undef,undef,undef,undef,undef,undef,undef,undef,undef,undef,undef,undef,undef,undef,undef,undef,undef,undef,undef,undef,undef,undef,undef,undef,undef,undef,undef,undef,undef,undef,undef,undef,undef,undef,undef,undef,undef,undef,undef,undef,undef,undef,undef,undef,undef,undef,undef,undef,undef,undef,undef,undef,undef,undef,undef,undef,undef,undef,undef,undef,undef,undef,undef,undef,undef,undef,undef,undef,undef,undef,undef,undef,undef,undef,undef,undef,undef,undef,undef,undef,undef,undef,undef,undef,undef,undef,undef,undef,undef,undef,undef,undef,undef,undef,undef,undef,undef,undef,undef,undef,undef,undef,undef,undef,undef,undef,undef,undef,undef,undef,undef,undef,undef],[]⟩ wr:=by
  intro v0 v1 v2 v4 v5 v6 v7 v8 v10 v41 v42 v43 v44 v45 v46 v47 v48 v49 v50 v51 v52 v53 v54 v55 v56 v57 v58 v59 v60 v61 v62 v63 v64 v65 v66 v67 v68 v69 v70 v71 v72 v73 v74 v75 v76 v77 v78 k W G Ls A na c wr hW hk24
  clear HW
  have hb:=BP.out.of_ext hW.x
  obtain⟨⟨g0,_⟩,_⟩:=prb_facts (p:=p) (by rw[Hpc.out];exact hb) Hxc.out Hmc.out
  have tb:=hb.lt
  obtain⟨q,hq⟩:∃ q:Nat,p.a % 4=q:=⟨(p.a % 4).toNat,by omega⟩
  have hq4:q<4:=by omega
  obtain⟨_,_,lq0,_⟩:=hW.q.world
  have ro:=hW.q.worldOff hq4
  obtain⟨oc,hoc⟩:∃ oc,offQ (W.off q) (Ls q)=oc:=⟨_,rfl⟩
  rw[hoc] at ro
  have Hoc:=hid hoc
  have wo:Whole oc.toArray 17:=by rw[←hoc];exact offQ_whole _ _
  have lo:oc.length=17:=by rw[←hoc];rfl
  have hqi:(q:Int)<4:=by omega
  have hf17:q * 17≤51:=by omega
  have hf70:q * 17+17≤70:=by omega
  have hf70':17+q * 17≤70:=by omega
  have t9:=hW.q.lt
  have XP:=hid (XWb.out.trans hW.x)
  have HY:=hid (hW.y.o q hq4)
  have HI:=hid (hW.i.o q hq4)
  have Hq:=hid hq
  have BPr:=hid hb
  have Hk24:=hid hk24
  clear hoc hq hb hW
  refine HK.out _ _ ?_
  clear HK
  refine wp_seq_k fun K hK=> ?_
  have HK:=hid hK
  clear hK
  go_wp2_with fail
  refine(Mod_any _ _ tN tN _).mono ?_
  rintro e w1 ⟨rfl,rfl⟩
  rw[Hq.out]
  go_wp2_with fail
  obtain⟨hx,hb,_⟩:=put1 (P1:=wr) (z:=#[.int .i64 0,.slice none 0 0,.int .i64 0,.slice none 0 0,.int .i64 0,.slice none 0 0,.int .i64 0,.int .i64 0,.slice none 0 0,.slice none 0 0,.slice none 0 0,.slice none 0 0,.slice none 0 0,.slice none 0 0,.slice none 0 0,.slice none 0 0,.slice none 0 0]) (nc:=oc) (t:=76) (Ext.refl wr) lo.symm
  obtain⟨Q10,hQ⟩:∃ Q,(wr.alloc (.cells #[.int .i64 0,.slice none 0 0,.int .i64 0,.slice none 0 0,.int .i64 0,.slice none 0 0,.int .i64 0,.int .i64 0,.slice none 0 0,.slice none 0 0,.slice none 0 0,.slice none 0 0,.slice none 0 0,.slice none 0 0,.slice none 0 0,.slice none 0 0,.slice none 0 0] 76)).setCells wr.heap.size 0 oc=Q:=⟨_,rfl⟩
  simp only[hQ] at hx hb ⊢
  obtain⟨b11,hb11⟩:∃ b,wr.heap.size=b:=⟨_,rfl⟩
  simp only[hb11] at hb ⊢
  have X10:=hid hx
  have B11:=hid hb
  have HR11:=hid hb11
  have BP10:=hid (BPr.out.of_ext hx)
  clear hQ hb11 hx hb g0 tb lq0 ro wo hqi hf17 hf70 hf70' t9
  refine HK.out _ _ ?_
  clear HK
  refine wp_seq_k fun K hK=> ?_
  have HK:=hid hK
  clear hK
  have hrest2:∀ (v0 v1 v2 v4 v5 v6 v7 v8 v9 v10 v41 v42 v43 v44 v45 v46 v47 v48 v49 v50 v51 v52 v53 v54 v55 v56 v57 v58 v59 v60 v61 v62 v63 v64 v65 v66 v67 v68 v69 v70 v71 v72 v73 v74 v75 v76 v77 v78 v79 v80 v81 v82 v83 v84 v85 v86 v87 v88 v89 v90 v91 v92 v93 v94 v95 v96 v97 v98 v99 v100 v101 v102 v103 v104:Value) (O:OffD) (L:OffL) (P:World),BoxC P b11 (offQ O L) 76→OffY wr O L→Ext wr P→K ⟨#[v0,v1,v2,.pointer (some ⟨B,0,none⟩),v4,v5,v6,v7,v8,v9,v10,.pointer (some ⟨b11,0,none⟩),undef,undef,undef,undef,undef,undef,undef,undef,undef,undef,undef,undef,undef,undef,undef,undef,undef,undef,undef,undef,undef,undef,undef,undef,undef,undef,undef,undef,undef,v41,v42,v43,v44,v45,v46,v47,v48,v49,v50,v51,v52,v53,v54,v55,v56,v57,v58,v59,v60,v61,v62,v63,v64,v65,v66,v67,v68,v69,v70,v71,v72,v73,v74,v75,v76,v77,v78,v79,v80,v81,v82,v83,v84,v85,v86,v87,v88,v89,v90,v91,v92,v93,v94,v95,v96,v97,v98,v99,v100,v101,v102,v103,v104,undef,undef,undef,undef,undef,undef,undef,undef,undef,undef,undef,undef,undef,undef,undef,undef,undef,undef,undef,undef,undef,undef,undef,undef,undef,undef,undef,undef,undef,undef,undef,undef,undef,undef,undef,undef,undef,undef,undef,undef,undef,undef,undef,undef,undef,undef,undef,undef,undef,undef,undef,undef,undef,undef,undef,undef,undef,undef,undef,undef,undef,undef,undef,undef,undef,undef,undef,undef,undef,undef,undef,undef,undef,undef,undef,undef,undef,undef,undef,undef,undef,undef,undef,undef,undef,undef,undef,undef,undef,undef,undef,undef,undef,undef,undef,undef,undef,undef,undef,undef,undef,undef,undef,undef,undef,undef,undef,undef,undef,undef,undef,undef,undef,undef,undef,undef,undef,undef,undef,undef,undef,undef,undef,undef,undef,undef,undef,undef,undef,undef,undef,undef,undef,undef,undef,undef,undef,undef,undef,undef,undef,undef,undef,undef,undef,undef,undef,undef,undef,undef,undef,undef,undef,undef,undef,undef,undef,undef,undef,undef,undef,undef,undef,undef,undef,undef,undef,undef,undef,undef,undef,undef,undef,undef,undef,undef],[]⟩ P:=by
   intro v0 v1 v2 v4 v5 v6 v7 v8 v9 v10 v41 v42 v43 v44 v45 v46 v47 v48 v49 v50 v51 v52 v53 v54 v55 v56 v57 v58 v59 v60 v61 v62 v63 v64 v65 v66 v67 v68 v69 v70 v71 v72 v73 v74 v75 v76 v77 v78 v79 v80 v81 v82 v83 v84 v85 v86 v87 v88 v89 v90 v91 v92 v93 v94 v95 v96 v97 v98 v99 v100 v101 v102 v103 v104 O L P hbO hyO hxP
   clear B11 X10 BP10 HY Hoc HI
   refine HK.out _ _ ?_
   clear HK
   refine wp_seq_k fun K hK=> ?_
   have HK:=hid hK
   clear hK
   have hrest3:∀ (v0 v1 v2 v4 v5 v6 v7 v8 v9 v10 v41 v42 v43 v44 v45 v46 v47 v48 v49 v50 v51 v52 v53 v54 v55 v56 v57 v58 v59 v60 v61 v62 v63 v64 v65 v66 v67 v68 v69 v70 v71 v72 v73 v74 v75 v76 v77 v78 v79 v80 v81 v82 v83 v84 v85 v86 v87 v88 v89 v90 v91 v92 v93 v94 v95 v96 v97 v98 v99 v100 v101 v102 v103 v104 v105 v106 v107 v108 v109 v110 v111 v112 v113 v114 v115:Value) (O:OffD) (L:OffL) (P:World),BoxC P b11 (offQ O L) 76→OffY wr O L→Ext wr P→K ⟨#[v0,v1,v2,.pointer (some ⟨B,0,none⟩),v4,v5,v6,v7,v8,v9,v10,.pointer (some ⟨b11,0,none⟩),undef,undef,undef,undef,undef,undef,undef,undef,undef,undef,undef,undef,undef,undef,undef,undef,undef,undef,undef,undef,undef,undef,undef,undef,undef,undef,undef,undef,undef,v41,v42,v43,v44,v45,v46,v47,v48,v49,v50,v51,v52,v53,v54,v55,v56,v57,v58,v59,v60,v61,v62,v63,v64,v65,v66,v67,v68,v69,v70,v71,v72,v73,v74,v75,v76,v77,v78,v79,v80,v81,v82,v83,v84,v85,v86,v87,v88,v89,v90,v91,v92,v93,v94,v95,v96,v97,v98,v99,v100,v101,v102,v103,v104,v105,v106,v107,v108,v109,v110,v111,v112,v113,v114,v115,undef,undef,undef,undef,undef,undef,undef,undef,undef,undef,undef,undef,undef,undef,undef,undef,undef,undef,undef,undef,undef,undef,undef,undef,undef,undef,undef,undef,undef,undef,undef,undef,undef,undef,undef,undef,undef,undef,undef,undef,undef,undef,undef,undef,undef,undef,undef,undef,undef,undef,undef,undef,undef,undef,undef,undef,undef,undef,undef,undef,undef,undef,undef,undef,undef,undef,undef,undef,undef,undef,undef,undef,undef,undef,undef,undef,undef,undef,undef,undef,undef,undef,undef,undef,undef,undef,undef,undef,undef,undef,undef,undef,undef,undef,undef,undef,undef,undef,undef,undef,undef,undef,undef,undef,undef,undef,undef,undef,undef,undef,undef,undef,undef,undef,undef,undef,undef,undef,undef,undef,undef,undef,undef,undef,undef,undef,undef,undef,undef,undef,undef,undef,undef,undef,undef,undef,undef,undef,undef,undef,undef,undef,undef,undef,undef,undef,undef,undef,undef,undef,undef,undef,undef,undef,undef,undef,undef,undef,undef,undef,undef,undef,undef,undef,undef],[]⟩ P:=by
    intro v0 v1 v2 v4 v5 v6 v7 v8 v9 v10 v41 v42 v43 v44 v45 v46 v47 v48 v49 v50 v51 v52 v53 v54 v55 v56 v57 v58 v59 v60 v61 v62 v63 v64 v65 v66 v67 v68 v69 v70 v71 v72 v73 v74 v75 v76 v77 v78 v79 v80 v81 v82 v83 v84 v85 v86 v87 v88 v89 v90 v91 v92 v93 v94 v95 v96 v97 v98 v99 v100 v101 v102 v103 v104 v105 v106 v107 v108 v109 v110 v111 v112 v113 v114 v115 O L P hbO hyO hxP
    obtain⟨oc,hoc⟩:∃ oc,offQ O L=oc:=⟨_,rfl⟩
    rw[hoc] at hbO
    have Hoc:=hid hoc
    have loc:oc.length=17:=by rw[←hoc];rfl
    have wo:Whole oc.toArray 17:=by rw[←hoc];exact offQ_whole _ _
    have HbO:=hid hbO
    have X14:=hid hxP
    have XO14:=hid (Ext.refl P)
    have HyO:=hid hyO
    have wxc:Whole xc.toArray 11:=by rw[←Hxc.out];exact recC_whole _
    have lxc:xc.length=11:=by rw[←Hxc.out];rfl
    clear hoc hbO hxP hyO
    refine HK.out _ _ ?_
    clear HK
    refine wp_seq_k fun K hK=> ?_
    have HK:=hid hK
    clear hK
    have hbp:=BPr.out.of_ext X14.out
    obtain⟨⟨g0,g1,g2,g3,g4,g5⟩,g10,g31,g32,l33,rx,rm⟩:=prb_facts (p:=p) QF Hxc.out Hmc.out
    have tb:=hbp.lt
    have hbo:=HbO.out.of_ext XO14.out
    have lo:rowLen P b11=17:=hbo.len.trans loc
    have ro:rowAt P b11 0 17=oc.toArray:=by have h:=hbo.row;rwa [loc] at h
    have t11:=hbo.lt
    clear hbp hbo g0 g1 g2 g3 g4 g5 g10 g31 g32 rm
    go_wp2_with fail
    refine(noteP_q O L oc Hoc.out _ p.x xc Hxc.out (HyO.out.of_ext X14.out) Hp.out.x).mono ?_
    rintro e P15 ⟨n15,r15,j15,rfl,w15,l15,wr15,lr15,H15,x15⟩
    go_wp2_with fail
    obtain⟨hx,hb,hb2,hx2⟩:=put2 (z:=#[.int .i64 0,.slice none 0 0,.int .i64 0,.slice none 0 0,.int .i64 0,.slice none 0 0,.int .i64 0,.int .i64 0,.slice none 0 0,.slice none 0 0,.slice none 0 0,.slice none 0 0,.slice none 0 0,.slice none 0 0,.slice none 0 0,.slice none 0 0,.slice none 0 0]) (z2:=#[.int .i64 0,.int .i64 0,.int .i64 0,.int .i64 0,.int .i64 0,.int .i64 0,.int .i64 0,.int .i64 0,.int .i64 0,.int .i64 0,.string ⟨#[]⟩]) (nc:=n15) (rc:=r15) (t:=76) (t2:=46) x15 l15.symm lr15.symm
    obtain⟨Q15,hQ⟩:∃ Q,(((P15.alloc (.cells #[.int .i64 0,.slice none 0 0,.int .i64 0,.slice none 0 0,.int .i64 0,.slice none 0 0,.int .i64 0,.int .i64 0,.slice none 0 0,.slice none 0 0,.slice none 0 0,.slice none 0 0,.slice none 0 0,.slice none 0 0,.slice none 0 0,.slice none 0 0,.slice none 0 0] 76)).alloc (.cells #[.int .i64 0,.int .i64 0,.int .i64 0,.int .i64 0,.int .i64 0,.int .i64 0,.int .i64 0,.int .i64 0,.int .i64 0,.int .i64 0,.string ⟨#[]⟩] 46)).setCells P15.heap.size 0 n15).setCells (P15.heap.size+1) 0 r15=Q:=⟨_,rfl⟩
    simp only[hQ] at hx hb hb2 hx2 ⊢
    obtain⟨b15,hbb⟩:∃ b,P15.heap.size=b:=⟨_,rfl⟩
    simp only[hbb] at hb hb2 ⊢
    have Br15:=hid hb2
    have Bn15:=hid hb
    have An15:Hid (Ans Q15 (noteO O p.x) n15):=hid (H15.out.1.of_ext hx2)
    have Ln0:=hid H15.out.2.1
    have Rn15:=hid H15.out.2.2.1
    have Jn15:Hid (noteE O p.x=j15):=hid H15.out.2.2.2
    have XE15:=hid hx
    have X15:=hid (X14.out.trans hx)
    have XO15:=hid (XO14.out.trans hx)
    clear hQ hbb hx hb hx2 hb2 rx l33 tb lo ro t11 x15 H15
    refine HK.out _ _ ?_
    clear HK
    refine wp_seq_k fun K hK=> ?_
    have HK:=hid hK
    clear hK
    have hbp:=BPr.out.of_ext X15.out
    obtain⟨⟨g0,g1,g2,g3,g4,g5⟩,g10,g31,g32,l33,rx,rm⟩:=prb_facts (p:=p) QF Hxc.out Hmc.out
    have tb:=hbp.lt
    have hbo:=HbO.out.of_ext XO15.out
    have lo:rowLen Q15 b11=17:=hbo.len.trans loc
    have ro:rowAt Q15 b11 0 17=oc.toArray:=by have h:=hbo.row;rwa [loc] at h
    have t11:=hbo.lt
    clear hbp hbo g0 g1 g2 g3 g4 g5 g10 g31 g32 rm
    go_wp2_with fail
    refine(noteR_q O L oc Hoc.out _ p.x xc Hxc.out (HyO.out.of_ext X15.out) Hp.out.x).mono ?_
    rintro e P16 ⟨n16,r16,j16,rfl,w16,l16,wr16,lr16,H16,x16⟩
    go_wp2_with fail
    obtain⟨hx,hb,hb2,hx2⟩:=put2 (z:=#[.int .i64 0,.slice none 0 0,.int .i64 0,.slice none 0 0,.int .i64 0,.slice none 0 0,.int .i64 0,.int .i64 0,.slice none 0 0,.slice none 0 0,.slice none 0 0,.slice none 0 0,.slice none 0 0,.slice none 0 0,.slice none 0 0,.slice none 0 0,.slice none 0 0]) (z2:=#[.int .i64 0,.int .i64 0,.int .i64 0,.int .i64 0,.int .i64 0,.int .i64 0,.int .i64 0,.int .i64 0,.int .i64 0,.int .i64 0,.string ⟨#[]⟩]) (nc:=n16) (rc:=r16) (t:=76) (t2:=46) x16 l16.symm lr16.symm
    obtain⟨Q16,hQ⟩:∃ Q,(((P16.alloc (.cells #[.int .i64 0,.slice none 0 0,.int .i64 0,.slice none 0 0,.int .i64 0,.slice none 0 0,.int .i64 0,.int .i64 0,.slice none 0 0,.slice none 0 0,.slice none 0 0,.slice none 0 0,.slice none 0 0,.slice none 0 0,.slice none 0 0,.slice none 0 0,.slice none 0 0] 76)).alloc (.cells #[.int .i64 0,.int .i64 0,.int .i64 0,.int .i64 0,.int .i64 0,.int .i64 0,.int .i64 0,.int .i64 0,.int .i64 0,.int .i64 0,.string ⟨#[]⟩] 46)).setCells P16.heap.size 0 n16).setCells (P16.heap.size+1) 0 r16=Q:=⟨_,rfl⟩
    simp only[hQ] at hx hb hb2 hx2 ⊢
    obtain⟨b16,hbb⟩:∃ b,P16.heap.size=b:=⟨_,rfl⟩
    simp only[hbb] at hb hb2 ⊢
    have Br16:=hid hb2
    have Bn16:=hid hb
    have An16:Hid (Ans Q16 (noteO O p.x) n16):=hid (H16.out.1.of_ext hx2)
    have Rn16:=hid H16.out.2.1
    have Jn16:Hid (noteE O p.x=j16):=hid H16.out.2.2
    have XE16:=hid hx
    have X16:=hid (X15.out.trans hx)
    have XO16:=hid (XO15.out.trans hx)
    obtain rfl:j15=j16:=by rw[←Jn15.out,←Jn16.out]
    obtain rfl:r15=r16:=by rw[←Rn15.out,←Rn16.out]
    clear hQ hbb hx hb hx2 hb2 rx l33 tb lo ro t11 x16 H16 Jn16
    refine HK.out _ _ ?_
    clear HK
    refine wp_seq_k fun K hK=> ?_
    have HK:=hid hK
    clear hK
    have hbp:=BPr.out.of_ext X16.out
    obtain⟨⟨g0,g1,g2,g3,g4,g5⟩,g10,g31,g32,l33,rx,rm⟩:=prb_facts (p:=p) QF Hxc.out Hmc.out
    have tb:=hbp.lt
    have hbo:=HbO.out.of_ext XO16.out
    have lo:rowLen Q16 b11=17:=hbo.len.trans loc
    have ro:rowAt Q16 b11 0 17=oc.toArray:=by have h:=hbo.row;rwa [loc] at h
    have t11:=hbo.lt
    clear hbp hbo g0 g4 g5 g31 g32 rx rm
    go_wp2_with fail
    refine(grantP_q O L oc Hoc.out _ p.ship p.b p.x.day p.til (HyO.out.of_ext X16.out)).mono ?_
    rintro e P17 ⟨n17,r17,j17,rfl,w17,l17,wr17,lr17,H17,x17⟩
    go_wp2_with fail
    obtain⟨hx,hb,hb2,hx2⟩:=put2 (z:=#[.int .i64 0,.slice none 0 0,.int .i64 0,.slice none 0 0,.int .i64 0,.slice none 0 0,.int .i64 0,.int .i64 0,.slice none 0 0,.slice none 0 0,.slice none 0 0,.slice none 0 0,.slice none 0 0,.slice none 0 0,.slice none 0 0,.slice none 0 0,.slice none 0 0]) (z2:=#[.int .i64 0,.int .i64 0,.int .i64 0,.int .i64 0,.int .i64 0,.int .i64 0,.int .i64 0,.int .i64 0,.int .i64 0,.int .i64 0,.string ⟨#[]⟩]) (nc:=n17) (rc:=r17) (t:=76) (t2:=46) x17 l17.symm lr17.symm
    obtain⟨Q17,hQ⟩:∃ Q,(((P17.alloc (.cells #[.int .i64 0,.slice none 0 0,.int .i64 0,.slice none 0 0,.int .i64 0,.slice none 0 0,.int .i64 0,.int .i64 0,.slice none 0 0,.slice none 0 0,.slice none 0 0,.slice none 0 0,.slice none 0 0,.slice none 0 0,.slice none 0 0,.slice none 0 0,.slice none 0 0] 76)).alloc (.cells #[.int .i64 0,.int .i64 0,.int .i64 0,.int .i64 0,.int .i64 0,.int .i64 0,.int .i64 0,.int .i64 0,.int .i64 0,.int .i64 0,.string ⟨#[]⟩] 46)).setCells P17.heap.size 0 n17).setCells (P17.heap.size+1) 0 r17=Q:=⟨_,rfl⟩
    simp only[hQ] at hx hb hb2 hx2 ⊢
    obtain⟨b17,hbb⟩:∃ b,P17.heap.size=b:=⟨_,rfl⟩
    simp only[hbb] at hb hb2 ⊢
    have Br17:=hid hb2
    have Bn17:=hid hb
    have An17:Hid (Ans Q17 (grantO O p.ship p.b p.x.day p.til) n17):=hid (H17.out.1.of_ext hx2)
    have Ln1:=hid H17.out.2.1
    have Rn17:=hid H17.out.2.2.1
    have Jn17:Hid (grantE O p.ship p.b p.x.day p.til=j17):=hid H17.out.2.2.2
    have XE17:=hid hx
    have X17:=hid (X16.out.trans hx)
    have XO17:=hid (XO16.out.trans hx)
    clear hQ hbb hx hb hx2 hb2 g1 g2 g3 g10 l33 tb lo ro t11 x17 H17
    refine HK.out _ _ ?_
    clear HK
    refine wp_seq_k fun K hK=> ?_
    have HK:=hid hK
    clear hK
    have hbp:=BPr.out.of_ext X17.out
    obtain⟨⟨g0,g1,g2,g3,g4,g5⟩,g10,g31,g32,l33,rx,rm⟩:=prb_facts (p:=p) QF Hxc.out Hmc.out
    have tb:=hbp.lt
    have hbo:=HbO.out.of_ext XO17.out
    have lo:rowLen Q17 b11=17:=hbo.len.trans loc
    have ro:rowAt Q17 b11 0 17=oc.toArray:=by have h:=hbo.row;rwa [loc] at h
    have t11:=hbo.lt
    clear hbp hbo g0 g4 g5 g31 g32 rx rm
    go_wp2_with fail
    refine(grantR_q O L oc Hoc.out _ p.ship p.b p.x.day p.til (HyO.out.of_ext X17.out)).mono ?_
    rintro e P18 ⟨n18,r18,j18,rfl,w18,l18,wr18,lr18,H18,x18⟩
    go_wp2_with fail
    obtain⟨hx,hb,hb2,hx2⟩:=put2 (z:=#[.int .i64 0,.slice none 0 0,.int .i64 0,.slice none 0 0,.int .i64 0,.slice none 0 0,.int .i64 0,.int .i64 0,.slice none 0 0,.slice none 0 0,.slice none 0 0,.slice none 0 0,.slice none 0 0,.slice none 0 0,.slice none 0 0,.slice none 0 0,.slice none 0 0]) (z2:=#[.int .i64 0,.int .i64 0,.int .i64 0,.int .i64 0,.int .i64 0,.int .i64 0,.int .i64 0,.int .i64 0,.int .i64 0,.int .i64 0,.string ⟨#[]⟩]) (nc:=n18) (rc:=r18) (t:=76) (t2:=46) x18 l18.symm lr18.symm
    obtain⟨Q18,hQ⟩:∃ Q,(((P18.alloc (.cells #[.int .i64 0,.slice none 0 0,.int .i64 0,.slice none 0 0,.int .i64 0,.slice none 0 0,.int .i64 0,.int .i64 0,.slice none 0 0,.slice none 0 0,.slice none 0 0,.slice none 0 0,.slice none 0 0,.slice none 0 0,.slice none 0 0,.slice none 0 0,.slice none 0 0] 76)).alloc (.cells #[.int .i64 0,.int .i64 0,.int .i64 0,.int .i64 0,.int .i64 0,.int .i64 0,.int .i64 0,.int .i64 0,.int .i64 0,.int .i64 0,.string ⟨#[]⟩] 46)).setCells P18.heap.size 0 n18).setCells (P18.heap.size+1) 0 r18=Q:=⟨_,rfl⟩
    simp only[hQ] at hx hb hb2 hx2 ⊢
    obtain⟨b18,hbb⟩:∃ b,P18.heap.size=b:=⟨_,rfl⟩
    simp only[hbb] at hb hb2 ⊢
    have Br18:=hid hb2
    have Bn18:=hid hb
    have An18:Hid (Ans Q18 (grantO O p.ship p.b p.x.day p.til) n18):=hid (H18.out.1.of_ext hx2)
    have Rn18:=hid H18.out.2.1
    have Jn18:Hid (grantE O p.ship p.b p.x.day p.til=j18):=hid H18.out.2.2
    have XE18:=hid hx
    have X18:=hid (X17.out.trans hx)
    have XO18:=hid (XO17.out.trans hx)
    obtain rfl:j17=j18:=by rw[←Jn17.out,←Jn18.out]
    obtain rfl:r17=r18:=by rw[←Rn17.out,←Rn18.out]
    clear hQ hbb hx hb hx2 hb2 g1 g2 g3 g10 l33 tb lo ro t11 x18 H18 Jn18
    refine HK.out _ _ ?_
    clear HK
    refine wp_seq_k fun K hK=> ?_
    have HK:=hid hK
    clear hK
    have hbp:=BPr.out.of_ext X18.out
    obtain⟨⟨g0,g1,g2,g3,g4,g5⟩,g10,g31,g32,l33,rx,rm⟩:=prb_facts (p:=p) QF Hxc.out Hmc.out
    have tb:=hbp.lt
    have hbo:=HbO.out.of_ext XO18.out
    have lo:rowLen Q18 b11=17:=hbo.len.trans loc
    have ro:rowAt Q18 b11 0 17=oc.toArray:=by have h:=hbo.row;rwa [loc] at h
    have t11:=hbo.lt
    clear hbp hbo g0 g2 g3 g4 g5 g10 g31 g32 rx rm
    go_wp2_with fail
    refine(offerP_q O L oc Hoc.out _ p.b (HyO.out.of_ext X18.out)).mono ?_
    rintro e P19 ⟨n19,A19,m19,c19,j19,rfl,w19,l19,H19,x19⟩
    go_wp2_with fail
    obtain⟨hx,hb,hx2⟩:=put1 (z:=#[.int .i64 0,.slice none 0 0,.int .i64 0,.slice none 0 0,.int .i64 0,.slice none 0 0,.int .i64 0,.int .i64 0,.slice none 0 0,.slice none 0 0,.slice none 0 0,.slice none 0 0,.slice none 0 0,.slice none 0 0,.slice none 0 0,.slice none 0 0,.slice none 0 0]) (nc:=n19) (t:=76) x19 l19.symm
    obtain⟨Q19,hQ⟩:∃ Q,(P19.alloc (.cells #[.int .i64 0,.slice none 0 0,.int .i64 0,.slice none 0 0,.int .i64 0,.slice none 0 0,.int .i64 0,.int .i64 0,.slice none 0 0,.slice none 0 0,.slice none 0 0,.slice none 0 0,.slice none 0 0,.slice none 0 0,.slice none 0 0,.slice none 0 0,.slice none 0 0] 76)).setCells P19.heap.size 0 n19=Q:=⟨_,rfl⟩
    simp only[hQ] at hx hb hx2 ⊢
    obtain⟨b19,hbb⟩:∃ b,P19.heap.size=b:=⟨_,rfl⟩
    simp only[hbb] at hb ⊢
    have Bn19:=hid hb
    have An19:Hid (Ans Q19 (offerO O p.b) n19):=hid (H19.out.1.of_ext hx2)
    have Ln2:=hid H19.out.2.1
    have Mn19:Hid (MsgsY Q19 A19 m19 c19 (offerL O p.b)):=hid (H19.out.2.2.1.of_ext hx2)
    have Jn19:Hid (offerE O p.b=j19):=hid H19.out.2.2.2
    have XE19:=hid hx
    have X19:=hid (X18.out.trans hx)
    have XO19:=hid (XO18.out.trans hx)
    clear hQ hbb hx hb hx2 g1 l33 tb lo ro t11 x19 H19
    refine HK.out _ _ ?_
    clear HK
    refine wp_seq_k fun K hK=> ?_
    have HK:=hid hK
    clear hK
    have hbp:=BPr.out.of_ext X19.out
    obtain⟨⟨g0,g1,g2,g3,g4,g5⟩,g10,g31,g32,l33,rx,rm⟩:=prb_facts (p:=p) QF Hxc.out Hmc.out
    have tb:=hbp.lt
    have hbo:=HbO.out.of_ext XO19.out
    have lo:rowLen Q19 b11=17:=hbo.len.trans loc
    have ro:rowAt Q19 b11 0 17=oc.toArray:=by have h:=hbo.row;rwa [loc] at h
    have t11:=hbo.lt
    clear hbp hbo g0 g2 g3 g4 g5 g10 g31 g32 rx rm
    go_wp2_with fail
    refine(offerR_q O L oc Hoc.out _ p.b (HyO.out.of_ext X19.out)).mono ?_
    rintro e P20 ⟨n20,A20,m20,c20,j20,rfl,w20,l20,H20,x20⟩
    go_wp2_with fail
    obtain⟨hx,hb,hx2⟩:=put1 (z:=#[.int .i64 0,.slice none 0 0,.int .i64 0,.slice none 0 0,.int .i64 0,.slice none 0 0,.int .i64 0,.int .i64 0,.slice none 0 0,.slice none 0 0,.slice none 0 0,.slice none 0 0,.slice none 0 0,.slice none 0 0,.slice none 0 0,.slice none 0 0,.slice none 0 0]) (nc:=n20) (t:=76) x20 l20.symm
    obtain⟨Q20,hQ⟩:∃ Q,(P20.alloc (.cells #[.int .i64 0,.slice none 0 0,.int .i64 0,.slice none 0 0,.int .i64 0,.slice none 0 0,.int .i64 0,.int .i64 0,.slice none 0 0,.slice none 0 0,.slice none 0 0,.slice none 0 0,.slice none 0 0,.slice none 0 0,.slice none 0 0,.slice none 0 0,.slice none 0 0] 76)).setCells P20.heap.size 0 n20=Q:=⟨_,rfl⟩
    simp only[hQ] at hx hb hx2 ⊢
    obtain⟨b20,hbb⟩:∃ b,P20.heap.size=b:=⟨_,rfl⟩
    simp only[hbb] at hb ⊢
    have Bn20:=hid hb
    have An20:Hid (Ans Q20 (offerO O p.b) n20):=hid (H20.out.1.of_ext hx2)
    have Mn20:Hid (MsgsY Q20 A20 m20 c20 (offerL O p.b)):=hid (H20.out.2.1.of_ext hx2)
    have Jn20:Hid (offerE O p.b=j20):=hid H20.out.2.2
    have XE20:=hid hx
    have X20:=hid (X19.out.trans hx)
    have XO20:=hid (XO19.out.trans hx)
    obtain rfl:j19=j20:=by rw[←Jn19.out,←Jn20.out]
    clear hQ hbb hx hb hx2 g1 l33 tb lo ro t11 x20 H20 Jn20
    refine HK.out _ _ ?_
    clear HK
    refine wp_seq_k fun K hK=> ?_
    have HK:=hid hK
    clear hK
    have hbp:=BPr.out.of_ext X20.out
    obtain⟨⟨g0,g1,g2,g3,g4,g5⟩,g10,g31,g32,l33,rx,rm⟩:=prb_facts (p:=p) QF Hxc.out Hmc.out
    have tb:=hbp.lt
    have hbo:=HbO.out.of_ext XO20.out
    have lo:rowLen Q20 b11=17:=hbo.len.trans loc
    have ro:rowAt Q20 b11 0 17=oc.toArray:=by have h:=hbo.row;rwa [loc] at h
    have t11:=hbo.lt
    clear hbp hbo g0 g1 g2 g3 g4 g5 g10 g31 g32 rx
    go_wp2_with fail
    refine(recvP_q O L oc Hoc.out _ p.m mc Hmc.out (HyO.out.of_ext X20.out) Hp.out.m).mono ?_
    rintro e P21 ⟨n21,A21,m21,c21,j21,rfl,w21,l21,H21,x21⟩
    go_wp2_with fail
    obtain⟨hx,hb,hx2⟩:=put1 (z:=#[.int .i64 0,.slice none 0 0,.int .i64 0,.slice none 0 0,.int .i64 0,.slice none 0 0,.int .i64 0,.int .i64 0,.slice none 0 0,.slice none 0 0,.slice none 0 0,.slice none 0 0,.slice none 0 0,.slice none 0 0,.slice none 0 0,.slice none 0 0,.slice none 0 0]) (nc:=n21) (t:=76) x21 l21.symm
    obtain⟨Q21,hQ⟩:∃ Q,(P21.alloc (.cells #[.int .i64 0,.slice none 0 0,.int .i64 0,.slice none 0 0,.int .i64 0,.slice none 0 0,.int .i64 0,.int .i64 0,.slice none 0 0,.slice none 0 0,.slice none 0 0,.slice none 0 0,.slice none 0 0,.slice none 0 0,.slice none 0 0,.slice none 0 0,.slice none 0 0] 76)).setCells P21.heap.size 0 n21=Q:=⟨_,rfl⟩
    simp only[hQ] at hx hb hx2 ⊢
    obtain⟨b21,hbb⟩:∃ b,P21.heap.size=b:=⟨_,rfl⟩
    simp only[hbb] at hb ⊢
    have Bn21:=hid hb
    have An21:Hid (Ans Q21 (recvO O p.m) n21):=hid (H21.out.1.of_ext hx2)
    have Ln3:=hid H21.out.2.1
    have Mn21:Hid (MsgsY Q21 A21 m21 c21 (recvL O p.m)):=hid (H21.out.2.2.1.of_ext hx2)
    have Jn21:Hid (recvE O p.m=j21):=hid H21.out.2.2.2
    have XE21:=hid hx
    have X21:=hid (X20.out.trans hx)
    have XO21:=hid (XO20.out.trans hx)
    clear hQ hbb hx hb hx2 rm l33 tb lo ro t11 x21 H21
    refine HK.out _ _ ?_
    clear HK
    refine wp_seq_k fun K hK=> ?_
    have HK:=hid hK
    clear hK
    have hbp:=BPr.out.of_ext X21.out
    obtain⟨⟨g0,g1,g2,g3,g4,g5⟩,g10,g31,g32,l33,rx,rm⟩:=prb_facts (p:=p) QF Hxc.out Hmc.out
    have tb:=hbp.lt
    have hbo:=HbO.out.of_ext XO21.out
    have lo:rowLen Q21 b11=17:=hbo.len.trans loc
    have ro:rowAt Q21 b11 0 17=oc.toArray:=by have h:=hbo.row;rwa [loc] at h
    have t11:=hbo.lt
    clear hbp hbo g0 g1 g2 g3 g4 g5 g10 g31 g32 rx
    go_wp2_with fail
    refine(recvR_q O L oc Hoc.out _ p.m mc Hmc.out (HyO.out.of_ext X21.out) Hp.out.m).mono ?_
    rintro e P22 ⟨n22,A22,m22,c22,j22,rfl,w22,l22,H22,x22⟩
    go_wp2_with fail
    obtain⟨hx,hb,hx2⟩:=put1 (z:=#[.int .i64 0,.slice none 0 0,.int .i64 0,.slice none 0 0,.int .i64 0,.slice none 0 0,.int .i64 0,.int .i64 0,.slice none 0 0,.slice none 0 0,.slice none 0 0,.slice none 0 0,.slice none 0 0,.slice none 0 0,.slice none 0 0,.slice none 0 0,.slice none 0 0]) (nc:=n22) (t:=76) x22 l22.symm
    obtain⟨Q22,hQ⟩:∃ Q,(P22.alloc (.cells #[.int .i64 0,.slice none 0 0,.int .i64 0,.slice none 0 0,.int .i64 0,.slice none 0 0,.int .i64 0,.int .i64 0,.slice none 0 0,.slice none 0 0,.slice none 0 0,.slice none 0 0,.slice none 0 0,.slice none 0 0,.slice none 0 0,.slice none 0 0,.slice none 0 0] 76)).setCells P22.heap.size 0 n22=Q:=⟨_,rfl⟩
    simp only[hQ] at hx hb hx2 ⊢
    obtain⟨b22,hbb⟩:∃ b,P22.heap.size=b:=⟨_,rfl⟩
    simp only[hbb] at hb ⊢
    have Bn22:=hid hb
    have An22:Hid (Ans Q22 (recvO O p.m) n22):=hid (H22.out.1.of_ext hx2)
    have Mn22:Hid (MsgsY Q22 A22 m22 c22 (recvL O p.m)):=hid (H22.out.2.1.of_ext hx2)
    have Jn22:Hid (recvE O p.m=j22):=hid H22.out.2.2
    have XE22:=hid hx
    have X22:=hid (X21.out.trans hx)
    have XO22:=hid (XO21.out.trans hx)
    obtain rfl:j21=j22:=by rw[←Jn21.out,←Jn22.out]
    clear hQ hbb hx hb hx2 rm l33 tb lo ro t11 x22 H22 Jn22
    refine HK.out _ _ ?_
    clear HK
    refine wp_seq_k fun K hK=> ?_
    have HK:=hid hK
    clear hK
    have hbp:=BPr.out.of_ext X22.out
    obtain⟨⟨g0,g1,g2,g3,g4,g5⟩,g10,g31,g32,l33,rx,rm⟩:=prb_facts (p:=p) QF Hxc.out Hmc.out
    have tb:=hbp.lt
    have hbo:=HbO.out.of_ext XO22.out
    have lo:rowLen Q22 b11=17:=hbo.len.trans loc
    have ro:rowAt Q22 b11 0 17=oc.toArray:=by have h:=hbo.row;rwa [loc] at h
    have t11:=hbo.lt
    clear hbp hbo g0 g1 g2 g3 g10 g31 g32 rx rm
    go_wp2_with fail
    refine(restP_q O L oc Hoc.out _ p.k0 p.k1 (HyO.out.of_ext X22.out) Hp.out.k0.1 Hp.out.k0.2 Hp.out.k1.1 Hp.out.k1.2).mono ?_
    rintro e P23 ⟨n23,j23,rfl,w23,l23,H23,x23⟩
    go_wp2_with fail
    obtain⟨hx,hb,hx2⟩:=put1 (z:=#[.int .i64 0,.slice none 0 0,.int .i64 0,.slice none 0 0,.int .i64 0,.slice none 0 0,.int .i64 0,.int .i64 0,.slice none 0 0,.slice none 0 0,.slice none 0 0,.slice none 0 0,.slice none 0 0,.slice none 0 0,.slice none 0 0,.slice none 0 0,.slice none 0 0]) (nc:=n23) (t:=76) x23 l23.symm
    obtain⟨Q23,hQ⟩:∃ Q,(P23.alloc (.cells #[.int .i64 0,.slice none 0 0,.int .i64 0,.slice none 0 0,.int .i64 0,.slice none 0 0,.int .i64 0,.int .i64 0,.slice none 0 0,.slice none 0 0,.slice none 0 0,.slice none 0 0,.slice none 0 0,.slice none 0 0,.slice none 0 0,.slice none 0 0,.slice none 0 0] 76)).setCells P23.heap.size 0 n23=Q:=⟨_,rfl⟩
    simp only[hQ] at hx hb hx2 ⊢
    obtain⟨b23,hbb⟩:∃ b,P23.heap.size=b:=⟨_,rfl⟩
    simp only[hbb] at hb ⊢
    have Bn23:=hid hb
    have An23:Hid (Ans Q23 (restO O p.k0 p.k1) n23):=hid (H23.out.1.of_ext hx2)
    have Ln4:=hid H23.out.2.1
    have Jn23:Hid (restE O p.k0 p.k1=j23):=hid H23.out.2.2
    have XE23:=hid hx
    have X23:=hid (X22.out.trans hx)
    have XO23:=hid (XO22.out.trans hx)
    clear hQ hbb hx hb hx2 g4 g5 l33 tb lo ro t11 x23 H23
    refine HK.out _ _ ?_
    clear HK
    refine wp_seq_k fun K hK=> ?_
    have HK:=hid hK
    clear hK
    have hbp:=BPr.out.of_ext X23.out
    obtain⟨⟨g0,g1,g2,g3,g4,g5⟩,g10,g31,g32,l33,rx,rm⟩:=prb_facts (p:=p) QF Hxc.out Hmc.out
    have tb:=hbp.lt
    have hbo:=HbO.out.of_ext XO23.out
    have lo:rowLen Q23 b11=17:=hbo.len.trans loc
    have ro:rowAt Q23 b11 0 17=oc.toArray:=by have h:=hbo.row;rwa [loc] at h
    have t11:=hbo.lt
    clear hbp hbo g0 g1 g2 g3 g10 g31 g32 rx rm
    go_wp2_with fail
    refine(restR_q O L oc Hoc.out _ p.k0 p.k1 (HyO.out.of_ext X23.out)).mono ?_
    rintro e P24 ⟨n24,j24,rfl,w24,l24,H24,x24⟩
    go_wp2_with fail
    obtain⟨hx,hb,hx2⟩:=put1 (z:=#[.int .i64 0,.slice none 0 0,.int .i64 0,.slice none 0 0,.int .i64 0,.slice none 0 0,.int .i64 0,.int .i64 0,.slice none 0 0,.slice none 0 0,.slice none 0 0,.slice none 0 0,.slice none 0 0,.slice none 0 0,.slice none 0 0,.slice none 0 0,.slice none 0 0]) (nc:=n24) (t:=76) x24 l24.symm
    obtain⟨Q24,hQ⟩:∃ Q,(P24.alloc (.cells #[.int .i64 0,.slice none 0 0,.int .i64 0,.slice none 0 0,.int .i64 0,.slice none 0 0,.int .i64 0,.int .i64 0,.slice none 0 0,.slice none 0 0,.slice none 0 0,.slice none 0 0,.slice none 0 0,.slice none 0 0,.slice none 0 0,.slice none 0 0,.slice none 0 0] 76)).setCells P24.heap.size 0 n24=Q:=⟨_,rfl⟩
    simp only[hQ] at hx hb hx2 ⊢
    obtain⟨b24,hbb⟩:∃ b,P24.heap.size=b:=⟨_,rfl⟩
    simp only[hbb] at hb ⊢
    have Bn24:=hid hb
    have An24:Hid (Ans Q24 (restO O p.k0 p.k1) n24):=hid (H24.out.1.of_ext hx2)
    have Jn24:Hid (restE O p.k0 p.k1=j24):=hid H24.out.2
    have XE24:=hid hx
    have X24:=hid (X23.out.trans hx)
    have XO24:=hid (XO23.out.trans hx)
    obtain rfl:j23=j24:=by rw[←Jn23.out,←Jn24.out]
    clear hQ hbb hx hb hx2 g4 g5 l33 tb lo ro t11 x24 H24 Jn24
    have E24:Hid (Ext Q24 Q24):=hid (Ext.refl _)
    have E23:Hid (Ext Q23 Q24):=hid (XE24.out.trans E24.out)
    have E22:Hid (Ext Q22 Q24):=hid (XE23.out.trans E23.out)
    have E21:Hid (Ext Q21 Q24):=hid (XE22.out.trans E22.out)
    have E20:Hid (Ext Q20 Q24):=hid (XE21.out.trans E21.out)
    have E19:Hid (Ext Q19 Q24):=hid (XE20.out.trans E20.out)
    have E18:Hid (Ext Q18 Q24):=hid (XE19.out.trans E19.out)
    have E17:Hid (Ext Q17 Q24):=hid (XE18.out.trans E18.out)
    have E16:Hid (Ext Q16 Q24):=hid (XE17.out.trans E17.out)
    have E15:Hid (Ext Q15 Q24):=hid (XE16.out.trans E16.out)
    refine HK.out _ _ ?_
    clear HK
    refine wp_seq_k fun K hK=> ?_
    have HK:=hid hK
    clear hK
    have hr15:=Br15.out.of_ext E15.out
    have kr15:rowLen Q24 (b15+1)=11:=hr15.len.trans lr15
    have ar15:rowAt Q24 (b15+1) 0 11=r15.toArray:=by have h:=hr15.row;rwa [lr15] at h
    have hr16:=Br16.out.of_ext E16.out
    have kr16:rowLen Q24 (b16+1)=11:=hr16.len.trans lr15
    have ar16:rowAt Q24 (b16+1) 0 11=r15.toArray:=by have h:=hr16.row;rwa [lr15] at h
    have hc15:=run_eql_rc _ _ Rn15.out
    have hr17:=Br17.out.of_ext E17.out
    have kr17:rowLen Q24 (b17+1)=11:=hr17.len.trans lr17
    have ar17:rowAt Q24 (b17+1) 0 11=r17.toArray:=by have h:=hr17.row;rwa [lr17] at h
    have hr18:=Br18.out.of_ext E18.out
    have kr18:rowLen Q24 (b18+1)=11:=hr18.len.trans lr17
    have ar18:rowAt Q24 (b18+1) 0 11=r17.toArray:=by have h:=hr18.row;rwa [lr17] at h
    have hc17:=run_eql_rc _ _ Rn17.out
    clear hr15 hr16 hr17 hr18
    go_wp2_with fail
    refine HK.out _ _ ?_
    clear HK kr15 ar15 kr16 ar16 kr17 ar17 kr18 ar18 hc15 hc17
    have hn15:=(Bn15.out.of_ext E15.out)
    have kn15:rowLen Q24 b15=17:=hn15.len.trans l15
    have an15:rowAt Q24 b15 0 17=n15.toArray:=by have h:=hn15.row;rwa [l15] at h
    have hn16:=(Bn16.out.of_ext E16.out)
    have kn16:rowLen Q24 b16=17:=hn16.len.trans l16
    have an16:rowAt Q24 b16 0 17=n16.toArray:=by have h:=hn16.row;rwa [l16] at h
    clear hn15 hn16
    go_wp2_with fail
    refine(same_q (noteO O p.x) n15 n16 Q24 ((An15.out.of_ext E15.out)) ((An16.out.of_ext E16.out)) Ln0.out).mono ?_
    rintro e W1 ⟨rfl,y⟩
    have Y1:Hid (Ext Q24 W1):=hid y
    clear y kn15 an15 kn16 an16
    have hn17:=(Bn17.out.of_ext E17.out).of_ext Y1.out
    have kn17:rowLen W1 b17=17:=hn17.len.trans l17
    have an17:rowAt W1 b17 0 17=n17.toArray:=by have h:=hn17.row;rwa [l17] at h
    have hn18:=(Bn18.out.of_ext E18.out).of_ext Y1.out
    have kn18:rowLen W1 b18=17:=hn18.len.trans l18
    have an18:rowAt W1 b18 0 17=n18.toArray:=by have h:=hn18.row;rwa [l18] at h
    clear hn17 hn18
    go_wp2_with fail
    refine(same_q (grantO O p.ship p.b p.x.day p.til) n17 n18 W1 ((An17.out.of_ext E17.out).of_ext Y1.out) ((An18.out.of_ext E18.out).of_ext Y1.out) Ln1.out).mono ?_
    rintro e W2 ⟨rfl,y⟩
    have Y2:Hid (Ext Q24 W2):=hid (Y1.out.trans y)
    clear y kn17 an17 kn18 an18
    have hn19:=(Bn19.out.of_ext E19.out).of_ext Y2.out
    have kn19:rowLen W2 b19=17:=hn19.len.trans l19
    have an19:rowAt W2 b19 0 17=n19.toArray:=by have h:=hn19.row;rwa [l19] at h
    have hn20:=(Bn20.out.of_ext E20.out).of_ext Y2.out
    have kn20:rowLen W2 b20=17:=hn20.len.trans l20
    have an20:rowAt W2 b20 0 17=n20.toArray:=by have h:=hn20.row;rwa [l20] at h
    clear hn19 hn20
    go_wp2_with fail
    refine(same_q (offerO O p.b) n19 n20 W2 ((An19.out.of_ext E19.out).of_ext Y2.out) ((An20.out.of_ext E20.out).of_ext Y2.out) Ln2.out).mono ?_
    rintro e W3 ⟨rfl,y⟩
    have Y3:Hid (Ext Q24 W3):=hid (Y2.out.trans y)
    clear y kn19 an19 kn20 an20
    have hn21:=(Bn21.out.of_ext E21.out).of_ext Y3.out
    have kn21:rowLen W3 b21=17:=hn21.len.trans l21
    have an21:rowAt W3 b21 0 17=n21.toArray:=by have h:=hn21.row;rwa [l21] at h
    have hn22:=(Bn22.out.of_ext E22.out).of_ext Y3.out
    have kn22:rowLen W3 b22=17:=hn22.len.trans l22
    have an22:rowAt W3 b22 0 17=n22.toArray:=by have h:=hn22.row;rwa [l22] at h
    clear hn21 hn22
    go_wp2_with fail
    refine(same_q (recvO O p.m) n21 n22 W3 ((An21.out.of_ext E21.out).of_ext Y3.out) ((An22.out.of_ext E22.out).of_ext Y3.out) Ln3.out).mono ?_
    rintro e W4 ⟨rfl,y⟩
    have Y4:Hid (Ext Q24 W4):=hid (Y3.out.trans y)
    clear y kn21 an21 kn22 an22
    have hn23:=(Bn23.out.of_ext E23.out).of_ext Y4.out
    have kn23:rowLen W4 b23=17:=hn23.len.trans l23
    have an23:rowAt W4 b23 0 17=n23.toArray:=by have h:=hn23.row;rwa [l23] at h
    have hn24:=(Bn24.out.of_ext E24.out).of_ext Y4.out
    have kn24:rowLen W4 b24=17:=hn24.len.trans l24
    have an24:rowAt W4 b24 0 17=n24.toArray:=by have h:=hn24.row;rwa [l24] at h
    clear hn23 hn24
    go_wp2_with fail
    refine(same_q (restO O p.k0 p.k1) n23 n24 W4 ((An23.out.of_ext E23.out).of_ext Y4.out) ((An24.out.of_ext E24.out).of_ext Y4.out) Ln4.out).mono ?_
    rintro e W5 ⟨rfl,y⟩
    have Y5:Hid (Ext Q24 W5):=hid (Y4.out.trans y)
    clear y kn23 an23 kn24 an24
    go_wp2_with fail
    refine(sameMsgs_any A19 A20 m19 c19 m20 c20 (offerL O p.b) W5 ((Mn19.out.of_ext E19.out).of_ext Y5.out) ((Mn20.out.of_ext E20.out).of_ext Y5.out)).mono ?_
    rintro e W6 ⟨rfl,y⟩
    have Y6:Hid (Ext Q24 W6):=hid (Y5.out.trans y)
    clear y
    go_wp2_with fail
    refine(sameMsgs_any A21 A22 m21 c21 m22 c22 (recvL O p.m) W6 ((Mn21.out.of_ext E21.out).of_ext Y6.out) ((Mn22.out.of_ext E22.out).of_ext Y6.out)).mono ?_
    rintro e W7 ⟨rfl,y⟩
    have Y7:Hid (Ext Q24 W7):=hid (Y6.out.trans y)
    clear y
    go_wp2_with (go_at_call 18;refine(sane_any _).mono ?_;rintro e w1 ⟨rfl,E1,d1,rfl⟩)
    go_ret
    have hfin:Ext w W7:=((XP.out.trans X24.out).trans Y7.out)
    exact⟨ret_val rfl,hfin.ext _ _⟩
   clear HK
   have hbp:=BPr.out.of_ext hxP
   obtain⟨⟨_,g1,_⟩,_,_,g32,_⟩:=prb_facts (p:=p) QF Hxc.out Hmc.out
   have tb:=hbp.lt
   have fb:=far2 tb
   have HbO:=hid hbO
   have HyO:=hid hyO
   have HxP:=hid hxP
   clear hbp hyO hxP
   by_cases hnk:0<nk
   ·have hnki:(0:Int)<nk:=by omega
    obtain⟨k9,hk9⟩:∃ k9:Nat,p.b % 9=k9:=⟨(p.b % 9).toNat,by omega⟩
    have hk99:k9<9:=by omega
    have hk9i:(k9:Int)<9:=by omega
    have ck9:=hbO.cell (i:=8+k9) (get_kn _ _ _ _ _ _ _ _ L.k k9 hk99)
    have t11:=hbO.lt
    have f11:=hbO.frozen
    have fb11:=far2 t11
    clear hbO
    go_wp2_with fail
    refine wp_region_ordZ 7 (.f 0 (.f 1 (.f 3 (.f 4 (.f 5 (.a 2 (.f 6 (.z 7)))))))) (Kept (P) (P.heap.size) (P.heap.size)) tG tG (Kept.refl _ _ _).drew ?_
    refine oT ?_
    refine wpOrd_call rfl rfl rfl Tryz.call39 (fun R hR=> ?_)
    go_simp
    refine(Mod_any _ _ tN tN _).mono ?_
    rintro e w1 ⟨rfl,rfl⟩
    refine hR _ _ ⟨_,rfl,?_,?_⟩
    ·exact qm
    clear hR R
    simp only[Act.put,zp]
    refine oT ?_
    refine wpOrd_last rfl rfl (fun K hK=> ?_)
    go_simp
    refine hK _ _ ?_
    clear hK K
    try simp only[Act.put,zp]
    go_wp2_with fail
    refine hrest3 _ _ _ _ _ _ _ _ _ _ _ _ _ _ _ _ _ _ _ _ _ _ _ _ _ _ _ _ _ _ _ _ _ _ _ _ _ _ _ _ _ _ _ _ _ _ _ _ _ _ _ _ _ _ _ _ _ _ _ _ _ _ _ _ _ _ _ _ _ _ _ _ _ _ _ _ _ _ _ _ _ _ _ _ _ ⟨O.me,O.d,O.m,upd O.kn k9 kl⟩ ⟨L.A0,L.n0,L.c0,L.A1,L.n1,L.c1,L.Am,L.nm,L.cm,upd L.k k9 ⟨Ak,nk,ck⟩⟩ _ ?_ (HyO.out.known k9 (Hkl.out.of_ext XP.out)) (Ext.drew (Ext.box HxP.out _ _ (Nat.le_of_eq HR11.out)))
    have h2:=HbO.out.set (8+k9) (.slice Ak nk ck)
    have h3:=set_kn (.int .i64 O.me) (.slice L.A0 L.n0 L.c0) (.int .i64 O.d.f0.firm) (.slice L.A1 L.n1 L.c1) (.int .i64 O.d.f1.firm) (.slice L.Am L.nm L.cm) (.int .i64 O.m.file) (.int .i64 O.m.gen) L.k k9 ⟨Ak,nk,ck⟩ hk99
    unfold offQ at h2
    rw[h3] at h2
    exact BoxC.drew h2
   ·have hnki:¬ ((0:Int)<nk):=by omega
    clear hbO
    go_wp2_with fail
    exact hrest3 _ _ _ _ _ _ _ _ _ _ _ _ _ _ _ _ _ _ _ _ _ _ _ _ _ _ _ _ _ _ _ _ _ _ _ _ _ _ _ _ _ _ _ _ _ _ _ _ _ _ _ _ _ _ _ _ _ _ _ _ _ _ _ _ _ _ _ _ _ _ _ _ _ _ _ _ _ _ _ _ _ _ _ _ _ O L P HbO.out HyO.out HxP.out
  clear HK
  obtain⟨_,_,g31,_⟩:=prb_facts (p:=p) (by rw[Hpc.out];exact BP10.out) Hxc.out Hmc.out
  have tb:=BP10.out.lt
  cases hcut:p.cut with
  | false=>
   rw[hcut] at g31
   go_wp2_with fail
   exact hrest2 _ _ _ _ _ _ _ _ _ _ _ _ _ _ _ _ _ _ _ _ _ _ _ _ _ _ _ _ _ _ _ _ _ _ _ _ _ _ _ _ _ _ _ _ _ _ _ _ _ _ _ _ _ _ _ _ _ _ _ _ _ _ _ _ _ _ _ _ _ _ _ _ _ _ (W.off q) (Ls q) Q10 (by rw[Hoc.out];exact B11.out) HY.out X10.out
  | true=>
   rw[hcut] at g31
   have hbx:BoxC Q10 b11 (offC (W.off q) (Ls q)) 76:=by have h:=B11.out;rw[←Hoc.out] at h;exact h
   have c11:=hbx.c17
   have t11:=hbx.lt
   have f11:=hbx.frozen
   have fb11:=far2 t11
   have BX:=hid hbx
   have hmo:=(memOk_facts (show memOk (W.off q).d (W.off q).m=true from by have h:=HI.out.ok hq4;simp only[offOk,Bool.and_eq_true] at h;exact h.1.2)).2.1
   clear hbx
   rcases hmo with hfi|hfi
   ·rw[hfi] at c11
    have Hfi:=hid hfi
    have hbit:bits BinOp.and IntKind.i64 0 1=0:=by kernel_rfl
    clear hfi
    go_wp2_with fail
    refine wp_region_ordZ 18 (.f 0 (.f 1 (.f 2 (.f 3 (.f 4 (.f 5 (.f 6 (.f 7 (.f 8 (.f 9 (.f 10 (.f 11 (.f 12 (.f 13 (.f 14 (.f 15 (.f 16 (.f 17 (.z 18))))))))))))))))))) (Kept (Q10) (Q10.heap.size) (Q10.heap.size)) tG tG (Kept.refl _ _ _).drew ?_
    refine oT ?_
    refine wpOrd_last rfl rfl (fun K hK=> ?_)
    go_simp
    refine hK _ _ ?_
    clear hK K
    try simp only[Act.put,zp]
    go_wp2_with fail
    exact hrest2 _ _ _ _ _ _ _ _ _ _ _ _ _ _ _ _ _ _ _ _ _ _ _ _ _ _ _ _ _ _ _ _ _ _ _ _ _ _ _ _ _ _ _ _ _ _ _ _ _ _ _ _ _ _ _ _ _ _ _ _ _ _ _ _ _ _ _ _ _ _ _ _ _ _ _ _ _ (show BoxC _ b11 (offQ ⟨(W.off q).me,⟨⟨[],(W.off q).d.f0.firm⟩,(W.off q).d.f1⟩,(W.off q).m,(W.off q).kn⟩ ⟨(Ls q).A0,0,(Ls q).c0,(Ls q).A1,(Ls q).n1,(Ls q).c1,(Ls q).Am,(Ls q).nm,(Ls q).cm,(Ls q).k⟩) 76 from BoxC.drew (BX.out.set 1 _)) HY.out.cut0 (Ext.drew (Ext.box X10.out _ _ (Nat.le_of_eq HR11.out)))
   ·rw[hfi] at c11
    have Hfi:=hid hfi
    have hbit:bits BinOp.and IntKind.i64 1 1=1:=by kernel_rfl
    clear hfi
    go_wp2_with fail
    refine wp_region_ordZ 18 (.f 0 (.f 1 (.f 2 (.f 3 (.f 4 (.f 5 (.f 6 (.f 7 (.f 8 (.f 9 (.f 10 (.f 11 (.f 12 (.f 13 (.f 14 (.f 15 (.f 16 (.f 17 (.z 18))))))))))))))))))) (Kept (Q10) (Q10.heap.size) (Q10.heap.size)) tG tG (Kept.refl _ _ _).drew ?_
    refine oT ?_
    refine wpOrd_last rfl rfl (fun K hK=> ?_)
    go_simp
    refine hK _ _ ?_
    clear hK K
    try simp only[Act.put,zp]
    go_wp2_with fail
    exact hrest2 _ _ _ _ _ _ _ _ _ _ _ _ _ _ _ _ _ _ _ _ _ _ _ _ _ _ _ _ _ _ _ _ _ _ _ _ _ _ _ _ _ _ _ _ _ _ _ _ _ _ _ _ _ _ _ _ _ _ _ _ _ _ _ _ _ _ _ _ _ _ _ _ _ _ _ _ _ (show BoxC _ b11 (offQ ⟨(W.off q).me,⟨(W.off q).d.f0,⟨[],(W.off q).d.f1.firm⟩⟩,(W.off q).m,(W.off q).kn⟩ ⟨(Ls q).A0,(Ls q).n0,(Ls q).c0,(Ls q).A1,0,(Ls q).c1,(Ls q).Am,(Ls q).nm,(Ls q).cm,(Ls q).k⟩) 76 from BoxC.drew (BX.out.set 3 _)) HY.out.cut1 (Ext.drew (Ext.box X10.out _ _ (Nat.le_of_eq HR11.out)))
 clear HK
 go_loopw [10] (fun i wr=> ∃(k:Nat) (W:WD) (G:Gh) (Ls:Nat→OffL) (A:Option Addr) (na c:Nat),k≤n∧k≤24∧i= .int .i64 k∧Hid (WBox Wb b wr k W G Ls A na c)) (fun i _=>24-(intOf i).toNat)
 case atStart=>exact⟨0,_,_,_,_,_,_,Nat.zero_le _,Nat.zero_le _,rfl,hid HW⟩
 case round=>
  obtain⟨k,W,G,Ls,A,na,c,hkn,hk36,rfl,hW⟩:=hrel
  clear HW
  by_cases hlt:k<n∧k<24
  ·obtain⟨hk1,hk2⟩:=hlt
   clear hrest
   have hkl:k<l.length:=by omega
   obtain⟨w68,w69,lq0,rq0⟩:=hW.out.q.world
   have t0:=hW.out.q.lt
   have f0:=hW.out.q.frozen
   have fb:=fars t0
   obtain⟨wc,hwc⟩:∃ wc,worldC W Ls A na c=wc:=⟨_,rfl⟩
   rw[hwc] at rq0
   have Hwc:=hid hwc
   have wwc:Whole wc.toArray 70:=by rw[←hwc];exact worldC_whole _ _ _ _ _
   obtain⟨g,o,rfl,hg⟩:=Hl.out.addr tB
   have hcl:=(Hl.out.of_ext (XWb.out.trans hW.out.x)).at hkl
   obtain⟨m,hm⟩:∃ m,l[k]=m:=⟨_,rfl⟩
   rw[hm] at hcl
   have Hm:Hid (MovOk m):=hid (Hok.out m (by rw[←hm];exact List.getElem_mem hkl))
   have hna:na≤432:=by have:=hW.out.l;omega
   have hg2:g<wr.heap.size:=Nat.lt_of_lt_of_le hg (XWb.out.trans hW.out.x).below.size
   have fg:=fars hg2
   have hki:(k:Int)<n:=by omega
   have hk36i:(k:Int)<24:=by omega
   clear hwc hm w68 w69
   go_wp2_with fail
   refine wp_region_ordZ 6 (.f 0 (.f 1 (.f 2 (.f 3 (.f 4 (.a 5 (.z 6))))))) (Kept (wr) (wr.heap.size) (wr.heap.size)) tG tG (Kept.refl _ _ _).drew ?_
   refine oT ?_
   refine wpOrd_call rfl rfl rfl Tryz.call38 (fun R hR=> ?_)
   go_simp
   refine(moved_q wc Hwc.out hW.out.i _ (hW.out.y.of_ext exI) Hm.out tB).mono ?_
   rintro e w1 ⟨Ls1,A1,n1,c1,nc,rfl,wn,ln,hN,E1,d1,rfl⟩
   refine hR _ _ ⟨_,rfl,?_,?_⟩
   ·exact qm
   clear hR R
   simp only[Act.put,zp]
   refine wpOrd_last rfl rfl (fun K hK=> ?_)
   go_simp
   refine hK _ _ ?_
   clear hK K
   try simp only[Act.put,zp]
   obtain⟨G1,hW1,hG1,he1,he2⟩:=hW.out.next hwb hN.out.2.drew
   rw[hN.out.1] at hW1
   go_wp2_with fail
   exact⟨⟨k+1,_,G1,Ls1,A1,n1,c1,by omega,by omega,by go_num,hid hW1⟩,by simp[intOf];omega⟩
  ·have hcc:((k:Int)<n∧¬ ((k:Int)<24))∨¬ ((k:Int)<n):=by omega
   clear hlt
   rcases hcc with⟨d1,d2⟩|d1
   all_goals
    go_wp2_with fail
    exact hrest _ _ _ _ _ _ _ _ _ _ _ _ _ _ _ _ _ _ _ _ _ _ _ _ _ _ _ _ _ _ _ _ _ _ _ _ _ _ _ _ _ _ _ _ _ _ _ k W G Ls A na c wr hW.out hk36
end Go.Proofs.YtekjdeibnfaehaaGreat
