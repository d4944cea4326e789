/- Texts of a proof. -/
import Derived.Test.YtekjdeibnfaehaaGreatKDao
set_option linter.unusedSimpArgs false
set_option linter.unusedVariables false
namespace Go.Proofs.YtekjdeibnfaehaaGreat
open Go Go.RowKit
theorem QG{p:Prop}(h:p:=by repeat(first|(with_reducible refine SameE.same ?_;(repeat(first|with_reducible exact SameE.refl _ _|(with_reducible refine SameE.base ?_ ?_ _ _;(focus((try simp only[World.size_alloc,size_ext,World.size_drew]);(try omega)));(focus((try simp only[World.size_alloc,size_ext,World.size_drew]);omega)))|with_reducible apply SameE.alloc|with_reducible apply SameE.ext|with_reducible apply SameE.drewL|with_reducible apply SameE.drewR));done)|with_reducible apply SameL.extL|with_reducible apply SameL.allocL|with_reducible apply SameL.drewL)):p:=h
theorem QH{p:Prop}(h:p:=by repeat(first|(with_reducible assumption)|with_reducible refine BytA.set ?_ tB|with_reducible apply BytA.alloc|with_reducible apply BytA.ext|with_reducible apply BytA.drew)):p:=h
theorem QI{p:Prop}(h:p:=by repeat(first|(with_reducible assumption)|with_reducible refine RecsA.set ?_ tB|with_reducible apply RecsA.alloc|with_reducible apply RecsA.ext|with_reducible apply RecsA.drew)):p:=h
theorem QJ{p:Prop}(h:p:=by rw[lo];exact Nat.le_refl _):p:=h
theorem QK{p:Prop}(h:p:=by repeat(first|with_reducible exact wB|with_reducible exact wB2|with_reducible exact wQ|with_reducible refine Nat.le_add_right_of_le ?_)):p:=h
theorem QL{p:Prop}(h:p:=by first|with_reducible exact bB|with_reducible exact .inl bB|with_reducible exact .inl bB2|omega):p:=h
theorem QM{p:Prop}(h:p:=by first|with_reducible exact .inl bw0|with_reducible exact .inl bw2|omega):p:=h
theorem OwnR.moved2{N base:Nat}{X X' W':World}{E:Array Obj}{d d':Nat}{v:Value}{l:List Rec}(h:OwnR N (X.ext E d) v l)(hx:Ext (X'.ext E d') W')(hs:X'.heap.size=X.heap.size)(hN:X.heap.size≤N)(hb:base≤N):OwnR base W' v l:=
 (OwnR.moved h hs hN hb).of_ext hx
structure DrvX(base:Nat)(w:World)(D:DriveD)(A0:Option Addr)(n0 c0:Nat)(A1:Option Addr)(n1 c1:Nat):Prop where
 l0:n0=D.f0.bytes.length
 l1:n1=D.f1.bytes.length
 b0:OwnB base w (.slice A0 n0 c0) D.f0.bytes
 b1:OwnB base w (.slice A1 n1 c1) D.f1.bytes
structure MemX(base:Nat)(w:World)(M:MemD)(A:Option Addr)(n c:Nat):Prop where
 l:n=M.recs.length
 r:OwnR base w (.slice A n c) M.recs
theorem DrvX.zero(base:Nat)(w:World):DrvX base w noDrive Option.none 0 0 Option.none 0 0:=⟨rfl,rfl,OwnB.none base w,OwnB.none base w⟩
theorem MemX.zero(base:Nat)(w:World):MemX base w noMem Option.none 0 0:=⟨rfl,OwnR.none base w⟩
theorem openE_bad{D:DriveD}(h:driveOk D=false):openE D=73∧openD D=noDrive∧openM D=noMem:=by
 have:openE D=73:=by simp[openE,h]
 exact⟨this,by rw[openD,this];rfl,by rw[openM,this];rfl⟩
theorem openE_none{D:DriveD}(h:driveOk D=true)(h2:¬(0≤atI D∧regOk (recsB (bestB D))=true)):openE D=74∧openD D=noDrive∧openM D=noMem:=by
 have:openE D=74:=by simp only[openE,h,if_true,if_neg h2]
 exact⟨this,by rw[openD,this];rfl,by rw[openM,this];rfl⟩
theorem openE_ok{D:DriveD}(h:driveOk D=true)(h2:0≤atI D)(h3:regOk (recsB (bestB D))=true):openE D=0:=by
 simp only[openE,h,if_true,if_pos (And.intro h2 h3)]
theorem atI_none{D:DriveD}(h0:pageOk D.f0.bytes=false)(h1:pageOk D.f1.bytes=false):atI D= -1:=by simp[atI,h0,h1]
theorem atI_zero{D:DriveD}(h0:pageOk D.f0.bytes=true)(h1:pageOk D.f1.bytes=true→genB D.f1.bytes≤genB D.f0.bytes):atI D=0:=by
 unfold atI
 rw[if_neg (fun h=>h.2 ⟨h0,h1 h.1⟩),if_pos h0]
theorem atI_one{D:DriveD}(h1:pageOk D.f1.bytes=true)(h0:pageOk D.f0.bytes=true→genB D.f0.bytes<genB D.f1.bytes):atI D=1:=by
 unfold atI
 rw[if_pos ⟨h1,fun h=>by have:=h0 h.1;omega⟩]
theorem opens_zero{D:DriveD}(h:driveOk D=true)(ha:atI D=0)(hr:regOk (recsB D.f0.bytes)=true)(hh:pageOk D.f0.bytes=true):
 openD D=⟨⟨writtenB (pgG D.f0.bytes) (pgC D.f0.bytes) (pgR D.f0.bytes),(writtenB (pgG D.f0.bytes) (pgC D.f0.bytes) (pgR D.f0.bytes)).length⟩,noFile⟩∧openM D=⟨ordL (pgR D.f0.bytes),0,pgG D.f0.bytes⟩∧openE D=0:=by
 have hb:bestB D=D.f0.bytes:=by rw[bestB,ha];rfl
 have he:=openE_ok h tB (by rw[hb];exact hr)
 rw[openD,openM,he,hb,ha,pgG_ok hh,pgC_ok hh,pgR_ok hh]
 have hl:=written_take (isHead_of_page hh)
 have hle:=longB_le (isHead_of_page hh)
 refine⟨?_,rfl,rfl⟩
 show withFile noDrive 0 _=_
 rw[hl,List.length_take,Nat.min_eq_left hle]
 rfl
theorem opens_one{D:DriveD}(h:driveOk D=true)(ha:atI D=1)(hr:regOk (recsB D.f1.bytes)=true)(hh:pageOk D.f1.bytes=true):
 openD D=⟨noFile,⟨writtenB (pgG D.f1.bytes) (pgC D.f1.bytes) (pgR D.f1.bytes),(writtenB (pgG D.f1.bytes) (pgC D.f1.bytes) (pgR D.f1.bytes)).length⟩⟩∧openM D=⟨ordL (pgR D.f1.bytes),1,pgG D.f1.bytes⟩∧openE D=0:=by
 have hb:bestB D=D.f1.bytes:=by rw[bestB,ha];rfl
 have he:=openE_ok h tB (by rw[hb];exact hr)
 rw[openD,openM,he,hb,ha,pgG_ok hh,pgC_ok hh,pgR_ok hh]
 have hl:=written_take (isHead_of_page hh)
 have hle:=longB_le (isHead_of_page hh)
 refine⟨?_,rfl,rfl⟩
 show withFile noDrive 1 _=_
 rw[hl,List.length_take,Nat.min_eq_left hle]
 rfl
set_option maxRecDepth 100000 in
set_option maxHeartbeats 16000000 in
theorem Open_any(A0:Option Addr)(n0 c0:Nat)(A1:Option Addr)(n1 c1:Nat)(D:DriveD)(hl0:D.f0.bytes.length=n0)(hl1:D.f1.bytes.length=n1)(hc0:n0≤c0)(hc1:n1≤c1)(hbig0:c0≤9223372036854775807)(hbig1:c1≤9223372036854775807)
 (w:World) (hb0:Byt w A0 D.f0.bytes) (hb1:Byt w A1 D.f1.bytes):
 Calls Tryz.prog 15 #[drvV A0 n0 c0 D.f0.firm A1 n1 c1 D.f1.firm] w fun e w'=> ∃B0 m0 d0 B1 m1 d1 Am nm cm,e= .returned (.tuple #[drvV B0 m0 d0 (openD D).f0.firm B1 m1 d1 (openD D).f1.firm,memV Am nm cm (openM D).file (openM D).gen,.int .i64 (openE D)])∧
  DrvX w.heap.size w' (openD D) B0 m0 d0 B1 m1 d1∧MemX w.heap.size w' (openM D) Am nm cm∧Ext w w':=by
 have hdo:=driveOk_eq D n0 n1 hl0 hl1
 cases hk:dOk n0 D.f0.firm n1 D.f1.firm with
 | false=>
  obtain⟨h1,h2,h3⟩:=openE_bad (D:=D) (by rw[hdo,hk])
  rw[h1,h2,h3]
  clear h1 h2 h3 hdo
  go_enter Tryz.func15,Tryz.ntmps15
  go_wp2_with (go_at_call 56;refine(isDrive_any _ _ _ _ _ _ _ _ _).mono ?_;rintro e w1 ⟨rfl,E1,d1,rfl⟩)
  refine bodyPost_ret (v:=.tuple #[drvV none 0 0 0 none 0 0 0,memV none 0 0 0 0,.int .i64 73]) TM rfl ?_
  exact⟨none,0,0,none,0,0,none,0,0,rfl,DrvX.zero _ _,MemX.zero _ _,exI⟩
 | true=>
  have hbnd:n0≤100000∧n1≤100000:=by
   simp only[dOk,fOk,Bool.and_eq_true,decide_eq_true_eq] at hk
   exact⟨hk.1.2,hk.2.2⟩
  obtain⟨hs0,hs1⟩:=hbnd
  rw[hk] at hdo
  cases hp0:pageOk D.f0.bytes with
  | false=>
   cases hp1:pageOk D.f1.bytes with
   | false=>
    have ha:=atI_none hp0 hp1
    obtain⟨h1,h2,h3⟩:=openE_none hdo tB
    rw[h1,h2,h3]
    clear h1 h2 h3 hdo ha
    go_enter Tryz.func15,Tryz.ntmps15
    go_wp2_with (go_at_call 56;refine(isDrive_any _ _ _ _ _ _ _ _ _).mono ?_;rintro e w1 ⟨rfl,E1,d1,rfl⟩)
    refine wp_loop_rounds 3 ?_
    rw[rounds_succ]
    go_wp2_with (go_at_call 64;refine(pageOf_any _ _ _ _ tZ tB tB tB _ (bytI ‹_›)).mono ?_;rintro e w1 ⟨Ap1,np1,cp1,rfl,hnp1,hop1,E1,d1,rfl⟩)
    rw[rounds_succ]
    go_wp2_with (go_at_call 64;refine(pageOf_any _ _ _ _ tZ tB tB tB _ (bytI ‹_›)).mono ?_;rintro e w1 ⟨Ap1,np1,cp1,rfl,hnp1,hop1,E1,d1,rfl⟩)
    rw[rounds_succ]
    go_wp2_with fail
    refine bodyPost_ret (v:=.tuple #[drvV none 0 0 0 none 0 0 0,memV none 0 0 0 0,.int .i64 74]) TM rfl ?_
    exact⟨none,0,0,none,0,0,none,0,0,rfl,DrvX.zero _ _,MemX.zero _ _,exI⟩
   | true=>
    have ha:=atI_one hp1 (fun h=>by rw[hp0] at h;cases h)
    obtain⟨G,hG⟩:∃ G,pgG D.f1.bytes=G:=⟨_,rfl⟩
    obtain⟨C,hC⟩:∃ C,pgC D.f1.bytes=C:=⟨_,rfl⟩
    obtain⟨gb0,gb1⟩:=pgG_bound D.f1.bytes
    obtain⟨cb0,cb1⟩:=pgC_bound D.f1.bytes
    rw[hG] at gb0 gb1
    rw[hC] at cb0 cb1
    have Hall:=hid (pgR_all D.f1.bytes)
    have Hle:=hid (pgR_le D.f1.bytes)
    have Hrec:Hid (pgR D.f1.bytes=recsB D.f1.bytes):=hid (pgR_ok hp1)
    have Ha:=hid ha
    have Hdo:=hid hdo
    have HG:=hid hG
    have HC:=hid hC
    clear ha hdo hG hC
    go_enter Tryz.func15,Tryz.ntmps15
    go_wp2_with (go_at_call 56;refine(isDrive_any _ _ _ _ _ _ _ _ _).mono ?_;rintro e w1 ⟨rfl,E1,d1,rfl⟩)
    refine wp_loop_rounds 3 ?_
    rw[rounds_succ]
    go_wp2_with (go_at_call 64;refine(pageOf_any _ _ _ D.f0.bytes hl0 tB tB tB _ (bytI ‹_›)).mono ?_;rintro e w1 ⟨Aq,nq,cq,rfl,hnq,hoq,Eq,dq,rfl⟩;rw[hp0])
    rw[rounds_succ]
    go_wp2_with (go_at_call 64;refine(pageOf_any _ _ _ D.f1.bytes hl1 tB tB tB _ (bytI ‹_›)).mono ?_;rintro e w1 ⟨Ap,np,cp,rfl,hnp,hop,Ep,dp,rfl⟩;rw[HG.out,HC.out,hp1])
    refine wp_region_ord (.f 0 (.f 2 (.a 1 (.a 3 .d)))) (Ext (((w.alloc (.cells #[.slice A0 n0 c0,.int .i64 D.f0.firm,.slice A1 n1 c1,.int .i64 D.f1.firm] 27)).alloc (.cells #[.slice none 0 0,.int .i64 0,.slice none 0 0,.int .i64 0] 27)).alloc (.cells #[.slice none 0 0,.int .i64 0,.int .i64 0] 36))) tG tG exI ?_
    refine oS ?_
    refine oC ?_
    refine oC ?_
    refine wpOrd_nil ?_
    go_wp2_with fail
    rw[rounds_succ]
    go_wp2_with fail
    have hnpl:(pgR D.f1.bytes).length=np:=hnp.out.symm
    have hnpb:np≤100000:=by have:=Hle.out;omega
    refine(register_any _ _ _ _ _ (pgR D.f1.bytes) hnpl hnpb (txtBig_ok Hall.out) _ (OwnR.of_slice (base:=0) (OwnR.moved2 hop tR tE tE tB))).mono ?_
    rintro e w1 ⟨Ag,ng,cg,rfl,hng,⟨lg,hlg,hog⟩,Eg,dg,rfl⟩
    have Hnpl:=hid hnpl
    clear hnpl
    cases hro:regOk (pgR D.f1.bytes) with
    | false=>
     obtain⟨h1,h2,h3⟩:=openE_none Hdo.out (fun h=>by have h9:=h.2;rw[bestB,Ha.out,show(fileAt D 1).bytes=D.f1.bytes from rfl,←Hrec.out,hro] at h9;cases h9)
     have H1:=hid h1
     have H2:=hid h2
     have H3:=hid h3
     clear h1 h2 h3
     go_wp2_with fail
     refine bodyPost_ret (v:=.tuple #[drvV none 0 0 0 none 0 0 0,memV none 0 0 0 0,.int .i64 74]) TM rfl ?_
     rw[H1.out,H2.out,H3.out]
     exact⟨none,0,0,none,0,0,none,0,0,rfl,DrvX.zero _ _,MemX.zero _ _,exI⟩
    | true=>
     obtain⟨h1,h2,h3⟩:=opens_one Hdo.out Ha.out TN hp1
     rw[HG.out,HC.out] at h1
     rw[HG.out] at h2
     have H1:=hid h1
     have H2:=hid h2
     have H3:=hid h3
     have hlg2:=hlg.out hro
     subst hlg2
     clear h1 h2 h3 hlg
     go_wp2_with fail
     refine(written_any _ _ _ _ _ (pgR D.f1.bytes) Hnpl.out hnpb Hall.out tB tB tB tB _ (OwnR.of_slice (base:=0) (OwnR.moved2 hop tR tE tE tB))).mono ?_
     rintro e w1 ⟨Aw,nw,cw,rfl,hnw,how,Ew,dw,rfl⟩
     have Hog:=hid hog
     have How:=hid how
     clear hog how
     have hle6:w.heap.size+1+1+1≤w.heap.size+1+1+1+E1.size:=by omega
     have hlt6:w.heap.size+1+1+1+E1.size<w.heap.size+1+1+1+E1.size+1+1+Eq.size+1+1+Ep.size+1+Eg.size+1+1+Ew.size:=by omega
     have hle11:w.heap.size+1+1+1≤w.heap.size+1+1+1+E1.size+1+1+Eq.size+1+1+Ep.size+1+Eg.size:=by omega
     have hlt11:w.heap.size+1+1+1+E1.size+1+1+Eq.size+1+1+Ep.size+1+Eg.size<w.heap.size+1+1+1+E1.size+1+1+Eq.size+1+1+Ep.size+1+Eg.size+1+1+Ew.size:=by omega
     have hle13:w.heap.size+1+1+1≤w.heap.size+1+1+1+E1.size+1+1+Eq.size+1+1+Ep.size+1+Eg.size+1:=by omega
     have hlt13:w.heap.size+1+1+1+E1.size+1+1+Eq.size+1+1+Ep.size+1+Eg.size+1<w.heap.size+1+1+1+E1.size+1+1+Eq.size+1+1+Ep.size+1+Eg.size+1+1+Ew.size:=by omega
     go_wp2_with fail
     refine wp_region_ord_from (w.heap.size+1+1+1) (.f 0 (.f 1 (.f 2 (.f 3 (.f 4 (.f 5 (.a 6 (.a 7 (.f 8 .d))))))))) tG tG ?_
     refine oR ?_
     refine wpOrd_act rfl rfl (fun K hK=> ?_)
     go_simp
     refine hK _ _ ⟨?_,?_⟩
     ·exact TO
     clear hK K
     try simp only[Act.put,zp]
     refine wpOrd_act rfl rfl (fun K hK=> ?_)
     go_simp
     refine hK _ _ ⟨?_,?_⟩
     ·exact TO
     clear hK K
     try simp only[Act.put,zp]
     refine oR ?_
     refine wpOrd_nil ?_
     go_wp2_with fail
     refine bodyPost_ret (v:=.tuple #[drvV none 0 0 0 Aw nw cw (nw:Int),memV Ag ng cg 1 G,.int .i64 0]) TM rfl ?_
     rw[H1.out,H2.out,H3.out]
     refine⟨none,0,0,Aw,nw,cw,Ag,ng,cg,by rw[hnw.out];rfl,?_,?_,exI⟩
     ·refine⟨rfl,hnw.out,OwnB.none _ _,?_⟩
      exact OwnB.moved2 How.out tR tE tE tA
     ·exact TP
  | true=>
   cases hp1:pageOk D.f1.bytes with
   | false=>
    have ha:=atI_zero hp0 (fun h=>by rw[hp1] at h;cases h)
    obtain⟨G,hG⟩:∃ G,pgG D.f0.bytes=G:=⟨_,rfl⟩
    obtain⟨C,hC⟩:∃ C,pgC D.f0.bytes=C:=⟨_,rfl⟩
    obtain⟨gb0,gb1⟩:=pgG_bound D.f0.bytes
    obtain⟨cb0,cb1⟩:=pgC_bound D.f0.bytes
    rw[hG] at gb0 gb1
    rw[hC] at cb0 cb1
    have Hall:=hid (pgR_all D.f0.bytes)
    have Hle:=hid (pgR_le D.f0.bytes)
    have Hrec:Hid (pgR D.f0.bytes=recsB D.f0.bytes):=hid (pgR_ok hp0)
    have Ha:=hid ha
    have Hdo:=hid hdo
    have HG:=hid hG
    have HC:=hid hC
    clear ha hdo hG hC
    go_enter Tryz.func15,Tryz.ntmps15
    go_wp2_with (go_at_call 56;refine(isDrive_any _ _ _ _ _ _ _ _ _).mono ?_;rintro e w1 ⟨rfl,E1,d1,rfl⟩)
    refine wp_loop_rounds 3 ?_
    rw[rounds_succ]
    go_wp2_with (go_at_call 64;refine(pageOf_any _ _ _ D.f0.bytes hl0 tB tB tB _ (bytI ‹_›)).mono ?_;rintro e w1 ⟨Ap,np,cp,rfl,hnp,hop,Ep,dp,rfl⟩;rw[HG.out,HC.out,hp0])
    refine wp_region_ord (.f 0 (.f 2 (.a 1 (.a 3 .d)))) (Ext (((w.alloc (.cells #[.slice A0 n0 c0,.int .i64 D.f0.firm,.slice A1 n1 c1,.int .i64 D.f1.firm] 27)).alloc (.cells #[.slice none 0 0,.int .i64 0,.slice none 0 0,.int .i64 0] 27)).alloc (.cells #[.slice none 0 0,.int .i64 0,.int .i64 0] 36))) tG tG exI ?_
    refine oS ?_
    refine oC ?_
    refine oC ?_
    refine wpOrd_nil ?_
    go_wp2_with fail
    rw[rounds_succ]
    go_wp2_with (go_at_call 64;refine(pageOf_any _ _ _ D.f1.bytes hl1 tB tB tB _ (bytI ‹_›)).mono ?_;rintro e w1 ⟨Aq,nq,cq,rfl,hnq,hoq,Eq,dq,rfl⟩;rw[hp1])
    rw[rounds_succ]
    go_wp2_with fail
    have hnpl:(pgR D.f0.bytes).length=np:=hnp.out.symm
    have hnpb:np≤100000:=by have:=Hle.out;omega
    refine(register_any _ _ _ _ _ (pgR D.f0.bytes) hnpl hnpb (txtBig_ok Hall.out) _ (OwnR.of_slice (base:=0) (OwnR.moved2 hop tR tE tE tB))).mono ?_
    rintro e w1 ⟨Ag,ng,cg,rfl,hng,⟨lg,hlg,hog⟩,Eg,dg,rfl⟩
    have Hnpl:=hid hnpl
    clear hnpl
    cases hro:regOk (pgR D.f0.bytes) with
    | false=>
     obtain⟨h1,h2,h3⟩:=openE_none Hdo.out (fun h=>by have h9:=h.2;rw[bestB,Ha.out,show(fileAt D 0).bytes=D.f0.bytes from rfl,←Hrec.out,hro] at h9;cases h9)
     have H1:=hid h1
     have H2:=hid h2
     have H3:=hid h3
     clear h1 h2 h3
     go_wp2_with fail
     refine bodyPost_ret (v:=.tuple #[drvV none 0 0 0 none 0 0 0,memV none 0 0 0 0,.int .i64 74]) TM rfl ?_
     rw[H1.out,H2.out,H3.out]
     exact⟨none,0,0,none,0,0,none,0,0,rfl,DrvX.zero _ _,MemX.zero _ _,exI⟩
    | true=>
     obtain⟨h1,h2,h3⟩:=opens_zero Hdo.out Ha.out TN hp0
     rw[HG.out,HC.out] at h1
     rw[HG.out] at h2
     have H1:=hid h1
     have H2:=hid h2
     have H3:=hid h3
     have hlg2:=hlg.out hro
     subst hlg2
     clear h1 h2 h3 hlg
     go_wp2_with fail
     refine(written_any _ _ _ _ _ (pgR D.f0.bytes) Hnpl.out hnpb Hall.out tB tB tB tB _ (OwnR.of_slice (base:=0) (OwnR.moved2 hop tR tE tE tB))).mono ?_
     rintro e w1 ⟨Aw,nw,cw,rfl,hnw,how,Ew,dw,rfl⟩
     have Hog:=hid hog
     have How:=hid how
     clear hog how
     have hle6:w.heap.size+1+1+1≤w.heap.size+1+1+1+E1.size:=by omega
     have hlt6:w.heap.size+1+1+1+E1.size<w.heap.size+1+1+1+E1.size+1+1+Ep.size+1+1+Eq.size+1+Eg.size+1+1+Ew.size:=by omega
     have hle11:w.heap.size+1+1+1≤w.heap.size+1+1+1+E1.size+1+1+Ep.size+1+1+Eq.size+1+Eg.size:=by omega
     have hlt11:w.heap.size+1+1+1+E1.size+1+1+Ep.size+1+1+Eq.size+1+Eg.size<w.heap.size+1+1+1+E1.size+1+1+Ep.size+1+1+Eq.size+1+Eg.size+1+1+Ew.size:=by omega
     have hle13:w.heap.size+1+1+1≤w.heap.size+1+1+1+E1.size+1+1+Ep.size+1+1+Eq.size+1+Eg.size+1:=by omega
     have hlt13:w.heap.size+1+1+1+E1.size+1+1+Ep.size+1+1+Eq.size+1+Eg.size+1<w.heap.size+1+1+1+E1.size+1+1+Ep.size+1+1+Eq.size+1+Eg.size+1+1+Ew.size:=by omega
     go_wp2_with fail
     refine wp_region_ord_from (w.heap.size+1+1+1) (.f 0 (.f 1 (.f 2 (.f 3 (.f 4 (.f 5 (.a 6 (.a 7 (.f 8 .d))))))))) tG tG ?_
     refine oR ?_
     refine wpOrd_act rfl rfl (fun K hK=> ?_)
     go_simp
     refine hK _ _ ⟨?_,?_⟩
     ·exact TO
     clear hK K
     try simp only[Act.put,zp]
     refine wpOrd_act rfl rfl (fun K hK=> ?_)
     go_simp
     refine hK _ _ ⟨?_,?_⟩
     ·exact TO
     clear hK K
     try simp only[Act.put,zp]
     refine oR ?_
     refine wpOrd_nil ?_
     go_wp2_with fail
     refine bodyPost_ret (v:=.tuple #[drvV Aw nw cw (nw:Int) none 0 0 0,memV Ag ng cg 0 G,.int .i64 0]) TM rfl ?_
     rw[H1.out,H2.out,H3.out]
     refine⟨Aw,nw,cw,none,0,0,Ag,ng,cg,by rw[hnw.out];rfl,?_,?_,exI⟩
     ·refine⟨hnw.out,rfl,?_,OwnB.none _ _⟩
      exact OwnB.moved2 How.out tR tE tE tA
     ·exact TP
   | true=>
    by_cases hgt:pgG D.f0.bytes<pgG D.f1.bytes
    ·skip
     have ha:=atI_one hp1 (fun h=>by rw[←pgG_ok hp0,←pgG_ok hp1];omega)
     obtain⟨G,hG⟩:∃ G,pgG D.f1.bytes=G:=⟨_,rfl⟩
     obtain⟨C,hC⟩:∃ C,pgC D.f1.bytes=C:=⟨_,rfl⟩
     obtain⟨gb0,gb1⟩:=pgG_bound D.f1.bytes
     obtain⟨cb0,cb1⟩:=pgC_bound D.f1.bytes
     rw[hG] at gb0 gb1
     rw[hC] at cb0 cb1
     obtain⟨G2,hG2⟩:∃ G2,pgG D.f0.bytes=G2:=⟨_,rfl⟩
     rw[hG,hG2] at hgt
     have HG2:=hid hG2
     have Hall:=hid (pgR_all D.f1.bytes)
     have Hle:=hid (pgR_le D.f1.bytes)
     have Hrec:Hid (pgR D.f1.bytes=recsB D.f1.bytes):=hid (pgR_ok hp1)
     have Ha:=hid ha
     have Hdo:=hid hdo
     have HG:=hid hG
     have HC:=hid hC
     clear ha hdo hG hC hG2
     go_enter Tryz.func15,Tryz.ntmps15
     go_wp2_with (go_at_call 56;refine(isDrive_any _ _ _ _ _ _ _ _ _).mono ?_;rintro e w1 ⟨rfl,E1,d1,rfl⟩)
     refine wp_loop_rounds 3 ?_
     rw[rounds_succ]
     go_wp2_with (go_at_call 64;refine(pageOf_any _ _ _ D.f0.bytes hl0 tB tB tB _ (bytI ‹_›)).mono ?_;rintro e w1 ⟨Aq,nq,cq,rfl,hnq,hoq,Eq,dq,rfl⟩;rw[hp0];rw[HG2.out])
     refine wp_region_ord (.f 0 (.f 2 (.a 1 (.a 3 .d)))) (Ext (((w.alloc (.cells #[.slice A0 n0 c0,.int .i64 D.f0.firm,.slice A1 n1 c1,.int .i64 D.f1.firm] 27)).alloc (.cells #[.slice none 0 0,.int .i64 0,.slice none 0 0,.int .i64 0] 27)).alloc (.cells #[.slice none 0 0,.int .i64 0,.int .i64 0] 36))) tG tG exI ?_
     refine oS ?_
     refine oC ?_
     refine oC ?_
     refine wpOrd_nil ?_
     go_wp2_with fail
     rw[rounds_succ]
     go_wp2_with (go_at_call 64;refine(pageOf_any _ _ _ D.f1.bytes hl1 tB tB tB _ (bytI ‹_›)).mono ?_;rintro e w1 ⟨Ap,np,cp,rfl,hnp,hop,Ep,dp,rfl⟩;rw[HG.out,HC.out,hp1])
     refine wp_region_ord (.f 0 (.f 2 (.a 1 (.a 3 .d)))) (Ext (((w.alloc (.cells #[.slice A0 n0 c0,.int .i64 D.f0.firm,.slice A1 n1 c1,.int .i64 D.f1.firm] 27)).alloc (.cells #[.slice none 0 0,.int .i64 0,.slice none 0 0,.int .i64 0] 27)).alloc (.cells #[.slice none 0 0,.int .i64 0,.int .i64 0] 36))) tG tG exI ?_
     refine oS ?_
     refine oC ?_
     refine oC ?_
     refine wpOrd_nil ?_
     go_wp2_with fail
     rw[rounds_succ]
     go_wp2_with fail
     have hnpl:(pgR D.f1.bytes).length=np:=hnp.out.symm
     have hnpb:np≤100000:=by have:=Hle.out;omega
     refine(register_any _ _ _ _ _ (pgR D.f1.bytes) hnpl hnpb (txtBig_ok Hall.out) _ (OwnR.of_slice (base:=0) (OwnR.moved2 hop tR tE tE tB))).mono ?_
     rintro e w1 ⟨Ag,ng,cg,rfl,hng,⟨lg,hlg,hog⟩,Eg,dg,rfl⟩
     have Hnpl:=hid hnpl
     clear hnpl
     cases hro:regOk (pgR D.f1.bytes) with
     | false=>
      obtain⟨h1,h2,h3⟩:=openE_none Hdo.out (fun h=>by have h9:=h.2;rw[bestB,Ha.out,show(fileAt D 1).bytes=D.f1.bytes from rfl,←Hrec.out,hro] at h9;cases h9)
      have H1:=hid h1
      have H2:=hid h2
      have H3:=hid h3
      clear h1 h2 h3
      go_wp2_with fail
      refine bodyPost_ret (v:=.tuple #[drvV none 0 0 0 none 0 0 0,memV none 0 0 0 0,.int .i64 74]) TM rfl ?_
      rw[H1.out,H2.out,H3.out]
      exact⟨none,0,0,none,0,0,none,0,0,rfl,DrvX.zero _ _,MemX.zero _ _,exI⟩
     | true=>
      obtain⟨h1,h2,h3⟩:=opens_one Hdo.out Ha.out TN hp1
      rw[HG.out,HC.out] at h1
      rw[HG.out] at h2
      have H1:=hid h1
      have H2:=hid h2
      have H3:=hid h3
      have hlg2:=hlg.out hro
      subst hlg2
      clear h1 h2 h3 hlg
      go_wp2_with fail
      refine(written_any _ _ _ _ _ (pgR D.f1.bytes) Hnpl.out hnpb Hall.out tB tB tB tB _ (OwnR.of_slice (base:=0) (OwnR.moved2 hop tR tE tE tB))).mono ?_
      rintro e w1 ⟨Aw,nw,cw,rfl,hnw,how,Ew,dw,rfl⟩
      have Hog:=hid hog
      have How:=hid how
      clear hog how
      have hle6:w.heap.size+1+1+1≤w.heap.size+1+1+1+E1.size:=by omega
      have hlt6:w.heap.size+1+1+1+E1.size<w.heap.size+1+1+1+E1.size+1+1+Eq.size+1+1+Ep.size+1+Eg.size+1+1+Ew.size:=by omega
      have hle11:w.heap.size+1+1+1≤w.heap.size+1+1+1+E1.size+1+1+Eq.size+1+1+Ep.size+1+Eg.size:=by omega
      have hlt11:w.heap.size+1+1+1+E1.size+1+1+Eq.size+1+1+Ep.size+1+Eg.size<w.heap.size+1+1+1+E1.size+1+1+Eq.size+1+1+Ep.size+1+Eg.size+1+1+Ew.size:=by omega
      have hle13:w.heap.size+1+1+1≤w.heap.size+1+1+1+E1.size+1+1+Eq.size+1+1+Ep.size+1+Eg.size+1:=by omega
      have hlt13:w.heap.size+1+1+1+E1.size+1+1+Eq.size+1+1+Ep.size+1+Eg.size+1<w.heap.size+1+1+1+E1.size+1+1+Eq.size+1+1+Ep.size+1+Eg.size+1+1+Ew.size:=by omega
      go_wp2_with fail
      refine wp_region_ord_from (w.heap.size+1+1+1) (.f 0 (.f 1 (.f 2 (.f 3 (.f 4 (.f 5 (.a 6 (.a 7 (.f 8 .d))))))))) tG tG ?_
      refine oR ?_
      refine wpOrd_act rfl rfl (fun K hK=> ?_)
      go_simp
      refine hK _ _ ⟨?_,?_⟩
      ·exact TO
      clear hK K
      try simp only[Act.put,zp]
      refine wpOrd_act rfl rfl (fun K hK=> ?_)
      go_simp
      refine hK _ _ ⟨?_,?_⟩
      ·exact TO
      clear hK K
      try simp only[Act.put,zp]
      refine oR ?_
      refine wpOrd_nil ?_
      go_wp2_with fail
      refine bodyPost_ret (v:=.tuple #[drvV none 0 0 0 Aw nw cw (nw:Int),memV Ag ng cg 1 G,.int .i64 0]) TM rfl ?_
      rw[H1.out,H2.out,H3.out]
      refine⟨none,0,0,Aw,nw,cw,Ag,ng,cg,by rw[hnw.out];rfl,?_,?_,exI⟩
      ·refine⟨rfl,hnw.out,OwnB.none _ _,?_⟩
       exact OwnB.moved2 How.out tR tE tE tA
      ·exact TP
    ·skip
     have ha:=atI_zero hp0 (fun h=>by rw[←pgG_ok hp0,←pgG_ok hp1];omega)
     obtain⟨G,hG⟩:∃ G,pgG D.f0.bytes=G:=⟨_,rfl⟩
     obtain⟨C,hC⟩:∃ C,pgC D.f0.bytes=C:=⟨_,rfl⟩
     obtain⟨gb0,gb1⟩:=pgG_bound D.f0.bytes
     obtain⟨cb0,cb1⟩:=pgC_bound D.f0.bytes
     rw[hG] at gb0 gb1
     rw[hC] at cb0 cb1
     obtain⟨G2,hG2⟩:∃ G2,pgG D.f1.bytes=G2:=⟨_,rfl⟩
     rw[hG,hG2] at hgt
     have HG2:=hid hG2
     have Hall:=hid (pgR_all D.f0.bytes)
     have Hle:=hid (pgR_le D.f0.bytes)
     have Hrec:Hid (pgR D.f0.bytes=recsB D.f0.bytes):=hid (pgR_ok hp0)
     have Ha:=hid ha
     have Hdo:=hid hdo
     have HG:=hid hG
     have HC:=hid hC
     clear ha hdo hG hC hG2
     go_enter Tryz.func15,Tryz.ntmps15
     go_wp2_with (go_at_call 56;refine(isDrive_any _ _ _ _ _ _ _ _ _).mono ?_;rintro e w1 ⟨rfl,E1,d1,rfl⟩)
     refine wp_loop_rounds 3 ?_
     rw[rounds_succ]
     go_wp2_with (go_at_call 64;refine(pageOf_any _ _ _ D.f0.bytes hl0 tB tB tB _ (bytI ‹_›)).mono ?_;rintro e w1 ⟨Ap,np,cp,rfl,hnp,hop,Ep,dp,rfl⟩;rw[HG.out,HC.out,hp0])
     refine wp_region_ord (.f 0 (.f 2 (.a 1 (.a 3 .d)))) (Ext (((w.alloc (.cells #[.slice A0 n0 c0,.int .i64 D.f0.firm,.slice A1 n1 c1,.int .i64 D.f1.firm] 27)).alloc (.cells #[.slice none 0 0,.int .i64 0,.slice none 0 0,.int .i64 0] 27)).alloc (.cells #[.slice none 0 0,.int .i64 0,.int .i64 0] 36))) tG tG exI ?_
     refine oS ?_
     refine oC ?_
     refine oC ?_
     refine wpOrd_nil ?_
     go_wp2_with fail
     rw[rounds_succ]
     go_wp2_with (go_at_call 64;refine(pageOf_any _ _ _ D.f1.bytes hl1 tB tB tB _ (bytI ‹_›)).mono ?_;rintro e w1 ⟨Aq,nq,cq,rfl,hnq,hoq,Eq,dq,rfl⟩;rw[hp1];rw[HG2.out])
     rw[rounds_succ]
     go_wp2_with fail
     have hnpl:(pgR D.f0.bytes).length=np:=hnp.out.symm
     have hnpb:np≤100000:=by have:=Hle.out;omega
     refine(register_any _ _ _ _ _ (pgR D.f0.bytes) hnpl hnpb (txtBig_ok Hall.out) _ (OwnR.of_slice (base:=0) (OwnR.moved2 hop tR tE tE tB))).mono ?_
     rintro e w1 ⟨Ag,ng,cg,rfl,hng,⟨lg,hlg,hog⟩,Eg,dg,rfl⟩
     have Hnpl:=hid hnpl
     clear hnpl
     cases hro:regOk (pgR D.f0.bytes) with
     | false=>
      obtain⟨h1,h2,h3⟩:=openE_none Hdo.out (fun h=>by have h9:=h.2;rw[bestB,Ha.out,show(fileAt D 0).bytes=D.f0.bytes from rfl,←Hrec.out,hro] at h9;cases h9)
      have H1:=hid h1
      have H2:=hid h2
      have H3:=hid h3
      clear h1 h2 h3
      go_wp2_with fail
      refine bodyPost_ret (v:=.tuple #[drvV none 0 0 0 none 0 0 0,memV none 0 0 0 0,.int .i64 74]) TM rfl ?_
      rw[H1.out,H2.out,H3.out]
      exact⟨none,0,0,none,0,0,none,0,0,rfl,DrvX.zero _ _,MemX.zero _ _,exI⟩
     | true=>
      obtain⟨h1,h2,h3⟩:=opens_zero Hdo.out Ha.out TN hp0
      rw[HG.out,HC.out] at h1
      rw[HG.out] at h2
      have H1:=hid h1
      have H2:=hid h2
      have H3:=hid h3
      have hlg2:=hlg.out hro
      subst hlg2
      clear h1 h2 h3 hlg
      go_wp2_with fail
      refine(written_any _ _ _ _ _ (pgR D.f0.bytes) Hnpl.out hnpb Hall.out tB tB tB tB _ (OwnR.of_slice (base:=0) (OwnR.moved2 hop tR tE tE tB))).mono ?_
      rintro e w1 ⟨Aw,nw,cw,rfl,hnw,how,Ew,dw,rfl⟩
      have Hog:=hid hog
      have How:=hid how
      clear hog how
      have hle6:w.heap.size+1+1+1≤w.heap.size+1+1+1+E1.size:=by omega
      have hlt6:w.heap.size+1+1+1+E1.size<w.heap.size+1+1+1+E1.size+1+1+Ep.size+1+1+Eq.size+1+Eg.size+1+1+Ew.size:=by omega
      have hle11:w.heap.size+1+1+1≤w.heap.size+1+1+1+E1.size+1+1+Ep.size+1+1+Eq.size+1+Eg.size:=by omega
      have hlt11:w.heap.size+1+1+1+E1.size+1+1+Ep.size+1+1+Eq.size+1+Eg.size<w.heap.size+1+1+1+E1.size+1+1+Ep.size+1+1+Eq.size+1+Eg.size+1+1+Ew.size:=by omega
      have hle13:w.heap.size+1+1+1≤w.heap.size+1+1+1+E1.size+1+1+Ep.size+1+1+Eq.size+1+Eg.size+1:=by omega
      have hlt13:w.heap.size+1+1+1+E1.size+1+1+Ep.size+1+1+Eq.size+1+Eg.size+1<w.heap.size+1+1+1+E1.size+1+1+Ep.size+1+1+Eq.size+1+Eg.size+1+1+Ew.size:=by omega
      go_wp2_with fail
      refine wp_region_ord_from (w.heap.size+1+1+1) (.f 0 (.f 1 (.f 2 (.f 3 (.f 4 (.f 5 (.a 6 (.a 7 (.f 8 .d))))))))) tG tG ?_
      refine oR ?_
      refine wpOrd_act rfl rfl (fun K hK=> ?_)
      go_simp
      refine hK _ _ ⟨?_,?_⟩
      ·exact TO
      clear hK K
      try simp only[Act.put,zp]
      refine wpOrd_act rfl rfl (fun K hK=> ?_)
      go_simp
      refine hK _ _ ⟨?_,?_⟩
      ·exact TO
      clear hK K
      try simp only[Act.put,zp]
      refine oR ?_
      refine wpOrd_nil ?_
      go_wp2_with fail
      refine bodyPost_ret (v:=.tuple #[drvV Aw nw cw (nw:Int) none 0 0 0,memV Ag ng cg 0 G,.int .i64 0]) TM rfl ?_
      rw[H1.out,H2.out,H3.out]
      refine⟨Aw,nw,cw,none,0,0,Ag,ng,cg,by rw[hnw.out];rfl,?_,?_,exI⟩
      ·refine⟨hnw.out,rfl,?_,OwnB.none _ _⟩
       exact OwnB.moved2 How.out tR tE tE tA
      ·exact TP
end Go.Proofs.YtekjdeibnfaehaaGreat
