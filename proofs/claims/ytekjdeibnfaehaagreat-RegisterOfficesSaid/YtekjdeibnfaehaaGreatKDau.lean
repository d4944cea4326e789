/- Texts of a proof. -/
import Derived.Test.YtekjdeibnfaehaaGreatKDat
import Derived.Test.YtekjdeibnfaehaaGreatKDar
set_option linter.unusedSimpArgs false
set_option linter.unusedVariables false
namespace Go.Proofs.YtekjdeibnfaehaaGreat
open Go Go.RowKit
theorem rdG_pos{l:List UInt8}:(rdG l=0∧pageOk l=false)∨(1≤rdG l∧pageOk l=true):=by
 cases h:pageOk l with
 | false=>exact .inl ⟨(rd_no h).1,rfl⟩
 | true=>
  refine .inr ⟨?_,rfl⟩
  rw[(rd_yes h).1]
  simp only[pageOk,Bool.and_eq_true,inB_spec] at h
  omega
theorem rdG_nonneg(l:List UInt8):0≤rdG l:=by rcases rdG_pos (l:=l) with⟨h,_⟩|⟨h,_⟩ <;> omega
theorem rdR_ok(l:List UInt8):∀ r∈rdR l,recOk r=true:=by
 unfold rdR
 split
 ·exact recsB_ok l
 ·intro r hr;cases hr
theorem rdR_len(l:List UInt8):(rdR l).length≤l.length:=by
 unfold rdR
 split
 ·exact recsB_le l
 ·exact Nat.zero_le _
theorem rdN_len(l:List UInt8):rdN l≤l.length:=by
 unfold rdN
 split
 ·rename_i h
  exact longB_le (isHead_of_page h)
 ·exact Nat.zero_le _
theorem regOk_apart{l:List Rec}(h:∀ r∈l,recOk r=true){n:Nat}(hn:n=l.length):(decide (Apart l)&&decide (n≤80))=regOk l:=by
 subst hn
 have:l.all recOk=true:=List.all_eq_true.2 h
 unfold regOk
 rw[this,Bool.and_true,Bool.and_comm]
theorem open_none{D:DriveD}(hd:driveOk D=true)(h0:rdG D.f0.bytes=0)(h1:rdG D.f1.bytes=0):openE D=74∧openD D=noDrive∧openM D=noMem:=by
 rcases rdG_pos (l:=D.f0.bytes) with⟨_,p0⟩|⟨p0,_⟩
 ·rcases rdG_pos (l:=D.f1.bytes) with⟨_,p1⟩|⟨p1,_⟩
  ·exact openE_none hd (fun h=>by rw[atI_none p0 p1] at h;omega)
  ·omega
 ·omega
theorem at_zero{D:DriveD}(h:¬(rdG D.f0.bytes=0∧rdG D.f1.bytes=0))(hle:¬(rdG D.f0.bytes<rdG D.f1.bytes)):pageOk D.f0.bytes=true∧atI D=0:=by
 rcases rdG_pos (l:=D.f0.bytes) with⟨q0,p0⟩|⟨q0,p0⟩
 ·have:=rdG_nonneg D.f1.bytes
  exfalso
  rcases rdG_pos (l:=D.f1.bytes) with⟨q1,_⟩|⟨q1,_⟩
  ·exact h ⟨q0,q1⟩
  ·omega
 ·refine⟨p0,atI_zero p0 fun p1=> ?_⟩
  rw[(rd_yes p0).1,(rd_yes p1).1] at hle
  omega
theorem at_one{D:DriveD}(hlt:rdG D.f0.bytes<rdG D.f1.bytes):pageOk D.f1.bytes=true∧atI D=1:=by
 rcases rdG_pos (l:=D.f1.bytes) with⟨q1,p1⟩|⟨q1,p1⟩
 ·have:=rdG_nonneg D.f0.bytes
  omega
 ·refine⟨p1,atI_one p1 fun p0=> ?_⟩
  rw[(rd_yes p0).1,(rd_yes p1).1] at hlt
  exact hlt
theorem open_bad{D:DriveD}(hd:driveOk D=true)(h:regOk (recsB (bestB D))=false):openE D=74∧openD D=noDrive∧openM D=noMem:=
 openE_none hd fun h2=>by rw[h] at h2;exact absurd h2.2 tE
theorem open_good{D:DriveD}(hd:driveOk D=true)(h:0≤atI D)(h2:regOk (recsB (bestB D))=true):
 openE D=0∧openD D=withFile noDrive (atI D) ⟨(bestB D).take (longB (bestB D)),longB (bestB D)⟩∧openM D=⟨ordL (recsB (bestB D)),atI D,genB (bestB D)⟩:=by
 have he:=openE_ok hd h h2
 exact⟨he,by rw[openD,if_pos he],by rw[openM,if_pos he]⟩
set_option maxRecDepth 100000 in
set_option maxHeartbeats 16000000 in
theorem rOpen_any(A0:Option Addr)(n0 c0:Nat)(A1:Option Addr)(n1 c1:Nat)(D:DriveD)(w:World)(hD:DrvY w D A0 n0 c0 A1 n1 c1):
 Calls Tryz.prog 16 #[drvV A0 n0 c0 D.f0.firm A1 n1 c1 D.f1.firm] w fun e w'=> ∃B0 m0 d0 B1 m1 d1 Am nm cm,e= .returned (.tuple #[drvV B0 m0 d0 (openD D).f0.firm B1 m1 d1 (openD D).f1.firm,memV Am nm cm (openM D).file (openM D).gen,.int .i64 (openE D)])∧
  DrvX w.heap.size w' (openD D) B0 m0 d0 B1 m1 d1∧MemX w.heap.size w' (openM D) Am nm cm∧Ext w w':=by
 obtain⟨hl0,hl1,hc0,hc1,hbig0,hbig1,hb0,hb1⟩:=hD
 have hdo:=driveOk_eq D n0 n1 hl0 hl1
 cases hk:dOk n0 D.f0.firm n1 D.f1.firm with
 | false=>
  rw[hk] at hdo
  obtain⟨e1,e2,e3⟩:=openE_bad hdo
  rw[e1,e2,e3]
  clear hdo e1 e2 e3
  go_enter Tryz.func16,Tryz.ntmps16
  go_wp2_with (go_at_call 59;refine(risDrive_any _ _ _ _ _ _ _ _ _).mono ?_;rintro e w1 ⟨rfl,E1,d1,rfl⟩)
  refine bodyPost_ret (v:=.tuple #[drvV none 0 0 0 none 0 0 0,memV none 0 0 0 0,.int .i64 73]) Td rfl ?_
  exact⟨none,0,0,none,0,0,none,0,0,rfl,DrvX.zero _ _,MemX.zero _ _,exI⟩
 | true=>
  obtain⟨hs0,hs1⟩:n0≤100000∧n1≤100000:=by
   simp only[dOk,fOk,Bool.and_eq_true,decide_eq_true_eq] at hk
   exact⟨hk.1.2,hk.2.2⟩
  rw[hk] at hdo
  have Hdo:=hid hdo
  have HZ:=hid (open_none (D:=D) hdo)
  have H0:=hid (at_zero (D:=D))
  have H1:=hid (at_one (D:=D))
  have nn0:=rdG_nonneg D.f0.bytes
  have nn1:=rdG_nonneg D.f1.bytes
  obtain⟨a,ha⟩:∃ a,rdG D.f0.bytes=a:=⟨_,rfl⟩
  obtain⟨b,hb⟩:∃ b,rdG D.f1.bytes=b:=⟨_,rfl⟩
  rw[ha] at HZ H0 H1 nn0
  rw[hb] at HZ H0 H1 nn1
  have HA:=hid ha
  have HB:=hid hb
  clear hdo ha hb
  by_cases hz:a=0∧b=0
  ·obtain⟨rfl,rfl⟩:=hz
   have HE:=hid (HZ.out rfl rfl)
   clear HZ H0 H1
   go_enter Tryz.func16,Tryz.ntmps16
   go_wp2_with (go_at_call 59;refine(risDrive_any _ _ _ _ _ _ _ _ _).mono ?_;rintro e w1 ⟨rfl,E1,d1,rfl⟩)
   refine(read_any _ _ _ D.f0.bytes hl0 hc0 hbig0 hs0 _ (bytI ‹_›)).mono ?_
   rintro e w1 ⟨Ar0,nr0,cr0,rfl,hnr0,hor0,E2,d2,rfl⟩
   rw[HA.out]
   clear hor0 hnr0
   go_wp2_with fail
   refine(read_any _ _ _ D.f1.bytes hl1 hc1 hbig1 hs1 _ (bytI ‹_›)).mono ?_
   rintro e w1 ⟨Ar1,nr1,cr1,rfl,hnr1,hor1,E3,d3,rfl⟩
   rw[HB.out]
   clear hor1 hnr1
   go_wp2_with fail
   refine bodyPost_ret (v:=.tuple #[drvV none 0 0 0 none 0 0 0,memV none 0 0 0 0,.int .i64 74]) Td rfl ?_
   obtain⟨e1,e2,e3⟩:=HE.out
   rw[e1,e2,e3]
   exact⟨none,0,0,none,0,0,none,0,0,rfl,DrvX.zero _ _,MemX.zero _ _,exI⟩
  ·have hzb:((a==0)&&(b==0))=false:=by
    rcases Int.lt_or_eq_of_le nn0 with h|h
    ·rw[show(a==0)=false from by simp;omega];rfl
    ·rw[show(b==0)=false from by simp;omega];exact Bool.and_false _
   by_cases hlt:a<b
   ·obtain⟨hp,hat⟩:=H1.out hlt
    have hbest:bestB D=D.f1.bytes:=by rw[bestB,hat];rfl
    obtain⟨e1,e2,e3⟩:=rd_yes hp
    have hok:=rdR_ok D.f1.bytes
    have hrl:=rdR_len D.f1.bytes
    have hNl:=rdN_len D.f1.bytes
    rw[hl1] at hrl hNl
    obtain⟨L,hL⟩:∃ L,rdR D.f1.bytes=L:=⟨_,rfl⟩
    obtain⟨N,hN⟩:∃ N,rdN D.f1.bytes=N:=⟨_,rfl⟩
    rw[hL] at hok hrl
    rw[hN] at hNl
    have HBAD:Hid (regOk L=false→openE D=74∧openD D=noDrive∧openM D=noMem):=hid (fun h=>open_bad Hdo.out Te)
    have HOK:Hid (regOk L=true→openE D=0∧openD D=⟨noFile,⟨D.f1.bytes.take N,N⟩⟩∧openM D=⟨ordL L,1,b⟩):=hid (fun h=>by
     obtain⟨q1,q2,q3⟩:=open_good Hdo.out tB Te
     refine⟨q1,?_,?_⟩
     ·rw[q2,hat,hbest,←e3,hN];rfl
     ·rw[q3,hat,hbest,←e2,hL,←e1,HB.out])
    have HLr:=hid hL
    have HNr:=hid hN
    have Hok:=hid hok
    clear HZ H0 H1 hp hat hbest e1 e2 e3 hL hN hok
    go_enter Tryz.func16,Tryz.ntmps16
    go_wp2_with (go_at_call 59;refine(risDrive_any _ _ _ _ _ _ _ _ _).mono ?_;rintro e w1 ⟨rfl,E1,d1,rfl⟩)
    refine(read_any _ _ _ D.f0.bytes hl0 hc0 hbig0 hs0 _ (bytI ‹_›)).mono ?_
    rintro e w1 ⟨Ar0,nr0,cr0,rfl,hnr0,hor0,E2,d2,rfl⟩
    rw[HA.out]
    clear hor0 hnr0
    go_wp2_with fail
    refine(read_any _ _ _ D.f1.bytes hl1 hc1 hbig1 hs1 _ (bytI ‹_›)).mono ?_
    rintro e w1 ⟨Ar1,nr1,cr1,rfl,hnr1,hor1,E3,d3,rfl⟩
    rw[HB.out]
    clear hor1 hnr1
    go_wp2_with fail
    all_goals
     refine(read_any _ _ _ D.f1.bytes hl1 hc1 hbig1 hs1 _ (bytI ‹_›)).mono ?_
     rintro e w1 ⟨Ar,nr,cr,rfl,hnr,hor,E4,d4,rfl⟩
     rw[HB.out,HNr.out]
     rw[HLr.out] at hnr hor
     have hrr:=hor.of_slice
     have Hnr:=hid hnr.out
     have hnrb:nr≤100000:=by have:=hnr.out;omega
     clear hnr hor
     go_wp2_with fail
     refine(ordered_any _ _ _ L Hnr.out.symm hnrb _ (recI ‹_›)).mono ?_
     rintro e w1 ⟨Ao,no,co,lo,rfl,hno,hoo,hlo,E5,d5,rfl⟩
     rw[regOk_apart Hok.out Hnr.out]
     have Hno:=hid hno.out
     have Hoo:=hid hoo
     clear hno hoo
     cases hro:regOk L with
     | false=>
      have HE:=hid (HBAD.out hro)
      clear HBAD HOK hro
      go_wp2_with fail
      refine bodyPost_ret (v:=.tuple #[drvV none 0 0 0 none 0 0 0,memV none 0 0 0 0,.int .i64 74]) Td rfl ?_
      obtain⟨e1,e2,e3⟩:=HE.out
      rw[e1,e2,e3]
      exact⟨none,0,0,none,0,0,none,0,0,rfl,DrvX.zero _ _,MemX.zero _ _,exI⟩
     | true=>
      have HE:=hid (HOK.out hro)
      have Hlo:Hid (lo=ordL L):=hid (hlo.out (by simp only[regOk,Bool.and_eq_true,decide_eq_true_eq] at hro;exact hro.2))
      clear HBAD HOK hro hlo
      go_wp2_with fail
      refine(cut_any _ _ _ _ D.f1.bytes N hl1 tB hc1 tB _ (bytI ‹_›)).mono ?_
      rintro e w1 ⟨Af,cf,rfl,hbf,E6,d6,rfl⟩
      have Hbf:=hid hbf
      clear hbf hrr
      have hle1:w.heap.size+1+1+1≤w.heap.size+1+1+1+E1.size+E2.size+E3.size+E4.size+E5.size:=by omega
      have hle2:w.heap.size+1+1+1≤w.heap.size+1+1+1+E1.size+E2.size+E3.size+E4.size+E5.size+1:=by omega
      have hlt1:w.heap.size+1+1+1+E1.size+E2.size+E3.size+E4.size+E5.size<w.heap.size+1+1+1+E1.size+E2.size+E3.size+E4.size+E5.size+1+1+E6.size:=by omega
      have hlt2:w.heap.size+1+1+1+E1.size+E2.size+E3.size+E4.size+E5.size+1<w.heap.size+1+1+1+E1.size+E2.size+E3.size+E4.size+E5.size+1+1+E6.size:=by omega
      go_wp2_with fail
      refine wp_region_ord_from (w.heap.size+1+1+1) (.f 0 (.f 1 (.f 2 (.f 3 (.f 4 (.a 5 (.a 6 (.f 7 .d)))))))) tG tG ?_
      refine oR ?_
      refine wpOrd_act rfl rfl (fun K hK=> ?_)
      go_simp
      refine hK _ _ ⟨?_,?_⟩
      ·exact TO
      clear hK K
      try simp only[Act.put,zp]
      refine wpOrd_act rfl rfl (fun K hK=> ?_)
      go_simp
      refine hK _ _ ⟨?_,?_⟩
      ·exact TO
      clear hK K
      try simp only[Act.put,zp]
      refine oR ?_
      refine wpOrd_nil ?_
      all_goals
       go_wp2_with fail
      all_goals
       refine bodyPost_ret (v:=.tuple #[drvV none 0 0 0 Af N cf N,memV Ao no co 1 b,.int .i64 0]) Td rfl ?_
       obtain⟨e1,e2,e3⟩:=HE.out
       rw[e1,e2,e3]
       refine⟨none,0,0,Af,N,cf,Ao,no,co,rfl,⟨rfl,by simp[hl1];omega,OwnB.none _ _,?_⟩,⟨by rw[←Hlo.out];exact Hno.out,?_⟩,exI⟩
       ·exact Tf
       ·rw[←Hlo.out]
        exact OwnR.moved2 Hoo.out tR ta ta TC
   ·obtain⟨hp,hat⟩:=H0.out hz hlt
    have hbest:bestB D=D.f0.bytes:=by rw[bestB,hat];rfl
    obtain⟨e1,e2,e3⟩:=rd_yes hp
    have hok:=rdR_ok D.f0.bytes
    have hrl:=rdR_len D.f0.bytes
    have hNl:=rdN_len D.f0.bytes
    rw[hl0] at hrl hNl
    obtain⟨L,hL⟩:∃ L,rdR D.f0.bytes=L:=⟨_,rfl⟩
    obtain⟨N,hN⟩:∃ N,rdN D.f0.bytes=N:=⟨_,rfl⟩
    rw[hL] at hok hrl
    rw[hN] at hNl
    have HBAD:Hid (regOk L=false→openE D=74∧openD D=noDrive∧openM D=noMem):=hid (fun h=>open_bad Hdo.out Te)
    have HOK:Hid (regOk L=true→openE D=0∧openD D=⟨⟨D.f0.bytes.take N,N⟩,noFile⟩∧openM D=⟨ordL L,0,a⟩):=hid (fun h=>by
     obtain⟨q1,q2,q3⟩:=open_good Hdo.out tB Te
     refine⟨q1,?_,?_⟩
     ·rw[q2,hat,hbest,←e3,hN];rfl
     ·rw[q3,hat,hbest,←e2,hL,←e1,HA.out])
    have HLr:=hid hL
    have HNr:=hid hN
    have Hok:=hid hok
    clear HZ H0 H1 hp hat hbest e1 e2 e3 hL hN hok
    go_enter Tryz.func16,Tryz.ntmps16
    go_wp2_with (go_at_call 59;refine(risDrive_any _ _ _ _ _ _ _ _ _).mono ?_;rintro e w1 ⟨rfl,E1,d1,rfl⟩)
    refine(read_any _ _ _ D.f0.bytes hl0 hc0 hbig0 hs0 _ (bytI ‹_›)).mono ?_
    rintro e w1 ⟨Ar0,nr0,cr0,rfl,hnr0,hor0,E2,d2,rfl⟩
    rw[HA.out]
    clear hor0 hnr0
    go_wp2_with fail
    refine(read_any _ _ _ D.f1.bytes hl1 hc1 hbig1 hs1 _ (bytI ‹_›)).mono ?_
    rintro e w1 ⟨Ar1,nr1,cr1,rfl,hnr1,hor1,E3,d3,rfl⟩
    rw[HB.out]
    clear hor1 hnr1
    go_wp2_with fail
    all_goals
     refine(read_any _ _ _ D.f0.bytes hl0 hc0 hbig0 hs0 _ (bytI ‹_›)).mono ?_
     rintro e w1 ⟨Ar,nr,cr,rfl,hnr,hor,E4,d4,rfl⟩
     rw[HA.out,HNr.out]
     rw[HLr.out] at hnr hor
     have hrr:=hor.of_slice
     have Hnr:=hid hnr.out
     have hnrb:nr≤100000:=by have:=hnr.out;omega
     clear hnr hor
     go_wp2_with fail
     refine(ordered_any _ _ _ L Hnr.out.symm hnrb _ (recI ‹_›)).mono ?_
     rintro e w1 ⟨Ao,no,co,lo,rfl,hno,hoo,hlo,E5,d5,rfl⟩
     rw[regOk_apart Hok.out Hnr.out]
     have Hno:=hid hno.out
     have Hoo:=hid hoo
     clear hno hoo
     cases hro:regOk L with
     | false=>
      have HE:=hid (HBAD.out hro)
      clear HBAD HOK hro
      go_wp2_with fail
      refine bodyPost_ret (v:=.tuple #[drvV none 0 0 0 none 0 0 0,memV none 0 0 0 0,.int .i64 74]) Td rfl ?_
      obtain⟨e1,e2,e3⟩:=HE.out
      rw[e1,e2,e3]
      exact⟨none,0,0,none,0,0,none,0,0,rfl,DrvX.zero _ _,MemX.zero _ _,exI⟩
     | true=>
      have HE:=hid (HOK.out hro)
      have Hlo:Hid (lo=ordL L):=hid (hlo.out (by simp only[regOk,Bool.and_eq_true,decide_eq_true_eq] at hro;exact hro.2))
      clear HBAD HOK hro hlo
      go_wp2_with fail
      refine(cut_any _ _ _ _ D.f0.bytes N hl0 tB hc0 tB _ (bytI ‹_›)).mono ?_
      rintro e w1 ⟨Af,cf,rfl,hbf,E6,d6,rfl⟩
      have Hbf:=hid hbf
      clear hbf hrr
      have hle1:w.heap.size+1+1+1≤w.heap.size+1+1+1+E1.size+E2.size+E3.size+E4.size+E5.size:=by omega
      have hle2:w.heap.size+1+1+1≤w.heap.size+1+1+1+E1.size+E2.size+E3.size+E4.size+E5.size+1:=by omega
      have hlt1:w.heap.size+1+1+1+E1.size+E2.size+E3.size+E4.size+E5.size<w.heap.size+1+1+1+E1.size+E2.size+E3.size+E4.size+E5.size+1+1+E6.size:=by omega
      have hlt2:w.heap.size+1+1+1+E1.size+E2.size+E3.size+E4.size+E5.size+1<w.heap.size+1+1+1+E1.size+E2.size+E3.size+E4.size+E5.size+1+1+E6.size:=by omega
      go_wp2_with fail
      refine wp_region_ord_from (w.heap.size+1+1+1) (.f 0 (.f 1 (.f 2 (.f 3 (.f 4 (.a 5 (.a 6 (.f 7 .d)))))))) tG tG ?_
      refine oR ?_
      refine wpOrd_act rfl rfl (fun K hK=> ?_)
      go_simp
      refine hK _ _ ⟨?_,?_⟩
      ·exact TO
      clear hK K
      try simp only[Act.put,zp]
      refine wpOrd_act rfl rfl (fun K hK=> ?_)
      go_simp
      refine hK _ _ ⟨?_,?_⟩
      ·exact TO
      clear hK K
      try simp only[Act.put,zp]
      refine oR ?_
      refine wpOrd_nil ?_
      all_goals
       go_wp2_with fail
      all_goals
       refine bodyPost_ret (v:=.tuple #[drvV Af N cf N none 0 0 0,memV Ao no co 0 a,.int .i64 0]) Td rfl ?_
       obtain⟨e1,e2,e3⟩:=HE.out
       rw[e1,e2,e3]
       refine⟨Af,N,cf,none,0,0,Ao,no,co,rfl,⟨by simp[hl0];omega,rfl,?_,OwnB.none _ _⟩,⟨by rw[←Hlo.out];exact Hno.out,?_⟩,exI⟩
       ·exact Tf
       ·rw[←Hlo.out]
        exact OwnR.moved2 Hoo.out tR ta ta TC
end Go.Proofs.YtekjdeibnfaehaaGreat
set_option linter.unusedSimpArgs false
set_option linter.unusedVariables false
namespace Go.Proofs.YtekjdeibnfaehaaGreat
open Go Go.RowKit
theorem rmem_eq0(L0 L1:List UInt8)(f0 f1:Int)(l:List Rec)(gen:Int):memOk ⟨⟨L0,f0⟩,⟨L1,f1⟩⟩ ⟨l,0,gen⟩=(driveOk ⟨⟨L0,f0⟩,⟨L1,f1⟩⟩&&(decide (L1=[])&&(pageOk L0&&(decide (genB L0=gen)&&(decide (longB L0=L0.length)&&(regOk (recsB L0)&&recsEqB (ordL (recsB L0)) l)))))):=by
 simp[memOk,inB,fileAt]
set_option maxRecDepth 100000 in
set_option maxHeartbeats 16000000 in
theorem rmem_any0(A0:Option Addr)(n0 c0:Nat)(A1:Option Addr)(n1 c1:Nat)(L0 L1:List UInt8)(f0 f1:Int)(Am:Option Addr)(nm cm:Nat)(l:List Rec)(gen:Int)(hm:l.length=nm)(hmb:nm≤9223372036854775807)(ht:TxtBig l)(w:World)
 (hD:DrvY w ⟨⟨L0,f0⟩,⟨L1,f1⟩⟩ A0 n0 c0 A1 n1 c1) (hr:Recs w Am l):
 Calls Tryz.prog 75 #[drvV A0 n0 c0 f0 A1 n1 c1 f1,memV Am nm cm 0 gen] w fun e w'=>e= .returned (.bool (memOk ⟨⟨L0,f0⟩,⟨L1,f1⟩⟩ ⟨l,0,gen⟩))∧Ext w w':=by
 obtain⟨hl0,hl1,hc0,hc1,hbig0,hbig1,hb0,hb1⟩:=hD
 simp only[] at hl0 hl1 hb0 hb1
 have hdo:=driveOk_eq ⟨⟨L0,f0⟩,⟨L1,f1⟩⟩ n0 n1 hl0 hl1
 simp only[] at hdo
 have heq:=rmem_eq0 L0 L1 f0 f1 l gen
 cases hk:dOk n0 f0 n1 f1 with
 | false=>
  have HM:=hid (show memOk ⟨⟨L0,f0⟩,⟨L1,f1⟩⟩ ⟨l,0,gen⟩=false by rw[heq,hdo,hk];rfl)
  clear heq hdo
  go_enter Tryz.func75,Tryz.ntmps75
  go_wp2_with (go_at_call 59;refine(risDrive_any _ _ _ _ _ _ _ _ _).mono ?_;rintro e w1 ⟨rfl,E1,d1,rfl⟩)
  go_ret
  exact⟨ret_val TI,exI⟩
 | true=>
  rw[hdo,hk,Bool.true_and] at heq
  obtain⟨hs0,hs1⟩:n0≤100000∧n1≤100000:=by
   simp only[dOk,fOk,Bool.and_eq_true,decide_eq_true_eq] at hk
   exact⟨hk.1.2,hk.2.2⟩
  have hin:inB 0 0 1=true:=by decide
  cases hc:checkB l with
  | false=>
   have he:=errReg_bad hc
   have HM:=hid (show memOk ⟨⟨L0,f0⟩,⟨L1,f1⟩⟩ ⟨l,0,gen⟩=false by
    cases h:memOk ⟨⟨L0,f0⟩,⟨L1,f1⟩⟩ ⟨l,0,gen⟩ with
    | false=>rfl
    | true=>have:=(memOk_facts h).2.2.2.1;rw[hc] at this;cases this)
   clear heq hdo hc
   go_enter Tryz.func75,Tryz.ntmps75
   go_wp2_with (first|(go_at_call 59;refine(risDrive_any _ _ _ _ _ _ _ _ _).mono ?_;rintro e w1 ⟨rfl,E1,d1,rfl⟩)|(go_at_call 92;refine(rin_any _ _ _ _).mono ?_;rintro e w1 ⟨rfl,rfl⟩)|(go_at_call 84;refine(rCheck_any _ _ _ _ tZ tB tF _ (recI ‹_›)).mono ?_;rintro e w1 ⟨rfl,E1,d1,rfl⟩))
   go_ret
   exact⟨ret_val TI,exI⟩
  | true=>
   have he:=errReg_ok hc
   have h80:=(checkB_iff.1 hc).1
   by_cases hz:n1=0
   ·have hnil:L1=[]:=List.eq_nil_of_length_eq_zero tB
    rw[decide_eq_true hnil,Bool.true_and] at heq
    have HQ:=hid heq
    have hrl:=rdR_len L0
    have Hrl:=hid hrl
    clear heq hdo hc hnil hrl
    subst hz
    go_enter Tryz.func75,Tryz.ntmps75
    go_wp2_with (first|(go_at_call 59;refine(risDrive_any _ _ _ _ _ _ _ _ _).mono ?_;rintro e w1 ⟨rfl,E1,d1,rfl⟩)|(go_at_call 92;refine(rin_any _ _ _ _).mono ?_;rintro e w1 ⟨rfl,rfl⟩)|(go_at_call 84;refine(rCheck_any _ _ _ _ tZ tB tF _ (recI ‹_›)).mono ?_;rintro e w1 ⟨rfl,E1,d1,rfl⟩))
    refine(read_any _ _ _ L0 hl0 hc0 hbig0 hs0 _ (bytI ‹_›)).mono ?_
    rintro e w1 ⟨Ar,nr,cr,rfl,hnr,hor,E2,d2,rfl⟩
    have hrr:=OwnR.of_slice hor
    have Hnr:=hid hnr.out
    clear hor hnr
    go_wp2_with fail
    refine(ordered_any _ _ _ (rdR L0) Hnr.out.symm (by have:=Hnr.out;have:=Hrl.out;omega) _ (recI ‹_›)).mono ?_
    rintro e w1 ⟨Ao,no,co,lo,rfl,hno,hoo,hap,E3,d3,rfl⟩
    have hro:=OwnR.of_slice hoo
    have Hno:=hid hno.out
    clear hoo hno
    obtain⟨ok,hok⟩:∃ ok,(decide (Apart (rdR L0))&&decide (nr≤80))=ok:=⟨_,rfl⟩
    rw[hok]
    have Hok:=hid hok
    obtain⟨rn,hrn⟩:∃ rn,rdN L0=rn:=⟨_,rfl⟩
    obtain⟨rg,hrg⟩:∃ rg,rdG L0=rg:=⟨_,rfl⟩
    rw[hrn,hrg]
    have Hrn:=hid hrn
    have Hrg:=hid hrg
    clear hok hrn hrg
    cases hp:pageOk L0 with
    | false=>
     obtain⟨g1,g2,g3⟩:=rd_no hp
     obtain rfl:rg=0:=by rw[←Hrg.out,g1]
     have HM:=hid (show memOk ⟨⟨L0,f0⟩,⟨L1,f1⟩⟩ ⟨l,0,gen⟩=false by rw[HQ.out,hp];rfl)
     clear g1 g2 g3 hp
     cases ok
     all_goals
      go_wp2_with fail
      refine bodyPost_ret (v:=.bool false) (by simp[results,Tryz.results75,go_sem]) rfl ?_
      exact⟨by rw[HM.out],exI⟩
    | true=>
     obtain⟨g1,g2,g3⟩:=rd_yes hp
     rw[g2] at Hok Hnr hap
     have hgp:1≤rg:=by
      rw[←Hrg.out]
      rcases rdG_pos (l:=L0) with⟨_,h⟩|⟨h,_⟩
      ·rw[hp] at h;cases h
      ·exact h
     have hreg:ok=regOk (recsB L0):=by
      rw[←Hok.out,regOk_apart (by rw[←g2];exact rdR_ok L0) Hnr.out]
     rw[hp,Bool.true_and,←hreg,show genB L0=rg from by rw[←Hrg.out,g1],show longB L0=rn from by rw[←Hrn.out,g3],hl0] at HQ
     clear g1 g2 g3 hp
     cases ok with
     | false=>
      have HM:=hid (show memOk ⟨⟨L0,f0⟩,⟨L1,f1⟩⟩ ⟨l,0,gen⟩=false by rw[HQ.out];simp)
      clear HQ hreg hap Hok
      go_wp2_with fail
      go_ret
      exact⟨ret_val TI,exI⟩
     | true=>
      have hlo:lo=ordL (recsB L0):=hap.out (by
       have:=Hok.out
       simp only[Bool.and_eq_true,decide_eq_true_eq] at this
       exact this.1)
      have hlen:=hid (show no≤200000 by
       have q:=Hok.out
       simp only[Bool.and_eq_true,decide_eq_true_eq] at q
       rw[Hno.out,hlo,(ordL_perm _).length_eq,←Hnr.out]
       omega)
      rw[←hlo] at HQ
      have HQ2:=hid HQ.out
      clear HQ hlo hreg hap
      cases k1:(rg==gen) with
      | false=>
       have HM:=hid (show memOk ⟨⟨L0,f0⟩,⟨L1,f1⟩⟩ ⟨l,0,gen⟩=false by
        rw[HQ2.out]
        (have :¬ rg=gen:=by simpa using k1);simp[this])
       clear HQ2
       go_wp2_with fail
       go_ret
       exact⟨ret_val TI,exI⟩
      | true=>
       cases k2:((rn:Int)==(n0:Int)) with
       | false=>
        have HM:=hid (show memOk ⟨⟨L0,f0⟩,⟨L1,f1⟩⟩ ⟨l,0,gen⟩=false by
         rw[HQ2.out]
         have h9:¬ (rn:Int)=n0:=by simpa using k2
         have:¬ rn=n0:=fun h=>h9 (by rw[h])
         simp[this])
        clear HQ2
        go_wp2_with fail
        go_ret
        exact⟨ret_val TI,exI⟩
       | true=>
        have HM:=hid (show memOk ⟨⟨L0,f0⟩,⟨L1,f1⟩⟩ ⟨l,0,gen⟩=recsEqB lo l by
         rw[HQ2.out]
         have h9:(rn:Int)=n0:=by simpa using k2
         have h1:rn=n0:=by omega
         simp[eq_of_beq k1,h1])
        clear HQ2
        go_wp2_with (go_at_call 53;refine(Same_any _ _ _ _ _ _ lo l Hno.out.symm hm (by have:=hlen.out;omega) _ (recI ‹_›) (recI ‹_›)).mono ?_;rintro e w1 ⟨rfl,E5,d5,rfl⟩)
        go_ret
        exact⟨ret_val TI,exI⟩
   ·have hnil:¬ L1=[]:=fun h=>hz (by rw[←hl1,h];rfl)
    rw[decide_eq_false hnil,Bool.false_and] at heq
    have HM:=hid heq
    clear heq hdo hc hnil
    go_enter Tryz.func75,Tryz.ntmps75
    go_wp2_with (first|(go_at_call 59;refine(risDrive_any _ _ _ _ _ _ _ _ _).mono ?_;rintro e w1 ⟨rfl,E1,d1,rfl⟩)|(go_at_call 92;refine(rin_any _ _ _ _).mono ?_;rintro e w1 ⟨rfl,rfl⟩)|(go_at_call 84;refine(rCheck_any _ _ _ _ tZ tB tF _ (recI ‹_›)).mono ?_;rintro e w1 ⟨rfl,E1,d1,rfl⟩))
    go_ret
    exact⟨ret_val TI,exI⟩
theorem rmem_eq1(L0 L1:List UInt8)(f0 f1:Int)(l:List Rec)(gen:Int):memOk ⟨⟨L0,f0⟩,⟨L1,f1⟩⟩ ⟨l,1,gen⟩=(driveOk ⟨⟨L0,f0⟩,⟨L1,f1⟩⟩&&(decide (L0=[])&&(pageOk L1&&(decide (genB L1=gen)&&(decide (longB L1=L1.length)&&(regOk (recsB L1)&&recsEqB (ordL (recsB L1)) l)))))):=by
 simp[memOk,inB,fileAt]
set_option maxRecDepth 100000 in
set_option maxHeartbeats 16000000 in
theorem rmem_any1(A0:Option Addr)(n0 c0:Nat)(A1:Option Addr)(n1 c1:Nat)(L0 L1:List UInt8)(f0 f1:Int)(Am:Option Addr)(nm cm:Nat)(l:List Rec)(gen:Int)(hm:l.length=nm)(hmb:nm≤9223372036854775807)(ht:TxtBig l)(w:World)
 (hD:DrvY w ⟨⟨L0,f0⟩,⟨L1,f1⟩⟩ A0 n0 c0 A1 n1 c1) (hr:Recs w Am l):
 Calls Tryz.prog 75 #[drvV A0 n0 c0 f0 A1 n1 c1 f1,memV Am nm cm 1 gen] w fun e w'=>e= .returned (.bool (memOk ⟨⟨L0,f0⟩,⟨L1,f1⟩⟩ ⟨l,1,gen⟩))∧Ext w w':=by
 obtain⟨hl0,hl1,hc0,hc1,hbig0,hbig1,hb0,hb1⟩:=hD
 simp only[] at hl0 hl1 hb0 hb1
 have hdo:=driveOk_eq ⟨⟨L0,f0⟩,⟨L1,f1⟩⟩ n0 n1 hl0 hl1
 simp only[] at hdo
 have heq:=rmem_eq1 L0 L1 f0 f1 l gen
 cases hk:dOk n0 f0 n1 f1 with
 | false=>
  have HM:=hid (show memOk ⟨⟨L0,f0⟩,⟨L1,f1⟩⟩ ⟨l,1,gen⟩=false by rw[heq,hdo,hk];rfl)
  clear heq hdo
  go_enter Tryz.func75,Tryz.ntmps75
  go_wp2_with (go_at_call 59;refine(risDrive_any _ _ _ _ _ _ _ _ _).mono ?_;rintro e w1 ⟨rfl,E1,d1,rfl⟩)
  go_ret
  exact⟨ret_val TI,exI⟩
 | true=>
  rw[hdo,hk,Bool.true_and] at heq
  obtain⟨hs0,hs1⟩:n0≤100000∧n1≤100000:=by
   simp only[dOk,fOk,Bool.and_eq_true,decide_eq_true_eq] at hk
   exact⟨hk.1.2,hk.2.2⟩
  have hin:inB 1 0 1=true:=by decide
  cases hc:checkB l with
  | false=>
   have he:=errReg_bad hc
   have HM:=hid (show memOk ⟨⟨L0,f0⟩,⟨L1,f1⟩⟩ ⟨l,1,gen⟩=false by
    cases h:memOk ⟨⟨L0,f0⟩,⟨L1,f1⟩⟩ ⟨l,1,gen⟩ with
    | false=>rfl
    | true=>have:=(memOk_facts h).2.2.2.1;rw[hc] at this;cases this)
   clear heq hdo hc
   go_enter Tryz.func75,Tryz.ntmps75
   go_wp2_with (first|(go_at_call 59;refine(risDrive_any _ _ _ _ _ _ _ _ _).mono ?_;rintro e w1 ⟨rfl,E1,d1,rfl⟩)|(go_at_call 92;refine(rin_any _ _ _ _).mono ?_;rintro e w1 ⟨rfl,rfl⟩)|(go_at_call 84;refine(rCheck_any _ _ _ _ tZ tB tF _ (recI ‹_›)).mono ?_;rintro e w1 ⟨rfl,E1,d1,rfl⟩))
   go_ret
   exact⟨ret_val TI,exI⟩
  | true=>
   have he:=errReg_ok hc
   have h80:=(checkB_iff.1 hc).1
   by_cases hz:n0=0
   ·have hnil:L0=[]:=List.eq_nil_of_length_eq_zero tB
    rw[decide_eq_true hnil,Bool.true_and] at heq
    have HQ:=hid heq
    have hrl:=rdR_len L1
    have Hrl:=hid hrl
    clear heq hdo hc hnil hrl
    subst hz
    go_enter Tryz.func75,Tryz.ntmps75
    go_wp2_with (first|(go_at_call 59;refine(risDrive_any _ _ _ _ _ _ _ _ _).mono ?_;rintro e w1 ⟨rfl,E1,d1,rfl⟩)|(go_at_call 92;refine(rin_any _ _ _ _).mono ?_;rintro e w1 ⟨rfl,rfl⟩)|(go_at_call 84;refine(rCheck_any _ _ _ _ tZ tB tF _ (recI ‹_›)).mono ?_;rintro e w1 ⟨rfl,E1,d1,rfl⟩))
    refine(read_any _ _ _ L1 hl1 hc1 hbig1 hs1 _ (bytI ‹_›)).mono ?_
    rintro e w1 ⟨Ar,nr,cr,rfl,hnr,hor,E2,d2,rfl⟩
    have hrr:=OwnR.of_slice hor
    have Hnr:=hid hnr.out
    clear hor hnr
    go_wp2_with fail
    refine(ordered_any _ _ _ (rdR L1) Hnr.out.symm (by have:=Hnr.out;have:=Hrl.out;omega) _ (recI ‹_›)).mono ?_
    rintro e w1 ⟨Ao,no,co,lo,rfl,hno,hoo,hap,E3,d3,rfl⟩
    have hro:=OwnR.of_slice hoo
    have Hno:=hid hno.out
    clear hoo hno
    obtain⟨ok,hok⟩:∃ ok,(decide (Apart (rdR L1))&&decide (nr≤80))=ok:=⟨_,rfl⟩
    rw[hok]
    have Hok:=hid hok
    obtain⟨rn,hrn⟩:∃ rn,rdN L1=rn:=⟨_,rfl⟩
    obtain⟨rg,hrg⟩:∃ rg,rdG L1=rg:=⟨_,rfl⟩
    rw[hrn,hrg]
    have Hrn:=hid hrn
    have Hrg:=hid hrg
    clear hok hrn hrg
    cases hp:pageOk L1 with
    | false=>
     obtain⟨g1,g2,g3⟩:=rd_no hp
     obtain rfl:rg=0:=by rw[←Hrg.out,g1]
     have HM:=hid (show memOk ⟨⟨L0,f0⟩,⟨L1,f1⟩⟩ ⟨l,1,gen⟩=false by rw[HQ.out,hp];rfl)
     clear g1 g2 g3 hp
     cases ok
     all_goals
      go_wp2_with fail
      refine bodyPost_ret (v:=.bool false) (by simp[results,Tryz.results75,go_sem]) rfl ?_
      exact⟨by rw[HM.out],exI⟩
    | true=>
     obtain⟨g1,g2,g3⟩:=rd_yes hp
     rw[g2] at Hok Hnr hap
     have hgp:1≤rg:=by
      rw[←Hrg.out]
      rcases rdG_pos (l:=L1) with⟨_,h⟩|⟨h,_⟩
      ·rw[hp] at h;cases h
      ·exact h
     have hreg:ok=regOk (recsB L1):=by
      rw[←Hok.out,regOk_apart (by rw[←g2];exact rdR_ok L1) Hnr.out]
     rw[hp,Bool.true_and,←hreg,show genB L1=rg from by rw[←Hrg.out,g1],show longB L1=rn from by rw[←Hrn.out,g3],hl1] at HQ
     clear g1 g2 g3 hp
     cases ok with
     | false=>
      have HM:=hid (show memOk ⟨⟨L0,f0⟩,⟨L1,f1⟩⟩ ⟨l,1,gen⟩=false by rw[HQ.out];simp)
      clear HQ hreg hap Hok
      go_wp2_with fail
      go_ret
      exact⟨ret_val TI,exI⟩
     | true=>
      have hlo:lo=ordL (recsB L1):=hap.out (by
       have:=Hok.out
       simp only[Bool.and_eq_true,decide_eq_true_eq] at this
       exact this.1)
      have hlen:=hid (show no≤200000 by
       have q:=Hok.out
       simp only[Bool.and_eq_true,decide_eq_true_eq] at q
       rw[Hno.out,hlo,(ordL_perm _).length_eq,←Hnr.out]
       omega)
      rw[←hlo] at HQ
      have HQ2:=hid HQ.out
      clear HQ hlo hreg hap
      cases k1:(rg==gen) with
      | false=>
       have HM:=hid (show memOk ⟨⟨L0,f0⟩,⟨L1,f1⟩⟩ ⟨l,1,gen⟩=false by
        rw[HQ2.out]
        (have :¬ rg=gen:=by simpa using k1);simp[this])
       clear HQ2
       go_wp2_with fail
       go_ret
       exact⟨ret_val TI,exI⟩
      | true=>
       cases k2:((rn:Int)==(n1:Int)) with
       | false=>
        have HM:=hid (show memOk ⟨⟨L0,f0⟩,⟨L1,f1⟩⟩ ⟨l,1,gen⟩=false by
         rw[HQ2.out]
         have h9:¬ (rn:Int)=n1:=by simpa using k2
         have:¬ rn=n1:=fun h=>h9 (by rw[h])
         simp[this])
        clear HQ2
        go_wp2_with fail
        go_ret
        exact⟨ret_val TI,exI⟩
       | true=>
        have HM:=hid (show memOk ⟨⟨L0,f0⟩,⟨L1,f1⟩⟩ ⟨l,1,gen⟩=recsEqB lo l by
         rw[HQ2.out]
         have h9:(rn:Int)=n1:=by simpa using k2
         have h1:rn=n1:=by omega
         simp[eq_of_beq k1,h1])
        clear HQ2
        go_wp2_with (go_at_call 53;refine(Same_any _ _ _ _ _ _ lo l Hno.out.symm hm (by have:=hlen.out;omega) _ (recI ‹_›) (recI ‹_›)).mono ?_;rintro e w1 ⟨rfl,E5,d5,rfl⟩)
        go_ret
        exact⟨ret_val TI,exI⟩
   ·have hnil:¬ L0=[]:=fun h=>hz (by rw[←hl0,h];rfl)
    rw[decide_eq_false hnil,Bool.false_and] at heq
    have HM:=hid heq
    clear heq hdo hc hnil
    go_enter Tryz.func75,Tryz.ntmps75
    go_wp2_with (first|(go_at_call 59;refine(risDrive_any _ _ _ _ _ _ _ _ _).mono ?_;rintro e w1 ⟨rfl,E1,d1,rfl⟩)|(go_at_call 92;refine(rin_any _ _ _ _).mono ?_;rintro e w1 ⟨rfl,rfl⟩)|(go_at_call 84;refine(rCheck_any _ _ _ _ tZ tB tF _ (recI ‹_›)).mono ?_;rintro e w1 ⟨rfl,E1,d1,rfl⟩))
    go_ret
    exact⟨ret_val TI,exI⟩
end Go.Proofs.YtekjdeibnfaehaaGreat
set_option linter.unusedSimpArgs false
set_option linter.unusedVariables false
namespace Go.Proofs.YtekjdeibnfaehaaGreat
open Go Go.RowKit
set_option maxRecDepth 100000 in
set_option maxHeartbeats 4000000 in
theorem rsameMem_any(Am:Option Addr)(nm cm:Nat)(l:List Rec)(f g:Int)(hm:l.length=nm)(hbig:nm≤1000000)(w:World)(hr:Recs w Am l):
 Calls Tryz.prog 77 #[memV Am nm cm f g] w fun e w'=> ∃A' n' c',e= .returned (memV A' n' c' f g)∧Hid (n'=l.length)∧RecsA w.heap.size w' A' l∧Ext w w':=by
 go_enter Tryz.func77,Tryz.ntmps77
 go_wp2_with fail
 refine(rcopied_any _ _ _ l hm hbig _ (recI ‹_›)).mono ?_
 rintro e w1 ⟨Ac,nc,cc,rfl,hnc,hvc,E1,d1,rfl⟩
 have hra:=hvc.anc
 clear hvc
 go_wp2_with fail
 refine bodyPost_ret (v:=memV Ac nc cc f g) (by simp[results,Tryz.results77,go_sem]) rfl ?_
 refine⟨Ac,nc,cc,rfl,hnc,?_,exI⟩
 exact RecsA.moved2 hra (Ext.refl _) tE (Nat.le_refl _) tA
set_option maxRecDepth 100000 in
set_option maxHeartbeats 4000000 in
theorem rhead_any(gen cnt:Int)(hg0:0≤gen)(hg1:gen≤9223372036854775807)(hc0:0≤cnt)(hc1:cnt≤9223372036854775807)(w:World):
 Calls Tryz.prog 80 #[.int .i64 gen,.int .i64 cnt] w fun e w'=> ∃v,e= .returned v∧OwnB w.heap.size w' v (headB gen cnt)∧Ext w w':=by
 have hem:OwnB w.heap.size (w.alloc (.cells #[] 5)) (.slice (some ⟨w.heap.size,0,none⟩) 0 0) []:=ownsRow_empty w w.heap.size _ _ (Nat.le_refl _)
 go_enter Tryz.func80,Tryz.ntmps80
 go_wp2_with (at_builtin;refine wpList_append_string (w:=w) rfl _ _ rfl rfl ((Ext.refl _).alloc _) hem rfl tN ?_;intro v1 E1 d1 hb1)
 refine(rput_i w v1 _ gen 4 _ ((Ext.refl w).ext _ _) hb1 hg0 hg1 tB tB tE).mono ?_
 rintro e w1 ⟨v2,E2,d2,rfl,rfl,hb2⟩
 go_wp2_with fail
 refine(rput_i w v2 _ cnt 2 _ ((Ext.refl w).ext _ _) hb2 hc0 hc1 tB tB (by simp[numB_length])).mono ?_
 rintro e w1 ⟨v3,E3,d3,rfl,rfl,hb3⟩
 go_wp2_with fail
 go_ret
 exact⟨v3,rfl,OwnB.congr hb3 (by simp[headB,moorB]),(Ext.refl w).ext _ _⟩
set_option maxRecDepth 100000 in
set_option maxHeartbeats 4000000 in
theorem rframe_any(r:Rec)(hr:RecNum r)(w:World):
 Calls Tryz.prog 78 #[recV r] w fun e w'=> ∃A c,e= .returned (.slice A (24+r.text.size) c)∧Byt w' A (frameB r)∧Ext w w':=by
 obtain⟨i0,hi,hz0,hz1,hz2⟩:=info_parts info_u8
 have hrb:=recB_length r
 have htx:=hr.text
 go_enter Tryz.func78,Tryz.ntmps78
 go_wp2_with (first|(at_builtin;have hq:=OwnB.lit ((w.alloc (.cells #[.int .i64 r.ao,.int .i64 r.sq,.int .i64 r.kind,.int .i64 r.ship,.int .i64 r.day,.int .i64 r.known,.int .i64 r.wo,.int .i64 r.ws,.int .i64 r.to,.int .i64 r.til,.string r.text] 46)).ext E1 d1) (byteI (23+(r.text.size:Int)) 0) (w.heap.size+1+E1.size) ta (.int .u8 ((23+(r.text.size:Int)) % 256)) (by rw[byteI_toNat _ tB];simp);have hq2:Sl 1 (((w.alloc (.cells #[.int .i64 r.ao,.int .i64 r.sq,.int .i64 r.kind,.int .i64 r.ship,.int .i64 r.day,.int .i64 r.known,.int .i64 r.wo,.int .i64 r.ws,.int .i64 r.to,.int .i64 r.til,.string r.text] 46)).ext E1 d1).alloc (.cells #[.int .u8 ((23+(r.text.size:Int)) % 256)] 5)) A1 (23+r.text.size) ((recB r).map encB):=TB;refine wpList_append (w:=(w.alloc (.cells #[.int .i64 r.ao,.int .i64 r.sq,.int .i64 r.kind,.int .i64 r.ship,.int .i64 r.day,.int .i64 r.known,.int .i64 r.wo,.int .i64 r.ws,.int .i64 r.to,.int .i64 r.til,.string r.text] 46)).ext E1 d1) rfl _ _ 22 rfl 5 i0 _ 1 1 Tryz.underlying22 hi hz0 hz1 hz2 rfl tN rfl ((Ext.refl _).alloc _) hq rfl hq2 (encB_one _) (by simp only[List.length_cons,List.length_nil];unfold maxLen;omega) (by simp only[List.length_cons,List.length_nil];omega) (fun v2 E2 d2 ho2=> ?_))|(go_at_call 132;refine(encode_v _ tF _).mono ?_;rintro e w1 ⟨A1,c1,rfl,hb1,E1,d1,rfl⟩))
 go_ret
 have hfl:(frameB r).length=24+r.text.size:=by simp[frameB,hrb];omega
 obtain⟨A2,c2,rfl,hcc,hsl⟩:=ownsRow_slice ho2
 refine⟨A2,c2,ret_val (congrArg (fun n=>Value.slice A2 n c2) tA),?_,exI⟩
 unfold Byt
 rw[hfl]
 have e1:[byteI (23+(r.text.size:Int)) 0].length+(23+r.text.size)=24+r.text.size:=by simp;omega
 rw[e1] at hsl
 exact hsl
end Go.Proofs.YtekjdeibnfaehaaGreat
