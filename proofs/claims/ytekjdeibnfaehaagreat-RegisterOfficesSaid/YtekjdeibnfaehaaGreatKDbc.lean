/- Texts of a proof. -/
import Derived.Test.YtekjdeibnfaehaaGreatKDar
set_option linter.unusedSimpArgs false
set_option linter.unusedVariables false
namespace Go.Proofs.YtekjdeibnfaehaaGreat
open Go Go.RowKit
theorem add_all(A0:Option Addr)(n0 c0:Nat)(A1:Option Addr)(n1 c1:Nat)(D:DriveD)(Am:Option Addr)(nm cm:Nat)(M:MemD)(r:Rec)(hm:M.recs.length=nm)(hmo:memOk D M=true)(htx:r.text.size≤9223372036854775807)(X:World)
 (hD:DrvY X D A0 n0 c0 A1 n1 c1) (hr:Recs X Am M.recs):
 Calls Tryz.prog 74 #[.pointer (some ⟨X.heap.size,0,none⟩),recV r] (X.alloc (.cells #[.slice A0 n0 c0,.int .i64 D.f0.firm,.slice A1 n1 c1,.int .i64 D.f1.firm,.slice Am nm cm,.int .i64 M.file,.int .i64 M.gen] 131)) fun e w'=>
  e= .returned (.int .i64 (appE D M r))∧Ext X w'∧(appE D M r=0→∃ B0 m0 d0 B1 m1 d1 Ag ng cg,BoxC w' X.heap.size [.slice B0 m0 d0,.int .i64 (appD D M r).f0.firm,.slice B1 m1 d1,.int .i64 (appD D M r).f1.firm,.slice Ag ng cg,.int .i64 (appM D M r).file,.int .i64 (appM D M r).gen] 131∧
   DrvA (X.heap.size+1) w' (appD D M r) B0 m0 d0 B1 m1 d1∧MemA (X.heap.size+1) w' (appM D M r) Ag ng cg∧ng≤cg∧cg≤9223372036854775807):=by
 obtain⟨hl0,hl1,hc0,hc1,hbig0,hbig1,hb0,hb1⟩:=hD
 obtain⟨hok,h01,hnil,hck,-,-⟩:=memOk_facts hmo
 obtain⟨hs0,hs1⟩:=driveOk_len hok
 rw[hl0] at hs0
 rw[hl1] at hs1
 obtain⟨h80,hall,hsrt⟩:=checkB_iff.1 hck
 have hnm:nm≤100000:=by omega
 by_cases hje:jaddE M.recs r=0
 ·have hrk:recOk r=true:=by
   cases hq:recOk r with
   | true=>rfl
   | false=>rw[jaddE,hq] at hje;cases hje
  have hpe:putE M.recs r=0:=by rw[jaddE,hrk] at hje;exact hje
  obtain⟨h1,h2,h3⟩:=appE_ok hmo hrk hpe
  cases hh:hasR M.recs r.ao r.sq with
  | true=>
   have hpl:=putL_has hsrt hh hpe
   rw[hh,if_pos rfl] at h2
   refine(add_hit A0 n0 c0 D.f0.firm A1 n1 c1 D.f1.firm Am nm cm M.file M.gen D.f0.bytes D.f1.bytes M.recs r hl0 hl1 hs0 hs1 hm hnm hsrt hrk hpe (by rw[hpl]) X hr hb0 hb1).mono ?_
   rintro e w1 ⟨B0,m0,d0,B1,m1,d1,Ag,ng,cg,rfl,hx,hfa,hy0,hy1,hng,hog⟩
   obtain⟨q0,q1,q2,q3,q4,q5⟩:=hfa.out
   rw[h1,h2,h3]
   exact⟨rfl,((Ext.refl X).alloc _).trans hx,fun _=>⟨B0,m0,d0,B1,m1,d1,Ag,ng,cg,(BoxC.new X _ _).of_ext hx,⟨q0.symm,q1.symm,q2,q3,q4,q5,hy0.anc,hy1.anc⟩,⟨hng.out.symm,hog.anc⟩,hog.caps⟩⟩
  | false=>
   have hpl:=putL_fresh hh hpe
   rw[hh,if_neg tN] at h2
   rcases h01 with h01|h01
   ·rw[h01] at hnil h2 h3
    rw[h01,h1,h2,h3]
    refine(add_new0 A0 n0 c0 D.f0.firm A1 n1 c1 D.f1.firm Am nm cm M.gen D.f0.bytes D.f1.bytes M.recs r hl0 hl1 hs0 hs1 hm hnm hsrt hrk hpe hpl hnil X hr hb0 hb1).mono ?_
    rintro e w1 ⟨B0,m0,d0,B1,m1,d1,Ag,ng,cg,rfl,hx,hfa,hy0,hy1,hng,hog⟩
    obtain⟨q0,q1,q2,q3,q4,q5⟩:=hfa.out
    exact⟨rfl,((Ext.refl X).alloc _).trans hx,fun _=>⟨B0,m0,d0,B1,m1,d1,Ag,ng,cg,(BoxC.new X _ _).of_ext hx,⟨q0.symm,q1.symm,q2,q3,q4,q5,hy0.anc,hy1.anc⟩,⟨hng.out.symm,hog.anc⟩,hog.caps⟩⟩
   ·rw[h01] at hnil h2 h3
    rw[h01,h1,h2,h3]
    refine(add_new1 A0 n0 c0 D.f0.firm A1 n1 c1 D.f1.firm Am nm cm M.gen D.f0.bytes D.f1.bytes M.recs r hl0 hl1 hs0 hs1 hm hnm hsrt hrk hpe hpl hnil X hr hb0 hb1).mono ?_
    rintro e w1 ⟨B0,m0,d0,B1,m1,d1,Ag,ng,cg,rfl,hx,hfa,hy0,hy1,hng,hog⟩
    obtain⟨q0,q1,q2,q3,q4,q5⟩:=hfa.out
    exact⟨rfl,((Ext.refl X).alloc _).trans hx,fun _=>⟨B0,m0,d0,B1,m1,d1,Ag,ng,cg,(BoxC.new X _ _).of_ext hx,⟨q0.symm,q1.symm,q2,q3,q4,q5,hy0.anc,hy1.anc⟩,⟨hng.out.symm,hog.anc⟩,hog.caps⟩⟩
 ·obtain⟨h1,h2,h3⟩:=appE_err hmo hje
  rw[h1]
  refine(add_bad A0 n0 c0 D.f0.firm A1 n1 c1 D.f1.firm Am nm cm M.file M.gen M.recs r hm hnm hsrt htx hje X hr).mono ?_
  rintro e w1 ⟨rfl,hx⟩
  exact⟨rfl,hx,fun h=>absurd h hje⟩
end Go.Proofs.YtekjdeibnfaehaaGreat
