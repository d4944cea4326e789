/- Texts of a proof. -/
import Derived.Test.YtekjdeibnfaehaaGreatKDau
import Derived.Test.YtekjdeibnfaehaaGreatKDai
set_option linter.unusedSimpArgs false
set_option linter.unusedVariables false
namespace Go.Proofs.YtekjdeibnfaehaaGreat
open Go Go.RowKit
@[go_sem] theorem cell?_dx(w:World)(E:Array Obj)(d n i:Nat)(hn:n<w.heap.size):(w.drew.ext E d).cell? ⟨n,i,none⟩=w.cell? ⟨n,i,none⟩:=cell?_ext w.drew E d n i none hn
@[go_sem] theorem frozen?_dx(w:World)(E:Array Obj)(d n i:Nat)(hn:n<w.heap.size):(w.drew.ext E d).frozen? ⟨n,i,none⟩=w.frozen? ⟨n,i,none⟩:=frozen?_ext w.drew E d n i none hn
@[go_sem] theorem setCell_dx(w:World)(E:Array Obj)(d n i:Nat)(v:Value)(hn:n<w.heap.size):(w.drew.ext E d).setCell ⟨n,i,none⟩ v=(w.setCell ⟨n,i,none⟩ v).drew.ext E d:=setCell_ext w.drew E d n i none v hn
theorem BytA.ext{base:Nat}{P:World}{A:Option Addr}{l:List UInt8}(h:BytA base P A l)(E:Array Obj)(d:Nat):BytA base (P.ext E d) A l:=h.of_ext ((Ext.refl P).ext E d)
set_option maxRecDepth 100000 in
theorem append_byt3{W:World}{N:Nat}(ty:TypeId){v:Value}{l news:List UInt8}(hN:N≤W.heap.size)(hown:OwnB N W v l){A:Option Addr}{m c:Nat}(hm:m=news.length)(h0:0<m)(hr:Byt W A news)(hlen:l.length+news.length≤1000000):
 ∃v' W',(Builtin.append_ #[22,22] ty #[v,.slice A m c]).run Tryz.prog W= .ok v' W'∧Below N W W'∧OwnB N W' v' (l++news)∧(∀b cs t,v.ownBlock≠some b→BoxC W b cs t→BoxC W' b cs t):=by
 subst hm
 obtain⟨i0,hi,hz0,hz1,hz2⟩:=info_parts info_u8
 obtain⟨g,o',rfl,hg,hc⟩:=hr.2 h0
 have hcells:∀ j u,(news.map encB)[j]? =some u→W.cell? ((⟨g,o',none⟩:Addr).add j)=some u:=by
  intro j u hu
  rw[←hc j u hu]
  unfold Addr.add
  by_cases hj:j=0
  ·subst hj;rfl
  ·rw[if_neg hj]
 obtain⟨v',w',hrun,h2,h3,_,_⟩:=run_append_own_at (P:=Tryz.prog) W N 22 ty 5 i0 _ 1 1 Tryz.underlying22 hi hz0 hz1 hz2 rfl tN v l.length _ hown ⟨g,o',none⟩ news.length c _ hr.1 hcells (encB_one _) tO tB hN
 refine⟨v',w',hrun,(Below.refl N W).grown h3 hN (own_base hown),?_,fun b cs t hne hb=> ?_⟩
 ·unfold OwnB
  rw[List.length_append,List.map_append]
  exact h2
 ·exact(h3.block b hb.lt (fun e=>hne e.symm)).trans hb
theorem wpOrd_abyt3{P:Program}(hP:P=Tryz.prog){ops:Array Oper}{Q:Exit→Act→World→Prop}{S:World→Prop}{i:Nat}{rest:Plan}{a:Act}{W:World}{o:Oper}(N:Nat)(hN:N≤W.heap.size)(hi:ops[i]? =some o)
 (hw:Region.wanted o (yielded ops a.tmps)=true) (s x:Operand) (ho:o.op= .call {callee:=.builtin .append,args:=#[s,x],argTypes:=#[22,22]})
 {v:Value} {l:List UInt8} (news:List UInt8) (hs:a.eval s=v) (hown:OwnB N W v l)
 {A:Option Addr} {m c:Nat} (hv:a.eval x= .slice A m c) (hm:m=news.length) (h0:0<m) (hr:Byt W A news) (hlen:l.length+news.length≤1000000)
 (h:∀ v' W',Below N W W'→OwnB N W' v' (l++news)→(∀b cs t,v.ownBlock≠some b→BoxC W b cs t→BoxC W' b cs t)→S W'∧wpOrd P ops Q S rest (a.put o.dst v') W'):wpOrd P ops Q S (.a i rest) a W:=by
 refine wpOrd_act hi hw fun K hK=> ?_
 obtain⟨v',W',h1,h2,h3,h4⟩:=append_byt3 o.type hN hown (c:=c) hm h0 hr hlen
 rw[←hP] at h1
 exact wp_append_run s x _ _ ho hs hv h1 (hK _ _ (h v' W' h2 h3 h4))
theorem BytA.setBox{base:Nat}{P:World}{A:Option Addr}{l:List UInt8}{b i:Nat}{cs:List Value}{t:TypeId}{v:Value}(h:BytA base P A l)(hl:0<l.length)(hb:BoxC P b cs t)(hc:∀ u,u∈cs→∀ x,u≠.int .u8 x):BytA base (P.setCell ⟨b,i,none⟩ v) A l:=by
 refine⟨⟨h.1.1,fun hn=> ?_⟩,h.2⟩
 obtain⟨g,o,rfl,hg,hc2⟩:=h.1.2 hn
 have hgb:b≠g:=by
  intro e
  subst e
  cases l with
  | nil=>exact absurd hl (Nat.lt_irrefl 0)
  | cons y ys=>
   have h0:=hc2 0 (encB y) rfl
   have h1:P.cell? ⟨b,o,none⟩=some (encB y):=h0
   simp only[World.cell?,show P.heap[b]? =some (.cells cs.toArray t (0,0)) from hb,Option.isSome_none,Bool.false_eq_true,if_false,List.getElem?_toArray] at h1
   exact hc _ (List.mem_of_getElem? h1) _ rfl
 refine⟨g,o,rfl,by rw[World.size_setCell];exact hg,fun j u hu=> ?_⟩
 rw[World.cell?_setCell_other _ _ _ _ (by intro e;have:=congrArg Addr.block e;simp only at this;omega)]
 exact hc2 j u hu
theorem add_of{l:List Rec}{r:Rec}(hc:checkB l=true):addE l r=(if recOk r=true then putE l r else 70)∧addL l r=(if recOk r=true then putL l r else[]):=by
 rw[addE,addL,if_pos hc,if_pos hc];exact⟨rfl,rfl⟩
set_option maxRecDepth 100000 in
set_option maxHeartbeats 16000000 in
theorem rapp_err0(A0:Option Addr)(n0 c0:Nat)(A1:Option Addr)(n1 c1:Nat)(L0 L1:List UInt8)(f0 f1:Int)(Am:Option Addr)(nm cm:Nat)(l:List Rec)(gen:Int)(r:Rec)(hm:l.length=nm)(hmb:nm≤9223372036854775807)(ht:TxtBig l)(hrt:r.text.size≤9223372036854775807)(hmo:memOk ⟨⟨L0,f0⟩,⟨L1,f1⟩⟩ ⟨l,0,gen⟩=true)(he:¬ addE l r=0)(w:World)
 (hD:DrvY w ⟨⟨L0,f0⟩,⟨L1,f1⟩⟩ A0 n0 c0 A1 n1 c1) (hr:Recs w Am l):Calls Tryz.prog 20 #[drvV A0 n0 c0 f0 A1 n1 c1 f1,memV Am nm cm 0 gen,recV r] w fun e w'=>e= .returned (.tuple #[drvV none 0 0 0 none 0 0 0,memV none 0 0 0 0,.int .i64 (addE l r)])∧Ext w w':=by
 have hmem:=fun P (hx:Ext w P)=>rmem_any0 A0 n0 c0 A1 n1 c1 L0 L1 f0 f1 Am nm cm l gen hm hmb ht P (hD.of_ext hx) (hr.of_ext hx)
 have hadd:=fun P (hx:Ext w P)=>rAdd_any Am cm nm l r hm hmb ht hrt P (hr.of_ext hx)
 rw[hmo] at hmem
 obtain⟨x,hx⟩:∃ x,addE l r=x:=⟨_,rfl⟩
 rw[hx] at hadd he
 rw[hx]
 have he2:(x==0)=false:=by simpa using he
 have Hmem:=hid hmem
 have Hadd:=hid hadd
 clear hmem hadd hD hr hx
 go_enter Tryz.func20,Tryz.ntmps20
 go_wp2_with fail
 refine(Hmem.out _ exI).mono ?_
 rintro e w1 ⟨rfl,E1,d1,rfl⟩
 go_wp2_with fail
 refine(Hadd.out _ exI).mono ?_
 rintro e w1 ⟨Ap,np,cp,rfl,hnp,hop,E2,d2,rfl⟩
 clear hnp hop
 go_wp2_with fail
 refine bodyPost_ret (v:=.tuple #[drvV none 0 0 0 none 0 0 0,memV none 0 0 0 0,.int .i64 x]) (by simp[results,Tryz.results20,go_sem]) rfl ?_
 exact⟨rfl,exI⟩
set_option maxRecDepth 100000 in
set_option maxHeartbeats 16000000 in
theorem rapp_ok0(A0:Option Addr)(n0 c0:Nat)(A1:Option Addr)(n1 c1:Nat)(L0 L1:List UInt8)(f0 f1:Int)(Am:Option Addr)(nm cm:Nat)(l:List Rec)(gen:Int)(r:Rec)(hm:l.length=nm)(hmb:nm≤9223372036854775807)(ht:TxtBig l)(hrt:r.text.size≤9223372036854775807)(hmo:memOk ⟨⟨L0,f0⟩,⟨L1,f1⟩⟩ ⟨l,0,gen⟩=true)(hro:recOk r=true)(hpe:putE l r=0)(w:World)
 (hD:DrvY w ⟨⟨L0,f0⟩,⟨L1,f1⟩⟩ A0 n0 c0 A1 n1 c1) (hr:Recs w Am l):Calls Tryz.prog 20 #[drvV A0 n0 c0 f0 A1 n1 c1 f1,memV Am nm cm 0 gen,recV r] w fun e w'=> ∃B0 m0 k0 B1 m1 k1 Ag ng cg,e= .returned (.tuple #[drvV B0 m0 k0 f0 B1 m1 k1 f1,memV Ag ng cg 0 gen,.int .i64 0])∧
  DrvA w.heap.size w' (if hasR l r.ao r.sq=true then⟨⟨L0,f0⟩,⟨L1,f1⟩⟩ else⟨⟨L0++frameB r,f0⟩,⟨L1,f1⟩⟩) B0 m0 k0 B1 m1 k1∧Hid ((putL l r).length=ng)∧RecsA w.heap.size w' Ag (putL l r)∧Ext w w':=by
 obtain⟨hok,-,hnil,hck,-,-⟩:=memOk_facts hmo
 have Hnil:Hid (L1=[]):=hid hnil
 clear hnil
 obtain⟨hs0,hs1⟩:=driveOk_len hok
 have hl0:=hD.l0
 have hl1:=hD.l1
 simp only[] at hs0 hs1 hl0 hl1 hck
 rw[hl0] at hs0
 rw[hl1] at hs1
 obtain⟨h80,hall,hsrt⟩:=checkB_iff.1 hck
 have hadd0:=add_of (r:=r) hck
 rw[if_pos hro,if_pos hro,hpe] at hadd0
 have hmem:=fun P (hx:Ext w P)=>rmem_any0 A0 n0 c0 A1 n1 c1 L0 L1 f0 f1 Am nm cm l gen hm hmb ht P (hD.of_ext hx) (hr.of_ext hx)
 have hadd:=fun P (hx:Ext w P)=>rAdd_any Am cm nm l r hm hmb ht hrt P (hr.of_ext hx)
 have hcp:=fun P (hx:Ext w P)=>sameDrive_any A0 n0 c0 f0 A1 n1 c1 f1 L0 L1 hl0 hl1 tB tB P (hD.of_ext hx).b0 (hD.of_ext hx).b1
 have hsm:=fun P (hx:Ext w P)=>rsameMem_any Am nm cm l 0 gen hm tB P (hr.of_ext hx)
 have hnum:=recNum_of hro
 have htx:=hnum.text
 rw[hmo] at hmem
 rw[hadd0.1,hadd0.2] at hadd
 have hput:hasR l r.ao r.sq=true→putL l r=l:=fun h=>putL_has hsrt h hpe
 have hput2:hasR l r.ao r.sq=false→(putL l r).length=l.length+1:=fun h=>putL_fresh h hpe
 have h80m:nm≤80:=by omega
 have Hput:=hid hput
 have Hput2:=hid hput2
 have Hmem:=hid hmem
 have Hadd:=hid hadd
 have Hcp:=hid hcp
 have Hsm:=hid hsm
 have Hnum:=hid hnum
 have Hm:=hid hm
 clear hmem hadd hcp hsm hD hr hok hck h80 hall hsrt hadd0 hput hput2 hmo hpe hro hnum hm
 obtain⟨q,hq⟩:∃ q,putL l r=q:=⟨_,rfl⟩
 rw[hq] at Hadd Hput Hput2
 rw[hq]
 clear hq
 obtain⟨B,hB⟩:∃ B:Nat,w.heap.size=B:=⟨_,rfl⟩
 have HB:=hid hB
 clear hB
 go_enter Tryz.func20,Tryz.ntmps20
 go_wp2_with fail
 refine(Hmem.out _ exI).mono ?_
 rintro e P1 ⟨rfl,x1⟩
 have z1:Hid (B+5≤P1.heap.size):=hid Tg
 have b3:BoxC P1 B [.slice A0 n0 c0,.int .i64 f0,.slice A1 n1 c1,.int .i64 f1] 27:=BoxC.of_ext (((((BoxC.new_at _ _ HB.out.symm).alloc _).alloc _).alloc _).alloc _) x1
 have b4:BoxC P1 (B+1) [.slice Am nm cm,.int .i64 0,.int .i64 gen] 36:=BoxC.of_ext ((((BoxC.new_at _ _ Th).alloc _).alloc _).alloc _) x1
 have b5:BoxC P1 (B+1+1) [.int .i64 r.ao,.int .i64 r.sq,.int .i64 r.kind,.int .i64 r.ship,.int .i64 r.day,.int .i64 r.known,.int .i64 r.wo,.int .i64 r.ws,.int .i64 r.to,.int .i64 r.til,.string r.text] 46:=BoxC.of_ext (((BoxC.new_at _ _ Th).alloc _).alloc _) x1
 have b6:BoxC P1 (B+1+1+1) [.slice none 0 0,.int .i64 0,.slice none 0 0,.int .i64 0] 27:=BoxC.of_ext ((BoxC.new_at _ _ Th).alloc _) x1
 have b7:BoxC P1 (B+1+1+1+1) [.slice none 0 0,.int .i64 0,.int .i64 0] 36:=BoxC.of_ext (BoxC.new_at _ _ Th) x1
 have X1:Hid (Ext w P1):=hid (Ext.trans exI x1)
 simp only[HB.out]
 have c40:=b4.cell (i:=0) rfl
 have c41:=b4.cell (i:=1) rfl
 have c42:=b4.cell (i:=2) rfl
 have c50:=b5.cell (i:=0) rfl
 have c51:=b5.cell (i:=1) rfl
 have c52:=b5.cell (i:=2) rfl
 have c53:=b5.cell (i:=3) rfl
 have c54:=b5.cell (i:=4) rfl
 have c55:=b5.cell (i:=5) rfl
 have c56:=b5.cell (i:=6) rfl
 have c57:=b5.cell (i:=7) rfl
 have c58:=b5.cell (i:=8) rfl
 have c59:=b5.cell (i:=9) rfl
 have c510:=b5.cell (i:=10) rfl
 have l4:=b4.lt
 have l5:=b5.lt
 have B3:=hid b3
 have B4:=hid b4
 have B5:=hid b5
 have B6:=hid b6
 have B7:=hid b7
 clear b3 b4 b5 b6 b7 x1 Hmem
 go_wp2_with fail
 refine(Hadd.out _ X1.out).mono ?_
 rintro e P2 ⟨Ap,np,cp,rfl,hnp,hop,x2⟩
 have Hnp:=hid hnp.out
 have rp:=hid (hop.anc.mono (base':=B+5) (by have:=z1.out;omega))
 have z2:Hid (B+5≤P2.heap.size):=hid (by have q:=x2.below.size;have:=z1.out;omega)
 have b3:=B3.out.of_ext x2
 have B4':=hid (B4.out.of_ext x2)
 have B5':=hid (B5.out.of_ext x2)
 have B6':=hid (B6.out.of_ext x2)
 have B7':=hid (B7.out.of_ext x2)
 have X2:Hid (Ext w P2):=hid (X1.out.trans x2)
 have c30:=b3.cell (i:=0) rfl
 have c31:=b3.cell (i:=1) rfl
 have c32:=b3.cell (i:=2) rfl
 have c33:=b3.cell (i:=3) rfl
 have l3:=b3.lt
 clear b3 B3 B4 B5 B6 B7 x2 hnp hop Hadd X1 z1 c40 c41 c42 c50 c51 c52 c53 c54 c55 c56 c57 c58 c59 c510 l4 l5
 go_wp2_with fail
 refine(Hcp.out _ (X2.out.alloc _)).mono ?_
 rintro e P3 ⟨Bs,ks,Bt,kt,rfl,hos,hot,x3⟩
 obtain⟨B9,hB9⟩:∃ B:Nat,P2.heap.size=B:=⟨_,rfl⟩
 have z3:Hid (B+5≤B9∧B9+1≤P3.heap.size):=hid (by have q:=x3.below.size;have:=z2.out;simp only[World.size_alloc] at q;omega)
 have b4:=(B4'.out.alloc (.cells #[.slice Ap np cp] 34)).of_ext x3
 have B5:=hid ((B5'.out.alloc (.cells #[.slice Ap np cp] 34)).of_ext x3)
 have B6:=hid ((B6'.out.alloc (.cells #[.slice Ap np cp] 34)).of_ext x3)
 have B7:=hid ((B7'.out.alloc (.cells #[.slice Ap np cp] 34)).of_ext x3)
 have b9:BoxC P3 B9 [.slice Ap np cp] 34:=(BoxC.new_at _ _ hB9.symm).of_ext x3
 have X3:Hid (Ext w P3):=hid (Ext.trans (X2.out.alloc _) x3)
 have X2a:=hid (X2.out.alloc (.cells #[.slice Ap np cp] 34))
 have B4a:=hid (B4'.out.alloc (.cells #[.slice Ap np cp] 34))
 have B6a:=hid (B6'.out.alloc (.cells #[.slice Ap np cp] 34))
 have B7a:=hid (B7'.out.alloc (.cells #[.slice Ap np cp] 34))
 have B9a:=hid (BoxC.new_at (P:=P2) [.slice Ap np cp] 34 hB9.symm)
 have rpa:Hid (RecsA (B+5) (P2.alloc (.cells #[.slice Ap np cp] 34)) Ap q):=hid (rp.out.alloc _)
 have X23:=hid x3
 have HZ2:=hid z2
 have rp3:=hid (rp.out.of_ext (Ext.trans ((Ext.refl P2).alloc _) x3))
 have Hos:=hid hos
 have Hot:=hid hot
 have HB9:=hid hB9
 simp only[hB9]
 have c40:=b4.cell (i:=0) rfl
 have c41:=b4.cell (i:=1) rfl
 have c42:=b4.cell (i:=2) rfl
 have c90:=b9.cell (i:=0) rfl
 have l4:=b4.lt
 have l9:=b9.lt
 have B4:=hid b4
 have B9b:=hid b9
 clear b4 b9 x3 hos hot B4' B5' B6' B7' X2 Hcp c30 c31 c32 c33 l3 z2 hB9 rp
 cases hh:hasR l r.ao r.sq with
 | true=>
  have hql:=Hput.out hh
  subst hql
  have hnn:np=nm:=by rw[Hnp.out,Hm.out]
  subst hnn
  clear Hput Hput2
  go_wp2_with fail
  obtain⟨B11,hB11⟩:∃ B,P3.heap.size=B:=⟨_,rfl⟩
  obtain⟨P4,hP4⟩:∃ P4,P3.alloc (.cells #[.slice Bs n0 ks,.int .i64 f0,.slice Bt n1 kt,.int .i64 f1] 27)=P4:=⟨_,rfl⟩
  simp only[hP4,hB11]
  have x34:Ext P3 P4:=by rw[←hP4];exact(Ext.refl _).alloc _
  have b11:BoxC P4 B11 [.slice Bs n0 ks,.int .i64 f0,.slice Bt n1 kt,.int .i64 f1] 27:=by rw[←hP4];exact BoxC.new_at _ _ hB11.symm
  have b4:=B4.out.of_ext x34
  have b6:=B6.out.of_ext x34
  have b7:=B7.out.of_ext x34
  have X4:=hid (X3.out.trans x34)
  have z4:B+5≤B9∧B9+1≤B11:=by have:=z3.out;omega
  have q40:=b4.cell (i:=0) rfl
  have q41:=b4.cell (i:=1) rfl
  have q42:=b4.cell (i:=2) rfl
  have q60:=b6.cell (i:=0) rfl
  have q61:=b6.cell (i:=1) rfl
  have q62:=b6.cell (i:=2) rfl
  have q63:=b6.cell (i:=3) rfl
  have q70:=b7.cell (i:=0) rfl
  have q71:=b7.cell (i:=1) rfl
  have q72:=b7.cell (i:=2) rfl
  have q110:=b11.cell (i:=0) rfl
  have q111:=b11.cell (i:=1) rfl
  have q112:=b11.cell (i:=2) rfl
  have q113:=b11.cell (i:=3) rfl
  have fz6:=b6.frozen
  have fz7:=b7.frozen
  have m4:=b4.lt
  have m6:=b6.lt
  have m7:=b7.lt
  have m11:=b11.lt
  have ne41:¬ (B+1=B+1+1+1):=by omega
  have ne42:¬ (B+1=B+1+1+1+1):=by omega
  have ne111:¬ (B11=B+1+1+1):=by omega
  have ne112:¬ (B11=B+1+1+1+1):=by omega
  have hy0:=Hos.out.anc.mono (base':=B+5) Ti
  have hy1:=Hot.out.anc.mono (base':=B+5) Ti
  have HY0:=hid (hy0.of_ext x34)
  have HY1:=hid (hy1.of_ext x34)
  clear b4 b6 b7 b11 hP4 hB11 x34 hy0 hy1 c40 c41 c42 c90 l4 l9 B4 B5 B6 B7 B9b rp3
  refine wp_region_ord (.f 0 (.f 1 (.a 2 (.a 3 (.a 4 (.f 5 .d)))))) (fun w9=> ∀b o,b<(P4).heap.size→b≠B+1+1+1→b≠B+1+1+1+1→w9.cell? ⟨b,o,none⟩=(P4).cell? ⟨b,o,none⟩) tG tG (fun _ _ _ _ _=>rfl) ?_
  refine oR ?_
  refine wpOrd_call rfl rfl rfl Tryz.call77 (fun R hR=> ?_)
  go_simp
  refine(Hsm.out _ (Ext.trans X4.out exI)).mono ?_
  rintro e w1 ⟨As,ns,cs,rfl,hns,hrs,E1,d1,rfl⟩
  refine hR _ _ ⟨_,rfl,?_,?_⟩
  ·exact Tj
  clear hR R
  simp only[Act.put,zp]
  refine wpOrd_act rfl rfl (fun K hK=> ?_)
  go_simp
  refine hK _ _ ⟨?_,?_⟩
  ·exact Tj
  clear hK K
  try simp only[Act.put,zp]
  refine wpOrd_act rfl rfl (fun K hK=> ?_)
  go_simp
  refine hK _ _ ⟨?_,?_⟩
  ·exact Tj
  clear hK K
  try simp only[Act.put,zp]
  refine oR ?_
  refine wpOrd_nil ?_
  go_wp2_with fail
  have hy0:=HY0.out
  have hy1:=HY1.out
  have hB:=HB.out
  have e4:=X4.out
  refine bodyPost_ret (v:=.tuple #[drvV Bs n0 ks f0 Bt n1 kt f1,memV As ns cs 0 gen,.int .i64 0]) Tk rfl ?_
  refine⟨Bs,n0,ks,Bt,n1,kt,As,ns,⟨cs,rfl⟩,?_,hid hns.out.symm,?_,tW⟩
  ·exact Tl
  ·exact Tm
 | false=>
  have hql:=Hput2.out hh
  have hnn:¬ (np=nm):=by rw[Hnp.out,hql,Hm.out];omega
  have hnn2:((np:Int)==(nm:Int))=false:=by simp;omega
  clear Hput Hput2
  go_wp2_with fail
  obtain⟨B11,hB11⟩:∃ B,P3.heap.size=B:=⟨_,rfl⟩
  obtain⟨P4,hP4⟩:∃ P4,P3.alloc (.cells #[.slice Bs n0 ks,.int .i64 f0,.slice Bt n1 kt,.int .i64 f1] 27)=P4:=⟨_,rfl⟩
  have hNE:(Value.slice Bs n0 ks).ownBlock≠some B11:=by
   intro e
   cases hq:Bs with
   | none=>rw[hq] at e;cases e
   | some ad=>
    rw[hq] at e
    have h9:=(Hos.out.lies ad hq).2
    have h8:ad.block=B11:=by simpa [Value.ownBlock] using e
    omega
  simp only[hP4,hB11]
  have x34:Ext P3 P4:=by rw[←hP4];exact(Ext.refl _).alloc _
  have b11:BoxC P4 B11 [.slice Bs n0 ks,.int .i64 f0,.slice Bt n1 kt,.int .i64 f1] 27:=by rw[←hP4];exact BoxC.new_at _ _ hB11.symm
  have b4:=B4.out.of_ext x34
  have b5:=B5.out.of_ext x34
  have X24:=hid (X23.out.trans x34)
  have z4:B+5≤B9∧B9+1≤B11:=by have:=z3.out;omega
  have HO:Hid (OwnB (B9+1) P4 (.slice Bs n0 ks) L0):=hid (by have h:=Hos.out.of_ext x34;rw[World.size_alloc,HB9.out] at h;exact h)
  have q40:=b4.cell (i:=0) rfl
  have q41:=b4.cell (i:=1) rfl
  have q42:=b4.cell (i:=2) rfl
  have q50:=b5.cell (i:=0) rfl
  have q51:=b5.cell (i:=1) rfl
  have q52:=b5.cell (i:=2) rfl
  have q53:=b5.cell (i:=3) rfl
  have q54:=b5.cell (i:=4) rfl
  have q55:=b5.cell (i:=5) rfl
  have q56:=b5.cell (i:=6) rfl
  have q57:=b5.cell (i:=7) rfl
  have q58:=b5.cell (i:=8) rfl
  have q59:=b5.cell (i:=9) rfl
  have q510:=b5.cell (i:=10) rfl
  have q110:=b11.cell (i:=0) rfl
  have q111:=b11.cell (i:=1) rfl
  have q112:=b11.cell (i:=2) rfl
  have q113:=b11.cell (i:=3) rfl
  have m4:=b4.lt
  have m5:=b5.lt
  have m11:=b11.lt
  have z5:B9+1≤P4.heap.size:=by omega
  have B11b:=hid b11
  clear b4 b5 b11 hP4 x34 c40 c41 c42 c90 l4 l9 B4 B5 B6 B7 B9b rp3
  refine wp_region_ord (.f 0 (.f 1 (.f 2 (.f 3 (.f 4 (.f 5 (.f 6 (.f 8 (.f 11 (.k 7 (.a 9 (.a 10 (.f 12 (.f 13 (.a 14 .d))))) 9 (.a 7 (.a 10 (.f 12 (.f 13 (.a 14 .d))))))))))))))) (fun w9=> ∀b o,b<B+1+1+1→w9.cell? ⟨b,o,none⟩=(P4).cell? ⟨b,o,none⟩) tG tG (fun _ _ _=>rfl) ?_
  refine oR ?_
  refine wpOrd_fork ?_ ?_
  focus
   refine wpOrd_act rfl rfl (fun K hK=> ?_)
   go_simp
   refine hK _ _ ⟨?_,?_⟩
   ·exact Tn
   clear hK K
   try simp only[Act.put,zp]
   refine wpOrd_call rfl rfl rfl Tryz.call78 (fun R hR=> ?_)
   go_simp
   refine(rframe_any _ Hnum.out _).mono ?_
   rintro e w1 ⟨Afr,cfr,rfl,hbf,E1,d1,rfl⟩
   refine hR _ _ ⟨_,rfl,?_,?_⟩
   ·exact Tn
   clear hR R
   simp only[Act.put,zp]
   refine wpOrd_abyt3 (v:=.slice Bs n0 ks) rfl (B9+1) To rfl rfl _ _ rfl (frameB r) rfl Tp rfl TF tB TG TT (fun v0 W0 hb0 ho0 hk0=> ?_)
   have hS5:∀ b o,b<B+1+1+1→W0.cell? ⟨b,o,none⟩=P4.cell? ⟨b,o,none⟩:=fun b o hb=>(hb0.cell (p:=⟨b,o,none⟩) (by show b<B9+1;omega)).trans Tq
   have X5:Hid (Ext (P2.alloc (.cells #[.slice Ap np cp] 34)) W0):=hid (Ext.below_of (Ext.trans X24.out exI) hb0 Tr)
   have b11n:BoxC W0 B11 [.slice Bs n0 ks,.int .i64 f0,.slice Bt n1 kt,.int .i64 f1] 27:=hk0 B11 _ _ hNE (B11b.out.of_ext exI)
   obtain⟨Av,cv,rfl,hbv⟩:=ho0.slice
   have HBV:=hid hbv
   have HOV:=hid ho0
   have B11n:=hid b11n
   have w110:=b11n.cell (i:=0) rfl
   have w111:=b11n.cell (i:=1) rfl
   have w112:=b11n.cell (i:=2) rfl
   have w113:=b11n.cell (i:=3) rfl
   have fz11:=b11n.frozen
   have k11:=b11n.lt
   have b4n:=B4a.out.of_ext X5.out
   have b9n:=B9a.out.of_ext X5.out
   have w40:=b4n.cell (i:=0) rfl
   have w41:=b4n.cell (i:=1) rfl
   have w42:=b4n.cell (i:=2) rfl
   have w90:=b9n.cell (i:=0) rfl
   have k4:=b4n.lt
   have k9:=b9n.lt
   clear hb0 ho0 hk0 b11n b4n b9n hbv
   refine⟨?_,?_⟩
   ·exact hS5
   try simp only[Act.put,zp]
   refine oR ?_
   refine wpOrd_act rfl rfl (fun K hK=> ?_)
   go_simp
   refine hK _ _ ⟨?_,?_⟩
   ·exact Tn
   clear hK K
   try simp only[Act.put,zp]
   refine wpOrd_nil ?_
  rotate_right
  focus
   refine wpOrd_call rfl rfl rfl Tryz.call78 (fun R hR=> ?_)
   go_simp
   refine(rframe_any _ Hnum.out _).mono ?_
   rintro e w1 ⟨Afr,cfr,rfl,hbf,E3,d3,rfl⟩
   refine hR _ _ ⟨_,rfl,?_,?_⟩
   ·exact Tn
   clear hR R
   simp only[Act.put,zp]
   refine wpOrd_act rfl rfl (fun K hK=> ?_)
   go_simp
   refine hK _ _ ⟨?_,?_⟩
   ·exact Tn
   clear hK K
   try simp only[Act.put,zp]
   refine wpOrd_abyt3 (v:=.slice Bs n0 ks) rfl (B9+1) To rfl rfl _ _ rfl (frameB r) rfl Tp rfl TF tB TG TT (fun v0 W0 hb0 ho0 hk0=> ?_)
   have hS5:∀ b o,b<B+1+1+1→W0.cell? ⟨b,o,none⟩=P4.cell? ⟨b,o,none⟩:=fun b o hb=>(hb0.cell (p:=⟨b,o,none⟩) (by show b<B9+1;omega)).trans Tq
   have X5:Hid (Ext (P2.alloc (.cells #[.slice Ap np cp] 34)) W0):=hid (Ext.below_of (Ext.trans X24.out exI) hb0 Tr)
   have b11n:BoxC W0 B11 [.slice Bs n0 ks,.int .i64 f0,.slice Bt n1 kt,.int .i64 f1] 27:=hk0 B11 _ _ hNE (B11b.out.of_ext exI)
   obtain⟨Av,cv,rfl,hbv⟩:=ho0.slice
   have HBV:=hid hbv
   have HOV:=hid ho0
   have B11n:=hid b11n
   have w110:=b11n.cell (i:=0) rfl
   have w111:=b11n.cell (i:=1) rfl
   have w112:=b11n.cell (i:=2) rfl
   have w113:=b11n.cell (i:=3) rfl
   have fz11:=b11n.frozen
   have k11:=b11n.lt
   have b4n:=B4a.out.of_ext X5.out
   have b9n:=B9a.out.of_ext X5.out
   have w40:=b4n.cell (i:=0) rfl
   have w41:=b4n.cell (i:=1) rfl
   have w42:=b4n.cell (i:=2) rfl
   have w90:=b9n.cell (i:=0) rfl
   have k4:=b4n.lt
   have k9:=b9n.lt
   clear hb0 ho0 hk0 b11n b4n b9n hbv
   refine⟨?_,?_⟩
   ·exact hS5
   try simp only[Act.put,zp]
   refine oR ?_
   refine wpOrd_act rfl rfl (fun K hK=> ?_)
   go_simp
   refine hK _ _ ⟨?_,?_⟩
   ·exact Tn
   clear hK K
   try simp only[Act.put,zp]
   refine wpOrd_nil ?_
  all_goals
   go_wp2_with fail
  all_goals
   clear q110 q111 q112 q113 m11
   obtain⟨B12,hB12⟩:∃ B,W0.heap.size=B:=⟨_,rfl⟩
   obtain⟨P6,hP6⟩:∃ P6,(W0.setCell ⟨B11,0,none⟩ (.slice Av (n0+(frameB r).length) cv)).alloc (.cells #[.slice Ap np cp,.int .i64 0,.int .i64 gen] 36)=P6:=⟨_,rfl⟩
   simp only[hP6,hB12]
   have x6:Ext (P2.alloc (.cells #[.slice Ap np cp] 34)) P6:=by rw[←hP6];exact Ext.alloc (Ext.setCell X5.out _ _ Tr) _
   have b11:BoxC P6 B11 [.slice Av (n0+(frameB r).length) cv,.int .i64 f0,.slice Bt n1 kt,.int .i64 f1] 27:=by rw[←hP6];exact(B11n.out.set 0 _).alloc _
   have b12:BoxC P6 B12 [.slice Ap np cp,.int .i64 0,.int .i64 gen] 36:=by rw[←hP6];exact BoxC.new_at _ _ (by rw[World.size_setCell];exact hB12.symm)
   have b6:=B6a.out.of_ext x6
   have b7:=B7a.out.of_ext x6
   have X6:=hid (X2a.out.trans x6)
   have HOA:Hid (BytA (B9+1) P6 Av (L0++frameB r)):=hid Ts
   have hln:(L0++frameB r).length=n0+(frameB r).length:=by rw[List.length_append,hl0]
   have HLE:Hid (n0+(frameB r).length≤cv∧cv≤9223372036854775807):=hid (by rw[←hln];exact⟨HOV.out.le,HOV.out.cap⟩)
   have HLN:=hid hln
   have RPZ:=hid (rpa.out.of_ext x6)
   have z12:B11<B12:=by have:=k11;omega
   have q60:=b6.cell (i:=0) rfl
   have q61:=b6.cell (i:=1) rfl
   have q62:=b6.cell (i:=2) rfl
   have q63:=b6.cell (i:=3) rfl
   have q70:=b7.cell (i:=0) rfl
   have q71:=b7.cell (i:=1) rfl
   have q72:=b7.cell (i:=2) rfl
   have q110:=b11.cell (i:=0) rfl
   have q111:=b11.cell (i:=1) rfl
   have q112:=b11.cell (i:=2) rfl
   have q113:=b11.cell (i:=3) rfl
   have q120:=b12.cell (i:=0) rfl
   have q121:=b12.cell (i:=1) rfl
   have q122:=b12.cell (i:=2) rfl
   have fz6:=b6.frozen
   have fz7:=b7.frozen
   have m6:=b6.lt
   have m7:=b7.lt
   have m11:=b11.lt
   have m12:=b12.lt
   have ne41:¬ (B12=B+1+1+1):=by omega
   have ne42:¬ (B12=B+1+1+1+1):=by omega
   have ne111:¬ (B11=B+1+1+1):=by omega
   have ne112:¬ (B11=B+1+1+1+1):=by omega
   clear b6 b7 b11 b12 hP6 hB12 x6 hln q40 q41 q42 q50 q51 q52 q53 q54 q55 q56 q57 q58 q59 q510 m4 m5 z5 hbf hS5 B11n w110 w111 w112 w113 fz11 k11 w40 w41 w42 w90 k4 k9 HBV HOV hNE hB11 X5 X24 HO B11b B4a B6a B7a B9a X23
   refine wp_region_ord (.f 0 (.f 1 (.a 2 (.a 3 (.f 4 .d))))) (fun w9=> ∀b o,b<(P6).heap.size→b≠B+1+1+1→b≠B+1+1+1+1→w9.cell? ⟨b,o,none⟩=(P6).cell? ⟨b,o,none⟩) tG tG (fun _ _ _ _ _=>rfl) ?_
   refine oR ?_
   refine wpOrd_act rfl rfl (fun K hK=> ?_)
   go_simp
   refine hK _ _ ⟨?_,?_⟩
   ·exact Tj
   clear hK K
   try simp only[Act.put,zp]
   refine wpOrd_act rfl rfl (fun K hK=> ?_)
   go_simp
   refine hK _ _ ⟨?_,?_⟩
   ·exact Tj
   clear hK K
   try simp only[Act.put,zp]
   refine oR ?_
   refine wpOrd_nil ?_
   go_wp2_with fail
   all_goals
    have ho:=HOA.out
    have hr6:=RPZ.out
    have hB:=HB.out
    have e4:=X6.out
    have hle:=HLE.out
    refine bodyPost_ret (v:=.tuple #[drvV Av (n0+(frameB r).length) cv f0 Bt n1 kt f1,memV Ap np cp 0 gen,.int .i64 0]) Tk rfl ?_
    refine⟨Av,n0+(frameB r).length,cv,Bt,n1,kt,Ap,np,⟨cp,rfl⟩,?_,hid (by rw[Hnp.out,hql]),?_,tW⟩
    ·refine⟨HLN.out,hl1,hle.1,Hot.out.le,hle.2,Hot.out.cap,?_,?_⟩
     ·exact Tt
     ·exact(by rw[Hnil.out];exact BytA.nil _ _ _)
    ·exact Tu
set_option maxRecDepth 100000 in
set_option maxHeartbeats 16000000 in
theorem rapp_err1(A0:Option Addr)(n0 c0:Nat)(A1:Option Addr)(n1 c1:Nat)(L0 L1:List UInt8)(f0 f1:Int)(Am:Option Addr)(nm cm:Nat)(l:List Rec)(gen:Int)(r:Rec)(hm:l.length=nm)(hmb:nm≤9223372036854775807)(ht:TxtBig l)(hrt:r.text.size≤9223372036854775807)(hmo:memOk ⟨⟨L0,f0⟩,⟨L1,f1⟩⟩ ⟨l,1,gen⟩=true)(he:¬ addE l r=0)(w:World)
 (hD:DrvY w ⟨⟨L0,f0⟩,⟨L1,f1⟩⟩ A0 n0 c0 A1 n1 c1) (hr:Recs w Am l):Calls Tryz.prog 20 #[drvV A0 n0 c0 f0 A1 n1 c1 f1,memV Am nm cm 1 gen,recV r] w fun e w'=>e= .returned (.tuple #[drvV none 0 0 0 none 0 0 0,memV none 0 0 0 0,.int .i64 (addE l r)])∧Ext w w':=by
 have hmem:=fun P (hx:Ext w P)=>rmem_any1 A0 n0 c0 A1 n1 c1 L0 L1 f0 f1 Am nm cm l gen hm hmb ht P (hD.of_ext hx) (hr.of_ext hx)
 have hadd:=fun P (hx:Ext w P)=>rAdd_any Am cm nm l r hm hmb ht hrt P (hr.of_ext hx)
 rw[hmo] at hmem
 obtain⟨x,hx⟩:∃ x,addE l r=x:=⟨_,rfl⟩
 rw[hx] at hadd he
 rw[hx]
 have he2:(x==0)=false:=by simpa using he
 have Hmem:=hid hmem
 have Hadd:=hid hadd
 clear hmem hadd hD hr hx
 go_enter Tryz.func20,Tryz.ntmps20
 go_wp2_with fail
 refine(Hmem.out _ exI).mono ?_
 rintro e w1 ⟨rfl,E1,d1,rfl⟩
 go_wp2_with fail
 refine(Hadd.out _ exI).mono ?_
 rintro e w1 ⟨Ap,np,cp,rfl,hnp,hop,E2,d2,rfl⟩
 clear hnp hop
 go_wp2_with fail
 refine bodyPost_ret (v:=.tuple #[drvV none 0 0 0 none 0 0 0,memV none 0 0 0 0,.int .i64 x]) (by simp[results,Tryz.results20,go_sem]) rfl ?_
 exact⟨rfl,exI⟩
set_option maxRecDepth 100000 in
set_option maxHeartbeats 16000000 in
theorem rapp_ok1(A0:Option Addr)(n0 c0:Nat)(A1:Option Addr)(n1 c1:Nat)(L0 L1:List UInt8)(f0 f1:Int)(Am:Option Addr)(nm cm:Nat)(l:List Rec)(gen:Int)(r:Rec)(hm:l.length=nm)(hmb:nm≤9223372036854775807)(ht:TxtBig l)(hrt:r.text.size≤9223372036854775807)(hmo:memOk ⟨⟨L0,f0⟩,⟨L1,f1⟩⟩ ⟨l,1,gen⟩=true)(hro:recOk r=true)(hpe:putE l r=0)(w:World)
 (hD:DrvY w ⟨⟨L0,f0⟩,⟨L1,f1⟩⟩ A0 n0 c0 A1 n1 c1) (hr:Recs w Am l):Calls Tryz.prog 20 #[drvV A0 n0 c0 f0 A1 n1 c1 f1,memV Am nm cm 1 gen,recV r] w fun e w'=> ∃B0 m0 k0 B1 m1 k1 Ag ng cg,e= .returned (.tuple #[drvV B0 m0 k0 f0 B1 m1 k1 f1,memV Ag ng cg 1 gen,.int .i64 0])∧
  DrvA w.heap.size w' (if hasR l r.ao r.sq=true then⟨⟨L0,f0⟩,⟨L1,f1⟩⟩ else⟨⟨L0,f0⟩,⟨L1++frameB r,f1⟩⟩) B0 m0 k0 B1 m1 k1∧Hid ((putL l r).length=ng)∧RecsA w.heap.size w' Ag (putL l r)∧Ext w w':=by
 obtain⟨hok,-,hnil,hck,-,-⟩:=memOk_facts hmo
 have Hnil:Hid (L0=[]):=hid hnil
 clear hnil
 obtain⟨hs0,hs1⟩:=driveOk_len hok
 have hl0:=hD.l0
 have hl1:=hD.l1
 simp only[] at hs0 hs1 hl0 hl1 hck
 rw[hl0] at hs0
 rw[hl1] at hs1
 obtain⟨h80,hall,hsrt⟩:=checkB_iff.1 hck
 have hadd0:=add_of (r:=r) hck
 rw[if_pos hro,if_pos hro,hpe] at hadd0
 have hmem:=fun P (hx:Ext w P)=>rmem_any1 A0 n0 c0 A1 n1 c1 L0 L1 f0 f1 Am nm cm l gen hm hmb ht P (hD.of_ext hx) (hr.of_ext hx)
 have hadd:=fun P (hx:Ext w P)=>rAdd_any Am cm nm l r hm hmb ht hrt P (hr.of_ext hx)
 have hcp:=fun P (hx:Ext w P)=>sameDrive_any A0 n0 c0 f0 A1 n1 c1 f1 L0 L1 hl0 hl1 tB tB P (hD.of_ext hx).b0 (hD.of_ext hx).b1
 have hsm:=fun P (hx:Ext w P)=>rsameMem_any Am nm cm l 1 gen hm tB P (hr.of_ext hx)
 have hnum:=recNum_of hro
 have htx:=hnum.text
 rw[hmo] at hmem
 rw[hadd0.1,hadd0.2] at hadd
 have hput:hasR l r.ao r.sq=true→putL l r=l:=fun h=>putL_has hsrt h hpe
 have hput2:hasR l r.ao r.sq=false→(putL l r).length=l.length+1:=fun h=>putL_fresh h hpe
 have h80m:nm≤80:=by omega
 have Hput:=hid hput
 have Hput2:=hid hput2
 have Hmem:=hid hmem
 have Hadd:=hid hadd
 have Hcp:=hid hcp
 have Hsm:=hid hsm
 have Hnum:=hid hnum
 have Hm:=hid hm
 clear hmem hadd hcp hsm hD hr hok hck h80 hall hsrt hadd0 hput hput2 hmo hpe hro hnum hm
 obtain⟨q,hq⟩:∃ q,putL l r=q:=⟨_,rfl⟩
 rw[hq] at Hadd Hput Hput2
 rw[hq]
 clear hq
 obtain⟨B,hB⟩:∃ B:Nat,w.heap.size=B:=⟨_,rfl⟩
 have HB:=hid hB
 clear hB
 go_enter Tryz.func20,Tryz.ntmps20
 go_wp2_with fail
 refine(Hmem.out _ exI).mono ?_
 rintro e P1 ⟨rfl,x1⟩
 have z1:Hid (B+5≤P1.heap.size):=hid Tg
 have b3:BoxC P1 B [.slice A0 n0 c0,.int .i64 f0,.slice A1 n1 c1,.int .i64 f1] 27:=BoxC.of_ext (((((BoxC.new_at _ _ HB.out.symm).alloc _).alloc _).alloc _).alloc _) x1
 have b4:BoxC P1 (B+1) [.slice Am nm cm,.int .i64 1,.int .i64 gen] 36:=BoxC.of_ext ((((BoxC.new_at _ _ Th).alloc _).alloc _).alloc _) x1
 have b5:BoxC P1 (B+1+1) [.int .i64 r.ao,.int .i64 r.sq,.int .i64 r.kind,.int .i64 r.ship,.int .i64 r.day,.int .i64 r.known,.int .i64 r.wo,.int .i64 r.ws,.int .i64 r.to,.int .i64 r.til,.string r.text] 46:=BoxC.of_ext (((BoxC.new_at _ _ Th).alloc _).alloc _) x1
 have b6:BoxC P1 (B+1+1+1) [.slice none 0 0,.int .i64 0,.slice none 0 0,.int .i64 0] 27:=BoxC.of_ext ((BoxC.new_at _ _ Th).alloc _) x1
 have b7:BoxC P1 (B+1+1+1+1) [.slice none 0 0,.int .i64 0,.int .i64 0] 36:=BoxC.of_ext (BoxC.new_at _ _ Th) x1
 have X1:Hid (Ext w P1):=hid (Ext.trans exI x1)
 simp only[HB.out]
 have c40:=b4.cell (i:=0) rfl
 have c41:=b4.cell (i:=1) rfl
 have c42:=b4.cell (i:=2) rfl
 have c50:=b5.cell (i:=0) rfl
 have c51:=b5.cell (i:=1) rfl
 have c52:=b5.cell (i:=2) rfl
 have c53:=b5.cell (i:=3) rfl
 have c54:=b5.cell (i:=4) rfl
 have c55:=b5.cell (i:=5) rfl
 have c56:=b5.cell (i:=6) rfl
 have c57:=b5.cell (i:=7) rfl
 have c58:=b5.cell (i:=8) rfl
 have c59:=b5.cell (i:=9) rfl
 have c510:=b5.cell (i:=10) rfl
 have l4:=b4.lt
 have l5:=b5.lt
 have B3:=hid b3
 have B4:=hid b4
 have B5:=hid b5
 have B6:=hid b6
 have B7:=hid b7
 clear b3 b4 b5 b6 b7 x1 Hmem
 go_wp2_with fail
 refine(Hadd.out _ X1.out).mono ?_
 rintro e P2 ⟨Ap,np,cp,rfl,hnp,hop,x2⟩
 have Hnp:=hid hnp.out
 have rp:=hid (hop.anc.mono (base':=B+5) (by have:=z1.out;omega))
 have z2:Hid (B+5≤P2.heap.size):=hid (by have q:=x2.below.size;have:=z1.out;omega)
 have b3:=B3.out.of_ext x2
 have B4':=hid (B4.out.of_ext x2)
 have B5':=hid (B5.out.of_ext x2)
 have B6':=hid (B6.out.of_ext x2)
 have B7':=hid (B7.out.of_ext x2)
 have X2:Hid (Ext w P2):=hid (X1.out.trans x2)
 have c30:=b3.cell (i:=0) rfl
 have c31:=b3.cell (i:=1) rfl
 have c32:=b3.cell (i:=2) rfl
 have c33:=b3.cell (i:=3) rfl
 have l3:=b3.lt
 clear b3 B3 B4 B5 B6 B7 x2 hnp hop Hadd X1 z1 c40 c41 c42 c50 c51 c52 c53 c54 c55 c56 c57 c58 c59 c510 l4 l5
 go_wp2_with fail
 refine(Hcp.out _ (X2.out.alloc _)).mono ?_
 rintro e P3 ⟨Bs,ks,Bt,kt,rfl,hos,hot,x3⟩
 obtain⟨B9,hB9⟩:∃ B:Nat,P2.heap.size=B:=⟨_,rfl⟩
 have z3:Hid (B+5≤B9∧B9+1≤P3.heap.size):=hid (by have q:=x3.below.size;have:=z2.out;simp only[World.size_alloc] at q;omega)
 have b4:=(B4'.out.alloc (.cells #[.slice Ap np cp] 34)).of_ext x3
 have B5:=hid ((B5'.out.alloc (.cells #[.slice Ap np cp] 34)).of_ext x3)
 have B6:=hid ((B6'.out.alloc (.cells #[.slice Ap np cp] 34)).of_ext x3)
 have B7:=hid ((B7'.out.alloc (.cells #[.slice Ap np cp] 34)).of_ext x3)
 have b9:BoxC P3 B9 [.slice Ap np cp] 34:=(BoxC.new_at _ _ hB9.symm).of_ext x3
 have X3:Hid (Ext w P3):=hid (Ext.trans (X2.out.alloc _) x3)
 have X2a:=hid (X2.out.alloc (.cells #[.slice Ap np cp] 34))
 have B4a:=hid (B4'.out.alloc (.cells #[.slice Ap np cp] 34))
 have B6a:=hid (B6'.out.alloc (.cells #[.slice Ap np cp] 34))
 have B7a:=hid (B7'.out.alloc (.cells #[.slice Ap np cp] 34))
 have B9a:=hid (BoxC.new_at (P:=P2) [.slice Ap np cp] 34 hB9.symm)
 have rpa:Hid (RecsA (B+5) (P2.alloc (.cells #[.slice Ap np cp] 34)) Ap q):=hid (rp.out.alloc _)
 have X23:=hid x3
 have HZ2:=hid z2
 have rp3:=hid (rp.out.of_ext (Ext.trans ((Ext.refl P2).alloc _) x3))
 have Hos:=hid hos
 have Hot:=hid hot
 have HB9:=hid hB9
 simp only[hB9]
 have c40:=b4.cell (i:=0) rfl
 have c41:=b4.cell (i:=1) rfl
 have c42:=b4.cell (i:=2) rfl
 have c90:=b9.cell (i:=0) rfl
 have l4:=b4.lt
 have l9:=b9.lt
 have B4:=hid b4
 have B9b:=hid b9
 clear b4 b9 x3 hos hot B4' B5' B6' B7' X2 Hcp c30 c31 c32 c33 l3 z2 hB9 rp
 cases hh:hasR l r.ao r.sq with
 | true=>
  have hql:=Hput.out hh
  subst hql
  have hnn:np=nm:=by rw[Hnp.out,Hm.out]
  subst hnn
  clear Hput Hput2
  go_wp2_with fail
  obtain⟨B11,hB11⟩:∃ B,P3.heap.size=B:=⟨_,rfl⟩
  obtain⟨P4,hP4⟩:∃ P4,P3.alloc (.cells #[.slice Bs n0 ks,.int .i64 f0,.slice Bt n1 kt,.int .i64 f1] 27)=P4:=⟨_,rfl⟩
  simp only[hP4,hB11]
  have x34:Ext P3 P4:=by rw[←hP4];exact(Ext.refl _).alloc _
  have b11:BoxC P4 B11 [.slice Bs n0 ks,.int .i64 f0,.slice Bt n1 kt,.int .i64 f1] 27:=by rw[←hP4];exact BoxC.new_at _ _ hB11.symm
  have b4:=B4.out.of_ext x34
  have b6:=B6.out.of_ext x34
  have b7:=B7.out.of_ext x34
  have X4:=hid (X3.out.trans x34)
  have z4:B+5≤B9∧B9+1≤B11:=by have:=z3.out;omega
  have q40:=b4.cell (i:=0) rfl
  have q41:=b4.cell (i:=1) rfl
  have q42:=b4.cell (i:=2) rfl
  have q60:=b6.cell (i:=0) rfl
  have q61:=b6.cell (i:=1) rfl
  have q62:=b6.cell (i:=2) rfl
  have q63:=b6.cell (i:=3) rfl
  have q70:=b7.cell (i:=0) rfl
  have q71:=b7.cell (i:=1) rfl
  have q72:=b7.cell (i:=2) rfl
  have q110:=b11.cell (i:=0) rfl
  have q111:=b11.cell (i:=1) rfl
  have q112:=b11.cell (i:=2) rfl
  have q113:=b11.cell (i:=3) rfl
  have fz6:=b6.frozen
  have fz7:=b7.frozen
  have m4:=b4.lt
  have m6:=b6.lt
  have m7:=b7.lt
  have m11:=b11.lt
  have ne41:¬ (B+1=B+1+1+1):=by omega
  have ne42:¬ (B+1=B+1+1+1+1):=by omega
  have ne111:¬ (B11=B+1+1+1):=by omega
  have ne112:¬ (B11=B+1+1+1+1):=by omega
  have hy0:=Hos.out.anc.mono (base':=B+5) Ti
  have hy1:=Hot.out.anc.mono (base':=B+5) Ti
  have HY0:=hid (hy0.of_ext x34)
  have HY1:=hid (hy1.of_ext x34)
  clear b4 b6 b7 b11 hP4 hB11 x34 hy0 hy1 c40 c41 c42 c90 l4 l9 B4 B5 B6 B7 B9b rp3
  refine wp_region_ord (.f 0 (.f 1 (.a 2 (.a 3 (.a 4 (.f 5 .d)))))) (fun w9=> ∀b o,b<(P4).heap.size→b≠B+1+1+1→b≠B+1+1+1+1→w9.cell? ⟨b,o,none⟩=(P4).cell? ⟨b,o,none⟩) tG tG (fun _ _ _ _ _=>rfl) ?_
  refine oR ?_
  refine wpOrd_call rfl rfl rfl Tryz.call77 (fun R hR=> ?_)
  go_simp
  refine(Hsm.out _ (Ext.trans X4.out exI)).mono ?_
  rintro e w1 ⟨As,ns,cs,rfl,hns,hrs,E1,d1,rfl⟩
  refine hR _ _ ⟨_,rfl,?_,?_⟩
  ·exact Tj
  clear hR R
  simp only[Act.put,zp]
  refine wpOrd_act rfl rfl (fun K hK=> ?_)
  go_simp
  refine hK _ _ ⟨?_,?_⟩
  ·exact Tj
  clear hK K
  try simp only[Act.put,zp]
  refine wpOrd_act rfl rfl (fun K hK=> ?_)
  go_simp
  refine hK _ _ ⟨?_,?_⟩
  ·exact Tj
  clear hK K
  try simp only[Act.put,zp]
  refine oR ?_
  refine wpOrd_nil ?_
  go_wp2_with fail
  have hy0:=HY0.out
  have hy1:=HY1.out
  have hB:=HB.out
  have e4:=X4.out
  refine bodyPost_ret (v:=.tuple #[drvV Bs n0 ks f0 Bt n1 kt f1,memV As ns cs 1 gen,.int .i64 0]) Tk rfl ?_
  refine⟨Bs,n0,ks,Bt,n1,kt,As,ns,⟨cs,rfl⟩,?_,hid hns.out.symm,?_,tW⟩
  ·exact Tl
  ·exact Tm
 | false=>
  have hql:=Hput2.out hh
  have hnn:¬ (np=nm):=by rw[Hnp.out,hql,Hm.out];omega
  have hnn2:((np:Int)==(nm:Int))=false:=by simp;omega
  clear Hput Hput2
  go_wp2_with fail
  obtain⟨B11,hB11⟩:∃ B,P3.heap.size=B:=⟨_,rfl⟩
  obtain⟨P4,hP4⟩:∃ P4,P3.alloc (.cells #[.slice Bs n0 ks,.int .i64 f0,.slice Bt n1 kt,.int .i64 f1] 27)=P4:=⟨_,rfl⟩
  have hNE:(Value.slice Bt n1 kt).ownBlock≠some B11:=by
   intro e
   cases hq:Bt with
   | none=>rw[hq] at e;cases e
   | some ad=>
    rw[hq] at e
    have h9:=(Hot.out.lies ad hq).2
    have h8:ad.block=B11:=by simpa [Value.ownBlock] using e
    omega
  simp only[hP4,hB11]
  have x34:Ext P3 P4:=by rw[←hP4];exact(Ext.refl _).alloc _
  have b11:BoxC P4 B11 [.slice Bs n0 ks,.int .i64 f0,.slice Bt n1 kt,.int .i64 f1] 27:=by rw[←hP4];exact BoxC.new_at _ _ hB11.symm
  have b4:=B4.out.of_ext x34
  have b5:=B5.out.of_ext x34
  have X24:=hid (X23.out.trans x34)
  have z4:B+5≤B9∧B9+1≤B11:=by have:=z3.out;omega
  have HO:Hid (OwnB (B9+1) P4 (.slice Bt n1 kt) L1):=hid (by have h:=Hot.out.of_ext x34;rw[World.size_alloc,HB9.out] at h;exact h)
  have q40:=b4.cell (i:=0) rfl
  have q41:=b4.cell (i:=1) rfl
  have q42:=b4.cell (i:=2) rfl
  have q50:=b5.cell (i:=0) rfl
  have q51:=b5.cell (i:=1) rfl
  have q52:=b5.cell (i:=2) rfl
  have q53:=b5.cell (i:=3) rfl
  have q54:=b5.cell (i:=4) rfl
  have q55:=b5.cell (i:=5) rfl
  have q56:=b5.cell (i:=6) rfl
  have q57:=b5.cell (i:=7) rfl
  have q58:=b5.cell (i:=8) rfl
  have q59:=b5.cell (i:=9) rfl
  have q510:=b5.cell (i:=10) rfl
  have q110:=b11.cell (i:=0) rfl
  have q111:=b11.cell (i:=1) rfl
  have q112:=b11.cell (i:=2) rfl
  have q113:=b11.cell (i:=3) rfl
  have m4:=b4.lt
  have m5:=b5.lt
  have m11:=b11.lt
  have z5:B9+1≤P4.heap.size:=by omega
  have B11b:=hid b11
  clear b4 b5 b11 hP4 x34 c40 c41 c42 c90 l4 l9 B4 B5 B6 B7 B9b rp3
  refine wp_region_ord (.f 0 (.f 1 (.f 2 (.f 3 (.f 4 (.f 5 (.f 6 (.f 8 (.f 11 (.k 7 (.a 9 (.a 10 (.f 12 (.f 13 (.a 14 .d))))) 9 (.a 7 (.a 10 (.f 12 (.f 13 (.a 14 .d))))))))))))))) (fun w9=> ∀b o,b<B+1+1+1→w9.cell? ⟨b,o,none⟩=(P4).cell? ⟨b,o,none⟩) tG tG (fun _ _ _=>rfl) ?_
  refine oR ?_
  refine wpOrd_fork ?_ ?_
  focus
   refine wpOrd_act rfl rfl (fun K hK=> ?_)
   go_simp
   refine hK _ _ ⟨?_,?_⟩
   ·exact Tn
   clear hK K
   try simp only[Act.put,zp]
   refine wpOrd_call rfl rfl rfl Tryz.call78 (fun R hR=> ?_)
   go_simp
   refine(rframe_any _ Hnum.out _).mono ?_
   rintro e w1 ⟨Afr,cfr,rfl,hbf,E1,d1,rfl⟩
   refine hR _ _ ⟨_,rfl,?_,?_⟩
   ·exact Tn
   clear hR R
   simp only[Act.put,zp]
   refine wpOrd_abyt3 (v:=.slice Bt n1 kt) rfl (B9+1) To rfl rfl _ _ rfl (frameB r) rfl Tp rfl TF tB TG TT (fun v1 W1 hb1 ho1 hk1=> ?_)
   have hS5:∀ b o,b<B+1+1+1→W1.cell? ⟨b,o,none⟩=P4.cell? ⟨b,o,none⟩:=fun b o hb=>(hb1.cell (p:=⟨b,o,none⟩) (by show b<B9+1;omega)).trans Tq
   have X5:Hid (Ext (P2.alloc (.cells #[.slice Ap np cp] 34)) W1):=hid (Ext.below_of (Ext.trans X24.out exI) hb1 Tr)
   have b11n:BoxC W1 B11 [.slice Bs n0 ks,.int .i64 f0,.slice Bt n1 kt,.int .i64 f1] 27:=hk1 B11 _ _ hNE (B11b.out.of_ext exI)
   obtain⟨Av,cv,rfl,hbv⟩:=ho1.slice
   have HBV:=hid hbv
   have HOV:=hid ho1
   have B11n:=hid b11n
   have w110:=b11n.cell (i:=0) rfl
   have w111:=b11n.cell (i:=1) rfl
   have w112:=b11n.cell (i:=2) rfl
   have w113:=b11n.cell (i:=3) rfl
   have fz11:=b11n.frozen
   have k11:=b11n.lt
   have b4n:=B4a.out.of_ext X5.out
   have b9n:=B9a.out.of_ext X5.out
   have w40:=b4n.cell (i:=0) rfl
   have w41:=b4n.cell (i:=1) rfl
   have w42:=b4n.cell (i:=2) rfl
   have w90:=b9n.cell (i:=0) rfl
   have k4:=b4n.lt
   have k9:=b9n.lt
   clear hb1 ho1 hk1 b11n b4n b9n hbv
   refine⟨?_,?_⟩
   ·exact hS5
   try simp only[Act.put,zp]
   refine oR ?_
   refine wpOrd_act rfl rfl (fun K hK=> ?_)
   go_simp
   refine hK _ _ ⟨?_,?_⟩
   ·exact Tn
   clear hK K
   try simp only[Act.put,zp]
   refine wpOrd_nil ?_
  rotate_right
  focus
   refine wpOrd_call rfl rfl rfl Tryz.call78 (fun R hR=> ?_)
   go_simp
   refine(rframe_any _ Hnum.out _).mono ?_
   rintro e w1 ⟨Afr,cfr,rfl,hbf,E3,d3,rfl⟩
   refine hR _ _ ⟨_,rfl,?_,?_⟩
   ·exact Tn
   clear hR R
   simp only[Act.put,zp]
   refine wpOrd_act rfl rfl (fun K hK=> ?_)
   go_simp
   refine hK _ _ ⟨?_,?_⟩
   ·exact Tn
   clear hK K
   try simp only[Act.put,zp]
   refine wpOrd_abyt3 (v:=.slice Bt n1 kt) rfl (B9+1) To rfl rfl _ _ rfl (frameB r) rfl Tp rfl TF tB TG TT (fun v1 W1 hb1 ho1 hk1=> ?_)
   have hS5:∀ b o,b<B+1+1+1→W1.cell? ⟨b,o,none⟩=P4.cell? ⟨b,o,none⟩:=fun b o hb=>(hb1.cell (p:=⟨b,o,none⟩) (by show b<B9+1;omega)).trans Tq
   have X5:Hid (Ext (P2.alloc (.cells #[.slice Ap np cp] 34)) W1):=hid (Ext.below_of (Ext.trans X24.out exI) hb1 Tr)
   have b11n:BoxC W1 B11 [.slice Bs n0 ks,.int .i64 f0,.slice Bt n1 kt,.int .i64 f1] 27:=hk1 B11 _ _ hNE (B11b.out.of_ext exI)
   obtain⟨Av,cv,rfl,hbv⟩:=ho1.slice
   have HBV:=hid hbv
   have HOV:=hid ho1
   have B11n:=hid b11n
   have w110:=b11n.cell (i:=0) rfl
   have w111:=b11n.cell (i:=1) rfl
   have w112:=b11n.cell (i:=2) rfl
   have w113:=b11n.cell (i:=3) rfl
   have fz11:=b11n.frozen
   have k11:=b11n.lt
   have b4n:=B4a.out.of_ext X5.out
   have b9n:=B9a.out.of_ext X5.out
   have w40:=b4n.cell (i:=0) rfl
   have w41:=b4n.cell (i:=1) rfl
   have w42:=b4n.cell (i:=2) rfl
   have w90:=b9n.cell (i:=0) rfl
   have k4:=b4n.lt
   have k9:=b9n.lt
   clear hb1 ho1 hk1 b11n b4n b9n hbv
   refine⟨?_,?_⟩
   ·exact hS5
   try simp only[Act.put,zp]
   refine oR ?_
   refine wpOrd_act rfl rfl (fun K hK=> ?_)
   go_simp
   refine hK _ _ ⟨?_,?_⟩
   ·exact Tn
   clear hK K
   try simp only[Act.put,zp]
   refine wpOrd_nil ?_
  all_goals
   go_wp2_with fail
  all_goals
   clear q110 q111 q112 q113 m11
   obtain⟨B12,hB12⟩:∃ B,W1.heap.size=B:=⟨_,rfl⟩
   obtain⟨P6,hP6⟩:∃ P6,(W1.setCell ⟨B11,2,none⟩ (.slice Av (n1+(frameB r).length) cv)).alloc (.cells #[.slice Ap np cp,.int .i64 1,.int .i64 gen] 36)=P6:=⟨_,rfl⟩
   simp only[hP6,hB12]
   have x6:Ext (P2.alloc (.cells #[.slice Ap np cp] 34)) P6:=by rw[←hP6];exact Ext.alloc (Ext.setCell X5.out _ _ Tr) _
   have b11:BoxC P6 B11 [.slice Bs n0 ks,.int .i64 f0,.slice Av (n1+(frameB r).length) cv,.int .i64 f1] 27:=by rw[←hP6];exact(B11n.out.set 2 _).alloc _
   have b12:BoxC P6 B12 [.slice Ap np cp,.int .i64 1,.int .i64 gen] 36:=by rw[←hP6];exact BoxC.new_at _ _ (by rw[World.size_setCell];exact hB12.symm)
   have b6:=B6a.out.of_ext x6
   have b7:=B7a.out.of_ext x6
   have X6:=hid (X2a.out.trans x6)
   have HOA:Hid (BytA (B9+1) P6 Av (L1++frameB r)):=hid Ts
   have hln:(L1++frameB r).length=n1+(frameB r).length:=by rw[List.length_append,hl1]
   have HLE:Hid (n1+(frameB r).length≤cv∧cv≤9223372036854775807):=hid (by rw[←hln];exact⟨HOV.out.le,HOV.out.cap⟩)
   have HLN:=hid hln
   have RPZ:=hid (rpa.out.of_ext x6)
   have z12:B11<B12:=by have:=k11;omega
   have q60:=b6.cell (i:=0) rfl
   have q61:=b6.cell (i:=1) rfl
   have q62:=b6.cell (i:=2) rfl
   have q63:=b6.cell (i:=3) rfl
   have q70:=b7.cell (i:=0) rfl
   have q71:=b7.cell (i:=1) rfl
   have q72:=b7.cell (i:=2) rfl
   have q110:=b11.cell (i:=0) rfl
   have q111:=b11.cell (i:=1) rfl
   have q112:=b11.cell (i:=2) rfl
   have q113:=b11.cell (i:=3) rfl
   have q120:=b12.cell (i:=0) rfl
   have q121:=b12.cell (i:=1) rfl
   have q122:=b12.cell (i:=2) rfl
   have fz6:=b6.frozen
   have fz7:=b7.frozen
   have m6:=b6.lt
   have m7:=b7.lt
   have m11:=b11.lt
   have m12:=b12.lt
   have ne41:¬ (B12=B+1+1+1):=by omega
   have ne42:¬ (B12=B+1+1+1+1):=by omega
   have ne111:¬ (B11=B+1+1+1):=by omega
   have ne112:¬ (B11=B+1+1+1+1):=by omega
   clear b6 b7 b11 b12 hP6 hB12 x6 hln q40 q41 q42 q50 q51 q52 q53 q54 q55 q56 q57 q58 q59 q510 m4 m5 z5 hbf hS5 B11n w110 w111 w112 w113 fz11 k11 w40 w41 w42 w90 k4 k9 HBV HOV hNE hB11 X5 X24 HO B11b B4a B6a B7a B9a X23
   refine wp_region_ord (.f 0 (.f 1 (.a 2 (.a 3 (.f 4 .d))))) (fun w9=> ∀b o,b<(P6).heap.size→b≠B+1+1+1→b≠B+1+1+1+1→w9.cell? ⟨b,o,none⟩=(P6).cell? ⟨b,o,none⟩) tG tG (fun _ _ _ _ _=>rfl) ?_
   refine oR ?_
   refine wpOrd_act rfl rfl (fun K hK=> ?_)
   go_simp
   refine hK _ _ ⟨?_,?_⟩
   ·exact Tj
   clear hK K
   try simp only[Act.put,zp]
   refine wpOrd_act rfl rfl (fun K hK=> ?_)
   go_simp
   refine hK _ _ ⟨?_,?_⟩
   ·exact Tj
   clear hK K
   try simp only[Act.put,zp]
   refine oR ?_
   refine wpOrd_nil ?_
   go_wp2_with fail
   all_goals
    have ho:=HOA.out
    have hr6:=RPZ.out
    have hB:=HB.out
    have e4:=X6.out
    have hle:=HLE.out
    refine bodyPost_ret (v:=.tuple #[drvV Bs n0 ks f0 Av (n1+(frameB r).length) cv f1,memV Ap np cp 1 gen,.int .i64 0]) Tk rfl ?_
    refine⟨Bs,n0,ks,Av,n1+(frameB r).length,cv,Ap,np,⟨cp,rfl⟩,?_,hid (by rw[Hnp.out,hql]),?_,tW⟩
    ·refine⟨hl0,HLN.out,Hos.out.le,hle.1,Hos.out.cap,hle.2,?_,?_⟩
     ·exact(by rw[Hnil.out];exact BytA.nil _ _ _)
     ·exact Tt
    ·exact Tu
end Go.Proofs.YtekjdeibnfaehaaGreat
set_option linter.unusedSimpArgs false
set_option linter.unusedVariables false
namespace Go.Proofs.YtekjdeibnfaehaaGreat
open Go Go.RowKit
set_option maxRecDepth 100000 in
set_option maxHeartbeats 16000000 in
theorem rmem_out(A0:Option Addr)(n0 c0:Nat)(A1:Option Addr)(n1 c1:Nat)(L0 L1:List UInt8)(f0 f1:Int)(Am:Option Addr)(nm cm:Nat)(l:List Rec)(file gen:Int)(hin:inB file 0 1=false)(w:World)
 (hD:DrvY w ⟨⟨L0,f0⟩,⟨L1,f1⟩⟩ A0 n0 c0 A1 n1 c1) (hr:Recs w Am l):
 Calls Tryz.prog 75 #[drvV A0 n0 c0 f0 A1 n1 c1 f1,memV Am nm cm file gen] w fun e w'=>e= .returned (.bool false)∧Ext w w':=by
 obtain⟨hl0,hl1,hc0,hc1,hbig0,hbig1,hb0,hb1⟩:=hD
 simp only[] at hl0 hl1 hb0 hb1
 cases hk:dOk n0 f0 n1 f1 with
 | false=>
  go_enter Tryz.func75,Tryz.ntmps75
  go_wp2_with (go_at_call 59;refine(risDrive_any _ _ _ _ _ _ _ _ _).mono ?_;rintro e w1 ⟨rfl,E1,d1,rfl⟩)
  go_ret
  exact⟨ret_val rfl,exI⟩
 | true=>
  go_enter Tryz.func75,Tryz.ntmps75
  go_wp2_with (first|(go_at_call 59;refine(risDrive_any _ _ _ _ _ _ _ _ _).mono ?_;rintro e w1 ⟨rfl,E1,d1,rfl⟩)|(go_at_call 92;refine(rin_any _ _ _ _).mono ?_;rintro e w1 ⟨rfl,rfl⟩))
  go_ret
  exact⟨ret_val rfl,exI⟩
theorem memOk_out{D:DriveD}{M:MemD}(h:inB M.file 0 1=false):memOk D M=false:=by
 simp[memOk,h]
theorem rmem_any(A0:Option Addr)(n0 c0:Nat)(A1:Option Addr)(n1 c1:Nat)(D:DriveD)(Am:Option Addr)(nm cm:Nat)(M:MemD)(hm:M.recs.length=nm)(hmb:nm≤9223372036854775807)(ht:TxtBig M.recs)(w:World)
 (hD:DrvY w D A0 n0 c0 A1 n1 c1) (hr:Recs w Am M.recs):
 Calls Tryz.prog 75 #[drvV A0 n0 c0 D.f0.firm A1 n1 c1 D.f1.firm,memV Am nm cm M.file M.gen] w fun e w'=>e= .returned (.bool (memOk D M))∧Ext w w':=by
 obtain⟨⟨L0,f0⟩,⟨L1,f1⟩⟩:=D
 obtain⟨l,file,gen⟩:=M
 simp only at hm ht hr ⊢
 by_cases h0:file=0
 ·subst h0;exact rmem_any0 _ _ _ _ _ _ _ _ _ _ _ _ _ _ _ hm hmb ht w hD hr
 by_cases h1:file=1
 ·subst h1;exact rmem_any1 _ _ _ _ _ _ _ _ _ _ _ _ _ _ _ hm hmb ht w hD hr
 have hin:inB file 0 1=false:=by
  cases h:inB file 0 1 with
  | false=>rfl
  | true=>rw[inB_spec] at h;omega
 rw[memOk_out (M:=⟨l,file,gen⟩) hin]
 exact rmem_out _ _ _ _ _ _ _ _ _ _ _ _ _ _ _ _ hin w hD hr
set_option maxRecDepth 100000 in
set_option maxHeartbeats 16000000 in
theorem rapp_bad(A0:Option Addr)(n0 c0:Nat)(A1:Option Addr)(n1 c1:Nat)(D:DriveD)(Am:Option Addr)(nm cm:Nat)(M:MemD)(r:Rec)(hm:M.recs.length=nm)(hmb:nm≤9223372036854775807)(ht:TxtBig M.recs)(hmo:memOk D M=false)(w:World)
 (hD:DrvY w D A0 n0 c0 A1 n1 c1) (hr:Recs w Am M.recs):
 Calls Tryz.prog 20 #[drvV A0 n0 c0 D.f0.firm A1 n1 c1 D.f1.firm,memV Am nm cm M.file M.gen,recV r] w fun e w'=>e= .returned (.tuple #[drvV none 0 0 0 none 0 0 0,memV none 0 0 0 0,.int .i64 73])∧Ext w w':=by
 have hmem:=fun P (hx:Ext w P)=>rmem_any A0 n0 c0 A1 n1 c1 D Am nm cm M hm hmb ht P (hD.of_ext hx) (hr.of_ext hx)
 rw[hmo] at hmem
 have Hmem:=hid hmem
 clear hmem hD hr
 go_enter Tryz.func20,Tryz.ntmps20
 go_wp2_with fail
 refine(Hmem.out _ exI).mono ?_
 rintro e w1 ⟨rfl,E1,d1,rfl⟩
 go_wp2_with fail
 refine bodyPost_ret (v:=.tuple #[drvV none 0 0 0 none 0 0 0,memV none 0 0 0 0,.int .i64 73]) (by simp[results,Tryz.results20,go_sem]) rfl ?_
 exact⟨rfl,exI⟩
theorem rAppA_any(A0:Option Addr)(n0 c0:Nat)(A1:Option Addr)(n1 c1:Nat)(D:DriveD)(Am:Option Addr)(nm cm:Nat)(M:MemD)(r:Rec)(hm:M.recs.length=nm)(hmb:nm≤9223372036854775807)(ht:TxtBig M.recs)(hrt:r.text.size≤9223372036854775807)(w:World)
 (hD:DrvY w D A0 n0 c0 A1 n1 c1) (hr:Recs w Am M.recs):
 Calls Tryz.prog 20 #[drvV A0 n0 c0 D.f0.firm A1 n1 c1 D.f1.firm,memV Am nm cm M.file M.gen,recV r] w fun e w'=> ∃B0 m0 k0 B1 m1 k1 Ag ng cg,e= .returned (.tuple #[drvV B0 m0 k0 (appD D M r).f0.firm B1 m1 k1 (appD D M r).f1.firm,memV Ag ng cg (appM D M r).file (appM D M r).gen,.int .i64 (appE D M r)])∧
  DrvA w.heap.size w' (appD D M r) B0 m0 k0 B1 m1 k1∧Hid ((appM D M r).recs.length=ng)∧RecsA w.heap.size w' Ag (appM D M r).recs∧Ext w w':=by
 cases hmo:memOk D M with
 | false=>
  obtain⟨h1,h2,h3⟩:=appE_bad (r:=r) hmo
  rw[h1,h2,h3]
  refine(rapp_bad A0 n0 c0 A1 n1 c1 D Am nm cm M r hm hmb ht hmo w hD hr).mono ?_
  rintro e w' ⟨rfl,hx⟩
  exact⟨none,0,0,none,0,0,none,0,0,rfl,DrvA.zero _ _,hid rfl,RecsA.nil _ _ _,hx⟩
 | true=>
  have hf:=(memOk_facts hmo).2.1
  have hck:=(memOk_facts hmo).2.2.2.1
  by_cases hje:jaddE M.recs r=0
  ·have hrk:recOk r=true:=by
    cases hq:recOk r with
    | true=>rfl
    | false=>rw[jaddE,hq] at hje;cases hje
   have hpe:putE M.recs r=0:=by rw[jaddE,hrk] at hje;exact hje
   obtain⟨h1,h2,h3⟩:=appE_ok hmo hrk hpe
   rw[h1,h2,h3]
   clear h1 h2 h3 hje
   obtain⟨⟨L0,f0⟩,⟨L1,f1⟩⟩:=D
   obtain⟨l,file,gen⟩:=M
   simp only at hm ht hr hf hpe hck ⊢
   rcases hf with hf|hf
   ·subst hf
    refine(rapp_ok0 A0 n0 c0 A1 n1 c1 L0 L1 f0 f1 Am nm cm l gen r hm hmb ht hrt hmo hrk hpe w hD hr).mono ?_
    rintro e w' ⟨B0,m0,k0,B1,m1,k1,Ag,ng,cg,rfl,hd,hn,hq,hx⟩
    refine⟨B0,m0,k0,B1,m1,k1,Ag,ng,cg,?_,?_,hn,hq,hx⟩
    ·cases hasR l r.ao r.sq <;> rfl
    ·cases hh:hasR l r.ao r.sq <;> rw[hh] at hd <;> exact hd
   ·subst hf
    refine(rapp_ok1 A0 n0 c0 A1 n1 c1 L0 L1 f0 f1 Am nm cm l gen r hm hmb ht hrt hmo hrk hpe w hD hr).mono ?_
    rintro e w' ⟨B0,m0,k0,B1,m1,k1,Ag,ng,cg,rfl,hd,hn,hq,hx⟩
    refine⟨B0,m0,k0,B1,m1,k1,Ag,ng,cg,?_,?_,hn,hq,hx⟩
    ·cases hasR l r.ao r.sq <;> rfl
    ·cases hh:hasR l r.ao r.sq <;> rw[hh] at hd <;> exact hd
  ·obtain⟨h1,h2,h3⟩:=appE_err hmo hje
   have ha:=(add_of (r:=r) hck).1
   have hae:addE M.recs r=jaddE M.recs r:=by rw[ha,jaddE]
   rw[h1,h2,h3]
   rw[←hae] at hje ⊢
   clear h1 h2 h3 ha hae hck
   obtain⟨⟨L0,f0⟩,⟨L1,f1⟩⟩:=D
   obtain⟨l,file,gen⟩:=M
   simp only at hm ht hr hf hje ⊢
   rcases hf with hf|hf
   ·subst hf
    refine(rapp_err0 A0 n0 c0 A1 n1 c1 L0 L1 f0 f1 Am nm cm l gen r hm hmb ht hrt hmo hje w hD hr).mono ?_
    rintro e w' ⟨rfl,hx⟩
    exact⟨none,0,0,none,0,0,none,0,0,rfl,DrvA.zero _ _,hid rfl,RecsA.nil _ _ _,hx⟩
   ·subst hf
    refine(rapp_err1 A0 n0 c0 A1 n1 c1 L0 L1 f0 f1 Am nm cm l gen r hm hmb ht hrt hmo hje w hD hr).mono ?_
    rintro e w' ⟨rfl,hx⟩
    exact⟨none,0,0,none,0,0,none,0,0,rfl,DrvA.zero _ _,hid rfl,RecsA.nil _ _ _,hx⟩
end Go.Proofs.YtekjdeibnfaehaaGreat
