/- Texts of a proof. -/
import Derived.Test.YtekjdeibnfaehaaGreatKDbj
set_option linter.unusedSimpArgs false
set_option linter.unusedVariables false
namespace Go.Proofs.YtekjdeibnfaehaaGreat
open Go Go.RowKit
theorem offer_q(O:OffD)(L:OffL)(oc:List Value)(ho:offQ O L=oc)(w:World)(t:Int)(h:OffY w O L):
 Calls Tryz.prog 44 #[.agg oc.toArray,.int .i64 t] w fun e w'=> ∃(L':OffL) (nc:List Value) (A:Option Addr) (n c:Nat) (j:Int),e= .returned (.tuple #[.agg nc.toArray,.slice A n c,.int .i64 j])∧Whole nc.toArray 17∧nc.length=17∧Hid (OffR w w' (offerO O t) (offerE O t) L' nc j)∧Hid (MsgsA w.heap.size w' A n c (offerL O t))∧Ext w w':=by
 subst ho
 refine(Offer_any O L w t h).mono ?_
 rintro e w' ⟨L',A,n,c,rfl,hA,hm,hx⟩
 exact⟨L',offQ (offerO O t) L',A,n,c,_,rfl,offQ_whole _ _,rfl,hid ⟨rfl,rfl,hA⟩,hid hm,hx⟩
set_option maxRecDepth 100000 in
set_option maxHeartbeats 16000000 in
theorem moved_offer{n:Nat}{G:Gh}(W:WD)(Ls:Nat→OffL)(A:Option Addr)(na c:Nat)(mv:MoveD)(w:World)(hI:WI n W G)(hY:WorldY w W Ls A na c)(hx:mv.x.text.size≤9223372036854775807)
 (hk0: -9223372036854775808≤mv.k0) (hk0':mv.k0≤9223372036854775807) (hk1: -9223372036854775808≤mv.k1) (hk1':mv.k1≤9223372036854775807) (hlong:na≤100000) (HD:Hid (mv.what % 12=1∨mv.what % 12=2)):
 Calls Tryz.prog 38 #[.agg (worldC W Ls A na c).toArray,mvV mv] w fun e w'=> ∃Ls' A' n' c',e= .returned (.agg (worldC (movedW W mv) Ls' A' n' c').toArray)∧MovR w w' Ls A na (movedW W mv) Ls' A' n' c':=by
 have HI:=hid hI
 have HY:=hid hY
 have HK:=hid (show _∧_∧_∧_ from⟨hk0,hk0',hk1,hk1'⟩)
 have Hx:=hid hx
 have Hlong:=hid hlong
 clear hI hY hk0 hk0' hk1 hk1' hx hlong
 obtain⟨B,hB⟩:∃ B:Nat,w.heap.size=B:=⟨_,rfl⟩
 have HB:=hid hB
 obtain⟨p,hp⟩:∃ p:Nat,mv.a % 4=p:=⟨(mv.a % 4).toNat,by omega⟩
 have hp4:p<4:=by omega
 have hpi:(p:Int)<4:=by omega
 obtain⟨W',hW'⟩:∃ W',movedW W mv=W':=⟨_,rfl⟩
 rw[hW']
 have HW:=hid hW'
 obtain⟨wc,hwc⟩:∃ wc,worldC W Ls A na c=wc:=⟨_,rfl⟩
 obtain⟨zc,hzc⟩:∃ zc,worldC zeroW (fun _=>zL) none 0 0=zc:=⟨_,rfl⟩
 have hzw:=zero_world
 rw[hwc]
 rw[hzc] at hzw
 have Hwc:=hid hwc
 have Hzc:=hid hzc
 clear hW' hB hwc hzc
 go_enter Tryz.func38,Tryz.ntmps38
 go_wp2_with fail
 refine(Mod_any _ _ tN tN _).mono ?_
 rintro e w1 ⟨rfl,rfl⟩
 obtain⟨P0,hP0⟩:∃ P0,((w.alloc (.cells wc.toArray 83)).alloc (.cells (mvC mv).toArray 90)).alloc (.cells zc.toArray 83)=P0:=⟨_,rfl⟩
 simp only[hP0]
 have b0:BoxC P0 B (worldC W Ls A na c) 83:=by rw[Hwc.out,←hP0];exact((BoxC.new_at _ _ HB.out.symm).alloc _).alloc _
 have b1:BoxC P0 (B+1) (mvC mv) 90:=by rw[←hP0];exact(BoxC.new_at _ _ qH).alloc _
 have b2:BoxC P0 (B+1+1) zc 83:=by rw[←hP0];exact BoxC.new_at _ _ qH
 have xP:Hid (Ext w P0):=hid qh
 have zP:P0.heap.size=B+1+1+1:=by rw[←hP0];simp[HB.out]
 simp only[HB.out]
 have c0:=b0.world
 rw[Hwc.out] at c0
 obtain⟨oc,hoc⟩:∃ oc,offQ (W.off p) (Ls p)=oc:=⟨_,rfl⟩
 have ro:rowAt P0 B (p * 17) 17=oc.toArray:=by rw[←hoc];exact b0.worldOff hp4
 have wo:Whole oc.toArray 17:=by rw[←hoc];exact offQ_whole _ _
 have lo:oc.length=17:=by rw[←hoc];rfl
 have Hoc:=hid hoc
 clear hoc
 have c1:=b1.c13
 have t0:=b0.lt
 have t1:=b1.lt
 have f0:=b0.frozen
 have B0:=hid b0
 have B1:=hid b1
 have B2:=hid b2
 clear b0 b1 b2 hP0
 rw[hp]
 have ns:¬ (B+1+1+1=B+1):=by omega
 have nb:¬ (B+1+1+1=B):=by omega
 have nss:¬ (B+1+1=B):=by omega
 have hpt:17+p * 17≤70:=by omega
 have hpt2:p * 17+17≤70:=by omega
 have hpt3:p * 17≤53:=by omega
 go_wp2_with fail
 refine(Mod_any _ _ tN tN _).mono ?_
 rintro e w1 ⟨rfl,rfl⟩
 obtain⟨Q,hQ⟩:∃ Q,((P0.alloc (.cells #[.int .i64 0,.slice none 0 0,.int .i64 0,.slice none 0 0,.int .i64 0,.slice none 0 0,.int .i64 0,.int .i64 0,.slice none 0 0,.slice none 0 0,.slice none 0 0,.slice none 0 0,.slice none 0 0,.slice none 0 0,.slice none 0 0,.slice none 0 0,.slice none 0 0] 76)).setCells (B+1+1+1) 0 oc).setCell ⟨B,69,none⟩ (.int .i64 0)=Q:=⟨_,rfl⟩
 simp only[hQ]
 have q0:BoxC Q B (worldC ⟨W.off,W.way,0⟩ Ls A na c) 83:=by rw[←hQ];exact(BoxC.cellsOther nb _ _ (B0.out.alloc _)).set 69 _
 have q1:BoxC Q (B+1) (mvC mv) 90:=by rw[←hQ];exact(BoxC.cellsOther tB _ _ (B1.out.alloc _)).other _ _ tB
 have q2:BoxC Q (B+1+1) zc 83:=by rw[←hQ];exact(BoxC.cellsOther tB _ _ (B2.out.alloc _)).other _ _ tB
 have q3:BoxC Q (B+1+1+1) oc 76:=by rw[←hQ];exact BoxC.other qi _ _ tB
 have XQ:Hid (Ext w Q):=hid qj
 have Q0:=hid q0
 have Q1:=hid q1
 have Q2:=hid q2
 have Q3:=hid q3
 have I:=hid (HI.out.o p hp4)
 have hoy:=hid ((HY.out.o p hp4).of_ext XQ.out)
 have c1:=q1.c13
 have o5:=q3.cell (i:=5) (v:=.slice (Ls p).Am (Ls p).nm (Ls p).cm) qk
 have lq3:rowLen Q (B+1+1+1)=17:=q3.len.trans lo
 have rq3:rowAt Q (B+1+1+1) 0 17=oc.toArray:=by have:=q3.row;rw[lo] at this;exact this
 obtain⟨wq,hwq⟩:∃ wq,worldC ⟨W.off,W.way,0⟩ Ls A na c=wq:=⟨_,rfl⟩
 obtain⟨w68,w69,lq0,rq0⟩:=q0.world
 rw[hwq] at rq0
 have wwq:Whole wq.toArray 70:=by rw[←hwq];exact worldC_whole _ _ _ _ _
 have wset:∀ e:Int,Whole (wq.set 69 (.int .i64 e)).toArray 70:=fun e=>whole_seti 69 e wwq
 have Hwq:=hid hwq
 clear hwq
 have t0:=q0.lt
 have t1:=q1.lt
 have t2:=q2.lt
 have t3:=q3.lt
 have bfa:(∀x,B<Q.heap.size+x)∧(∀x y,B<Q.heap.size+x+y)∧(∀x y z,B<Q.heap.size+x+y+z)∧(∀x,B≤Q.heap.size+x)∧(∀x y,B≤Q.heap.size+x+y)∧(∀x y z,B≤Q.heap.size+x+y+z):=⟨fun _=>by omega,fun _ _=>by omega,fun _ _ _=>by omega,fun _=>by omega,fun _ _=>by omega,fun _ _ _=>by omega⟩
 have bfb:(∀x,B+1<Q.heap.size+x)∧(∀x y,B+1<Q.heap.size+x+y)∧(∀x y z,B+1<Q.heap.size+x+y+z)∧(∀x,B+1≤Q.heap.size+x)∧(∀x y,B+1≤Q.heap.size+x+y)∧(∀x y z,B+1≤Q.heap.size+x+y+z):=⟨fun _=>by omega,fun _ _=>by omega,fun _ _ _=>by omega,fun _=>by omega,fun _ _=>by omega,fun _ _ _=>by omega⟩
 have bfc:(∀x,B+1+1<Q.heap.size+x)∧(∀x y,B+1+1<Q.heap.size+x+y)∧(∀x y z,B+1+1<Q.heap.size+x+y+z)∧(∀x,B+1+1≤Q.heap.size+x)∧(∀x y,B+1+1≤Q.heap.size+x+y)∧(∀x y z,B+1+1≤Q.heap.size+x+y+z):=⟨fun _=>by omega,fun _ _=>by omega,fun _ _ _=>by omega,fun _=>by omega,fun _ _=>by omega,fun _ _ _=>by omega⟩
 have nfa:¬ (Q.heap.size=B)∧(∀x,¬(Q.heap.size+x=B))∧(∀x y,¬(Q.heap.size+x+y=B))∧(∀x y z,¬(Q.heap.size+x+y+z=B)):=⟨by omega,fun _=>by omega,fun _ _=>by omega,fun _ _ _=>by omega⟩
 have nfb:¬ (Q.heap.size=B+1)∧(∀x,¬(Q.heap.size+x=B+1))∧(∀x y,¬(Q.heap.size+x+y=B+1))∧(∀x y z,¬(Q.heap.size+x+y+z=B+1)):=⟨by omega,fun _=>by omega,fun _ _=>by omega,fun _ _ _=>by omega⟩
 have nfc:¬ (Q.heap.size=B+1+1)∧(∀x,¬(Q.heap.size+x=B+1+1))∧(∀x y,¬(Q.heap.size+x+y=B+1+1))∧(∀x y z,¬(Q.heap.size+x+y+z=B+1+1)):=⟨by omega,fun _=>by omega,fun _ _=>by omega,fun _ _ _=>by omega⟩
 have nga:¬ (B=Q.heap.size)∧(∀x,¬(B=Q.heap.size+x))∧(∀x y,¬(B=Q.heap.size+x+y))∧(∀x y z,¬(B=Q.heap.size+x+y+z)):=⟨by omega,fun _=>by omega,fun _ _=>by omega,fun _ _ _=>by omega⟩
 have ngb:¬ (B+1=Q.heap.size)∧(∀x,¬(B+1=Q.heap.size+x))∧(∀x y,¬(B+1=Q.heap.size+x+y))∧(∀x y z,¬(B+1=Q.heap.size+x+y+z)):=⟨by omega,fun _=>by omega,fun _ _=>by omega,fun _ _ _=>by omega⟩
 have ngc:¬ (B+1+1=Q.heap.size)∧(∀x,¬(B+1+1=Q.heap.size+x))∧(∀x y,¬(B+1+1=Q.heap.size+x+y))∧(∀x y z,¬(B+1+1=Q.heap.size+x+y+z)):=⟨by omega,fun _=>by omega,fun _ _=>by omega,fun _ _ _=>by omega⟩
 have wB:w.heap.size≤B:=by have:=HB.out;omega
 have wB2:w.heap.size≤B+1+1:=by omega
 have wQ:w.heap.size≤Q.heap.size:=by omega
 have e0le:B≤Q.heap.size:=by omega
 have e1le:B+1≤Q.heap.size:=by omega
 have e2le:B+1+1≤Q.heap.size:=by omega
 have e1lt:B+1<Q.heap.size:=by omega
 have f0:=q0.frozen
 have lq2:rowLen Q (B+1+1)=70:=q2.len.trans ql
 clear c0 ro hzw zP hQ q0 q1 q2 q3 B0 B1 B2 xP hpt hpt2
 have hd:=HD.out
 clear HD
 have Hd:=hid hd
 clear hd
 rcases Hd.out with hd1|hd1
 all_goals
  rw[hd1]
  go_wp2_with fail
  refine wp_region_ord (.f 0 (.f 1 (.f 2 (.e 3 (.k 4 (.f 5 (.f 6 (.f 7 (.f 8 (.a 9 (.a 10 (.f 11 (.f 12 .d)))))))) 9 (.a 4 (.f 5 (.f 6 (.f 7 (.f 8 (.a 10 (.f 11 (.f 12 .d))))))))))))) (Kept (Q) (B) (B)) tG tG (Kept.refl _ _ _).drew ?_
  repeat' first|(refine oK ?_)|(refine wpOrd_early (v:=?_) rfl rfl rfl Tryz.call39 (fun w8 hS8 R hR=> ?_) ?_;rotate_left;(focus(go_simp;refine(Mod_any _ _ tN tN _).mono ?_;rintro e w1 ⟨rfl,rfl⟩;exact hR));simp only[Act.put,zp])|(refine wpOrd_call rfl rfl rfl Tryz.call44 (fun R hR=> ?_);go_simp;refine(offer_q (W.off p) (Ls p) oc Hoc.out _ (mv.b % 4) (hoy.out.of_ext exI)).mono ?_;rintro e w1 ⟨LN,nc,AM,nm,cm,jn,rfl,wn,ln,hN,hM,⟨EN,dN,rfl⟩⟩;refine hR _ _ ⟨_,rfl,qm,?_⟩;clear hR R;simp only[Act.put,zp])|(refine wpOrd_act rfl rfl (fun K hK=> ?_);go_simp;refine hK _ _ ⟨qm,?_⟩;clear hK K;try simp only[Act.put,zp])|refine wpOrd_fork ?_ ?_|refine wpOrd_nil ?_
  all_goals
   have wput:=fun e=>whole_put (wset e) wn hpt3
   by_cases hj:jn=0
   ·subst hj
    go_wp2_with fail
    have hN1:=hN.out
    have hs:=movedW_offer (W:=W) hp (by rw[hd1];decide) (by rw[hd1];decide)
    rw[HW.out,offerW,hN1.2.1] at hs
    simp only[if_true] at hs
    obtain⟨bs,hi,hbs,hhi,hZ⟩:=offz_ex hN1.2.2
    have hMZ:=MsgZ.mk hM.out
    rw[←hbs,←hhi] at hMZ
    simp only[World.size_alloc,size_ext,size_cells,World.size_setCell,szd] at hbs hhi
    have bB:B<bs:=by omega
    have bB2:B+1+1<bs:=by omega
    have wbs:w.heap.size≤bs:=by omega
    refine wp_named fun Y hY=> ?_
    have xY:Ext w Y:=by rw[hY];exact qo
    have ly2:rowLen Y (B+1+1)=70:=by rw[hY];exact qn
    have zY:OffZ bs hi Y (offerO (W.off p) (mv.b % 4)) LN:=by rw[hY];exact qp
    have mY:MsgZ bs hi Y AM nm cm (offerL (W.off p) (mv.b % 4)):=by rw[hY];exact qq
    have rY:rowAt Y B 0 70=(putC (wq.set 69 (.int .i64 0)) (p * 17) nc).toArray:=by rw[hY];go_simp
    have hap:p * 17+nc.length≤68:=by omega
    have hap2:p * 17+17≤68:=by omega
    have w68':Y.cell? ⟨B,68,none⟩=some (.slice A na c):=by rw[hY];go_simp
    have hway:=HY.out.m.of_ext xY
    have hnc:=hway.1
    have hlg:=Hlong.out
    have hwl:([]:List MsgD).length+W.way.length≤1000000:=by simp only[List.length_nil];omega
    have hY0:B<Y.heap.size:=by rw[hY];exact(by repeat(first|with_reducible exact t0|with_reducible refine lw_alloc ?_|with_reducible refine lw_ext ?_|with_reducible refine lw_drew ?_|with_reducible refine lw_set ?_|with_reducible refine lw_cells ?_))
    have fY:=fars hY0
    have fzY:∀ i:Nat,Y.frozen? ⟨B,i,none⟩=false:=fun i=>by rw[hY];go_simp
    have lY0:rowLen Y B=70:=by rw[hY];go_simp
    have tY2:B+1+1<Y.heap.size:=by rw[hY];exact qs
    have Hbs:=hid hbs
    have Hhi:=hid hhi
    have HN1:=hid hN1.1
    clear hY hbs hhi hN1 hN hM hZ hMZ
    obtain⟨OL,hOL⟩:∃ OL,offerL (W.off p) (mv.b % 4)=OL:=⟨_,rfl⟩
    rw[hOL] at mY hs
    clear hOL
    obtain⟨m12,hm12⟩:∃ m12,min nm 12=m12:=⟨_,rfl⟩
    have hmi:min (nm:Int) 12=(m12:Int):=by omega
    have hmc:m12≤cm:=by have:=mY.1.2.1;omega
    have hol:OL.take 12=OL.take m12:=by rw[←hm12,←mY.1.1,Nat.min_comm,←List.take_take,List.take_length]
    have hs2:W'=setW W p (offerO (W.off p) (mv.b % 4)) (([]++W.way)++OL.take m12):=by rw[hs,hol];rfl
    have hml:(OL.take m12).length=m12:=by rw[List.length_take];have:=mY.1.1;omega
    have hl12:=mY.1.read.take (k:=m12) tB
    have hwl2:(([]:List MsgD)++W.way).length+(OL.take m12).length≤1000000:=by rw[List.nil_append,hml];omega
    obtain⟨N2,hN2⟩:∃ N2,OL.take m12=N2:=⟨_,rfl⟩
    rw[hN2] at hs2 hml hl12 hwl2
    have Hs2:=hid hs2
    clear hs hs2 hol hm12 hN2
    refine wp_region_ordZ 11 (.f 1 (.f 2 (.f 4 (.f 5 (.f 6 (.f 7 (.f 8 (.a 0 (.a 3 (.a 9 (.f 10 (.z 11)))))))))))) (Kept (Y) (Y.heap.size) (Y.heap.size)) tG tG (Kept.refl _ _ _).drew ?_
    refine oT ?_
    refine oG ?_
    refine wpOrd_amsg (A:=A) (m:=na) (c:=c) rfl Y Y.heap.size rfl rfl rfl _ _ rfl W.way tI exI (OwnM.empty _ _ _ qB (Nat.le_refl _)) tI hnc.symm (hway.2.2.2.of_ext exI) hwl (fun v1 E1 d1 o1=>⟨qm,?_⟩)
    try simp only[Act.put,zp]
    refine wpOrd_amsg (A:=AM) (m:=m12) (c:=cm) rfl Y Y.heap.size rfl rfl rfl _ _ rfl N2 tI exI o1 tI hml.symm (hl12.of_ext exI) hwl2 (fun v2 E2 d2 o2=>⟨qm,?_⟩)
    obtain⟨A2,n2,c2,rfl⟩:=o2.slice
    try simp only[Act.put,zp]
    refine oT ?_
    refine wpOrd_last rfl rfl (fun K hK=> ?_)
    go_simp
    refine hK _ _ ?_
    clear hK K
    try simp only[Act.put,zp]
    all_goals
     have bY:B<Y.heap.size:=by omega
     have hMZ:=MsgZ.set (i:=68) (v:=.slice A2 n2 c2) (MsgZ.mk o2.msgs) (.inl bY)
     rw[setCell_ext (hn:=bY)] at hMZ
     have hMZ2:=fun vs=>MsgZ.cells (vs:=vs) (i:=0) hMZ (.inl tY2)
     have lq2:=ly2
     have t2:=tY2
     have XQ:=hid xY
     have hZ:=zY
     have wQ:w.heap.size≤Y.heap.size:=by omega
     have hz12:m12+0=m12:=rfl
     clear lq0 rq0 lq3 rq3 w68 w69 f0 o5 c1 hmi
     go_wp2_with fail
     refine bodyPost_ret (ret_w rfl rfl qn (rowAt_setCells_same (whole_len (whole_sets 68 A2 n2 c2 (wput 0))) (Nat.le_of_eq (Eq.symm qn)))) rfl ?_
     refine fin_way hp4 Hs2.out Hwq.out HN1.out ?_
     exact mov_way HI.out HY.out hp4 HW.out Hs2.out qo (And.left (show OffZ bs hi _ _ _ from qp)) (WayK.new (And.left (hMZ2 _)) wQ) wbs
   ·have hj2:(jn==0)=false:=by simpa using hj
    go_wp2_with fail
    have hN1:=hN.out
    have hs:=movedW_offer (W:=W) hp (by rw[hd1];decide) (by rw[hd1];decide)
    rw[HW.out,offerW,hN1.2.1,if_neg hj] at hs
    refine bodyPost_ret (ret_w rfl rfl qn (rowAt_setCells_same (whole_len (wset jn)) (Nat.le_of_eq (Eq.symm qn)))) rfl ?_
    exact fin_err hs Hwq.out (mov_err HY.out hs qo)
end Go.Proofs.YtekjdeibnfaehaaGreat
set_option linter.unusedSimpArgs false
set_option linter.unusedVariables false
namespace Go.Proofs.YtekjdeibnfaehaaGreat
open Go Go.RowKit
theorem madeR_day(l:List Rec)(x:RawD):0≤(madeR l x).day∧(madeR l x).day<60:=by
 unfold madeR
 split
 ·exact⟨Int.le_refl _,by show(0:Int)<60;omega⟩
 ·split
  ·show 0≤x.a3 % 60∧x.a3 % 60<60;omega
  ·show 0≤x.a3 % 60∧x.a3 % 60<60;omega
set_option maxRecDepth 100000 in
set_option maxHeartbeats 16000000 in
theorem moved_grant{n:Nat}{G:Gh}(W:WD)(Ls:Nat→OffL)(A:Option Addr)(na c:Nat)(mv:MoveD)(w:World)(hI:WI n W G)(hY:WorldY w W Ls A na c)(hx:mv.x.text.size≤9223372036854775807)
 (hk0: -9223372036854775808≤mv.k0) (hk0':mv.k0≤9223372036854775807) (hk1: -9223372036854775808≤mv.k1) (hk1':mv.k1≤9223372036854775807) (hlong:na≤100000) (HD:Hid (mv.what % 12=8∨mv.what % 12=9)):
 Calls Tryz.prog 38 #[.agg (worldC W Ls A na c).toArray,mvV mv] w fun e w'=> ∃Ls' A' n' c',e= .returned (.agg (worldC (movedW W mv) Ls' A' n' c').toArray)∧MovR w w' Ls A na (movedW W mv) Ls' A' n' c':=by
 have HI:=hid hI
 have HY:=hid hY
 have HK:=hid (show _∧_∧_∧_ from⟨hk0,hk0',hk1,hk1'⟩)
 have Hx:=hid hx
 have Hlong:=hid hlong
 clear hI hY hk0 hk0' hk1 hk1' hx hlong
 obtain⟨B,hB⟩:∃ B:Nat,w.heap.size=B:=⟨_,rfl⟩
 have HB:=hid hB
 obtain⟨p,hp⟩:∃ p:Nat,mv.a % 4=p:=⟨(mv.a % 4).toNat,by omega⟩
 have hp4:p<4:=by omega
 have hpi:(p:Int)<4:=by omega
 obtain⟨W',hW'⟩:∃ W',movedW W mv=W':=⟨_,rfl⟩
 rw[hW']
 have HW:=hid hW'
 obtain⟨wc,hwc⟩:∃ wc,worldC W Ls A na c=wc:=⟨_,rfl⟩
 obtain⟨zc,hzc⟩:∃ zc,worldC zeroW (fun _=>zL) none 0 0=zc:=⟨_,rfl⟩
 have hzw:=zero_world
 rw[hwc]
 rw[hzc] at hzw
 have Hwc:=hid hwc
 have Hzc:=hid hzc
 clear hW' hB hwc hzc
 go_enter Tryz.func38,Tryz.ntmps38
 go_wp2_with fail
 refine(Mod_any _ _ tN tN _).mono ?_
 rintro e w1 ⟨rfl,rfl⟩
 obtain⟨P0,hP0⟩:∃ P0,((w.alloc (.cells wc.toArray 83)).alloc (.cells (mvC mv).toArray 90)).alloc (.cells zc.toArray 83)=P0:=⟨_,rfl⟩
 simp only[hP0]
 have b0:BoxC P0 B (worldC W Ls A na c) 83:=by rw[Hwc.out,←hP0];exact((BoxC.new_at _ _ HB.out.symm).alloc _).alloc _
 have b1:BoxC P0 (B+1) (mvC mv) 90:=by rw[←hP0];exact(BoxC.new_at _ _ qH).alloc _
 have b2:BoxC P0 (B+1+1) zc 83:=by rw[←hP0];exact BoxC.new_at _ _ qH
 have xP:Hid (Ext w P0):=hid qh
 have zP:P0.heap.size=B+1+1+1:=by rw[←hP0];simp[HB.out]
 simp only[HB.out]
 have c0:=b0.world
 rw[Hwc.out] at c0
 obtain⟨oc,hoc⟩:∃ oc,offQ (W.off p) (Ls p)=oc:=⟨_,rfl⟩
 have ro:rowAt P0 B (p * 17) 17=oc.toArray:=by rw[←hoc];exact b0.worldOff hp4
 have wo:Whole oc.toArray 17:=by rw[←hoc];exact offQ_whole _ _
 have lo:oc.length=17:=by rw[←hoc];rfl
 have Hoc:=hid hoc
 clear hoc
 have c1:=b1.c13
 have t0:=b0.lt
 have t1:=b1.lt
 have f0:=b0.frozen
 have B0:=hid b0
 have B1:=hid b1
 have B2:=hid b2
 clear b0 b1 b2 hP0
 rw[hp]
 have ns:¬ (B+1+1+1=B+1):=by omega
 have nb:¬ (B+1+1+1=B):=by omega
 have nss:¬ (B+1+1=B):=by omega
 have hpt:17+p * 17≤70:=by omega
 have hpt2:p * 17+17≤70:=by omega
 have hpt3:p * 17≤53:=by omega
 go_wp2_with fail
 refine(Mod_any _ _ tN tN _).mono ?_
 rintro e w1 ⟨rfl,rfl⟩
 obtain⟨Q,hQ⟩:∃ Q,((P0.alloc (.cells #[.int .i64 0,.slice none 0 0,.int .i64 0,.slice none 0 0,.int .i64 0,.slice none 0 0,.int .i64 0,.int .i64 0,.slice none 0 0,.slice none 0 0,.slice none 0 0,.slice none 0 0,.slice none 0 0,.slice none 0 0,.slice none 0 0,.slice none 0 0,.slice none 0 0] 76)).setCells (B+1+1+1) 0 oc).setCell ⟨B,69,none⟩ (.int .i64 0)=Q:=⟨_,rfl⟩
 simp only[hQ]
 have q0:BoxC Q B (worldC ⟨W.off,W.way,0⟩ Ls A na c) 83:=by rw[←hQ];exact(BoxC.cellsOther nb _ _ (B0.out.alloc _)).set 69 _
 have q1:BoxC Q (B+1) (mvC mv) 90:=by rw[←hQ];exact(BoxC.cellsOther tB _ _ (B1.out.alloc _)).other _ _ tB
 have q2:BoxC Q (B+1+1) zc 83:=by rw[←hQ];exact(BoxC.cellsOther tB _ _ (B2.out.alloc _)).other _ _ tB
 have q3:BoxC Q (B+1+1+1) oc 76:=by rw[←hQ];exact BoxC.other qi _ _ tB
 have XQ:Hid (Ext w Q):=hid qj
 have Q0:=hid q0
 have Q1:=hid q1
 have Q2:=hid q2
 have Q3:=hid q3
 have I:=hid (HI.out.o p hp4)
 have hoy:=hid ((HY.out.o p hp4).of_ext XQ.out)
 have c1:=q1.c13
 have o5:=q3.cell (i:=5) (v:=.slice (Ls p).Am (Ls p).nm (Ls p).cm) qk
 have lq3:rowLen Q (B+1+1+1)=17:=q3.len.trans lo
 have rq3:rowAt Q (B+1+1+1) 0 17=oc.toArray:=by have:=q3.row;rw[lo] at this;exact this
 obtain⟨wq,hwq⟩:∃ wq,worldC ⟨W.off,W.way,0⟩ Ls A na c=wq:=⟨_,rfl⟩
 obtain⟨w68,w69,lq0,rq0⟩:=q0.world
 rw[hwq] at rq0
 have wwq:Whole wq.toArray 70:=by rw[←hwq];exact worldC_whole _ _ _ _ _
 have wset:∀ e:Int,Whole (wq.set 69 (.int .i64 e)).toArray 70:=fun e=>whole_seti 69 e wwq
 have Hwq:=hid hwq
 clear hwq
 have t0:=q0.lt
 have t1:=q1.lt
 have t2:=q2.lt
 have t3:=q3.lt
 have bfa:(∀x,B<Q.heap.size+x)∧(∀x y,B<Q.heap.size+x+y)∧(∀x y z,B<Q.heap.size+x+y+z)∧(∀x,B≤Q.heap.size+x)∧(∀x y,B≤Q.heap.size+x+y)∧(∀x y z,B≤Q.heap.size+x+y+z):=⟨fun _=>by omega,fun _ _=>by omega,fun _ _ _=>by omega,fun _=>by omega,fun _ _=>by omega,fun _ _ _=>by omega⟩
 have bfb:(∀x,B+1<Q.heap.size+x)∧(∀x y,B+1<Q.heap.size+x+y)∧(∀x y z,B+1<Q.heap.size+x+y+z)∧(∀x,B+1≤Q.heap.size+x)∧(∀x y,B+1≤Q.heap.size+x+y)∧(∀x y z,B+1≤Q.heap.size+x+y+z):=⟨fun _=>by omega,fun _ _=>by omega,fun _ _ _=>by omega,fun _=>by omega,fun _ _=>by omega,fun _ _ _=>by omega⟩
 have bfc:(∀x,B+1+1<Q.heap.size+x)∧(∀x y,B+1+1<Q.heap.size+x+y)∧(∀x y z,B+1+1<Q.heap.size+x+y+z)∧(∀x,B+1+1≤Q.heap.size+x)∧(∀x y,B+1+1≤Q.heap.size+x+y)∧(∀x y z,B+1+1≤Q.heap.size+x+y+z):=⟨fun _=>by omega,fun _ _=>by omega,fun _ _ _=>by omega,fun _=>by omega,fun _ _=>by omega,fun _ _ _=>by omega⟩
 have nfa:¬ (Q.heap.size=B)∧(∀x,¬(Q.heap.size+x=B))∧(∀x y,¬(Q.heap.size+x+y=B))∧(∀x y z,¬(Q.heap.size+x+y+z=B)):=⟨by omega,fun _=>by omega,fun _ _=>by omega,fun _ _ _=>by omega⟩
 have nfb:¬ (Q.heap.size=B+1)∧(∀x,¬(Q.heap.size+x=B+1))∧(∀x y,¬(Q.heap.size+x+y=B+1))∧(∀x y z,¬(Q.heap.size+x+y+z=B+1)):=⟨by omega,fun _=>by omega,fun _ _=>by omega,fun _ _ _=>by omega⟩
 have nfc:¬ (Q.heap.size=B+1+1)∧(∀x,¬(Q.heap.size+x=B+1+1))∧(∀x y,¬(Q.heap.size+x+y=B+1+1))∧(∀x y z,¬(Q.heap.size+x+y+z=B+1+1)):=⟨by omega,fun _=>by omega,fun _ _=>by omega,fun _ _ _=>by omega⟩
 have nga:¬ (B=Q.heap.size)∧(∀x,¬(B=Q.heap.size+x))∧(∀x y,¬(B=Q.heap.size+x+y))∧(∀x y z,¬(B=Q.heap.size+x+y+z)):=⟨by omega,fun _=>by omega,fun _ _=>by omega,fun _ _ _=>by omega⟩
 have ngb:¬ (B+1=Q.heap.size)∧(∀x,¬(B+1=Q.heap.size+x))∧(∀x y,¬(B+1=Q.heap.size+x+y))∧(∀x y z,¬(B+1=Q.heap.size+x+y+z)):=⟨by omega,fun _=>by omega,fun _ _=>by omega,fun _ _ _=>by omega⟩
 have ngc:¬ (B+1+1=Q.heap.size)∧(∀x,¬(B+1+1=Q.heap.size+x))∧(∀x y,¬(B+1+1=Q.heap.size+x+y))∧(∀x y z,¬(B+1+1=Q.heap.size+x+y+z)):=⟨by omega,fun _=>by omega,fun _ _=>by omega,fun _ _ _=>by omega⟩
 have wB:w.heap.size≤B:=by have:=HB.out;omega
 have wB2:w.heap.size≤B+1+1:=by omega
 have wQ:w.heap.size≤Q.heap.size:=by omega
 have e0le:B≤Q.heap.size:=by omega
 have e1le:B+1≤Q.heap.size:=by omega
 have e2le:B+1+1≤Q.heap.size:=by omega
 have e1lt:B+1<Q.heap.size:=by omega
 have f0:=q0.frozen
 have lq2:rowLen Q (B+1+1)=70:=q2.len.trans ql
 clear c0 ro hzw zP hQ q0 q1 q2 q3 B0 B1 B2 xP hpt hpt2
 have hd:=HD.out
 clear HD
 have hdn:(mv.what % 12==0)=false∧(mv.what % 12==1)=false∧(mv.what % 12==2)=false∧(mv.what % 12==3)=false∧(mv.what % 12==4)=false∧(mv.what % 12==5)=false∧(mv.what % 12==6)=false∧(mv.what % 12==7)=false:=by simp only[beq_eq_false_iff_ne];omega
 have Hd:=hid hd
 clear hd
 have hml:=I.out.long.trans I.out.long.symm
 have hlm:=(HY.out.o p hp4).l
 have hsq:=sqSmall_of I.out.check
 have h80:=(checkB_iff.1 I.out.check).1
 have hxt:=Hx.out
 have hrr:=hoy.out.r
 have htm:(madeR (W.off p).m.recs mv.x).text.size≤9223372036854775807:=by have:=madeR_text (W.off p).m.recs mv.x;omega
 rcases Hd.out with hd8|hd8
 all_goals
  rw[hd8]
  go_wp2_with fail
  refine(Made_any _ _ _ (W.off p).m.recs mv.x hlm tB hsq hxt _ (hrr.of_ext exI)).mono ?_
  rintro e w1 ⟨rfl,EM,dM,rfl⟩
  go_wp2_with fail
  obtain⟨r,hr⟩:∃ r,madeR (W.off p).m.recs mv.x=r:=⟨_,rfl⟩
  have hdy:=madeR_day (W.off p).m.recs mv.x
  rw[hr] at htm hdy
  have hw1:IntKind.i64.wrap (1+mv.b % 20)=1+mv.b % 20:=IntWalk.i64_in _ tB
  have hw2:IntKind.i64.wrap (r.day+mv.x.a6 % 12)=r.day+mv.x.a6 % 12:=IntWalk.i64_in _ tB
  clear hdy
  simp only[hr]
  have Hr:=hid hr
  obtain⟨N,hN⟩:∃ N,Q.heap.size+EM.size=N:=⟨_,rfl⟩
  simp only[hN]
  obtain⟨V,hV⟩:∃ V,((Q.ext EM dM).alloc (.cells #[.int .i64 0,.int .i64 0,.int .i64 0,.int .i64 0,.int .i64 0,.int .i64 0,.int .i64 0,.int .i64 0,.int .i64 0,.int .i64 0,.string ⟨#[]⟩] 46)).setCells N 0 [.int .i64 r.ao,.int .i64 r.sq,.int .i64 r.kind,.int .i64 r.ship,.int .i64 r.day,.int .i64 r.known,.int .i64 r.wo,.int .i64 r.ws,.int .i64 r.to,.int .i64 r.til,.string r.text]=V:=⟨_,rfl⟩
  simp only[hV]
  have hNb:B+1+1+1<N:=by omega
  have xQV:Ext Q V:=by rw[←hV];exact Ext.cells _ _ (Ext.alloc ((Ext.refl Q).ext EM dM) _) tB
  have v0:=Q0.out.of_ext xQV
  have v1:=Q1.out.of_ext xQV
  have v2:=Q2.out.of_ext xQV
  have v3:=Q3.out.of_ext xQV
  have v4:BoxC V N (recC r) 46:=by rw[←hV];exact BoxC.cells (cs:=[.int .i64 0,.int .i64 0,.int .i64 0,.int .i64 0,.int .i64 0,.int .i64 0,.int .i64 0,.int .i64 0,.int .i64 0,.int .i64 0,.string ⟨#[]⟩]) _ 0 (BoxC.new_at _ _ (by rw[size_ext];exact hN.symm)) (Nat.le_refl _)
  have hoy:=hid (hoy.out.of_ext xQV)
  have XQ:Hid (Ext w V):=hid (XQ.out.trans xQV)
  have wQ:w.heap.size≤V.heap.size:=Nat.le_trans wQ (by obtain⟨E,d,he⟩:=xQV;rw[he,size_ext];exact Nat.le_add_right _ _)
  have nN:¬ (N=B)∧¬ (N=B+1)∧¬ (N=B+1+1)∧¬ (N=B+1+1+1)∧¬ (B=N)∧¬ (B+1=N)∧¬ (B+1+1=N)∧¬ (B+1+1+1=N):=by omega
  clear hV hN xQV
  clear w68 w69 lq0 rq0 lq3 rq3 lq2 f0 o5 t0 t1 t2 t3 bfa bfb bfc nfa nfb nfc nga ngb ngc e0le e1le e2le e1lt c1 hrr
  obtain⟨w68,w69,lq0,rq0⟩:=v0.world
  rw[Hwq.out] at rq0
  have lq3:rowLen V (B+1+1+1)=17:=v3.len.trans lo
  have rq3:rowAt V (B+1+1+1) 0 17=oc.toArray:=by have:=v3.row;rw[lo] at this;exact this
  have lq2:rowLen V (B+1+1)=70:=v2.len.trans ql
  have c1:=v1.c13
  have c4:=v4.c11
  have f0:=v0.frozen
  have t0:=v0.lt
  have t1:=v1.lt
  have t2:=v2.lt
  have t3:=v3.lt
  have t4:=v4.lt
  have b0:=fars t0
  have b1:=fars t1
  have b2:=fars t2
  have b3:=fars t3
  have b4:=fars t4
  clear v0 v1 v2 v3 v4 Q0 Q1 Q2 Q3
  refine wp_region_ord (.f 0 (.f 1 (.f 2 (.e 3 (.f 4 (.f 5 (.f 6 (.f 7 (.f 8 (.f 9 (.f 10 (.f 11 (.f 12 (.f 13 (.f 14 (.e 15 (.f 16 (.k3 17 (.f 18 (.f 19 (.f 20 (.f 21 (.k 22 (.a 23 (.a 24 (.a 25 (.f 26 .d)))) 23 (.a 22 (.a 24 (.a 25 (.f 26 .d))))))))) 22 (.k 17 (.f 18 (.f 19 (.f 20 (.f 21 (.a 23 (.a 24 (.a 25 (.f 26 .d)))))))) 23 (.a 17 (.f 18 (.f 19 (.f 20 (.f 21 (.a 24 (.a 25 (.f 26 .d))))))))) 23 (.k 17 (.f 18 (.f 19 (.f 20 (.f 21 (.a 22 (.a 24 (.a 25 (.f 26 .d)))))))) 22 (.a 17 (.f 18 (.f 19 (.f 20 (.f 21 (.a 24 (.a 25 (.f 26 .d))))))))))))))))))))))))))) (Kept (V) (B) (B)) tG tG (Kept.refl _ _ _).drew ?_
  repeat' first|(refine oK ?_)|(refine wpOrd_early (v:=?_) rfl rfl rfl Tryz.call39 (fun w8 hS8 R hR=> ?_) ?_;rotate_left;(focus(go_simp;refine(Mod_any _ _ tN tN _).mono ?_;rintro e w1 ⟨rfl,rfl⟩;exact hR));simp only[Act.put,zp])|(refine wpOrd_call rfl rfl rfl Tryz.call42 (fun R hR=> ?_);go_simp;refine(grant_q (W.off p) (Ls p) oc Hoc.out _ (1+mv.b % 20) r.to r.day (r.day+mv.x.a6 % 12) (hoy.out.of_ext exI)).mono ?_;rintro e w1 ⟨LN,nc,rc,jn,rfl,wn,wr,ln,lr,hN,⟨EN,dN,rfl⟩⟩;refine hR _ _ ⟨_,rfl,qm,?_⟩;clear hR R;simp only[Act.put,zp])|(refine wpOrd_act rfl rfl (fun K hK=> ?_);go_simp;refine hK _ _ ⟨qm,?_⟩;clear hK K;try simp only[Act.put,zp])|refine wpOrd_fork ?_ ?_|refine wpOrd_fork3 ?_ ?_ ?_|refine wpOrd_nil ?_
  all_goals
   have hs:=movedW_grant (W:=W) hp (by rw[hd8];decide) (by rw[hd8];decide)
   rw[HW.out,Hr.out,grantW] at hs
   have wput:=fun e=>whole_put (wset e) wn hpt3
   have hN1:=hN.out
   obtain⟨bs,hi,hbs,hhi,hZ⟩:=offz_ex hN1.2.2
   rw[hN1.2.1] at hs
   have Hs:=hid hs
   have HZ:=hid hZ
   have HN1:=hid hN1.1
   have Hbs:=hid hbs
   have Hhi:=hid hhi
   clear hN1 hs hN hZ hbs hhi
   by_cases hj:jn=0
   ·subst hj
    go_wp2_with fail
    have hs:=Hs.out
    simp only[if_true] at hs
    have hZ:=HZ.out
    have hbs:=Hbs.out
    have hhi:=Hhi.out
    simp only[World.size_alloc,size_ext,size_cells,World.size_setCell,szd] at hbs hhi
    have bB:B<bs:=by omega
    have bB2:B+1+1<bs:=by omega
    have wbs:w.heap.size≤bs:=by omega
    refine bodyPost_ret (ret_w rfl rfl qn (rowAt_setCells_same (whole_len (wput 0)) (Nat.le_of_eq (Eq.symm qn)))) rfl ?_
    exact fin_ok hp4 hs Hwq.out HN1.out (mov_ok (base:=bs) HI.out HY.out hp4 HW.out hs qo (And.left (show OffZ bs hi _ _ _ from qp)) wbs)
   ·have hj2:(jn==0)=false:=by simpa using hj
    go_wp2_with fail
    have hs:=Hs.out
    rw[if_neg hj] at hs
    refine bodyPost_ret (ret_w rfl rfl qn (rowAt_setCells_same (whole_len (wset jn)) (Nat.le_of_eq (Eq.symm qn)))) rfl ?_
    exact fin_err hs Hwq.out (mov_err HY.out hs qo)
end Go.Proofs.YtekjdeibnfaehaaGreat
set_option linter.unusedSimpArgs false
set_option linter.unusedVariables false
namespace Go.Proofs.YtekjdeibnfaehaaGreat
open Go Go.RowKit
set_option maxRecDepth 100000 in
set_option maxHeartbeats 16000000 in
theorem moved_cut{n:Nat}{G:Gh}(W:WD)(Ls:Nat→OffL)(A:Option Addr)(na c:Nat)(mv:MoveD)(w:World)(hI:WI n W G)(hY:WorldY w W Ls A na c)(hx:mv.x.text.size≤9223372036854775807)
 (hk0: -9223372036854775808≤mv.k0) (hk0':mv.k0≤9223372036854775807) (hk1: -9223372036854775808≤mv.k1) (hk1':mv.k1≤9223372036854775807) (hlong:na≤100000) (HD:Hid (3≤mv.what % 12∧mv.what % 12≤7∧(mv.what % 12<6∨40<na))):
 Calls Tryz.prog 38 #[.agg (worldC W Ls A na c).toArray,mvV mv] w fun e w'=> ∃Ls' A' n' c',e= .returned (.agg (worldC (movedW W mv) Ls' A' n' c').toArray)∧MovR w w' Ls A na (movedW W mv) Ls' A' n' c':=by
 have HI:=hid hI
 have HY:=hid hY
 have HK:=hid (show _∧_∧_∧_ from⟨hk0,hk0',hk1,hk1'⟩)
 have Hx:=hid hx
 have Hlong:=hid hlong
 clear hI hY hk0 hk0' hk1 hk1' hx hlong
 obtain⟨B,hB⟩:∃ B:Nat,w.heap.size=B:=⟨_,rfl⟩
 have HB:=hid hB
 obtain⟨p,hp⟩:∃ p:Nat,mv.a % 4=p:=⟨(mv.a % 4).toNat,by omega⟩
 have hp4:p<4:=by omega
 have hpi:(p:Int)<4:=by omega
 obtain⟨W',hW'⟩:∃ W',movedW W mv=W':=⟨_,rfl⟩
 rw[hW']
 have HW:=hid hW'
 obtain⟨wc,hwc⟩:∃ wc,worldC W Ls A na c=wc:=⟨_,rfl⟩
 obtain⟨zc,hzc⟩:∃ zc,worldC zeroW (fun _=>zL) none 0 0=zc:=⟨_,rfl⟩
 have hzw:=zero_world
 rw[hwc]
 rw[hzc] at hzw
 have Hwc:=hid hwc
 have Hzc:=hid hzc
 clear hW' hB hwc hzc
 go_enter Tryz.func38,Tryz.ntmps38
 go_wp2_with fail
 refine(Mod_any _ _ tN tN _).mono ?_
 rintro e w1 ⟨rfl,rfl⟩
 obtain⟨P0,hP0⟩:∃ P0,((w.alloc (.cells wc.toArray 83)).alloc (.cells (mvC mv).toArray 90)).alloc (.cells zc.toArray 83)=P0:=⟨_,rfl⟩
 simp only[hP0]
 have b0:BoxC P0 B (worldC W Ls A na c) 83:=by rw[Hwc.out,←hP0];exact((BoxC.new_at _ _ HB.out.symm).alloc _).alloc _
 have b1:BoxC P0 (B+1) (mvC mv) 90:=by rw[←hP0];exact(BoxC.new_at _ _ qH).alloc _
 have b2:BoxC P0 (B+1+1) zc 83:=by rw[←hP0];exact BoxC.new_at _ _ qH
 have xP:Hid (Ext w P0):=hid qh
 have zP:P0.heap.size=B+1+1+1:=by rw[←hP0];simp[HB.out]
 simp only[HB.out]
 have c0:=b0.world
 rw[Hwc.out] at c0
 obtain⟨oc,hoc⟩:∃ oc,offQ (W.off p) (Ls p)=oc:=⟨_,rfl⟩
 have ro:rowAt P0 B (p * 17) 17=oc.toArray:=by rw[←hoc];exact b0.worldOff hp4
 have wo:Whole oc.toArray 17:=by rw[←hoc];exact offQ_whole _ _
 have lo:oc.length=17:=by rw[←hoc];rfl
 have Hoc:=hid hoc
 clear hoc
 have c1:=b1.c13
 have t0:=b0.lt
 have t1:=b1.lt
 have f0:=b0.frozen
 have B0:=hid b0
 have B1:=hid b1
 have B2:=hid b2
 clear b0 b1 b2 hP0
 rw[hp]
 have ns:¬ (B+1+1+1=B+1):=by omega
 have nb:¬ (B+1+1+1=B):=by omega
 have nss:¬ (B+1+1=B):=by omega
 have hpt:17+p * 17≤70:=by omega
 have hpt2:p * 17+17≤70:=by omega
 have hpt3:p * 17≤53:=by omega
 go_wp2_with fail
 refine(Mod_any _ _ tN tN _).mono ?_
 rintro e w1 ⟨rfl,rfl⟩
 obtain⟨Q,hQ⟩:∃ Q,((P0.alloc (.cells #[.int .i64 0,.slice none 0 0,.int .i64 0,.slice none 0 0,.int .i64 0,.slice none 0 0,.int .i64 0,.int .i64 0,.slice none 0 0,.slice none 0 0,.slice none 0 0,.slice none 0 0,.slice none 0 0,.slice none 0 0,.slice none 0 0,.slice none 0 0,.slice none 0 0] 76)).setCells (B+1+1+1) 0 oc).setCell ⟨B,69,none⟩ (.int .i64 0)=Q:=⟨_,rfl⟩
 simp only[hQ]
 have q0:BoxC Q B (worldC ⟨W.off,W.way,0⟩ Ls A na c) 83:=by rw[←hQ];exact(BoxC.cellsOther nb _ _ (B0.out.alloc _)).set 69 _
 have q1:BoxC Q (B+1) (mvC mv) 90:=by rw[←hQ];exact(BoxC.cellsOther tB _ _ (B1.out.alloc _)).other _ _ tB
 have q2:BoxC Q (B+1+1) zc 83:=by rw[←hQ];exact(BoxC.cellsOther tB _ _ (B2.out.alloc _)).other _ _ tB
 have q3:BoxC Q (B+1+1+1) oc 76:=by rw[←hQ];exact BoxC.other qi _ _ tB
 have XQ:Hid (Ext w Q):=hid qj
 have Q0:=hid q0
 have Q1:=hid q1
 have Q2:=hid q2
 have Q3:=hid q3
 have I:=hid (HI.out.o p hp4)
 have hoy:=hid ((HY.out.o p hp4).of_ext XQ.out)
 have c1:=q1.c13
 have o5:=q3.cell (i:=5) (v:=.slice (Ls p).Am (Ls p).nm (Ls p).cm) qk
 have lq3:rowLen Q (B+1+1+1)=17:=q3.len.trans lo
 have rq3:rowAt Q (B+1+1+1) 0 17=oc.toArray:=by have:=q3.row;rw[lo] at this;exact this
 obtain⟨wq,hwq⟩:∃ wq,worldC ⟨W.off,W.way,0⟩ Ls A na c=wq:=⟨_,rfl⟩
 obtain⟨w68,w69,lq0,rq0⟩:=q0.world
 rw[hwq] at rq0
 have wwq:Whole wq.toArray 70:=by rw[←hwq];exact worldC_whole _ _ _ _ _
 have wset:∀ e:Int,Whole (wq.set 69 (.int .i64 e)).toArray 70:=fun e=>whole_seti 69 e wwq
 have Hwq:=hid hwq
 clear hwq
 have t0:=q0.lt
 have t1:=q1.lt
 have t2:=q2.lt
 have t3:=q3.lt
 have bfa:(∀x,B<Q.heap.size+x)∧(∀x y,B<Q.heap.size+x+y)∧(∀x y z,B<Q.heap.size+x+y+z)∧(∀x,B≤Q.heap.size+x)∧(∀x y,B≤Q.heap.size+x+y)∧(∀x y z,B≤Q.heap.size+x+y+z):=⟨fun _=>by omega,fun _ _=>by omega,fun _ _ _=>by omega,fun _=>by omega,fun _ _=>by omega,fun _ _ _=>by omega⟩
 have bfb:(∀x,B+1<Q.heap.size+x)∧(∀x y,B+1<Q.heap.size+x+y)∧(∀x y z,B+1<Q.heap.size+x+y+z)∧(∀x,B+1≤Q.heap.size+x)∧(∀x y,B+1≤Q.heap.size+x+y)∧(∀x y z,B+1≤Q.heap.size+x+y+z):=⟨fun _=>by omega,fun _ _=>by omega,fun _ _ _=>by omega,fun _=>by omega,fun _ _=>by omega,fun _ _ _=>by omega⟩
 have bfc:(∀x,B+1+1<Q.heap.size+x)∧(∀x y,B+1+1<Q.heap.size+x+y)∧(∀x y z,B+1+1<Q.heap.size+x+y+z)∧(∀x,B+1+1≤Q.heap.size+x)∧(∀x y,B+1+1≤Q.heap.size+x+y)∧(∀x y z,B+1+1≤Q.heap.size+x+y+z):=⟨fun _=>by omega,fun _ _=>by omega,fun _ _ _=>by omega,fun _=>by omega,fun _ _=>by omega,fun _ _ _=>by omega⟩
 have nfa:¬ (Q.heap.size=B)∧(∀x,¬(Q.heap.size+x=B))∧(∀x y,¬(Q.heap.size+x+y=B))∧(∀x y z,¬(Q.heap.size+x+y+z=B)):=⟨by omega,fun _=>by omega,fun _ _=>by omega,fun _ _ _=>by omega⟩
 have nfb:¬ (Q.heap.size=B+1)∧(∀x,¬(Q.heap.size+x=B+1))∧(∀x y,¬(Q.heap.size+x+y=B+1))∧(∀x y z,¬(Q.heap.size+x+y+z=B+1)):=⟨by omega,fun _=>by omega,fun _ _=>by omega,fun _ _ _=>by omega⟩
 have nfc:¬ (Q.heap.size=B+1+1)∧(∀x,¬(Q.heap.size+x=B+1+1))∧(∀x y,¬(Q.heap.size+x+y=B+1+1))∧(∀x y z,¬(Q.heap.size+x+y+z=B+1+1)):=⟨by omega,fun _=>by omega,fun _ _=>by omega,fun _ _ _=>by omega⟩
 have nga:¬ (B=Q.heap.size)∧(∀x,¬(B=Q.heap.size+x))∧(∀x y,¬(B=Q.heap.size+x+y))∧(∀x y z,¬(B=Q.heap.size+x+y+z)):=⟨by omega,fun _=>by omega,fun _ _=>by omega,fun _ _ _=>by omega⟩
 have ngb:¬ (B+1=Q.heap.size)∧(∀x,¬(B+1=Q.heap.size+x))∧(∀x y,¬(B+1=Q.heap.size+x+y))∧(∀x y z,¬(B+1=Q.heap.size+x+y+z)):=⟨by omega,fun _=>by omega,fun _ _=>by omega,fun _ _ _=>by omega⟩
 have ngc:¬ (B+1+1=Q.heap.size)∧(∀x,¬(B+1+1=Q.heap.size+x))∧(∀x y,¬(B+1+1=Q.heap.size+x+y))∧(∀x y z,¬(B+1+1=Q.heap.size+x+y+z)):=⟨by omega,fun _=>by omega,fun _ _=>by omega,fun _ _ _=>by omega⟩
 have wB:w.heap.size≤B:=by have:=HB.out;omega
 have wB2:w.heap.size≤B+1+1:=by omega
 have wQ:w.heap.size≤Q.heap.size:=by omega
 have e0le:B≤Q.heap.size:=by omega
 have e1le:B+1≤Q.heap.size:=by omega
 have e2le:B+1+1≤Q.heap.size:=by omega
 have e1lt:B+1<Q.heap.size:=by omega
 have f0:=q0.frozen
 have lq2:rowLen Q (B+1+1)=70:=q2.len.trans ql
 clear c0 ro hzw zP hQ q0 q1 q2 q3 B0 B1 B2 xP hpt hpt2
 have hd:=HD.out
 clear HD
 have Hd:=hid hd
 clear hd
 have hway:=HY.out.m.of_ext XQ.out
 by_cases hna:na=0
 ·have hw0:W.way=[]:=List.eq_nil_of_length_eq_zero (by have:=hway.1;omega)
  have hs:W'=errW W W.way 0:=by rw[←HW.out,movedW,if_neg qt,if_neg qt,if_pos qt,if_pos hw0]
  have Hs:=hid hs
  clear hs hw0 hway
  subst hna
  have hdc:mv.what % 12=3∨mv.what % 12=4∨mv.what % 12=5:=by have:=Hd.out;omega
  rcases hdc with hd1|hd1|hd1
  all_goals
   rw[hd1]
   go_wp2_with fail
   refine bodyPost_ret (ret_w rfl rfl qn (rowAt_setCells_same (whole_len wwq) (Nat.le_of_eq (Eq.symm qn)))) rfl ?_
   exact⟨Ls,A,0,c,by rw[Hs.out,←Hwq.out];rfl,mov_err HY.out Hs.out qo⟩
 ·have hn0:0<na:=by omega
  have hna2:((na:Int)==0)=false:=by simpa using hna
  obtain⟨g,o,rfl,hg⟩:=hway.addr hn0
  obtain⟨k,hk⟩:∃ k:Nat,mv.b % (na:Int)=k:=⟨(mv.b % na).toNat,by have:=Int.emod_nonneg mv.b (show(na:Int)≠0 by omega);omega⟩
  have hkn:k<na:=by have:=Int.emod_lt_of_pos mv.b (show(0:Int)<na by omega);omega
  have hwl:=hway.1
  have hne:W.way≠[]:=fun h=>by rw[h] at hwl;exact hna hwl.symm
  obtain⟨x,hx⟩:∃ x,W.way[k]? =some x:=⟨_,List.getElem?_eq_getElem tB⟩
  have hmi:msgI W mv.b=k:=by unfold msgI;rw[hwl];omega
  have hmx:msgW W mv.b=x:=by rw[msgW,hmi,hx];rfl
  have hXI:=HI.out.m x (List.mem_of_getElem? hx)
  obtain⟨q,hq⟩:∃ q:Nat,x.to=q:=⟨x.to.toNat,by have:=hXI.t0;omega⟩
  have hq4:q<4:=by have:=hXI.t1;omega
  have hld:=hway.load hx
  obtain⟨mc,hmc⟩:∃ mc,msgC x=mc:=⟨_,rfl⟩
  have lmc:mc.length=14:=by rw[←hmc];rfl
  have wmc:Whole mc.toArray 14:=by rw[←hmc];exact whole_of rfl fun v hv=>msgC_one [x] v ti
  have m1:mc[1]? =some (.int .i64 q):=by rw[←hmc,←hq];rfl
  rw[hmc] at hld
  have Hmc:=hid hmc
  have Hmi:=hid hmi
  have Hmx:=hid hmx
  have Hway:=hid hway
  have Hne:=hid hne
  have Hq:=hid hq
  have HXI:=hid hXI
  have Hlx:=Hlong.out
  have hki:(k:Int)<na:=by omega
  clear hmc hmi hmx hx hway hne hq hXI
  have hdc:mv.what % 12=3∨mv.what % 12=4∨mv.what % 12=5∨(mv.what % 12=6∧(40:Int)<na)∨(mv.what % 12=7∧(40:Int)<na):=by have:=Hd.out;omega
  rcases hdc with hd1|hd1|hd1|⟨hd1,h40⟩|⟨hd1,h40⟩
  all_goals
   rw[hd1]
   go_wp2_with fail
   refine(Mod_any _ _ tB tB _).mono ?_
   rintro e w1 ⟨rfl,rfl⟩
   rw[hk]
   go_wp2_with fail
   obtain⟨NM,hNM⟩:∃ NM,Q.heap.size=NM:=⟨_,rfl⟩
   simp only[hNM]
   obtain⟨Y,hY⟩:∃ Y,(Q.alloc (.cells #[.int .i64 0,.int .i64 0,.bool false,.int .i64 0,.int .i64 0,.int .i64 0,.int .i64 0,.int .i64 0,.int .i64 0,.int .i64 0,.int .i64 0,.int .i64 0,.int .i64 0,.string ⟨#[]⟩] 70)).setCells NM 0 mc=Y:=⟨_,rfl⟩
   simp only[hY]
   have hNb:B+1+1+1<NM:=by omega
   have xQY:Ext Q Y:=by rw[←hY];exact Ext.cells _ _ (Ext.alloc (Ext.refl Q) _) tB
   have v0:=Q0.out.of_ext xQY
   have v1:=Q1.out.of_ext xQY
   have v2:=Q2.out.of_ext xQY
   have v4:BoxC Y NM mc 70:=by rw[←hY];have:=BoxC.cells (cs:=[.int .i64 0,.int .i64 0,.bool false,.int .i64 0,.int .i64 0,.int .i64 0,.int .i64 0,.int .i64 0,.int .i64 0,.int .i64 0,.int .i64 0,.int .i64 0,.int .i64 0,.string ⟨#[]⟩]) (t:=70) mc 0 (BoxC.new_at (P:=Q) _ _ hNM.symm) (by rw[lmc];exact Nat.le_refl _);rw[lmc] at this;simpa using this
   have XQ:Hid (Ext w Y):=hid (XQ.out.trans xQY)
   have wQ:w.heap.size≤Y.heap.size:=by obtain⟨E,d,he⟩:=xQY;rw[he,size_ext];omega
   have Hway:=hid (Hway.out.of_ext xQY)
   have hoy:=hid ((HY.out.o q hq4).of_ext XQ.out)
   have nN:¬ (NM=B)∧¬ (NM=B+1)∧¬ (NM=B+1+1)∧¬ (NM=B+1+1+1)∧¬ (B=NM)∧¬ (B+1=NM)∧¬ (B+1+1=NM)∧¬ (B+1+1+1=NM):=by omega
   clear hY hNM xQY
   clear w68 w69 lq0 rq0 lq3 rq3 lq2 f0 o5 t0 t1 t2 t3 bfa bfb bfc nfa nfb nfc nga ngb ngc e0le e1le e2le e1lt c1 hld hg wo lo
   obtain⟨w68,w69,lq0,rq0⟩:=v0.world
   rw[Hwq.out] at rq0
   have ro:=v0.worldOff hq4
   obtain⟨oq,hoq⟩:∃ oq,offQ (W.off q) (Ls q)=oq:=⟨_,rfl⟩
   have wo:Whole oq.toArray 17:=by rw[←hoq];exact offQ_whole _ _
   have lo:oq.length=17:=by rw[←hoq];rfl
   rw[show(⟨W.off,W.way,0⟩:WD).off q=W.off q from rfl,hoq] at ro
   have Hoq:=hid hoq
   have lq2:rowLen Y (B+1+1)=70:=v2.len.trans ql
   have c1:=v1.c13
   have m1:=v4.cell m1
   have lq4:rowLen Y NM=14:=v4.len.trans lmc
   have rq4:rowAt Y NM 0 14=mc.toArray:=by have:=v4.row;rw[lmc] at this;exact this
   have f0:=v0.frozen
   have t0:=v0.lt
   have t1:=v1.lt
   have t2:=v2.lt
   have t4:=v4.lt
   have b0:=fars t0
   have b1:=fars t1
   have b2:=fars t2
   have b4:=fars t4
   have hqt:q * 17+17≤68:=by omega
   have hqt2:q * 17≤53:=by omega
   have hqt3:q * 17+17≤70:=by omega
   have hqt4:17+q * 17≤70:=by omega
   have hqi:(q:Int)<4:=by omega
   clear v0 v1 v2 v4 Q0 Q1 Q2 Q3 hoq
   refine(Mod_any _ _ tN tN _).mono ?_
   rintro e w1 ⟨rfl,rfl⟩
   rw[hd1]
   have hkc:k≤c:=by have:=Hway.out.2.1;omega
   have hk1:k+1≤na:=by omega
   have hk1i:(k:Int)+1≤na:=by omega
   have hkc1:(k:Int)≤c:=by omega
   have hw1:IntKind.i64.wrap ((k:Int)+1)=(k:Int)+1:=IntWalk.i64_in _ tB
   have hwt:=Hway.out.take (k:=k) tB
   have hwd:=Hway.out.drop (k:=k+1) tB
   have hlt:(W.way.take k).length=k:=by rw[List.length_take];omega
   have hld:(W.way.drop (k+1)).length=na-(k+1):=by rw[List.length_drop];omega
   have hz1:([]:List MsgD).length+(W.way.take k).length≤1000000:=by rw[hlt];show 0+k≤_;omega
   have hz2:(([]:List MsgD)++W.way.take k).length+(W.way.drop (k+1)).length≤1000000:=by rw[List.nil_append,hlt,hld];omega
   have hw3:wayW W (mv.what % 12) mv.b=([]++W.way.take k)++W.way.drop (k+1):=by rw[wayW_cut tB,Hmi.out];rfl
   obtain⟨T1,hT1⟩:∃ T1,W.way.take k=T1:=⟨_,rfl⟩
   obtain⟨T2,hT2⟩:∃ T2,W.way.drop (k+1)=T2:=⟨_,rfl⟩
   rw[hT1,hT2] at hw3
   rw[hT1] at hwt hlt hz1 hz2
   rw[hT2] at hwd hld hz2
   have Hw3:=hid hw3
   have hkcc:k+1≤c:=by have:=Hway.out.2.1;omega
   have h0k:0≤(k:Int)+1:=by omega
   obtain⟨A2,hA2⟩:∃ A2,(if c=k+1 then some (⟨g,o,none⟩:Addr) else some ⟨g,o+(k+1) * 14,none⟩)=A2:=⟨_,rfl⟩
   have hwd:Sl 14 Y A2 (na-(k+1)) (T2.flatMap msgC):=by
    rw[←hA2]
    split
    ·have hn:na-(k+1)=0:=by have:=Hway.out.2.1;omega
     rw[hn] at hwd ⊢
     exact⟨hwd.1,fun h=>absurd h (Nat.lt_irrefl 0)⟩
    ·exact hwd
   have hl3:(([]++T1)++T2).length≤100000:=by rw[List.length_append,List.nil_append,hlt,hld];omega
   clear hT1 hT2 hw3
   go_wp2_with fail
   refine wp_region_ordZ 13 (.f 1 (.f 2 (.f 3 (.f 4 (.f 6 (.f 7 (.f 8 (.f 9 (.f 10 (.a 0 (.a 5 (.a 11 (.f 12 (.z 13)))))))))))))) (Kept (Y) (Y.heap.size) (Y.heap.size)) tG tG (Kept.refl _ _ _).drew ?_
   refine oT ?_
   refine oG ?_
   refine wpOrd_amsg (A:=some ⟨g,o,none⟩) (m:=k) (c:=c) rfl Y Y.heap.size rfl rfl rfl _ _ rfl T1 tI exI (OwnM.empty _ _ _ qB (Nat.le_refl _)) tI hlt.symm (hwt.of_ext exI) hz1 (fun v1 E1 d1 o1=>⟨qm,?_⟩)
   try simp only[Act.put,zp]
   refine wpOrd_amsg (A:=A2) (m:=na-(k+1)) (c:=c-(k+1)) rfl Y Y.heap.size rfl rfl rfl _ _ rfl T2 tI exI o1 tI hld.symm (hwd.of_ext exI) hz2 (fun v2 E2 d2 o2=>⟨qm,?_⟩)
   obtain⟨A3,n3,c3,rfl⟩:=o2.slice
   try simp only[Act.put,zp]
   refine oT ?_
   refine wpOrd_last rfl rfl (fun K hK=> ?_)
   go_simp
   refine hK _ _ ?_
   clear hK K
   try simp only[Act.put,zp]
   have hMZ:=MsgZ.set (i:=68) (v:=.slice A3 n3 c3) (MsgZ.mk o2.msgs) (.inl t0)
   rw[setCell_ext (hn:=t0)] at hMZ
   obtain⟨W3,hW3⟩:∃ W3,([]++T1)++T2=W3:=⟨_,rfl⟩
   have Hw3:Hid (wayW W (mv.what % 12) mv.b=W3):=hid (Hw3.out.trans hW3)
   rw[hW3] at hMZ hl3
   have HMZ:=hid hMZ
   clear o2 hMZ hW3 hwt hlt hz1 hz2 hwd hld hkcc h0k hA2 hw1
   go_wp2_with fail
   obtain⟨Z,hZn⟩:∃ Z,(Y.setCell ⟨B,68,none⟩ (.slice A3 n3 c3)).ext E2 d2=Z:=⟨_,rfl⟩
   simp only[hZn]
   obtain⟨wq3,hwq3⟩:∃ wq3,wq.set 68 (.slice A3 n3 c3)=wq3:=⟨_,rfl⟩
   have wwq3:Whole wq3.toArray 70:=by rw[←hwq3];exact whole_sets 68 A3 n3 c3 wwq
   have rZ:rowAt Z B 0 70=wq3.toArray:=by subst hZn hwq3;go_simp
   have Hwq3:Hid (worldC ⟨W.off,W3,0⟩ Ls A3 n3 c3=wq3):=hid (by rw[←hwq3,←Hwq.out,worldC_set_way _ _ _ _ _ W3])
   have zZ:Y.heap.size≤Z.heap.size:=by rw[←hZn];simp only[zs,World.size_setCell];omega
   obtain⟨bw,hbw⟩:∃ bw,Y.heap.size=bw:=⟨_,rfl⟩
   obtain⟨hw,hhw⟩:∃ hw,(Y.ext E2 d2).heap.size=hw:=⟨_,rfl⟩
   have hwz:hw≤Z.heap.size:=by rw[←hZn,←hhw];simp only[size_ext,World.size_setCell];omega
   have K3:Hid (WayO bw hw Z A3 n3 c3 W3 (some ⟨g,o,none⟩) na c W.way):=hid (.inl (by rw[←hZn,←hhw,←hbw];exact HMZ.out))
   have bw0:B<bw:=by omega
   have bw2:B+1+1<bw:=by omega
   have wbw:w.heap.size≤bw:=by omega
   clear hbw hhw
   have XZ:Hid (Ext w Z):=hid (by rw[←hZn];exact qo)
   have z68:Z.cell? ⟨B,68,none⟩=some (.slice A3 n3 c3):=by subst hZn;go_simp
   have z69:Z.cell? ⟨B,69,none⟩=some (.int .i64 0):=by subst hZn;go_simp
   have lZ0:rowLen Z B=70:=by subst hZn;go_simp
   have rqZ:rowAt Z B (q * 17) 17=oq.toArray:=by subst hZn;go_simp
   have lZ4:rowLen Z NM=14:=by subst hZn;go_simp
   have rZ4:rowAt Z NM 0 14=mc.toArray:=by subst hZn;go_simp
   have mZ1:Z.cell? ⟨NM,1,none⟩=some (.int .i64 q):=by subst hZn;go_simp
   have lZ2:rowLen Z (B+1+1)=70:=by subst hZn;go_simp
   have fZ:∀ i:Nat,Z.frozen? ⟨B,i,none⟩=false:=fun i=>by subst hZn;go_simp
   have hoy:=hid ((HY.out.o q hq4).of_ext XZ.out)
   have t0:B<Z.heap.size:=by omega
   have t2:B+1+1<Z.heap.size:=by omega
   have t4:NM<Z.heap.size:=by omega
   have wQ:w.heap.size≤Z.heap.size:=by omega
   have XQ:=XZ
   clear hZn w68 w69 lq0 rq0 ro lq2 c1 m1 lq4 rq4 f0 t1 b0 b1 b2 b4 zZ
   have lq2:=lZ2
   have b0:=fars t0
   have b2:=fars t2
   have b4:=fars t4
   refine(Mod_any _ _ tN tN _).mono ?_
   rintro e w1 ⟨rfl,rfl⟩
   rw[hd1]
   first
   |have h3:mv.what % 12=3:=hd1
    have hs:W'=errW W W3 0:=by rw[←HW.out,movedW_drop h3 Hne.out,←Hw3.out,h3]
    have Hs:=hid hs
    clear hs
    go_wp2_with fail
    refine bodyPost_ret (ret_w rfl rfl qn (rowAt_setCells_same (whole_len wwq3) (Nat.le_of_eq (Eq.symm qn)))) rfl ?_
    exact fin_drop Hs.out Hwq3.out (mov_errw HY.out Hs.out qo (WayO.k (show WayO bw hw _ _ _ _ _ _ _ _ _ from qu) HY.out qo wbw))
    done
   | skip
  all_goals
   have hs:W'=recvW W x W3:=by rw[←HW.out,movedW_recv tB tB Hne.out,Hmx.out,Hw3.out]
   rw[recvW,Hq.out,show(q:Int).toNat=q from by omega] at hs
   have Hs:=hid hs
   clear hs
   have htx:x.r.text.size≤9223372036854775807:=by have:=txtBig_of (HI.out.o _ (by have:=HXI.out.a0;have:=HXI.out.a1;omega:x.r.ao.toNat<4)).check x.r (HI.out.firm HXI.out.a0 HXI.out.a1 HXI.out.h);exact this
   go_wp2_with fail
   refine wp_region_ord (.f 0 (.f 1 (.f 2 (.f 3 (.f 4 (.f 5 (.k 6 (.f 7 (.f 8 (.f 9 (.f 10 (.a 11 (.a 12 (.f 13 (.f 14 .d)))))))) 11 (.a 6 (.f 7 (.f 8 (.f 9 (.f 10 (.a 12 (.f 13 (.f 14 .d))))))))))))))) (Kept (Z) (Z.heap.size) (Z.heap.size)) tG tG (Kept.refl _ _ _).drew ?_
   repeat' first|(refine oK ?_)|(refine wpOrd_call rfl rfl rfl Tryz.call46 (fun R hR=> ?_);go_simp;refine(recv_q (W.off q) (Ls q) oq mc x Hoq.out Hmc.out _ (hoy.out.of_ext exI) htx).mono ?_;rintro e w1 ⟨LN,nc,AM,nm,cm,jn,rfl,wn,ln,hN,hM,⟨EN,dN,rfl⟩⟩;refine hR _ _ ⟨_,rfl,qm,?_⟩;clear hR R;simp only[Act.put,zp])|(refine wpOrd_act rfl rfl (fun K hK=> ?_);go_simp;refine hK _ _ ⟨qm,?_⟩;clear hK K;try simp only[Act.put,zp])|refine wpOrd_fork ?_ ?_|refine wpOrd_nil ?_
   all_goals
    have hmk1:True:=trivial
    have wput:=fun e=>whole_put (whole_seti 69 e wwq3) wn hqt2
    have hN1:=hN.out
    obtain⟨bs,hi,hbs,hhi,hZ⟩:=offz_ex hN1.2.2
    have hMZ:=MsgZ.mk hM.out
    rw[←hbs,←hhi] at hMZ
    have hs:=Hs.out
    rw[hN1.2.1] at hs
    have Hs:=hid hs
    have HZ:=hid hZ
    have HMZ:=hid hMZ
    have HN1:=hid hN1.1
    have Hbs:=hid hbs
    have Hhi:=hid hhi
    clear hN1 hs hN hM hZ hMZ hbs hhi
    by_cases hj:jn=0
    ·subst hj
     have hs:=Hs.out
     simp only[if_true] at hs
     have Hs:=hid hs
     have hbs:=Hbs.out
     have hhi:=Hhi.out
     simp only[World.size_alloc,size_ext,size_cells,World.size_setCell,szd] at hbs hhi
     have bB:B<bs:=by omega
     have bB2:B+1+1<bs:=by omega
     have wbs:w.heap.size≤bs:=by omega
     obtain⟨R1,hR1⟩:∃ R1,recvL (W.off q) x=R1:=⟨_,rfl⟩
     have hsh:R1.length≤1:=by rw[←hR1,recvL];split <;> simp
     rw[hR1] at hs HMZ
     have Hs:=hid hs
     have Hbs3:=hid hbs
     have Hhi3:=hid hhi
     clear hs hR1 hbs hhi
     have hz5:([]:List MsgD).length+W3.length≤1000000:=by simp only[List.length_nil];omega
     have hz6:(([]:List MsgD)++W3).length+R1.length≤1000000:=by rw[List.nil_append];omega
     have Hs2:Hid (W'=setW W q (recvO (W.off q) x) (([]++W3)++R1)):=hid Hs.out
     go_wp2_with (first|(at_builtin;clear hmk1;refine wpl_alloc fun X hX=> ?_;have xX:Ext w X:=qv;have lX0:rowLen X B=70:=qw;have x68:X.cell? ⟨B,68,none⟩=some (.slice A3 n3 c3):=qw;have hbs:=Hbs3.out;have hhi:=Hhi3.out;have rX:rowAt X B 0 70=(putC (wq3.set 69 (.int .i64 0)) (q * 17) nc).toArray:=qw;have lX2:rowLen X (B+1+1)=70:=qx;have hZ:=HZ.out;have zX:OffZ bs hi X (recvO (W.off q) x) LN:=qy;have hMZ:=HMZ.out;have mX:MsgZ bs hi X AM nm cm R1:=qz;have kX:WayO bw hw X A3 n3 c3 W3 (some ⟨g,o,none⟩) na c W.way:=QA;have fX:∀ i:Nat,X.frozen? ⟨B,i,none⟩=false:=(fun i=>by rw[hX];go_simp);have tX0:B<X.heap.size:=QB;have tX2:B+1+1<X.heap.size:=QB;have bX0:=fars tX0;have bX2:=fars tX2;have hway3:=(WayO.k kX HY.out xX wbw).1;refine wpList_amsg (A:=A3) (m:=n3) (c:=c3) rfl X X.heap.size rfl rfl _ _ rfl W3 rfl exI (OwnM.empty X X.heap.size _ QC QC) rfl hway3.1.symm (hway3.2.2.2.of_ext exI) hz5 (fun v1 E1 d1 o1=> ?_);clear hX hZ hMZ hbs hhi t0 t2 lq2 lZ0 z69 rZ lZ4 rZ4 rqZ mZ1 z68 lZ2 fZ b0 b2 b4 wQ XQ t4)|(at_builtin;refine wpList_amsg (A:=AM) (m:=nm) (c:=cm) rfl X X.heap.size rfl rfl _ _ rfl R1 rfl exI o1 rfl mX.1.1.symm (mX.1.read.2.2.2.of_ext exI) hz6 (fun v2 E5 d5 o5=> ?_);obtain⟨A5,n5,c5,rfl⟩:=o5.slice))
     have hMZ:=MsgZ.set (i:=68) (v:=.slice A5 n5 c5) (MsgZ.mk o5.msgs) (.inl tX0)
     rw[setCell_ext (hn:=tX0)] at hMZ
     have hMZ2:=fun vs=>MsgZ.cells (vs:=vs) (i:=0) hMZ (.inl tX2)
     have lq2:=lX2
     have t2:=tX2
     have XQ:=hid xX
     have hZ:=zX
     have wQ:w.heap.size≤X.heap.size:=by omega
     refine bodyPost_ret (ret_w rfl rfl qn (rowAt_setCells_same (whole_len (whole_sets 68 A5 n5 c5 (wput 0))) (Nat.le_of_eq (Eq.symm qn)))) rfl ?_
     refine fin_way (W0:=⟨W.off,W3,0⟩) hq4 Hs2.out Hwq3.out HN1.out ?_
     exact mov_way HI.out HY.out hq4 HW.out Hs2.out qo (And.left (show OffZ bs hi _ _ _ from qp)) (WayK.new (And.left (hMZ2 _)) wQ) wbs
    ·have hj2:(jn==0)=false:=by simpa using hj
     go_wp2_with fail
     have hs:=Hs.out
     rw[if_neg hj] at hs
     refine bodyPost_ret (ret_w rfl rfl qn (rowAt_setCells_same (whole_len (whole_seti 69 jn wwq3)) (Nat.le_of_eq (Eq.symm qn)))) rfl ?_
     refine fin_errw hs Hwq3.out ?_
     exact mov_errw HY.out hs qo (WayO.k (show WayO bw hw _ _ _ _ _ _ _ _ _ from qu) HY.out qo wbw)
end Go.Proofs.YtekjdeibnfaehaaGreat
