/- Texts of a proof. -/
import Derived.Test.YtekjdeibnfaehaaGreatKDbj
import Derived.Test.YtekjdeibnfaehaaGreatKDbk
set_option linter.unusedSimpArgs false
set_option linter.unusedVariables false
namespace Go.Proofs.YtekjdeibnfaehaaGreat
open Go Go.RowKit
set_option maxRecDepth 100000 in
set_option maxHeartbeats 16000000 in
theorem moved_twice{n:Nat}{G:Gh}(W:WD)(Ls:Nat→OffL)(A:Option Addr)(na c:Nat)(mv:MoveD)(w:World)(hI:WI n W G)(hY:WorldY w W Ls A na c)(hx:mv.x.text.size≤9223372036854775807)
 (hk0: -9223372036854775808≤mv.k0) (hk0':mv.k0≤9223372036854775807) (hk1: -9223372036854775808≤mv.k1) (hk1':mv.k1≤9223372036854775807) (hlong:na≤100000) (HD:Hid (6≤mv.what % 12∧mv.what % 12≤7∧na≤40)):
 Calls Tryz.prog 38 #[.agg (worldC W Ls A na c).toArray,mvV mv] w fun e w'=> ∃Ls' A' n' c',e= .returned (.agg (worldC (movedW W mv) Ls' A' n' c').toArray)∧MovR w w' Ls A na (movedW W mv) Ls' A' n' c':=by
 have HI:=hid hI
 have HY:=hid hY
 have HK:=hid (show _∧_∧_∧_ from⟨hk0,hk0',hk1,hk1'⟩)
 have Hx:=hid hx
 have Hlong:=hid hlong
 clear hI hY hk0 hk0' hk1 hk1' hx hlong
 obtain⟨B,hB⟩:∃ B:Nat,w.heap.size=B:=⟨_,rfl⟩
 have HB:=hid hB
 obtain⟨p,hp⟩:∃ p:Nat,mv.a % 4=p:=⟨(mv.a % 4).toNat,by omega⟩
 have hp4:p<4:=by omega
 have hpi:(p:Int)<4:=by omega
 obtain⟨W',hW'⟩:∃ W',movedW W mv=W':=⟨_,rfl⟩
 rw[hW']
 have HW:=hid hW'
 obtain⟨wc,hwc⟩:∃ wc,worldC W Ls A na c=wc:=⟨_,rfl⟩
 obtain⟨zc,hzc⟩:∃ zc,worldC zeroW (fun _=>zL) none 0 0=zc:=⟨_,rfl⟩
 have hzw:=zero_world
 rw[hwc]
 rw[hzc] at hzw
 have Hwc:=hid hwc
 have Hzc:=hid hzc
 clear hW' hB hwc hzc
 go_enter Tryz.func38,Tryz.ntmps38
 go_wp2_with fail
 refine(Mod_any _ _ tN tN _).mono ?_
 rintro e w1 ⟨rfl,rfl⟩
 obtain⟨P0,hP0⟩:∃ P0,((w.alloc (.cells wc.toArray 83)).alloc (.cells (mvC mv).toArray 90)).alloc (.cells zc.toArray 83)=P0:=⟨_,rfl⟩
 simp only[hP0]
 have b0:BoxC P0 B (worldC W Ls A na c) 83:=by rw[Hwc.out,←hP0];exact((BoxC.new_at _ _ HB.out.symm).alloc _).alloc _
 have b1:BoxC P0 (B+1) (mvC mv) 90:=by rw[←hP0];exact(BoxC.new_at _ _ qH).alloc _
 have b2:BoxC P0 (B+1+1) zc 83:=by rw[←hP0];exact BoxC.new_at _ _ qH
 have xP:Hid (Ext w P0):=hid qh
 have zP:P0.heap.size=B+1+1+1:=by rw[←hP0];simp[HB.out]
 simp only[HB.out]
 have c0:=b0.world
 rw[Hwc.out] at c0
 obtain⟨oc,hoc⟩:∃ oc,offQ (W.off p) (Ls p)=oc:=⟨_,rfl⟩
 have ro:rowAt P0 B (p * 17) 17=oc.toArray:=by rw[←hoc];exact b0.worldOff hp4
 have wo:Whole oc.toArray 17:=by rw[←hoc];exact offQ_whole _ _
 have lo:oc.length=17:=by rw[←hoc];rfl
 have Hoc:=hid hoc
 clear hoc
 have c1:=b1.c13
 have t0:=b0.lt
 have t1:=b1.lt
 have f0:=b0.frozen
 have B0:=hid b0
 have B1:=hid b1
 have B2:=hid b2
 clear b0 b1 b2 hP0
 rw[hp]
 have ns:¬ (B+1+1+1=B+1):=by omega
 have nb:¬ (B+1+1+1=B):=by omega
 have nss:¬ (B+1+1=B):=by omega
 have hpt:17+p * 17≤70:=by omega
 have hpt2:p * 17+17≤70:=by omega
 have hpt3:p * 17≤53:=by omega
 go_wp2_with fail
 refine(Mod_any _ _ tN tN _).mono ?_
 rintro e w1 ⟨rfl,rfl⟩
 obtain⟨Q,hQ⟩:∃ Q,((P0.alloc (.cells #[.int .i64 0,.slice none 0 0,.int .i64 0,.slice none 0 0,.int .i64 0,.slice none 0 0,.int .i64 0,.int .i64 0,.slice none 0 0,.slice none 0 0,.slice none 0 0,.slice none 0 0,.slice none 0 0,.slice none 0 0,.slice none 0 0,.slice none 0 0,.slice none 0 0] 76)).setCells (B+1+1+1) 0 oc).setCell ⟨B,69,none⟩ (.int .i64 0)=Q:=⟨_,rfl⟩
 simp only[hQ]
 have q0:BoxC Q B (worldC ⟨W.off,W.way,0⟩ Ls A na c) 83:=by rw[←hQ];exact(BoxC.cellsOther nb _ _ (B0.out.alloc _)).set 69 _
 have q1:BoxC Q (B+1) (mvC mv) 90:=by rw[←hQ];exact(BoxC.cellsOther tB _ _ (B1.out.alloc _)).other _ _ tB
 have q2:BoxC Q (B+1+1) zc 83:=by rw[←hQ];exact(BoxC.cellsOther tB _ _ (B2.out.alloc _)).other _ _ tB
 have q3:BoxC Q (B+1+1+1) oc 76:=by rw[←hQ];exact BoxC.other qi _ _ tB
 have XQ:Hid (Ext w Q):=hid qj
 have Q0:=hid q0
 have Q1:=hid q1
 have Q2:=hid q2
 have Q3:=hid q3
 have I:=hid (HI.out.o p hp4)
 have hoy:=hid ((HY.out.o p hp4).of_ext XQ.out)
 have c1:=q1.c13
 have o5:=q3.cell (i:=5) (v:=.slice (Ls p).Am (Ls p).nm (Ls p).cm) qk
 have lq3:rowLen Q (B+1+1+1)=17:=q3.len.trans lo
 have rq3:rowAt Q (B+1+1+1) 0 17=oc.toArray:=by have:=q3.row;rw[lo] at this;exact this
 obtain⟨wq,hwq⟩:∃ wq,worldC ⟨W.off,W.way,0⟩ Ls A na c=wq:=⟨_,rfl⟩
 obtain⟨w68,w69,lq0,rq0⟩:=q0.world
 rw[hwq] at rq0
 have wwq:Whole wq.toArray 70:=by rw[←hwq];exact worldC_whole _ _ _ _ _
 have wset:∀ e:Int,Whole (wq.set 69 (.int .i64 e)).toArray 70:=fun e=>whole_seti 69 e wwq
 have Hwq:=hid hwq
 clear hwq
 have t0:=q0.lt
 have t1:=q1.lt
 have t2:=q2.lt
 have t3:=q3.lt
 have bfa:(∀x,B<Q.heap.size+x)∧(∀x y,B<Q.heap.size+x+y)∧(∀x y z,B<Q.heap.size+x+y+z)∧(∀x,B≤Q.heap.size+x)∧(∀x y,B≤Q.heap.size+x+y)∧(∀x y z,B≤Q.heap.size+x+y+z):=⟨fun _=>by omega,fun _ _=>by omega,fun _ _ _=>by omega,fun _=>by omega,fun _ _=>by omega,fun _ _ _=>by omega⟩
 have bfb:(∀x,B+1<Q.heap.size+x)∧(∀x y,B+1<Q.heap.size+x+y)∧(∀x y z,B+1<Q.heap.size+x+y+z)∧(∀x,B+1≤Q.heap.size+x)∧(∀x y,B+1≤Q.heap.size+x+y)∧(∀x y z,B+1≤Q.heap.size+x+y+z):=⟨fun _=>by omega,fun _ _=>by omega,fun _ _ _=>by omega,fun _=>by omega,fun _ _=>by omega,fun _ _ _=>by omega⟩
 have bfc:(∀x,B+1+1<Q.heap.size+x)∧(∀x y,B+1+1<Q.heap.size+x+y)∧(∀x y z,B+1+1<Q.heap.size+x+y+z)∧(∀x,B+1+1≤Q.heap.size+x)∧(∀x y,B+1+1≤Q.heap.size+x+y)∧(∀x y z,B+1+1≤Q.heap.size+x+y+z):=⟨fun _=>by omega,fun _ _=>by omega,fun _ _ _=>by omega,fun _=>by omega,fun _ _=>by omega,fun _ _ _=>by omega⟩
 have nfa:¬ (Q.heap.size=B)∧(∀x,¬(Q.heap.size+x=B))∧(∀x y,¬(Q.heap.size+x+y=B))∧(∀x y z,¬(Q.heap.size+x+y+z=B)):=⟨by omega,fun _=>by omega,fun _ _=>by omega,fun _ _ _=>by omega⟩
 have nfb:¬ (Q.heap.size=B+1)∧(∀x,¬(Q.heap.size+x=B+1))∧(∀x y,¬(Q.heap.size+x+y=B+1))∧(∀x y z,¬(Q.heap.size+x+y+z=B+1)):=⟨by omega,fun _=>by omega,fun _ _=>by omega,fun _ _ _=>by omega⟩
 have nfc:¬ (Q.heap.size=B+1+1)∧(∀x,¬(Q.heap.size+x=B+1+1))∧(∀x y,¬(Q.heap.size+x+y=B+1+1))∧(∀x y z,¬(Q.heap.size+x+y+z=B+1+1)):=⟨by omega,fun _=>by omega,fun _ _=>by omega,fun _ _ _=>by omega⟩
 have nga:¬ (B=Q.heap.size)∧(∀x,¬(B=Q.heap.size+x))∧(∀x y,¬(B=Q.heap.size+x+y))∧(∀x y z,¬(B=Q.heap.size+x+y+z)):=⟨by omega,fun _=>by omega,fun _ _=>by omega,fun _ _ _=>by omega⟩
 have ngb:¬ (B+1=Q.heap.size)∧(∀x,¬(B+1=Q.heap.size+x))∧(∀x y,¬(B+1=Q.heap.size+x+y))∧(∀x y z,¬(B+1=Q.heap.size+x+y+z)):=⟨by omega,fun _=>by omega,fun _ _=>by omega,fun _ _ _=>by omega⟩
 have ngc:¬ (B+1+1=Q.heap.size)∧(∀x,¬(B+1+1=Q.heap.size+x))∧(∀x y,¬(B+1+1=Q.heap.size+x+y))∧(∀x y z,¬(B+1+1=Q.heap.size+x+y+z)):=⟨by omega,fun _=>by omega,fun _ _=>by omega,fun _ _ _=>by omega⟩
 have wB:w.heap.size≤B:=by have:=HB.out;omega
 have wB2:w.heap.size≤B+1+1:=by omega
 have wQ:w.heap.size≤Q.heap.size:=by omega
 have e0le:B≤Q.heap.size:=by omega
 have e1le:B+1≤Q.heap.size:=by omega
 have e2le:B+1+1≤Q.heap.size:=by omega
 have e1lt:B+1<Q.heap.size:=by omega
 have f0:=q0.frozen
 have lq2:rowLen Q (B+1+1)=70:=q2.len.trans ql
 clear c0 ro hzw zP hQ q0 q1 q2 q3 B0 B1 B2 xP hpt hpt2
 have hd:=HD.out
 clear HD
 have Hd:=hid hd
 clear hd
 have hway:=HY.out.m.of_ext XQ.out
 by_cases hna:na=0
 ·have hw0:W.way=[]:=List.eq_nil_of_length_eq_zero (by have:=hway.1;omega)
  have hs:W'=errW W W.way 0:=by rw[←HW.out,movedW,if_neg qt,if_neg qt,if_pos qt,if_pos hw0]
  have Hs:=hid hs
  clear hs hw0 hway
  subst hna
  have hdc:mv.what % 12=6∨mv.what % 12=7:=by have:=Hd.out;omega
  rcases hdc with hd1|hd1
  all_goals
   rw[hd1]
   go_wp2_with fail
   refine bodyPost_ret (ret_w rfl rfl qn (rowAt_setCells_same (whole_len wwq) (Nat.le_of_eq (Eq.symm qn)))) rfl ?_
   exact⟨Ls,A,0,c,by rw[Hs.out,←Hwq.out];rfl,mov_err HY.out Hs.out qo⟩
 ·have hn0:0<na:=by omega
  have hna2:((na:Int)==0)=false:=by simpa using hna
  obtain⟨g,o,rfl,hg⟩:=hway.addr hn0
  obtain⟨k,hk⟩:∃ k:Nat,mv.b % (na:Int)=k:=⟨(mv.b % na).toNat,by have:=Int.emod_nonneg mv.b (show(na:Int)≠0 by omega);omega⟩
  have hkn:k<na:=by have:=Int.emod_lt_of_pos mv.b (show(0:Int)<na by omega);omega
  have hwl:=hway.1
  have hne:W.way≠[]:=fun h=>by rw[h] at hwl;exact hna hwl.symm
  obtain⟨x,hx⟩:∃ x,W.way[k]? =some x:=⟨_,List.getElem?_eq_getElem tB⟩
  have hmi:msgI W mv.b=k:=by unfold msgI;rw[hwl];omega
  have hmx:msgW W mv.b=x:=by rw[msgW,hmi,hx];rfl
  have hXI:=HI.out.m x (List.mem_of_getElem? hx)
  obtain⟨q,hq⟩:∃ q:Nat,x.to=q:=⟨x.to.toNat,by have:=hXI.t0;omega⟩
  have hq4:q<4:=by have:=hXI.t1;omega
  have hld:=hway.load hx
  obtain⟨mc,hmc⟩:∃ mc,msgC x=mc:=⟨_,rfl⟩
  have lmc:mc.length=14:=by rw[←hmc];rfl
  have wmc:Whole mc.toArray 14:=by rw[←hmc];exact whole_of rfl fun v hv=>msgC_one [x] v ti
  have m1:mc[1]? =some (.int .i64 q):=by rw[←hmc,←hq];rfl
  rw[hmc] at hld
  have Hmc:=hid hmc
  have Hmi:=hid hmi
  have Hmx:=hid hmx
  have Hway:=hid hway
  have Hne:=hid hne
  have Hq:=hid hq
  have HXI:=hid hXI
  have Hlx:=Hlong.out
  have hki:(k:Int)<na:=by omega
  clear hmc hmi hmx hx hway hne hq hXI
  have hdc:mv.what % 12=6∨mv.what % 12=7:=by have:=Hd.out;omega
  rcases hdc with hd1|hd1
  all_goals
   rw[hd1]
   go_wp2_with fail
   refine(Mod_any _ _ tB tB _).mono ?_
   rintro e w1 ⟨rfl,rfl⟩
   rw[hk]
   go_wp2_with fail
   obtain⟨NM,hNM⟩:∃ NM,Q.heap.size=NM:=⟨_,rfl⟩
   simp only[hNM]
   obtain⟨Y,hY⟩:∃ Y,(Q.alloc (.cells #[.int .i64 0,.int .i64 0,.bool false,.int .i64 0,.int .i64 0,.int .i64 0,.int .i64 0,.int .i64 0,.int .i64 0,.int .i64 0,.int .i64 0,.int .i64 0,.int .i64 0,.string ⟨#[]⟩] 70)).setCells NM 0 mc=Y:=⟨_,rfl⟩
   simp only[hY]
   have hNb:B+1+1+1<NM:=by omega
   have xQY:Ext Q Y:=by rw[←hY];exact Ext.cells _ _ (Ext.alloc (Ext.refl Q) _) tB
   have v0:=Q0.out.of_ext xQY
   have v1:=Q1.out.of_ext xQY
   have v2:=Q2.out.of_ext xQY
   have v4:BoxC Y NM mc 70:=by rw[←hY];have:=BoxC.cells (cs:=[.int .i64 0,.int .i64 0,.bool false,.int .i64 0,.int .i64 0,.int .i64 0,.int .i64 0,.int .i64 0,.int .i64 0,.int .i64 0,.int .i64 0,.int .i64 0,.int .i64 0,.string ⟨#[]⟩]) (t:=70) mc 0 (BoxC.new_at (P:=Q) _ _ hNM.symm) (by rw[lmc];exact Nat.le_refl _);rw[lmc] at this;simpa using this
   have XQ:Hid (Ext w Y):=hid (XQ.out.trans xQY)
   have wQ:w.heap.size≤Y.heap.size:=by obtain⟨E,d,he⟩:=xQY;rw[he,size_ext];omega
   have Hway:=hid (Hway.out.of_ext xQY)
   have hoy:=hid ((HY.out.o q hq4).of_ext XQ.out)
   have nN:¬ (NM=B)∧¬ (NM=B+1)∧¬ (NM=B+1+1)∧¬ (NM=B+1+1+1)∧¬ (B=NM)∧¬ (B+1=NM)∧¬ (B+1+1=NM)∧¬ (B+1+1+1=NM):=by omega
   clear hY hNM xQY
   clear w68 w69 lq0 rq0 lq3 rq3 lq2 f0 o5 t0 t1 t2 t3 bfa bfb bfc nfa nfb nfc nga ngb ngc e0le e1le e2le e1lt c1 hld hg wo lo
   obtain⟨w68,w69,lq0,rq0⟩:=v0.world
   rw[Hwq.out] at rq0
   have ro:=v0.worldOff hq4
   obtain⟨oq,hoq⟩:∃ oq,offQ (W.off q) (Ls q)=oq:=⟨_,rfl⟩
   have wo:Whole oq.toArray 17:=by rw[←hoq];exact offQ_whole _ _
   have lo:oq.length=17:=by rw[←hoq];rfl
   rw[show(⟨W.off,W.way,0⟩:WD).off q=W.off q from rfl,hoq] at ro
   have Hoq:=hid hoq
   have lq2:rowLen Y (B+1+1)=70:=v2.len.trans ql
   have c1:=v1.c13
   have m1:=v4.cell m1
   have lq4:rowLen Y NM=14:=v4.len.trans lmc
   have rq4:rowAt Y NM 0 14=mc.toArray:=by have:=v4.row;rw[lmc] at this;exact this
   have f0:=v0.frozen
   have t0:=v0.lt
   have t1:=v1.lt
   have t2:=v2.lt
   have t4:=v4.lt
   have b0:=fars t0
   have b1:=fars t1
   have b2:=fars t2
   have b4:=fars t4
   have hqt:q * 17+17≤68:=by omega
   have hqt2:q * 17≤53:=by omega
   have hqt3:q * 17+17≤70:=by omega
   have hqt4:17+q * 17≤70:=by omega
   have hqi:(q:Int)<4:=by omega
   clear v0 v1 v2 v4 Q0 Q1 Q2 Q3 hoq
   refine(Mod_any _ _ tN tN _).mono ?_
   rintro e w1 ⟨rfl,rfl⟩
   rw[hd1]
   have h40n:¬ ((40:Int)<na):=by have:=Hd.out;omega
   have Hw3:Hid (wayW W (mv.what % 12) mv.b=W.way):=hid (wayW_all tB qt)
   have hl3:W.way.length≤100000:=by rw[hwl];exact Hlx
   go_wp2_with fail
   obtain⟨Z,hZn⟩:∃ Z,Y=Z:=⟨_,rfl⟩
   simp only[hZn]
   obtain⟨W3,hW3⟩:∃ W3,W.way=W3:=⟨_,rfl⟩
   have Hwq3:Hid (worldC ⟨W.off,W3,0⟩ Ls (some ⟨g,o,none⟩) na c=wq):=hid (by rw[←hW3];exact Hwq.out)
   obtain⟨wq3,hwq3⟩:∃ wq3,wq=wq3:=⟨_,rfl⟩
   rw[hwq3] at Hwq3
   have wwq3:Whole wq3.toArray 70:=by rw[←hwq3];exact wwq
   have rZ:rowAt Z B 0 70=wq3.toArray:=by rw[←hZn,←hwq3];exact rq0
   have zZ:Y.heap.size≤Z.heap.size:=by rw[hZn];exact Nat.le_refl _
   obtain⟨bw,hbw⟩:∃ bw,Y.heap.size=bw:=⟨_,rfl⟩
   obtain⟨hw,hhw⟩:∃ hw,Y.heap.size=hw:=⟨_,rfl⟩
   have hwz:hw≤Z.heap.size:=by omega
   have K3:Hid (WayO bw hw Z (some ⟨g,o,none⟩) na c W3 (some ⟨g,o,none⟩) na c W.way):=hid (.inr ⟨rfl,rfl,rfl,hW3.symm⟩)
   have bw0:B<bw:=by omega
   have bw2:B+1+1<bw:=by omega
   have wbw:w.heap.size≤bw:=by omega
   clear hbw hhw
   have XZ:Hid (Ext w Z):=hid (by rw[←hZn];exact XQ.out)
   rw[hW3] at Hw3 hl3
   have z68:Z.cell? ⟨B,68,none⟩=some (.slice (some ⟨g,o,none⟩) na c):=by subst hZn;go_simp
   have z69:Z.cell? ⟨B,69,none⟩=some (.int .i64 0):=by subst hZn;go_simp
   have lZ0:rowLen Z B=70:=by subst hZn;go_simp
   have rqZ:rowAt Z B (q * 17) 17=oq.toArray:=by subst hZn;go_simp
   have lZ4:rowLen Z NM=14:=by subst hZn;go_simp
   have rZ4:rowAt Z NM 0 14=mc.toArray:=by subst hZn;go_simp
   have mZ1:Z.cell? ⟨NM,1,none⟩=some (.int .i64 q):=by subst hZn;go_simp
   have lZ2:rowLen Z (B+1+1)=70:=by subst hZn;go_simp
   have fZ:∀ i:Nat,Z.frozen? ⟨B,i,none⟩=false:=fun i=>by subst hZn;go_simp
   have hoy:=hid ((HY.out.o q hq4).of_ext XZ.out)
   have t0:B<Z.heap.size:=by omega
   have t2:B+1+1<Z.heap.size:=by omega
   have t4:NM<Z.heap.size:=by omega
   have wQ:w.heap.size≤Z.heap.size:=by omega
   have XQ:=XZ
   clear hZn w68 w69 lq0 rq0 ro lq2 c1 m1 lq4 rq4 f0 t1 b0 b1 b2 b4 zZ
   have lq2:=lZ2
   have b0:=fars t0
   have b2:=fars t2
   have b4:=fars t4
   refine(Mod_any _ _ tN tN _).mono ?_
   rintro e w1 ⟨rfl,rfl⟩
   rw[hd1]
   have hs:W'=recvW W x W3:=by rw[←HW.out,movedW_recv tB tB Hne.out,Hmx.out,Hw3.out]
   rw[recvW,Hq.out,show(q:Int).toNat=q from by omega] at hs
   have Hs:=hid hs
   clear hs
   have htx:x.r.text.size≤9223372036854775807:=by have:=txtBig_of (HI.out.o _ (by have:=HXI.out.a0;have:=HXI.out.a1;omega:x.r.ao.toNat<4)).check x.r (HI.out.firm HXI.out.a0 HXI.out.a1 HXI.out.h);exact this
   go_wp2_with fail
   refine wp_region_ord (.f 0 (.f 1 (.f 2 (.f 3 (.f 4 (.f 5 (.k 6 (.f 7 (.f 8 (.f 9 (.f 10 (.a 11 (.a 12 (.f 13 (.f 14 .d)))))))) 11 (.a 6 (.f 7 (.f 8 (.f 9 (.f 10 (.a 12 (.f 13 (.f 14 .d))))))))))))))) (Kept (Z) (Z.heap.size) (Z.heap.size)) tG tG (Kept.refl _ _ _).drew ?_
   repeat' first|(refine oK ?_)|(refine wpOrd_call rfl rfl rfl Tryz.call46 (fun R hR=> ?_);go_simp;refine(recv_q (W.off q) (Ls q) oq mc x Hoq.out Hmc.out _ (hoy.out.of_ext exI) htx).mono ?_;rintro e w1 ⟨LN,nc,AM,nm,cm,jn,rfl,wn,ln,hN,hM,⟨EN,dN,rfl⟩⟩;refine hR _ _ ⟨_,rfl,qm,?_⟩;clear hR R;simp only[Act.put,zp])|(refine wpOrd_act rfl rfl (fun K hK=> ?_);go_simp;refine hK _ _ ⟨qm,?_⟩;clear hK K;try simp only[Act.put,zp])|refine wpOrd_fork ?_ ?_|refine wpOrd_nil ?_
   all_goals
    have hmk1:True:=trivial
    have wput:=fun e=>whole_put (whole_seti 69 e wwq3) wn hqt2
    have hN1:=hN.out
    obtain⟨bs,hi,hbs,hhi,hZ⟩:=offz_ex hN1.2.2
    have hMZ:=MsgZ.mk hM.out
    rw[←hbs,←hhi] at hMZ
    have hs:=Hs.out
    rw[hN1.2.1] at hs
    have Hs:=hid hs
    have HZ:=hid hZ
    have HMZ:=hid hMZ
    have HN1:=hid hN1.1
    have Hbs:=hid hbs
    have Hhi:=hid hhi
    clear hN1 hs hN hM hZ hMZ hbs hhi
    by_cases hj:jn=0
    ·subst hj
     have hs:=Hs.out
     simp only[if_true] at hs
     have Hs:=hid hs
     have hbs:=Hbs.out
     have hhi:=Hhi.out
     simp only[World.size_alloc,size_ext,size_cells,World.size_setCell,szd] at hbs hhi
     have bB:B<bs:=by omega
     have bB2:B+1+1<bs:=by omega
     have wbs:w.heap.size≤bs:=by omega
     obtain⟨R1,hR1⟩:∃ R1,recvL (W.off q) x=R1:=⟨_,rfl⟩
     have hsh:R1.length≤1:=by rw[←hR1,recvL];split <;> simp
     rw[hR1] at hs HMZ
     have Hs:=hid hs
     have Hbs3:=hid hbs
     have Hhi3:=hid hhi
     clear hs hR1 hbs hhi
     have hz5:([]:List MsgD).length+W3.length≤1000000:=by simp only[List.length_nil];omega
     have hz6:(([]:List MsgD)++W3).length+R1.length≤1000000:=by rw[List.nil_append];omega
     have Hs2:Hid (W'=setW W q (recvO (W.off q) x) (([]++W3)++R1)):=hid Hs.out
     go_wp2_with (first|(at_builtin;clear hmk1;refine wpl_alloc fun X hX=> ?_;have xX:Ext w X:=qv;have lX0:rowLen X B=70:=qw;have x68:X.cell? ⟨B,68,none⟩=some (.slice (some ⟨g,o,none⟩) na c):=qw;have hbs:=Hbs3.out;have hhi:=Hhi3.out;have rX:rowAt X B 0 70=(putC (wq3.set 69 (.int .i64 0)) (q * 17) nc).toArray:=qw;have lX2:rowLen X (B+1+1)=70:=qx;have hZ:=HZ.out;have zX:OffZ bs hi X (recvO (W.off q) x) LN:=qy;have hMZ:=HMZ.out;have mX:MsgZ bs hi X AM nm cm R1:=qz;have kX:WayO bw hw X (some ⟨g,o,none⟩) na c W3 (some ⟨g,o,none⟩) na c W.way:=QA;have fX:∀ i:Nat,X.frozen? ⟨B,i,none⟩=false:=(fun i=>by rw[hX];go_simp);have tX0:B<X.heap.size:=QB;have tX2:B+1+1<X.heap.size:=QB;have bX0:=fars tX0;have bX2:=fars tX2;have hway3:=(WayO.k kX HY.out xX wbw).1;refine wpList_amsg (A:=(some ⟨g,o,none⟩)) (m:=na) (c:=c) rfl X X.heap.size rfl rfl _ _ rfl W3 rfl exI (OwnM.empty X X.heap.size _ QC QC) rfl hway3.1.symm (hway3.2.2.2.of_ext exI) hz5 (fun v1 E1 d1 o1=> ?_);clear hX hZ hMZ hbs hhi t0 t2 lq2 lZ0 z69 rZ lZ4 rZ4 rqZ mZ1 z68 lZ2 fZ b0 b2 b4 wQ XQ t4)|(at_builtin;refine wpList_amsg (A:=AM) (m:=nm) (c:=cm) rfl X X.heap.size rfl rfl _ _ rfl R1 rfl exI o1 rfl mX.1.1.symm (mX.1.read.2.2.2.of_ext exI) hz6 (fun v2 E5 d5 o5=> ?_);obtain⟨A5,n5,c5,rfl⟩:=o5.slice))
     have hMZ:=MsgZ.set (i:=68) (v:=.slice A5 n5 c5) (MsgZ.mk o5.msgs) (.inl tX0)
     rw[setCell_ext (hn:=tX0)] at hMZ
     have hMZ2:=fun vs=>MsgZ.cells (vs:=vs) (i:=0) hMZ (.inl tX2)
     have lq2:=lX2
     have t2:=tX2
     have XQ:=hid xX
     have hZ:=zX
     have wQ:w.heap.size≤X.heap.size:=by omega
     refine bodyPost_ret (ret_w rfl rfl qn (rowAt_setCells_same (whole_len (whole_sets 68 A5 n5 c5 (wput 0))) (Nat.le_of_eq (Eq.symm qn)))) rfl ?_
     refine fin_way (W0:=⟨W.off,W3,0⟩) hq4 Hs2.out Hwq3.out HN1.out ?_
     exact mov_way HI.out HY.out hq4 HW.out Hs2.out qo (And.left (show OffZ bs hi _ _ _ from qp)) (WayK.new (And.left (hMZ2 _)) wQ) wbs
    ·have hj2:(jn==0)=false:=by simpa using hj
     go_wp2_with fail
     have hs:=Hs.out
     rw[if_neg hj] at hs
     refine bodyPost_ret (ret_w rfl rfl qn (rowAt_setCells_same (whole_len (whole_seti 69 jn wwq3)) (Nat.le_of_eq (Eq.symm qn)))) rfl ?_
     refine fin_errw hs Hwq3.out ?_
     exact mov_errw HY.out hs qo (WayO.k (show WayO bw hw _ _ _ _ _ _ _ _ _ from qu) HY.out qo wbw)
end Go.Proofs.YtekjdeibnfaehaaGreat
set_option linter.unusedSimpArgs false
set_option linter.unusedVariables false
namespace Go.Proofs.YtekjdeibnfaehaaGreat
open Go Go.RowKit
theorem moved_any{n:Nat}{G:Gh}(W:WD)(Ls:Nat→OffL)(A:Option Addr)(na c:Nat)(mv:MoveD)(w:World)(hI:WI n W G)(hY:WorldY w W Ls A na c)(hx:mv.x.text.size≤9223372036854775807)
 (hk0: -9223372036854775808≤mv.k0) (hk0':mv.k0≤9223372036854775807) (hk1: -9223372036854775808≤mv.k1) (hk1':mv.k1≤9223372036854775807) (hlong:na≤100000):
 Calls Tryz.prog 38 #[.agg (worldC W Ls A na c).toArray,mvV mv] w fun e w'=> ∃Ls' A' n' c',e= .returned (.agg (worldC (movedW W mv) Ls' A' n' c').toArray)∧MovR w w' Ls A na (movedW W mv) Ls' A' n' c':=by
 have hd:mv.what % 12=0∨(mv.what % 12=1∨mv.what % 12=2)∨(3≤mv.what % 12∧mv.what % 12≤7∧(mv.what % 12<6∨40<na))∨(6≤mv.what % 12∧mv.what % 12≤7∧na≤40)∨(mv.what % 12=8∨mv.what % 12=9)∨10≤mv.what % 12:=by omega
 rcases hd with hd|hd|hd|hd|hd|hd
 ·exact moved_rest W Ls A na c mv w hI hY hx hk0 hk0' hk1 hk1' hlong (hid hd)
 ·exact moved_offer W Ls A na c mv w hI hY hx hk0 hk0' hk1 hk1' hlong (hid hd)
 ·exact moved_cut W Ls A na c mv w hI hY hx hk0 hk0' hk1 hk1' hlong (hid hd)
 ·exact moved_twice W Ls A na c mv w hI hY hx hk0 hk0' hk1 hk1' hlong (hid hd)
 ·exact moved_grant W Ls A na c mv w hI hY hx hk0 hk0' hk1 hk1' hlong (hid hd)
 ·exact moved_note W Ls A na c mv w hI hY hx hk0 hk0' hk1 hk1' hlong (hid hd)
end Go.Proofs.YtekjdeibnfaehaaGreat
set_option linter.unusedSimpArgs false
set_option linter.unusedVariables false
namespace Go.Proofs.YtekjdeibnfaehaaGreat
open Go Go.RowKit
theorem new_q(k:Nat)(w:World):
 Calls Tryz.prog 34 #[.int .i64 k] w fun e w'=> ∃(L':OffL) (nc:List Value),e= .returned (.tuple #[.agg nc.toArray,.int .i64 (newOE k)])∧Whole nc.toArray 17∧nc.length=17∧Hid (offQ (newO k) L'=nc∧OffA w.heap.size w' (newO k) L')∧Ext w w':=by
 refine(NewOffice_any k w).mono ?_
 rintro e w' ⟨L',rfl,hA,hx⟩
 exact⟨L',offQ (newO k) L',rfl,offQ_whole _ _,rfl,hid ⟨rfl,hA⟩,hx⟩
def begK(k:Nat):WD:=⟨fun q=>if q<k then newO q else noOff,[],0⟩
theorem begK_zero:begK 0=zeroW:=by simp[begK,zeroW]
theorem begK_next(k:Nat):(⟨upd (begK k).off k (newO k),[],0⟩:WD)=begK (k+1):=by
 unfold begK
 congr 1
 funext q
 by_cases h:q=k
 ·subst h
  rw[upd_at,if_pos (Nat.lt_succ_self _)]
 ·rw[upd_ne _ _ h]
  show(if q<k then newO q else noOff)=if q<k+1 then newO q else noOff
  by_cases h2:q<k
  ·rw[if_pos h2,if_pos tB]
  ·rw[if_neg h2,if_neg tB]
set_option maxRecDepth 100000 in
set_option maxHeartbeats 4000000 in
theorem begun_any(w:World):Calls Tryz.prog 37 #[] w fun e w'=> ∃Ls,e= .returned (.agg (worldC beginW Ls none 0 0).toArray)∧WorldY w' beginW Ls none 0 0∧(∀g,g<w.heap.size→WorldF g Ls none 0)∧Ext w w':=by
 obtain⟨B,hB⟩:∃ B:Nat,w.heap.size=B:=⟨_,rfl⟩
 obtain⟨zc,hzc⟩:∃ zc,worldC zeroW (fun _=>zL) none 0 0=zc:=⟨_,rfl⟩
 have hzw:=zero_world
 rw[hzc] at hzw
 have HB:=hid hB
 have Hzc:=hid hzc
 have wz:Whole zc.toArray 70:=by rw[←hzc];exact worldC_whole _ _ _ _ _
 clear hB hzc
 go_enter Tryz.func37,Tryz.ntmps37
 go_wp2_with fail
 obtain⟨P,hP⟩:∃ P,(w.alloc (.cells zc.toArray 83)).alloc (.cells zc.toArray 83)=P:=⟨_,rfl⟩
 simp only[hP,HB.out]
 have b0:BoxC P B zc 83:=by rw[←hP];exact(BoxC.new_at _ _ HB.out.symm).alloc _
 have b1:BoxC P (B+1) (worldC (begK 0) (fun _=>zL) none 0 0) 83:=by rw[begK_zero,Hzc.out,←hP];exact BoxC.new_at _ _ qH
 have sP:P.heap.size=B+2:=by rw[←hP];simp[HB.out]
 have xP:Ext w P:=by rw[←hP];exact exI
 clear hP hzw
 go_loopw [2] (fun i wr=> ∃(k:Nat) (Ls:Nat→OffL),k≤4∧i= .int .i64 k∧Hid (Ext w wr)∧BoxC wr B zc 83∧BoxC wr (B+1) (worldC (begK k) Ls none 0 0) 83∧Hid (∀q,q<4→OffA (B+2) wr ((begK k).off q) (Ls q))) (fun i _=>4-(intOf i).toNat)
 case atStart=>exact⟨0,fun _=>zL,by omega,rfl,hid xP,b0,b1,hid fun q _=>by rw[begK_zero];exact OffA.zero _ _⟩
 case round=>
  rename_i Q' K hK
  obtain⟨k,Ls,hk,rfl,X,c0,c1,hA⟩:=hrel
  have C0:=hid c0
  have C1:=hid c1
  obtain⟨w68,w69,lq1,rq1⟩:=c1.world
  have lq0:=c0.len
  have t0:=c0.lt
  have t1:=c1.lt
  have f1:=c1.frozen
  obtain⟨N,hN⟩:∃ N,wr.heap.size=N:=⟨_,rfl⟩
  rw[hN] at t0 t1
  have hNb:¬ (N=B)∧¬ (N=B+1)∧¬ (B=N)∧¬ (B+1=N):=by omega
  have b0:=fars t0
  have b1:=fars t1
  clear c0 c1
  by_cases hlt:k<4
  ·have hE:newOE k=0:=by rw[newOE,if_pos (inB_spec.2 ⟨by omega,by omega⟩)]
   have hki:(k:Int)<4:=by omega
   have hkt:k * 17+17≤70:=by omega
   go_wp2_with fail
   refine(new_q k _).mono ?_
   rintro e w1 ⟨L',nc,rfl,wn,ln,hN,EN,dN,rfl⟩
   go_wp2_with fail
   have hN1:=hN.out
   rename_i hNs
   have sX:(wr.ext EN dN).heap.size=N+EN.size:=by rw[size_ext,hNs]
   have hwN:w.heap.size≤N+EN.size:=by have:=HB.out;omega
   have hwB:w.heap.size≤B+1:=by have:=HB.out;omega
   refine⟨⟨k+1,upd Ls k L',by omega,rfl,hid (Ext.cells _ _ (Ext.cells _ _ (Ext.alloc (Ext.ext X.out EN dN) _) hwN) hwB),?_,?_,hid fun q hq=> ?_⟩,?_⟩
   ·exact BoxC.cellsOther tB _ _ (BoxC.cellsOther tB _ _ ((C0.out.of_ext ⟨EN,dN,rfl⟩).alloc _))
   ·have h9:=BoxC.cells nc (k * 17) (BoxC.cellsOther (show ¬(N+EN.size=B+1) by omega) nc 0 ((C1.out.of_ext ⟨EN,dN,rfl⟩).alloc (.cells #[.int .i64 0,.slice none 0 0,.int .i64 0,.slice none 0 0,.int .i64 0,.slice none 0 0,.int .i64 0,.int .i64 0,.slice none 0 0,.slice none 0 0,.slice none 0 0,.slice none 0 0,.slice none 0 0,.slice none 0 0,.slice none 0 0,.slice none 0 0,.slice none 0 0] 76))) (by rw[worldC_len];omega)
    rw[←hN1.1,worldC_put _ _ _ _ _ hlt,show(begK k).way=[] from rfl,show(begK k).e=0 from rfl,begK_next] at h9
    rw[←hN1.1]
    exact h9
   ·have hn:OffA (B+2) (wr.ext EN dN) ((begK (k+1)).off q) (upd Ls k L' q):=by
     rw[←begK_next]
     show OffA (B+2) (wr.ext EN dN) (upd (begK k).off k (newO k) q) (upd Ls k L' q)
     by_cases he:q=k
     ·subst he
      rw[upd_at,upd_at]
      exact OffA.mono hN1.2 tB
     ·rw[upd_ne _ _ he,upd_ne _ _ he]
      exact(hA.out q hq).of_ext ⟨EN,dN,rfl⟩
    exact((((OffZ.mk hn).alloc _).cells (.inr tB)).cells (.inl tB)).1
   ·show 4-((k:Int)+1).toNat<4-((k:Int)).toNat
    omega
  ·obtain rfl:k=4:=by omega
   have hzl:zc.length=70:=by rw[←Hzc.out];rfl
   have lq0':rowLen wr B=70:=lq0.trans hzl
   have rq0:=C0.out.row
   have ww:=worldC_whole (begK 4) Ls none 0 0
   go_wp2_with fail
   have hwB:w.heap.size≤B:=by have:=HB.out;omega
   refine bodyPost_ret (ret_w rfl rfl (rowLen_setCells.trans lq0') (rowAt_setCells_same (whole_len ww) (Nat.le_of_eq lq0'.symm))) rfl ?_
   refine⟨Ls,rfl,⟨fun q hq=> ?_,MsgsY.nil _⟩,fun g hg=>⟨fun q hq=> ?_,fun hn=>absurd hn (Nat.lt_irrefl 0)⟩,Ext.cells _ _ X.out hwB⟩
   ·have h:=((hA.out q hq).cells (i:=0) (vs:=worldC (begK 4) Ls none 0 0) (show B<B+2 by omega)).read (txtBig_of (by
     have:=(WI.begin.o q hq).check
     rw[show(begK 4).off q=beginW.off q from if_pos hq]
     exact this))
    rw[show(begK 4).off q=beginW.off q from if_pos hq] at h
    exact h
   ·exact(hA.out q hq).far QD
end Go.Proofs.YtekjdeibnfaehaaGreat
