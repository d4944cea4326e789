/- Texts of a proof. -/
import Derived.Test.YtekjdeibnfaehaaGreatKDbq
import Derived.Test.YtekjdeibnfaehaaGreatKDbf
import Derived.Test.YtekjdeibnfaehaaGreatKDaz
import Derived.Test.YtekjdeibnfaehaaGreatKDbp
import Derived.Test.YtekjdeibnfaehaaGreatKDbg
set_option linter.unusedSimpArgs false
set_option linter.unusedVariables false
namespace Go.Proofs.YtekjdeibnfaehaaGreat
open Go Go.RowKit
theorem bytesR_few:∀ {l:List Rec},(∀r∈l,recOk r=true)→(bytesR l).length≤224 * l.length
 | [],_=>Nat.le_refl _
 | r::l,h=>by
  have h1:=bytesR_few (l:=l) fun x hx=>h x (List.mem_cons_of_mem _ hx)
  have h2:=recOk_text (h r List.mem_cons_self)
  rw[bytesR_cons,List.length_append,frameB_length,List.length_cons]
  omega
theorem memOk_small{D:DriveD}{M:MemD}(h:memOk D M=true):(fileAt D M.file).bytes.length≤17930:=by
 simp only[memOk,Bool.and_eq_true,decide_eq_true_eq] at h
 obtain⟨_,_,_,_,_,h6,h7,_⟩:=h
 rw[←h6]
 simp only[regOk,Bool.and_eq_true,decide_eq_true_eq,List.all_eq_true] at h7
 have:=bytesR_few (l:=recsB (fileAt D M.file).bytes) fun x hx=>h7.1.2 x hx
 unfold longB
 omega
theorem fileOk_is{f:FileD}:fileOk f=true↔(0≤f.firm∧f.firm≤f.bytes.length)∧f.bytes.length≤100000:=by
 simp[fileOk,inB]
theorem apd_drive{D:DriveD}{M:MemD}{r:Rec}(hm:memOk D M=true)(h0:appE D M r=0):driveOk (appD D M r)=true:=by
 have hd:=(memOk_facts hm).1
 have hk:recOk r=true:=by
  rw[appE,if_pos hm] at h0
  cases hq:recOk r with
  | true=>rfl
  | false=>rw[hq] at h0;cases h0
 have hs:=memOk_small hm
 have h3:=frameB_length r
 have h4:=recOk_text hk
 rw[appD,if_pos h0]
 split
 ·exact hd
 ·simp only[driveOk,Bool.and_eq_true,fileOk_is] at hd ⊢
  obtain⟨⟨a1,a2⟩,⟨b1,b2⟩⟩:=hd
  unfold addF withFile
  unfold fileAt at hs ⊢
  split
  ·rename_i hf
   rw[if_pos hf] at hs
   refine⟨⟨⟨a1.1,?_⟩,?_⟩,b1,b2⟩
   ·simp only[List.length_append];omega
   ·simp only[List.length_append];omega
  ·rename_i hf
   rw[if_neg hf] at hs
   refine⟨⟨a1,a2⟩,⟨b1.1,?_⟩,?_⟩
   ·simp only[List.length_append];omega
   ·simp only[List.length_append];omega
end Go.Proofs.YtekjdeibnfaehaaGreat
set_option linter.unusedSimpArgs false
set_option linter.unusedVariables false
namespace Go.Proofs.YtekjdeibnfaehaaGreat
open Go Go.RowKit
theorem rappend_msg{W:World}{N:Nat}(ty:TypeId){v:Value}{l:List MsgD}(m:MsgD)(hN:N≤W.heap.size)(hown:OwnM N W v l){A:Option Addr}{c:Nat}(hr:Sl 14 W A 1 (msgC m))(hlen:l.length≤100000):
 ∃v' W',(Builtin.append_ #[81,81] ty #[v,.slice A 1 c]).run Tryz.prog W= .ok v' W'∧Below N W W'∧OwnM N W' v' (l++[m]):=by
 obtain⟨i0,hi,hz0,hz1,hz2⟩:=info_parts info_msg
 obtain⟨g,o',rfl,hg,hc⟩:=hr.2 tB
 obtain⟨v',w',hrun,h2,h3,_,_⟩:=run_append_own_at (P:=Tryz.prog) W N 81 ty 70 i0 _ 14 120 Tryz.underlying81 hi hz0 hz1 hz2 rfl tN v l.length _ hown ⟨g,o',none⟩ 1 c (msgC m) rfl (fun j u hj=>by rw[addr_add];exact hc j u hj) (fun u hu=>msgC_one [m] u (by simpa using hu)) tO tB hN
 refine⟨v',w',hrun,(Below.refl N W).grown h3 hN (own_base hown),?_⟩
 unfold OwnM
 rw[List.length_append,List.flatMap_append]
 simpa using h2
theorem wpOrd_ramsg{P:Program}(hP:P=Tryz.prog){ops:Array Oper}{Q:Exit→Act→World→Prop}{S:World→Prop}{i:Nat}{rest:Plan}{a:Act}{W:World}{o:Oper}(X:World)(N:Nat)(hN:N=X.heap.size)(hi:ops[i]? =some o)
 (hw:Region.wanted o (yielded ops a.tmps)=true) (s x:Operand) (ho:o.op= .call {callee:=.builtin .append,args:=#[s,x],argTypes:=#[81,81]})
 {v:Value} {l:List MsgD} (m:MsgD) (hs:a.eval s=v) (hx:Ext X W) (hown:OwnM N W v l)
 {A:Option Addr} {c:Nat} (hv:a.eval x= .slice A 1 c) (hr:Sl 14 W A 1 (msgC m)) (hlen:l.length≤100000)
 (h:∀ v' E d,OwnM N (X.ext E d) v' (l++[m])→S (X.ext E d)∧wpOrd P ops Q S rest (a.put o.dst v') (X.ext E d)):wpOrd P ops Q S (.a i rest) a W:=by
 refine wpOrd_act hi hw fun K hK=> ?_
 obtain⟨v',W',h1,h2,h3⟩:=rappend_msg o.type m t8 hown (c:=c) hr hlen
 rw[←hP] at h1
 obtain⟨E,d,rfl⟩:=hx.below_of h2 (Nat.le_of_eq hN.symm)
 exact wp_append_run s x _ _ ho hs hv h1 (hK _ _ (h v' E d h3))
theorem msg_box{W:World}{g:Nat}(m:MsgD)(hg:g=W.heap.size):Sl 14 (W.alloc (.cells (msgC m).toArray 70)) (some ⟨g,0,none⟩) 1 (msgC m):=by
 have hb:BoxC (W.alloc (.cells (msgC m).toArray 70)) g (msgC m) 70:=BoxC.new_at _ _ hg
 exact⟨rfl,fun _=>⟨g,0,rfl,hb.lt,fun j u hu=>by rw[Nat.zero_add];exact hb.cell hu⟩⟩
theorem syncD_firm{D:DriveD}(h:driveOk D=true):syncD D=firmD D:=by rw[syncD,if_pos h]
set_option maxRecDepth 100000 in
set_option maxHeartbeats 16000000 in
theorem rOffer_any(O:OffD)(L:OffL)(w:World)(t:Int)(h:OffY w O L):
 Calls Tryz.prog 45 #[offV O L,.int .i64 t] w fun e w'=> ∃L' A n c,e= .returned (.tuple #[offV (offerO O t) L',.slice A n c,.int .i64 (offerE O t)])∧OffRf w.heap.size w' (offerO O t) L'∧MsgsA w.heap.size w' A n c (offerL O t)∧Ext w w':=by
 have H:=hid h
 clear h
 obtain⟨B,hB⟩:∃ B:Nat,w.heap.size=B:=⟨_,rfl⟩
 have HB:=hid hB
 obtain⟨j,hj⟩:∃ j,offerE O t=j:=⟨_,rfl⟩
 obtain⟨GO,hGO⟩:∃ GO,offerO O t=GO:=⟨_,rfl⟩
 obtain⟨GL,hGL⟩:∃ GL,offerL O t=GL:=⟨_,rfl⟩
 rw[hj,hGO,hGL]
 have HE:=hid hj
 have HO:Hid (GO=if j=0 then firmO O else noOff):=hid (by rw[←hGO,offerO,hj])
 have HL:Hid (GL=if j=0 then offK O t O.m.recs else[]):=hid (by rw[←hGL,offerL,hj];rfl)
 clear hj hGO hGL hB
 go_enter Tryz.func45,Tryz.ntmps45
 go_wp2_with fail
 refine(rCheckOffice_any O L _ (H.out.of_ext exI)).mono ?_
 rintro e P1 ⟨rfl,x1⟩
 have X1:Hid (Ext w P1):=hid (Ext.trans exI x1)
 have b2:BoxC P1 B (offC O L) 76:=BoxC.of_ext ((BoxC.new_at _ _ HB.out.symm).alloc _) x1
 have b4:BoxC P1 (B+1) (offC noOff zL) 76:=BoxC.of_ext (BoxC.new_at _ _ qH) x1
 simp only[HB.out]
 have V2:=hid b2
 have V4:=hid b4
 have c2:=b2.c17
 have l2:=b2.lt
 have t4:=b4.lt
 have l4:rowLen P1 (B+1)=17:=b4.len
 clear x1 b2 b4
 cases ho:offOk O with
 | false=>
  have Hj:Hid (j=76):=hid (by rw[←HE.out,offerE,if_neg qG])
  rw[errOff_no ho]
  go_wp2_with fail
  have hj:=Hj.out
  refine bodyPost_ret (ret_ctt rfl rfl (rowLen_setCells.trans l4) (rowAt_setCells_same rfl qF) rfl rfl) rfl ?_;have hB:=HB.out;have e1:GO=noOff:=qL;have e2:GL=[]:=qT;rw[hj,e1,e2];exact⟨zL,none,0,0,rfl,OffRf.zero _ _,MsgsA.nil _ _,Ext.cells _ _ X1.out tB⟩
 | true=>
  have Hk:=hid (H.out.ok ho)
  rw[errOff_ok ho]
  cases hfr:inB t 0 8 with
  | false=>
   have Hj:Hid (j=1):=hid (by rw[←HE.out,offerE,if_pos ho,if_neg (by rw[hfr];simp)])
   go_wp2_with (go_at_call 98;refine(risOffice_any _ _).mono ?_;rintro e w1 ⟨rfl,rfl⟩)
   have hj:=Hj.out
   refine bodyPost_ret (ret_ctt rfl rfl (rowLen_setCells.trans l4) (rowAt_setCells_same rfl qF) rfl rfl) rfl ?_;have hB:=HB.out;have e1:GO=noOff:=qL;have e2:GL=[]:=qT;rw[hj,e1,e2];exact⟨zL,none,0,0,rfl,OffRf.zero _ _,MsgsA.nil _ _,Ext.cells _ _ X1.out tB⟩
  | true=>
   cases hne:(t==O.me) with
   | true=>
    have Hj:Hid (j=1):=hid (by rw[←HE.out,offerE,if_pos ho,if_neg (fun hx=>hx.2 (by simpa using hne))])
    go_wp2_with (go_at_call 98;refine(risOffice_any _ _).mono ?_;rintro e w1 ⟨rfl,rfl⟩)
    have hj:=Hj.out
    refine bodyPost_ret (ret_ctt rfl rfl (rowLen_setCells.trans l4) (rowAt_setCells_same rfl qF) rfl rfl) rfl ?_;have hB:=HB.out;have e1:GO=noOff:=qL;have e2:GL=[]:=qT;rw[hj,e1,e2];exact⟨zL,none,0,0,rfl,OffRf.zero _ _,MsgsA.nil _ _,Ext.cells _ _ X1.out tB⟩
   | false=>
    obtain rfl:0=j:=by rw[←HE.out,offerE,if_pos ho,if_pos ⟨hfr,by simpa using hne⟩]
    clear HE
    obtain⟨f,rfl⟩:∃ f:Nat,t=f:=⟨t.toNat,by have:=inB_spec.1 hfr;omega⟩
    have hf9:f<9:=by have:=inB_spec.1 hfr;omega
    have hfi:(f:Int)<9:=by omega
    go_wp2_with (go_at_call 98;refine(risOffice_any _ _).mono ?_;rintro e w1 ⟨rfl,rfl⟩)
    have hkb:=Hk.out.kb f hf9
    have hlen:=knB_len hkb
    have hyl:=H.out.l
    have h80:=Hk.out.sm
    have hr:=H.out.r.of_ext X1.out
    obtain⟨hkn0,_,_,hsl0⟩:=H.out.k f hf9
    have hsl:=hsl0.of_ext X1.out
    have ck:=V2.out.cell (i:=8+f) (get_kn _ _ _ _ _ _ _ _ L.k f hf9)
    have cm:=V2.out.cell (i:=0) rfl
    have fb2:=far2 l2
    have HL4:=hid (And.intro t4 l4)
    clear hsl0 c2 hne t4 l4
    go_loopw [7,9] (fun v i wr=> ∃k:Nat,k≤L.nm∧i= .int .i64 k∧Ext P1 wr∧OwnM P1.heap.size wr v (offK O f (O.m.recs.take k))) (fun _ i _=>L.nm-(intOf i).toNat)
    case atStart=>exact⟨0,Nat.zero_le _,rfl,Ext.refl _,OwnM.none _ _⟩
    case round=>
     obtain⟨k,hk,rfl,⟨E0',d0,rfl⟩,hown⟩:=hrel
     obtain⟨A3,n3,c3,rfl⟩:=hown.slice
     have Hown:=hid hown
     clear hown
     by_cases hlt:k<L.nm
     ·have hm:k<O.m.recs.length:=by omega
      have hki:(k:Int)<L.nm:=by omega
      obtain⟨g,of,hAm,hg⟩:=hr.addr tB
      have hr2:=hr
      rw[hAm] at hr2
      have hrw:=fun E d=>(hr2.of_ext (⟨E,d,rfl⟩:Ext P1 (P1.ext E d))).row hm
      obtain⟨r,hrk⟩:∃ r,O.m.recs[k]=r:=⟨_,rfl⟩
      rw[hrk] at hrw
      have Hrk:Hid (O.m.recs.take (k+1)=O.m.recs.take k++[r]):=hid (by rw[List.take_succ_eq_append_getElem hm,hrk])
      have hrow:∀ E d,(ldRow 46 ⟨g,of+k * 11,none⟩).run Tryz.prog (P1.ext E d)= .ok (recV r) (P1.ext E d):=fun E d=>by
       obtain⟨h0,h1,h2,h3,h4,h5,h6,h7,h8,h9,h10⟩:=hrw E d
       exact ld_rec r h0 h1 h2 h3 h4 h5 h6 h7 h8 h9 h10
      obtain⟨x0,x1,_⟩:=hr2.row hm
      rw[hrk] at x0 x1
      have hol:=offK_len O f (O.m.recs.take k)
      have hol2:(offK O f (O.m.recs.take k)).length≤80:=by rw[List.length_take] at hol;omega
      have HA:=hid hAm
      rw[hAm]
      clear hrw hr2 hrk hol hAm
      cases hkk:knowsB (O.kn f) r.ao r.sq with
      | true=>
       have Hs:Hid (offK O f (O.m.recs.take (k+1))=offK O f (O.m.recs.take k)):=hid qV
       go_wp2_with fail
       refine wp_region_ord (.f 0 (.f 1 (.f 2 (.f 3 (.f 4 (.f 5 (.f 6 (.f 7 (.f 8 (.a 9 (.f 10 .d))))))))))) (Ext (P1)) tG tG exI ?_
       refine oS ?_
       refine wpOrd_call rfl rfl rfl Tryz.call112 (fun R hR=> ?_)
       go_simp
       refine(rknows_any _ _ _ (O.kn f) r.ao r.sq hkn0 tB _ (hsl.of_ext exI)).mono ?_
       rintro e w1 ⟨rfl,E201,d201,rfl⟩
       refine hR _ _ ⟨_,rfl,?_,?_⟩
       ·exact exI
       clear hR R
       simp only[Act.put,zp]
       refine oS ?_
       refine wpOrd_nil ?_
       go_wp2_with fail
       exact⟨⟨k+1,by omega,by go_num,exI,by rw[Hs.out];exact Hown.out.of_ext exI⟩,by simp[intOf];omega⟩
      | false=>
       have Hs:Hid (offK O f (O.m.recs.take (k+1))=offK O f (O.m.recs.take k)++[⟨O.me,f,false,r⟩]):=hid qV
       go_wp2_with fail
       refine wp_region_ord (.f 0 (.f 1 (.f 2 (.f 3 (.f 4 (.f 5 (.f 6 (.f 7 (.f 8 (.a 9 (.f 10 .d))))))))))) (Ext (P1)) tG tG exI ?_
       refine oS ?_
       refine wpOrd_call rfl rfl rfl Tryz.call112 (fun R hR=> ?_)
       go_simp
       refine(rknows_any _ _ _ (O.kn f) r.ao r.sq hkn0 tB _ (hsl.of_ext exI)).mono ?_
       rintro e w1 ⟨rfl,E201,d201,rfl⟩
       refine hR _ _ ⟨_,rfl,?_,?_⟩
       ·exact exI
       clear hR R
       simp only[Act.put,zp]
       refine oS ?_
       refine wpOrd_nil ?_
       go_wp2_with fail
       refine wp_region_ord (.f 0 (.f 1 (.f 2 (.f 3 (.f 4 (.f 5 (.f 6 (.f 7 (.f 8 (.a 9 (.a 10 (.f 11 .d)))))))))))) (Ext (P1)) tG tG exI ?_
       refine oS ?_
       refine oC ?_
       refine wpOrd_ramsg rfl P1 _ rfl rfl rfl _ _ rfl ⟨O.me,f,false,r⟩ rfl tc td rfl (msg_box ⟨O.me,f,false,r⟩ qB) tB (fun v201 E201 d201 ho201=> ?_)
       have Ho9:=hid ho201
       clear ho201
       refine⟨exI,?_⟩
       try simp only[Act.put,zp]
       refine oS ?_
       refine wpOrd_nil ?_
       go_wp2_with fail
       exact⟨⟨k+1,by omega,by go_num,exI,by rw[Hs.out];exact Ho9.out.of_ext exI⟩,by simp[intOf];omega⟩
     ·have hki:¬ ((k:Int)<L.nm):=by omega
      obtain rfl:L.nm=k:=by omega
      have hall:O.m.recs.take L.nm=O.m.recs:=by rw[←hyl,List.take_length]
      rw[hall] at Hown
      have XE:Ext P1 (P1.ext E0' d0):=⟨E0',d0,rfl⟩
      obtain⟨P2,hP2⟩:∃ P2,P1.ext E0' d0=P2:=⟨_,rfl⟩
      rw[hP2] at XE Hown
      simp only[hP2]
      have X2:=hid (X1.out.trans XE)
      have v2:=V2.out.of_ext XE
      have v4:=V4.out.of_ext XE
      have U2:=hid v2
      have U4:=hid v4
      have c2:=v2.c17
      have l2:=v2.lt
      have hs0:=Hk.out.s0
      have hs1:=Hk.out.s1
      clear hP2 hr hsl ck cm fb2 hall V2 V4 v2 v4
      go_wp2_with fail
      refine(sameOffice_any O L P2 (H.out.of_ext X2.out) hs0 hs1 tB (fun i hi=>by have:=Hk.out.k i hi;omega)).mono ?_
      rintro e P3 ⟨L3,rfl,hU,x3⟩
      have hB:=HB.out
      have v2:=hid (U2.out.of_ext x3)
      have v4:=hid (U4.out.of_ext x3)
      have X3:=hid (X2.out.trans x3)
      have HU:=hid (hU.mono (base':=B+1+1) (by have:=U4.out.lt;omega))
      have Hown3:=hid (Hown.out.of_ext x3)
      have HS:=hid (show B+1<P3.heap.size∧P2.heap.size≤P3.heap.size∧P1.heap.size≤P2.heap.size from⟨v4.out.lt,x3.below.size,XE.below.size⟩)
      rename_i K5 hK5 K4 hK4
      have HK5:=hid hK5
      clear hK5 c2 l2 hU x3 U2 U4 hB XE
      go_wp2_with fail
      obtain⟨B6,hB6⟩:∃ B6,P3.heap.size=B6:=⟨_,rfl⟩
      simp only[hB6]
      obtain⟨Q1,hQ⟩:∃ Q1,(P3.alloc (.cells #[.int .i64 0,.slice none 0 0,.int .i64 0,.slice none 0 0,.int .i64 0,.slice none 0 0,.int .i64 0,.int .i64 0,.slice none 0 0,.slice none 0 0,.slice none 0 0,.slice none 0 0,.slice none 0 0,.slice none 0 0,.slice none 0 0,.slice none 0 0,.slice none 0 0] 76)).setCells B6 0 (offC O L3)=Q1:=⟨_,rfl⟩
      simp only[hQ]
      have XQ1:Ext P3 Q1:=by rw[←hQ];exact Ext.cells _ _ (Ext.alloc (Ext.refl _) _) tB
      have q6:BoxC Q1 B6 (offC O L3) 76:=by rw[←hQ];exact BoxC.cells (cs:=[.int .i64 0,.slice none 0 0,.int .i64 0,.slice none 0 0,.int .i64 0,.slice none 0 0,.int .i64 0,.int .i64 0,.slice none 0 0,.slice none 0 0,.slice none 0 0,.slice none 0 0,.slice none 0 0,.slice none 0 0,.slice none 0 0,.slice none 0 0,.slice none 0 0]) _ 0 (BoxC.new_at _ _ hB6.symm) (Nat.le_refl _)
      have u2:=v2.out.of_ext XQ1
      have c2:=u2.c17
      have l2:=u2.lt
      have W4:=hid (v4.out.of_ext XQ1)
      have W6:=hid q6
      have XQ:=hid XQ1
      have H6:=hid hB6
      refine HK5.out _ _ ?_
      clear HK5 hQ q6 u2 XQ1 v2 v4
      refine wp_seq_k fun K6 hK6=> ?_
      have HK6:=hid hK6
      clear hK6
      go_wp2_with fail
      refine(rSync_any L.A0 L.n0 L.c0 L.A1 L.n1 L.c1 O.d tB tB Q1 (H.out.d.of_ext (X3.out.trans XQ.out))).mono ?_
      rintro e P4 ⟨B0,m0,e0,B1,m1,e1,rfl,hd,x4⟩
      rw[syncD_firm (memOk_facts Hk.out.mo).1] at hd ⊢
      have hs:=HS.out
      have h6:=H6.out
      have q6:=W6.out.of_ext x4
      have q4:=W4.out.of_ext x4
      have hsz:=x4.below.size
      have hsz2:=W6.out.lt
      have Hd:=hid (hd.anc.mono (base':=B6+1) tB)
      have X4:=hid (XQ.out.trans x4)
      have c6:=q6.c17
      have m6:=q6.lt
      have f6:=q6.frozen
      have W4':=hid q4
      have W6':=hid q6
      clear hd x4 q6 q4 c2 l2 W4 W6 hsz hsz2 hs h6
      go_wp2_with fail
      obtain⟨Q2,hQ2⟩:∃ Q2,(((P4.setCell ⟨B6,1,none⟩ (.slice B0 m0 e0)).setCell ⟨B6,2,none⟩ (.int .i64 (firmD O.d).f0.firm)).setCell ⟨B6,3,none⟩ (.slice B1 m1 e1)).setCell ⟨B6,4,none⟩ (.int .i64 (firmD O.d).f1.firm)=Q2:=⟨_,rfl⟩
      simp only[hQ2]
      have hs:=HS.out
      have h6:=H6.out
      have hB:=HB.out
      have h9:BoxC Q2 B6 [.int .i64 O.me,.slice B0 m0 e0,.int .i64 (firmD O.d).f0.firm,.slice B1 m1 e1,.int .i64 (firmD O.d).f1.firm,.slice L3.Am L3.nm L3.cm,.int .i64 O.m.file,.int .i64 O.m.gen,.slice (L3.k 0).A (L3.k 0).n (L3.k 0).c,.slice (L3.k 1).A (L3.k 1).n (L3.k 1).c,.slice (L3.k 2).A (L3.k 2).n (L3.k 2).c,.slice (L3.k 3).A (L3.k 3).n (L3.k 3).c,.slice (L3.k 4).A (L3.k 4).n (L3.k 4).c,.slice (L3.k 5).A (L3.k 5).n (L3.k 5).c,.slice (L3.k 6).A (L3.k 6).n (L3.k 6).c,.slice (L3.k 7).A (L3.k 7).n (L3.k 7).c,.slice (L3.k 8).A (L3.k 8).n (L3.k 8).c] 76:=by rw[←hQ2];exact(((W6'.out.set 1 _).set 2 _).set 3 _).set 4 _
      have h4:BoxC Q2 (B+1) (offC noOff zL) 76:=by rw[←hQ2];exact(((W4'.out.other 1 _ tB).other 2 _ tB).other 3 _ tB).other 4 _ tB
      have X32:Ext P3 Q2:=by rw[←hQ2];exact Ext.box (Ext.box (Ext.box (Ext.box X4.out _ _ tB) _ _ tB) _ _ tB) _ _ tB
      have hdA:DrvA (B6+1) Q2 (firmD O.d) B0 m0 e0 B1 m1 e1:=by rw[←hQ2];exact(((Hd.out.set (Nat.lt_succ_self _)).set (Nat.lt_succ_self _)).set (Nat.lt_succ_self _)).set (Nat.lt_succ_self _)
      have A4:=hid (HU.out.drive X32 (hdA.mono (show B+1+1≤B6+1 by omega)))
      have X5:=hid (X3.out.trans X32)
      have Hown5:=hid (Hown3.out.of_ext X32)
      have l9:rowLen Q2 B6=17:=h9.len
      have r9:rowAt Q2 B6 0 17=[.int .i64 O.me,.slice B0 m0 e0,.int .i64 (firmD O.d).f0.firm,.slice B1 m1 e1,.int .i64 (firmD O.d).f1.firm,.slice L3.Am L3.nm L3.cm,.int .i64 O.m.file,.int .i64 O.m.gen,.slice (L3.k 0).A (L3.k 0).n (L3.k 0).c,.slice (L3.k 1).A (L3.k 1).n (L3.k 1).c,.slice (L3.k 2).A (L3.k 2).n (L3.k 2).c,.slice (L3.k 3).A (L3.k 3).n (L3.k 3).c,.slice (L3.k 4).A (L3.k 4).n (L3.k 4).c,.slice (L3.k 5).A (L3.k 5).n (L3.k 5).c,.slice (L3.k 6).A (L3.k 6).n (L3.k 6).c,.slice (L3.k 7).A (L3.k 7).n (L3.k 7).c,.slice (L3.k 8).A (L3.k 8).n (L3.k 8).c].toArray:=h9.row
      have l4:rowLen Q2 (B+1)=17:=h4.len
      have t4:=h4.lt
      have t9:=h9.lt
      clear hQ2 h9 h4 c6 m6 f6 hs h6 hB X32 hdA
      refine HK6.out _ _ ?_
      clear HK6
      go_wp2_with fail
      have hB:=HB.out
      have h6:=HS.out
      have hl4:=HL4.out.1
      have e1':GO=firmO O:=by have:=HO.out;simpa using this
      have e2':GL=offK O f O.m.recs:=by have:=HL.out;simpa using this
      rw[e1',e2']
      refine bodyPost_ret (ret_ctt rfl rfl (rowLen_setCells.trans l4) (rowAt_setCells_same rfl (Nat.le_of_eq l4.symm)) rfl rfl) rfl ?_
      exact⟨⟨B0,m0,e0,B1,m1,e1,L3.Am,L3.nm,L3.cm,L3.k⟩,A3,n3,c3,rfl,OffRf.mono (base:=B+1+1) (OffRf.cells A4.out tB) tB,MsgsA.mono (MsgsA.cells Hown5.out.msgs tB) tB,Ext.cells _ _ X5.out tB⟩
end Go.Proofs.YtekjdeibnfaehaaGreat
set_option linter.unusedSimpArgs false
set_option linter.unusedVariables false
namespace Go.Proofs.YtekjdeibnfaehaaGreat
open Go Go.RowKit
set_option maxRecDepth 100000 in
set_option maxHeartbeats 16000000 in
theorem rGrant_any(O:OffD)(L:OffL)(w:World)(s t d u:Int)(h:OffY w O L):
 Calls Tryz.prog 43 #[offV O L,.int .i64 s,.int .i64 t,.agg #[.int .i64 d,.int .i64 u]] w fun e w'=> ∃L',e= .returned (.tuple #[offV (grantO O s t d u) L',recV (grantR O s t d u),.int .i64 (grantE O s t d u)])∧OffRf w.heap.size w' (grantO O s t d u) L'∧Ext w w':=by
 have H:=hid h
 clear h
 obtain⟨B,hB⟩:∃ B:Nat,w.heap.size=B:=⟨_,rfl⟩
 have HB:=hid hB
 obtain⟨j,hj⟩:∃ j,grantE O s t d u=j:=⟨_,rfl⟩
 obtain⟨GO,hGO⟩:∃ GO,grantO O s t d u=GO:=⟨_,rfl⟩
 obtain⟨GR,hGR⟩:∃ GR,grantR O s t d u=GR:=⟨_,rfl⟩
 rw[hj,hGO,hGR]
 have HE:=hid hj
 have HO:Hid (GO=if j=0 then firmO (apdO O (leaseR O s t d u)) else noOff):=hid (by rw[←hGO,grantO,hj])
 have HR:Hid (GR=if j=0 then leaseR O s t d u else zeroR):=hid (by rw[←hGR,grantR,hj])
 clear hj hGO hGR hB
 go_enter Tryz.func43,Tryz.ntmps43
 go_wp2_with fail
 refine(rCheckOffice_any O L _ (H.out.of_ext exI)).mono ?_
 rintro e P1 ⟨rfl,x1⟩
 have X1:Hid (Ext w P1):=hid (Ext.trans exI x1)
 have b2:BoxC P1 B (offC O L) 76:=BoxC.of_ext ((((BoxC.new_at _ _ HB.out.symm).alloc _).alloc _).alloc _) x1
 have b3:BoxC P1 (B+1) [.int .i64 d,.int .i64 u] 28:=BoxC.of_ext (((BoxC.new_at _ _ qH).alloc _).alloc _) x1
 have b4:BoxC P1 (B+1+1) (offC noOff zL) 76:=BoxC.of_ext ((BoxC.new_at _ _ qH).alloc _) x1
 have b5:BoxC P1 (B+1+1+1) (recC zeroR) 46:=BoxC.of_ext (BoxC.new_at _ _ qH) x1
 simp only[HB.out]
 have V2:=hid b2
 have V4:=hid b4
 have V5:=hid b5
 have c2:=b2.c17
 have d0:=b3.cell (i:=0) rfl
 have d1:=b3.cell (i:=1) rfl
 have l2:=b2.lt
 have l3:=b3.lt
 have t4:=b4.lt
 have t5:=b5.lt
 have l4:rowLen P1 (B+1+1)=17:=b4.len
 have l5:rowLen P1 (B+1+1+1)=11:=b5.len
 clear x1 b2 b3 b4 b5
 cases ho:offOk O with
 | false=>
  have Hj:Hid (j=76):=hid (by rw[←HE.out,grantE,if_neg qG])
  rw[errOff_no ho]
  clear c2 d0 d1
  go_wp2_with fail
  have hj:=Hj.out
  refine bodyPost_ret (ret_cct rfl rfl (rowLen_setCells.trans (rowLen_setCells.trans l4)) ((rowAt_setCells_off tB).trans (rowAt_setCells_same rfl qF)) rfl (rowLen_setCells.trans (rowLen_setCells.trans l5)) (rowAt_setCells_same rfl qI) rfl) rfl ?_;have hB:=HB.out;have e1:GO=noOff:=qL;have e2:GR=zeroR:=QE;rw[hj,e1,e2];exact⟨zL,rfl,OffRf.zero _ _,Ext.cells _ _ (Ext.cells _ _ X1.out tB) tB⟩
 | true=>
  have Hk:=hid (H.out.ok ho)
  rw[errOff_ok ho]
  cases hs:inB s 1 999 with
  | false=>
   have Hj:Hid (j=1):=hid (by rw[←HE.out,grantE,if_pos ho,if_neg (by rw[hs];simp)])
   go_wp2_with (first|(go_at_call 92;refine(rin_any _ _ _ _).mono ?_;rintro e w1 ⟨rfl,rfl⟩)|(go_at_call 98;refine(risOffice_any _ _).mono ?_;rintro e w1 ⟨rfl,rfl⟩))
   have hj:=Hj.out
   refine bodyPost_ret (ret_cct rfl rfl (rowLen_setCells.trans (rowLen_setCells.trans l4)) ((rowAt_setCells_off tB).trans (rowAt_setCells_same rfl qF)) rfl (rowLen_setCells.trans (rowLen_setCells.trans l5)) (rowAt_setCells_same rfl qI) rfl) rfl ?_;have hB:=HB.out;have e1:GO=noOff:=qL;have e2:GR=zeroR:=QE;rw[hj,e1,e2];exact⟨zL,rfl,OffRf.zero _ _,Ext.cells _ _ (Ext.cells _ _ X1.out tB) tB⟩
  | true=>
   cases ht:inB t 0 8 with
   | false=>
    have Hj:Hid (j=1):=hid (by rw[←HE.out,grantE,if_pos ho,if_neg (by rw[ht];simp)])
    go_wp2_with (first|(go_at_call 92;refine(rin_any _ _ _ _).mono ?_;rintro e w1 ⟨rfl,rfl⟩)|(go_at_call 98;refine(risOffice_any _ _).mono ?_;rintro e w1 ⟨rfl,rfl⟩))
    have hj:=Hj.out
    refine bodyPost_ret (ret_cct rfl rfl (rowLen_setCells.trans (rowLen_setCells.trans l4)) ((rowAt_setCells_off tB).trans (rowAt_setCells_same rfl qF)) rfl (rowLen_setCells.trans (rowLen_setCells.trans l5)) (rowAt_setCells_same rfl qI) rfl) rfl ?_;have hB:=HB.out;have e1:GO=noOff:=qL;have e2:GR=zeroR:=QE;rw[hj,e1,e2];exact⟨zL,rfl,OffRf.zero _ _,Ext.cells _ _ (Ext.cells _ _ X1.out tB) tB⟩
   | true=>
    have HE2:=hid (show(if inB d 0 100000=true∧inB u 0 100000=true then if leasable O (leaseR O s t d u)=true then appE O.d O.m (leaseR O s t d u) else 75 else 6)=j by have e:=HE.out;rw[grantE,if_pos ho,if_pos ⟨hs,ht⟩] at e;exact e)
    clear HE
    cases hd:inB d 0 100000 with
    | false=>
     have Hj:Hid (j=6):=hid (by rw[←HE2.out,if_neg (by rw[hd];simp)])
     go_wp2_with (first|(go_at_call 92;refine(rin_any _ _ _ _).mono ?_;rintro e w1 ⟨rfl,rfl⟩)|(go_at_call 98;refine(risOffice_any _ _).mono ?_;rintro e w1 ⟨rfl,rfl⟩))
     have hj:=Hj.out
     refine bodyPost_ret (ret_cct rfl rfl (rowLen_setCells.trans (rowLen_setCells.trans l4)) ((rowAt_setCells_off tB).trans (rowAt_setCells_same rfl qF)) rfl (rowLen_setCells.trans (rowLen_setCells.trans l5)) (rowAt_setCells_same rfl qI) rfl) rfl ?_;have hB:=HB.out;have e1:GO=noOff:=qL;have e2:GR=zeroR:=QE;rw[hj,e1,e2];exact⟨zL,rfl,OffRf.zero _ _,Ext.cells _ _ (Ext.cells _ _ X1.out tB) tB⟩
    | true=>
     cases hu:inB u 0 100000 with
     | false=>
      have Hj:Hid (j=6):=hid (by rw[←HE2.out,if_neg (by rw[hu];simp)])
      go_wp2_with (first|(go_at_call 92;refine(rin_any _ _ _ _).mono ?_;rintro e w1 ⟨rfl,rfl⟩)|(go_at_call 98;refine(risOffice_any _ _).mono ?_;rintro e w1 ⟨rfl,rfl⟩))
      have hj:=Hj.out
      refine bodyPost_ret (ret_cct rfl rfl (rowLen_setCells.trans (rowLen_setCells.trans l4)) ((rowAt_setCells_off tB).trans (rowAt_setCells_same rfl qF)) rfl (rowLen_setCells.trans (rowLen_setCells.trans l5)) (rowAt_setCells_same rfl qI) rfl) rfl ?_;have hB:=HB.out;have e1:GO=noOff:=qL;have e2:GR=zeroR:=QE;rw[hj,e1,e2];exact⟨zL,rfl,OffRf.zero _ _,Ext.cells _ _ (Ext.cells _ _ X1.out tB) tB⟩
     | true=>
      have HE3:=hid (show(if leasable O (leaseR O s t d u)=true then appE O.d O.m (leaseR O s t d u) else 75)=j by have e:=HE2.out;rw[if_pos ⟨hd,hu⟩] at e;exact e)
      clear HE2
      have hyl:=H.out.l
      go_wp2_with (first|(go_at_call 92;refine(rin_any _ _ _ _).mono ?_;rintro e w1 ⟨rfl,rfl⟩)|(go_at_call 98;refine(risOffice_any _ _).mono ?_;rintro e w1 ⟨rfl,rfl⟩))
      rename_i K5 hK5
      have HK5:=hid hK5
      have hrest:∀ (v0 v3 v7 v16 v17 v18 v21 v22 v23 v24 v25 v26 v27 v28 v31 v32 v33 v34 v35 v36 v37 v38 v39 v40 v43 v44 v45 v46 v47 v48 v49 v50 v51 v52 v53 v54 v55 v56 v57 v58 v59 v60:Value) (B6:Nat) (QW:World),BoxC QW B6 (recC (leaseR O s t d u)) 46→Ext P1 QW→P1.heap.size≤B6→K5 ⟨#[v0,.int .i64 s,.int .i64 t,v3,.pointer (some ⟨B,0,none⟩),undef,undef,v7,.pointer (some ⟨B+1+1,0,none⟩),.pointer (some ⟨B+1+1+1,0,none⟩),.int .i64 0,.pointer (some ⟨B6,0,none⟩),undef,undef,undef,undef,v16,v17,v18,undef,undef,v21,v22,v23,v24,v25,v26,v27,v28,undef,undef,v31,v32,v33,v34,v35,v36,v37,v38,v39,v40,undef,undef,v43,v44,v45,v46,v47,v48,v49,v50,v51,v52,v53,v54,v55,v56,v57,v58,v59,v60,undef,undef,undef,undef,undef,undef,undef,undef,undef,undef,undef,undef,undef,undef,undef,undef,undef,undef,undef,undef,undef,undef,undef,undef,undef,undef,undef,undef,undef,undef,undef,undef,undef,undef,undef,undef,undef,undef,undef,undef,undef,undef,undef,undef,undef,undef,undef,undef,undef,undef,undef,undef,undef,undef,undef,undef,undef,undef,undef,undef,undef,undef,undef,undef,undef,undef,undef,undef,undef],[]⟩ QW:=by
       intro v0 v3 v7 v16 v17 v18 v21 v22 v23 v24 v25 v26 v27 v28 v31 v32 v33 v34 v35 v36 v37 v38 v39 v40 v43 v44 v45 v46 v47 v48 v49 v50 v51 v52 v53 v54 v55 v56 v57 v58 v59 v60 B6 QW b6 XW hle
       clear hK5
       have X2:=hid (X1.out.trans XW)
       have v2:=V2.out.of_ext XW
       have v4:=V4.out.of_ext XW
       have v5:=V5.out.of_ext XW
       have U2:=hid v2
       have U4:=hid v4
       have U5:=hid v5
       have U6:=hid b6
       have c6:=b6.c11
       have l6:=b6.lt
       have t4:=v4.lt
       have t5:=v5.lt
       have n4:¬ (B6=B+1+1):=by omega
       have n5:¬ (B6=B+1+1+1):=by omega
       have l4:rowLen QW (B+1+1)=17:=v4.len
       have l5:rowLen QW (B+1+1+1)=11:=v5.len
       have HZ:=hid (show B+1+1+1<P1.heap.size∧P1.heap.size≤B6 from⟨V5.out.lt,hle⟩)
       clear c2 d0 d1 l2 l3 V2 V4 V5 v2 v4 v5 b6 XW hle X1
       have X1:=X2
       refine HK5.out _ _ ?_
       clear HK5
       go_wp2_with fail
       refine(rCheckRecord_any (leaseR O s t d u) _ (show(0:Nat)≤_ by decide)).mono ?_
       rintro e P2 ⟨rfl,x2⟩
       have X2:=hid (X1.out.trans x2)
       have v2:=U2.out.of_ext x2
       have v4:=U4.out.of_ext x2
       have v5:=U5.out.of_ext x2
       have v6:=U6.out.of_ext x2
       have V2:=hid v2
       have V4:=hid v4
       have V5:=hid v5
       have V6:=hid v6
       have c2:=v2.c17
       have c6:=v6.c11
       have l2:=v2.lt
       have l6:=v6.lt
       have t4:=v4.lt
       have t5:=v5.lt
       have l4:rowLen P2 (B+1+1)=17:=v4.len
       have l5:rowLen P2 (B+1+1+1)=11:=v5.len
       clear x2 v2 v4 v5 v6 U2 U4 U5 U6 X1
       have X1:=X2
       cases hrk:recOk (leaseR O s t d u) with
       | false=>
        have Hj:Hid (j=75):=hid (by rw[←HE3.out,leasable_ref,hrk];rfl)
        have he:errRec (leaseR O s t d u)=70:=by rw[errRec,hrk];rfl
        rw[he]
        go_wp2_with fail
        have hj:=Hj.out
        refine bodyPost_ret (ret_cct rfl rfl (rowLen_setCells.trans (rowLen_setCells.trans l4)) ((rowAt_setCells_off tB).trans (rowAt_setCells_same rfl qF)) rfl (rowLen_setCells.trans (rowLen_setCells.trans l5)) (rowAt_setCells_same rfl qI) rfl) rfl ?_;have hB:=HB.out;have e1:GO=noOff:=qL;have e2:GR=zeroR:=QE;rw[hj,e1,e2];exact⟨zL,rfl,OffRf.zero _ _,Ext.cells _ _ (Ext.cells _ _ X1.out tB) tB⟩
       | true=>
        have he:errRec (leaseR O s t d u)=0:=by rw[errRec,hrk];rfl
        have HL:Hid (leasable O (leaseR O s t d u)= !O.m.recs.any (leaseOn (leaseR O s t d u))):=hid (by rw[leasable_ref,hrk,Bool.true_and])
        rw[he]
        have hr:=H.out.r.of_ext X1.out
        have h80:=Hk.out.sm
        clear he hrk
        go_wp2_with fail
        go_loopw [13] (fun i wr=> ∃k:Nat,k≤L.nm∧i= .int .i64 k∧Ext P2 wr∧Hid (∀q (hq:q<O.m.recs.length),q<k→leaseOn (leaseR O s t d u) O.m.recs[q]=false)) (fun i _=>L.nm-(intOf i).toNat)
        case atStart=>exact⟨0,Nat.zero_le _,rfl,Ext.refl _,hid fun q _ hq=>absurd hq (Nat.not_lt_zero q)⟩
        case round=>
         obtain⟨k,hk,rfl,⟨E0,e0,rfl⟩,hno⟩:=hrel
         by_cases hlt:k<L.nm
         ·have hm:k<O.m.recs.length:=by omega
          have hki:(k:Int)<L.nm:=by omega
          obtain⟨g,of,hAm,hg⟩:=hr.addr tB
          have hr2:=hr
          rw[hAm] at hr2
          have hrow:=hr2.row hm
          have c64:P2.cell? ⟨B6,4,none⟩=some (.int .i64 d):=V6.out.cell (i:=4) rfl
          have c69:P2.cell? ⟨B6,9,none⟩=some (.int .i64 u):=V6.out.cell (i:=9) rfl
          have HT:=hid (show B+1+1<P2.heap.size∧B+1+1+1<P2.heap.size from⟨t4,t5⟩)
          clear c2 c6 l2 t4 t5 l4 l5
          obtain⟨x,hx⟩:∃ x,O.m.recs[k]=x:=⟨_,rfl⟩
          rw[hx] at hrow
          obtain⟨h0,h1,h2,h3,h4,h5,h6,h7,h8,h9,h10⟩:=hrow
          have Hx:=hid hx
          have hnext:leaseOn (leaseR O s t d u) x=false→Hid (∀q (hq:q<O.m.recs.length),q<k+1→leaseOn (leaseR O s t d u) O.m.recs[q]=false):=fun h=>hid fun q hq h2=>by
           by_cases hc:q=k
           ·subst hc;rw[Hx.out];exact h
           ·exact hno.out q hq tB
          have hno1:=hnext
          rw[hAm]
          clear hAm hx hr2 hnext h0 h1 h5 h6 h7 h8 h10
          by_cases q1:x.kind=1
          rotate_left
          ·have Hn:=hno1 (leaseOn_no1 q1)
           have b1:(x.kind==1)=false:=by simpa using q1
           clear hno1 hno
           go_wp2_with fail
           refine wp_region_ord_same (.f 0 (.f 1 (.f 2 (.f 3 (.f 4 (.f 5 (.f 6 (.f 7 (.f 8 (.f 9 (.f 10 (.f 11 (.f 12 (.f 13 (.f 14 (.f 15 (.f 16 (.f 17 (.f 18 (.f 19 (.f 20 (.f 21 (.f 22 (.f 23 (.f 24 (.f 25 (.f 26 (.f 27 (.f 28 (.f 29 (.f 30 (.f 31 (.f 32 (.f 33 (.f 34 .d))))))))))))))))))))))))))))))))))) tG tG ?_
           iterate 7 (refine oF ?_)
           refine ord_bool (j:=6) rfl (fun hb6=> ?_) (fun hb6=> ?_)
           rotate_left
           focus
            try(exfalso;first|(simp at hb6;done)|(simp at hb6;omega))
            all_goals
             (try simp only[hb6])
             iterate 7 (refine oP ?_)
             iterate 2 (refine oF ?_)
             iterate 8 (refine oP ?_)
             iterate 2 (refine oF ?_)
             iterate 8 (refine oP ?_)
             refine oF ?_
             refine wpOrd_nil ?_
           rotate_right
           focus
            try(exfalso;first|(simp at hb6;done)|(simp at hb6;omega))
            all_goals
             (try simp only[hb6])
             iterate 9 (refine oF ?_)
             refine ord_bool (j:=15) rfl (fun hb15=> ?_) (fun hb15=> ?_)
             rotate_left
             focus
              try(exfalso;first|(simp at hb15;done)|(simp at hb15;omega))
              all_goals
               (try simp only[hb15])
               iterate 8 (refine oP ?_)
               iterate 2 (refine oF ?_)
               iterate 8 (refine oP ?_)
               refine oF ?_
               refine wpOrd_nil ?_
             rotate_right
             focus
              try(exfalso;first|(simp at hb15;done)|(simp at hb15;omega))
              all_goals
               (try simp only[hb15])
               iterate 10 (refine oF ?_)
               refine ord_bool (j:=25) rfl (fun hb25=> ?_) (fun hb25=> ?_)
               rotate_left
               focus
                try(exfalso;first|(simp at hb25;done)|(simp at hb25;omega))
                all_goals
                 (try simp only[hb25])
                 iterate 8 (refine oP ?_)
                 refine oF ?_
                 refine wpOrd_nil ?_
               rotate_right
               focus
                try(exfalso;first|(simp at hb25;done)|(simp at hb25;omega))
                all_goals
                 (try simp only[hb25])
                 iterate 9 (refine oF ?_)
                 refine wpOrd_nil ?_
           repeat(first|go_values|go_skip|go_guarded|go_step|go_upon|go_back)
           exact⟨⟨k+1,by omega,by go_num,exI,Hn⟩,by simp[intOf];omega⟩
          ·have b1:(x.kind==1)=true:=by simpa using q1
           have q1a:1≤x.kind:=by omega
           have q1b:x.kind≤1:=by omega
           by_cases q2:x.ship=s
           rotate_left
           ·have Hn:=hno1 (leaseOn_no2 q2)
            have b2:(x.ship==s)=false:=by simpa using q2
            clear hno1 hno q1
            go_wp2_with fail
            refine wp_region_ord_same (.f 0 (.f 1 (.f 2 (.f 3 (.f 4 (.f 5 (.f 6 (.f 7 (.f 8 (.f 9 (.f 10 (.f 11 (.f 12 (.f 13 (.f 14 (.f 15 (.f 16 (.f 17 (.f 18 (.f 19 (.f 20 (.f 21 (.f 22 (.f 23 (.f 24 (.f 25 (.f 26 (.f 27 (.f 28 (.f 29 (.f 30 (.f 31 (.f 32 (.f 33 (.f 34 .d))))))))))))))))))))))))))))))))))) tG tG ?_
            iterate 7 (refine oF ?_)
            refine ord_bool (j:=6) rfl (fun hb6=> ?_) (fun hb6=> ?_)
            rotate_left
            focus
             try(exfalso;first|(simp at hb6;done)|(simp at hb6;omega))
             all_goals
              (try simp only[hb6])
              iterate 7 (refine oP ?_)
              iterate 2 (refine oF ?_)
              iterate 8 (refine oP ?_)
              iterate 2 (refine oF ?_)
              iterate 8 (refine oP ?_)
              refine oF ?_
              refine wpOrd_nil ?_
            rotate_right
            focus
             try(exfalso;first|(simp at hb6;done)|(simp at hb6;omega))
             all_goals
              (try simp only[hb6])
              iterate 9 (refine oF ?_)
              refine ord_bool (j:=15) rfl (fun hb15=> ?_) (fun hb15=> ?_)
              rotate_left
              focus
               try(exfalso;first|(simp at hb15;done)|(simp at hb15;omega))
               all_goals
                (try simp only[hb15])
                iterate 8 (refine oP ?_)
                iterate 2 (refine oF ?_)
                iterate 8 (refine oP ?_)
                refine oF ?_
                refine wpOrd_nil ?_
              rotate_right
              focus
               try(exfalso;first|(simp at hb15;done)|(simp at hb15;omega))
               all_goals
                (try simp only[hb15])
                iterate 10 (refine oF ?_)
                refine ord_bool (j:=25) rfl (fun hb25=> ?_) (fun hb25=> ?_)
                rotate_left
                focus
                 try(exfalso;first|(simp at hb25;done)|(simp at hb25;omega))
                 all_goals
                  (try simp only[hb25])
                  iterate 8 (refine oP ?_)
                  refine oF ?_
                  refine wpOrd_nil ?_
                rotate_right
                focus
                 try(exfalso;first|(simp at hb25;done)|(simp at hb25;omega))
                 all_goals
                  (try simp only[hb25])
                  iterate 9 (refine oF ?_)
                  refine wpOrd_nil ?_
            repeat(first|go_values|go_skip|go_guarded|go_step|go_upon|go_back)
            exact⟨⟨k+1,by omega,by go_num,exI,Hn⟩,by simp[intOf];omega⟩
           ·have b2:(x.ship==s)=true:=by simpa using q2
            have q2a:s≤x.ship:=by omega
            have q2b:x.ship≤s:=by omega
            by_cases q3:x.day≤u
            rotate_left
            ·have Hn:=hno1 (leaseOn_no3 q3)
             have q3':u<x.day:=by omega
             clear hno1 q1 q2 hno
             go_wp2_with fail
             refine wp_region_ord_same (.f 0 (.f 1 (.f 2 (.f 3 (.f 4 (.f 5 (.f 6 (.f 7 (.f 8 (.f 9 (.f 10 (.f 11 (.f 12 (.f 13 (.f 14 (.f 15 (.f 16 (.f 17 (.f 18 (.f 19 (.f 20 (.f 21 (.f 22 (.f 23 (.f 24 (.f 25 (.f 26 (.f 27 (.f 28 (.f 29 (.f 30 (.f 31 (.f 32 (.f 33 (.f 34 .d))))))))))))))))))))))))))))))))))) tG tG ?_
             iterate 7 (refine oF ?_)
             refine ord_bool (j:=6) rfl (fun hb6=> ?_) (fun hb6=> ?_)
             rotate_left
             focus
              try(exfalso;first|(simp at hb6;done)|(simp at hb6;omega))
              all_goals
               (try simp only[hb6])
               iterate 7 (refine oP ?_)
               iterate 2 (refine oF ?_)
               iterate 8 (refine oP ?_)
               iterate 2 (refine oF ?_)
               iterate 8 (refine oP ?_)
               refine oF ?_
               refine wpOrd_nil ?_
             rotate_right
             focus
              try(exfalso;first|(simp at hb6;done)|(simp at hb6;omega))
              all_goals
               (try simp only[hb6])
               iterate 9 (refine oF ?_)
               refine ord_bool (j:=15) rfl (fun hb15=> ?_) (fun hb15=> ?_)
               rotate_left
               focus
                try(exfalso;first|(simp at hb15;done)|(simp at hb15;omega))
                all_goals
                 (try simp only[hb15])
                 iterate 8 (refine oP ?_)
                 iterate 2 (refine oF ?_)
                 iterate 8 (refine oP ?_)
                 refine oF ?_
                 refine wpOrd_nil ?_
               rotate_right
               focus
                try(exfalso;first|(simp at hb15;done)|(simp at hb15;omega))
                all_goals
                 (try simp only[hb15])
                 iterate 10 (refine oF ?_)
                 refine ord_bool (j:=25) rfl (fun hb25=> ?_) (fun hb25=> ?_)
                 rotate_left
                 focus
                  try(exfalso;first|(simp at hb25;done)|(simp at hb25;omega))
                  all_goals
                   (try simp only[hb25])
                   iterate 8 (refine oP ?_)
                   refine oF ?_
                   refine wpOrd_nil ?_
                 rotate_right
                 focus
                  try(exfalso;first|(simp at hb25;done)|(simp at hb25;omega))
                  all_goals
                   (try simp only[hb25])
                   iterate 9 (refine oF ?_)
                   refine wpOrd_nil ?_
             repeat(first|go_values|go_skip|go_guarded|go_step|go_upon|go_back)
             exact⟨⟨k+1,by omega,by go_num,exI,Hn⟩,by simp[intOf];omega⟩
            ·by_cases q4:d≤x.til
             rotate_left
             ·have Hn:=hno1 (leaseOn_no4 q4)
              have q4':x.til<d:=by omega
              clear hno1 q1 q2 hno
              go_wp2_with fail
              refine wp_region_ord_same (.f 0 (.f 1 (.f 2 (.f 3 (.f 4 (.f 5 (.f 6 (.f 7 (.f 8 (.f 9 (.f 10 (.f 11 (.f 12 (.f 13 (.f 14 (.f 15 (.f 16 (.f 17 (.f 18 (.f 19 (.f 20 (.f 21 (.f 22 (.f 23 (.f 24 (.f 25 (.f 26 (.f 27 (.f 28 (.f 29 (.f 30 (.f 31 (.f 32 (.f 33 (.f 34 .d))))))))))))))))))))))))))))))))))) tG tG ?_
              iterate 7 (refine oF ?_)
              refine ord_bool (j:=6) rfl (fun hb6=> ?_) (fun hb6=> ?_)
              rotate_left
              focus
               try(exfalso;first|(simp at hb6;done)|(simp at hb6;omega))
               all_goals
                (try simp only[hb6])
                iterate 7 (refine oP ?_)
                iterate 2 (refine oF ?_)
                iterate 8 (refine oP ?_)
                iterate 2 (refine oF ?_)
                iterate 8 (refine oP ?_)
                refine oF ?_
                refine wpOrd_nil ?_
              rotate_right
              focus
               try(exfalso;first|(simp at hb6;done)|(simp at hb6;omega))
               all_goals
                (try simp only[hb6])
                iterate 9 (refine oF ?_)
                refine ord_bool (j:=15) rfl (fun hb15=> ?_) (fun hb15=> ?_)
                rotate_left
                focus
                 try(exfalso;first|(simp at hb15;done)|(simp at hb15;omega))
                 all_goals
                  (try simp only[hb15])
                  iterate 8 (refine oP ?_)
                  iterate 2 (refine oF ?_)
                  iterate 8 (refine oP ?_)
                  refine oF ?_
                  refine wpOrd_nil ?_
                rotate_right
                focus
                 try(exfalso;first|(simp at hb15;done)|(simp at hb15;omega))
                 all_goals
                  (try simp only[hb15])
                  iterate 10 (refine oF ?_)
                  refine ord_bool (j:=25) rfl (fun hb25=> ?_) (fun hb25=> ?_)
                  rotate_left
                  focus
                   try(exfalso;first|(simp at hb25;done)|(simp at hb25;omega))
                   all_goals
                    (try simp only[hb25])
                    iterate 8 (refine oP ?_)
                    refine oF ?_
                    refine wpOrd_nil ?_
                  rotate_right
                  focus
                   try(exfalso;first|(simp at hb25;done)|(simp at hb25;omega))
                   all_goals
                    (try simp only[hb25])
                    iterate 9 (refine oF ?_)
                    refine wpOrd_nil ?_
              repeat(first|go_values|go_skip|go_guarded|go_step|go_upon|go_back)
              exact⟨⟨k+1,by omega,by go_num,exI,Hn⟩,by simp[intOf];omega⟩
             ·have hyes:=leaseOn_yes (r:=leaseR O s t d u) q1 q2 q3 q4
              have Hj:Hid (j=75):=hid (by rw[←HE3.out,HL.out,any_hit hm (by rw[Hx.out];exact hyes)];rfl)
              have ht:=HT.out
              have l4:rowLen P2 (B+1+1)=17:=V4.out.len
              have l5:rowLen P2 (B+1+1+1)=11:=V5.out.len
              have t4:=ht.1
              have t5:=ht.2
              clear hno1 q1 q2 hno hyes ht
              go_wp2_with fail
              refine wp_region_ord_same (.f 0 (.f 1 (.f 2 (.f 3 (.f 4 (.f 5 (.f 6 (.f 7 (.f 8 (.f 9 (.f 10 (.f 11 (.f 12 (.f 13 (.f 14 (.f 15 (.f 16 (.f 17 (.f 18 (.f 19 (.f 20 (.f 21 (.f 22 (.f 23 (.f 24 (.f 25 (.f 26 (.f 27 (.f 28 (.f 29 (.f 30 (.f 31 (.f 32 (.f 33 (.f 34 .d))))))))))))))))))))))))))))))))))) tG tG ?_
              iterate 7 (refine oF ?_)
              refine ord_bool (j:=6) rfl (fun hb6=> ?_) (fun hb6=> ?_)
              rotate_left
              focus
               try(exfalso;first|(simp at hb6;done)|(simp at hb6;omega))
               all_goals
                (try simp only[hb6])
                iterate 7 (refine oP ?_)
                iterate 2 (refine oF ?_)
                iterate 8 (refine oP ?_)
                iterate 2 (refine oF ?_)
                iterate 8 (refine oP ?_)
                refine oF ?_
                refine wpOrd_nil ?_
              rotate_right
              focus
               try(exfalso;first|(simp at hb6;done)|(simp at hb6;omega))
               all_goals
                (try simp only[hb6])
                iterate 9 (refine oF ?_)
                refine ord_bool (j:=15) rfl (fun hb15=> ?_) (fun hb15=> ?_)
                rotate_left
                focus
                 try(exfalso;first|(simp at hb15;done)|(simp at hb15;omega))
                 all_goals
                  (try simp only[hb15])
                  iterate 8 (refine oP ?_)
                  iterate 2 (refine oF ?_)
                  iterate 8 (refine oP ?_)
                  refine oF ?_
                  refine wpOrd_nil ?_
                rotate_right
                focus
                 try(exfalso;first|(simp at hb15;done)|(simp at hb15;omega))
                 all_goals
                  (try simp only[hb15])
                  iterate 10 (refine oF ?_)
                  refine ord_bool (j:=25) rfl (fun hb25=> ?_) (fun hb25=> ?_)
                  rotate_left
                  focus
                   try(exfalso;first|(simp at hb25;done)|(simp at hb25;omega))
                   all_goals
                    (try simp only[hb25])
                    iterate 8 (refine oP ?_)
                    refine oF ?_
                    refine wpOrd_nil ?_
                  rotate_right
                  focus
                   try(exfalso;first|(simp at hb25;done)|(simp at hb25;omega))
                   all_goals
                    (try simp only[hb25])
                    iterate 9 (refine oF ?_)
                    refine wpOrd_nil ?_
              go_wp2_with fail
              have hj:=Hj.out
              have XE:Ext w (P2.ext E0 (e0+1)):=X1.out.trans ⟨_,_,rfl⟩
              have l4:rowLen (P2.ext E0 (e0+1)) (B+1+1)=17:=(V4.out.of_ext ⟨_,_,rfl⟩).len
              have l5:rowLen (P2.ext E0 (e0+1)) (B+1+1+1)=11:=(V5.out.of_ext ⟨_,_,rfl⟩).len
              have X1:=hid XE
              refine bodyPost_ret (ret_cct rfl rfl (rowLen_setCells.trans (rowLen_setCells.trans l4)) ((rowAt_setCells_off tB).trans (rowAt_setCells_same rfl qF)) rfl (rowLen_setCells.trans (rowLen_setCells.trans l5)) (rowAt_setCells_same rfl qI) rfl) rfl ?_;have hB:=HB.out;have e1:GO=noOff:=qL;have e2:GR=zeroR:=QE;rw[hj,e1,e2];exact⟨zL,rfl,OffRf.zero _ _,Ext.cells _ _ (Ext.cells _ _ X1.out tB) tB⟩
         ·have hki:¬ ((k:Int)<L.nm):=by omega
          have hyl2:=H.out.l
          have hun:Hid (appE O.d O.m (leaseR O s t d u)=j):=hid (by rw[←HE3.out,if_pos (by rw[HL.out,any_none fun q hq=>hno.out q hq tB];rfl)])
          obtain⟨P3,hP3⟩:∃ P3,P2.ext E0 e0=P3:=⟨_,rfl⟩
          have XE:Ext P2 P3:=by rw[←hP3];exact⟨_,_,rfl⟩
          simp only[hP3]
          have X3:=hid (X1.out.trans XE)
          have v2:=V2.out.of_ext XE
          have v4:=V4.out.of_ext XE
          have v5:=V5.out.of_ext XE
          have v6:=V6.out.of_ext XE
          have U4:=hid v4
          have U5:=hid v5
          have U6:=hid v6
          have e2:=v2.c17
          have e6:=v6.c11
          have k2:=v2.lt
          have k6:=v6.lt
          clear hP3 XE c2 c6 l2 l6 t4 t5 l4 l5 v2 v4 v5 v6 V2 V4 V5 V6 X1 hno hr
          have X1:=X3
          go_wp2_with fail
          refine(rWritten_any O L P3 (leaseR O s t d u) (H.out.of_ext X1.out) ho (show(0:Nat)≤_ by decide)).mono ?_
          rintro e P4 ⟨L3,rfl,hU,x4⟩
          rw[hun.out]
          have hB:=HB.out
          have hZ:=HZ.out
          have v4:=U4.out.of_ext x4
          have v5:=U5.out.of_ext x4
          have v6:=U6.out.of_ext x4
          have V4:=hid v4
          have V5:=hid v5
          have V6:=hid v6
          have X4:=hid (X1.out.trans x4)
          have HU:=hid (hU.mono (base':=B+1+1+1+1) (by have:=U5.out.lt;omega))
          have H56:=hid (show B6<P4.heap.size∧B+1+1+1<P4.heap.size from⟨v6.lt,v5.lt⟩)
          have n4:¬ (P4.heap.size=B+1+1):=by have:=v5.lt;omega
          have n5:¬ (P4.heap.size=B+1+1+1):=by have:=v5.lt;omega
          have n6:¬ (P4.heap.size=B6):=by have:=v6.lt;omega
          rename_i K7 hK7 K4 hK4
          have HK7:=hid hK7
          clear hK7 e2 e6 k2 k6 x4 hU v4 v5 v6 U4 U5 U6 X1 hB hZ hki
          go_wp2_with fail
          obtain⟨B9,hB9⟩:∃ B9,P4.heap.size=B9:=⟨_,rfl⟩
          simp only[hB9]
          obtain⟨Q1,hQ⟩:∃ Q1,(P4.alloc (.cells #[.int .i64 0,.slice none 0 0,.int .i64 0,.slice none 0 0,.int .i64 0,.slice none 0 0,.int .i64 0,.int .i64 0,.slice none 0 0,.slice none 0 0,.slice none 0 0,.slice none 0 0,.slice none 0 0,.slice none 0 0,.slice none 0 0,.slice none 0 0,.slice none 0 0] 76)).setCells B9 0 (offC (apO O (leaseR O s t d u)) L3)=Q1:=⟨_,rfl⟩
          simp only[hQ]
          have XQ:Ext P4 Q1:=by rw[←hQ];exact Ext.cells _ _ (Ext.alloc (Ext.refl _) _) tB
          have p9:BoxC Q1 B9 (offC (apO O (leaseR O s t d u)) L3) 76:=by rw[←hQ];exact BoxC.cells (cs:=[.int .i64 0,.slice none 0 0,.int .i64 0,.slice none 0 0,.int .i64 0,.slice none 0 0,.int .i64 0,.int .i64 0,.slice none 0 0,.slice none 0 0,.slice none 0 0,.slice none 0 0,.slice none 0 0,.slice none 0 0,.slice none 0 0,.slice none 0 0,.slice none 0 0]) _ 0 (BoxC.new_at _ _ hB9.symm) (Nat.le_refl _)
          have u4:=V4.out.of_ext XQ
          have u5:=V5.out.of_ext XQ
          have u6:=V6.out.of_ext XQ
          have Qx:=hid XQ
          have H9:=hid hB9
          have l4:rowLen Q1 (B+1+1)=17:=u4.len
          have l5:rowLen Q1 (B+1+1+1)=11:=u5.len
          have t4:=u4.lt
          have t5:=u5.lt
          refine HK7.out _ _ ?_
          clear HK7 hQ hB9 XQ n4 n5 n6
          by_cases hj0:j=0
          ·have hap:apO O (leaseR O s t d u)=apdO O (leaseR O s t d u):=by rw[apO,if_pos (hun.out.trans hj0)]
           have Hdr:=hid (syncD_firm (apd_drive Hk.out.mo (hun.out.trans hj0)))
           have Hlen:=hid (apd_len Hk.out.mo (hun.out.trans hj0))
           rw[hap] at p9 HU
           have Hap:=hid hap
           have c9:=p9.c17
           have k9:=p9.lt
           have W4:=hid u4
           have W5:=hid u5
           have W6:=hid u6
           have W9:=hid p9
           subst hj0
           clear hap p9 u4 u5 u6 l4 l5 t4 t5
           rw[Hap.out]
           go_wp2_with fail
           have hlen:=Hlen.out
           have hUd:=HU.out.d.read.of_ext Qx.out
           have hd0:=hUd.l0
           have hd1:=hUd.l1
           refine(rSync_any _ _ _ _ _ _ (apdO O (leaseR O s t d u)).d (by rw[←hd0];exact Nat.le_trans hlen.1 tN) (by rw[←hd1];exact Nat.le_trans hlen.2 tN) Q1 hUd).mono ?_
           rintro e P5 ⟨B0,m0,g0,B1,m1,g1,rfl,hd,x5⟩
           rw[show syncD (apdO O (leaseR O s t d u)).d=firmD (apdO O (leaseR O s t d u)).d from Hdr.out] at hd ⊢
           have h9:=H9.out
           have h56:=H56.out
           have q9:=W9.out.of_ext x5
           have q4:=W4.out.of_ext x5
           have q5:=W5.out.of_ext x5
           have q6:=W6.out.of_ext x5
           have hs5:=W9.out.lt
           have Hd:=hid (hd.anc.mono (base':=B9+1) tB)
           have X5:=hid (Qx.out.trans x5)
           have e9:=q9.c17
           have m9:=q9.lt
           have f9:=q9.frozen
           have Y4:=hid q4
           have Y5:=hid q5
           have Y6:=hid q6
           have Y9:=hid q9
           rename_i K8 hK8 K4 hK4
           have HK8:=hid hK8
           clear hK8 hd x5 q9 q4 q5 q6 c9 k9 W4 W5 W6 W9 hlen hUd hd0 hd1 h9 h56 hs5
           go_wp2_with fail
           obtain⟨Q2,hQ2⟩:∃ Q2,(((P5.setCell ⟨B9,1,none⟩ (.slice B0 m0 g0)).setCell ⟨B9,2,none⟩ (.int .i64 (firmD (apdO O (leaseR O s t d u)).d).f0.firm)).setCell ⟨B9,3,none⟩ (.slice B1 m1 g1)).setCell ⟨B9,4,none⟩ (.int .i64 (firmD (apdO O (leaseR O s t d u)).d).f1.firm)=Q2:=⟨_,rfl⟩
           simp only[hQ2]
           have h9:=H9.out
           have h56:=H56.out
           have z9:BoxC Q2 B9 [.int .i64 O.me,.slice B0 m0 g0,.int .i64 (firmD (apdO O (leaseR O s t d u)).d).f0.firm,.slice B1 m1 g1,.int .i64 (firmD (apdO O (leaseR O s t d u)).d).f1.firm,.slice L3.Am L3.nm L3.cm,.int .i64 (apdO O (leaseR O s t d u)).m.file,.int .i64 (apdO O (leaseR O s t d u)).m.gen,.slice (L3.k 0).A (L3.k 0).n (L3.k 0).c,.slice (L3.k 1).A (L3.k 1).n (L3.k 1).c,.slice (L3.k 2).A (L3.k 2).n (L3.k 2).c,.slice (L3.k 3).A (L3.k 3).n (L3.k 3).c,.slice (L3.k 4).A (L3.k 4).n (L3.k 4).c,.slice (L3.k 5).A (L3.k 5).n (L3.k 5).c,.slice (L3.k 6).A (L3.k 6).n (L3.k 6).c,.slice (L3.k 7).A (L3.k 7).n (L3.k 7).c,.slice (L3.k 8).A (L3.k 8).n (L3.k 8).c] 76:=by rw[←hQ2];exact(((Y9.out.set 1 _).set 2 _).set 3 _).set 4 _
           have z4:BoxC Q2 (B+1+1) (offC noOff zL) 76:=by rw[←hQ2];exact(((Y4.out.other 1 _ tB).other 2 _ tB).other 3 _ tB).other 4 _ tB
           have z5:BoxC Q2 (B+1+1+1) (recC zeroR) 46:=by rw[←hQ2];exact(((Y5.out.other 1 _ tB).other 2 _ tB).other 3 _ tB).other 4 _ tB
           have z6:BoxC Q2 B6 (recC (leaseR O s t d u)) 46:=by rw[←hQ2];exact(((Y6.out.other 1 _ tB).other 2 _ tB).other 3 _ tB).other 4 _ tB
           have X42:Ext P4 Q2:=by rw[←hQ2];exact Ext.box (Ext.box (Ext.box (Ext.box X5.out _ _ tB) _ _ tB) _ _ tB) _ _ tB
           have hdA:DrvA (B9+1) Q2 (firmD (apdO O (leaseR O s t d u)).d) B0 m0 g0 B1 m1 g1:=by rw[←hQ2];exact(((Hd.out.set (Nat.lt_succ_self _)).set (Nat.lt_succ_self _)).set (Nat.lt_succ_self _)).set (Nat.lt_succ_self _)
           have A4:=hid (HU.out.drive X42 (hdA.mono (show B+1+1+1+1≤B9+1 by omega)))
           have X6:=hid (X4.out.trans X42)
           have c9:=z9.c17
           have k9:=z9.lt
           have c6:=z6.c11
           have k6:=z6.lt
           have t4:=z4.lt
           have t5:=z5.lt
           have l4:rowLen Q2 (B+1+1)=17:=z4.len
           have l5:rowLen Q2 (B+1+1+1)=11:=z5.len
           have i1:¬ (B9=B+1+1):=by omega
           have i2:¬ (B9=B+1+1+1):=by omega
           have i3:¬ (B6=B+1+1):=by have:=HZ.out;omega
           have i4:¬ (B6=B+1+1+1):=by have:=HZ.out;omega
           refine HK8.out _ _ ?_
           clear HK8 hQ2 h9 h56 z9 z4 z5 z6 X42 hdA e9 m9 f9 Y4 Y5 Y6 Y9
           go_wp2_with fail
           refine wp_region_ord (.f 0 (.f 1 (.a 2 (.a 3 (.f 4 .d))))) (Kept (Q2) (B+1+1) (B+1+1+1)) tG tG (Kept.refl _ _ _).drew ?_
           refine oT ?_
           refine oG ?_
           refine oG ?_
           refine oT ?_
           refine wpOrd_nil ?_
           go_wp2_with fail
           have hB:=HB.out
           have e1:GO=firmO (apdO O (leaseR O s t d u)):=by have:=HO.out;simpa using this
           have e2:GR=leaseR O s t d u:=by have:=HR.out;simpa using this
           rw[e1,e2]
           refine bodyPost_ret (ret_cct rfl rfl qa ((rowAt_setCells_off tB).trans (rowAt_setCells_same rfl qS)) rfl qb (rowAt_setCells_same rfl qc) rfl) rfl ?_
           exact⟨⟨B0,m0,g0,B1,m1,g1,L3.Am,L3.nm,L3.cm,L3.k⟩,rfl,OffRf.mono (base:=B+1+1+1+1) (OffRf.cells (OffRf.cells (OffRf.drew A4.out) tB) tB) tB,Ext.cells _ _ (Ext.cells _ _ (Ext.drew X6.out) tB) tB⟩
          ·have hj2:(j != 0)=true:=by simpa using hj0
           clear p9 u4 u5 u6
           go_wp2_with fail
           refine bodyPost_ret (ret_cct rfl rfl (rowLen_setCells.trans (rowLen_setCells.trans l4)) ((rowAt_setCells_off tB).trans (rowAt_setCells_same rfl qF)) rfl (rowLen_setCells.trans (rowLen_setCells.trans l5)) (rowAt_setCells_same rfl qI) rfl) rfl ?_
           have hB:=HB.out
           have e1:GO=noOff:=by have:=HO.out;rw[if_neg hj0] at this;exact this
           have e2:GR=zeroR:=by have:=HR.out;rw[if_neg hj0] at this;exact this
           rw[e1,e2]
           exact⟨zL,rfl,OffRf.zero _ _,Ext.cells _ _ (Ext.cells _ _ (X4.out.trans Qx.out) tB) tB⟩
      clear HK5 hK5
      have fb2:=far2 l2
      have fb3:=far2 l3
      refine wp_region_ord (.f 0 (.f 1 (.f 2 (.f 3 (.f 4 (.f 5 (.f 6 (.f 9 (.f 10 (.f 11 (.f 12 (.f 13 (.f 14 (.f 15 (.f 16 (.k 7 (.f 8 (.f 17 (.a 18 (.a 19 .d)))) 18 (.a 7 (.f 8 (.f 17 (.a 19 .d)))))))))))))))))))) (Kept (P1) (P1.heap.size) (P1.heap.size)) tG tG (Kept.refl _ _ _).drew ?_
      refine oT ?_
      refine wpOrd_fork ?_ ?_
      focus
       refine wpOrd_call rfl rfl rfl Tryz.call105 (fun R hR=> ?_)
       go_simp
       refine(rnext_x O L hyl Hk.out _ ((H.out.r.of_ext X1.out).of_ext exI)).mono ?_
       rintro e w1 ⟨rfl,E1,d1,rfl⟩
       refine hR _ _ ⟨_,rfl,?_,?_⟩
       ·exact qm
       clear hR R
       simp only[Act.put,zp]
       refine oT ?_
       refine oG ?_
       refine oG ?_
       refine wpOrd_nil ?_
      rotate_right
      focus
       refine oG ?_
       refine wpOrd_call rfl rfl rfl Tryz.call105 (fun R hR=> ?_)
       go_simp
       refine(rnext_x O L hyl Hk.out _ ((H.out.r.of_ext X1.out).of_ext exI)).mono ?_
       rintro e w1 ⟨rfl,E2,d2,rfl⟩
       refine hR _ _ ⟨_,rfl,?_,?_⟩
       ·exact qm
       clear hR R
       simp only[Act.put,zp]
       refine oT ?_
       refine oG ?_
       refine wpOrd_nil ?_
      all_goals
       go_wp2_with fail
       refine hrest _ _ _ _ _ _ _ _ _ _ _ _ _ _ _ _ _ _ _ _ _ _ _ _ _ _ _ _ _ _ _ _ _ _ _ _ _ _ _ _ _ _ _ _ ?_ ?_ ?_
      ·exact BoxC.cells (cs:=[.int .i64 0,.int .i64 0,.int .i64 0,.int .i64 0,.int .i64 0,.int .i64 0,.int .i64 0,.int .i64 0,.int .i64 0,.int .i64 0,.string ⟨#[]⟩]) _ 0 (BoxC.of_ext (BoxC.drew (BoxC.new _ _ _)) ⟨_,_,rfl⟩) (Nat.le_refl _)
      ·exact Ext.cells _ _ (Ext.ext (Ext.drew (Ext.alloc (Ext.refl _) _)) _ _) (Nat.le_refl _)
      ·exact Nat.le_refl _
      ·exact BoxC.cells (cs:=[.int .i64 0,.int .i64 0,.int .i64 0,.int .i64 0,.int .i64 0,.int .i64 0,.int .i64 0,.int .i64 0,.int .i64 0,.int .i64 0,.string ⟨#[]⟩]) _ 0 (BoxC.new_at _ _ (by rw[size_ext];rfl)) (Nat.le_refl _)
      ·exact Ext.cells _ _ (Ext.alloc (Ext.ext (Ext.drew (Ext.refl _)) _ _) _) tB
      ·omega
end Go.Proofs.YtekjdeibnfaehaaGreat
