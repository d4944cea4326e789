/- Texts of a proof. -/
import Derived.Test.YtekjdeibnfaehaaGreatKDbf
set_option linter.unusedSimpArgs false
set_option linter.unusedVariables false
namespace Go.Proofs.YtekjdeibnfaehaaGreat
open Go Go.RowKit
set_option maxRecDepth 100000 in
set_option maxHeartbeats 16000000 in
theorem Grant_any(O:OffD)(L:OffL)(w:World)(s t d u:Int)(h:OffY w O L):
 Calls Tryz.prog 42 #[offV O L,.int .i64 s,.int .i64 t,.int .i64 d,.int .i64 u] w fun e w'=> ∃L',e= .returned (.tuple #[offV (grantO O s t d u) L',recV (grantR O s t d u),.int .i64 (grantE O s t d u)])∧OffA w.heap.size w' (grantO O s t d u) L'∧Ext w w':=by
 have H:=hid h
 clear h
 obtain⟨B,hB⟩:∃ B:Nat,w.heap.size=B:=⟨_,rfl⟩
 have HB:=hid hB
 obtain⟨j,hj⟩:∃ j,grantE O s t d u=j:=⟨_,rfl⟩
 obtain⟨GO,hGO⟩:∃ GO,grantO O s t d u=GO:=⟨_,rfl⟩
 obtain⟨GR,hGR⟩:∃ GR,grantR O s t d u=GR:=⟨_,rfl⟩
 rw[hj,hGO,hGR]
 have HE:=hid hj
 have HO:Hid (GO=if j=0 then firmO (apdO O (leaseR O s t d u)) else noOff):=hid (by rw[←hGO,grantO,hj])
 have HR:Hid (GR=if j=0 then leaseR O s t d u else zeroR):=hid (by rw[←hGR,grantR,hj])
 clear hj hGO hGR hB
 go_enter Tryz.func42,Tryz.ntmps42
 go_wp2_with fail
 refine(isAsOffice_any O L _ (H.out.of_ext exI)).mono ?_
 rintro e P1 ⟨rfl,x1⟩
 have X1:Hid (Ext w P1):=hid (Ext.trans exI x1)
 have b2:BoxC P1 B (offC O L) 76:=BoxC.of_ext (((BoxC.new_at _ _ HB.out.symm).alloc _).alloc _) x1
 have b4:BoxC P1 (B+1) (offC noOff zL) 76:=BoxC.of_ext ((BoxC.new_at _ _ qH).alloc _) x1
 have b5:BoxC P1 (B+1+1) (recC zeroR) 46:=BoxC.of_ext (BoxC.new_at _ _ qH) x1
 simp only[HB.out]
 have V2:=hid b2
 have V4:=hid b4
 have V5:=hid b5
 have c2:=b2.c17
 have l2:=b2.lt
 have l4:rowLen P1 (B+1)=17:=b4.len
 have l5:rowLen P1 (B+1+1)=11:=b5.len
 clear x1 b2 b4 b5
 cases ho:offOk O with
 | false=>
  have hj:j=76:=by rw[←HE.out,grantE,if_neg qG]
  have Hj:=hid hj
  clear hj
  go_wp2_with fail
  have hj:=Hj.out
  refine bodyPost_ret (ret_cct rfl rfl (rowLen_setCells.trans (rowLen_setCells.trans l4)) ((rowAt_setCells_off tB).trans (rowAt_setCells_same rfl qF)) rfl (rowLen_setCells.trans (rowLen_setCells.trans l5)) (rowAt_setCells_same rfl qI) rfl) rfl ?_;have hB:=HB.out;have e1:=HO.out;have e2:=HR.out;rw[hj] at e1 e2;rw[if_neg tN] at e1 e2;rw[hj,e1,e2];exact⟨zL,rfl,OffA.zero _ _,Ext.cells _ _ (Ext.cells _ _ X1.out tB) tB⟩
 | true=>
  have Hk:=hid (H.out.ok ho)
  cases hs:inB s 1 999 with
  | false=>
   have Hj:Hid (j=1):=hid (by rw[←HE.out,grantE,if_pos ho,if_neg (by rw[hs];simp)])
   go_wp2_with (first|(go_at_call 87;refine(isShip_any _ _).mono ?_;rintro e w1 ⟨rfl,rfl⟩)|(go_at_call 97;refine(isOffice_any _ _).mono ?_;rintro e w1 ⟨rfl,rfl⟩))
   have hj:=Hj.out
   refine bodyPost_ret (ret_cct rfl rfl (rowLen_setCells.trans (rowLen_setCells.trans l4)) ((rowAt_setCells_off tB).trans (rowAt_setCells_same rfl qF)) rfl (rowLen_setCells.trans (rowLen_setCells.trans l5)) (rowAt_setCells_same rfl qI) rfl) rfl ?_;have hB:=HB.out;have e1:=HO.out;have e2:=HR.out;rw[hj] at e1 e2;rw[if_neg tN] at e1 e2;rw[hj,e1,e2];exact⟨zL,rfl,OffA.zero _ _,Ext.cells _ _ (Ext.cells _ _ X1.out tB) tB⟩
  | true=>
   cases ht:inB t 0 8 with
   | false=>
    have Hj:Hid (j=1):=hid (by rw[←HE.out,grantE,if_pos ho,if_neg (by rw[ht];simp)])
    go_wp2_with (first|(go_at_call 87;refine(isShip_any _ _).mono ?_;rintro e w1 ⟨rfl,rfl⟩)|(go_at_call 97;refine(isOffice_any _ _).mono ?_;rintro e w1 ⟨rfl,rfl⟩))
    have hj:=Hj.out
    refine bodyPost_ret (ret_cct rfl rfl (rowLen_setCells.trans (rowLen_setCells.trans l4)) ((rowAt_setCells_off tB).trans (rowAt_setCells_same rfl qF)) rfl (rowLen_setCells.trans (rowLen_setCells.trans l5)) (rowAt_setCells_same rfl qI) rfl) rfl ?_;have hB:=HB.out;have e1:=HO.out;have e2:=HR.out;rw[hj] at e1 e2;rw[if_neg tN] at e1 e2;rw[hj,e1,e2];exact⟨zL,rfl,OffA.zero _ _,Ext.cells _ _ (Ext.cells _ _ X1.out tB) tB⟩
   | true=>
    cases hd:inB d 0 100000 with
    | false=>
     have Hj:Hid (j=6):=hid (by rw[←HE.out,grantE,if_pos ho,if_pos ⟨hs,ht⟩,if_neg (by rw[hd];simp)])
     go_wp2_with (first|(go_at_call 87;refine(isShip_any _ _).mono ?_;rintro e w1 ⟨rfl,rfl⟩)|(go_at_call 97;refine(isOffice_any _ _).mono ?_;rintro e w1 ⟨rfl,rfl⟩)|(go_at_call 88;refine(isDay_any _ _).mono ?_;rintro e w1 ⟨rfl,rfl⟩))
     have hj:=Hj.out
     refine bodyPost_ret (ret_cct rfl rfl (rowLen_setCells.trans (rowLen_setCells.trans l4)) ((rowAt_setCells_off tB).trans (rowAt_setCells_same rfl qF)) rfl (rowLen_setCells.trans (rowLen_setCells.trans l5)) (rowAt_setCells_same rfl qI) rfl) rfl ?_;have hB:=HB.out;have e1:=HO.out;have e2:=HR.out;rw[hj] at e1 e2;rw[if_neg tN] at e1 e2;rw[hj,e1,e2];exact⟨zL,rfl,OffA.zero _ _,Ext.cells _ _ (Ext.cells _ _ X1.out tB) tB⟩
    | true=>
     cases hu:inB u 0 100000 with
     | false=>
      have Hj:Hid (j=6):=hid (by rw[←HE.out,grantE,if_pos ho,if_pos ⟨hs,ht⟩,if_neg (by rw[hu];simp)])
      go_wp2_with (first|(go_at_call 87;refine(isShip_any _ _).mono ?_;rintro e w1 ⟨rfl,rfl⟩)|(go_at_call 97;refine(isOffice_any _ _).mono ?_;rintro e w1 ⟨rfl,rfl⟩)|(go_at_call 88;refine(isDay_any _ _).mono ?_;rintro e w1 ⟨rfl,rfl⟩))
      have hj:=Hj.out
      refine bodyPost_ret (ret_cct rfl rfl (rowLen_setCells.trans (rowLen_setCells.trans l4)) ((rowAt_setCells_off tB).trans (rowAt_setCells_same rfl qF)) rfl (rowLen_setCells.trans (rowLen_setCells.trans l5)) (rowAt_setCells_same rfl qI) rfl) rfl ?_;have hB:=HB.out;have e1:=HO.out;have e2:=HR.out;rw[hj] at e1 e2;rw[if_neg tN] at e1 e2;rw[hj,e1,e2];exact⟨zL,rfl,OffA.zero _ _,Ext.cells _ _ (Ext.cells _ _ X1.out tB) tB⟩
     | true=>
      have HE2:Hid ((if leasable O (leaseR O s t d u)=true then appE O.d O.m (leaseR O s t d u) else 75)=j):=hid (by have e:=HE.out;rw[grantE,if_pos ho,if_pos ⟨hs,ht⟩,if_pos ⟨hd,hu⟩] at e;exact e)
      clear HE
      go_wp2_with (first|(go_at_call 87;refine(isShip_any _ _).mono ?_;rintro e w1 ⟨rfl,rfl⟩)|(go_at_call 97;refine(isOffice_any _ _).mono ?_;rintro e w1 ⟨rfl,rfl⟩)|(go_at_call 88;refine(isDay_any _ _).mono ?_;rintro e w1 ⟨rfl,rfl⟩))
      refine(own_any O L _ (H.out.of_ext X1.out)).mono ?_
      rintro e P2 ⟨rfl,x2⟩
      have X2:Hid (Ext w P2):=hid (X1.out.trans x2)
      have b2:=V2.out.of_ext x2
      have W4:=hid (V4.out.of_ext x2)
      have W5:=hid (V5.out.of_ext x2)
      clear c2 l2 l4 l5 V4 V5 V2
      have c2:=b2.c17
      have l2:=b2.lt
      have W2:=hid b2
      clear b2 x2
      go_wp2_with fail
      obtain⟨B5,hB5⟩:∃ B5,P2.heap.size=B5:=⟨_,rfl⟩
      simp only[hB5]
      obtain⟨Q0,hQ⟩:∃ Q0,(P2.alloc (.cells #[.int .i64 0,.int .i64 0,.int .i64 0,.int .i64 0,.int .i64 0,.int .i64 0,.int .i64 0,.int .i64 0,.int .i64 0,.int .i64 0,.string ⟨#[]⟩] 46)).setCells B5 0 [.int .i64 O.me,.int .i64 (nextI O.m.recs O.me),.int .i64 1,.int .i64 s,.int .i64 d,.int .i64 d,.int .i64 0,.int .i64 0,.int .i64 t,.int .i64 u,.string ⟨#[]⟩]=Q0:=⟨_,rfl⟩
      simp only[hQ]
      have q5:BoxC Q0 B5 (recC (leaseR O s t d u)) 46:=by rw[←hQ];exact BoxC.cells (cs:=[.int .i64 0,.int .i64 0,.int .i64 0,.int .i64 0,.int .i64 0,.int .i64 0,.int .i64 0,.int .i64 0,.int .i64 0,.int .i64 0,.string ⟨#[]⟩]) _ 0 (BoxC.new_at _ _ hB5.symm) (Nat.le_refl _)
      have XQ0:Ext P2 Q0:=by rw[←hQ];exact Ext.cells _ _ (Ext.alloc (Ext.refl _) _) tB
      have XQ:Hid (Ext w Q0):=hid (X2.out.trans XQ0)
      have n5:B+1+1<B5:=by rw[←hB5];exact W5.out.lt
      have w2:=W2.out.of_ext XQ0
      have w4:=W4.out.of_ext XQ0
      have w5:=W5.out.of_ext XQ0
      clear c2 l2 hB5 hQ W2 W4 W5 XQ0
      have c2:=w2.c17
      have c5:=q5.c11
      have l2:=w2.lt
      have s5:=q5.lt
      have l4:rowLen Q0 (B+1)=17:=w4.len
      have l5:rowLen Q0 (B+1+1)=11:=w5.len
      have t4:=w4.lt
      have t5:=w5.lt
      have hm:=H.out.l
      have hnm:=Hk.out.sm
      have hr:=H.out.r.of_ext XQ.out
      have V5:=hid q5
      have U4:=hid w4
      have U5:=hid w5
      have Hn5:=hid n5
      clear w2 w4 w5 q5 n5
      cases hh:(homeI s != O.me) with
      | true=>
       have Hj:Hid (j=75):=hid (by have e:leasable O (leaseR O s t d u)=false:=(by rw[leasable,show decide (homeI (leaseR O s t d u).ship=O.me)=false from decide_eq_false (show ¬homeI s=O.me by simpa using hh)];rfl);rw[←HE2.out,e];rfl)
       refine wp_region_ord (.f 0 (.f 2 (.f 3 (.a 1 (.f 4 (.f 5 (.f 6 (.a 7 (.f 8 (.f 9 (.f 10 (.f 11 (.f 12 (.f 13 (.f 14 (.a 15 (.f 16 .d))))))))))))))))) (Ext (Q0)) tG tG exI ?_
       refine oS ?_
       refine wpOrd_call rfl rfl rfl Tryz.call54 (fun R hR=> ?_)
       go_simp
       refine(Home_any _ _).mono ?_
       rintro e w1 ⟨rfl,rfl⟩
       refine hR _ _ ⟨_,rfl,?_,?_⟩
       ·exact exI
       clear hR R
       simp only[Act.put,zp]
       refine oS ?_
       refine ord_bool (j:=5) rfl (fun hb5=> ?_) (fun hb5=> ?_)
       rotate_left
       focus
        try(exfalso;first|(simp at hb5;done)|(simp at hb5;omega))
        all_goals
         (try simp only[hb5])
         refine oS ?_
         refine wpOrd_call rfl rfl rfl Tryz.call107 (fun R hR=> ?_)
         go_simp
         refine(isRecord_any (leaseR O s t d u) _ (by exact Nat.zero_le _)).mono ?_
         rintro e w1 ⟨rfl,E202,d202,rfl⟩
         refine hR _ _ ⟨_,rfl,?_,?_⟩
         ·exact exI
         clear hR R
         simp only[Act.put,zp]
         refine oS ?_
         refine ord_bool (j:=10) rfl (fun hb10=> ?_) (fun hb10=> ?_)
         rotate_left
         focus
          try(exfalso;first|(simp at hb10;done)|(simp at hb10;omega))
          all_goals
           (try simp only[hb10])
           refine oS ?_
           refine wpOrd_call rfl rfl rfl Tryz.call108 (fun R hR=> ?_)
           go_simp
           refine(isHeld_any _ _ _ _ (leaseR O s t d u) hm tB _ (recI ‹_›)).mono ?_
           rintro e w1 ⟨rfl,E203,d203,rfl⟩
           refine hR _ _ ⟨_,rfl,?_,?_⟩
           ·exact exI
           clear hR R
           simp only[Act.put,zp]
           refine oS ?_
           refine wpOrd_nil ?_
         rotate_right
         focus
          try(exfalso;first|(simp at hb10;done)|(simp at hb10;omega))
          all_goals
           (try simp only[hb10])
           refine oS ?_
           refine wpOrd_actPass rfl rfl ?_ ?_
           ·exact exI
           simp only[Act.put,zp]
           refine oS ?_
           refine wpOrd_nil ?_
       rotate_right
       focus
        try(exfalso;first|(simp at hb5;done)|(simp at hb5;omega))
        all_goals
         (try simp only[hb5])
         refine oS ?_
         refine wpOrd_actPass rfl rfl ?_ ?_
         ·exact exI
         simp only[Act.put,zp]
         refine oS ?_
         refine wpOrd_actPass rfl rfl ?_ ?_
         ·exact exI
         simp only[Act.put,zp]
         refine oS ?_
         refine wpOrd_nil ?_
       try simp only[ext_ext]
       go_wp2_with fail
       have hj:=Hj.out
       refine bodyPost_ret (ret_cct rfl rfl qY ((rowAt_setCells_off tB).trans (rowAt_setCells_same rfl qZ)) rfl q7 (rowAt_setCells_same rfl q8) rfl) rfl ?_;have hB:=HB.out;have e1:=HO.out;have e2:=HR.out;rw[hj] at e1 e2;rw[if_neg tN] at e1 e2;rw[hj,e1,e2];exact⟨zL,rfl,OffA.zero _ _,Ext.cells _ _ (Ext.cells _ _ (Ext.trans XQ.out exI) tB) tB⟩
      | false=>
       have Hh:Hid (decide (homeI (leaseR O s t d u).ship=O.me)=true):=hid (decide_eq_true (show homeI s=O.me by simpa using hh))
       cases hk:recOk (leaseR O s t d u) with
       | false=>
        have Hj:Hid (j=75):=hid (by have e:leasable O (leaseR O s t d u)=false:=(by rw[leasable,hk];simp);rw[←HE2.out,e];rfl)
        refine wp_region_ord (.f 0 (.f 2 (.f 3 (.a 1 (.f 4 (.f 5 (.f 6 (.a 7 (.f 8 (.f 9 (.f 10 (.f 11 (.f 12 (.f 13 (.f 14 (.a 15 (.f 16 .d))))))))))))))))) (Ext (Q0)) tG tG exI ?_
        refine oS ?_
        refine wpOrd_call rfl rfl rfl Tryz.call54 (fun R hR=> ?_)
        go_simp
        refine(Home_any _ _).mono ?_
        rintro e w1 ⟨rfl,rfl⟩
        refine hR _ _ ⟨_,rfl,?_,?_⟩
        ·exact exI
        clear hR R
        simp only[Act.put,zp]
        refine oS ?_
        refine ord_bool (j:=5) rfl (fun hb5=> ?_) (fun hb5=> ?_)
        rotate_left
        focus
         try(exfalso;first|(simp at hb5;done)|(simp at hb5;omega))
         all_goals
          (try simp only[hb5])
          refine oS ?_
          refine wpOrd_call rfl rfl rfl Tryz.call107 (fun R hR=> ?_)
          go_simp
          refine(isRecord_any (leaseR O s t d u) _ (by exact Nat.zero_le _)).mono ?_
          rintro e w1 ⟨rfl,E202,d202,rfl⟩
          refine hR _ _ ⟨_,rfl,?_,?_⟩
          ·exact exI
          clear hR R
          simp only[Act.put,zp]
          refine oS ?_
          refine ord_bool (j:=10) rfl (fun hb10=> ?_) (fun hb10=> ?_)
          rotate_left
          focus
           try(exfalso;first|(simp at hb10;done)|(simp at hb10;omega))
           all_goals
            (try simp only[hb10])
            refine oS ?_
            refine wpOrd_call rfl rfl rfl Tryz.call108 (fun R hR=> ?_)
            go_simp
            refine(isHeld_any _ _ _ _ (leaseR O s t d u) hm tB _ (recI ‹_›)).mono ?_
            rintro e w1 ⟨rfl,E203,d203,rfl⟩
            refine hR _ _ ⟨_,rfl,?_,?_⟩
            ·exact exI
            clear hR R
            simp only[Act.put,zp]
            refine oS ?_
            refine wpOrd_nil ?_
          rotate_right
          focus
           try(exfalso;first|(simp at hb10;done)|(simp at hb10;omega))
           all_goals
            (try simp only[hb10])
            refine oS ?_
            refine wpOrd_actPass rfl rfl ?_ ?_
            ·exact exI
            simp only[Act.put,zp]
            refine oS ?_
            refine wpOrd_nil ?_
        rotate_right
        focus
         try(exfalso;first|(simp at hb5;done)|(simp at hb5;omega))
         all_goals
          (try simp only[hb5])
          refine oS ?_
          refine wpOrd_actPass rfl rfl ?_ ?_
          ·exact exI
          simp only[Act.put,zp]
          refine oS ?_
          refine wpOrd_actPass rfl rfl ?_ ?_
          ·exact exI
          simp only[Act.put,zp]
          refine oS ?_
          refine wpOrd_nil ?_
        try simp only[ext_ext]
        go_wp2_with fail
        have hj:=Hj.out
        refine bodyPost_ret (ret_cct rfl rfl qY ((rowAt_setCells_off tB).trans (rowAt_setCells_same rfl qZ)) rfl q7 (rowAt_setCells_same rfl q8) rfl) rfl ?_;have hB:=HB.out;have e1:=HO.out;have e2:=HR.out;rw[hj] at e1 e2;rw[if_neg tN] at e1 e2;rw[hj,e1,e2];exact⟨zL,rfl,OffA.zero _ _,Ext.cells _ _ (Ext.cells _ _ (Ext.trans XQ.out exI) tB) tB⟩
       | true=>
        cases hl:O.m.recs.any (leaseOn (leaseR O s t d u)) with
        | true=>
         have Hj:Hid (j=75):=hid (by have e:leasable O (leaseR O s t d u)=false:=(by rw[leasable,hl];simp);rw[←HE2.out,e];rfl)
         refine wp_region_ord (.f 0 (.f 2 (.f 3 (.a 1 (.f 4 (.f 5 (.f 6 (.a 7 (.f 8 (.f 9 (.f 10 (.f 11 (.f 12 (.f 13 (.f 14 (.a 15 (.f 16 .d))))))))))))))))) (Ext (Q0)) tG tG exI ?_
         refine oS ?_
         refine wpOrd_call rfl rfl rfl Tryz.call54 (fun R hR=> ?_)
         go_simp
         refine(Home_any _ _).mono ?_
         rintro e w1 ⟨rfl,rfl⟩
         refine hR _ _ ⟨_,rfl,?_,?_⟩
         ·exact exI
         clear hR R
         simp only[Act.put,zp]
         refine oS ?_
         refine ord_bool (j:=5) rfl (fun hb5=> ?_) (fun hb5=> ?_)
         rotate_left
         focus
          try(exfalso;first|(simp at hb5;done)|(simp at hb5;omega))
          all_goals
           (try simp only[hb5])
           refine oS ?_
           refine wpOrd_call rfl rfl rfl Tryz.call107 (fun R hR=> ?_)
           go_simp
           refine(isRecord_any (leaseR O s t d u) _ (by exact Nat.zero_le _)).mono ?_
           rintro e w1 ⟨rfl,E202,d202,rfl⟩
           refine hR _ _ ⟨_,rfl,?_,?_⟩
           ·exact exI
           clear hR R
           simp only[Act.put,zp]
           refine oS ?_
           refine ord_bool (j:=10) rfl (fun hb10=> ?_) (fun hb10=> ?_)
           rotate_left
           focus
            try(exfalso;first|(simp at hb10;done)|(simp at hb10;omega))
            all_goals
             (try simp only[hb10])
             refine oS ?_
             refine wpOrd_call rfl rfl rfl Tryz.call108 (fun R hR=> ?_)
             go_simp
             refine(isHeld_any _ _ _ _ (leaseR O s t d u) hm tB _ (recI ‹_›)).mono ?_
             rintro e w1 ⟨rfl,E203,d203,rfl⟩
             refine hR _ _ ⟨_,rfl,?_,?_⟩
             ·exact exI
             clear hR R
             simp only[Act.put,zp]
             refine oS ?_
             refine wpOrd_nil ?_
           rotate_right
           focus
            try(exfalso;first|(simp at hb10;done)|(simp at hb10;omega))
            all_goals
             (try simp only[hb10])
             refine oS ?_
             refine wpOrd_actPass rfl rfl ?_ ?_
             ·exact exI
             simp only[Act.put,zp]
             refine oS ?_
             refine wpOrd_nil ?_
         rotate_right
         focus
          try(exfalso;first|(simp at hb5;done)|(simp at hb5;omega))
          all_goals
           (try simp only[hb5])
           refine oS ?_
           refine wpOrd_actPass rfl rfl ?_ ?_
           ·exact exI
           simp only[Act.put,zp]
           refine oS ?_
           refine wpOrd_actPass rfl rfl ?_ ?_
           ·exact exI
           simp only[Act.put,zp]
           refine oS ?_
           refine wpOrd_nil ?_
         try simp only[ext_ext]
         go_wp2_with fail
         have hj:=Hj.out
         refine bodyPost_ret (ret_cct rfl rfl qY ((rowAt_setCells_off tB).trans (rowAt_setCells_same rfl qZ)) rfl q7 (rowAt_setCells_same rfl q8) rfl) rfl ?_;have hB:=HB.out;have e1:=HO.out;have e2:=HR.out;rw[hj] at e1 e2;rw[if_neg tN] at e1 e2;rw[hj,e1,e2];exact⟨zL,rfl,OffA.zero _ _,Ext.cells _ _ (Ext.cells _ _ (Ext.trans XQ.out exI) tB) tB⟩
        | false=>
         have HA:Hid (appE O.d O.m (leaseR O s t d u)=j):=hid (by have e:leasable O (leaseR O s t d u)=true:=(by rw[leasable,Hh.out,hk,hl];rfl);rw[←HE2.out,e];rfl)
         clear HE2
         refine wp_region_ord (.f 0 (.f 2 (.f 3 (.a 1 (.f 4 (.f 5 (.f 6 (.a 7 (.f 8 (.f 9 (.f 10 (.f 11 (.f 12 (.f 13 (.f 14 (.a 15 (.f 16 .d))))))))))))))))) (Ext (Q0)) tG tG exI ?_
         refine oS ?_
         refine wpOrd_call rfl rfl rfl Tryz.call54 (fun R hR=> ?_)
         go_simp
         refine(Home_any _ _).mono ?_
         rintro e w1 ⟨rfl,rfl⟩
         refine hR _ _ ⟨_,rfl,?_,?_⟩
         ·exact exI
         clear hR R
         simp only[Act.put,zp]
         refine oS ?_
         refine ord_bool (j:=5) rfl (fun hb5=> ?_) (fun hb5=> ?_)
         rotate_left
         focus
          try(exfalso;first|(simp at hb5;done)|(simp at hb5;omega))
          all_goals
           (try simp only[hb5])
           refine oS ?_
           refine wpOrd_call rfl rfl rfl Tryz.call107 (fun R hR=> ?_)
           go_simp
           refine(isRecord_any (leaseR O s t d u) _ (by exact Nat.zero_le _)).mono ?_
           rintro e w1 ⟨rfl,E202,d202,rfl⟩
           refine hR _ _ ⟨_,rfl,?_,?_⟩
           ·exact exI
           clear hR R
           simp only[Act.put,zp]
           refine oS ?_
           refine ord_bool (j:=10) rfl (fun hb10=> ?_) (fun hb10=> ?_)
           rotate_left
           focus
            try(exfalso;first|(simp at hb10;done)|(simp at hb10;omega))
            all_goals
             (try simp only[hb10])
             refine oS ?_
             refine wpOrd_call rfl rfl rfl Tryz.call108 (fun R hR=> ?_)
             go_simp
             refine(isHeld_any _ _ _ _ (leaseR O s t d u) hm tB _ (recI ‹_›)).mono ?_
             rintro e w1 ⟨rfl,E203,d203,rfl⟩
             refine hR _ _ ⟨_,rfl,?_,?_⟩
             ·exact exI
             clear hR R
             simp only[Act.put,zp]
             refine oS ?_
             refine wpOrd_nil ?_
           rotate_right
           focus
            try(exfalso;first|(simp at hb10;done)|(simp at hb10;omega))
            all_goals
             (try simp only[hb10])
             refine oS ?_
             refine wpOrd_actPass rfl rfl ?_ ?_
             ·exact exI
             simp only[Act.put,zp]
             refine oS ?_
             refine wpOrd_nil ?_
         rotate_right
         focus
          try(exfalso;first|(simp at hb5;done)|(simp at hb5;omega))
          all_goals
           (try simp only[hb5])
           refine oS ?_
           refine wpOrd_actPass rfl rfl ?_ ?_
           ·exact exI
           simp only[Act.put,zp]
           refine oS ?_
           refine wpOrd_actPass rfl rfl ?_ ?_
           ·exact exI
           simp only[Act.put,zp]
           refine oS ?_
           refine wpOrd_nil ?_
         try simp only[ext_ext]
         go_wp2_with fail
         have hxw:Ext w (Q0.drew.ext (E202++E203) d203):=Ext.trans XQ.out exI
         have hxq:Ext Q0 (Q0.drew.ext (E202++E203) d203):=exI
         refine(appended_any O L _ (leaseR O s t d u) (H.out.of_ext hxw) ho (Nat.zero_le _)).mono ?_
         rintro e P3 ⟨L3,rfl,hU,x3⟩
         rw[HA.out]
         have X3:Hid (Ext w P3):=hid (hxw.trans x3)
         have hx3:Ext Q0 P3:=hxq.trans x3
         have q5:=V5.out.of_ext hx3
         have q4:=U4.out.of_ext hx3
         have qq5:=U5.out.of_ext hx3
         have hU':=hU.mono (b:=B+1+1+1) (by have:=hxq.below.size;omega)
         have hj:=HA.out
         clear hU x3 hx3 hxw hxq c2 c5 l2 s5 l4 l5 t4 t5 hr V5 U4 U5
         have l4:rowLen P3 (B+1)=17:=q4.len
         have l5:rowLen P3 (B+1+1)=11:=qq5.len
         have t4:=q4.lt
         have t5:=qq5.lt
         have n4:¬ (P3.heap.size=B+1):=by omega
         have n5:¬ (P3.heap.size=B+1+1):=by omega
         by_cases hj0:j=0
         ·subst hj0
          have hap:apO O (leaseR O s t d u)=apdO O (leaseR O s t d u):=by rw[apO,if_pos hj]
          rw[hap] at hU' ⊢
          have HU:=hid hU'
          have W5:=hid q5
          have W4:=hid q4
          have WW5:=hid qq5
          have t6:=q5.lt
          clear hap hU' q5 q4 qq5 hj
          go_wp2_with fail
          obtain⟨B6,hB6⟩:∃ B6,P3.heap.size=B6:=⟨_,rfl⟩
          simp only[hB6]
          obtain⟨Q1,hQ⟩:∃ Q1,(P3.alloc (.cells #[.int .i64 0,.slice none 0 0,.int .i64 0,.slice none 0 0,.int .i64 0,.slice none 0 0,.int .i64 0,.int .i64 0,.slice none 0 0,.slice none 0 0,.slice none 0 0,.slice none 0 0,.slice none 0 0,.slice none 0 0,.slice none 0 0,.slice none 0 0,.slice none 0 0] 76)).setCells B6 0 (offC (apdO O (leaseR O s t d u)) L3)=Q1:=⟨_,rfl⟩
          simp only[hQ]
          have hB:=HB.out
          have XQ1:Ext P3 Q1:=by rw[←hQ];exact Ext.cells _ _ (Ext.alloc (Ext.refl _) _) tB
          have q6:BoxC Q1 B6 (offC (apdO O (leaseR O s t d u)) L3) 76:=by rw[←hQ];exact BoxC.cells (cs:=[.int .i64 0,.slice none 0 0,.int .i64 0,.slice none 0 0,.int .i64 0,.slice none 0 0,.int .i64 0,.int .i64 0,.slice none 0 0,.slice none 0 0,.slice none 0 0,.slice none 0 0,.slice none 0 0,.slice none 0 0,.slice none 0 0,.slice none 0 0,.slice none 0 0]) _ 0 (BoxC.new_at _ _ hB6.symm) (Nat.le_refl _)
          have hlen:=apd_len Hk.out.mo HA.out
          have hUa:=HU.out.of_ext XQ1
          have e0:(appD O.d O.m (leaseR O s t d u)).f0.bytes.length=L3.n0:=hUa.a.d.l0
          have e1:(appD O.d O.m (leaseR O s t d u)).f1.bytes.length=L3.n1:=hUa.a.d.l1
          refine(synced_any _ _ _ _ _ _ _ _ (apdO O (leaseR O s t d u)).d.f0.bytes (apdO O (leaseR O s t d u)).d.f1.bytes e0 e1 tB tB _ hUa.a.d.b0.read hUa.a.d.b1.read).mono ?_
          rintro e P4 ⟨A0,A1,rfl,o0,o1,x4⟩
          have hq1:B6<Q1.heap.size:=q6.lt
          have k0:=hid (o0.anc.mono (base':=B6+1) tB)
          have k1:=hid (o1.anc.mono (base':=B6+1) tB)
          have hcap:Hid (L3.n0≤9223372036854775807∧L3.n1≤9223372036854775807):=hid ⟨o0.cap,o1.cap⟩
          have X34:Hid (Ext P3 P4∧P3.heap.size≤B6):=hid ⟨XQ1.trans x4,by omega⟩
          have E0:=hid e0
          have E1:=hid e1
          have v6:=q6.of_ext x4
          have v5:=hid ((W5.out.of_ext XQ1).of_ext x4)
          have v4:=hid ((W4.out.of_ext XQ1).of_ext x4)
          have vv5:=hid ((WW5.out.of_ext XQ1).of_ext x4)
          have N4:Hid (¬(B6=B+1)):=hid tB
          have N5:Hid (¬(B6=B+1+1)):=hid tB
          have N6:Hid (¬(B6=B5)):=hid tB
          have N7:Hid (B+1+1+1≤B6):=hid tB
          clear hUa o0 o1 x4 hlen q6 hQ hB6 l4 l5 t4 t5 n4 n5 t6 hB XQ1 e0 e1 W4 W5 WW5 hq1
          have c6:=v6.c17
          have l6:=v6.lt
          have f6:=v6.frozen
          have V6:=hid v6
          clear v6
          go_wp2_with fail
          obtain⟨Q2,hQ2⟩:∃ Q2,(((P4.setCell ⟨B6,1,none⟩ (.slice A0 L3.n0 L3.n0)).setCell ⟨B6,2,none⟩ (.int .i64 L3.n0)).setCell ⟨B6,3,none⟩ (.slice A1 L3.n1 L3.n1)).setCell ⟨B6,4,none⟩ (.int .i64 L3.n1)=Q2:=⟨_,rfl⟩
          simp only[hQ2]
          have z6:BoxC Q2 B6 [.int .i64 O.me,.slice A0 L3.n0 L3.n0,.int .i64 L3.n0,.slice A1 L3.n1 L3.n1,.int .i64 L3.n1,.slice L3.Am L3.nm L3.cm,.int .i64 (apdO O (leaseR O s t d u)).m.file,.int .i64 (apdO O (leaseR O s t d u)).m.gen,.slice (L3.k 0).A (L3.k 0).n (L3.k 0).c,.slice (L3.k 1).A (L3.k 1).n (L3.k 1).c,.slice (L3.k 2).A (L3.k 2).n (L3.k 2).c,.slice (L3.k 3).A (L3.k 3).n (L3.k 3).c,.slice (L3.k 4).A (L3.k 4).n (L3.k 4).c,.slice (L3.k 5).A (L3.k 5).n (L3.k 5).c,.slice (L3.k 6).A (L3.k 6).n (L3.k 6).c,.slice (L3.k 7).A (L3.k 7).n (L3.k 7).c,.slice (L3.k 8).A (L3.k 8).n (L3.k 8).c] 76:=by rw[←hQ2];exact(((V6.out.set 1 _).set 2 _).set 3 _).set 4 _
          have z5:BoxC Q2 B5 (recC (leaseR O s t d u)) 46:=by rw[←hQ2];exact(((v5.out.other _ _ N6.out).other _ _ N6.out).other _ _ N6.out).other _ _ N6.out
          have z4:BoxC Q2 (B+1) (offC noOff zL) 76:=by rw[←hQ2];exact(((v4.out.other _ _ N4.out).other _ _ N4.out).other _ _ N4.out).other _ _ N4.out
          have zz5:BoxC Q2 (B+1+1) (recC zeroR) 46:=by rw[←hQ2];exact(((vv5.out.other _ _ N5.out).other _ _ N5.out).other _ _ N5.out).other _ _ N5.out
          have l4:rowLen Q2 (B+1)=17:=z4.len
          have l5:rowLen Q2 (B+1+1)=11:=zz5.len
          have r6:rowAt Q2 B6 0 17= #[.int .i64 O.me,.slice A0 L3.n0 L3.n0,.int .i64 L3.n0,.slice A1 L3.n1 L3.n1,.int .i64 L3.n1,.slice L3.Am L3.nm L3.cm,.int .i64 (apdO O (leaseR O s t d u)).m.file,.int .i64 (apdO O (leaseR O s t d u)).m.gen,.slice (L3.k 0).A (L3.k 0).n (L3.k 0).c,.slice (L3.k 1).A (L3.k 1).n (L3.k 1).c,.slice (L3.k 2).A (L3.k 2).n (L3.k 2).c,.slice (L3.k 3).A (L3.k 3).n (L3.k 3).c,.slice (L3.k 4).A (L3.k 4).n (L3.k 4).c,.slice (L3.k 5).A (L3.k 5).n (L3.k 5).c,.slice (L3.k 6).A (L3.k 6).n (L3.k 6).c,.slice (L3.k 7).A (L3.k 7).n (L3.k 7).c,.slice (L3.k 8).A (L3.k 8).n (L3.k 8).c]:=z6.row
          have m6:rowLen Q2 B6=17:=z6.len
          have r5:rowAt Q2 B5 0 11=(recC (leaseR O s t d u)).toArray:=z5.row
          have m5:rowLen Q2 B5=11:=z5.len
          have t6:=z6.lt
          have t5:=z5.lt
          have hn5:=Hn5.out
          have n4:=N4.out
          have n5:=N5.out
          have i4:¬ (B5=B+1):=by omega
          have i5:¬ (B5=B+1+1):=by omega
          have XQ2:Hid (Ext w Q2∧OffA (B+1+1+1) Q2 (firmO (apdO O (leaseR O s t d u))) (syncL L3 A0 A1)):=hid (by
           obtain⟨x34,h36⟩:=X34.out
           have h7:=N7.out
           have x32:Ext P3 Q2:=by rw[←hQ2];exact Ext.box (Ext.box (Ext.box (Ext.box x34 _ _ h36) _ _ h36) _ _ h36) _ _ h36
           refine⟨X3.out.trans x32,HU.out.a.sync2 x32 hcap.out.1 hcap.out.2 (BytA.mono (base:=B6+1) ?_ tB) (BytA.mono (base:=B6+1) ?_ tB)⟩
           ·rw[←hQ2];exact(((k0.out.set (Nat.lt_succ_self _)).set (Nat.lt_succ_self _)).set (Nat.lt_succ_self _)).set (Nat.lt_succ_self _)
           ·rw[←hQ2];exact(((k1.out.set (Nat.lt_succ_self _)).set (Nat.lt_succ_self _)).set (Nat.lt_succ_self _)).set (Nat.lt_succ_self _))
          clear hQ2 c6 l6 f6 V6 v5 v4 vv5 z6 z5 z4 zz5 hn5
          refine wp_region_ord (.f 0 (.f 1 (.a 2 (.a 3 (.f 4 .d))))) (Kept (Q2) (B+1) (B+1+1)) tG tG (Kept.refl _ _ _).drew ?_
          refine oT ?_
          refine oG ?_
          refine oG ?_
          refine oT ?_
          refine wpOrd_nil ?_
          go_wp2_with fail
          have hB:=HB.out
          refine bodyPost_ret (ret_cct rfl rfl qa ((rowAt_setCells_off tB).trans (rowAt_setCells_same rfl qS)) rfl qb (rowAt_setCells_same rfl qc) rfl) rfl ?_
          have e1:GO=firmO (apdO O (leaseR O s t d u)):=by have:=HO.out;simpa using this
          have e2:GR=leaseR O s t d u:=by have:=HR.out;simpa using this
          rw[e1,e2]
          refine⟨syncL L3 A0 A1,?_,OffA.mono (base:=B+1+1+1) (OffA.cells (OffA.cells (OffA.drew XQ2.out.2) tB) tB) tB,Ext.cells _ _ (Ext.cells _ _ (Ext.drew XQ2.out.1) tB) tB⟩
          rw[offV_firm E0.out E1.out]
          rfl
         ·have hj2:(j != 0)=true:=by simpa using hj0
          clear hj
          go_wp2_with fail
          refine bodyPost_ret (ret_cct rfl rfl qJ ((rowAt_setCells_off tB).trans (rowAt_setCells_same rfl qK)) rfl (by simp only[rowLen_setCells];rw[rowLen_alloc_old t5];exact l5) (rowAt_setCells_same rfl (by rw[rowLen_setCells,rowLen_setCells,rowLen_alloc_old t5,l5];decide)) rfl) rfl ?_
          have hB:=HB.out
          have e1:=HO.out
          have e2:=HR.out
          rw[if_neg hj0] at e1 e2
          rw[e1,e2]
          exact⟨zL,rfl,OffA.zero _ _,Ext.cells _ _ (Ext.cells _ _ (Ext.cells _ _ (Ext.alloc X3.out _) tB) tB) tB⟩
end Go.Proofs.YtekjdeibnfaehaaGreat
