/- Texts of a proof. -/
import Derived.Test.YtekjdeibnfaehaaGreatKDam
import Derived.Test.YtekjdeibnfaehaaGreatKDan
import Derived.Shelf.SlSortCmp.NoneTotal
set_option linter.unusedSimpArgs false
set_option linter.unusedVariables false
namespace Go.Proofs.YtekjdeibnfaehaaGreat
open Go Go.RowKit Go.Shelf Go.Sort
def Gr(w w':World):Prop:=∃ q os,w'=grow (w.drewN q) os
theorem Gr.refl(w:World):Gr w w:=⟨0,#[],by simp[grow,World.drewN]⟩
theorem Gr.trans{a b c:World}(h:Gr a b)(h':Gr b c):Gr a c:=by
 obtain⟨q,os,rfl⟩:=h
 obtain⟨q',os',rfl⟩:=h'
 exact⟨q+q',os++os',by simp[grow,World.drewN,Array.append_assoc,Nat.add_assoc]⟩
theorem Gr.alloc{a b:World}(h:Gr a b)(o:Obj):Gr a (b.alloc o):=h.trans ⟨0,#[o],by rw[alloc_eq_grow];rfl⟩
theorem Gr.drew{a b:World}(h:Gr a b):Gr a b.drew:=h.trans ⟨1,#[],by rw[grow_empty];rfl⟩
set_option maxHeartbeats 1000000 in
theorem compare_gr(o1 s1 o2 s2:Int)(w:World):
 Calls Tryz.prog 122 #[.agg #[.int .i64 o1,.int .i64 s1],.agg #[.int .i64 o2,.int .i64 s2]] w
  fun e w'=>e= .returned (.int .i64 (cmpP o1 s1 o2 s2))∧Gr w w':=by
 go_enter Tryz.func122,Tryz.ntmps122
 go_wp2_with fail
 refine wp_region_ord_same (.f 0 (.f 1 (.f 2 (.f 3 (.f 5 (.f 6 (.f 7 (.f 8 (.a 4 (.a 9 (.a 10 (.a 11 (.f 12 .d))))))))))))) tG tG ?_
 refine oR ?_
 refine wpOrd_call rfl rfl rfl Tryz.call157 (fun R hR=> ?_)
 go_simp
 refine(Compare_any _ _ _).mono ?_
 rintro e w1 ⟨rfl,rfl⟩
 refine hR _ _ ⟨_,rfl,?_,?_⟩
 ·exact keepI
 clear hR R
 simp only[Act.put,zp]
 refine wpOrd_call rfl rfl rfl Tryz.call157 (fun R hR=> ?_)
 go_simp
 refine(Compare_any _ _ _).mono ?_
 rintro e w1 ⟨rfl,rfl⟩
 refine hR _ _ ⟨_,rfl,?_,?_⟩
 ·exact keepI
 clear hR R
 simp only[Act.put,zp]
 refine oD ?_
 refine wpOrd_call rfl rfl rfl Tryz.call156 (fun R hR=> ?_)
 go_simp
 refine(Or2_any (cmpI o1 o2) (cmpI s1 s2) _ _ _ _ tI tI).mono ?_
 rintro e w1 ⟨rfl,rfl⟩
 refine hR _ _ ⟨_,rfl,?_,?_⟩
 ·exact keepI
 clear hR R
 simp only[Act.put,zp]
 refine oR ?_
 refine wpOrd_nil ?_
 go_wp2
 go_ret
 exact⟨rfl,by repeat(first|exact Gr.refl _|apply Gr.alloc|apply Gr.drew)⟩
set_option maxRecDepth 100000 in
set_option maxHeartbeats 1000000 in
theorem sortcmp_gr(x y:Rec)(w:World):
 Calls Tryz.prog 121 #[recV x,recV y] w fun e w'=>e= .returned (.int .i64 (cmpP x.ao x.sq y.ao y.sq))∧Gr w w':=by
 go_enter Tryz.func121,Tryz.ntmps121
 go_wp2_with fail
 refine(compare_gr _ _ _ _ _).mono ?_
 rintro e w1 ⟨rfl,q,os,rfl⟩
 go_wp2_with fail
 go_ret
 exact⟨rfl,Gr.trans (by repeat(first|exact Gr.refl _|apply Gr.alloc|apply Gr.drew)) ⟨q,os,rfl⟩⟩
def cfR(x y:Rec):Int:=cmpP x.ao x.sq y.ao y.sq
theorem ltR(x y:Rec):ltOf cfR x y=ltP x.ao x.sq y.ao y.sq:=aheadI _ _ _ _
theorem swoR:SWO (ltOf cfR) where
 irrefl x:=by rw[ltR,←Bool.not_eq_true,ltP_iff];omega
 trans x y z h1 h2:=by rw[ltR,ltP_iff] at *;omega
 ntrans x y z h1 h2:=by
  rw[ltR,←Bool.not_eq_true,ltP_iff] at *
  omega
instance instRec:Inhabited Rec:=⟨zeroR⟩
theorem flatK_rec(l:List Rec)(j:Nat)(hj:j<l.length * 11):(l.flatMap encRec)[j]? =some (flatK encRec 11 l.toArray)[j]! :=by
 have hi:j / 11<l.length:=by omega
 have hc:j % 11<11:=Nat.mod_lt _ tB
 have h:=flatMap_get encRec 11 (fun _=>rfl) l (j / 11) (j % 11) hi hc
 rw[show j / 11 * 11+j % 11=j by omega] at h
 rw[h,get_flatK encRec 11 l.toArray j (by simpa using hj)]
 have e:(l.toArray)[j / 11]! =l[j / 11]:=by simp[hi]
 rw[e]
 have hl:(encRec l[j / 11]).length=11:=rfl
 rw[List.getElem?_eq_getElem (by rw[hl];exact hc)]
 simp[hl,hc]
set_option maxRecDepth 100000 in
set_option maxHeartbeats 2000000 in
theorem sort_own(N:Nat)(A:Option Addr)(n c:Nat)(l:List Rec)(W:World)(hn:l.length=n)(hbig:n≤1000000)(hown:OwnR N W (.slice A n c) l)(g:Nat)(eg:∀ args w,(callFunc g args).run Tryz.prog w= .ok (.enter g args) w)
 (hg:∀ (x y:Rec) (w:World),Calls Tryz.prog g #[recV x,recV y] w fun e w'=>e= .returned (.int .i64 (cfR x y))∧Gr w w'):
 Calls Tryz.prog 120 #[.slice A n c,.func (.func g) #[] #[]] W fun e w'=>e= .returned (.tuple #[])∧∃ l':List Rec,l'.Perm l∧Hid (l'.Pairwise fun a b=> ¬(cmpP b.ao b.sq a.ao a.sq<0))∧OwnR N w' (.slice A n c) l'∧Below N W w':=by
 subst hn
 rcases hown.2 with⟨hv,h0⟩|⟨gb,cap,cur,hv,hb,hh,hnc,hcm,hcs,hcur⟩
 ·have hl:l=[]:=List.eq_nil_of_length_eq_zero h0
  subst hl
  simp only[Value.slice.injEq] at hv
  obtain⟨rfl,-,rfl⟩:=hv
  have hS:=AnyF.slices_SortFunc_none (P:=Tryz.prog) (ρ:=sortL_ren) {sortL with} none 0 (.func (.func g) #[] #[]) W
  refine hS.mono ?_
  rintro e w' ⟨rfl,rfl⟩
  exact⟨rfl,[],List.Perm.refl _,hid List.Pairwise.nil,OwnR.nil _ _,Below.refl _ _⟩
 ·simp only[Value.slice.injEq] at hv
  obtain⟨rfl,-,rfl⟩:=hv
  have hgb:gb<W.heap.size:=(Array.getElem?_eq_some_iff.1 hh).1
  have hcell:∀ j,j<l.length * 11→W.cell? ⟨gb,j,none⟩=some (flatK encRec 11 l.toArray)[j]! ∧W.frozen? ⟨gb,j,none⟩=false:=by
   intro j hj
   refine⟨?_,by simp[World.frozen?,hh]⟩
   rw[←flatK_rec l j hj,←hcur,List.getElem?_take_of_lt hj]
   simp[World.cell?,hh]
  have hH:HoldsK encRec 11 W gb 0 l.toArray:=fun j hj=>by
   rw[size_flatK] at hj
   rw[Nat.zero_add]
   exact hcell j (by simpa using hj)
  have hS:=AnyQ.slices_SortFunc sortL 11 Tryz.isAgg46 Tryz.sizeOf46 encRec (fun _=>rfl) (fun x v hv=>encRec_one [x] v ti) cfR swoR g #[] gb 0 c l.toArray W eg (fun m os dk _ x y=>(hg x y _).mono fun e w' h=>h) hH hgb tA
  rw[List.size_toArray] at hS
  refine hS.mono ?_
  rintro e w' ⟨rfl,d',q,os,hp,hs,rfl⟩
  have hd:d'.size=l.length:=by have:=hp.1;simpa using this
  have hperm:d'.toList.Perm l:=by
   have:=hp.2.2
   rw[←hd,Array.extract_size] at this
   have h2:(l.toArray.extract 0 d'.size).toList=l:=by rw[hd];simp
   rwa [h2] at this
  refine⟨rfl,d'.toList,hperm,hid ?_,?_,?_⟩
  ·rw[List.pairwise_iff_getElem]
   intro i j hi hj hij
   have:=hs i j (Nat.zero_le _) hij (by simpa [hd] using hj)
   simp only[Array.length_toList] at hi hj
   rw[getElem!_pos d' j hj,getElem!_pos d' i hi] at this
   unfold ltOf cfR at this
   simpa using this
  ·have hB:(putRowK encRec 11 (Sort.ahead W q) gb 0 d').heap[gb]? =some (.cells (putCells id 0 (flatK encRec 11 d') cur) 46):=by
    simp only[putRowK,putRow,mapBlock,Array.getElem?_modify,Sort.ahead,hh,if_true,Option.map_some,onCells]
   refine⟨by rw[hperm.length_eq,recs_length,hperm.length_eq],.inr ⟨gb,c,putCells id 0 (flatK encRec 11 d') cur,by rw[hperm.length_eq],hb,?_,by rw[hperm.length_eq];exact hnc,hcm,by rw[←hcs];simp[putCells],?_⟩⟩
   ·unfold sortWorldK grow
    rw[Array.getElem?_append_left (Array.getElem?_eq_some_iff.1 hB).1]
    exact hB
   ·refine List.ext_getElem? fun j=> ?_
    have hsz:cur.size=c * 11:=hcs
    have hfl:(flatK encRec 11 d').size=l.length * 11:=by rw[size_flatK,hd]
    have hle:l.length * 11≤c * 11:=Nat.mul_le_mul_right _ hnc
    by_cases hj:j<l.length * 11
    ·have hf:=flatK_rec d'.toList j (by simpa [hd] using hj)
     rw[Array.toArray_toList] at hf
     rw[hf,List.getElem?_take_of_lt (by rw[hperm.length_eq];exact hj)]
     simp only[putCells,Array.toList_mapIdx,List.getElem?_mapIdx,Nat.zero_le,true_and,Nat.zero_add,hfl,if_pos hj,Nat.sub_zero,id]
     rw[Array.getElem?_toList,Array.getElem?_eq_getElem tB]
     rfl
    ·rw[List.getElem?_eq_none (by rw[List.length_take,hperm.length_eq];omega),List.getElem?_eq_none (by rw[recs_length,hperm.length_eq];omega)]
  ·refine⟨rfl,rfl,rfl,by simp[sortWorldK,grow,putRowK,putRow,mapBlock,Sort.ahead],fun k hk=> ?_⟩
   unfold sortWorldK grow
   have h1:(putRowK encRec 11 (Sort.ahead W q) gb 0 d').heap[k]? =W.heap[k]? :=by
    simp only[putRowK,putRow,mapBlock,Array.getElem?_modify,Sort.ahead]
    rw[if_neg tB]
   have h2:k<(putRowK encRec 11 (Sort.ahead W q) gb 0 d').heap.size:=by simp[putRowK,putRow,mapBlock,Sort.ahead];omega
   show((putRowK encRec 11 (Sort.ahead W q) gb 0 d').heap++os)[k]? =_
   rw[Array.getElem?_append_left h2,h1]
end Go.Proofs.YtekjdeibnfaehaaGreat
set_option linter.unusedSimpArgs false
set_option linter.unusedVariables false
namespace Go.Proofs.YtekjdeibnfaehaaGreat
open Go Go.RowKit
set_option maxRecDepth 100000 in
set_option maxHeartbeats 4000000 in
theorem register_any(g ct:Int)(A:Option Addr)(n c:Nat)(l:List Rec)(hn:l.length=n)(hbig:n≤100000)(ht:TxtBig l)(w:World)(hr:Recs w A l):
 Calls Tryz.prog 65 #[.agg #[.int .i64 g,.int .i64 ct,.slice A n c]] w fun e w'=> ∃A' n' c',e= .returned (.tuple #[regV A' n' c',.bool (regOk l)])∧Hid (n'=l.length)∧(∃l',Hid (regOk l=true→l'=ordL l)∧OwnR w.heap.size w' (.slice A' n' c') l')∧Ext w w':=by
 have eg:∀ args w,(callFunc 121 args).run Tryz.prog w= .ok (.enter 121 args) w:=enters_of Tryz.func121 tG rfl
 have Eg:=hid eg
 clear eg
 cases hk:regOk l with
 | false=>
  go_enter Tryz.func65,Tryz.ntmps65
  go_wp2_with (go_at_call 90;refine(Clone_own _ _ _ _ tZ tB _ (recI ‹_›)).mono ?_;rintro e w1 ⟨Ac1,nc1,cc1,rfl,hnc1,hvc1,E1,d1,rfl⟩)
  have hvc2:OwnR (w.heap.size+1+1) (((w.alloc (.cells #[.int .i64 g,.int .i64 ct,.slice A n c] 114)).alloc (.cells #[.slice none 0 0] 34)).ext E1 d1) (.slice Ac1 nc1 cc1) l:=by simpa using hvc1
  refine(sort_own (w.heap.size+1+1) _ _ _ l _ (Hid.out hnc1).symm (by have:=Hid.out hnc1;omega) hvc2 _ Eg.out sortcmp_gr).mono ?_
  rintro e w1 ⟨rfl,l',hperm,hpw,ho2,hb2⟩
  obtain⟨E2,d2,rfl⟩:Ext ((w.alloc (.cells #[.int .i64 g,.int .i64 ct,.slice A n c] 114)).alloc (.cells #[.slice none 0 0] 34)) w1:=Ext.of_below (Below.trans (Ext.below ((Ext.refl _).ext E1 d1)) (by simpa using hb2))
  have hnl:Hid (nc1=l.length):=hnc1
  have hlp:l'.length=nc1:=by rw[hperm.length_eq];exact(Hid.out hnc1).symm
  have ht':TxtBig l':=fun r hr=>ht r (hperm.mem_iff.1 hr)
  have hck:checkB l'=regOk l:=checkB_of_order hperm hpw.out
  have hrc:Recs (((w.alloc (.cells #[.int .i64 g,.int .i64 ct,.slice A n c] 114)).alloc (.cells #[.slice none 0 0] 34)).ext E2 d2) Ac1 l':=by
   obtain⟨A9,c9,h9,-,h10⟩:=ho2.slice
   cases h9
   exact h10
  have Ho2:=hid ho2
  have Hperm:=hid hperm
  rw[hk] at hck
  have he:=errReg_bad hck
  clear hvc1 hvc2 hperm hpw ho2 hb2 hnc1 hck hk
  have hsm:nc1≤9223372036854775807:=by have:=hnl.out;omega
  go_wp2_with fail
  refine wp_region_ord (.k 0 (.a 1 (.a 2 (.f 3 (.a 4 (.f 5 .d))))) 1 (.k 0 (.a 2 (.f 3 (.a 4 (.f 5 .d)))) 2 (.f 3 (.a 0 (.a 4 (.f 5 .d)))))) (Ext (w.alloc (.cells #[.int .i64 g,.int .i64 ct,.slice A n c] 114))) tG tG exI ?_
  refine wpOrd_fork ?_ ?_
  focus
   refine oC ?_
   refine oC ?_
   refine wpOrd_call rfl rfl rfl Tryz.call81 (fun R hR=> ?_)
   go_simp
   refine(Check_any _ _ _ _ tZ tB tF _ (recI ‹_›)).mono ?_
   rintro e w1 ⟨rfl,E201,d201,rfl⟩
   refine hR _ _ ⟨_,rfl,?_,?_⟩
   ·exact exI
   clear hR R
   simp only[Act.put,zp]
   refine oS ?_
   refine oC ?_
   refine oS ?_
   refine wpOrd_nil ?_
  rotate_right
  focus
   refine oC ?_
   refine wpOrd_fork ?_ ?_
   focus
    refine oC ?_
    refine wpOrd_call rfl rfl rfl Tryz.call81 (fun R hR=> ?_)
    go_simp
    refine(Check_any _ _ _ _ tZ tB tF _ (recI ‹_›)).mono ?_
    rintro e w1 ⟨rfl,E202,d202,rfl⟩
    refine hR _ _ ⟨_,rfl,?_,?_⟩
    ·exact exI
    clear hR R
    simp only[Act.put,zp]
    refine oS ?_
    refine oC ?_
    refine oS ?_
    refine wpOrd_nil ?_
   rotate_right
   focus
    refine wpOrd_call rfl rfl rfl Tryz.call81 (fun R hR=> ?_)
    go_simp
    refine(Check_any _ _ _ _ tZ tB tF _ (recI ‹_›)).mono ?_
    rintro e w1 ⟨rfl,E203,d203,rfl⟩
    refine hR _ _ ⟨_,rfl,?_,?_⟩
    ·exact exI
    clear hR R
    simp only[Act.put,zp]
    refine oS ?_
    refine oC ?_
    refine oC ?_
    refine oS ?_
    refine wpOrd_nil ?_
  go_wp2_with fail
  all_goals
   refine bodyPost_ret (v:=.tuple #[regV Ac1 nc1 cc1,.bool false]) (by simp[results,Tryz.results65,go_sem]) rfl ?_
   refine⟨Ac1,nc1,cc1,rfl,hnl,⟨l',hid (fun h=>absurd h tN),?_⟩,exI⟩
   refine OwnR.of_ext (OwnR.moved (X':=(w.alloc (.cells #[.int .i64 g,.int .i64 ct,.slice A n c] 114)).alloc (.cells #[.slice Ac1 nc1 cc1] 34)) (d':=d2) (base:=w.heap.size) Ho2.out tE tE tB) exI
 | true=>
  go_enter Tryz.func65,Tryz.ntmps65
  go_wp2_with (go_at_call 90;refine(Clone_own _ _ _ _ tZ tB _ (recI ‹_›)).mono ?_;rintro e w1 ⟨Ac1,nc1,cc1,rfl,hnc1,hvc1,E1,d1,rfl⟩)
  have hvc2:OwnR (w.heap.size+1+1) (((w.alloc (.cells #[.int .i64 g,.int .i64 ct,.slice A n c] 114)).alloc (.cells #[.slice none 0 0] 34)).ext E1 d1) (.slice Ac1 nc1 cc1) l:=by simpa using hvc1
  refine(sort_own (w.heap.size+1+1) _ _ _ l _ (Hid.out hnc1).symm (by have:=Hid.out hnc1;omega) hvc2 _ Eg.out sortcmp_gr).mono ?_
  rintro e w1 ⟨rfl,l',hperm,hpw,ho2,hb2⟩
  obtain⟨E2,d2,rfl⟩:Ext ((w.alloc (.cells #[.int .i64 g,.int .i64 ct,.slice A n c] 114)).alloc (.cells #[.slice none 0 0] 34)) w1:=Ext.of_below (Below.trans (Ext.below ((Ext.refl _).ext E1 d1)) (by simpa using hb2))
  have hnl:Hid (nc1=l.length):=hnc1
  have hlp:l'.length=nc1:=by rw[hperm.length_eq];exact(Hid.out hnc1).symm
  have ht':TxtBig l':=fun r hr=>ht r (hperm.mem_iff.1 hr)
  have hck:checkB l'=regOk l:=checkB_of_order hperm hpw.out
  have hrc:Recs (((w.alloc (.cells #[.int .i64 g,.int .i64 ct,.slice A n c] 114)).alloc (.cells #[.slice none 0 0] 34)).ext E2 d2) Ac1 l':=by
   obtain⟨A9,c9,h9,-,h10⟩:=ho2.slice
   cases h9
   exact h10
  have Ho2:=hid ho2
  have Hperm:=hid hperm
  rw[hk] at hck
  have he:=errReg_ok hck
  have HO:=hid (ordL_of_order hperm hck)
  clear hvc1 hvc2 hperm hpw ho2 hb2 hnc1 hck hk
  have hsm:nc1≤9223372036854775807:=by have:=hnl.out;omega
  go_wp2_with fail
  refine wp_region_ord (.k 0 (.a 1 (.a 2 (.f 3 (.a 4 (.f 5 .d))))) 1 (.k 0 (.a 2 (.f 3 (.a 4 (.f 5 .d)))) 2 (.f 3 (.a 0 (.a 4 (.f 5 .d)))))) (Ext (w.alloc (.cells #[.int .i64 g,.int .i64 ct,.slice A n c] 114))) tG tG exI ?_
  refine wpOrd_fork ?_ ?_
  focus
   refine oC ?_
   refine oC ?_
   refine wpOrd_call rfl rfl rfl Tryz.call81 (fun R hR=> ?_)
   go_simp
   refine(Check_any _ _ _ _ tZ tB tF _ (recI ‹_›)).mono ?_
   rintro e w1 ⟨rfl,E201,d201,rfl⟩
   refine hR _ _ ⟨_,rfl,?_,?_⟩
   ·exact exI
   clear hR R
   simp only[Act.put,zp]
   refine oS ?_
   refine oC ?_
   refine oS ?_
   refine wpOrd_nil ?_
  rotate_right
  focus
   refine oC ?_
   refine wpOrd_fork ?_ ?_
   focus
    refine oC ?_
    refine wpOrd_call rfl rfl rfl Tryz.call81 (fun R hR=> ?_)
    go_simp
    refine(Check_any _ _ _ _ tZ tB tF _ (recI ‹_›)).mono ?_
    rintro e w1 ⟨rfl,E202,d202,rfl⟩
    refine hR _ _ ⟨_,rfl,?_,?_⟩
    ·exact exI
    clear hR R
    simp only[Act.put,zp]
    refine oS ?_
    refine oC ?_
    refine oS ?_
    refine wpOrd_nil ?_
   rotate_right
   focus
    refine wpOrd_call rfl rfl rfl Tryz.call81 (fun R hR=> ?_)
    go_simp
    refine(Check_any _ _ _ _ tZ tB tF _ (recI ‹_›)).mono ?_
    rintro e w1 ⟨rfl,E203,d203,rfl⟩
    refine hR _ _ ⟨_,rfl,?_,?_⟩
    ·exact exI
    clear hR R
    simp only[Act.put,zp]
    refine oS ?_
    refine oC ?_
    refine oC ?_
    refine oS ?_
    refine wpOrd_nil ?_
  go_wp2_with fail
  all_goals
   refine bodyPost_ret (v:=.tuple #[regV Ac1 nc1 cc1,.bool true]) (by simp[results,Tryz.results65,go_sem]) rfl ?_
   refine⟨Ac1,nc1,cc1,rfl,hnl,⟨l',hid (fun _=>HO.out),?_⟩,exI⟩
   refine OwnR.of_ext (OwnR.moved (X':=(w.alloc (.cells #[.int .i64 g,.int .i64 ct,.slice A n c] 114)).alloc (.cells #[.slice Ac1 nc1 cc1] 34)) (d':=d2) (base:=w.heap.size) Ho2.out tE tE tB) exI
end Go.Proofs.YtekjdeibnfaehaaGreat
set_option linter.unusedSimpArgs false
set_option linter.unusedVariables false
namespace Go.Proofs.YtekjdeibnfaehaaGreat
open Go Go.RowKit
theorem recsEqB_len{a b:List Rec}(h:a.length≠b.length):recsEqB a b=false:=by simp[recsEqB,h]
theorem recsEqB_ne{a b:List Rec}{k:Nat}(h1:k<a.length)(h2:k<b.length)(h:recEqB a[k] b[k]=false):recsEqB a b=false:=by
 rw[←Bool.not_eq_true,recsEqB_iff]
 rintro rfl
 rw[recEqB_iff.2 rfl] at h
 cases h
theorem take_snoc_eq{a b:List Rec}{k:Nat}(h1:k<a.length)(h2:k<b.length)(h:a.take k=b.take k)(h3:recEqB a[k] b[k]=true):a.take (k+1)=b.take (k+1):=by
 rw[List.take_succ_eq_append_getElem h1,List.take_succ_eq_append_getElem h2,h,recEqB_iff.1 h3]
set_option maxRecDepth 100000 in
set_option maxHeartbeats 4000000 in
theorem Equal_any(A B:Option Addr)(n c m d:Nat)(l l':List Rec)(hn:l.length=n)(hm:l'.length=m)(hbig:n≤9223372036854775807)(w:World)(hr:Recs w A l)(hs:Recs w B l'):
 Calls Tryz.prog 129 #[.slice A n c,.slice B m d] w fun e w'=>e= .returned (.bool (recsEqB l l'))∧Ext w w':=by
 by_cases hnm:n=m
 ·subst hnm
  go_enter Tryz.func129,Tryz.ntmps129
  go_wp2_with fail
  go_loopw [13] (fun i wr=> ∃k:Nat,k≤n∧i= .int .i64 k∧Ext w wr∧Hid (l.take k=l'.take k)) (fun i _=>n-(intOf i).toNat)
  case atStart=>exact⟨0,Nat.zero_le _,rfl,exI,hid rfl⟩
  case round=>
   obtain⟨k,hk,rfl,⟨E,dd,rfl⟩,htk⟩:=hrel
   by_cases hlt:k<n
   ·have h1:k<l.length:=by omega
    have h2:k<l'.length:=by omega
    obtain⟨g,o,rfl,hg⟩:=hr.addr tB
    obtain⟨g',o',rfl,hg'⟩:=hs.addr tB
    have hrow:=hr.row h1
    have hrow':=hs.row h2
    cases hq:recEqB l[k] l'[k] with
    | false=>
     have HF:=hid (recsEqB_ne h1 h2 hq)
     obtain⟨r,hrk⟩:∃ r,l[k]=r:=⟨_,rfl⟩
     obtain⟨s,hsk⟩:∃ s,l'[k]=s:=⟨_,rfl⟩
     rw[hrk] at hrow hq
     rw[hsk] at hrow' hq
     obtain⟨h0,h1,h2,h3,h4,h5,h6,h7,h8,h9,h10⟩:=hrow
     obtain⟨g0,g1,g2,g3,g4,g5,g6,g7,g8,g9,g10⟩:=hrow'
     clear hrk hsk
     go_wp2_with fail
     refine wp_region_ord_same (.f 0 (.f 1 (.f 2 (.f 3 (.f 4 (.f 5 (.f 6 (.f 7 (.f 8 .d))))))))) tG tG ?_
     refine oR ?_
     refine wpOrd_nil ?_
     go_wp2_with fail
     go_ret
     exact⟨ret_val (by rw[HF.out];rfl),exI⟩
    | true=>
     have HT:=hid (take_snoc_eq h1 h2 htk.out hq)
     obtain⟨r,hrk⟩:∃ r,l[k]=r:=⟨_,rfl⟩
     obtain⟨s,hsk⟩:∃ s,l'[k]=s:=⟨_,rfl⟩
     rw[hrk] at hrow hq
     rw[hsk] at hrow' hq
     obtain⟨h0,h1,h2,h3,h4,h5,h6,h7,h8,h9,h10⟩:=hrow
     obtain⟨g0,g1,g2,g3,g4,g5,g6,g7,g8,g9,g10⟩:=hrow'
     clear hrk hsk
     go_wp2_with fail
     refine wp_region_ord_same (.f 0 (.f 1 (.f 2 (.f 3 (.f 4 (.f 5 (.f 6 (.f 7 (.f 8 .d))))))))) tG tG ?_
     refine oR ?_
     refine wpOrd_nil ?_
     go_wp2_with fail
     exact⟨⟨k+1,by omega,by go_num,exI,HT⟩,by simp[intOf];omega⟩
   ·obtain rfl:k=n:=by omega
    have hT:Hid (recsEqB l l'=true):=hid (recsEqB_iff.2 (by
     have h:=htk.out
     rwa [List.take_of_length_le tB,List.take_of_length_le tB] at h))
    clear hr hs
    go_wp2_with fail
    go_ret
    exact⟨ret_val (by rw[hT.out];rfl),exI⟩
 ·have hne:=recsEqB_len (a:=l) (b:=l') tB
  have HN:=hid hne
  clear hne
  go_enter Tryz.func129,Tryz.ntmps129
  go_wp2_with fail
  go_ret
  exact⟨ret_val TH,exI⟩
end Go.Proofs.YtekjdeibnfaehaaGreat
namespace Go.Proofs.YtekjdeibnfaehaaGreat
open Go Go.RowKit
theorem pgG_bound(b:List UInt8):0≤pgG b∧pgG b≤4294967296:=by
 have:=genB_bound b
 unfold pgG
 split <;> omega
theorem pgC_bound(b:List UInt8):0≤pgC b∧pgC b≤65536:=by
 have:=cntB_bound b
 unfold pgC
 split <;> omega
theorem recsB_ok(b:List UInt8):∀ r∈recsB b,recOk r=true:=framesL_ok _
theorem recsB_le(b:List UInt8):(recsB b).length≤b.length:=by
 have:=framesL_le (b.drop 10)
 rw[List.length_drop] at this
 unfold recsB
 omega
theorem pgR_all(b:List UInt8):∀ r∈pgR b,recOk r=true:=by
 unfold pgR
 split
 ·exact recsB_ok b
 ·intro r hr;cases hr
theorem pgR_le(b:List UInt8):(pgR b).length≤b.length:=by
 unfold pgR
 split
 ·exact recsB_le b
 ·exact Nat.zero_le _
theorem txtBig_ok{l:List Rec}(h:∀ r∈l,recOk r=true):TxtBig l:=fun r hr=>by
 have:=recOk_text (h r hr)
 omega
theorem OwnR.of_slice{base n c:Nat}{w:World}{A:Option Addr}{l:List Rec}(h:OwnR base w (.slice A n c) l):Recs w A l:=by
 obtain⟨A2,c2,hv,-,hb⟩:=h.slice
 cases hv
 exact hb
theorem memOk_file{D:DriveD}{M:MemD}{f g:FileD}(hd:driveOk D=true)(hi:inB M.file 0 1=true)(hf:fileAt D M.file=f)(hg:fileAt D (1-M.file)=g):
 memOk D M=(decide (g.bytes=[])&&(pageOk f.bytes&&(decide (genB f.bytes=M.gen)&&(decide (longB f.bytes=f.bytes.length)&&(regOk (recsB f.bytes)&&recsEqB (ordL (recsB f.bytes)) M.recs))))):=by
 rw[memOk,hd,hi,hf,hg];rfl
theorem page_facts{b:List UInt8}(h:pageOk b=true):(writtenB (pgG b) (pgC b) (pgR b)).length=longB b:=by
 rw[pgR_ok h,writtenB_length];rfl
set_option maxRecDepth 100000 in
set_option maxHeartbeats 8000000 in
theorem isMemory_any(A0:Option Addr)(n0 c0:Nat)(A1:Option Addr)(n1 c1:Nat)(D:DriveD)(Am:Option Addr)(nm cm:Nat)(M:MemD)(hl0:D.f0.bytes.length=n0)(hl1:D.f1.bytes.length=n1)(hc0:n0≤c0)(hc1:n1≤c1)(hbig0:c0≤9223372036854775807)(hbig1:c1≤9223372036854775807)
 (hm:M.recs.length=nm) (hmb:nm≤9223372036854775807) (w:World) (hb0:Byt w A0 D.f0.bytes) (hb1:Byt w A1 D.f1.bytes) (hr:Recs w Am M.recs):
 Calls Tryz.prog 73 #[drvV A0 n0 c0 D.f0.firm A1 n1 c1 D.f1.firm,memV Am nm cm M.file M.gen] w fun e w'=>e= .returned (.bool (memOk D M))∧Ext w w':=by
 have hdo:=driveOk_eq D n0 n1 hl0 hl1
 cases hk:dOk n0 D.f0.firm n1 D.f1.firm with
 | false=>
  have HM:Hid (memOk D M=false):=hid (by rw[memOk,hdo,hk];rfl)
  clear hdo
  go_enter Tryz.func73,Tryz.ntmps73
  go_wp2_with (go_at_call 56;refine(isDrive_any _ _ _ _ _ _ _ _ _).mono ?_;rintro e w1 ⟨rfl,E1,d1,rfl⟩)
  go_ret
  exact⟨ret_val TI,exI⟩
 | true=>
  have hbnd:n0≤100000∧n1≤100000:=by
   simp only[dOk,fOk,Bool.and_eq_true,decide_eq_true_eq] at hk
   exact⟨hk.1.2,hk.2.2⟩
  obtain⟨hs0,hs1⟩:=hbnd
  rw[hk] at hdo
  cases hf:inB M.file 0 1 with
  | false=>
   have HM:Hid (memOk D M=false):=hid (by rw[memOk,hdo,hf];rfl)
   clear hdo
   go_enter Tryz.func73,Tryz.ntmps73
   go_wp2_with (first|(go_at_call 56;refine(isDrive_any _ _ _ _ _ _ _ _ _).mono ?_;rintro e w1 ⟨rfl,E1,d1,rfl⟩)|(go_at_call 117;refine(in_any _ _ _ _).mono ?_;rintro e w1 ⟨rfl,rfl⟩))
   go_ret
   exact⟨ret_val TI,exI⟩
  | true=>
   have h01:M.file=0∨M.file=1:=by
    simp only[inB_spec] at hf
    omega
   rcases h01 with h01|h01
   ·have HMF:=hid (memOk_file (f:=D.f0) (g:=D.f1) hdo hf (by rw[h01];rfl) (by rw[h01];rfl))
    rw[h01] at hf
    rw[h01]
    clear hdo h01
    by_cases hz:n1=0
    ·have hnil:D.f1.bytes=[]:=List.eq_nil_of_length_eq_zero tB
     have HMF2:Hid (memOk D M=(pageOk D.f0.bytes&&(decide (genB D.f0.bytes=M.gen)&&(decide (longB D.f0.bytes=D.f0.bytes.length)&&(regOk (recsB D.f0.bytes)&&recsEqB (ordL (recsB D.f0.bytes)) M.recs))))):=hid (by rw[HMF.out,hnil];rfl)
     subst hz
     clear HMF hnil
     cases hp:pageOk D.f0.bytes with
     | false=>
      have HM:Hid (memOk D M=false):=hid (by rw[HMF2.out,hp];rfl)
      go_enter Tryz.func73,Tryz.ntmps73
      go_wp2_with (first|(go_at_call 56;refine(isDrive_any _ _ _ _ _ _ _ _ _).mono ?_;rintro e w1 ⟨rfl,E1,d1,rfl⟩)|(go_at_call 117;refine(in_any _ _ _ _).mono ?_;rintro e w1 ⟨rfl,rfl⟩)|(go_at_call 64;refine(pageOf_any _ _ _ _ tZ tB tB tB _ (bytI ‹_›)).mono ?_;rintro e w1 ⟨Ap1,np1,cp1,rfl,hnp1,hop1,E1,d1,rfl⟩))
      go_ret
      exact⟨ret_val TI,exI⟩
     | true=>
      obtain⟨G,hG⟩:∃ G,pgG D.f0.bytes=G:=⟨_,rfl⟩
      obtain⟨C,hC⟩:∃ C,pgC D.f0.bytes=C:=⟨_,rfl⟩
      have hgb:=pgG_bound D.f0.bytes
      have hcb:=pgC_bound D.f0.bytes
      rw[hG] at hgb
      rw[hC] at hcb
      obtain⟨gb0,gb1⟩:=hgb
      obtain⟨cb0,cb1⟩:=hcb
      have hall:=pgR_all D.f0.bytes
      have hle:=pgR_le D.f0.bytes
      have Hgen:Hid (genB D.f0.bytes=G):=hid (by rw[←hG,pgG_ok hp])
      have Hpg:=hid hG
      have Hpc:=hid hC
      have Hlong:Hid ((writtenB G C (pgR D.f0.bytes)).length=longB D.f0.bytes):=hid (by rw[←hG,←hC];exact page_facts hp)
      have HMF3:Hid (memOk D M=(decide (genB D.f0.bytes=M.gen)&&(decide (longB D.f0.bytes=D.f0.bytes.length)&&(regOk (recsB D.f0.bytes)&&recsEqB (ordL (recsB D.f0.bytes)) M.recs)))):=hid (by rw[HMF2.out,hp];rfl)
      have Hrec:Hid (pgR D.f0.bytes=recsB D.f0.bytes):=hid (pgR_ok hp)
      have Hall:=hid hall
      have Hle:=hid hle
      clear HMF2 hG hC hall hle
      cases hgq:(G != M.gen) with
      | false=>
       have HMF4:Hid (memOk D M=(decide (longB D.f0.bytes=D.f0.bytes.length)&&(regOk (recsB D.f0.bytes)&&recsEqB (ordL (recsB D.f0.bytes)) M.recs))):=hid TJ
       clear HMF3
       go_enter Tryz.func73,Tryz.ntmps73
       go_wp2_with (first|(go_at_call 64;refine(pageOf_any _ _ _ D.f0.bytes hl0 tB tB tB _ (bytI ‹_›)).mono ?_;rintro e w1 ⟨Ap1,np1,cp1,rfl,hnp1,hop1,E1,d1,rfl⟩;rw[Hpg.out,Hpc.out,hp];have hrp1:=hop1.of_slice)|(go_at_call 56;refine(isDrive_any _ _ _ _ _ _ _ _ _).mono ?_;rintro e w1 ⟨rfl,E1,d1,rfl⟩)|(go_at_call 117;refine(in_any _ _ _ _).mono ?_;rintro e w1 ⟨rfl,rfl⟩))
       have hnpl:(pgR D.f0.bytes).length=np1:=hnp1.out.symm
       have hnpb:np1≤100000:=by have:=Hle.out;omega
       refine(written_any _ _ _ _ _ (pgR D.f0.bytes) hnpl hnpb Hall.out tB tB tB tB _ (recI ‹_›)).mono ?_
       rintro e w1 ⟨Aw,nw,cw,rfl,hnw,how,E2,d2,rfl⟩
       have Hnpl:=hid hnpl
       clear hnpl
       by_cases hlq:nw=n0
       ·have HMF5:Hid (memOk D M=(regOk (recsB D.f0.bytes)&&recsEqB (ordL (recsB D.f0.bytes)) M.recs)):=hid (by
         rw[HMF4.out,←Hlong.out,←hnw.out,hlq,hl0,decide_eq_true rfl];rfl)
        have hlq1:((nw:Int) != (n0:Int))=false:=by simp[hlq]
        clear HMF4
        cases hro:regOk (pgR D.f0.bytes) with
        | false=>
         have HM:Hid (memOk D M=false):=hid TK
         go_wp2_with fail
         refine(register_any _ _ _ _ _ (pgR D.f0.bytes) Hnpl.out hnpb (txtBig_ok Hall.out) _ (recI ‹_›)).mono ?_
         rintro e w1 ⟨Ag,ng,cg,rfl,hng,⟨lg,hlg,hog⟩,E3,d3,rfl⟩
         rw[hro]
         go_wp2_with fail
         go_ret
         exact⟨ret_val TI,exI⟩
        | true=>
         go_wp2_with fail
         refine(register_any _ _ _ _ _ (pgR D.f0.bytes) Hnpl.out hnpb (txtBig_ok Hall.out) _ (recI ‹_›)).mono ?_
         rintro e w1 ⟨Ag,ng,cg,rfl,hng,⟨lg,hlg,hog⟩,E3,d3,rfl⟩
         rw[hro]
         have hlg2:=hlg.out hro
         subst hlg2
         have HM:Hid (memOk D M=recsEqB (ordL (pgR D.f0.bytes)) M.recs):=hid TK
         have hrg:=hog.of_slice
         have Hlen:Hid ((ordL (pgR D.f0.bytes)).length=ng):=hid (by rw[(ordL_perm _).length_eq];exact hng.out.symm)
         have hngb:ng≤100000:=by have:=Hlen.out;have h2:=(ordL_perm (pgR D.f0.bytes)).length_eq;have h3:=Hnpl.out;omega
         go_wp2_with fail
         refine(Equal_any _ _ _ _ _ _ (ordL (pgR D.f0.bytes)) M.recs Hlen.out hm tB _ (hrg.alloc _) (hr.of_ext exI)).mono ?_
         rintro e w1 ⟨rfl,E4,d4,rfl⟩
         rw[←HM.out]
         obtain⟨bb,hbb⟩:∃ bb,memOk D M=bb:=⟨_,rfl⟩
         rw[hbb]
         have Hbb:=hid hbb
         clear hbb
         go_wp2_with fail
         go_ret
         exact⟨ret_val (by rw[Hbb.out];rfl),exI⟩
       ·have HM:Hid (memOk D M=false):=hid (by
         rw[HMF4.out,←Hlong.out,←hnw.out,hl0,decide_eq_false hlq];rfl)
        have hlq2:((nw:Int) != (n0:Int))=true:=by simp;omega
        go_wp2_with fail
        go_ret
        exact⟨ret_val TI,exI⟩
      | true=>
       have HM:Hid (memOk D M=false):=hid TL
       go_enter Tryz.func73,Tryz.ntmps73
       go_wp2_with (first|(go_at_call 64;refine(pageOf_any _ _ _ D.f0.bytes hl0 tB tB tB _ (bytI ‹_›)).mono ?_;rintro e w1 ⟨Ap1,np1,cp1,rfl,hnp1,hop1,E1,d1,rfl⟩;rw[Hpg.out,Hpc.out,hp])|(go_at_call 56;refine(isDrive_any _ _ _ _ _ _ _ _ _).mono ?_;rintro e w1 ⟨rfl,E1,d1,rfl⟩)|(go_at_call 117;refine(in_any _ _ _ _).mono ?_;rintro e w1 ⟨rfl,rfl⟩))
       go_ret
       exact⟨ret_val TI,exI⟩
    ·have HM:Hid (memOk D M=false):=hid (by
      rw[HMF.out,show decide (D.f1.bytes=[])=false from decide_eq_false (fun h=>hz (by rw[←hl1,h];rfl))];rfl)
     have hz2:0<n1:=by omega
     go_enter Tryz.func73,Tryz.ntmps73
     go_wp2_with (first|(go_at_call 56;refine(isDrive_any _ _ _ _ _ _ _ _ _).mono ?_;rintro e w1 ⟨rfl,E1,d1,rfl⟩)|(go_at_call 117;refine(in_any _ _ _ _).mono ?_;rintro e w1 ⟨rfl,rfl⟩))
     go_ret
     exact⟨ret_val TI,exI⟩
   ·have HMF:=hid (memOk_file (f:=D.f1) (g:=D.f0) hdo hf (by rw[h01];rfl) (by rw[h01];rfl))
    rw[h01] at hf
    rw[h01]
    clear hdo h01
    by_cases hz:n0=0
    ·have hnil:D.f0.bytes=[]:=List.eq_nil_of_length_eq_zero tB
     have HMF2:Hid (memOk D M=(pageOk D.f1.bytes&&(decide (genB D.f1.bytes=M.gen)&&(decide (longB D.f1.bytes=D.f1.bytes.length)&&(regOk (recsB D.f1.bytes)&&recsEqB (ordL (recsB D.f1.bytes)) M.recs))))):=hid (by rw[HMF.out,hnil];rfl)
     subst hz
     clear HMF hnil
     cases hp:pageOk D.f1.bytes with
     | false=>
      have HM:Hid (memOk D M=false):=hid (by rw[HMF2.out,hp];rfl)
      go_enter Tryz.func73,Tryz.ntmps73
      go_wp2_with (first|(go_at_call 56;refine(isDrive_any _ _ _ _ _ _ _ _ _).mono ?_;rintro e w1 ⟨rfl,E1,d1,rfl⟩)|(go_at_call 117;refine(in_any _ _ _ _).mono ?_;rintro e w1 ⟨rfl,rfl⟩)|(go_at_call 64;refine(pageOf_any _ _ _ _ tZ tB tB tB _ (bytI ‹_›)).mono ?_;rintro e w1 ⟨Ap1,np1,cp1,rfl,hnp1,hop1,E1,d1,rfl⟩))
      go_ret
      exact⟨ret_val TI,exI⟩
     | true=>
      obtain⟨G,hG⟩:∃ G,pgG D.f1.bytes=G:=⟨_,rfl⟩
      obtain⟨C,hC⟩:∃ C,pgC D.f1.bytes=C:=⟨_,rfl⟩
      have hgb:=pgG_bound D.f1.bytes
      have hcb:=pgC_bound D.f1.bytes
      rw[hG] at hgb
      rw[hC] at hcb
      obtain⟨gb0,gb1⟩:=hgb
      obtain⟨cb0,cb1⟩:=hcb
      have hall:=pgR_all D.f1.bytes
      have hle:=pgR_le D.f1.bytes
      have Hgen:Hid (genB D.f1.bytes=G):=hid (by rw[←hG,pgG_ok hp])
      have Hpg:=hid hG
      have Hpc:=hid hC
      have Hlong:Hid ((writtenB G C (pgR D.f1.bytes)).length=longB D.f1.bytes):=hid (by rw[←hG,←hC];exact page_facts hp)
      have HMF3:Hid (memOk D M=(decide (genB D.f1.bytes=M.gen)&&(decide (longB D.f1.bytes=D.f1.bytes.length)&&(regOk (recsB D.f1.bytes)&&recsEqB (ordL (recsB D.f1.bytes)) M.recs)))):=hid (by rw[HMF2.out,hp];rfl)
      have Hrec:Hid (pgR D.f1.bytes=recsB D.f1.bytes):=hid (pgR_ok hp)
      have Hall:=hid hall
      have Hle:=hid hle
      clear HMF2 hG hC hall hle
      cases hgq:(G != M.gen) with
      | false=>
       have HMF4:Hid (memOk D M=(decide (longB D.f1.bytes=D.f1.bytes.length)&&(regOk (recsB D.f1.bytes)&&recsEqB (ordL (recsB D.f1.bytes)) M.recs))):=hid TJ
       clear HMF3
       go_enter Tryz.func73,Tryz.ntmps73
       go_wp2_with (first|(go_at_call 64;refine(pageOf_any _ _ _ D.f1.bytes hl1 tB tB tB _ (bytI ‹_›)).mono ?_;rintro e w1 ⟨Ap1,np1,cp1,rfl,hnp1,hop1,E1,d1,rfl⟩;rw[Hpg.out,Hpc.out,hp];have hrp1:=hop1.of_slice)|(go_at_call 56;refine(isDrive_any _ _ _ _ _ _ _ _ _).mono ?_;rintro e w1 ⟨rfl,E1,d1,rfl⟩)|(go_at_call 117;refine(in_any _ _ _ _).mono ?_;rintro e w1 ⟨rfl,rfl⟩))
       have hnpl:(pgR D.f1.bytes).length=np1:=hnp1.out.symm
       have hnpb:np1≤100000:=by have:=Hle.out;omega
       refine(written_any _ _ _ _ _ (pgR D.f1.bytes) hnpl hnpb Hall.out tB tB tB tB _ (recI ‹_›)).mono ?_
       rintro e w1 ⟨Aw,nw,cw,rfl,hnw,how,E2,d2,rfl⟩
       have Hnpl:=hid hnpl
       clear hnpl
       by_cases hlq:nw=n1
       ·have HMF5:Hid (memOk D M=(regOk (recsB D.f1.bytes)&&recsEqB (ordL (recsB D.f1.bytes)) M.recs)):=hid (by
         rw[HMF4.out,←Hlong.out,←hnw.out,hlq,hl1,decide_eq_true rfl];rfl)
        have hlq1:((nw:Int) != (n1:Int))=false:=by simp[hlq]
        clear HMF4
        cases hro:regOk (pgR D.f1.bytes) with
        | false=>
         have HM:Hid (memOk D M=false):=hid TK
         go_wp2_with fail
         refine(register_any _ _ _ _ _ (pgR D.f1.bytes) Hnpl.out hnpb (txtBig_ok Hall.out) _ (recI ‹_›)).mono ?_
         rintro e w1 ⟨Ag,ng,cg,rfl,hng,⟨lg,hlg,hog⟩,E3,d3,rfl⟩
         rw[hro]
         go_wp2_with fail
         go_ret
         exact⟨ret_val TI,exI⟩
        | true=>
         go_wp2_with fail
         refine(register_any _ _ _ _ _ (pgR D.f1.bytes) Hnpl.out hnpb (txtBig_ok Hall.out) _ (recI ‹_›)).mono ?_
         rintro e w1 ⟨Ag,ng,cg,rfl,hng,⟨lg,hlg,hog⟩,E3,d3,rfl⟩
         rw[hro]
         have hlg2:=hlg.out hro
         subst hlg2
         have HM:Hid (memOk D M=recsEqB (ordL (pgR D.f1.bytes)) M.recs):=hid TK
         have hrg:=hog.of_slice
         have Hlen:Hid ((ordL (pgR D.f1.bytes)).length=ng):=hid (by rw[(ordL_perm _).length_eq];exact hng.out.symm)
         have hngb:ng≤100000:=by have:=Hlen.out;have h2:=(ordL_perm (pgR D.f1.bytes)).length_eq;have h3:=Hnpl.out;omega
         go_wp2_with fail
         refine(Equal_any _ _ _ _ _ _ (ordL (pgR D.f1.bytes)) M.recs Hlen.out hm tB _ (hrg.alloc _) (hr.of_ext exI)).mono ?_
         rintro e w1 ⟨rfl,E4,d4,rfl⟩
         rw[←HM.out]
         obtain⟨bb,hbb⟩:∃ bb,memOk D M=bb:=⟨_,rfl⟩
         rw[hbb]
         have Hbb:=hid hbb
         clear hbb
         go_wp2_with fail
         go_ret
         exact⟨ret_val (by rw[Hbb.out];rfl),exI⟩
       ·have HM:Hid (memOk D M=false):=hid (by
         rw[HMF4.out,←Hlong.out,←hnw.out,hl1,decide_eq_false hlq];rfl)
        have hlq2:((nw:Int) != (n1:Int))=true:=by simp;omega
        go_wp2_with fail
        go_ret
        exact⟨ret_val TI,exI⟩
      | true=>
       have HM:Hid (memOk D M=false):=hid TL
       go_enter Tryz.func73,Tryz.ntmps73
       go_wp2_with (first|(go_at_call 64;refine(pageOf_any _ _ _ D.f1.bytes hl1 tB tB tB _ (bytI ‹_›)).mono ?_;rintro e w1 ⟨Ap1,np1,cp1,rfl,hnp1,hop1,E1,d1,rfl⟩;rw[Hpg.out,Hpc.out,hp])|(go_at_call 56;refine(isDrive_any _ _ _ _ _ _ _ _ _).mono ?_;rintro e w1 ⟨rfl,E1,d1,rfl⟩)|(go_at_call 117;refine(in_any _ _ _ _).mono ?_;rintro e w1 ⟨rfl,rfl⟩))
       go_ret
       exact⟨ret_val TI,exI⟩
    ·have HM:Hid (memOk D M=false):=hid (by
      rw[HMF.out,show decide (D.f0.bytes=[])=false from decide_eq_false (fun h=>hz (by rw[←hl0,h];rfl))];rfl)
     have hz2:0<n0:=by omega
     go_enter Tryz.func73,Tryz.ntmps73
     go_wp2_with (first|(go_at_call 56;refine(isDrive_any _ _ _ _ _ _ _ _ _).mono ?_;rintro e w1 ⟨rfl,E1,d1,rfl⟩)|(go_at_call 117;refine(in_any _ _ _ _).mono ?_;rintro e w1 ⟨rfl,rfl⟩))
     go_ret
     exact⟨ret_val TI,exI⟩
end Go.Proofs.YtekjdeibnfaehaaGreat
namespace Go.Proofs.YtekjdeibnfaehaaGreat
open Go Go.RowKit
structure SameE(lo:Nat)(A B:World):Prop where
 size:A.heap.size=B.heap.size
 cell:∀ b o,lo≤b→A.cell? ⟨b,o,none⟩=B.cell? ⟨b,o,none⟩
theorem cell_none_of_size{A:World}{b o:Nat}(h:A.heap.size≤b):A.cell? ⟨b,o,none⟩=none:=by
 simp[World.cell?,Array.getElem?_eq_none h]
theorem SameE.refl(lo:Nat)(A:World):SameE lo A A:=⟨rfl,fun _ _ _=>rfl⟩
theorem SameE.base{lo:Nat}{A B:World}(hs:A.heap.size=B.heap.size)(hl:A.heap.size+1≤lo)(o o':Obj):SameE lo (A.alloc o) (B.alloc o'):=
 ⟨by simp[hs],fun b j hb=>by rw[cell_none_of_size tA,cell_none_of_size tA]⟩
theorem SameE.alloc{lo:Nat}{A B:World}(h:SameE lo A B)(o:Obj):SameE lo (A.alloc o) (B.alloc o):=by
 refine⟨by simp[h.size],fun b j hb=> ?_⟩
 rcases Nat.lt_trichotomy b A.heap.size with hlt|heq|hgt
 ·rw[World.cell?_alloc_past _ _ _ hlt,World.cell?_alloc_past _ _ _ (by rw[←h.size];exact hlt)]
  exact h.cell b j hb
 ·subst heq
  have h1:(A.alloc o).heap[A.heap.size]? =some o:=heap_alloc_new A o
  have h2:(B.alloc o).heap[A.heap.size]? =some o:=by rw[h.size];exact heap_alloc_new B o
  simp only[World.cell?,h1,h2]
 ·rw[cell_none_of_size tA,cell_none_of_size (by simp;rw[←h.size];omega)]
theorem SameE.ext{lo:Nat}{A B:World}(h:SameE lo A B)(E:Array Obj)(d d':Nat):SameE lo (A.ext E d) (B.ext E d'):=by
 refine⟨by simp[h.size],fun b j hb=> ?_⟩
 by_cases hlt:b<A.heap.size
 ·rw[cell?_ext _ _ _ _ _ _ hlt,cell?_ext _ _ _ _ _ _ (by rw[←h.size];exact hlt)]
  exact h.cell b j hb
 ·have h1:(A.ext E d).heap[b]? =E[b-A.heap.size]? :=by
   simp only[World.ext];rw[Array.getElem?_append_right tB]
  have h2:(B.ext E d').heap[b]? =E[b-A.heap.size]? :=by
   simp only[World.ext];rw[Array.getElem?_append_right (by rw[←h.size];omega),h.size]
  simp only[World.cell?,h1,h2]
theorem SameE.drewL{lo:Nat}{A B:World}(h:SameE lo A B):SameE lo A.drew B:=⟨h.size,h.cell⟩
theorem SameE.drewR{lo:Nat}{A B:World}(h:SameE lo A B):SameE lo A B.drew:=⟨h.size,h.cell⟩
def SameL(lo:Nat)(A B:World):Prop:=B.heap.size≤A.heap.size∧∀ b o,lo≤b→b<B.heap.size→A.cell? ⟨b,o,none⟩=B.cell? ⟨b,o,none⟩
theorem SameE.same{lo:Nat}{A B:World}(h:SameE lo A B):SameL lo A B:=⟨Nat.le_of_eq h.size.symm,fun b o hl _=>h.cell b o hl⟩
theorem SameL.extL{lo:Nat}{A B:World}(h:SameL lo A B)(E:Array Obj)(d:Nat):SameL lo (A.ext E d) B:=
 ⟨by have:=h.1;simp;omega,fun b o hl hb=>by rw[cell?_ext _ _ _ _ _ _ (Nat.lt_of_lt_of_le hb h.1)];exact h.2 b o hl hb⟩
theorem SameL.allocL{lo:Nat}{A B:World}(h:SameL lo A B)(ob:Obj):SameL lo (A.alloc ob) B:=
 ⟨by have:=h.1;simp;omega,fun b o hl hb=>by rw[World.cell?_alloc_past _ _ _ (Nat.lt_of_lt_of_le hb h.1)];exact h.2 b o hl hb⟩
theorem SameL.drewL{lo:Nat}{A B:World}(h:SameL lo A B):SameL lo A.drew B:=h
theorem SameL.out{lo:Nat}{A B:World}(h:SameL lo A B):∀ b o,lo≤b→b<B.heap.size→A.cell? ⟨b,o,none⟩=B.cell? ⟨b,o,none⟩:=h.2
theorem wp_region_ord_from{P:Program}{ops:Array Oper}{Q:Exit→Act→World→Prop}{id:Nat}{a:Act}{w:World}(lo:Nat)(l:Plan)(hm:P.follows .mixedOrders=true)
 (ho:(Region.noSelect ops&&ordOk ops l ops.size (Array.replicate ops.size false))=true)
 (h:wpOrd P ops Q (fun w'=> ∀b o,lo≤b→b<w.heap.size→w'.cell? ⟨b,o,none⟩=w.cell? ⟨b,o,none⟩) l a w.drew):(Code.region id ops true).wp P Q a w:=
 wp_region_ord l _ hm ho (fun _ _ _ _=>rfl) h
end Go.Proofs.YtekjdeibnfaehaaGreat
