/- Texts of a proof. -/
import Derived.Test.YtekjdeibnfaehaaGreatKDaf
set_option linter.unusedSimpArgs false
set_option linter.unusedVariables false
namespace Go.Proofs.YtekjdeibnfaehaaGreat
open Go.RowKit
def OwnR(base:Nat)(w:World)(v:Value)(l:List Rec):Prop:=w.ownsRow base 46 11 v l.length (l.flatMap encRec)
theorem OwnR.ext{base:Nat}{w:World}{v:Value}{l:List Rec}(h:OwnR base w v l)(E:Array Obj)(d:Nat):OwnR base (w.ext E d) v l:=ownsRow_ext h E d
theorem OwnR.alloc{base:Nat}{w:World}{v:Value}{l:List Rec}(h:OwnR base w v l)(o:Obj):OwnR base (w.alloc o) v l:=ownsRow_alloc h o
theorem OwnR.none(base:Nat)(w:World):OwnR base w (.slice none 0 0) []:=ownsRow_none base
theorem OwnR.slice{base:Nat}{w:World}{v:Value}{l:List Rec}(h:OwnR base w v l):∃ A c,v= .slice A l.length c∧l.length≤c∧Recs w A l:=by
 obtain⟨A,c,hv,hc,hs⟩:=ownsRow_slice h
 exact⟨A,c,hv,hc,hs⟩
theorem OwnR.base{base base':Nat}{w:World}{v:Value}{l:List Rec}(h:OwnR base w v l)(hb:base'≤base):OwnR base' w v l:=ownsRow_base h hb
theorem OwnR.of_ext{base:Nat}{w w':World}{v:Value}{l:List Rec}(h:OwnR base w v l)(hx:Ext w w'):OwnR base w' v l:=by
 obtain⟨E,d,rfl⟩:=hx
 exact h.ext E d
theorem ownsRow_empty(w:World)(base:Nat)(e:TypeId)(size:Nat)(hb:base≤w.heap.size):(w.alloc (.cells #[] e)).ownsRow base e size (.slice (some ⟨w.heap.size,0,none⟩) 0 0) 0 []:=by
 refine⟨by simp,.inr ⟨w.heap.size,0,#[],rfl,hb,?_,Nat.le_refl _,Nat.zero_le _,by simp,by simp⟩⟩
 simp only[World.alloc]
 exact Array.getElem?_push_size
set_option maxRecDepth 100000 in
set_option maxHeartbeats 1000000 in
theorem Clone_any(A:Option Addr)(c n:Nat)(l:List Rec)(hn:l.length=n)(hbig:n≤1000000)(w:World)(hr:Recs w A l):
 Calls Tryz.prog 90 #[.slice A n c] w fun e w'=> ∃v,e= .returned v∧OwnR w.heap.size w' v l∧Ext w w':=by
 obtain⟨i0,hi,hz0,hz1,hz2⟩:=info_parts info_rec
 have hq:=fun w:World=>Lib.run_eql_slice_nil (P:=Tryz.prog) w 32 46 A n c 0 0 Tryz.underlying32
 rcases A with _|a
 ·have hn0:n=0:=by
   rcases Nat.eq_zero_or_pos n with h|h
   ·exact h
   ·obtain⟨g,o,h,_⟩:=hr.2 tB
    cases h
  have hl:l=[]:=List.eq_nil_of_length_eq_zero tB
  subst hl hn0
  simp only[Option.isNone_none] at hq
  go_enter Tryz.func90,Tryz.ntmps90
  go_wp2_with fail
  go_ret
  exact⟨_,rfl,OwnR.none _ _,Ext.refl _⟩
 ·simp only[Option.isNone_some] at hq
  have hr':Sl 11 w (some a) n (l.flatMap encRec):=hn▸hr
  go_enter Tryz.func90,Tryz.ntmps90
  go_wp2_with (at_builtin;refine wpList_append (w:=w) rfl _ _ 32 rfl 46 i0 _ 11 96 Tryz.underlying32 hi hz0 hz1 hz2 rfl tN rfl ((Ext.refl _).alloc _) (ownsRow_empty _ _ _ _ (Nat.le_refl _)) rfl (hr'.alloc _) (encRec_one _) tO tB ?_;intro v1 E1 d1 hown1)
  go_ret
  refine⟨_,rfl,?_,exI⟩
  subst hn
  unfold OwnR
  simpa using hown1
theorem Clone_own(A:Option Addr)(c n:Nat)(l:List Rec)(hn:l.length=n)(hbig:n≤1000000)(w:World)(hr:Recs w A l):
 Calls Tryz.prog 90 #[.slice A n c] w fun e w'=> ∃A' n' c',e= .returned (.slice A' n' c')∧Hid (n'=l.length)∧OwnR w.heap.size w' (.slice A' n' c') l∧Ext w w':=by
 refine(Clone_any A c n l hn hbig w hr).mono ?_
 rintro e w' ⟨v,rfl,ho,hx⟩
 obtain⟨A',c',rfl,_,_⟩:=ho.slice
 exact⟨_,_,_,rfl,hid rfl,ho,hx⟩
end Go.Proofs.YtekjdeibnfaehaaGreat
namespace Go.Proofs.YtekjdeibnfaehaaGreat
open Go.RowKit
set_option maxHeartbeats 1000000 in
theorem findF_any(r:Rec)(o s:Int)(w:World):
 Calls Tryz.prog 135 #[recV r,.agg #[.int .i64 o,.int .i64 s]] w fun e w'=>e= .returned (.int .i64 (cmpP r.ao r.sq o s))∧Ext w w':=by
 go_enter Tryz.func135,Tryz.ntmps135
 go_wp2_with (go_at_call 122;refine(compare_any _ _ _ _ _).mono ?_;rintro e w1 ⟨rfl,E,d,rfl⟩)
 go_ret
 exact⟨rfl,exI⟩
structure Parts(l:List Rec)(o s:Int)(i j:Nat):Prop where
 lo:∀ t (h:t<l.length),t<i→ltP l[t].ao l[t].sq o s=true
 hi:∀ t (h:t<l.length),j≤t→ltP l[t].ao l[t].sq o s=false
set_option maxRecDepth 100000 in
set_option maxHeartbeats 4000000 in
theorem Search_any(A:Option Addr)(c n:Nat)(l:List Rec)(o s:Int)(hn:l.length=n)(hbig:n≤1000000)(hs:Sorted l)(w:World)(hr:Recs w A l):
 Calls Tryz.prog 134 #[.slice A n c,.agg #[.int .i64 o,.int .i64 s],.func (.func 135) #[] #[]] w
  fun e w'=>e= .returned (.tuple #[.int .i64 (posR l o s),.bool (hasR l o s)])∧Ext w w':=by
 go_enter Tryz.func134,Tryz.ntmps134
 go_wp2_with fail
 go_loopw [9,10] (fun i j wr=> ∃a b:Nat,a≤b∧b≤n∧i= .int .i64 a∧j= .int .i64 b∧Ext (w.alloc (.cells #[.int .i64 o,.int .i64 s] 44)) wr∧Parts l o s a b) (fun i j _=>(intOf j).toNat-(intOf i).toNat)
 case atStart=>exact⟨0,n,Nat.zero_le _,Nat.le_refl _,rfl,rfl,Ext.refl _,⟨fun t _ h=>absurd h (Nat.not_lt_zero _),fun t h1 h2=>by omega⟩⟩
 case round=>
  obtain⟨a,b,hab,hb,rfl,rfl,⟨E0,d0,rfl⟩,hp⟩:=hrel
  by_cases hlt:a<b
  ·have hm:(a+b) / 2<l.length:=by omega
   obtain⟨g,of,rfl,hg⟩:=hr.addr tB
   obtain⟨h0,h1,h2,h3,h4,h5,h6,h7,h8,h9,h10⟩:=hr.row hm
   obtain⟨r,hrk⟩:∃ r,l[(a+b) / 2]=r:=⟨_,rfl⟩
   rw[hrk] at h0 h1 h2 h3 h4 h5 h6 h7 h8 h9 h10
   have Hrk:=hid hrk
   clear hrk
   have hi1:((a:Int)+(b:Int)) / 2<(n:Int):=by omega
   have hi0:(0:Int)≤((a:Int)+(b:Int)) / 2:=by omega
   have hi4:(((a:Int)+(b:Int)) / 2).toNat=(a+b) / 2:=by omega
   by_cases hc:cmpP r.ao r.sq o s<0
   ·have hp':Parts l o s ((a+b) / 2+1) b:=by
     rw[cmpP_neg] at hc
     refine⟨fun t h1 h2=> ?_,hp.hi⟩
     have:=sorted_mono hs (i:=t) (j:=(a+b) / 2) tB hm (o:=o) (s:=s) (by rw[Hrk.out];exact hc)
     exact this
    have Hp:=hid hp'
    clear hp hp'
    go_wp2_with fail
    refine wp_region_ord_same (.f 0 (.f 1 (.f 2 (.f 3 (.f 4 (.f 5 (.a 6 (.f 7 .d)))))))) tG tG ?_
    refine oR ?_
    refine wpOrd_act rfl rfl (fun K hK=> ?_)
    go_simp
    refine(findF_any _ _ _ _).mono ?_
    rintro e w1 ⟨rfl,E1,d1,rfl⟩
    refine hK _ _ ⟨?_,?_⟩
    ·exact keepI
    clear hK K
    try simp only[Act.put,zp]
    refine oR ?_
    refine wpOrd_nil ?_
    go_wp2_with fail
    exact⟨⟨(a+b) / 2+1,b,by omega,by omega,congrArg (Value.int .i64) tB,rfl,exI,Hp.out⟩,by simp[intOf];omega⟩
   ·have hp':Parts l o s a ((a+b) / 2):=by
     refine⟨hp.lo,fun t h1 h2=> ?_⟩
     rw[←Bool.not_eq_true]
     intro h3
     have:=sorted_mono hs (i:=(a+b) / 2) (j:=t) h2 h1 (o:=o) (s:=s) h3
     rw[Hrk.out,←cmpP_neg] at this
     exact hc this
    have Hp:=hid hp'
    clear hp hp'
    go_wp2_with fail
    refine wp_region_ord_same (.f 0 (.f 1 (.f 2 (.f 3 (.f 4 (.f 5 (.a 6 (.f 7 .d)))))))) tG tG ?_
    refine oR ?_
    refine wpOrd_act rfl rfl (fun K hK=> ?_)
    go_simp
    refine(findF_any _ _ _ _).mono ?_
    rintro e w1 ⟨rfl,E1,d1,rfl⟩
    refine hK _ _ ⟨?_,?_⟩
    ·exact keepI
    clear hK K
    try simp only[Act.put,zp]
    refine oR ?_
    refine wpOrd_nil ?_
    go_wp2_with fail
    exact⟨⟨a,(a+b) / 2,by omega,by omega,rfl,congrArg (Value.int .i64) tB,exI,Hp.out⟩,by simp[intOf];omega⟩
  ·obtain rfl:a=b:=by omega
   have hpos:posR l o s=a:=posR_eq a tB hp.lo hp.hi
   by_cases han:a<n
   ·have hm:a<l.length:=by omega
    obtain⟨g,of,rfl,hg⟩:=hr.addr tB
    have hrow:=hr.row hm
    have hhas:hasR l o s=atB l[a] o s:=by
     rw[Bool.eq_iff_iff,hasR_pos hs,hpos]
     exact⟨fun⟨_,h⟩=>h,fun h=>⟨hm,h⟩⟩
    obtain⟨r,hrk⟩:∃ r,l[a]=r:=⟨_,rfl⟩
    rw[hrk] at hrow hhas
    obtain⟨h0,h1,h2,h3,h4,h5,h6,h7,h8,h9,h10⟩:=hrow
    have hz:(cmpP r.ao r.sq o s==0)=atB r o s:=by
     rw[Bool.eq_iff_iff,beq_iff_eq,cmpP_zero]
     simp[atB]
    have Hpos:=hid hpos
    have Hhas:=hid hhas
    clear hp hpos hhas hrk
    go_wp2_with fail
    refine wp_region_ord_same (.f 0 (.f 1 (.f 2 (.f 3 (.f 4 (.f 5 (.f 6 (.f 7 (.f 8 (.f 9 (.f 10 (.a 11 (.f 12 (.f 13 (.f 14 (.f 15 .d)))))))))))))))) tG tG ?_
    refine oR ?_
    refine ord_bool (j:=4) rfl (fun hb4=> ?_) (fun hb4=> ?_)
    rotate_left
    focus
     try(exfalso;first|(simp at hb4;done)|(simp at hb4;omega))
     all_goals
      (try simp only[hb4])
      refine oR ?_
      refine wpOrd_actPass rfl rfl ?_ ?_
      ·exact keepI
      simp only[Act.put,zp]
      refine oR ?_
      refine wpOrd_nil ?_
    rotate_right
    focus
     try(exfalso;first|(simp at hb4;done)|(simp at hb4;omega))
     all_goals
      (try simp only[hb4])
      refine oR ?_
      refine wpOrd_act rfl rfl (fun K hK=> ?_)
      go_simp
      refine(findF_any _ _ _ _).mono ?_
      rintro e w1 ⟨rfl,E1,d1,rfl⟩
      refine hK _ _ ⟨?_,?_⟩
      ·exact keepI
      clear hK K
      try simp only[Act.put,zp]
      refine oR ?_
      refine wpOrd_nil ?_
    go_wp2_with fail
    go_ret2
    exact⟨ret_val tY,exI⟩
   ·have hhas:hasR l o s=false:=by
     rw[←Bool.not_eq_true,hasR_pos hs,hpos]
     rintro⟨h,_⟩
     omega
    have Hpos:=hid hpos
    have Hhas:=hid hhas
    clear hp hpos hhas
    go_wp2_with fail
    refine wp_region_ord_same (.f 0 (.f 1 (.f 2 (.f 3 (.f 4 (.f 5 (.f 6 (.f 7 (.f 8 (.f 9 (.f 10 (.a 11 (.f 12 (.f 13 (.f 14 (.f 15 .d)))))))))))))))) tG tG ?_
    refine oR ?_
    refine ord_bool (j:=4) rfl (fun hb4=> ?_) (fun hb4=> ?_)
    rotate_left
    focus
     try(exfalso;first|(simp at hb4;done)|(simp at hb4;omega))
     all_goals
      (try simp only[hb4])
      refine oR ?_
      refine wpOrd_actPass rfl rfl ?_ ?_
      ·exact keepI
      simp only[Act.put,zp]
      refine oR ?_
      refine wpOrd_nil ?_
    rotate_right
    focus
     try(exfalso;first|(simp at hb4;done)|(simp at hb4;omega))
     all_goals
      (try simp only[hb4])
      refine oR ?_
      refine wpOrd_act rfl rfl (fun K hK=> ?_)
      go_simp
      refine(findF_any _ _ _ _).mono ?_
      rintro e w1 ⟨rfl,E1,d1,rfl⟩
      refine hK _ _ ⟨?_,?_⟩
      ·exact keepI
      clear hK K
      try simp only[Act.put,zp]
      refine oR ?_
      refine wpOrd_nil ?_
    go_wp2_with fail
    go_ret2
    exact⟨ret_val tY,exI⟩
set_option maxHeartbeats 1000000 in
theorem find_any(A:Option Addr)(c n:Nat)(l:List Rec)(o s:Int)(hn:l.length=n)(hbig:n≤1000000)(hs:Sorted l)(w:World)(hr:Recs w A l):
 Calls Tryz.prog 82 #[regV A n c,.agg #[.int .i64 o,.int .i64 s]] w fun e w'=>e= .returned (.tuple #[.int .i64 (posR l o s),.bool (hasR l o s)])∧Ext w w':=by
 go_enter Tryz.func82,Tryz.ntmps82
 go_wp2_with (go_at_call 134;refine(Search_any _ _ _ _ _ _ tZ tB tF _ (recI ‹_›)).mono ?_;rintro e w1 ⟨rfl,E1,d1,rfl⟩)
 go_ret2
 exact⟨rfl,exI⟩
end Go.Proofs.YtekjdeibnfaehaaGreat
namespace Go.Proofs.YtekjdeibnfaehaaGreat
open Go.RowKit
def findI(l:List Rec)(o s:Int):Int:=if hasR l o s=true then(l.findIdx fun r=>atB r o s:Nat) else -1
theorem findI_hit{l:List Rec}{o s:Int}{k:Nat}(hk:k<l.length)(h:atB l[k] o s=true)(hno:∀ t (ht:t<l.length),t<k→atB l[t] o s=false):findI l o s=k:=by
 have hh:hasR l o s=true:=List.any_eq_true.2 ⟨_,List.getElem_mem hk,h⟩
 rw[findI,if_pos hh,(List.findIdx_eq hk).2 ⟨h,fun j hj=>hno j tB hj⟩]
theorem findI_none{l:List Rec}{o s:Int}(hno:∀ t (ht:t<l.length),atB l[t] o s=false):findI l o s= -1:=by
 have hh:hasR l o s=false:=by
  rw[hasR,List.any_eq_false]
  intro x hx
  obtain⟨t,ht,rfl⟩:=List.getElem_of_mem hx
  rw[hno t ht];simp
 rw[findI,hh];rfl
theorem findI_pos{l:List Rec}(h:Sorted l)(o s:Int)(hh:hasR l o s=true):findI l o s=posR l o s:=by
 obtain⟨ht,ha⟩:=(hasR_pos h o s).1 hh
 refine findI_hit ht ha ?_
 intro t h1 h2
 have h3:=(posR_spec h o s).1 t h1 h2
 rw[←Bool.not_eq_true]
 simp only[atB,Bool.and_eq_true,decide_eq_true_eq]
 rintro⟨e1,e2⟩
 rw[e1,e2,ltP_irrefl] at h3
 cases h3
set_option maxRecDepth 100000 in
set_option maxHeartbeats 4000000 in
theorem rfind_any(A:Option Addr)(c n:Nat)(l:List Rec)(o s:Int)(hn:l.length=n)(hbig:n≤1000000)(w:World)(hr:Recs w A l):
 Calls Tryz.prog 85 #[regV A n c,.agg #[.int .i64 o,.int .i64 s]] w fun e w'=>e= .returned (.int .i64 (findI l o s))∧Ext w w':=by
 go_enter Tryz.func85,Tryz.ntmps85
 go_wp2_with fail
 go_loopw [5] (fun i wr=> ∃k:Nat,k≤n∧i= .int .i64 k∧Ext ((w.alloc (.cells #[.slice A n c] 34)).alloc (.cells #[.int .i64 o,.int .i64 s] 44)) wr∧(∀t (ht:t<l.length),t<k→atB l[t] o s=false)) (fun i _=>n-(intOf i).toNat)
 case atStart=>exact⟨0,Nat.zero_le _,rfl,Ext.refl _,fun t _ h=>absurd h (Nat.not_lt_zero _)⟩
 case round=>
  obtain⟨k,hk,rfl,⟨E0,d0,rfl⟩,hno⟩:=hrel
  have Hno:=hid hno
  clear hno
  by_cases hlt:k<n
  ·have hm:k<l.length:=by omega
   obtain⟨g,of,rfl,hg⟩:=hr.addr tB
   obtain⟨h0,h1,_⟩:=hr.row hm
   obtain⟨r,hrk⟩:∃ r,l[k]=r:=⟨_,rfl⟩
   rw[hrk] at h0 h1
   have Hrk:=hid hrk
   clear hrk
   have hpl:plcEqB r.ao r.sq o s=atB r o s:=rfl
   cases hat:atB r o s with
   | true=>
    have hf:findI l o s=k:=findI_hit hm (by rw[Hrk.out];exact hat) (fun t h1 h2=>Hno.out t h1 h2)
    have Hf:=hid hf
    rw[hat] at hpl
    clear hf hat
    go_wp2_with fail
    refine wp_region_ord_same (.f 0 (.f 1 (.f 2 (.f 3 (.f 4 (.f 5 (.f 6 (.f 7 .d)))))))) tG tG ?_
    refine oR ?_
    refine wpOrd_nil ?_
    go_wp2_with fail
    go_ret
    exact⟨ret_val t7,exI⟩
   | false=>
    have hno':∀ t (ht:t<l.length),t<k+1→atB l[t] o s=false:=fun t h1 h2=>by
     by_cases he:t=k
     ·subst he;rw[Hrk.out];exact hat
     ·exact Hno.out t h1 tB
    have Hno':=hid hno'
    rw[hat] at hpl
    clear hno' hat
    go_wp2_with fail
    refine wp_region_ord_same (.f 0 (.f 1 (.f 2 (.f 3 (.f 4 (.f 5 (.f 6 (.f 7 .d)))))))) tG tG ?_
    refine oR ?_
    refine wpOrd_nil ?_
    go_wp2_with fail
    exact⟨⟨k+1,by omega,by go_num,exI,Hno'.out⟩,by simp[intOf];omega⟩
  ·obtain rfl:k=n:=by omega
   have hf:findI l o s= -1:=findI_none (fun t ht=>Hno.out t ht tB)
   have Hf:=hid hf
   clear hf
   go_wp2_with fail
   go_ret
   exact⟨ret_val t7,exI⟩
end Go.Proofs.YtekjdeibnfaehaaGreat
