/- Texts of a proof. -/
import Derived.Test.YtekjdeibnfaehaaGreatKDat
import Derived.Test.YtekjdeibnfaehaaGreatKDar
set_option linter.unusedSimpArgs false
set_option linter.unusedVariables false
namespace Go.Proofs.YtekjdeibnfaehaaGreat
open Go Go.RowKit
theorem posP_spec{l:List Plc}(h:SortedP l)(o s:Int):(∀t (_:t<l.length),t<posP l o s→ltP l[t].o l[t].s o s=true)∧(∀t (_:t<l.length),posP l o s≤t→ltP l[t].o l[t].s o s=false):=by
 have hp:=posR_spec (sortedP_R h) o s
 rw[posP_R] at hp
 refine⟨fun t ht h1=> ?_,fun t ht h1=> ?_⟩
 ·have:=hp.1 t (by simpa using ht) h1
  simpa [toR] using this
 ·have:=hp.2 t (by simpa using ht) h1
  simpa [toR] using this
theorem ahead_lo{l:List Plc}(h:SortedP l){o s:Int}{k:Nat}(hk:k<l.length)(hp:k<posP l o s):ltP o s (pAt l k).o (pAt l k).s=false:=by
 rw[pAt_of hk]
 exact ltP_asymm ((posP_spec h o s).1 k hk hp)
theorem ahead_hi{l:List Plc}(h:SortedP l){o s:Int}{k:Nat}(hk:k<l.length)(hn:knowsB l o s=false)(hp:posP l o s≤k):ltP o s (pAt l k).o (pAt l k).s=true:=by
 rw[pAt_of hk]
 have h1:=(posP_spec h o s).2 k hk hp
 cases h2:ltP o s l[k].o l[k].s with
 | true=>rfl
 | false=>
  obtain⟨e1,e2⟩:=ltP_total h1 h2
  have:=knowsB_hit (o:=o) (s:=s) hk (by rw[pAt_of hk];exact e1) (by rw[pAt_of hk];exact e2)
  rw[hn] at this
  cases this
def outK(l:List Plc)(o s:Int)(k:Nat):List Plc:=if posP l o s<k then l.take (posP l o s)++⟨o,s⟩::(l.take k).drop (posP l o s) else l.take k
theorem outK_zero(l:List Plc)(o s:Int):outK l o s 0=[]:=by simp[outK]
theorem outK_len(l:List Plc)(o s:Int)(k:Nat):(outK l o s k).length≤k+1:=by
 unfold outK
 split
 ·simp only[List.length_append,List.length_cons,List.length_take,List.length_drop];omega
 ·simp only[List.length_take];omega
theorem outK_done{l:List Plc}{o s:Int}{k:Nat}(hk:k<l.length)(hp:posP l o s<k):outK l o s (k+1)=outK l o s k++[pAt l k]:=by
 unfold outK
 rw[if_pos tB,if_pos hp,List.take_succ_eq_append_getElem hk,List.drop_append_of_le_length tA,pAt_of hk]
 simp
theorem outK_new{l:List Plc}{o s:Int}{k:Nat}(hk:k<l.length)(hp:posP l o s=k):outK l o s (k+1)=(outK l o s k++[⟨o,s⟩])++[pAt l k]:=by
 unfold outK
 rw[hp,if_pos tB,if_neg tB,List.take_succ_eq_append_getElem hk,List.drop_append_of_le_length tA,pAt_of hk]
 simp
theorem outK_no{l:List Plc}{o s:Int}{k:Nat}(hk:k<l.length)(hp:k<posP l o s):outK l o s (k+1)=outK l o s k++[pAt l k]:=by
 unfold outK
 rw[if_neg tB,if_neg tB,List.take_succ_eq_append_getElem hk,pAt_of hk]
theorem outK_end_true{l:List Plc}{o s:Int}(hn:knowsB l o s=false)(hp:posP l o s<l.length):outK l o s l.length=learnL l o s:=by
 rw[learnL,if_neg (by rw[hn];simp),outK,if_pos hp,List.take_length]
theorem outK_end_false{l:List Plc}{o s:Int}(hn:knowsB l o s=false)(hp:¬ posP l o s<l.length):outK l o s l.length++[⟨o,s⟩]=learnL l o s:=by
 have h1:posP l o s=l.length:=by have:posP l o s≤l.length:=List.countP_le_length;omega
 rw[learnL,if_neg (by rw[hn];simp),outK,if_neg hp,h1,List.take_length,List.drop_length]
end Go.Proofs.YtekjdeibnfaehaaGreat
set_option linter.unusedSimpArgs false
set_option linter.unusedVariables false
namespace Go.Proofs.YtekjdeibnfaehaaGreat
open Go Go.RowKit
theorem wpList_aplc{P:Program}(hP:P=Tryz.prog){ops:Array Oper}{rest:List Oper}{o:Oper}{a:Act}{Q:Exit→Act→World→Prop}{W:World}(X:World)(N:Nat)(hN:N=X.heap.size)(hgd:o.guard=none)(s x:Operand)
 (ho:o.op= .call {callee:=.builtin .append,args:=#[s,x],argTypes:=#[71,71]}) {v:Value} {l:List Plc} (p:Plc) (hs:a.eval s=v) (hx:Ext X W) (hown:OwnP N W v l)
 {A:Option Addr} {c:Nat} (hv:a.eval x= .slice A 1 c) (hr:Sl 2 W A 1 (encP p)) (hlen:l.length≤1000000)
 (h:∀ v' E d,OwnP N (X.ext E d) v' (l++[p])→wpList P ops Q rest (a.put o.dst v') (X.ext E d)):wpList P ops Q (o::rest) a W:=by
 subst hP hN
 obtain⟨i0,hi,hz0,hz1,hz2⟩:=info_parts info_plc
 refine wpList_append (w:=X) hgd s x 71 ho 44 i0 _ 2 16 Tryz.underlying71 hi hz0 hz1 hz2 rfl tN hs hx hown hv hr (fun u hu=>encP_one [p] u (by simpa using hu)) tO tB fun v' E d h2=>h v' E d ?_
 unfold OwnP
 rw[List.length_append,List.flatMap_append]
 simpa using h2
theorem plc_box{W:World}{g:Nat}(p:Plc)(hg:g=W.heap.size):Sl 2 (W.alloc (.cells #[.int .i64 p.o,.int .i64 p.s] 44)) (some ⟨g,0,none⟩) 1 (encP p):=by
 have hb:BoxC (W.alloc (.cells #[.int .i64 p.o,.int .i64 p.s] 44)) g (encP p) 44:=BoxC.new_at _ _ hg
 exact⟨rfl,fun _=>⟨g,0,rfl,hb.lt,fun j u hu=>by rw[Nat.zero_add];exact hb.cell hu⟩⟩
theorem OwnP.three{base:Nat}{w:World}{v:Value}{l:List Plc}(h:OwnP base w v l):∃ A n c,v= .slice A n c:=by
 obtain⟨A,c,h,_⟩:=h.slice
 exact⟨A,_,c,h⟩
theorem OwnP.out{base:Nat}{w:World}{v:Value}{l:List Plc}(h:OwnP base w v l):∃ t:SlT,v= .slice t.A t.n t.c∧PlcA base w t l:=by
 obtain⟨A,c,rfl,hc,hs⟩:=h.slice
 exact⟨⟨A,l.length,c⟩,rfl,⟨rfl,hc,h.cap.2,hs,fun _ a ha=>(h.lies a ha).1⟩⟩
set_option maxRecDepth 100000 in
set_option maxHeartbeats 4000000 in
theorem learnt_any(A:Option Addr)(n c:Nat)(l:List Plc)(o s:Int)(hn:l.length=n)(hbig:n≤100000)(hso:SortedP l)(w:World)(hr:Sl 2 w A n (l.flatMap encP)):
 Calls Tryz.prog 115 #[.slice A n c,.agg #[.int .i64 o,.int .i64 s]] w fun e w'=> ∃t:SlT,e= .returned (.slice t.A t.n t.c)∧PlcA w.heap.size w' t (learnL l o s)∧Ext w w':=by
 obtain⟨i0,hi,hz0,hz1,hz2⟩:=info_parts info_plc
 obtain⟨B,hB⟩:∃ B:Nat,w.heap.size=B:=⟨_,rfl⟩
 have HB:=hid hB
 clear hB
 go_enter Tryz.func115,Tryz.ntmps115
 go_wp2_with fail
 refine(rknows_any A n c l o s hn tB _ (hr.of_ext exI)).mono ?_
 rintro e P1 ⟨rfl,x1⟩
 have X1:Hid (Ext w P1):=hid (Ext.trans exI x1)
 have b1:BoxC P1 B [.int .i64 o,.int .i64 s] 44:=BoxC.of_ext (BoxC.new_at _ _ HB.out.symm) x1
 simp only[HB.out]
 have p0:=b1.cell (i:=0) rfl
 have p1:=b1.cell (i:=1) rfl
 have pB:=b1.lt
 have hsz:B≤P1.heap.size:=by omega
 have hr:=hr.of_ext X1.out
 clear x1 b1
 cases hk:knowsB l o s with
 | true=>
  have HL:Hid (learnL l o s=l):=hid (by rw[learnL,if_pos hk])
  clear p0 p1
  go_wp2_with (at_builtin;refine wpList_append (w:=P1) rfl _ _ 71 rfl 44 i0 _ 2 16 Tryz.underlying71 hi hz0 hz1 hz2 rfl tN rfl ((Ext.refl _).alloc _) (ownsRow_empty _ _ _ _ (Nat.le_refl _)) rfl (hr.alloc _) (encP_one _) tO tB ?_;intro v1 E1 d1 hown1)
  have hown2:OwnP P1.heap.size (P1.ext E1 d1) v1 l:=by unfold OwnP;rw[hn];simpa using hown1
  obtain⟨t,rfl,ht⟩:=hown2.out
  go_ret
  refine⟨t,rfl,?_,X1.out.trans ⟨_,_,rfl⟩⟩
  rw[HL.out]
  exact ht.mono (by rw[HB.out];exact hsz)
 | false=>
  have Hk:=hid hk
  have Hso:=hid hso
  have Hsz:=hid hsz
  clear hk hso hsz
  go_wp2_with fail
  go_loopw [5,6,7] (fun v dn i wr=> ∃(k:Nat) (b:Bool),k≤n∧i= .int .i64 k∧dn= .bool b∧Hid (b=decide (posP l o s<k))∧Ext P1 wr∧OwnP P1.heap.size wr v (outK l o s k)) (fun _ _ i _=>n-(intOf i).toNat)
  case atStart=>exact⟨0,false,Nat.zero_le _,rfl,rfl,hid rfl,Ext.refl _,by rw[outK_zero];exact OwnP.none _ _⟩
  case round=>
   obtain⟨k,b,hkn,rfl,rfl,hb,⟨E0,d0,rfl⟩,hown⟩:=hrel
   have Hown:=hid hown
   have hol:=outK_len l o s k
   obtain⟨At,nt,ct,rfl⟩:=hown.three
   clear hown
   by_cases hlt:k<n
   ·have hki:(k:Int)<n:=by omega
    have hkl:k<l.length:=by omega
    obtain⟨g,of,rfl,hg,hrow⟩:=plcs_row hr hn tB
    obtain⟨x0,x1⟩:=hrow k hlt
    have o1:=outK_done (o:=o) (s:=s) hkl
    have o2:=outK_new (o:=o) (s:=s) hkl
    have o3:=outK_no (o:=o) (s:=s) hkl
    have a1:=ahead_lo Hso.out (o:=o) (s:=s) hkl
    have a2:=ahead_hi Hso.out hkl Hk.out
    obtain⟨p,hp⟩:∃ p,pAt l k=p:=⟨_,rfl⟩
    rw[hp] at x0 x1 o1 o2 o3 a1 a2
    clear hrow hp
    have h3:posP l o s<k∨posP l o s=k∨k<posP l o s:=by omega
    rcases h3 with h3|h3|h3
    ·obtain rfl:b=true:=by rw[hb.out];exact decide_eq_true h3
     have O1:=hid (o1 h3)
     have H3:=hid h3
     clear o1 o2 o3 a1 a2 h3 hb
     go_wp2_with fail
     refine wp_region_ord_same (.f 0 (.f 1 (.f 2 (.f 3 (.f 4 (.f 5 (.f 6 (.f 7 (.a 8 (.f 9 .d)))))))))) tG tG ?_
     refine oR ?_
     refine ord_bool (j:=2) rfl (fun hb2=> ?_) (fun hb2=> ?_)
     rotate_left
     focus
      try(exfalso;first|(simp at hb2;done)|(simp at hb2;omega))
      all_goals
       (try simp only[hb2])
       refine oR ?_
       refine wpOrd_actPass rfl rfl ?_ ?_
       ·exact keepI
       simp only[Act.put,zp]
       refine oR ?_
       refine wpOrd_nil ?_
     rotate_right
     focus
      try(exfalso;first|(simp at hb2;done)|(simp at hb2;omega))
      all_goals
       (try simp only[hb2])
       refine oR ?_
       refine wpOrd_call rfl rfl rfl Tryz.call136 (fun R hR=> ?_)
       go_simp
       refine(Ahead_any _ _ _ _ _).mono ?_
       rintro e w1 ⟨rfl,E1,d1,rfl⟩
       refine hR _ _ ⟨_,rfl,?_,?_⟩
       ·exact keepI
       clear hR R
       simp only[Act.put,zp]
       refine oR ?_
       refine wpOrd_nil ?_
     go_wp2_with (at_builtin;refine wpList_aplc rfl P1 _ rfl rfl _ _ rfl p rfl tc td rfl (plc_box p qB) tB (fun v1 E1 d1 ho1=> ?_);have Ho1:=hid ho1;clear ho1)
     exact⟨⟨k+1,true,by omega,by go_num,rfl,hid (decide_eq_true (by have:=H3.out;omega)).symm,exI,by rw[O1.out];exact Ho1.out⟩,by simp[intOf];omega⟩
    ·obtain rfl:b=false:=by rw[hb.out];exact decide_eq_false tB
     have O2:=hid (o2 h3)
     have hah:=a2 tB
     have H3:=hid h3
     clear o1 o2 o3 a1 a2 h3 hb
     go_wp2_with fail
     refine wp_region_ord_same (.f 0 (.f 1 (.f 2 (.f 3 (.f 4 (.f 5 (.f 6 (.f 7 (.a 8 (.f 9 .d)))))))))) tG tG ?_
     refine oR ?_
     refine ord_bool (j:=2) rfl (fun hb2=> ?_) (fun hb2=> ?_)
     rotate_left
     focus
      try(exfalso;first|(simp at hb2;done)|(simp at hb2;omega))
      all_goals
       (try simp only[hb2])
       refine oR ?_
       refine wpOrd_actPass rfl rfl ?_ ?_
       ·exact keepI
       simp only[Act.put,zp]
       refine oR ?_
       refine wpOrd_nil ?_
     rotate_right
     focus
      try(exfalso;first|(simp at hb2;done)|(simp at hb2;omega))
      all_goals
       (try simp only[hb2])
       refine oR ?_
       refine wpOrd_call rfl rfl rfl Tryz.call136 (fun R hR=> ?_)
       go_simp
       refine(Ahead_any _ _ _ _ _).mono ?_
       rintro e w1 ⟨rfl,E1,d1,rfl⟩
       refine hR _ _ ⟨_,rfl,?_,?_⟩
       ·exact keepI
       clear hR R
       simp only[Act.put,zp]
       refine oR ?_
       refine wpOrd_nil ?_
     go_wp2_with (first|(at_builtin;refine wpList_aplc rfl P1 _ rfl rfl _ _ rfl ⟨o,s⟩ rfl tc td rfl (plc_box ⟨o,s⟩ qB) tB (fun v1 E1 d1 ho1=> ?_);obtain⟨Av1,nv1,cv1,rfl⟩:=ho1.three;have Ho1:=hid ho1;clear ho1)|(at_builtin;refine wpList_aplc rfl P1 _ rfl rfl _ _ rfl p rfl tc (by exact Ho1.out.of_ext exI) rfl (plc_box p qB) (by simp only[List.length_append,List.length_cons,List.length_nil];omega) (fun v2 E2 d2 ho2=> ?_);have Ho2:=hid ho2;clear ho2))
     exact⟨⟨k+1,true,by omega,by go_num,rfl,hid (decide_eq_true (by have:=H3.out;omega)).symm,exI,by rw[O2.out];exact Ho2.out⟩,by simp[intOf];omega⟩
    ·obtain rfl:b=false:=by rw[hb.out];exact decide_eq_false tB
     have O3:=hid (o3 h3)
     have hah:=a1 h3
     have H3:=hid h3
     clear o1 o2 o3 a1 a2 h3 hb
     go_wp2_with fail
     refine wp_region_ord_same (.f 0 (.f 1 (.f 2 (.f 3 (.f 4 (.f 5 (.f 6 (.f 7 (.a 8 (.f 9 .d)))))))))) tG tG ?_
     refine oR ?_
     refine ord_bool (j:=2) rfl (fun hb2=> ?_) (fun hb2=> ?_)
     rotate_left
     focus
      try(exfalso;first|(simp at hb2;done)|(simp at hb2;omega))
      all_goals
       (try simp only[hb2])
       refine oR ?_
       refine wpOrd_actPass rfl rfl ?_ ?_
       ·exact keepI
       simp only[Act.put,zp]
       refine oR ?_
       refine wpOrd_nil ?_
     rotate_right
     focus
      try(exfalso;first|(simp at hb2;done)|(simp at hb2;omega))
      all_goals
       (try simp only[hb2])
       refine oR ?_
       refine wpOrd_call rfl rfl rfl Tryz.call136 (fun R hR=> ?_)
       go_simp
       refine(Ahead_any _ _ _ _ _).mono ?_
       rintro e w1 ⟨rfl,E1,d1,rfl⟩
       refine hR _ _ ⟨_,rfl,?_,?_⟩
       ·exact keepI
       clear hR R
       simp only[Act.put,zp]
       refine oR ?_
       refine wpOrd_nil ?_
     go_wp2_with (at_builtin;refine wpList_aplc rfl P1 _ rfl rfl _ _ rfl p rfl tc td rfl (plc_box p qB) tB (fun v1 E1 d1 ho1=> ?_);have Ho1:=hid ho1;clear ho1)
     exact⟨⟨k+1,false,by omega,by go_num,rfl,hid (decide_eq_false (by have:=H3.out;omega)).symm,exI,by rw[O3.out];exact Ho1.out⟩,by simp[intOf];omega⟩
   ·have hki:¬ ((k:Int)<n):=by omega
    have hkl:k=l.length:=by omega
    have e1:=outK_end_true (s:=s) (o:=o) (l:=l) Hk.out
    have e2:=outK_end_false (s:=s) (o:=o) (l:=l) Hk.out
    rw[←hkl] at e1 e2
    by_cases h3:posP l o s<k
    ·obtain rfl:b=true:=by rw[hb.out];exact decide_eq_true h3
     have HE:=hid (e1 h3)
     clear e1 e2 h3 hb hkl
     go_wp2_with fail
     have ho:=Hown.out
     rw[HE.out] at ho
     obtain⟨t,ht0,ht⟩:=ho.out
     cases ht0
     go_ret
     exact⟨t,rfl,ht.mono (by rw[HB.out];exact Hsz.out),X1.out.trans ⟨_,_,rfl⟩⟩
    ·obtain rfl:b=false:=by rw[hb.out];exact decide_eq_false h3
     have HE:=hid (e2 h3)
     clear e1 e2 h3 hb hkl
     go_wp2_with (at_builtin;refine wpList_aplc rfl P1 _ rfl rfl _ _ rfl ⟨o,s⟩ rfl tc td rfl (plc_box ⟨o,s⟩ qB) tB (fun v1 E1 d1 ho1=> ?_);rw[HE.out] at ho1;obtain⟨t,rfl,ht⟩:=ho1.out;have Ht:=hid ht;clear ho1 ht)
     go_ret
     exact⟨t,rfl,Ht.out.mono (by rw[HB.out];exact Hsz.out),X1.out.trans ⟨_,_,rfl⟩⟩
end Go.Proofs.YtekjdeibnfaehaaGreat
