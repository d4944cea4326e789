/- Texts of a proof. -/
import Derived.Test.YtekjdeibnfaehaaGreatKDat
import Derived.Test.YtekjdeibnfaehaaGreatKDak
set_option linter.unusedSimpArgs false
set_option linter.unusedVariables false
namespace Go.Proofs.YtekjdeibnfaehaaGreat
open Go Go.RowKit
theorem leasable_ref(O:OffD)(s t d u:Int):leasable O (leaseR O s t d u)=(recOk (leaseR O s t d u)&& !O.m.recs.any (leaseOn (leaseR O s t d u))):=by
 unfold leasable
 cases h:recOk (leaseR O s t d u) with
 | false=>simp
 | true=>
  have h1:homeI s=O.me:=by
   simp only[recOk,Bool.and_eq_true] at h
   have h2:=h.2
   simp only[kindB,leaseR,leaseB,Bool.and_eq_true,decide_eq_true_eq] at h2
   simp at h2
   exact of_decide_eq_true h2.1.1.1.2
  have h2:(leaseR O s t d u).ship=s:=rfl
  rw[h2,decide_eq_true h1,Bool.true_and]
theorem leaseOn_no1{r x:Rec}(h:¬ x.kind=1):leaseOn r x=false:=by simp[leaseOn,h]
theorem leaseOn_no2{r x:Rec}(h:¬ x.ship=r.ship):leaseOn r x=false:=by simp[leaseOn,h]
theorem leaseOn_no3{r x:Rec}(h:¬ x.day≤r.til):leaseOn r x=false:=by simp[leaseOn,h]
theorem leaseOn_no4{r x:Rec}(h:¬ r.day≤x.til):leaseOn r x=false:=by simp[leaseOn,h]
theorem leaseOn_yes{r x:Rec}(h1:x.kind=1)(h2:x.ship=r.ship)(h3:x.day≤r.til)(h4:r.day≤x.til):leaseOn r x=true:=by simp[leaseOn,h1,h2,h3,h4]
theorem any_hit{l:List Rec}{p:Rec→Bool}{k:Nat}(hk:k<l.length)(h:p l[k]=true):l.any p=true:=List.any_eq_true.2 ⟨_,List.getElem_mem hk,h⟩
theorem any_none{l:List Rec}{p:Rec→Bool}(h:∀ k (hk:k<l.length),p l[k]=false):l.any p=false:=by
 rw[List.any_eq_false]
 intro x hx
 obtain⟨k,hk,rfl⟩:=List.getElem_of_mem hx
 rw[h k hk]
 exact Bool.false_ne_true
end Go.Proofs.YtekjdeibnfaehaaGreat
