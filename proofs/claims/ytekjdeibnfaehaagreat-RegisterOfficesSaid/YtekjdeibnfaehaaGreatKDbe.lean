/- Texts of a proof. -/
import Derived.Test.YtekjdeibnfaehaaGreatKDat
import Derived.Test.YtekjdeibnfaehaaGreatKDak
set_option linter.unusedSimpArgs false
set_option linter.unusedVariables false
namespace Go.Proofs.YtekjdeibnfaehaaGreat
open Go Go.RowKit
set_option maxRecDepth 100000 in
set_option maxHeartbeats 4000000 in
theorem heldF_any(r x:Rec)(b:Nat)(w:World)(hs:w.cell? ⟨b,3,none⟩=some (.int .i64 r.ship))(hd:w.cell? ⟨b,4,none⟩=some (.int .i64 r.day))(ht:w.cell? ⟨b,9,none⟩=some (.int .i64 r.til))(hb:b<w.heap.size):
 Calls Tryz.prog 145 #[recV x,.pointer (some ⟨b,0,none⟩)] w fun e w'=>e= .returned (.bool (leaseOn r x))∧Ext w w':=by
 cases h1:(x.kind==1) with
 | false=>
  have HE:Hid (leaseOn r x=false):=hid (by rw[leaseOn,show decide (x.kind=1)=false from h1];rfl)
  go_enter Tryz.func145,Tryz.ntmps145
  go_wp2_with fail
  go_ret
  exact⟨ret_val tX,exI⟩
 | true=>
  cases h2:(x.ship==r.ship) with
  | false=>
   have HE:Hid (leaseOn r x=false):=hid (by rw[leaseOn,show decide (x.ship=r.ship)=false from h2];simp)
   go_enter Tryz.func145,Tryz.ntmps145
   go_wp2_with fail
   go_ret
   exact⟨ret_val tX,exI⟩
  | true=>
   by_cases h3:x.day≤r.til
   ·by_cases h4:r.day≤x.til
    ·have HE:Hid (leaseOn r x=true):=hid (by rw[leaseOn,show decide (x.kind=1)=true from h1,show decide (x.ship=r.ship)=true from h2];simp[h3,h4])
     go_enter Tryz.func145,Tryz.ntmps145
     go_wp2_with fail
     go_ret
     exact⟨ret_val tX,exI⟩
    ·have HE:Hid (leaseOn r x=false):=hid (by rw[leaseOn];simp[h4])
     go_enter Tryz.func145,Tryz.ntmps145
     go_wp2_with fail
     go_ret
     exact⟨ret_val tX,exI⟩
   ·have HE:Hid (leaseOn r x=false):=hid (by rw[leaseOn];simp[h3])
    go_enter Tryz.func145,Tryz.ntmps145
    go_wp2_with fail
    go_ret
    exact⟨ret_val tX,exI⟩
def leaseI(l:List Rec)(r:Rec):Int:=if l.any (leaseOn r)=true then(l.findIdx (leaseOn r):Nat) else -1
theorem leaseI_hit{l:List Rec}{r:Rec}{k:Nat}(hk:k<l.length)(h:leaseOn r l[k]=true)(hno:∀ t (ht:t<l.length),t<k→leaseOn r l[t]=false):leaseI l r=k:=by
 have hh:l.any (leaseOn r)=true:=List.any_eq_true.2 ⟨_,List.getElem_mem hk,h⟩
 rw[leaseI,if_pos hh,(List.findIdx_eq hk).2 ⟨h,fun j hj=>hno j tB hj⟩]
theorem leaseI_none{l:List Rec}{r:Rec}(hno:∀ t (ht:t<l.length),leaseOn r l[t]=false):leaseI l r= -1:=by
 have hh:l.any (leaseOn r)=false:=by
  rw[List.any_eq_false]
  intro x hx
  obtain⟨t,ht,rfl⟩:=List.getElem_of_mem hx
  rw[hno t ht];simp
 rw[leaseI,hh];rfl
theorem leaseI_any(l:List Rec)(r:Rec):decide (0≤leaseI l r)=l.any (leaseOn r):=by
 unfold leaseI
 cases h:l.any (leaseOn r) with
 | true=>rw[if_pos rfl];simp
 | false=>rw[if_neg tE];rfl
set_option maxRecDepth 100000 in
set_option maxHeartbeats 4000000 in
theorem IndexH_any(A:Option Addr)(c n:Nat)(l:List Rec)(r:Rec)(b:Nat)(hn:l.length=n)(hbig:n≤1000000)(w:World)(hr:Recs w A l)(hs:w.cell? ⟨b,3,none⟩=some (.int .i64 r.ship))(hd:w.cell? ⟨b,4,none⟩=some (.int .i64 r.day))(ht:w.cell? ⟨b,9,none⟩=some (.int .i64 r.til))(hb:b<w.heap.size):
 Calls Tryz.prog 137 #[.slice A n c,.func (.func 145) #[] #[.pointer (some ⟨b,0,none⟩)]] w fun e w'=>e= .returned (.int .i64 (leaseI l r))∧Ext w w':=by
 go_enter Tryz.func137,Tryz.ntmps137
 go_wp2_with fail
 go_loopw [8] (fun i wr=> ∃k:Nat,k≤n∧i= .int .i64 k∧Ext w wr∧(∀t (ht:t<l.length),t<k→leaseOn r l[t]=false)) (fun i _=>n-(intOf i).toNat)
 case atStart=>exact⟨0,Nat.zero_le _,rfl,Ext.refl _,fun t _ h=>absurd h (Nat.not_lt_zero _)⟩
 case round=>
  obtain⟨k,hk,rfl,⟨E0,d0,rfl⟩,hno⟩:=hrel
  have Hno:=hid hno
  clear hno
  by_cases hlt:k<n
  ·have hm:k<l.length:=by omega
   obtain⟨g,of,rfl,hg⟩:=hr.addr tB
   obtain⟨h0,h1,h2,h3,h4,h5,h6,h7,h8,h9,h10⟩:=hr.row hm
   obtain⟨x,hrk⟩:∃ x,l[k]=x:=⟨_,rfl⟩
   rw[hrk] at h0 h1 h2 h3 h4 h5 h6 h7 h8 h9 h10
   have Hrk:=hid hrk
   clear hrk
   cases hat:leaseOn r x with
   | true=>
    have Hf:=hid (leaseI_hit hm (by rw[Hrk.out];exact hat) (fun t h1 h2=>Hno.out t h1 h2))
    go_wp2_with (go_at_call 145;refine(heldF_any r _ b _ tv tv tv tw).mono ?_;rintro e w1 ⟨rfl,E1,d1,rfl⟩)
    go_ret
    exact⟨ret_val t7,exI⟩
   | false=>
    have Hno':Hid (∀t (ht:t<l.length),t<k+1→leaseOn r l[t]=false):=hid fun t h1 h2=>by
     by_cases he:t=k
     ·subst he;rw[Hrk.out];exact hat
     ·exact Hno.out t h1 tB
    go_wp2_with (go_at_call 145;refine(heldF_any r _ b _ tv tv tv tw).mono ?_;rintro e w1 ⟨rfl,E1,d1,rfl⟩)
    exact⟨⟨k+1,by omega,by go_num,exI,Hno'.out⟩,by simp[intOf];omega⟩
  ·obtain rfl:k=n:=by omega
   have Hf:=hid (leaseI_none (r:=r) (fun t ht=>Hno.out t ht tB))
   go_wp2_with fail
   go_ret
   exact⟨ret_val t7,exI⟩
set_option maxRecDepth 100000 in
set_option maxHeartbeats 4000000 in
theorem ContainsH_any(A:Option Addr)(c n:Nat)(l:List Rec)(r:Rec)(b:Nat)(hn:l.length=n)(hbig:n≤1000000)(w:World)(hr:Recs w A l)(hs:w.cell? ⟨b,3,none⟩=some (.int .i64 r.ship))(hd:w.cell? ⟨b,4,none⟩=some (.int .i64 r.day))(ht:w.cell? ⟨b,9,none⟩=some (.int .i64 r.til))(hb:b<w.heap.size):
 Calls Tryz.prog 144 #[.slice A n c,.func (.func 145) #[] #[.pointer (some ⟨b,0,none⟩)]] w fun e w'=>e= .returned (.bool (l.any (leaseOn r)))∧Ext w w':=by
 have HE:=hid (leaseI_any l r)
 obtain⟨j,hj⟩:∃ j,leaseI l r=j:=⟨_,rfl⟩
 have Hj:=hid hj
 clear hj
 go_enter Tryz.func144,Tryz.ntmps144
 go_wp2_with fail
 refine(IndexH_any A c n l r b hn hbig _ hr hs hd ht hb).mono ?_
 rintro e w1 ⟨rfl,E1,d1,rfl⟩
 rw[Hj.out]
 go_wp2_with fail
 go_ret
 exact⟨ret_val (by rw[←HE.out,Hj.out];rfl),exI⟩
set_option maxRecDepth 100000 in
set_option maxHeartbeats 4000000 in
theorem isHeld_any(A:Option Addr)(c n:Nat)(l:List Rec)(r:Rec)(hn:l.length=n)(hbig:n≤1000000)(w:World)(hr:Recs w A l):
 Calls Tryz.prog 108 #[regV A n c,recV r] w fun e w'=>e= .returned (.bool (l.any (leaseOn r)))∧Ext w w':=by
 go_enter Tryz.func108,Tryz.ntmps108
 go_wp2_with fail
 refine(ContainsH_any A c n l r (w.heap.size+1) hn hbig _ (hr.of_ext exI) tI tI tI tE).mono ?_
 rintro e w1 ⟨rfl,E1,d1,rfl⟩
 go_wp2_with fail
 go_ret
 exact⟨ret_val rfl,exI⟩
end Go.Proofs.YtekjdeibnfaehaaGreat
