/- Texts of a proof. -/
import Derived.Test.YtekjdeibnfaehaaGreatKDac
set_option linter.unusedSimpArgs false
set_option linter.unusedVariables false
namespace Go.Proofs.YtekjdeibnfaehaaGreat
open Go.RowKit
theorem numB_snoc(n:Int)(h:0≤n):∀ k,numB n (k+1)=numB (n / 256) k++[byteI n 0]
 | 0=>by simp[numB]
 | k+1=>by
  rw[numB,numB_snoc n h k,numB]
  simp only[List.cons_append,List.cons.injEq,and_true]
  unfold byteI
  congr 2
  rw[Nat.pow_succ,Nat.mul_comm,←Nat.div_div_eq_div_mul]
  congr 1
  omega
theorem valB_numB:∀ (k:Nat) (n:Int),0≤n→n<256 ^ k→valB (numB n k)=n
 | 0,n,h0,h1=>by simp[valB,numB];simp at h1;omega
 | k+1,n,h0,h1=>by
  rw[Int.pow_succ] at h1
  rw[numB_snoc n h0,valB_snoc,valB_numB k (n / 256) tB tB,byteI_toNat n h0]
  simp
  omega
theorem snoc_of_length{α:Type}{l:List α}{k:Nat}(h:l.length=k+1):∃ m b,l=m++[b]∧m.length=k:=by
 refine⟨l.dropLast,l.getLast (by intro h0;simp[h0] at h),(List.dropLast_concat_getLast _).symm,by simp[h]⟩
theorem numB_valB:∀ (k:Nat) (l:List UInt8),l.length=k→numB (valB l) k=l
 | 0,l,h=>by rw[List.eq_nil_of_length_eq_zero h];rfl
 | k+1,l,h=>by
  obtain⟨m,b,rfl,hm⟩:=snoc_of_length h
  have hv:=(valB_bound m).1
  have hb:=b.toNat_lt
  rw[valB_snoc,numB_snoc _ tB,show(valB m * 256+(b.toNat:Int)) / 256=valB m from by omega,numB_valB k m hm]
  congr 2
  apply UInt8.toNat_inj.1
  have:=byteI_toNat (valB m * 256+(b.toNat:Int)) tB 0
  simp at this
  omega
structure RecNum(r:Rec):Prop where
 ao:0≤r.ao∧r.ao<256
 sq:0≤r.sq∧r.sq<65536
 kind:0≤r.kind∧r.kind<256
 ship:0≤r.ship∧r.ship<65536
 day:0≤r.day∧r.day<4294967296
 known:0≤r.known∧r.known<4294967296
 wo:0≤r.wo∧r.wo<256
 ws:0≤r.ws∧r.ws<65536
 to:0≤r.to∧r.to<256
 til:0≤r.til∧r.til<4294967296
 text:r.text.size<256
def partsB(r:Rec):List (List UInt8):=[numB r.ao 1,numB r.sq 2,numB r.kind 1,numB r.ship 2,numB r.day 4,numB r.known 4,numB r.wo 1,numB r.ws 2,numB r.to 1,numB r.til 4,numB (r.text.size:Int) 1,r.text.data.toList]
def recB(r:Rec):List UInt8:=(partsB r).flatten
theorem recB_length(r:Rec):(recB r).length=23+r.text.size:=by
 simp[recB,partsB,numB_length]
 omega
def decR(l:List UInt8):Rec where
 ao:=valB ((l.drop 0).take 1)
 sq:=valB ((l.drop 1).take 2)
 kind:=valB ((l.drop 3).take 1)
 ship:=valB ((l.drop 4).take 2)
 day:=valB ((l.drop 6).take 4)
 known:=valB ((l.drop 10).take 4)
 wo:=valB ((l.drop 14).take 1)
 ws:=valB ((l.drop 15).take 2)
 to:=valB ((l.drop 17).take 1)
 til:=valB ((l.drop 18).take 4)
 text:=⟨(l.drop 23).toArray⟩
def lenOk(l:List UInt8):Bool:=decide (23≤l.length)&&decide ((l.length:Int)=23+valB ((l.drop 22).take 1))
theorem numB1(n:Int):numB n 1=[byteI n 0]:=rfl
theorem numB2(n:Int):numB n 2=[byteI n 1,byteI n 0]:=rfl
theorem numB4(n:Int):numB n 4=[byteI n 3,byteI n 2,byteI n 1,byteI n 0]:=rfl
theorem recB_eq(r:Rec):recB r=byteI r.ao 0::byteI r.sq 1::byteI r.sq 0::byteI r.kind 0::byteI r.ship 1::byteI r.ship 0::byteI r.day 3::byteI r.day 2::byteI r.day 1::byteI r.day 0::
 byteI r.known 3::byteI r.known 2::byteI r.known 1::byteI r.known 0::byteI r.wo 0::byteI r.ws 1::byteI r.ws 0::byteI r.to 0::byteI r.til 3::byteI r.til 2::byteI r.til 1::byteI r.til 0::byteI (r.text.size:Int) 0::r.text.data.toList:=by
 simp[recB,partsB,numB]
theorem decR_recB(r:Rec)(h:RecNum r):decR (recB r)=r:=by
 obtain⟨⟨a0,a1⟩,⟨b0,b1⟩,⟨c0,c1⟩,⟨d0,d1⟩,⟨e0,e1⟩,⟨f0,f1⟩,⟨g0,g1⟩,⟨h0,h1⟩,⟨i0,i1⟩,⟨j0,j1⟩,k0⟩:=h
 rw[recB_eq]
 unfold decR
 simp only[List.drop_succ_cons,List.drop_zero,List.take_succ_cons,List.take_zero]
 simp only[←numB4]
 simp only[←numB2]
 simp only[←numB1]
 rw[valB_numB 1 _ a0 a1,valB_numB 2 _ b0 b1,valB_numB 1 _ c0 c1,valB_numB 2 _ d0 d1,valB_numB 4 _ e0 e1,valB_numB 4 _ f0 f1,valB_numB 1 _ g0 g1,valB_numB 2 _ h0 h1,valB_numB 1 _ i0 i1,valB_numB 4 _ j0 j1]
theorem lenOk_recB(r:Rec)(h:RecNum r):lenOk (recB r)=true:=by
 have k0:=h.text
 rw[recB_eq]
 unfold lenOk
 simp only[List.drop_succ_cons,List.drop_zero,List.take_succ_cons,List.take_zero]
 rw[←numB1,valB_numB 1 _ tB tA]
 simp
 omega
theorem cons_of{α:Type}{l:List α}{k:Nat}(h:k+1≤l.length):∃ x t,l=x::t∧k≤t.length:=by
 cases l with
 | nil=>simp at h
 | cons x t=>exact⟨x,t,rfl,by simpa using h⟩
theorem long_split{α:Type}(l:List α)(h:23≤l.length):∃ x0 x1 x2 x3 x4 x5 x6 x7 x8 x9 x10 x11 x12 x13 x14 x15 x16 x17 x18 x19 x20 x21 x22 t,l=x0::x1::x2::x3::x4::x5::x6::x7::x8::x9::x10::x11::x12::x13::x14::x15::x16::x17::x18::x19::x20::x21::x22::t:=by
 obtain⟨x0,l0,rfl,h0⟩:=cons_of h
 obtain⟨x1,l1,rfl,h1⟩:=cons_of h0
 obtain⟨x2,l2,rfl,h2⟩:=cons_of h1
 obtain⟨x3,l3,rfl,h3⟩:=cons_of h2
 obtain⟨x4,l4,rfl,h4⟩:=cons_of h3
 obtain⟨x5,l5,rfl,h5⟩:=cons_of h4
 obtain⟨x6,l6,rfl,h6⟩:=cons_of h5
 obtain⟨x7,l7,rfl,h7⟩:=cons_of h6
 obtain⟨x8,l8,rfl,h8⟩:=cons_of h7
 obtain⟨x9,l9,rfl,h9⟩:=cons_of h8
 obtain⟨x10,l10,rfl,h10⟩:=cons_of h9
 obtain⟨x11,l11,rfl,h11⟩:=cons_of h10
 obtain⟨x12,l12,rfl,h12⟩:=cons_of h11
 obtain⟨x13,l13,rfl,h13⟩:=cons_of h12
 obtain⟨x14,l14,rfl,h14⟩:=cons_of h13
 obtain⟨x15,l15,rfl,h15⟩:=cons_of h14
 obtain⟨x16,l16,rfl,h16⟩:=cons_of h15
 obtain⟨x17,l17,rfl,h17⟩:=cons_of h16
 obtain⟨x18,l18,rfl,h18⟩:=cons_of h17
 obtain⟨x19,l19,rfl,h19⟩:=cons_of h18
 obtain⟨x20,l20,rfl,h20⟩:=cons_of h19
 obtain⟨x21,l21,rfl,h21⟩:=cons_of h20
 obtain⟨x22,l22,rfl,h22⟩:=cons_of h21
 exact⟨x0,x1,x2,x3,x4,x5,x6,x7,x8,x9,x10,x11,x12,x13,x14,x15,x16,x17,x18,x19,x20,x21,x22,l22,rfl⟩
theorem recB_decR(l:List UInt8)(h:lenOk l=true):recB (decR l)=l:=by
 simp only[lenOk,Bool.and_eq_true,decide_eq_true_eq] at h
 obtain⟨h1,h2⟩:=h
 obtain⟨x0,x1,x2,x3,x4,x5,x6,x7,x8,x9,x10,x11,x12,x13,x14,x15,x16,x17,x18,x19,x20,x21,x22,t,rfl⟩:=long_split l h1
 unfold decR
 simp only[List.drop_succ_cons,List.drop_zero,List.take_succ_cons,List.take_zero] at h2 ⊢
 have ht:((t.toArray.size:Nat):Int)=valB [x22]:=by
  simp at h2 ⊢;omega
 unfold recB partsB
 simp only[ByteArray.size]
 rw[ht]
 rw[numB_valB 1 _ rfl,numB_valB 2 _ rfl,numB_valB 1 _ rfl,numB_valB 2 _ rfl,numB_valB 4 _ rfl,numB_valB 4 _ rfl,numB_valB 1 _ rfl,numB_valB 2 _ rfl,numB_valB 1 _ rfl,numB_valB 4 _ rfl,numB_valB 1 _ rfl]
 simp
theorem recNum_of{r:Rec}(h:recOk r=true):RecNum r:=by
 simp only[recOk,isPlaceB,txtOk,Bool.and_eq_true,decide_eq_true_eq,inB_spec] at h
 obtain⟨⟨⟨⟨⟨⟨⟨a0,a1⟩,b0,b1⟩,c0,c1⟩,e0,e1⟩,f0,f1⟩,t0,_⟩,hk⟩:=h
 unfold kindB at hk
 have hm:∀ a b:Int,minI a b≤a:=fun a b=>by unfold minI;split <;> omega
 split at hk
 ·simp only[withdrawB,isPlaceB,Bool.and_eq_true,decide_eq_true_eq,inB_spec] at hk
  refine⟨?_,?_,?_,?_,?_,?_,?_,?_,?_,?_,?_⟩ <;> omega
 ·split at hk
  ·simp only[leaseB,Bool.and_eq_true,decide_eq_true_eq,inB_spec] at hk
   have:=hm 100000 (r.day+399)
   refine⟨?_,?_,?_,?_,?_,?_,?_,?_,?_,?_,?_⟩ <;> omega
  ·simp only[eventB,Bool.and_eq_true,decide_eq_true_eq,inB_spec] at hk
   refine⟨?_,?_,?_,?_,?_,?_,?_,?_,?_,?_,?_⟩ <;> omega
def decOk(l:List UInt8):Bool:=lenOk l&&recOk (decR l)
theorem decOk_recB{r:Rec}(h:recOk r=true):decOk (recB r)=true:=by
 rw[decOk,lenOk_recB r (recNum_of h),decR_recB r (recNum_of h),h];rfl
def ltP(a b c d:Int):Bool:=decide (a<c)||(decide (a=c)&&decide (b<d))
theorem cmpP_neg{a b c d:Int}:cmpP a b c d<0↔ltP a b c d=true:=by
 unfold cmpP orI cmpI ltP
 simp
 (repeat' split) <;> omega
theorem cmpP_zero{a b c d:Int}:cmpP a b c d=0↔a=c∧b=d:=by
 unfold cmpP orI cmpI
 (repeat' split) <;> omega
theorem ltP_iff{a b c d:Int}:ltP a b c d=true↔a<c∨a=c∧b<d:=by simp[ltP]
theorem ltP_trans{a b c d e f:Int}(h:ltP a b c d=true)(h':ltP c d e f=true):ltP a b e f=true:=by
 rw[ltP_iff] at *;omega
theorem ltP_asymm{a b c d:Int}(h:ltP a b c d=true):ltP c d a b=false:=by
 rw[←Bool.not_eq_true,ltP_iff];rw[ltP_iff] at h;omega
theorem ltP_irrefl(a b:Int):ltP a b a b=false:=by rw[←Bool.not_eq_true,ltP_iff];omega
theorem ltP_total{a b c d:Int}(h:ltP a b c d=false)(h':ltP c d a b=false):a=c∧b=d:=by
 rw[←Bool.not_eq_true,ltP_iff] at h h';omega
def aheadB(a b:Rec):Bool:=ltP a.ao a.sq b.ao b.sq
def atB(r:Rec)(o s:Int):Bool:=decide (r.ao=o)&&decide (r.sq=s)
theorem aheadB_trans{a b c:Rec}(h:aheadB a b=true)(h':aheadB b c=true):aheadB a c=true:=ltP_trans h h'
abbrev Sorted(l:List Rec):Prop:=l.Pairwise fun a b=>aheadB a b=true
theorem sorted_take_succ(l:List Rec)(k:Nat)(h:k<l.length):Sorted (l.take (k+1))↔Sorted (l.take k)∧(k=0∨aheadB l[k-1] l[k]=true):=by
 rw[List.take_succ_eq_append_getElem h,Sorted,List.pairwise_append]
 simp only[List.pairwise_singleton,List.mem_singleton,forall_eq,true_and]
 refine and_congr_right fun hs=> ?_
 constructor
 ·intro ha
  by_cases h0:k=0
  ·exact .inl h0
  ·exact .inr (ha _ (List.mem_take_iff_getElem.2 ⟨k-1,by omega,rfl⟩))
 ·rintro(rfl|hk) a ha
  ·simp at ha
  ·obtain⟨i,hi,rfl⟩:=List.mem_take_iff_getElem.1 ha
   by_cases hik:i=k-1
   ·subst hik;exact hk
   ·refine aheadB_trans ?_ hk
    have hp:=List.pairwise_iff_getElem.1 hs i (k-1) tA tA tB
    simpa using hp
def checkB(l:List Rec):Bool:=decide (l.length≤80)&&l.all recOk&&decide (Sorted l)
def errReg(l:List Rec):Int:=if checkB l=true then 0 else 71
theorem checkB_iff{l:List Rec}:checkB l=true↔l.length≤80∧(∀r∈l,recOk r=true)∧Sorted l:=by
 simp only[checkB,Bool.and_eq_true,decide_eq_true_eq,List.all_eq_true,and_assoc]
theorem checkB_long{l:List Rec}(h:80<l.length):checkB l=false:=by
 rw[←Bool.not_eq_true,checkB_iff];omega
theorem checkB_rec{l:List Rec}{k:Nat}(hk:k<l.length)(h:recOk l[k]=false):checkB l=false:=by
 rw[←Bool.not_eq_true,checkB_iff]
 rintro⟨_,h1,_⟩
 rw[h1 _ (List.getElem_mem hk)] at h
 cases h
theorem checkB_unsorted{l:List Rec}{k:Nat}(hk:k<l.length)(h0:k≠0)(h:aheadB l[k-1] l[k]=false):checkB l=false:=by
 rw[←Bool.not_eq_true,checkB_iff]
 rintro⟨_,_,h1⟩
 rw[List.pairwise_iff_getElem.1 h1 (k-1) k tB hk tB] at h
 cases h
structure PreOk(l:List Rec)(k:Nat):Prop where
 all:∀ r∈l.take k,recOk r=true
 sorted:Sorted (l.take k)
theorem PreOk.zero(l:List Rec):PreOk l 0:=⟨by simp,by simp⟩
theorem PreOk.succ{l:List Rec}{k:Nat}(h:PreOk l k)(hk:k<l.length)(h1:recOk l[k]=true)(h2:k=0∨aheadB l[k-1] l[k]=true):PreOk l (k+1):=by
 refine⟨?_,(sorted_take_succ l k hk).2 ⟨h.sorted,h2⟩⟩
 intro r hr
 rw[List.take_succ_eq_append_getElem hk,List.mem_append] at hr
 rcases hr with hr|hr
 ·exact h.all r hr
 ·rw[List.mem_singleton] at hr;subst hr;exact h1
theorem PreOk.done{l:List Rec}(h:PreOk l l.length)(hl:l.length≤80):checkB l=true:=by
 have h1:=h.all;have h2:=h.sorted
 rw[List.take_length] at h1 h2
 exact checkB_iff.2 ⟨hl,h1,h2⟩
def posR(l:List Rec)(o s:Int):Nat:=l.countP fun r=>ltP r.ao r.sq o s
def findR(l:List Rec)(o s:Int):Option Rec:=l.find? fun r=>atB r o s
def hasR(l:List Rec)(o s:Int):Bool:=l.any fun r=>atB r o s
theorem posR_le(l:List Rec)(o s:Int):posR l o s≤l.length:=List.countP_le_length
theorem sorted_mono{l:List Rec}(h:Sorted l){i j:Nat}(hij:i≤j)(hj:j<l.length){o s:Int}(hlt:ltP l[j].ao l[j].sq o s=true):ltP (l[i]'tB).ao (l[i]'tB).sq o s=true:=by
 by_cases hh:i=j
 ·subst hh;exact hlt
 ·exact ltP_trans (List.pairwise_iff_getElem.1 h i j tB hj tB) hlt
theorem countP_bound{α:Type}(p:α→Bool):∀ (l:List α) (i:Nat),i≤l.length→(∀t (h:t<l.length),t<i→p l[t]=true)→(∀t (h:t<l.length),i≤t→p l[t]=false)→l.countP p=i
 | [],i,hi,_,_=>by simp at hi;simp[hi]
 | a::r,0,_,_,h2=>by
  rw[List.countP_eq_zero]
  intro x hx
  obtain⟨t,ht,rfl⟩:=List.getElem_of_mem hx
  simp[h2 t ht (Nat.zero_le _)]
 | a::r,i+1,hi,h1,h2=>by
  have ha:p a=true:=h1 0 tE (Nat.succ_pos _)
  rw[List.countP_cons_of_pos ha,countP_bound p r i (by simpa using hi) (fun t ht h=>h1 (t+1) (by simpa using ht) tB) (fun t h3 h4=>h2 (t+1) (by simpa using h3) tB)]
theorem posR_eq{l:List Rec}{o s:Int}(i:Nat)(hi:i≤l.length)(h1:∀ t (h:t<l.length),t<i→ltP l[t].ao l[t].sq o s=true)(h2:∀ t (h:t<l.length),i≤t→ltP l[t].ao l[t].sq o s=false):posR l o s=i:=
 countP_bound _ l i hi h1 h2
theorem posR_spec{l:List Rec}(h:Sorted l)(o s:Int):(∀t (ht:t<l.length),t<posR l o s→ltP l[t].ao l[t].sq o s=true)∧(∀t (ht:t<l.length),posR l o s≤t→ltP l[t].ao l[t].sq o s=false):=by
 induction l with
 | nil=>simp
 | cons a l ih=>
  have hl:=(List.pairwise_cons.1 h)
  by_cases ha:ltP a.ao a.sq o s=true
  ·have hp:posR (a::l) o s=posR l o s+1:=by simp[posR,ha]
   rw[hp]
   obtain⟨h1,h2⟩:=ih hl.2
   constructor
   ·rintro(_|t) ht hlt
    ·exact ha
    ·exact h1 t (by simpa using ht) tB
   ·rintro(_|t) ht hle
    ·omega
    ·exact h2 t (by simpa using ht) tB
  ·have hall:∀ b∈l,ltP b.ao b.sq o s=false:=fun b hb=>by
    rw[←Bool.not_eq_true]
    intro hb'
    exact ha (ltP_trans (hl.1 b hb) hb')
   have hp:posR (a::l) o s=0:=by
    rw[posR,List.countP_eq_zero]
    intro x hx
    rcases List.mem_cons.1 hx with rfl|hx
    ·exact ha
    ·simp[hall x hx]
   rw[hp]
   refine⟨fun t _ h=>absurd h (Nat.not_lt_zero _),?_⟩
   rintro(_|t) ht _
   ·simpa using ha
   ·exact hall _ (List.getElem_mem _)
theorem hasR_pos{l:List Rec}(h:Sorted l)(o s:Int):hasR l o s=true↔∃ ht:posR l o s<l.length,atB l[posR l o s] o s=true:=by
 obtain⟨h1,h2⟩:=posR_spec h o s
 constructor
 ·intro hh
  obtain⟨r,hr,ha⟩:=List.any_eq_true.1 hh
  obtain⟨i,hi,rfl⟩:=List.getElem_of_mem hr
  have:posR l o s=i:=by
   refine posR_eq i tB ?_ ?_
   ·intro t ht hti
    have hp:=List.pairwise_iff_getElem.1 h t i ht hi hti
    simp only[atB,Bool.and_eq_true,decide_eq_true_eq] at ha
    unfold aheadB at hp
    rwa [ha.1,ha.2] at hp
   ·intro t ht hti
    simp only[atB,Bool.and_eq_true,decide_eq_true_eq] at ha
    rw[←ha.1,←ha.2]
    by_cases hti':t=i
    ·subst hti';exact ltP_irrefl _ _
    ·exact ltP_asymm (List.pairwise_iff_getElem.1 h i t hi ht tB)
  rw[this]
  exact⟨hi,ha⟩
 ·rintro⟨ht,ha⟩
  exact List.any_eq_true.2 ⟨_,List.getElem_mem ht,ha⟩
theorem findR_some{l:List Rec}(h:Sorted l){o s:Int}{i:Nat}(hi:i<l.length)(ha:atB l[i] o s=true):findR l o s=some l[i]:=by
 rw[findR,List.find?_eq_some_iff_append]
 refine⟨ha,l.take i,l.drop (i+1),?_,?_⟩
 ·rw[List.getElem_cons_drop]
  exact(List.take_append_drop i l).symm
 ·intro x hx
  obtain⟨j,hj,rfl⟩:=List.mem_take_iff_getElem.1 hx
  have hp:=List.pairwise_iff_getElem.1 h j i tB hi tB
  simp only[aheadB,ltP_iff,atB,Bool.and_eq_true,decide_eq_true_eq] at hp ha
  simp[atB]
  omega
theorem findR_none{l:List Rec}{o s:Int}(h:hasR l o s=false):findR l o s=none:=by
 rw[findR,List.find?_eq_none]
 intro x hx
 rw[hasR,List.any_eq_false] at h
 exact h x hx
def insR(l:List Rec)(r:Rec):List Rec:=l.take (posR l r.ao r.sq)++r::l.drop (posR l r.ao r.sq)
theorem insR_perm(l:List Rec)(r:Rec):(insR l r).Perm (r::l):=by
 unfold insR
 refine List.perm_middle.trans ?_
 rw[List.take_append_drop]
theorem insR_sorted{l:List Rec}(h:Sorted l){r:Rec}(hn:hasR l r.ao r.sq=false):Sorted (insR l r):=by
 obtain⟨h1,h2⟩:=posR_spec h r.ao r.sq
 have hle:=posR_le l r.ao r.sq
 have hne:∀ x∈l,¬(x.ao=r.ao∧x.sq=r.sq):=fun x hx hh=>by
  rw[hasR,List.any_eq_false] at hn
  exact hn x hx (by simp[atB,hh.1,hh.2])
 unfold insR Sorted
 rw[List.pairwise_append,List.pairwise_cons]
 refine⟨h.take,⟨?_,h.drop⟩,?_⟩
 ·intro x hx
  obtain⟨i,hi,rfl⟩:=List.getElem_of_mem hx
  rw[List.getElem_drop]
  have h3:=h2 (posR l r.ao r.sq+i) (by simp at hi;omega) tB
  have h4:=hne (l[posR l r.ao r.sq+i]'(by simp at hi;omega)) (List.getElem_mem _)
  by_cases h5:ltP r.ao r.sq (l[posR l r.ao r.sq+i]'(by simp at hi;omega)).ao (l[posR l r.ao r.sq+i]'(by simp at hi;omega)).sq=true
  ·exact h5
  ·exact absurd (ltP_total h3 (by simpa using h5)) h4
 ·intro x hx y hy
  obtain⟨i,hi,rfl⟩:=List.mem_take_iff_getElem.1 hx
  have h3:=h1 i tB tB
  rcases List.mem_cons.1 hy with rfl|hy
  ·exact h3
  ·obtain⟨j,hj,rfl⟩:=List.getElem_of_mem hy
   rw[List.getElem_drop]
   exact List.pairwise_iff_getElem.1 h i _ tB (by simp at hj;omega) tB
theorem sorted_perm{l m:List Rec}(h:Sorted l)(h':Sorted m)(hp:l.Perm m):l=m:=by
 refine List.Perm.eq_of_pairwise (le:=fun a b=>aheadB a b=true) ?_ h h' hp
 intro a b _ _ h1 h2
 have:=ltP_asymm h1
 unfold aheadB at h2
 rw[h2] at this
 cases this
def insG(l:List Rec)(r:Rec):List Rec:=l.takeWhile (fun x=> !aheadB r x)++r::l.dropWhile (fun x=> !aheadB r x)
def anyAhead(l:List Rec)(r:Rec):Bool:=l.any fun x=>aheadB r x
theorem insG_none{l:List Rec}{r:Rec}(h:anyAhead l r=false):insG l r=l++[r]:=by
 rw[anyAhead,List.any_eq_false] at h
 unfold insG
 have hp:∀ x∈l,(!aheadB r x)=true:=fun x hx=>by simpa using h x hx
 have e1:=List.takeWhile_append_of_pos (l₂:=[]) hp
 have e2:=List.dropWhile_append_of_pos (l₂:=[]) hp
 simp only[List.append_nil,List.takeWhile_nil,List.dropWhile_nil] at e1 e2
 rw[e1,e2]
theorem anyAhead_snoc(l:List Rec)(x r:Rec):anyAhead (l++[x]) r=(anyAhead l r||aheadB r x):=by simp[anyAhead]
theorem insG_snoc_any{l:List Rec}{r:Rec}(x:Rec)(h:anyAhead l r=true):insG (l++[x]) r=insG l r++[x]:=by
 induction l with
 | nil=>simp[anyAhead] at h
 | cons a l ih=>
  by_cases ha:aheadB r a=true
  ·simp[insG,ha]
  ·have ha:aheadB r a=false:=by simpa using ha
   have h':anyAhead l r=true:=by simpa [anyAhead,ha] using h
   have:=ih h'
   unfold insG at this ⊢
   simp only[List.cons_append,List.takeWhile_cons,List.dropWhile_cons,ha,Bool.not_false,if_true]
   rw[this]
theorem insG_snoc_new{l:List Rec}{r:Rec}(x:Rec)(h:anyAhead l r=false)(hx:aheadB r x=true):insG (l++[x]) r=l++[r,x]:=by
 induction l with
 | nil=>simp[insG,hx]
 | cons a l ih=>
  have ha:aheadB r a=false∧anyAhead l r=false:=by simpa [anyAhead] using h
  have:=ih ha.2
  unfold insG at this ⊢
  simp only[List.cons_append,List.takeWhile_cons,List.dropWhile_cons,ha.1,Bool.not_false,if_true]
  rw[this]
theorem insG_eq{l:List Rec}(h:Sorted l){r:Rec}(hn:hasR l r.ao r.sq=false):insG l r=insR l r:=by
 obtain⟨h1,h2⟩:=posR_spec h r.ao r.sq
 have hle:=posR_le l r.ao r.sq
 have hne:∀ x∈l,¬(x.ao=r.ao∧x.sq=r.sq):=fun x hx hh=>by
  rw[hasR,List.any_eq_false] at hn
  exact hn x hx (by simp[atB,hh.1,hh.2])
 have key:∀ t (ht:t<l.length),aheadB r l[t]= !ltP l[t].ao l[t].sq r.ao r.sq:=fun t ht=>by
  have h4:=hne _ (List.getElem_mem ht)
  unfold aheadB
  by_cases h5:ltP l[t].ao l[t].sq r.ao r.sq=true
  ·rw[h5,ltP_asymm h5];rfl
  ·by_cases h6:ltP r.ao r.sq l[t].ao l[t].sq=true
   ·rw[h6];simp[h5]
   ·exact absurd (ltP_total (by simpa using h5) (by simpa using h6)) h4
 unfold insG insR
 have hsplit:l=l.take (posR l r.ao r.sq)++l.drop (posR l r.ao r.sq):=(List.take_append_drop _ _).symm
 have ht:∀ x∈l.take (posR l r.ao r.sq),(!aheadB r x)=true:=by
  intro x hx
  obtain⟨i,hi,rfl⟩:=List.mem_take_iff_getElem.1 hx
  rw[key i tB,h1 i tB tB];rfl
 have hd:∀ x∈(l.drop (posR l r.ao r.sq)).head?,(!aheadB r x)=false:=by
  intro x hx
  rw[Option.mem_def,List.head?_drop] at hx
  obtain⟨hi,rfl⟩:=List.getElem?_eq_some_iff.1 hx
  rw[key _ hi,h2 _ hi (Nat.le_refl _)];rfl
 have e1:l.takeWhile (fun x=> !aheadB r x)=l.take (posR l r.ao r.sq):=by
  conv=>lhs;rw[hsplit]
  rw[List.takeWhile_append_of_pos ht]
  cases hc:l.drop (posR l r.ao r.sq) with
  | nil=>simp
  | cons y m=>rw[hc] at hd;simp[hd y tE]
 have e2:l.dropWhile (fun x=> !aheadB r x)=l.drop (posR l r.ao r.sq):=by
  conv=>lhs;rw[hsplit]
  rw[List.dropWhile_append_of_pos ht]
  cases hc:l.drop (posR l r.ao r.sq) with
  | nil=>simp
  | cons y m=>rw[hc] at hd;simp[hd y tE]
 rw[e1,e2]
def putE(l:List Rec)(r:Rec):Int:=match findR l r.ao r.sq with
 | some x=>if recEqB x r=true then 0 else 72
 | none=>if l.length=80 then 2 else 0
def putL(l:List Rec)(r:Rec):List Rec:=match findR l r.ao r.sq with
 | some x=>if recEqB x r=true then l else[]
 | none=>if l.length=80 then[] else insR l r
def addE(l:List Rec)(r:Rec):Int:=if checkB l=true then if recOk r=true then putE l r else 70 else 71
def addL(l:List Rec)(r:Rec):List Rec:=if checkB l=true then if recOk r=true then putL l r else[] else[]
theorem foldl_insR_perm:∀ (l a:List Rec),(l.foldl insR a).Perm (a++l)
 | [],a=>by simp
 | r::l,a=>by
  rw[List.foldl_cons]
  refine(foldl_insR_perm l (insR a r)).trans ?_
  refine((insR_perm a r).append_right l).trans ?_
  simpa using(List.perm_middle (a:=r) (l₁:=a) (l₂:=l)).symm
def goneStep(r:Rec)(p:List Bool×List (Int×Int)):List Bool×List (Int×Int):=
 ((decide (r.kind=1)|| !p.2.contains (r.ao,r.sq))::p.1,if((decide (r.kind=1)|| !p.2.contains (r.ao,r.sq))&&decide (r.kind=0))=true then(r.wo,r.ws)::p.2 else p.2)
def standG(l:List Rec):List Bool×List (Int×Int):=l.foldr goneStep ([],[])
def standL(l:List Rec):List Bool:=(standG l).1
def goneL(l:List Rec):List (Int×Int):=(standG l).2
theorem standL_cons(r:Rec)(l:List Rec):standL (r::l)=(decide (r.kind=1)|| !(goneL l).contains (r.ao,r.sq))::standL l:=rfl
theorem goneL_cons(r:Rec)(l:List Rec):goneL (r::l)=if((decide (r.kind=1)|| !(goneL l).contains (r.ao,r.sq))&&decide (r.kind=0))=true then(r.wo,r.ws)::goneL l else goneL l:=rfl
theorem standL_length:∀ l:List Rec,(standL l).length=l.length
 | []=>rfl
 | r::l=>by rw[standL_cons,List.length_cons,List.length_cons,standL_length l]
def knownL(l:List Rec)(day:Int):List Rec:=l.filter fun r=>decide (r.known≤day)
def wantB(ship:Int)(r:Rec)(b:Bool):Bool:=b&&decide (2≤r.kind)&&decide (r.ship=ship)
def pickL(ship:Int)(l:List Rec)(bs:List Bool):List Rec:=((l.zip bs).filter fun p=>wantB ship p.1 p.2).map Prod.fst
theorem pickL_snoc(ship:Int)(l:List Rec)(bs:List Bool)(r:Rec)(b:Bool)(h:l.length=bs.length):pickL ship (l++[r]) (bs++[b])=pickL ship l bs++if wantB ship r b=true then[r] else[]:=by
 unfold pickL
 rw[List.zip_append h,List.filter_append,List.map_append]
 congr 1
 cases hw:wantB ship r b <;> simp[hw]
def standingL(l:List Rec)(ship day:Int):List Rec:=pickL ship (knownL l day) (standL (knownL l day))
def standingE(l:List Rec)(ship day:Int):Int:=if checkB l=true then if inB ship 1 999=true then if inB day 0 100000=true then 0 else 6 else 1 else 71
def standsE(l:List Rec)(o s:Int):Int:=if checkB l=true then if hasR l o s=true then 0 else 3 else 71
def standsB(l:List Rec)(o s:Int):Bool:=if standsE l o s=0 then(standL l).getD (posR l o s) false else false
def nextStep(o:Int)(n:Int)(r:Rec):Int:=if r.ao=o then r.sq+1 else n
def nextN(l:List Rec)(o:Int):Int:=l.foldl (nextStep o) 0
def nextI(l:List Rec)(o:Int):Int:=if checkB l=true then if inB o 0 8=true then nextN l o else -1 else -1
theorem nextN_take_succ(l:List Rec)(o:Int)(k:Nat)(hk:k<l.length):nextN (l.take (k+1)) o=nextStep o (nextN (l.take k) o) l[k]:=by
 rw[List.take_succ_eq_append_getElem hk,nextN,List.foldl_append]
 rfl
end Go.Proofs.YtekjdeibnfaehaaGreat
namespace Go.Proofs.YtekjdeibnfaehaaGreat
def frameB(r:Rec):List UInt8:=byteI (23+(r.text.size:Int)) 0::recB r
def moorB:List UInt8:=[109,111,111,114]
def headB(gen cnt:Int):List UInt8:=moorB++(numB gen 4++numB cnt 2)
def bytesR(l:List Rec):List UInt8:=l.flatMap frameB
theorem frameB_length(r:Rec):(frameB r).length=24+r.text.size:=by simp[frameB,recB_length];omega
theorem headB_length(gen cnt:Int):(headB gen cnt).length=10:=by simp[headB,moorB,numB_length]
theorem bytesR_nil:bytesR []=[]:=rfl
theorem bytesR_cons(r:Rec)(l:List Rec):bytesR (r::l)=frameB r++bytesR l:=rfl
theorem bytesR_append(a b:List Rec):bytesR (a++b)=bytesR a++bytesR b:=List.flatMap_append
def framesF:Nat→List UInt8→List Rec
 | 0,_=>[]
 | _+1,[]=>[]
 | f+1,b::t=>if t.length<b.toNat then[] else if decOk (t.take b.toNat)=true then decR (t.take b.toNat)::framesF f (t.drop b.toNat) else[]
def framesL(l:List UInt8):List Rec:=framesF l.length l
theorem framesF_fuel:∀ (f g:Nat) (l:List UInt8),l.length≤f→l.length≤g→framesF f l=framesF g l
 | 0,0,_,_,_=>rfl
 | 0,g+1,l,h,_=>by
  rw[List.eq_nil_of_length_eq_zero (Nat.le_zero.1 h)];rfl
 | f+1,0,l,_,h=>by
  rw[List.eq_nil_of_length_eq_zero (Nat.le_zero.1 h)];rfl
 | f+1,g+1,[],_,_=>rfl
 | f+1,g+1,b::t,h,h'=>by
  simp only[framesF]
  simp only[List.length_cons] at h h'
  rw[framesF_fuel f g (t.drop b.toNat) tA tA]
theorem framesL_nil:framesL []=[]:=rfl
theorem framesL_cons(b:UInt8)(t:List UInt8):framesL (b::t)=if t.length<b.toNat then[] else if decOk (t.take b.toNat)=true then decR (t.take b.toNat)::framesL (t.drop b.toNat) else[]:=by
 unfold framesL
 rw[List.length_cons,framesF,framesF_fuel t.length (t.drop b.toNat).length (t.drop b.toNat) tE (Nat.le_refl _)]
theorem framesL_some{b:UInt8}{t:List UInt8}(h:b.toNat≤t.length)(h':decOk (t.take b.toNat)=true):framesL (b::t)=decR (t.take b.toNat)::framesL (t.drop b.toNat):=by
 rw[framesL_cons,if_neg tB,if_pos h']
theorem framesL_short{b:UInt8}{t:List UInt8}(h:t.length<b.toNat):framesL (b::t)=[]:=by
 rw[framesL_cons,if_pos h]
theorem framesL_bad{b:UInt8}{t:List UInt8}(h':decOk (t.take b.toNat)=false):framesL (b::t)=[]:=by
 rw[framesL_cons,h'];simp
theorem recB_small{r:Rec}(h:RecNum r):(byteI (23+(r.text.size:Int)) 0).toNat=(recB r).length∨233≤r.text.size:=by
 by_cases hs:233≤r.text.size
 ·exact .inr hs
 ·refine .inl ?_
  have:=byteI_toNat (23+(r.text.size:Int)) tB 0
  rw[recB_length]
  simp at this
  omega
theorem recOk_text{r:Rec}(h:recOk r=true):r.text.size≤200:=by
 simp only[recOk,txtOk,Bool.and_eq_true,decide_eq_true_eq] at h
 exact h.1.2.1
theorem recB_head{r:Rec}(h:recOk r=true):(byteI (23+(r.text.size:Int)) 0).toNat=(recB r).length:=by
 have:=recOk_text h
 rcases recB_small (recNum_of h) with h|h <;> omega
theorem framesL_frame{r:Rec}(h:recOk r=true)(t:List UInt8):framesL (frameB r++t)=r::framesL t:=by
 unfold frameB
 rw[List.cons_append,framesL_some]
 ·rw[recB_head h,List.take_left' rfl,List.drop_left' rfl,decR_recB r (recNum_of h)]
 ·rw[recB_head h];simp
 ·rw[recB_head h,List.take_left' rfl,decOk_recB h]
theorem framesL_app{l:List Rec}(h:∀ r∈l,recOk r=true)(t:List UInt8):framesL (bytesR l++t)=l++framesL t:=by
 induction l with
 | nil=>rfl
 | cons r l ih=>
  rw[bytesR_cons,List.append_assoc,framesL_frame (h r tE),ih fun x hx=>h x tQ]
  rfl
theorem framesL_torn{r:Rec}(h:recOk r=true)(n:Nat)(hn:n<(frameB r).length):framesL ((frameB r).take n)=[]:=by
 unfold frameB at hn ⊢
 cases n with
 | zero=>rfl
 | succ n=>
  rw[List.take_succ_cons,framesL_short]
  rw[recB_head h]
  simp at hn ⊢
  omega
theorem decR_frame{b:UInt8}{t:List UInt8}(h:b.toNat≤t.length)(h':decOk (t.take b.toNat)=true):frameB (decR (t.take b.toNat))=b::t.take b.toNat:=by
 simp only[decOk,Bool.and_eq_true] at h'
 have e:=recB_decR _ h'.1
 have e2:=recB_head h'.2
 unfold frameB
 rw[e]
 congr 1
 apply UInt8.toNat_inj.1
 rw[e2,e]
 simp
 omega
theorem framesL_ind{p:List UInt8→Prop}(h0:p [])(hs:∀ b t,framesL (b::t)=[]→p (b::t))
 (hc:∀ b t,b.toNat≤t.length→decOk (t.take b.toNat)=true→p (t.drop b.toNat)→p (b::t)):∀ (n:Nat) (l:List UInt8),l.length≤n→p l
 | _,[],_=>h0
 | 0,b::t,h=>by simp at h
 | n+1,b::t,h=>by
  by_cases h1:b.toNat≤t.length
  ·cases h2:decOk (t.take b.toNat) with
   | true=>
    refine hc b t h1 h2 (framesL_ind h0 hs hc n _ ?_)
    simp at h ⊢;omega
   | false=>exact hs b t (framesL_bad h2)
  ·exact hs b t (framesL_short tB)
theorem framesL_ok(l:List UInt8):∀ r∈framesL l,recOk r=true:=by
 refine framesL_ind (p:=fun l=> ∀r∈framesL l,recOk r=true) ?_ ?_ ?_ _ l (Nat.le_refl _)
 ·intro r hr;cases hr
 ·intro b t h r hr;rw[h] at hr;cases hr
 ·intro b t h1 h2 ih r hr
  rw[framesL_some h1 h2] at hr
  rcases List.mem_cons.1 hr with rfl|hr
  ·simp only[decOk,Bool.and_eq_true] at h2;exact h2.2
  ·exact ih r hr
theorem framesL_prefix(l:List UInt8):bytesR (framesL l) <+: l:=by
 refine framesL_ind (p:=fun l=>bytesR (framesL l) <+: l) ?_ ?_ ?_ _ l (Nat.le_refl _)
 ·exact List.nil_prefix
 ·intro b t h;rw[h];exact List.nil_prefix
 ·intro b t h1 h2 ih
  rw[framesL_some h1 h2,bytesR_cons,decR_frame h1 h2]
  obtain⟨m,hm⟩:=ih
  refine⟨m,?_⟩
  rw[List.append_assoc,hm,List.cons_append,List.take_append_drop]
theorem bytesR_le(l:List UInt8):(bytesR (framesL l)).length≤l.length:=(framesL_prefix l).length_le
theorem bytesR_eq(l:List UInt8):bytesR (framesL l)=l.take (bytesR (framesL l)).length:=(List.prefix_iff_eq_take.1 (framesL_prefix l))
theorem bytesR_count(l:List Rec):l.length≤(bytesR l).length:=by
 induction l with
 | nil=>exact Nat.le_refl _
 | cons r l ih=>rw[bytesR_cons,List.length_append,frameB_length,List.length_cons];omega
theorem framesL_le(l:List UInt8):(framesL l).length≤l.length:=Nat.le_trans (bytesR_count _) (bytesR_le l)
theorem framesL_take:∀ (l:List Rec),(∀r∈l,recOk r=true)→∀ n,∃k,framesL ((bytesR l).take n)=l.take k
 | [],_,n=>⟨0,by simp[bytesR_nil,framesL_nil]⟩
 | r::l,h,n=>by
  by_cases hn:n<(frameB r).length
  ·refine⟨0,?_⟩
   rw[bytesR_cons,List.take_append_of_le_length tB,framesL_torn (h r tE) n hn];rfl
  ·obtain⟨k,hk⟩:=framesL_take l (fun x hx=>h x tQ) (n-(frameB r).length)
   refine⟨k+1,?_⟩
   rw[bytesR_cons,List.take_append,List.take_of_length_le tB,framesL_frame (h r tE),hk]
   rfl
def genB(b:List UInt8):Int:=valB ((b.drop 4).take 4)
def cntB(b:List UInt8):Int:=valB ((b.drop 8).take 2)
def recsB(b:List UInt8):List Rec:=framesL (b.drop 10)
def isHead(b:List UInt8):Bool:=decide (10≤b.length)&&decide (b.take 4=moorB)
def pageOk(b:List UInt8):Bool:=isHead b&&inB (genB b) 1 1000000000&&decide (cntB b≤((recsB b).length:Int))
def writtenB(gen cnt:Int)(l:List Rec):List UInt8:=headB gen cnt++bytesR l
def longB(b:List UInt8):Nat:=10+(bytesR (recsB b)).length
theorem writtenB_length(gen cnt:Int)(l:List Rec):(writtenB gen cnt l).length=10+(bytesR l).length:=by rw[writtenB,List.length_append,headB_length]
theorem longB_le{b:List UInt8}(h:isHead b=true):longB b≤b.length:=by
 simp only[isHead,Bool.and_eq_true,decide_eq_true_eq] at h
 have:=bytesR_le (b.drop 10)
 unfold longB recsB
 rw[List.length_drop] at this
 omega
theorem genB_bound(b:List UInt8):0≤genB b∧genB b<4294967296:=by
 have:=valB_bound ((b.drop 4).take 4)
 refine⟨this.1,Int.lt_of_lt_of_le this.2 ?_⟩
 have h:((b.drop 4).take 4).length≤4:=by rw[List.length_take];omega
 have h2:(256:Nat) ^ ((b.drop 4).take 4).length≤256 ^ 4:=Nat.pow_le_pow_right tB h
 have h3:((256:Int) ^ ((b.drop 4).take 4).length)=((256 ^ ((b.drop 4).take 4).length:Nat):Int):=(Int.natCast_pow 256 _).symm
 rw[h3]
 omega
theorem cntB_bound(b:List UInt8):0≤cntB b∧cntB b<65536:=by
 have:=valB_bound ((b.drop 8).take 2)
 refine⟨this.1,Int.lt_of_lt_of_le this.2 ?_⟩
 have h:((b.drop 8).take 2).length≤2:=by rw[List.length_take];omega
 have h2:(256:Nat) ^ ((b.drop 8).take 2).length≤256 ^ 2:=Nat.pow_le_pow_right tB h
 have h3:((256:Int) ^ ((b.drop 8).take 2).length)=((256 ^ ((b.drop 8).take 2).length:Nat):Int):=(Int.natCast_pow 256 _).symm
 rw[h3]
 omega
theorem head_take{b:List UInt8}(h:isHead b=true):headB (genB b) (cntB b)=b.take 10:=by
 simp only[isHead,Bool.and_eq_true,decide_eq_true_eq] at h
 unfold headB genB cntB
 rw[numB_valB 4 _ tA,numB_valB 2 _ tA,←h.2,show(10:Nat)=4+(4+2) from rfl,List.take_add,List.take_add,List.drop_drop]
theorem written_take{b:List UInt8}(h:isHead b=true):writtenB (genB b) (cntB b) (recsB b)=b.take (longB b):=by
 unfold writtenB longB
 rw[head_take h,List.take_add]
 congr 1
 exact bytesR_eq _
theorem take4_written(gen cnt:Int)(l:List Rec)(t:List UInt8):(writtenB gen cnt l++t).take 4=moorB:=by
 simp[writtenB,headB,moorB]
theorem isHead_written(gen cnt:Int)(l:List Rec)(t:List UInt8):isHead (writtenB gen cnt l++t)=true:=by
 simp only[isHead,Bool.and_eq_true,decide_eq_true_eq]
 refine⟨?_,take4_written gen cnt l t⟩
 rw[List.length_append,writtenB_length];omega
theorem genB_written{gen:Int}(h0:0≤gen)(h1:gen<4294967296)(cnt:Int)(l:List Rec)(t:List UInt8):genB (writtenB gen cnt l++t)=gen:=by
 unfold genB writtenB headB
 simp only[List.append_assoc]
 rw[List.drop_left' (by rfl),List.take_left' (numB_length gen 4),valB_numB 4 gen h0 tB]
theorem cntB_written(gen:Int){cnt:Int}(h0:0≤cnt)(h1:cnt<65536)(l:List Rec)(t:List UInt8):cntB (writtenB gen cnt l++t)=cnt:=by
 unfold cntB writtenB headB
 rw[show ∀a b c d e:List UInt8,a++(b++c)++d++e=(a++b)++(c++(d++e)) from fun a b c d e=>by simp]
 rw[List.drop_left' (by simp[moorB,numB_length]),List.take_left' (numB_length cnt 2),valB_numB 2 cnt h0 tB]
theorem recsB_head(gen cnt:Int)(t:List UInt8):recsB (headB gen cnt++t)=framesL t:=by
 unfold recsB
 rw[List.drop_left' (headB_length gen cnt)]
theorem recsB_written(gen cnt:Int){l:List Rec}(h:∀ r∈l,recOk r=true)(t:List UInt8):recsB (writtenB gen cnt l++t)=l++framesL t:=by
 unfold writtenB
 rw[List.append_assoc,recsB_head,framesL_app h]
def Apart(l:List Rec):Prop:=l.Pairwise fun a b=> ¬(a.ao=b.ao∧a.sq=b.sq)
instance(l:List Rec):Decidable (Apart l):=by unfold Apart;infer_instance
def regOk(l:List Rec):Bool:=decide (l.length≤80)&&l.all recOk&&decide (Apart l)
def ordL(l:List Rec):List Rec:=l.foldl insR []
theorem ordL_perm(l:List Rec):(ordL l).Perm l:=by
 have h:=foldl_insR_perm l []
 rwa [List.nil_append] at h
theorem ordL_snoc(l:List Rec)(r:Rec):ordL (l++[r])=insR (ordL l) r:=by simp[ordL,List.foldl_append]
theorem ordL_take_succ(l:List Rec)(k:Nat)(hk:k<l.length):ordL (l.take (k+1))=insR (ordL (l.take k)) l[k]:=by
 rw[List.take_succ_eq_append_getElem hk,ordL_snoc]
theorem hasR_perm{l m:List Rec}(h:l.Perm m)(o s:Int):hasR l o s=hasR m o s:=by
 rw[Bool.eq_iff_iff,hasR,hasR,List.any_eq_true,List.any_eq_true]
 exact⟨fun⟨x,hx,ha⟩=>⟨x,h.mem_iff.1 hx,ha⟩,fun⟨x,hx,ha⟩=>⟨x,h.mem_iff.2 hx,ha⟩⟩
theorem apart_snoc(l:List Rec)(r:Rec):Apart (l++[r])↔Apart l∧hasR l r.ao r.sq=false:=by
 rw[Apart,List.pairwise_append]
 simp only[List.pairwise_singleton,List.mem_singleton,forall_eq,true_and]
 refine and_congr_right fun _=> ?_
 rw[hasR,List.any_eq_false]
 simp[atB]
theorem apart_take_succ(l:List Rec)(k:Nat)(hk:k<l.length):Apart (l.take (k+1))↔Apart (l.take k)∧hasR (ordL (l.take k)) l[k].ao l[k].sq=false:=by
 rw[List.take_succ_eq_append_getElem hk,apart_snoc,hasR_perm (ordL_perm _)]
theorem foldr_snoc_ind{p:List Rec→Prop}(h0:p [])(hs:∀ l r,p l→p (l++[r]))(l:List Rec):p l:=by
 have:∀ m:List Rec,p m.reverse:=by
  intro m
  induction m with
  | nil=>exact h0
  | cons r m ih=>rw[List.reverse_cons];exact hs _ _ ih
 have h:=this l.reverse
 rwa [List.reverse_reverse] at h
theorem ordL_sorted{l:List Rec}(h:Apart l):Sorted (ordL l):=by
 revert h
 refine foldr_snoc_ind (p:=fun l=>Apart l→Sorted (ordL l)) ?_ ?_ l
 ·intro _;exact List.Pairwise.nil
 ·intro l r ih h
  obtain⟨h1,h2⟩:=(apart_snoc l r).1 h
  rw[ordL_snoc]
  refine insR_sorted (ih h1) ?_
  rwa [hasR_perm (ordL_perm l)]
theorem sorted_apart{l:List Rec}(h:Sorted l):Apart l:=by
 refine h.imp ?_
 intro a b h1 h2
 unfold aheadB at h1
 rw[ltP_iff] at h1
 omega
theorem ordL_of_sorted{l:List Rec}(h:Sorted l):ordL l=l:=sorted_perm (ordL_sorted (sorted_apart h)) h (ordL_perm l)
theorem apart_perm{l m:List Rec}(h:l.Perm m):Apart l↔Apart m:=by
 unfold Apart
 exact h.pairwise_iff (fun {a b} hab hh=>hab ⟨hh.1.symm,hh.2.symm⟩)
theorem ordL_perm_eq{l m:List Rec}(h:l.Perm m)(ha:Apart l):ordL l=ordL m:=
 sorted_perm (ordL_sorted ha) (ordL_sorted ((apart_perm h).1 ha)) ((ordL_perm l).trans (h.trans (ordL_perm m).symm))
theorem all_perm{l m:List Rec}(h:l.Perm m):l.all recOk=m.all recOk:=by
 rw[Bool.eq_iff_iff,List.all_eq_true,List.all_eq_true]
 exact⟨fun h1 x hx=>h1 x (h.mem_iff.2 hx),fun h1 x hx=>h1 x (h.mem_iff.1 hx)⟩
theorem checkB_of_order{l m:List Rec}(hp:m.Perm l)(hw:m.Pairwise fun a b=> ¬(cmpP b.ao b.sq a.ao a.sq<0)):checkB m=regOk l:=by
 have hs:Sorted m↔Apart l:=by
  rw[←apart_perm hp]
  refine⟨sorted_apart,fun ha=> ?_⟩
  have:=List.Pairwise.and hw ha
  refine this.imp ?_
  rintro a b ⟨h1,h2⟩
  rw[cmpP_neg,ltP_iff] at h1
  unfold aheadB
  rw[ltP_iff]
  omega
 unfold checkB regOk
 rw[hp.length_eq,all_perm hp]
 congr 1
 exact decide_eq_decide.2 hs
theorem ordL_of_order{l m:List Rec}(hp:m.Perm l)(h:checkB m=true):m=ordL l:=by
 have hs:=(checkB_iff.1 h).2.2
 rw[←ordL_of_sorted hs]
 exact ordL_perm_eq hp (sorted_apart hs)
theorem checkB_ordL{l:List Rec}(h:regOk l=true):checkB (ordL l)=true:=by
 simp only[regOk,Bool.and_eq_true,decide_eq_true_eq] at h
 rw[checkB_iff,(ordL_perm l).length_eq]
 refine⟨h.1.1,?_,ordL_sorted h.2⟩
 intro r hr
 exact List.all_eq_true.1 h.1.2 r ((ordL_perm l).mem_iff.1 hr)
def recsEqB(a b:List Rec):Bool:=decide (a.length=b.length)&&(a.zip b).all fun p=>recEqB p.1 p.2
theorem recsEqB_iff:∀ {a b:List Rec},recsEqB a b=true↔a=b
 | [],[]=>by simp[recsEqB]
 | [],_::_=>by simp[recsEqB]
 | _::_,[]=>by simp[recsEqB]
 | r::a,s::b=>by
  have ih:=recsEqB_iff (a:=a) (b:=b)
  simp only[recsEqB,Bool.and_eq_true,decide_eq_true_eq,List.zip_cons_cons,List.all_cons,List.length_cons,List.cons.injEq,recEqB_iff] at ih ⊢
  rw[←ih]
  constructor
  ·rintro⟨h1,h2,h3⟩;exact⟨h2,by omega,h3⟩
  ·rintro⟨h1,h2,h3⟩;exact⟨by omega,h1,h3⟩
structure FileD where
 bytes:List UInt8
 firm:Int
structure DriveD where
 f0:FileD
 f1:FileD
structure MemD where
 recs:List Rec
 file:Int
 gen:Int
def fileOk(f:FileD):Bool:=inB f.firm 0 f.bytes.length&&decide (f.bytes.length≤100000)
def driveOk(d:DriveD):Bool:=fileOk d.f0&&fileOk d.f1
def noFile:FileD:=⟨[],0⟩
def noDrive:DriveD:=⟨noFile,noFile⟩
def noMem:MemD:=⟨[],0,0⟩
def firmF(f:FileD):FileD:=⟨f.bytes,f.bytes.length⟩
def firmD(d:DriveD):DriveD:=⟨firmF d.f0,firmF d.f1⟩
def syncD(d:DriveD):DriveD:=if driveOk d=true then firmD d else d
def keptI(f:FileD)(n:Int):Int:=f.firm+n % ((f.bytes.length:Int)-f.firm+1)
def crashF(f:FileD)(n:Int):FileD:=⟨f.bytes.take (keptI f n).toNat,keptI f n⟩
def crashD(d:DriveD)(n m:Int):DriveD:=if driveOk d=true then⟨crashF d.f0 n,crashF d.f1 m⟩ else d
theorem fileOk_iff{f:FileD}:fileOk f=true↔(0≤f.firm∧f.firm≤f.bytes.length)∧f.bytes.length≤100000:=by
 simp only[fileOk,Bool.and_eq_true,inB_spec,decide_eq_true_eq]
theorem keptI_in{f:FileD}(h:fileOk f=true)(n:Int):f.firm≤keptI f n∧keptI f n≤f.bytes.length:=by
 have h:=fileOk_iff.1 h
 have h1:=Int.emod_nonneg n (b:=(f.bytes.length:Int)-f.firm+1) tB
 have h2:=Int.emod_lt_of_pos n (b:=(f.bytes.length:Int)-f.firm+1) tB
 unfold keptI
 omega
def atI(d:DriveD):Int:=if pageOk d.f1.bytes=true∧¬(pageOk d.f0.bytes=true∧genB d.f1.bytes≤genB d.f0.bytes) then 1 else if pageOk d.f0.bytes=true then 0 else -1
def fileAt(d:DriveD)(i:Int):FileD:=if i=0 then d.f0 else d.f1
def withFile(d:DriveD)(i:Int)(f:FileD):DriveD:=if i=0 then⟨f,d.f1⟩ else⟨d.f0,f⟩
def bestB(d:DriveD):List UInt8:=(fileAt d (atI d)).bytes
def openE(d:DriveD):Int:=if driveOk d=true then if 0≤atI d∧regOk (recsB (bestB d))=true then 0 else 74 else 73
def openD(d:DriveD):DriveD:=if openE d=0 then withFile noDrive (atI d) ⟨(bestB d).take (longB (bestB d)),longB (bestB d)⟩ else noDrive
def openM(d:DriveD):MemD:=if openE d=0 then⟨ordL (recsB (bestB d)),atI d,genB (bestB d)⟩ else noMem
def memOk(d:DriveD)(m:MemD):Bool:=driveOk d&&(inB m.file 0 1&&(decide ((fileAt d (1-m.file)).bytes=[])&&(pageOk (fileAt d m.file).bytes&&(decide (genB (fileAt d m.file).bytes=m.gen)&&
 (decide (longB (fileAt d m.file).bytes=(fileAt d m.file).bytes.length)&&(regOk (recsB (fileAt d m.file).bytes)&&recsEqB (ordL (recsB (fileAt d m.file).bytes)) m.recs))))))
def addF(d:DriveD)(i:Int)(l:List UInt8):DriveD:=withFile d i ⟨(fileAt d i).bytes++l,(fileAt d i).firm⟩
def appE(d:DriveD)(m:MemD)(r:Rec):Int:=if memOk d m=true then if recOk r=true then putE m.recs r else 70 else 73
def appD(d:DriveD)(m:MemD)(r:Rec):DriveD:=if appE d m r=0 then if hasR m.recs r.ao r.sq=true then d else addF d m.file (frameB r) else noDrive
def appM(d:DriveD)(m:MemD)(r:Rec):MemD:=if appE d m r=0 then⟨putL m.recs r,m.file,m.gen⟩ else noMem
def newDrive:DriveD:=⟨⟨headB 1 0,10⟩,noFile⟩
def newMem:MemD:=⟨[],0,1⟩
end Go.Proofs.YtekjdeibnfaehaaGreat
