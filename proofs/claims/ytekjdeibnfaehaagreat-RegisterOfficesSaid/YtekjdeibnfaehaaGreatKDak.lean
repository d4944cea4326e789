/- Texts of a proof. -/
import Derived.Test.YtekjdeibnfaehaaGreatKDaj
import Derived.MapKept
import Derived.WideKeyRuns
import Derived.Deep.OwnRows
import Derived.OwnWalk
set_option linter.unusedSimpArgs false
set_option linter.unusedVariables false
namespace Go.Proofs.YtekjdeibnfaehaaGreat
open Go.RowKit
theorem nextN_end{l:List Rec}{o:Int}{k:Nat}(h:l.length=k):nextN (l.take k) o=nextN l o:=by rw[←h,List.take_length]
theorem nextStep_hit{o n:Int}{r:Rec}(h:r.ao=o):nextStep o n r=r.sq+1:=by simp[nextStep,h]
theorem nextStep_no{o n:Int}{r:Rec}(h:¬r.ao=o):nextStep o n r=n:=by simp[nextStep,h]
def SqSmall(l:List Rec):Prop:=∀ r∈l,0≤r.sq∧r.sq<65536
theorem checkB_sq{l:List Rec}(h:checkB l=true):SqSmall l:=fun r hr=>(recNum_of ((checkB_iff.1 h).2.1 r hr)).sq
set_option maxRecDepth 100000 in
set_option maxHeartbeats 4000000 in
theorem rnext_any(A:Option Addr)(c n:Nat)(l:List Rec)(o:Int)(hn:l.length=n)(hbig:n≤100000)(hsq:SqSmall l)(w:World)(hr:Recs w A l):
 Calls Tryz.prog 105 #[regV A n c,.int .i64 o] w fun e w'=>e= .returned (.int .i64 (nextN l o))∧Ext w w':=by
 go_enter Tryz.func105,Tryz.ntmps105
 go_wp2_with fail
 go_loopw [5,6] (fun v i wr=> ∃k:Nat,k≤n∧i= .int .i64 k∧v= .int .i64 (nextN (l.take k) o)∧Ext (w.alloc (.cells #[.slice A n c] 34)) wr) (fun _ i _=>n-(intOf i).toNat)
 case atStart=>exact⟨0,Nat.zero_le _,rfl,rfl,Ext.refl _⟩
 case round=>
  obtain⟨k,hk,rfl,rfl,⟨E0,d0,rfl⟩⟩:=hrel
  by_cases hlt:k<n
  ·have hm:k<l.length:=by omega
   obtain⟨g,of,rfl,hg⟩:=hr.addr tB
   obtain⟨h0,h1,_⟩:=hr.row hm
   have hst:=nextN_take_succ l o k hm
   have hs:=hsq _ (List.getElem_mem hm)
   obtain⟨r,hrk⟩:∃ r,l[k]=r:=⟨_,rfl⟩
   rw[hrk] at h0 h1 hst hs
   clear hrk
   obtain⟨hs0,hs1⟩:=hs
   by_cases ho:r.ao=o
   ·rw[nextStep_hit ho] at hst
    have Hst:=hid hst
    clear hst
    go_wp2_with fail
    exact⟨⟨k+1,by omega,by go_num,congrArg (Value.int .i64) Hst.out.symm,exI⟩,by simp[intOf];omega⟩
   ·rw[nextStep_no ho] at hst
    have Hst:=hid hst
    clear hst
    go_wp2_with fail
    exact⟨⟨k+1,by omega,by go_num,congrArg (Value.int .i64) Hst.out.symm,exI⟩,by simp[intOf];omega⟩
  ·obtain rfl:k=n:=by omega
   have HE:=hid (nextN_end (o:=o) hn)
   go_wp2_with fail
   go_ret
   exact⟨ret_val tX,exI⟩
theorem nextI_bad{l:List Rec}{o:Int}(h:checkB l=false):nextI l o= -1:=by simp[nextI,h]
theorem nextI_off{l:List Rec}{o:Int}(h:checkB l=true)(h2:inB o 0 8=false):nextI l o= -1:=by simp[nextI,h,h2]
theorem nextI_ok{l:List Rec}{o:Int}(h:checkB l=true)(h2:inB o 0 8=true):nextI l o=nextN l o:=by simp[nextI,h,h2]
set_option maxRecDepth 100000 in
set_option maxHeartbeats 4000000 in
theorem Next_any(A:Option Addr)(c n:Nat)(l:List Rec)(o:Int)(hn:l.length=n)(hbig:n≤9223372036854775807)(ht:TxtBig l)(w:World)(hr:Recs w A l):
 Calls Tryz.prog 140 #[regV A n c,.int .i64 o] w fun e w'=>e= .returned (.int .i64 (nextI l o))∧Ext w w':=by
 cases hc:checkB l with
 | false=>
  have he:=errReg_bad hc
  have HE:=hid (nextI_bad (o:=o) hc)
  clear hc
  go_enter Tryz.func140,Tryz.ntmps140
  go_wp2_with (go_at_call 81;refine(Check_any _ _ _ _ tZ tB tF _ (recI ‹_›)).mono ?_;rintro e w1 ⟨rfl,E1,d1,rfl⟩)
  go_ret
  exact⟨ret_val tX,exI⟩
 | true=>
  have he:=errReg_ok hc
  have hsq:=checkB_sq hc
  have h80:=(checkB_iff.1 hc).1
  cases hk:inB o 0 8 with
  | false=>
   have HE:=hid (nextI_off hc hk)
   clear hc
   go_enter Tryz.func140,Tryz.ntmps140
   go_wp2_with (first|(go_at_call 81;refine(Check_any _ _ _ _ tZ tB tF _ (recI ‹_›)).mono ?_;rintro e w1 ⟨rfl,E1,d1,rfl⟩)|(go_at_call 97;refine(isOffice_any _ _).mono ?_;rintro e w1 ⟨rfl,rfl⟩))
   go_ret
   exact⟨ret_val tX,exI⟩
  | true=>
   have HE:=hid (nextI_ok hc hk)
   clear hc
   go_enter Tryz.func140,Tryz.ntmps140
   go_wp2_with (first|(go_at_call 81;refine(Check_any _ _ _ _ tZ tB tF _ (recI ‹_›)).mono ?_;rintro e w1 ⟨rfl,E1,d1,rfl⟩)|(go_at_call 97;refine(isOffice_any _ _).mono ?_;rintro e w1 ⟨rfl,rfl⟩))
   go_loopw [5,19] (fun v i wr=> ∃k:Nat,k≤n∧i= .int .i64 k∧v= .int .i64 (nextN (l.take k) o)∧Ext (w.alloc (.cells #[.slice A n c] 34)) wr) (fun _ i _=>n-(intOf i).toNat)
   case atStart=>exact⟨0,Nat.zero_le _,rfl,rfl,exI⟩
   case round=>
    obtain⟨k,hk,rfl,rfl,⟨E0,d0,rfl⟩⟩:=hrel
    by_cases hlt:k<n
    ·have hm:k<l.length:=by omega
     obtain⟨g,of,rfl,hg⟩:=hr.addr tB
     have hrow:=hr.row hm
     have hst:=nextN_take_succ l o k hm
     have hs:=hsq _ (List.getElem_mem hm)
     obtain⟨r,hrk⟩:∃ r,l[k]=r:=⟨_,rfl⟩
     rw[hrk] at hrow hst hs
     obtain⟨h0,h1,h2,h3,h4,h5,h6,h7,h8,h9,h10⟩:=hrow
     clear hrk
     obtain⟨hs0,hs1⟩:=hs
     by_cases ho:r.ao=o
     ·rw[nextStep_hit ho] at hst
      have Hst:=hid hst
      clear hst
      go_wp2_with fail
      exact⟨⟨k+1,by omega,by go_num,congrArg (Value.int .i64) Hst.out.symm,exI⟩,by simp[intOf];omega⟩
     ·rw[nextStep_no ho] at hst
      have Hst:=hid hst
      clear hst
      go_wp2_with fail
      exact⟨⟨k+1,by omega,by go_num,congrArg (Value.int .i64) Hst.out.symm,exI⟩,by simp[intOf];omega⟩
    ·obtain rfl:k=n:=by omega
     have HN:=hid (nextN_end (o:=o) hn)
     go_wp2_with fail
     go_ret
     exact⟨ret_val (by rw[HE.out,←HN.out];rfl),exI⟩
end Go.Proofs.YtekjdeibnfaehaaGreat
namespace Go.Proofs.YtekjdeibnfaehaaGreat
open Go.RowKit
abbrev plcV(a b:Int):Value:=.agg #[.int .i64 a,.int .i64 b]
theorem run_equal_place(a b c d:Int)(w:World):(Op.equal 44 (plcV a b) (plcV c d)).run Tryz.prog w= .ok (plcEqB a b c d) w:=by
 have hu:∀ x y:Value,Op.equal 44 x y=Op.equalIn 10000 44 x y:=fun x y=>rfl
 rw[hu]
 unfold plcV
 by_cases h1:a=c <;> by_cases h2:b=d <;> simp[go_sem,plcEqB,h1,h2]
theorem run_checkKey(e:Bool)(a b:Int)(w:World):(Instr.checkKey e 10000 44 (plcV a b)).run Tryz.prog w= .ok () w:=by
 have hi:∀ (n:Nat) (x:Int),(Instr.checkKey e (n+1) 3 (.int .i64 x)).run Tryz.prog w= .ok () w:=fun n x=>by
  simp[Instr.checkKey,run_underlying Tryz.underlying3]
 have hs:∀ n:Nat,(Instr.checkKey e (n+1+1) 44 (plcV a b)).run Tryz.prog w= .ok () w:=fun n=>by
  simp[Instr.checkKey,run_underlying Tryz.underlying44,go_sem,hi]
 exact hs 9998
theorem zero_bool(w:World):(zeroValue 4).run Tryz.prog w= .ok (.bool false) w:=by
 simp[go_sem]
structure SetE(es:List MapEntry)(S:List (Int×Int)):Prop where
 shape:∀ e∈es,∃a b,e.key=plcV a b∧e.val= .bool true
 has:∀ a b,(∃e∈es,e.key=plcV a b)↔(a,b)∈S
theorem run_findAsking(a b:Int)(w:World):∀ (es:List MapEntry) (i:Nat),(∀e∈es,∃a b,e.key=plcV a b∧e.val= .bool true)→
 (∃j,∃h:j<es.length,es[j].key=plcV a b∧(Instr.findAsking 44 (plcV a b) es i).run Tryz.prog w= .ok (some (i+j,.bool true)) w)∨
 ((¬ ∃e∈es,e.key=plcV a b)∧(Instr.findAsking 44 (plcV a b) es i).run Tryz.prog w= .ok none w)
 | [],i,_=> .inr ⟨by simp,rfl⟩
 | e::es,i,hs=>by
  obtain⟨c,d,hk,hv⟩:=hs e tE
  have he:(Op.equal 44 (plcV a b) e.key).run Tryz.prog w= .ok (plcEqB a b c d) w:=by rw[hk];exact run_equal_place a b c d w
  cases hb:plcEqB a b c d with
  | true=>
   obtain⟨rfl,rfl⟩:=plcEqB_iff.1 hb
   refine .inl ⟨0,by simp,hk,?_⟩
   rw[Instr.findAsking,Sem.run_bind,he,hb]
   simp[hv]
  | false=>
   have hne:¬ (a=c∧b=d):=fun h=>by rw[plcEqB_iff.2 h] at hb;cases hb
   rcases run_findAsking a b w es (i+1) (fun x hx=>hs x tQ) with⟨j,hj,h1,h2⟩|⟨h1,h2⟩
   ·refine .inl ⟨j+1,by simp;omega,by simpa using h1,?_⟩
    rw[Instr.findAsking,Sem.run_bind,he,hb]
    simp only[Result.andThen_ok,Bool.false_eq_true,if_false]
    rw[h2,show i+1+j=i+(j+1) by omega]
   ·refine .inr ⟨?_,?_⟩
    ·rintro⟨x,hx,hxk⟩
     rcases List.mem_cons.1 hx with rfl|hx
     ·rw[hk] at hxk
      simp only[plcV,Value.agg.injEq] at hxk
      simp at hxk
      exact hne ⟨hxk.1.symm,hxk.2.symm⟩
     ·exact h1 ⟨x,hx,hxk⟩
    ·rw[Instr.findAsking,Sem.run_bind,he,hb]
     simp only[Result.andThen_ok,Bool.false_eq_true,if_false]
     exact h2
theorem run_findKey_place(a b:Int)(w:World)(es:List MapEntry)(S:List (Int×Int))(h:SetE es S):
 (∃j,∃hj:j<es.length,es[j].key=plcV a b∧(a,b)∈S∧(Instr.findKey 44 (plcV a b) es).run Tryz.prog w= .ok (some (j,.bool true)) w)∨
 ((a,b)∉S∧(Instr.findKey 44 (plcV a b) es).run Tryz.prog w= .ok none w):=by
 have hf:(Instr.findKey 44 (plcV a b) es).run Tryz.prog w=(Instr.findAsking 44 (plcV a b) es 0).run Tryz.prog w:=by
  exact run_findKey_eq w (P:=Tryz.prog) (k:=44) (by rw[Tryz.underlying44]) _ _
 rw[hf]
 rcases run_findAsking a b w es 0 h.shape with⟨j,hj,h1,h2⟩|⟨h1,h2⟩
 ·exact .inl ⟨j,hj,h1,(h.has a b).1 ⟨_,List.getElem_mem hj,h1⟩,by simpa using h2⟩
 ·exact .inr ⟨fun hm=>h1 ((h.has a b).2 hm),h2⟩
def SetM(w:World)(g:Nat)(S:List (Int×Int)):Prop:=∃ es clock,w.heap[g]? =some (.map es clock)∧SetE es.toList S
theorem SetM.alloc{w:World}{g:Nat}{S:List (Int×Int)}(h:SetM w g S)(o:Obj):SetM (w.alloc o) g S:=by
 obtain⟨es,clock,hg,he⟩:=h
 exact⟨es,clock,by rw[Below.heap_alloc _ _ _ (Array.getElem?_eq_some_iff.1 hg).1];exact hg,he⟩
theorem SetM.new(w:World)(g:Nat)(hg:g=w.heap.size):SetM (w.alloc (.map #[] 0)) g []:=by
 subst hg
 exact⟨#[],0,heap_alloc_new w _,⟨by simp,by simp⟩⟩
theorem SetM.lookup{w:World}{g:Nat}{S:List (Int×Int)}(h:SetM w g S)(a b:Int):(Instr.lookup 187 (.map (some g)) (plcV a b) false).run Tryz.prog w= .ok (.bool (S.contains (a,b))) w:=by
 obtain⟨es,clock,hg,he⟩:=h
 have hu:=run_underlying (w:=w) Tryz.underlying187
 rcases run_findKey_place a b w es.toList S he with⟨j,hj,h1,h2,h3⟩|⟨h1,h3⟩
 ·have hc:S.contains (a,b)=true:=by simpa using h2
  rw[hc]
  simp[Instr.lookup,hu,getObj,Sem.run,hg,run_checkKey,h3]
 ·have hc:S.contains (a,b)=false:=by rw[←Bool.not_eq_true];simpa using h1
  rw[hc]
  simp[Instr.lookup,hu,getObj,Sem.run,hg,run_checkKey,h3,zero_bool]
theorem SetE.push{es:List MapEntry}{S:List (Int×Int)}(h:SetE es S)(a b:Int)(c:Nat):SetE (es++[{key:=plcV a b,val:=.bool true,born:=c}]) ((a,b)::S):=by
 refine⟨?_,?_⟩
 ·intro e he
  rcases List.mem_append.1 he with he|he
  ·exact h.shape e he
  ·rw[List.mem_singleton.1 he]
   exact⟨a,b,rfl,rfl⟩
 ·intro x y
  constructor
  ·rintro⟨e,he,hk⟩
   rcases List.mem_append.1 he with he|he
   ·exact List.mem_cons_of_mem _ ((h.has x y).1 ⟨e,he,hk⟩)
   ·rw[List.mem_singleton.1 he] at hk
    simp[plcV] at hk
    simp[hk]
  ·intro hm
   rcases List.mem_cons.1 hm with hm|hm
   ·cases hm
    exact⟨_,List.mem_append_right _ (List.mem_singleton.2 rfl),rfl⟩
   ·obtain⟨e,he,hk⟩:=(h.has x y).2 hm
    exact⟨e,List.mem_append_left _ he,hk⟩
theorem SetE.again{es:List MapEntry}{S:List (Int×Int)}(h:SetE es S){a b:Int}{j:Nat}(hj:j<es.length)(hk:es[j].key=plcV a b):
 SetE (es.modify j fun e=>{e with key:=plcV a b,val:=.bool true}) ((a,b)::S):=by
 have hsame:∀ x∈es.modify j (fun e=>{e with key:=plcV a b,val:=.bool true}),∃y∈es,x.key=y.key∧x.val= .bool true:=by
  intro x hx
  obtain⟨i,hi,rfl⟩:=List.getElem_of_mem hx
  have hi':i<es.length:=by simpa using hi
  refine⟨es[i],List.getElem_mem hi',?_⟩
  rw[List.getElem_modify]
  by_cases hij:j=i
  ·subst hij
   rw[if_pos rfl]
   exact⟨hk.symm,rfl⟩
  ·rw[if_neg hij]
   obtain⟨_,_,_,hv⟩:=h.shape _ (List.getElem_mem hi')
   exact⟨rfl,hv⟩
 refine⟨?_,?_⟩
 ·intro x hx
  obtain⟨y,hy,h1,h2⟩:=hsame x hx
  obtain⟨c,d,h3,_⟩:=h.shape y hy
  exact⟨c,d,h1.trans h3,h2⟩
 ·intro x y
  constructor
  ·rintro⟨e,he,hek⟩
   obtain⟨z,hz,h1,_⟩:=hsame e he
   exact List.mem_cons_of_mem _ ((h.has x y).1 ⟨z,hz,by rw[←h1];exact hek⟩)
  ·intro hm
   have hin:∃ e∈es,e.key=plcV x y:=by
    rcases List.mem_cons.1 hm with hm|hm
    ·cases hm
     exact⟨_,List.getElem_mem hj,hk⟩
    ·exact(h.has x y).2 hm
   obtain⟨e,he,hek⟩:=hin
   obtain⟨i,hi,rfl⟩:=List.getElem_of_mem he
   refine⟨(es.modify j (fun e=>{e with key:=plcV a b,val:=.bool true}))[i]'(by simpa using hi),List.getElem_mem _,?_⟩
   rw[List.getElem_modify]
   by_cases hij:j=i
   ·subst hij
    rw[if_pos rfl]
    exact hk.symm.trans hek
   ·rw[if_neg hij]
    exact hek
theorem run_keyStays(a b:Int)(w:World):(Instr.keyThatStays (plcV a b) (plcV a b)).run Tryz.prog w= .ok (plcV a b) w:=by
 have h:Instr.sameBits 10000 (plcV a b) (plcV a b)=true:=by
  simp[Instr.sameBits,plcV]
 simp[Instr.keyThatStays,h]
theorem SetM.update{w:World}{g:Nat}{S:List (Int×Int)}(h:SetM w g S)(a b:Int):∃ w',(Instr.mapUpdate 187 (.map (some g)) (plcV a b) (.bool true)).run Tryz.prog w= .ok () w'∧SetM w' g ((a,b)::S)∧
 (∀N,N≤g→Below N w w')∧(∀k,k≠g→w'.heap[k]? =w.heap[k]?)∧w'.heap.size=w.heap.size:=by
 obtain⟨es,clock,hg,he⟩:=h
 have hlt:=(Array.getElem?_eq_some_iff.1 hg).1
 have hu:=run_underlying (w:=w) Tryz.underlying187
 have hset:∀ o:Obj,(∀N,N≤g→Below N w {w with heap:=w.heap.setIfInBounds g o})∧(∀k,k≠g→(w.heap.setIfInBounds g o)[k]? =w.heap[k]?)∧(w.heap.setIfInBounds g o).size=w.heap.size:=fun o=>
  ⟨fun N hN=>⟨rfl,rfl,rfl,by simp,fun i hi=>by simp only;rw[Array.getElem?_setIfInBounds_ne tB]⟩,fun k hk=>Array.getElem?_setIfInBounds_ne (fun e=>hk e.symm),by simp⟩
 rcases run_findKey_place a b w es.toList S he with⟨j,hj,h1,h2,h3⟩|⟨h1,h3⟩
 ·have hj':j<es.size:=by simpa using hj
  have hold:((es[j]?).map (·.key)).getD (plcV a b)=plcV a b:=by
   rw[Array.getElem?_eq_getElem hj']
   simpa using h1
  refine⟨_,?_,⟨es.modify j fun e=>{e with key:=plcV a b,val:=.bool true},clock,?_,?_⟩,hset (.map (es.modify j fun e=>{e with key:=plcV a b,val:=.bool true}) clock)⟩
  ·simp[Instr.mapUpdate,hu,getObj,setObj,Sem.run,hg,run_checkKey,h3,hold,run_keyStays]
  ·simp only
   rw[Array.getElem?_setIfInBounds_self_of_lt hlt]
  ·rw[Array.toList_modify]
   exact he.again hj h1
 ·refine⟨_,?_,⟨es.push {key:=plcV a b,val:=.bool true,born:=clock},clock+1,?_,?_⟩,hset (.map (es.push {key:=plcV a b,val:=.bool true,born:=clock}) (clock+1))⟩
  ·simp[Instr.mapUpdate,hu,getObj,setObj,Sem.run,hg,run_checkKey,h3]
  ·simp only
   rw[Array.getElem?_setIfInBounds_self_of_lt hlt]
  ·rw[Array.toList_push]
   exact he.push a b clock
theorem SetM.other{w w':World}{g:Nat}{S:List (Int×Int)}(h:SetM w g S)(he:w'.heap[g]? =w.heap[g]?):SetM w' g S:=by
 obtain⟨es,clock,hg,hs⟩:=h
 exact⟨es,clock,he.trans hg,hs⟩
theorem wpList_setM{P:Program}(hP:P=Tryz.prog){w:World}{ops:Array Oper}{rest:List Oper}{o:Oper}{a:Act}{Q:Exit→Act→World→Prop}(hg:o.guard=none)(m x v:Operand)
 (hop:o.op=Op.mapUpdate 187 m x v) (g:Nat) (S:List (Int×Int)) (hm:a.eval m= .map (some g)) (hs:SetM w g S) (p q:Int) (hx:a.eval x=plcV p q) (hv:a.eval v= .bool true)
 (hK:∀ w',SetM w' g ((p,q)::S)→(∀N,N≤g→Below N w w')→(∀k,k≠g→w'.heap[k]? =w.heap[k]?)→w'.heap.size=w.heap.size→wpList P ops Q rest (a.put o.dst undef) w'):wpList P ops Q (o::rest) a w:=by
 subst hP
 refine wpList_plain hg fun K' hK'=> ?_
 obtain⟨w',hrun,r1,r2,r3,r4⟩:=hs.update p q
 unfold Oper.wp
 simp[execOp,hop,hm,hx,hv,hrun,Result.andThen]
 exact hK' _ _ (hK w' r1 r2 r3 r4)
end Go.Proofs.YtekjdeibnfaehaaGreat
namespace Go.Proofs.YtekjdeibnfaehaaGreat
open Go.RowKit
open Go.Maps
theorem info_bool:(Tryz.prog.info? 4).map (fun i=>(i.zero,i.size,i.bytes))=some (some (.bool false),1,1):=by kernel_rfl
def boolRow(l:List Rec)(k:Nat):List Value:=(List.replicate k false++standL (l.drop k)).map Value.bool
theorem boolRow_length(l:List Rec){k:Nat}(hk:k≤l.length):(boolRow l k).length=l.length:=by
 simp[boolRow,standL_length];omega
theorem boolRow_all(l:List Rec):boolRow l l.length=List.replicate l.length (Value.bool false):=by
 simp[boolRow,standL,standG]
theorem boolRow_zero(l:List Rec):boolRow l 0=(standL l).map Value.bool:=by simp[boolRow]
def standAt(l:List Rec)(m:Nat)(r:Rec):Bool:=decide (r.kind=1)|| !(goneL (l.drop (m+1))).contains (r.ao,r.sq)
theorem boolRow_step(l:List Rec)(m:Nat)(hm:m<l.length):boolRow l m=(boolRow l (m+1)).set m (.bool (standAt l m l[m])):=by
 have hd:l.drop m=l[m]::l.drop (m+1):=(List.getElem_cons_drop hm).symm
 have h1:standL (l.drop m)=standAt l m l[m]::standL (l.drop (m+1)):=by rw[hd,standL_cons];rfl
 unfold boolRow
 rw[h1,List.replicate_succ',List.map_append,List.map_append,List.map_append,List.append_assoc]
 rw[List.set_append_right _ _ tE]
 simp
theorem goneL_step(l:List Rec)(m:Nat)(hm:m<l.length):goneL (l.drop m)=if(standAt l m l[m]&&decide (l[m].kind=0))=true then(l[m].wo,l[m].ws)::goneL (l.drop (m+1)) else goneL (l.drop (m+1)):=by
 have hd:l.drop m=l[m]::l.drop (m+1):=(List.getElem_cons_drop hm).symm
 rw[hd,goneL_cons];rfl
theorem madeBools(n:Nat):madeCells #[.bool false] n=(List.replicate n (Value.bool false)).toArray:=by
 apply Array.ext'
 simp[madeCells]
 apply List.ext_getElem
 ·simp
 ·intro i h1 h2
  simp[Nat.mod_one]
theorem run_makeSet(W:World):(Instr.makeMap 187 none).run Tryz.prog W= .ok (.map (some W.heap.size)) (W.alloc (.map #[] 0)):=by
 rfl
structure StandW(w wr:World)(l:List Rec)(k:Nat):Prop where
 ext:Ext w wr
 row:wr.heap[w.heap.size]? =some (.cells (boolRow l k).toArray 4)
 set:SetM wr (w.heap.size+1) (goneL (l.drop k))
theorem StandW.lt{w wr:World}{l:List Rec}{k:Nat}(h:StandW w wr l k):w.heap.size+1<wr.heap.size:=by
 obtain⟨es,clock,hg,_⟩:=h.set
 exact(Array.getElem?_eq_some_iff.1 hg).1
theorem StandW.stored{w wr:World}{l:List Rec}{m:Nat}(h:StandW w wr l (m+1))(hm:m<l.length)(o:Obj):
 Ext w ((wr.setCell ⟨w.heap.size,m,none⟩ (.bool (standAt l m l[m]))).alloc o)∧((wr.setCell ⟨w.heap.size,m,none⟩ (.bool (standAt l m l[m]))).alloc o).heap[w.heap.size]? =some (.cells (boolRow l m).toArray 4)∧
  SetM ((wr.setCell ⟨w.heap.size,m,none⟩ (.bool (standAt l m l[m]))).alloc o) (w.heap.size+1) (goneL (l.drop (m+1))):=by
 have hlt:=h.lt
 have hrow:wr.setCell ⟨w.heap.size,m,none⟩ (.bool (standAt l m l[m]))=wr.setRow w.heap.size (boolRow l m).toArray:=by
  rw[setCell_eq_setRow wr w.heap.size m _ 4 (0,0) _ h.row,boolRow_step l m hm]
  simp
 rw[hrow]
 have hh:=setRow_heap wr w.heap.size _ (boolRow l m).toArray _ _ h.row
 refine⟨(h.ext.setRow _ _ (Nat.le_refl _)).alloc _,?_,?_⟩
 ·rw[Below.heap_alloc _ _ _ (Array.getElem?_eq_some_iff.1 hh).1]
  exact hh
 ·exact(h.set.other (setRow_other _ _ _ _ tB)).alloc _
theorem StandW.noted{w W W':World}{l:List Rec}{m:Nat}(hx:Ext w W)(hr:W.heap[w.heap.size]? =some (.cells (boolRow l m).toArray 4))(S:List (Int×Int))(hS:goneL (l.drop m)=S)
 (h1:SetM W' (w.heap.size+1) S) (h2:∀ N,N≤w.heap.size+1→Below N W W') (h3:∀ k,k≠w.heap.size+1→W'.heap[k]? =W.heap[k]?):StandW w W' l m:=
 ⟨Ext.of_below (hx.below.trans (h2 _ tB)),(h3 _ tB).trans hr,by rw[hS];exact h1⟩
set_option maxRecDepth 100000 in
set_option maxHeartbeats 4000000 in
theorem standing_any(A:Option Addr)(c n:Nat)(l:List Rec)(hn:l.length=n)(hbig:n≤100000)(w:World)(hr:Recs w A l):
 Calls Tryz.prog 83 #[.slice A n c] w fun e w'=>e= .returned (.slice (some ⟨w.heap.size,0,none⟩) n n)∧Hid (w.heap.size<w'.heap.size∧∀ (j:Nat) b,(standL l)[j]? =some b→w'.cell? ⟨w.heap.size,j,none⟩=some (.bool b))∧Ext w w':=by
 obtain⟨i0,hi0,hz0,hzs,hzb⟩:=info_parts info_bool
 have hmk:=run_makeSet
 go_enter Tryz.func83,Tryz.ntmps83
 go_wp2_with (at_make;refine wpList_make_row _ rfl _ _ 142 rfl 4 i0 _ Tryz.underlying142 hi0 hz0 hzs rfl .i64 .i64 n rfl rfl (by rw[hzb];omega) tB ?_)
 go_loopw [5,6] (fun i _ wr=> ∃k:Nat,k≤n∧i= .int .i64 ((k:Int)-1)∧StandW w wr l k) (fun i _ _=>(intOf i+1).toNat)
 case atStart=>
  refine⟨n,Nat.le_refl _,rfl,⟨exI,?_,?_⟩⟩
  ·rw[←hn,boolRow_all,madeBools]
   rw[Below.heap_alloc _ _ _ tE]
   exact heap_alloc_new w _
  ·rw[←hn,List.drop_length]
   exact SetM.new _ _ ta
 case round=>
  obtain⟨k,hk,rfl,hst⟩:=hrel
  by_cases h0:k=0
  ·subst h0
   go_wp2_with fail
   go_ret
   refine⟨rfl,hid ⟨by have:=hst.lt;omega,fun j b hu=> ?_⟩,hst.ext⟩
   have hrow:=hst.row
   rw[boolRow_zero] at hrow
   simp only[World.cell?,hrow,Option.isSome_none,Bool.false_eq_true,if_false]
   rw[List.getElem?_toArray,List.getElem?_map,hu]
   rfl
  ·obtain⟨m,rfl⟩:∃ m,k=m+1:=⟨k-1,by omega⟩
   have hm:m<l.length:=by omega
   have hlt:=hst.lt
   have hlt0:w.heap.size<wr.heap.size:=by omega
   have hr2:=hr.of_ext hst.ext
   obtain⟨g,of,rfl,hg⟩:=hr2.addr tB
   have hrow:=hr2.row hm
   have hs:=fun o=>hst.stored hm o
   have hgn:=goneL_step l m hm
   obtain⟨r,hrk⟩:∃ r,l[m]=r:=⟨_,rfl⟩
   rw[hrk] at hrow hgn
   simp only[hrk] at hs
   obtain⟨h0,h1,h2,h3,h4,h5,h6,h7,h8,h9,h10⟩:=hrow
   clear hrk
   have hcell:∃ v,wr.cell? ⟨w.heap.size,m,none⟩=some v:=by
    refine⟨(boolRow l (m+1))[m]'(by rw[boolRow_length l tB];omega),?_⟩
    simp[World.cell?,hst.row]
   obtain⟨v0,hcell⟩:=hcell
   have hfz:wr.frozen? ⟨w.heap.size,m,none⟩=false:=by simp[World.frozen?,hst.row]
   have hlk:=(hst.set.alloc (.cells #[.int .i64 r.ao,.int .i64 r.sq,.int .i64 r.kind,.int .i64 r.ship,.int .i64 r.day,.int .i64 r.known,.int .i64 r.wo,.int .i64 r.ws,.int .i64 r.to,.int .i64 r.til,.string r.text] 46)).lookup r.ao r.sq
   have e2:(((m+1:Nat):Int)-1)=m:=by omega
   rw[e2]
   cases k1:(r.kind==1) with
   | true=>
    have hb:standAt l m r=true:=by simp[standAt,eq_of_beq k1]
    rw[hb] at hs hgn
    rw[if_neg (by simp[eq_of_beq k1])] at hgn
    have k0:(r.kind==0)=false:=by simp[eq_of_beq k1]
    obtain⟨s1,s2,s3⟩:=hs (.cells #[.int .i64 r.ao,.int .i64 r.sq,.int .i64 r.kind,.int .i64 r.ship,.int .i64 r.day,.int .i64 r.known,.int .i64 r.wo,.int .i64 r.ws,.int .i64 r.to,.int .i64 r.til,.string r.text] 46)
    have HS:=hid (StandW.mk s1 s2 (by rw[hgn];exact s3))
    clear hs s1 s2 s3 hgn hb hst
    go_wp2_with fail
    exact⟨⟨m,by omega,by go_num,HS.out⟩,by simp[intOf]⟩
   | false=>
    have k1':¬ r.kind=1:=by simpa using k1
    cases hct:(goneL (l.drop (m+1))).contains (r.ao,r.sq) with
    | true=>
     have hb:standAt l m r=false:=by simp only[standAt,hct];simp[k1']
     clear k1'
     rw[hb] at hs hgn
     rw[if_neg tE] at hgn
     rw[hct] at hlk
     obtain⟨s1,s2,s3⟩:=hs (.cells #[.int .i64 r.ao,.int .i64 r.sq,.int .i64 r.kind,.int .i64 r.ship,.int .i64 r.day,.int .i64 r.known,.int .i64 r.wo,.int .i64 r.ws,.int .i64 r.to,.int .i64 r.til,.string r.text] 46)
     have HS:=hid (StandW.mk s1 s2 (by rw[hgn];exact s3))
     clear hs s1 s2 s3 hgn hb hst hct
     go_wp2_with fail
     exact⟨⟨m,by omega,by go_num,HS.out⟩,by simp[intOf]⟩
    | false=>
     have hb:standAt l m r=true:=by simp only[standAt,hct];simp
     clear k1'
     rw[hb] at hs hgn
     rw[hct] at hlk
     obtain⟨s1,s2,s3⟩:=hs (.cells #[.int .i64 r.ao,.int .i64 r.sq,.int .i64 r.kind,.int .i64 r.ship,.int .i64 r.day,.int .i64 r.known,.int .i64 r.wo,.int .i64 r.ws,.int .i64 r.to,.int .i64 r.til,.string r.text] 46)
     cases k0:(r.kind==0) with
     | true=>
      rw[if_pos (by simp[eq_of_beq k0])] at hgn
      have HG:=hid hgn
      have S1:=hid s1
      have S2:=hid s2
      have S3:=hid s3
      clear hs s1 s2 s3 hgn hb hst hct
      go_wp2_with (at_mapUpdate;refine wpList_setM rfl rfl _ _ _ rfl (w.heap.size+1) _ rfl S3.out r.wo r.ws rfl rfl (fun w9 q1 q2 q3 q4=> ?_))
      exact⟨⟨m,by omega,by go_num,StandW.noted S1.out S2.out _ HG.out q1 q2 q3⟩,by simp[intOf]⟩
     | false=>
      rw[if_neg (by (have k0':¬ r.kind=0:=by simpa using k0);simp[k0'])] at hgn
      have HS:=hid (StandW.mk s1 s2 (by rw[hgn];exact s3))
      clear hs s1 s2 s3 hgn hb hst hct
      go_wp2_with fail
      exact⟨⟨m,by omega,by go_num,HS.out⟩,by simp[intOf]⟩
end Go.Proofs.YtekjdeibnfaehaaGreat
set_option linter.unusedSimpArgs false
set_option linter.unusedVariables false
namespace Go.Proofs.YtekjdeibnfaehaaGreat
open Go.RowKit
def lateB(day:Int)(r:Rec):Bool:=decide (day<r.known)
theorem knownL_late(l:List Rec)(day:Int):knownL l day=l.filter fun r=> !lateB day r:=by
 unfold knownL lateB
 congr 1
 funext r
 by_cases h:day<r.known
 ·simp[h]
 ·simp[h];omega
set_option maxHeartbeats 1000000 in
theorem late_any(r:Rec)(day:Int)(b:Nat)(w:World)(hc:w.cell? ⟨b,0,none⟩=some (.int .i64 day))(hb:b<w.heap.size):
 Calls Tryz.prog 91 #[recV r,.pointer (some ⟨b,0,none⟩)] w fun e w'=>e= .returned (.bool (lateB day r))∧Ext w w':=by
 go_enter Tryz.func91,Tryz.ntmps91
 go_wp2_with fail
 go_ret
 exact⟨rfl,exI⟩
def lateI(l:List Rec)(day:Int):Int:=if l.any (lateB day)=true then(l.findIdx (lateB day):Nat) else -1
theorem lateI_hit{l:List Rec}{day:Int}{k:Nat}(hk:k<l.length)(h:lateB day l[k]=true)(hno:∀ t (ht:t<l.length),t<k→lateB day l[t]=false):lateI l day=k:=by
 have hh:l.any (lateB day)=true:=List.any_eq_true.2 ⟨_,List.getElem_mem hk,h⟩
 rw[lateI,if_pos hh,(List.findIdx_eq hk).2 ⟨h,fun j hj=>hno j tB hj⟩]
theorem lateI_none{l:List Rec}{day:Int}(hno:∀ t (ht:t<l.length),lateB day l[t]=false):lateI l day= -1:=by
 have hh:l.any (lateB day)=false:=by
  rw[List.any_eq_false]
  intro x hx
  obtain⟨t,ht,rfl⟩:=List.getElem_of_mem hx
  rw[hno t ht];simp
 rw[lateI,hh];rfl
set_option maxRecDepth 100000 in
set_option maxHeartbeats 4000000 in
theorem Index_any(A:Option Addr)(c n:Nat)(l:List Rec)(day:Int)(b:Nat)(hn:l.length=n)(hbig:n≤1000000)(w:World)(hr:Recs w A l)(hc:w.cell? ⟨b,0,none⟩=some (.int .i64 day))(hb:b<w.heap.size):
 Calls Tryz.prog 137 #[.slice A n c,.func (.func 91) #[] #[.pointer (some ⟨b,0,none⟩)]] w fun e w'=>e= .returned (.int .i64 (lateI l day))∧Ext w w':=by
 go_enter Tryz.func137,Tryz.ntmps137
 go_wp2_with fail
 go_loopw [8] (fun i wr=> ∃k:Nat,k≤n∧i= .int .i64 k∧Ext w wr∧(∀t (ht:t<l.length),t<k→lateB day l[t]=false)) (fun i _=>n-(intOf i).toNat)
 case atStart=>exact⟨0,Nat.zero_le _,rfl,Ext.refl _,fun t _ h=>absurd h (Nat.not_lt_zero _)⟩
 case round=>
  obtain⟨k,hk,rfl,⟨E0,d0,rfl⟩,hno⟩:=hrel
  have Hno:=hid hno
  clear hno
  by_cases hlt:k<n
  ·have hm:k<l.length:=by omega
   obtain⟨g,of,rfl,hg⟩:=hr.addr tB
   obtain⟨h0,h1,h2,h3,h4,h5,h6,h7,h8,h9,h10⟩:=hr.row hm
   obtain⟨r,hrk⟩:∃ r,l[k]=r:=⟨_,rfl⟩
   rw[hrk] at h0 h1 h2 h3 h4 h5 h6 h7 h8 h9 h10
   have Hrk:=hid hrk
   clear hrk
   cases hat:lateB day r with
   | true=>
    have Hf:=hid (lateI_hit hm (by rw[Hrk.out];exact hat) (fun t h1 h2=>Hno.out t h1 h2))
    go_wp2_with (go_at_call 91;refine(late_any _ day b _ tv tw).mono ?_;rintro e w1 ⟨rfl,E1,d1,rfl⟩)
    go_ret
    exact⟨ret_val t7,exI⟩
   | false=>
    have Hno':Hid (∀t (ht:t<l.length),t<k+1→lateB day l[t]=false):=hid fun t h1 h2=>by
     by_cases he:t=k
     ·subst he;rw[Hrk.out];exact hat
     ·exact Hno.out t h1 tB
    go_wp2_with (go_at_call 91;refine(late_any _ day b _ tv tw).mono ?_;rintro e w1 ⟨rfl,E1,d1,rfl⟩)
    exact⟨⟨k+1,by omega,by go_num,exI,Hno'.out⟩,by simp[intOf];omega⟩
  ·obtain rfl:k=n:=by omega
   have Hf:=hid (lateI_none (day:=day) (fun t ht=>Hno.out t ht tB))
   go_wp2_with fail
   go_ret
   exact⟨ret_val t7,exI⟩
theorem setCells_eq_setRow(g:Nat)(t:TypeId):∀ (vs:List Value) (o:Nat) (cur:Array Value) (w:World),w.heap[g]? =some (.cells cur t (0,0))→o+vs.length≤cur.size→
 w.setCells g o vs=w.setRow g (cur.toList.take o++vs++cur.toList.drop (o+vs.length)).toArray
 | [],o,cur,w,hg,_=>by
  simp only[World.setCells,List.append_nil,List.length_nil,Nat.add_zero,List.take_append_drop,Array.toArray_toList]
  rw[setRow_self w g cur t (0,0) hg]
 | v::rest,o,cur,w,hg,hl=>by
  have hi:o<cur.size:=by simp at hl;omega
  have hs:w.setCell ⟨g,o,none⟩ v=w.setRow g (cur.setIfInBounds o v):=setCell_eq_setRow w g o cur t (0,0) v hg
  rw[World.setCells,hs,setCells_eq_setRow g t rest (o+1) (cur.setIfInBounds o v) _ (setRow_heap w g cur _ t _ hg) (by simp at hl ⊢;omega),setRow_setRow]
  congr 2
  have e:=list_seg_step cur.toList o v rest (by simp at hl ⊢;omega)
  simpa [Array.toList_setIfInBounds,Nat.add_assoc] using e
abbrev set11(w:World)(g o:Nat)(r:Rec):World:=
 ((((((((((w.setCell ⟨g,o,none⟩ (.int .i64 r.ao)).setCell ⟨g,o+1,none⟩ (.int .i64 r.sq)).setCell ⟨g,o+2,none⟩ (.int .i64 r.kind)).setCell ⟨g,o+3,none⟩ (.int .i64 r.ship)).setCell ⟨g,o+4,none⟩ (.int .i64 r.day)).setCell ⟨g,o+5,none⟩ (.int .i64 r.known)).setCell
  ⟨g,o+6,none⟩ (.int .i64 r.wo)).setCell ⟨g,o+7,none⟩ (.int .i64 r.ws)).setCell ⟨g,o+8,none⟩ (.int .i64 r.to)).setCell ⟨g,o+9,none⟩ (.int .i64 r.til)).setCell ⟨g,o+10,none⟩ (.string r.text)
theorem set11_row(w:World)(g o:Nat)(r:Rec)(cur:Array Value)(t:TypeId)(hg:w.heap[g]? =some (.cells cur t (0,0)))(hl:o+11≤cur.size):
 set11 w g o r=w.setRow g (cur.toList.take o++encRec r++cur.toList.drop (o+11)).toArray:=
 (show set11 w g o r=w.setCells g o (encRec r) from rfl).trans (setCells_eq_setRow g t (encRec r) o cur w hg hl)
structure DelW(X wr:World)(g c:Nat)(l:List Rec)(day:Int)(i j:Nat):Prop where
 ext:Ext X wr
 hij:i≤j
 row:∃ (cur:Array Value) (row:List Rec),wr.heap[g]? =some (.cells cur 46 (0,0))∧cur.size=c * 11∧row.length=l.length∧cur.toList.take (l.length * 11)=row.flatMap encRec∧row.take i=knownL (l.take j) day∧row.drop j=l.drop j
theorem DelW.alloc{X wr:World}{g c:Nat}{l:List Rec}{day:Int}{i j:Nat}(h:DelW X wr g c l day i j)(o:Obj):DelW X (wr.alloc o) g c l day i j:=by
 obtain⟨h1,h2,cur,row,h3,h4⟩:=h
 exact⟨h1.alloc o,h2,cur,row,by rw[Below.heap_alloc _ _ _ (Array.getElem?_eq_some_iff.1 h3).1];exact h3,h4⟩
theorem DelW.grown{X wr:World}{g c:Nat}{l:List Rec}{day:Int}{i j:Nat}(h:DelW X wr g c l day i j)(E:Array Obj)(d:Nat):DelW X (wr.ext E d) g c l day i j:=by
 obtain⟨h1,h2,cur,row,h3,h4⟩:=h
 exact⟨h1.ext E d,h2,cur,row,by rw[heap_ext _ _ _ _ (Array.getElem?_eq_some_iff.1 h3).1];exact h3,h4⟩
theorem knownL_snoc(l:List Rec)(day:Int){j:Nat}(hj:j<l.length):knownL (l.take (j+1)) day=knownL (l.take j) day++if lateB day l[j]=true then[] else[l[j]]:=by
 rw[List.take_succ_eq_append_getElem hj,knownL_late,knownL_late,List.filter_append]
 congr 1
 cases h:lateB day l[j] <;> simp[h]
theorem DelW.late{X wr:World}{g c:Nat}{l:List Rec}{day:Int}{i j:Nat}(h:DelW X wr g c l day i j)(hj:j<l.length)(hb:lateB day l[j]=true):DelW X wr g c l day i (j+1):=by
 obtain⟨h1,h2,cur,row,h3,h4,h5,h6,h7,h8⟩:=h
 refine⟨h1,by omega,cur,row,h3,h4,h5,h6,?_,?_⟩
 ·rw[knownL_snoc l day hj,if_pos hb,List.append_nil];exact h7
 ·rw[←List.drop_drop,←List.drop_drop,h8]
theorem flat_set(row:List Rec)(r:Rec)(i:Nat)(hi:i<row.length):(row.set i r).flatMap encRec=(row.flatMap encRec).take (i * 11)++encRec r++(row.flatMap encRec).drop (i * 11+11):=by
 rw[show i * 11+11=(i+1) * 11 by omega,recs_take,recs_drop,List.set_eq_take_append_cons_drop,if_pos hi,List.flatMap_append,List.flatMap_cons]
 simp only[List.append_assoc]
theorem DelW.keep{X wr:World}{g c:Nat}{l:List Rec}{day:Int}{i j:Nat}(h:DelW X wr g c l day i j)(hg:X.heap.size≤g)(hj:j<l.length)(hc:l.length≤c)(hb:lateB day l[j]=false):DelW X (set11 wr g (i * 11) l[j]) g c l day (i+1) (j+1):=by
 obtain⟨h1,h2,cur,row,h3,h4,h5,h6,h7,h8⟩:=h
 have hsz:i * 11+11≤cur.size:=by rw[h4];have:=Nat.mul_le_mul_right 11 hc;omega
 have hil:i<row.length:=by omega
 rw[set11_row wr g (i * 11) l[j] cur _ h3 hsz]
 have hlr:(row.take i).length=i:=by rw[List.length_take];omega
 refine⟨h1.setRow _ _ hg,by omega,_,row.set i l[j],setRow_heap _ _ _ _ _ _ h3,?_,by simpa using h5,?_,?_,?_⟩
 ·rw[List.size_toArray,List.length_append,List.length_append,List.length_take,List.length_drop,encRec_length,Array.length_toList];omega
 ·rw[flat_set row l[j] i hil,←h6]
  simp only
  have e:(l.length * 11)=i * 11+11+(l.length * 11-(i * 11+11)):=by omega
  have h9:(cur.toList.take (i * 11)++encRec l[j]).length=i * 11+11:=by rw[List.length_append,encRec_length,List.length_take,Array.length_toList];omega
  rw[List.take_append,h9,List.take_of_length_le tB,List.take_take,Nat.min_eq_left tB,List.drop_take]
 ·rw[List.take_succ_eq_append_getElem (by simpa using hil),knownL_snoc l day hj,if_neg (by simp[hb])]
  congr 1
  ·rw[←h7,List.take_set_of_le (Nat.le_refl _)]
  ·simp
 ·rw[List.drop_set_of_lt tB,←List.drop_drop,←List.drop_drop,h8]
theorem DelW.look{X wr:World}{g c:Nat}{l:List Rec}{day:Int}{i j:Nat}(h:DelW X wr g c l day i j)(hj:j<l.length):RecAt wr g (j * 11) l[j]:=by
 obtain⟨h1,h2,cur,row,h3,h4,h5,h6,h7,h8⟩:=h
 have hr:Recs wr (some ⟨g,0,none⟩) row:=by
  refine⟨by rw[recs_length],fun _=>⟨g,0,rfl,(Array.getElem?_eq_some_iff.1 h3).1,fun k u hu=> ?_⟩⟩
  rw[←h6,List.getElem?_take] at hu
  split at hu
  ·simp only[World.cell?,h3,Nat.zero_add,Option.isSome_none,Bool.false_eq_true,if_false]
   rw[←hu,Array.getElem?_toList]
  ·cases hu
 have:=hr.row (i:=j) tB
 rw[Nat.zero_add] at this
 have he:row[j]'tB=l[j]:=by
  have e1:(row.drop j)[0]? =(l.drop j)[0]? :=by rw[h8]
  rw[List.getElem?_drop,List.getElem?_drop,Nat.add_zero,List.getElem?_eq_getElem tB,List.getElem?_eq_getElem hj] at e1
  exact Option.some.inj e1
 rw[he] at this
 exact this
theorem DelW.cells{X wr:World}{g c:Nat}{l:List Rec}{day:Int}{i j:Nat}(h:DelW X wr g c l day i j)(hi:i<l.length)(hc:l.length≤c):g<wr.heap.size∧∀ k,k<11→(∃v,wr.cell? ⟨g,i * 11+k,none⟩=some v)∧wr.frozen? ⟨g,i * 11+k,none⟩=false:=by
 obtain⟨h1,h2,cur,row,h3,h4,h5,h6,h7,h8⟩:=h
 refine⟨(Array.getElem?_eq_some_iff.1 h3).1,fun k hk=> ?_⟩
 have hsz:i * 11+11≤cur.size:=by rw[h4];have:=Nat.mul_le_mul_right 11 hc;omega
 refine⟨⟨cur[i * 11+k]'tB,?_⟩,?_⟩
 ·simp only[World.cell?,h3,Option.isSome_none,Bool.false_eq_true,if_false]
  rw[Array.getElem?_eq_getElem tB]
 ·simp[World.frozen?,h3]
theorem DelW.clear{X wr:World}{g c:Nat}{l:List Rec}{day:Int}{i:Nat}(h:DelW X wr g c l day i l.length)(hg:X.heap.size≤g)(hi:i<l.length)(hc:l.length≤c)(ty:TypeId)(cc:Nat):∃ w',(Builtin.clear_ #[32] ty #[.slice (some ⟨g,i * 11,none⟩) (l.length-i) cc]).run Tryz.prog wr= .ok (.tuple #[]) w'∧
 Recs w' (some ⟨g,0,none⟩) (knownL l day)∧Ext X w'∧i=(knownL l day).length:=by
 obtain⟨h1,h2,cur,row,h3,h4,h5,h6,h7,h8⟩:=h
 rw[List.take_length] at h7
 have hz:∀ w,(zeroValue 46).run Tryz.prog w= .ok (.agg zeros11) w:=fun w=>by
  obtain⟨i0,hi,hz0,hz1,hz2⟩:=info_parts info_rec
  simp[zeroValue,typeInfo,hi,hz0,zeros11]
 have hsz:(l.length * 11)≤cur.size:=by rw[h4];exact Nat.mul_le_mul_right 11 hc
 have hzl:(Builtin.zeroCells zeros11 (l.length-i)).toList.length=(l.length-i) * 11:=by
  rw[Array.length_toList,size_zeroCells];rfl
 have hst:=run_storeCells_at Tryz.prog g (i * 11) 46 (Builtin.zeroCells zeros11 (l.length-i)).toList 0 cur wr h3 (by rw[hzl];omega) (by
  intro v hv
  simp[Builtin.zeroCells] at hv
  obtain⟨k,hk,rfl⟩:=hv
  have:k % 11<11:=Nat.mod_lt _ tN
  have hall:∀ t:Fin 11,(zeros11[t.1]!).oneCell'=true:=by decide
  exact hall ⟨k % zeros11.size,Nat.mod_lt _ tN⟩)
 simp only[Nat.add_zero] at hst
 have hkl:(knownL l day).length=i:=by rw[←h7,List.length_take];omega
 refine⟨wr.setRow g (cur.toList.take (i * 11)++(Builtin.zeroCells zeros11 (l.length-i)).toList++cur.toList.drop (i * 11+(Builtin.zeroCells zeros11 (l.length-i)).toList.length)).toArray,?_,?_,h1.setRow _ _ hg,hkl.symm⟩
 ·obtain⟨m,hm⟩:∃ m,l.length-i=m+1:=⟨l.length-i-1,by omega⟩
  rw[hm] at hst ⊢
  have hst':(storeCells ⟨g,i * 11,none⟩ (Builtin.zeroCells (Value.agg zeros11).cells (m+1)).toList).run Tryz.prog wr=_:=hst
  simp only[Builtin.clear_,List.getElem?_toArray,List.getElem?_cons_zero,Sem.run_bind,run_underlying Tryz.underlying32,Result.andThen_ok,hz,hst',Sem.run_pure]
 ·have h9:=setRow_heap wr g _ (cur.toList.take (i * 11)++(Builtin.zeroCells zeros11 (l.length-i)).toList++cur.toList.drop (i * 11+(Builtin.zeroCells zeros11 (l.length-i)).toList.length)).toArray _ _ h3
  refine⟨by rw[recs_length],fun _=>⟨g,0,rfl,(Array.getElem?_eq_some_iff.1 h9).1,fun k u hu=> ?_⟩⟩
  have hk:k<i * 11:=by
   have:=(List.getElem?_eq_some_iff.1 hu).1
   rw[recs_length,hkl] at this
   exact this
  simp only[World.cell?,h9,Nat.zero_add,Option.isSome_none,Bool.false_eq_true,if_false]
  rw[←hu,←h7,←recs_take,←h6,List.take_take,Nat.min_eq_left tB,List.getElem?_toArray,List.append_assoc,List.getElem?_append_left (by rw[List.length_take,Array.length_toList];omega)]
set_option maxRecDepth 100000 in
set_option maxHeartbeats 8000000 in
theorem Delete_any(X:World)(A:Option Addr)(c n:Nat)(l:List Rec)(day:Int)(b:Nat)(hn:l.length=n)(hbig:l.length≤1000000)(w:World)(ho:OwnR X.heap.size w (.slice A n c) l)(hx:Ext X w)(hc:X.cell? ⟨b,0,none⟩=some (.int .i64 day))(hb:b<X.heap.size):
 Calls Tryz.prog 89 #[.slice A n c,.func (.func 91) #[] #[.pointer (some ⟨b,0,none⟩)]] w fun e w'=>
  ∃A' n' c',e= .returned (.slice A' n' c')∧Hid (n'=(knownL l day).length)∧Recs w' A' (knownL l day)∧Ext X w':=by
 have hXw:X.heap.size≤w.heap.size:=hx.below.size
 have hcw:∀ W,Ext X W→W.cell? ⟨b,0,none⟩=some (.int .i64 day):=fun W hW=>(Ext.cellOf hW hb).trans hc
 have hbw:b<w.heap.size:=by omega
 obtain⟨A0,c0,hv0,hnc,hr⟩:=ho.slice
 rw[hn] at hv0
 cases hv0
 cases hany:l.any (lateB day) with
 | false=>
  have hno:∀ t (ht:t<l.length),lateB day l[t]=false:=fun t ht=>by
   rw[List.any_eq_false] at hany
   simpa using hany _ (List.getElem_mem ht)
  have hI:=lateI_none hno
  have hk:knownL l day=l:=by
   rw[knownL_late,List.filter_eq_self]
   intro r hr
   obtain⟨t,ht,rfl⟩:=List.getElem_of_mem hr
   rw[hno t ht];rfl
  have HK:=hid hk
  have hcw0:=hcw w hx
  clear hno hk hany hcw
  go_enter Tryz.func89,Tryz.ntmps89
  go_wp2_with (go_at_call 137;refine(Index_any _ _ _ _ day b tZ tB _ (recI ‹_›) tv tw).mono ?_;rintro e w1 ⟨rfl,E1,d1,rfl⟩)
  go_ret
  exact⟨_,_,_,rfl,hid (by rw[HK.out];exact hn.symm),by rw[HK.out];exact hr.of_ext exI,hx.ext _ _⟩
 | true=>
  obtain⟨r0,hr0,hl0⟩:=List.any_eq_true.1 hany
  obtain⟨i0,hi0,hi1,hi2⟩:∃ i0,∃h:i0<l.length,lateB day l[i0]=true∧∀ t (ht:t<l.length),t<i0→lateB day l[t]=false:=by
   have hlt:l.findIdx (lateB day)<l.length:=List.findIdx_lt_length_of_exists ⟨r0,hr0,hl0⟩
   refine⟨_,hlt,List.findIdx_getElem,fun t ht h=> ?_⟩
   have:=List.not_of_lt_findIdx h
   simpa using this
  have hI:=lateI_hit hi0 hi1 hi2
  have hk0:knownL (l.take i0) day=l.take i0:=by
   rw[knownL_late,List.filter_eq_self]
   intro r hr
   obtain⟨t,ht,rfl⟩:=List.mem_take_iff_getElem.1 hr
   rw[hi2 t tB tB];rfl
  rcases ho.2 with⟨_,h0⟩|⟨g,cap,cur,hvl,hgb,hgc,hnc',hcm,hcs,hcur⟩
  ·omega
  rw[hn] at hvl
  cases hvl
  have hD0:DelW X w g c l day i0 (i0+1):=by
   have:DelW X w g c l day i0 i0:=⟨hx,Nat.le_refl _,cur,l,hgc,hcs,rfl,hcur,hk0.symm,rfl⟩
   exact this.late hi0 hi1
  have hcw0:=hcw w hx
  have hi0n:i0<n:=by omega
  have hcc:c≤9223372036854775807:=hcm
  have HD0:=hid hD0
  have hib:((i0:Int)== -1)=false:=by
   rw[beq_eq_false_iff_ne];omega
  clear hk0 hany hi1 hi2 hl0 hr0 hcur hgc hD0 hcs
  go_enter Tryz.func89,Tryz.ntmps89
  go_wp2_with (go_at_call 137;refine(Index_any _ _ _ _ day b tZ tB _ (recI ‹_›) tv tw).mono ?_;rintro e w1 ⟨rfl,E1,d1,rfl⟩)
  go_loopw [5,6] (fun ii jj wr=> ∃i j:Nat,i<j∧j≤n∧ii= .int .i64 i∧jj= .int .i64 j∧DelW X wr g c l day i j) (fun _ jj _=>n-(intOf jj).toNat)
  case atStart=>exact⟨i0,i0+1,by omega,by omega,rfl,rfl,HD0.out.grown _ _⟩
  case round=>
   obtain⟨i,j,hij,hj,rfl,rfl,hD⟩:=hrel
   have hiN:i<l.length:=by omega
   have hcl:l.length≤c:=by omega
   obtain⟨hgw,hcells⟩:=hD.cells hiN hcl
   have hXr:X.heap.size≤wr.heap.size:=hD.ext.below.size
   by_cases hlt:j<n
   ·have hm:j<l.length:=by omega
    have hrow:=hD.look hm
    have hlate:=fun h=>hD.late hm h
    have hkeep:=fun h=>hD.keep hgb hm hcl h
    obtain⟨r,hrk⟩:∃ r,l[j]=r:=⟨_,rfl⟩
    rw[hrk] at hrow
    simp only[hrk] at hlate hkeep
    obtain⟨h0,h1,h2,h3,h4,h5,h6,h7,h8,h9,h10⟩:=hrow
    have hcwr:=hcw _ hD.ext
    have hbr:b<wr.heap.size:=by omega
    clear hrk hcw
    cases hat:lateB day r with
    | true=>
     have HL:=hid (hlate hat)
     clear hlate hkeep hcells
     go_wp2_with (go_at_call 91;refine(late_any _ day b _ tv tw).mono ?_;rintro e w1 ⟨rfl,E1,d1,rfl⟩)
     exact⟨⟨i,j+1,by omega,by omega,rfl,by go_num,(HL.out.alloc _).grown _ _⟩,by simp[intOf];omega⟩
    | false=>
     have HL:=hid (hkeep hat)
     clear hlate hkeep
     obtain⟨⟨v0,c0⟩,f0⟩:=hcells 0 tB
     obtain⟨⟨v1,c1⟩,f1⟩:=hcells 1 tB
     obtain⟨⟨v2,c2⟩,f2⟩:=hcells 2 tB
     obtain⟨⟨v3,c3⟩,f3⟩:=hcells 3 tB
     obtain⟨⟨v4,c4⟩,f4⟩:=hcells 4 tB
     obtain⟨⟨v5,c5⟩,f5⟩:=hcells 5 tB
     obtain⟨⟨v6,c6⟩,f6⟩:=hcells 6 tB
     obtain⟨⟨v7,c7⟩,f7⟩:=hcells 7 tB
     obtain⟨⟨v8,c8⟩,f8⟩:=hcells 8 tB
     obtain⟨⟨v9,c9⟩,f9⟩:=hcells 9 tB
     obtain⟨⟨v10,c10⟩,f10⟩:=hcells 10 tB
     clear hcells
     simp only[Nat.add_zero] at c0 f0
     go_wp2_with (go_at_call 91;refine(late_any _ day b _ tv tw).mono ?_;rintro e w1 ⟨rfl,E1,d1,rfl⟩)
     exact⟨⟨i+1,j+1,by omega,by omega,by go_num,by go_num,(HL.out.alloc _).grown _ _⟩,by simp[intOf];omega⟩
   ·obtain rfl:j=n:=by omega
    subst hn
    have hrun:=hD.clear hgb hiN hcl
    have hci:¬ (c=i):=by omega
    have hci2:i≤l.length:=by omega
    obtain⟨w9,q1,q2,q3,q4⟩:=hrun 0 (c-i)
    have Q4:=hid q4
    clear hrun hcells q4
    go_wp2_with fail
    go_ret
    exact⟨_,_,_,rfl,hid Q4.out,q2,q3⟩
end Go.Proofs.YtekjdeibnfaehaaGreat
set_option linter.unusedSimpArgs false
set_option linter.unusedVariables false
namespace Go.Proofs.YtekjdeibnfaehaaGreat
open Go.RowKit
theorem standsE_bad{l:List Rec}{o s:Int}(h:checkB l=false):standsE l o s=71:=by simp[standsE,h]
theorem standsB_bad{l:List Rec}{o s:Int}(h:checkB l=false):standsB l o s=false:=by simp[standsB,standsE,h]
theorem standsE_none{l:List Rec}{o s:Int}(h:checkB l=true)(h2:hasR l o s=false):standsE l o s=3:=by simp[standsE,h,h2]
theorem standsB_none{l:List Rec}{o s:Int}(h:checkB l=true)(h2:hasR l o s=false):standsB l o s=false:=by simp[standsB,standsE,h,h2]
theorem standsE_ok{l:List Rec}{o s:Int}(h:checkB l=true)(h2:hasR l o s=true):standsE l o s=0:=by simp[standsE,h,h2]
theorem standsB_ok{l:List Rec}{o s:Int}(h:checkB l=true)(h2:hasR l o s=true):standsB l o s=(standL l).getD (posR l o s) false:=by simp[standsB,standsE,h,h2]
set_option maxRecDepth 100000 in
set_option maxHeartbeats 4000000 in
theorem Stands_any(A:Option Addr)(c n:Nat)(l:List Rec)(o s:Int)(hn:l.length=n)(hbig:n≤9223372036854775807)(ht:TxtBig l)(w:World)(hr:Recs w A l):
 Calls Tryz.prog 24 #[regV A n c,.agg #[.int .i64 o,.int .i64 s]] w fun e w'=>e= .returned (.tuple #[.bool (standsB l o s),.int .i64 (standsE l o s)])∧Ext w w':=by
 cases hc:checkB l with
 | false=>
  have he:=errReg_bad hc
  have HE:=hid (standsE_bad (o:=o) (s:=s) hc)
  have HB:=hid (standsB_bad (o:=o) (s:=s) hc)
  clear hc
  go_enter Tryz.func24,Tryz.ntmps24
  go_wp2_with (go_at_call 81;refine(Check_any _ _ _ _ tZ tB tF _ (recI ‹_›)).mono ?_;rintro e w1 ⟨rfl,E1,d1,rfl⟩)
  go_ret2
  exact⟨ret_val (by rw[HE.out,HB.out];rfl),exI⟩
 | true=>
  have he:=errReg_ok hc
  obtain⟨h80,_,hs⟩:=checkB_iff.1 hc
  cases hh:hasR l o s with
  | false=>
   have HE:=hid (standsE_none hc hh)
   have HB:=hid (standsB_none hc hh)
   clear hc
   go_enter Tryz.func24,Tryz.ntmps24
   go_wp2_with (first|(go_at_call 81;refine(Check_any _ _ _ _ tZ tB tF _ (recI ‹_›)).mono ?_;rintro e w1 ⟨rfl,E1,d1,rfl⟩)|(go_at_call 82;refine(find_any _ _ _ _ _ _ tZ tB tF _ (recI ‹_›)).mono ?_;rintro e w1 ⟨rfl,E1,d1,rfl⟩))
   go_ret2
   exact⟨ret_val (by rw[HE.out,HB.out];rfl),exI⟩
  | true=>
   have HE:=hid (standsE_ok hc hh)
   have HB:=hid (standsB_ok hc hh)
   obtain⟨hp,_⟩:=(hasR_pos hs o s).1 hh
   have hps:posR l o s<(standL l).length:=by rw[standL_length];exact hp
   have hg:(standL l).getD (posR l o s) false=(standL l)[posR l o s]:=by simp[List.getD_eq_getElem?_getD,hps]
   obtain⟨k,hk⟩:∃ k,posR l o s=k:=⟨_,rfl⟩
   obtain⟨b,hb⟩:∃ b,(standL l)[posR l o s]=b:=⟨_,rfl⟩
   rw[hb] at hg
   have HG:=hid hg
   have Hb:Hid ((standL l)[k]? =some b):=hid (by subst hk;rw[List.getElem?_eq_getElem hps,hb])
   have hkn:k<n:=by omega
   have h80':n≤80:=by omega
   clear hc hb hg
   go_enter Tryz.func24,Tryz.ntmps24
   go_wp2_with (first|(go_at_call 83;refine(standing_any _ _ _ l tF tB _ (recI ‹_›)).mono ?_;rintro e w1 ⟨rfl,hss,E2,d2,rfl⟩;have hck:=hss.out.2 k b Hb.out;have hcl:=hss.out.1;simp only[World.size_alloc,size_ext] at hck hcl;clear hss)|(go_at_call 81;refine(Check_any _ _ _ _ tZ tB tF _ (recI ‹_›)).mono ?_;rintro e w1 ⟨rfl,E1,d1,rfl⟩)|(go_at_call 82;refine(find_any _ _ _ _ _ _ tZ tB tF _ (recI ‹_›)).mono ?_;rintro e w1 ⟨rfl,E1,d1,rfl⟩))
   go_ret2
   exact⟨ret_val (by rw[HE.out,HB.out,HG.out];rfl),exI⟩
theorem standingE_bad{l:List Rec}{s d:Int}(h:checkB l=false):standingE l s d=71:=by simp[standingE,h]
theorem standingE_ship{l:List Rec}{s d:Int}(h:checkB l=true)(h2:inB s 1 999=false):standingE l s d=1:=by simp[standingE,h,h2]
theorem standingE_day{l:List Rec}{s d:Int}(h:checkB l=true)(h2:inB s 1 999=true)(h3:inB d 0 100000=false):standingE l s d=6:=by simp[standingE,h,h2,h3]
theorem standingE_ok{l:List Rec}{s d:Int}(h:checkB l=true)(h2:inB s 1 999=true)(h3:inB d 0 100000=true):standingE l s d=0:=by simp[standingE,h,h2,h3]
def standingR(l:List Rec)(s d:Int):List Rec:=if standingE l s d=0 then standingL l s d else[]
theorem standingR_err{l:List Rec}{s d e:Int}(h:standingE l s d=e)(he:e≠0):standingR l s d=[]:=by rw[standingR,if_neg (by rw[h];exact he)]
theorem standingR_ok{l:List Rec}{s d:Int}(h:standingE l s d=0):standingR l s d=standingL l s d:=by rw[standingR,if_pos h]
structure PickW(w X wr:World)(A:Option Addr)(bk:Nat)(kn:List Rec)(s:Int)(k:Nat)(v:Value):Prop where
 e1:Ext w X
 recs:Recs X A kn
 lt:bk<X.heap.size
 bools:∀ (j:Nat) b,(standL kn)[j]? =some b→X.cell? ⟨bk,j,none⟩=some (.bool b)
 ext:Ext X wr
 own:OwnR X.heap.size wr v (pickL s (kn.take k) ((standL kn).take k))
theorem pick_step(s:Int)(kn:List Rec){k:Nat}(hk:k<kn.length)(b:Bool)(hb:(standL kn)[k]? =some b):
 pickL s (kn.take (k+1)) ((standL kn).take (k+1))=pickL s (kn.take k) ((standL kn).take k)++if wantB s kn[k] b=true then[kn[k]] else[]:=by
 have hl:k<(standL kn).length:=by rw[standL_length];exact hk
 have hb':(standL kn)[k]=b:=by rw[List.getElem?_eq_getElem hl] at hb;exact Option.some.inj hb
 rw[List.take_succ_eq_append_getElem hk,List.take_succ_eq_append_getElem hl,pickL_snoc _ _ _ _ _ (by rw[List.length_take,List.length_take,standL_length]),hb']
theorem pick_length(s:Int)(kn:List Rec)(bs:List Bool):(pickL s kn bs).length≤kn.length:=by
 unfold pickL
 rw[List.length_map]
 exact Nat.le_trans (List.length_filter_le _ _) (by rw[List.length_zip];exact Nat.min_le_left _ _)
set_option maxRecDepth 100000 in
set_option maxHeartbeats 8000000 in
theorem Standing_any(A:Option Addr)(c n:Nat)(l:List Rec)(s d:Int)(hn:l.length=n)(hbig:n≤9223372036854775807)(ht:TxtBig l)(w:World)(hr:Recs w A l):
 Calls Tryz.prog 26 #[regV A n c,.int .i64 s,.int .i64 d] w fun e w'=> ∃A' n' c',e= .returned (.tuple #[.slice A' n' c',.int .i64 (standingE l s d)])∧Hid (n'=(standingR l s d).length)∧Recs w' A' (standingR l s d)∧Ext w w':=by
 cases hc:checkB l with
 | false=>
  have he:=errReg_bad hc
  have HE:=hid (standingE_bad (s:=s) (d:=d) hc)
  have HR:=hid (standingR_err HE.out tN)
  clear hc
  go_enter Tryz.func26,Tryz.ntmps26
  go_wp2_with (go_at_call 81;refine(Check_any _ _ _ _ tZ tB tF _ (recI ‹_›)).mono ?_;rintro e w1 ⟨rfl,E1,d1,rfl⟩)
  go_ret2
  exact⟨none,0,0,ret_val tX,hid tz,by rw[HR.out];exact Recs.nil _ _,exI⟩
 | true=>
  have he:=errReg_ok hc
  obtain⟨h80,_,hs⟩:=checkB_iff.1 hc
  cases h1:inB s 1 999 with
  | false=>
   have HE:=hid (standingE_ship (d:=d) hc h1)
   have HR:=hid (standingR_err HE.out tN)
   clear hc
   go_enter Tryz.func26,Tryz.ntmps26
   go_wp2_with (first|(go_at_call 81;refine(Check_any _ _ _ _ tZ tB tF _ (recI ‹_›)).mono ?_;rintro e w1 ⟨rfl,E1,d1,rfl⟩)|(go_at_call 87;refine(isShip_any _ _).mono ?_;rintro e w1 ⟨rfl,rfl⟩))
   go_ret2
   exact⟨none,0,0,ret_val tX,hid tz,by rw[HR.out];exact Recs.nil _ _,exI⟩
  | true=>
   cases h2:inB d 0 100000 with
   | false=>
    have HE:=hid (standingE_day hc h1 h2)
    have HR:=hid (standingR_err HE.out tN)
    clear hc
    go_enter Tryz.func26,Tryz.ntmps26
    go_wp2_with (first|(go_at_call 81;refine(Check_any _ _ _ _ tZ tB tF _ (recI ‹_›)).mono ?_;rintro e w1 ⟨rfl,E1,d1,rfl⟩)|(go_at_call 87;refine(isShip_any _ _).mono ?_;rintro e w1 ⟨rfl,rfl⟩)|(go_at_call 88;refine(isDay_any _ _).mono ?_;rintro e w1 ⟨rfl,rfl⟩))
    go_ret2
    exact⟨none,0,0,ret_val tX,hid tz,by rw[HR.out];exact Recs.nil _ _,exI⟩
   | true=>
    have HE:=hid (standingE_ok hc h1 h2)
    have HR:=hid (standingR_ok HE.out)
    have h80':n≤80:=by omega
    have hkl:(knownL l d).length≤80:=Nat.le_trans (List.length_filter_le _ _) h80
    clear hc
    go_enter Tryz.func26,Tryz.ntmps26
    go_wp2_with (first|(go_at_call 89;refine(Delete_any _ _ _ _ l d (w.heap.size+1) (Hid.out hnc1).symm tB _ (by exact OwnR.of_ext hvc1 exI) tc tI tw).mono ?_;rintro e w1 ⟨Ad,nd,cd,rfl,hnd,hrd,E2,d2,rfl⟩)|(go_at_call 83;refine(standing_any _ _ _ (knownL l d) (Hid.out hnd).symm (by have:=hnd.out;omega) _ (recI ‹_›)).mono ?_;rintro e w1 ⟨rfl,hss,E3,d3,rfl⟩)|(go_at_call 81;refine(Check_any _ _ _ _ tZ tB tF _ (recI ‹_›)).mono ?_;rintro e w1 ⟨rfl,E1,d1,rfl⟩)|(go_at_call 87;refine(isShip_any _ _).mono ?_;rintro e w1 ⟨rfl,rfl⟩)|(go_at_call 88;refine(isDay_any _ _).mono ?_;rintro e w1 ⟨rfl,rfl⟩)|(go_at_call 90;refine(Clone_own _ _ _ _ tZ tB _ (recI ‹_›)).mono ?_;rintro e w1 ⟨Ac1,nc1,cc1,rfl,hnc1,hvc1,E1,d1,rfl⟩))
    rename_i Ea da Ka aa
    go_loopw [9,32] (fun v i wr=> ∃(k:Nat) (X:World),k≤nd∧i= .int .i64 k∧PickW w X wr Ad (w.heap.size+1+1+Ea.size+E2.size) (knownL l d) s k v) (fun _ i _=>nd-(intOf i).toNat)
    case atStart=>
     refine⟨0,_,Nat.zero_le _,rfl,⟨?_,hrd.ext _ _,?_,fun j b hb=> ?_,Ext.refl _,OwnR.none _ _⟩⟩
     ·exact exI
     ·have:=hss.out.1
      simpa only[World.size_alloc,size_ext] using this
     ·have:=hss.out.2 j b hb
      simpa only[World.size_alloc,size_ext] using this
    case round=>
     obtain⟨k,X,hk,rfl,hP⟩:=hrel
     obtain⟨hP1,hP2,hP3,hP4,⟨E9,d9,rfl⟩,hP6⟩:=hP
     have Hown:=hid hP6
     have HP1:=hid hP1
     have HP4:=hid hP4
     clear hP6 hP1 hP4 hss hvc1 hrd
     by_cases hlt:k<nd
     ·have hm:k<(knownL l d).length:=by have:=hnd.out;omega
      have hl:k<(standL (knownL l d)).length:=by rw[standL_length];exact hm
      obtain⟨b,hb⟩:∃ b,(standL (knownL l d))[k]? =some b:=⟨_,List.getElem?_eq_getElem hl⟩
      have hstep:=pick_step s (knownL l d) hm b hb
      have hcb:=HP4.out k b hb
      obtain⟨g,of,rfl,hg⟩:=hP2.addr tB
      have hrow:=hP2.row hm
      have hpl:=pick_length s ((knownL l d).take k) ((standL (knownL l d)).take k)
      have hpl2:((knownL l d).take k).length≤80:=by rw[List.length_take];omega
      obtain⟨r,hrk⟩:∃ r,(knownL l d)[k]=r:=⟨_,rfl⟩
      rw[hrk] at hrow hstep
      obtain⟨h0,h1,h2,h3,h4,h5,h6,h7,h8,h9,h10⟩:=hrow
      have Hpl:=hid (Nat.le_trans hpl hpl2)
      clear hrk hb hpl hpl2
      have again:wantB s r b=false→PickW w X (X.ext E9 d9) (some ⟨g,of,none⟩) (w.heap.size+1+1+Ea.size+E2.size) (knownL l d) s (k+1) _:=fun hw=>by
       rw[hw] at hstep
       exact⟨HP1.out,hP2,hP3,HP4.out,(Ext.refl _).ext _ _,by rw[hstep];simpa using Hown.out⟩
      have Again:=hid again
      have Step:=hid hstep
      clear again hstep
      cases b with
      | false=>
       have HA:=hid (Again.out (by simp[wantB]))
       clear Again Step
       go_wp2_with fail
       exact⟨⟨k+1,X,by omega,by go_num,HA.out⟩,by simp[intOf];omega⟩
      | true=>
       by_cases k2:2≤r.kind
       ·cases ks:(r.ship==s) with
        | true=>
         have HS:=Step.out
         rw[if_pos (by simp[wantB,k2,eq_of_beq ks])] at HS
         have HS':=hid HS
         clear Again Step HS
         go_wp2_with (at_builtin;refine wpList_arec rfl X X.heap.size rfl rfl _ _ rfl [r] rfl tc td rfl rfl (Sl_at (encRec r) _ 11 1 _ rfl ta) (by have:=Hpl.out;simp only[List.length_cons,List.length_nil];omega) (fun v1 E1 d1 ho1=> ?_))
         exact⟨⟨k+1,X,by omega,by go_num,⟨HP1.out,hP2,hP3,HP4.out,(Ext.refl _).ext _ _,by rw[HS'.out];exact ho1⟩⟩,by simp[intOf];omega⟩
        | false=>
         have HA:=hid (Again.out (by simp only[wantB];(have :¬ r.ship=s:=by simpa using ks);simp[this]))
         clear Again Step
         go_wp2_with fail
         exact⟨⟨k+1,X,by omega,by go_num,HA.out⟩,by simp[intOf];omega⟩
       ·have HA:=hid (Again.out (by simp[wantB,k2]))
        clear Again Step
        go_wp2_with fail
        exact⟨⟨k+1,X,by omega,by go_num,HA.out⟩,by simp[intOf];omega⟩
     ·obtain rfl:k=nd:=by omega
      have hall:pickL s ((knownL l d).take k) ((standL (knownL l d)).take k)=standingL l s d:=by
       rw[hnd.out,List.take_length,←standL_length,List.take_length];rfl
      have hO:=Hown.out
      rw[hall] at hO
      obtain⟨Av,mv,cv,rfl,hmv,hcv,hsv⟩:=hO.open
      have HM:=hid hmv
      clear Hown hmv hcv hall
      go_wp2_with fail
      go_ret2
      exact⟨Av,mv,cv,ret_val tX,hid (by rw[HR.out];exact HM.out),by rw[HR.out];exact hsv,HP1.out.ext _ _⟩
end Go.Proofs.YtekjdeibnfaehaaGreat
