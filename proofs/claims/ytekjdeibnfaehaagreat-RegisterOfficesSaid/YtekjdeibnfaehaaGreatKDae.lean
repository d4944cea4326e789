/- Texts of a proof. -/
import Derived.Test.YtekjdeibnfaehaaGreatKDaa
import Derived.Test.YtekjdeibnfaehaaGreatKDac
import Derived.Test.YtekjdeibnfaehaaGreatKDad
import Derived.Laws.IdiomStrings
import Derived.Lib.AppendStr
set_option linter.unusedSimpArgs false
set_option linter.unusedVariables false
namespace Go.Proofs.YtekjdeibnfaehaaGreat
section
variable{P:Program}{ops:Array Oper}{Q:Exit→Act→World→Prop}{S:World→Prop}
theorem wpOp_side{j:Nat}{oi oj:Oper}{v:Value}(hj:ops[j]? =some oj)(hap:oi.apart ops oj=true)(hsj:∀ cs b,oj.op≠.select cs b)
 {K:Act→World→Prop} {a:Act} {w:World} (h:wpOp P ops (calm Q) j K a w):
 wpOp P ops (calm Q) j (fun b w'=> ∃a',b=a'.put oi.dst v∧K a' w') (a.put oi.dst v) w:=by
 obtain⟨h1,h2,h3⟩:=Oper.apart_spec hap
 unfold wpOp at *
 simp only[hj] at *
 rw[wanted_put oj a oi.dst v h1]
 split
 ·rename_i hw
  simp only[hw,if_true] at h
  rcases h with h|⟨hasks,hlets⟩
  case inr=>exact .inr ⟨by unfold Oper.asks at *;rw[execOp_put oj hsj a oi.dst v h1];exact hasks,hlets⟩
  refine .inl ?_
  unfold Oper.wp at *
  rw[execOp_put oj hsj a oi.dst v h1]
  generalize (execOp a.eval oj).run P w=r at *
  cases r with
  | ok n w'=>
   cases n <;> simp only[Oper.upon] at h ⊢
   case value u=>exact⟨_,Act.put_comm a v u h2,h⟩
   case skip=>exact⟨_,Act.put_comm a v undef h2,h⟩
   case defer d=>exact⟨_,by rw[Act.put_defers,Act.put_comm _ v undef h2],h⟩
   case enter f args=>
    refine Calls.mono h fun e w'' he=> ?_
    cases e with
    | returned u=>exact⟨_,Act.put_comm a v u h2,he⟩
    | panicked c=>exact he.elim
    | outgrown=>exact he
   case row row args=>exact Rows.mono h fun u w'' he=>⟨_,Act.put_comm a v u h2,he⟩
  | halt x w'=>
   cases x <;> simp only[Oper.upon] at h ⊢
   case panic u=>exact h.elim
 ·rename_i hw
  simp only[hw] at h
  exact⟨_,Act.put_comm a v undef h2,h⟩
theorem wpOp_same{j:Nat}{oi oj:Oper}(hj:ops[j]? =some oj)(hap:oi.apart ops oj=true)(hsi:∀ cs b,oi.op≠.select cs b)
 {K:Act→World→Prop} {a:Act} {w:World} (h:wpOp P ops (calm Q) j K a w):
 wpOp P ops (calm Q) j (fun a' w'=>execOp a'.eval oi=execOp a.eval oi∧K a' w') a w:=by
 obtain⟨h1,h2,h3⟩:=Oper.apart_spec hap
 have keep:∀ (b:Act) u,execOp (b.put oj.dst u).eval oi=execOp b.eval oi:=fun b u=>execOp_put oi hsi b oj.dst u h3
 unfold wpOp at *
 simp only[hj] at *
 split
 ·rename_i hw
  simp only[hw,if_true] at h
  rcases h with h|h
  case inr=>exact .inr h
  refine .inl ?_
  unfold Oper.wp at *
  generalize (execOp a.eval oj).run P w=r at *
  cases r with
  | ok n w'=>
   cases n <;> simp only[Oper.upon] at h ⊢
   case value u=>exact⟨keep a u,h⟩
   case skip=>exact⟨keep a _,h⟩
   case defer d=>exact⟨keep _ _,h⟩
   case enter f args=>
    refine Calls.mono h fun e w'' he=> ?_
    cases e with
    | returned u=>exact⟨keep a u,he⟩
    | panicked c=>exact he
    | outgrown=>exact he
   case row row args=>exact Rows.mono h fun u w'' he=>⟨keep a u,he⟩
  | halt x w'=>
   cases x <;> simp only[Oper.upon] at h ⊢
   case panic u=>exact h
 ·rename_i hw
  simp only[hw] at h
  exact⟨keep a _,h⟩
def wpPend(P:Program)(ops:Array Oper)(Q:Exit→Act→World→Prop)(S:World→Prop)(K:Act→World→Prop):List (Bool×Nat)→Act→World→Prop
 | [],a,w=> ∀w',Ext w w'→S w'→K a w'
 | (true,j)::js,a,w=> ∃o v,ops[j]? =some o∧YieldsIf P ops S o v a∧wpPend P ops Q S K js (a.put o.dst v) w
 | (false,j)::js,a,w=> ∀w1,Ext w w1→S w1→wpOp P ops (calm Q) j (fun a' w'=>(S w'∧Ext w1 w')∧wpPend P ops Q S K js a' w') a w1
theorem wpPend_later{K:Act→World→Prop}:∀ {js:List (Bool×Nat)}{a:Act}{w w':World},wpPend P ops Q S K js a w→Ext w w'→wpPend P ops Q S K js a w'
 | [],_,_,_,h,hx=>fun w2 h2 hs=>h w2 (hx.trans h2) hs
 | (true,_)::_,_,_,_,⟨o,v,ho,hy,h⟩,hx=>⟨o,v,ho,hy,wpPend_later h hx⟩
 | (false,_)::_,_,_,_,h,hx=>fun w1 h1 hs=>h w1 (hx.trans h1) hs
def okDone(ops:Array Oper)(fin:Nat→Array Bool→Bool):List (Bool×Nat)→Nat→Array Bool→Bool
 | [],n,listed=>fin n listed
 | (true,j)::js,n,listed=>Region.free .any ops listed j&&(Region.ready .any ops listed).contains j&&n != 0&&okDone ops fin js (n-1) (listed.setIfInBounds j true)
 | (false,j)::js,n,listed=>(Region.ready .any ops listed)==[j]&&n != 0&&okDone ops fin js (n-1) (listed.setIfInBounds j true)
def okOpen(ops:Array Oper)(fin:Nat→Array Bool→Bool)(i:Nat):List (Bool×Nat)→Nat→Array Bool→Bool
 | [],n,listed=>(Region.ready .any ops listed)==[i]&&n != 0&&fin (n-1) (listed.setIfInBounds i true)
 | (true,j)::js,n,listed=>Region.free .any ops listed j&&(Region.ready .any ops listed).contains j&&n != 0&&okOpen ops fin i js (n-1) (listed.setIfInBounds j true)
 | (false,j)::js,n,listed=>((Region.ready .any ops listed)==[i,j]||(Region.ready .any ops listed)==[j,i])&&n != 0&&okDone ops fin ((false,j)::js) (n-1) (listed.setIfInBounds i true)&&
  okOpen ops fin i js (n-1) (listed.setIfInBounds j true)
def apartAll(ops:Array Oper)(i:Nat)(js:List (Bool×Nat)):Bool:=js.all fun p=>match ops[i]?,ops[p.2]? with
 | some oi,some oj=>oi.apart ops oj
 | _,_=>false
theorem apartAll_cons{i:Nat}{p:Bool×Nat}{js:List (Bool×Nat)}{oi:Oper}(hi:ops[i]? =some oi)(h:apartAll ops i (p::js)=true):(∃oj,ops[p.2]? =some oj∧oi.apart ops oj=true)∧apartAll ops i js=true:=by
 simp only[apartAll,List.all_cons,Bool.and_eq_true,hi] at h ⊢
 refine⟨?_,h.2⟩
 cases hj:ops[p.2]? with
 | none=>simp[hj] at h
 | some oj=>exact⟨oj,rfl,by simpa [hj] using h.1⟩
variable{T:Value→World→Prop}{i:Nat}{oi:Oper}{K:Act→World→Prop}{fin:Nat→Array Bool→Bool}
theorem yieldsIf_put{oj:Oper}{u v:Value}{a:Act}(hap:oi.apart ops oj=true)(hsj:∀ cs b,oj.op≠.select cs b)(hy:YieldsIf P ops S oj u a):YieldsIf P ops S oj u (a.put oi.dst v):=by
 obtain⟨h1,h2,h3⟩:=Oper.apart_spec hap
 exact hy.of_same (execOp_put oj hsj a oi.dst v h1) (wanted_put oj a oi.dst v h1)
theorem pend_done(hsel:Region.noSelect ops=true)(hi:ops[i]? =some oi)(hT:∀ v w w',T v w→Ext w w'→T v w')
 (hfin:∀ n listed a w v,fin n listed=true→S w→T v w→K a w→wpAnyH P .any ops (calm Q) S n listed (a.put oi.dst v) w):
 ∀(js:List (Bool×Nat)) (n:Nat) (listed:Array Bool) (a:Act) (w:World) (v:Value),okDone ops fin js n listed=true→apartAll ops i js=true→S w→T v w→wpPend P ops Q S K js a w→
  wpAnyH P .any ops (calm Q) S n listed (a.put oi.dst v) w
 | [],n,listed,a,w,v,ho,_,hS,hv,h=>hfin n listed a w v ho hS hv (h w (Ext.refl _) hS)
 | (true,j)::js,n,listed,a,w,v,ho,hap,hS,hv,h=>by
  simp only[okDone,Bool.and_eq_true,bne_iff_ne,ne_eq] at ho
  obtain⟨m,rfl⟩:∃ m,n=m+1:=⟨n-1,by omega⟩
  obtain⟨oj,u,hj,hy,h⟩:=h
  obtain⟨⟨oj',hj',ha⟩,hap1⟩:=apartAll_cons hi hap
  obtain rfl:oj'=oj:=by rw[hj] at hj';exact(Option.some.inj hj').symm
  have hsj:=fun cs b=>Region.noSelect_spec hsel j oj' cs b hj
  refine wpAnyH_take hj hsel ho.1.1.1 ho.1.1.2 (fun _ _ _ h=>h) (yieldsIf_put ha hsj hy) hS ?_
  rw[Act.put_comm a v u (Oper.apart_spec ha).2.1]
  exact pend_done hsel hi hT hfin js _ _ _ w v ho.2 hap1 hS hv h
 | (false,j)::js,n,listed,a,w,v,ho,hap,hS,hv,h=>by
  simp only[okDone,Bool.and_eq_true,bne_iff_ne,ne_eq,beq_iff_eq] at ho
  obtain⟨m,rfl⟩:∃ m,n=m+1:=⟨n-1,by omega⟩
  obtain⟨⟨oj,hj,ha⟩,hap1⟩:=apartAll_cons hi hap
  have hsj:=fun cs b=>Region.noSelect_spec hsel j oj cs b hj
  refine wpAnyH_all ho.1.1 tE fun x hx=> ?_
  obtain rfl:x=j:=by simpa using hx
  refine wpOp_mono ?_ (wpOp_side (v:=v) hj ha hsj (h w (Ext.refl _) hS))
  rintro b w' ⟨a',rfl,⟨hS',hx'⟩,h'⟩
  exact⟨hS',pend_done hsel hi hT hfin js _ _ _ w' v ho.2 hap1 hS' (hT _ _ _ hv hx') h'⟩
theorem pend_open(hsel:Region.noSelect ops=true)(hi:ops[i]? =some oi)(hg:oi.guard=none)(hT:∀ v w w',T v w→Ext w w'→T v w')(hSx:∀ w w',S w→Ext w w'→S w')
 (hfin:∀ n listed a w v,fin n listed=true→S w→T v w→K a w→wpAnyH P .any ops (calm Q) S n listed (a.put oi.dst v) w):
 ∀(js:List (Bool×Nat)) (n:Nat) (listed:Array Bool) (a:Act) (w:World),okOpen ops fin i js n listed=true→apartAll ops i js=true→S w→
  (∀w1,S w1→∃ v w',(execOp a.eval oi).run P w1= .ok (.value v) w'∧Ext w1 w'∧T v w')→wpPend P ops Q S K js a w→wpAnyH P .any ops (calm Q) S n listed a w:=by
 have hsi:=fun cs b=>Region.noSelect_spec hsel i oi cs b hi
 have now:∀ {a:Act} {w:World} {K':Act→World→Prop},S w→(∀w1,S w1→∃ v w',(execOp a.eval oi).run P w1= .ok (.value v) w'∧Ext w1 w'∧T v w')→
  (∀v w',Ext w w'→S w'→T v w'→K' (a.put oi.dst v) w')→wpOp P ops (calm Q) i K' a w:=by
  intro a w K' hS hrun h
  obtain⟨v,w',hr,hx,hv⟩:=hrun w hS
  have hw:Region.wanted oi (yielded ops a.tmps)=true:=by simp[Region.wanted,hg]
  unfold wpOp
  simp only[hi,hw,if_true]
  refine .inl ?_
  unfold Oper.wp
  rw[hr]
  exact h v w' hx (hSx _ _ hS hx) hv
 intro js
 induction js with
 | nil=>
  intro n listed a w ho _ hS hrun h
  simp only[okOpen,Bool.and_eq_true,bne_iff_ne,ne_eq,beq_iff_eq] at ho
  obtain⟨m,rfl⟩:∃ m,n=m+1:=⟨n-1,by omega⟩
  refine wpAnyH_all ho.1.1 tE fun x hx=> ?_
  obtain rfl:x=i:=by simpa using hx
  exact now hS hrun fun v w' hx hS' hv=>⟨hS',hfin _ _ a w' v ho.2 hS' hv (h w' hx hS')⟩
 | cons p js ih=>
  intro n listed a w ho hap hS hrun h
  obtain⟨b,j⟩:=p
  have hap0:=hap
  obtain⟨⟨oj,hj,ha⟩,hap1⟩:=apartAll_cons hi hap
  have hsj:=fun cs b=>Region.noSelect_spec hsel j oj cs b hj
  cases b with
  | true=>
   simp only[okOpen,Bool.and_eq_true,bne_iff_ne,ne_eq] at ho
   obtain⟨m,rfl⟩:∃ m,n=m+1:=⟨n-1,by omega⟩
   obtain⟨oj',u,hj',hy,h⟩:=h
   obtain rfl:oj'=oj:=by rw[hj] at hj';exact(Option.some.inj hj').symm
   refine wpAnyH_take hj hsel ho.1.1.1 ho.1.1.2 (fun _ _ _ h=>h) hy hS ?_
   refine ih _ _ _ w ho.2 hap1 hS ?_ h
   rw[execOp_put oi hsi a oj'.dst u (Oper.apart_spec ha).2.2]
   exact hrun
  | false=>
   simp only[okOpen,Bool.and_eq_true,Bool.or_eq_true,bne_iff_ne,ne_eq,beq_iff_eq] at ho
   obtain⟨m,rfl⟩:∃ m,n=m+1:=⟨n-1,by omega⟩
   have hne:Region.ready .any ops listed≠[]:=by rcases ho.1.1.1 with e|e <;> rw[e] <;> simp
   refine wpAnyH_all rfl hne fun x hx=> ?_
   have hx':x=i∨x=j:=by
    rcases ho.1.1.1 with e|e <;> rw[e] at hx <;> simp at hx <;> omega
   rcases hx' with rfl|rfl
   ·refine now hS hrun fun v w' hx hS' hv=>⟨hS',?_⟩
    exact pend_done hsel hi hT hfin ((false,j)::js) _ _ a w' v ho.1.2 hap0 hS' hv (wpPend_later h hx)
   ·refine wpOp_mono ?_ (wpOp_same hj ha hsi (h w (Ext.refl _) hS))
    rintro a' w' ⟨he,⟨hS',hx'⟩,h'⟩
    refine⟨hS',ih _ _ a' w' ho.2 hap1 hS' ?_ h'⟩
    rw[he]
    exact hrun
structure PlanP where
 pre:List (Bool×Nat)
 i:Nat
 js:List (Bool×Nat)
 rest:Plan
def planOk(ops:Array Oper)(p:PlanP):Bool:=Region.noSelect ops&&apartAll ops p.i p.js&&okDone ops (okOpen ops (ordOk ops p.rest) p.i p.js) p.pre ops.size (Array.replicate ops.size false)
theorem pre_sound(hsel:Region.noSelect ops=true){K:Act→World→Prop}{fin:Nat→Array Bool→Bool}
 (hfin:∀ n listed a w,fin n listed=true→S w→K a w→wpAnyH P .any ops (calm Q) S n listed a w):
 ∀(js:List (Bool×Nat)) (n:Nat) (listed:Array Bool) (a:Act) (w:World),okDone ops fin js n listed=true→S w→wpPend P ops Q S K js a w→wpAnyH P .any ops (calm Q) S n listed a w
 | [],n,listed,a,w,ho,hS,h=>hfin n listed a w ho hS (h w (Ext.refl _) hS)
 | (true,j)::js,n,listed,a,w,ho,hS,h=>by
  simp only[okDone,Bool.and_eq_true,bne_iff_ne,ne_eq] at ho
  obtain⟨m,rfl⟩:∃ m,n=m+1:=⟨n-1,by omega⟩
  obtain⟨oj,u,hj,hy,h⟩:=h
  exact wpAnyH_take hj hsel ho.1.1.1 ho.1.1.2 (fun _ _ _ h=>h) hy hS (pre_sound hsel hfin js _ _ _ w ho.2 hS h)
 | (false,j)::js,n,listed,a,w,ho,hS,h=>by
  simp only[okDone,Bool.and_eq_true,bne_iff_ne,ne_eq,beq_iff_eq] at ho
  obtain⟨m,rfl⟩:∃ m,n=m+1:=⟨n-1,by omega⟩
  refine wpAnyH_all ho.1.1 tE fun x hx=> ?_
  obtain rfl:x=j:=by simpa using hx
  refine wpOp_mono ?_ (h w (Ext.refl _) hS)
  rintro b w' ⟨⟨hS',_⟩,h'⟩
  exact⟨hS',pre_sound hsel hfin js _ _ _ w' ho.2 hS' h'⟩
theorem wp_region_pend{id:Nat}{a:Act}{w:World}(p:PlanP)(T:Value→World→Prop)(hm:P.follows .mixedOrders=true)(ho:planOk ops p=true){oi:Oper}(hi:ops[p.i]? =some oi)(hg:oi.guard=none)
 (hT:∀ v w w',T v w→Ext w w'→T v w')
 (h:wpPend P ops Q (Ext w.drew) (fun a1 W1=>(∀w1,Ext w.drew w1→∃ v w',(execOp a1.eval oi).run P w1= .ok (.value v) w'∧Ext w1 w'∧T v w')∧
  wpPend P ops Q (Ext w.drew) (fun a2 W2=> ∀v,T v W2→wpOrd P ops Q (Ext w.drew) p.rest (a2.put oi.dst v) W2) p.js a1 W1) p.pre a w.drew):
 (Code.region id ops true).wp P Q a w:=by
 simp only[planOk,Bool.and_eq_true] at ho
 refine Code.wp_mono calm_imp (wp_region_held (S:=Ext w.drew) hm ?_)
 refine pre_sound ho.1.1 ?_ p.pre _ _ a w.drew ho.2 (Ext.refl _) h
 rintro n listed a1 W1 hf hS ⟨hrun,h1⟩
 refine pend_open ho.1.1 hi hg hT (fun _ _ h1 h2=>h1.trans h2) ?_ p.js n listed a1 W1 hf ho.1.2 hS hrun h1
 intro n listed a2 W2 v hf hS hv h2
 exact wpAnyH_of_ord ho.1.1 p.rest listed _ W2 n hf hS (h2 v hv)
theorem wpPend_nil{K:Act→World→Prop}{a:Act}{w:World}(h:∀ W,S W→Ext w W→K a W):wpPend P ops Q S K [] a w:=fun W hx hS=>h W hS hx
theorem wpPend_free{K:Act→World→Prop}{js:List (Bool×Nat)}{j:Nat}{a:Act}{w:World}{o:Oper}{v:Value}(hi:ops[j]? =some o)(hw:Region.wanted o (yielded ops a.tmps)=true)
 (hy:∀ w',S w'→(execOp a.eval o).run P w'= .ok (.value v) w') (h:wpPend P ops Q S K js (a.put o.dst v) w):wpPend P ops Q S K ((true,j)::js) a w:=
 ⟨o,v,hi,.inl ⟨hw,hy⟩,h⟩
theorem wpPend_call{K:Act→World→Prop}{js:List (Bool×Nat)}{i:Nat}{a:Act}{w:World}{o:Oper}{f:FuncId}{xs:List Operand}{ats:Array TypeId}(hi:ops[i]? =some o)
 (hw:Region.wanted o (yielded ops a.tmps)=true) (ho:o.op= .call {callee:=.value (.func f),args:=xs.toArray,argTypes:=ats})
 (hf:∀ args w,(callFunc f args).run P w= .ok (.enter f args) w)
 (h:∀ W,S W→Ext w W→∀ R:Ending→World→Prop,(∀e w',(∃v,e= .returned v∧(S w'∧Ext W w')∧wpPend P ops Q S K js (a.put o.dst v) w')→R e w')→Calls P f (xs.map a.eval).toArray W R):
 wpPend P ops Q S K ((false,i)::js) a w:=by
 intro w1 hx hS
 unfold wpOp
 simp only[hi,hw,if_true]
 refine .inl ?_
 obtain⟨dst,op,type,pos,after,guard⟩:=o
 subst ho
 unfold Oper.wp
 rw[show execOp a.eval {dst,op:=.call {callee:=.value (.func f),args:=xs.toArray,argTypes:=ats},type,pos,after,guard}=callFunc f (xs.map a.eval).toArray from by
  show callFunc f (#[]++xs.toArray.map a.eval++ #[])=_
  simp,hf]
 refine(h w1 hS hx _ fun _ _ h=>h).mono fun e w' hR=> ?_
 obtain⟨v,rfl,hS,h⟩:=hR
 exact⟨hS,h⟩
end
def zeros11:Array Value:=#[.int .i64 0,.int .i64 0,.int .i64 0,.int .i64 0,.int .i64 0,.int .i64 0,.int .i64 0,.int .i64 0,.int .i64 0,.int .i64 0,.string ⟨#[]⟩]
def TNew(B:Nat)(o:Obj)(v:Value)(w:World):Prop:=∃ g,v= .pointer (some ⟨g,0,none⟩)∧B≤g∧w.heap[g]? =some o
theorem TNew.later{B:Nat}{o:Obj}{v:Value}{w w':World}(h:TNew B o v w)(hx:Ext w w'):TNew B o v w':=by
 obtain⟨g,hv,hB,hh⟩:=h
 obtain⟨E,d,rfl⟩:=hx
 exact⟨g,hv,hB,(heap_ext w E d g (Array.getElem?_eq_some_iff.1 hh).1).trans hh⟩
theorem cells_of_heap{W:World}{g:Nat}{C:Array Value}{t:TypeId}(h:W.heap[g]? =some (.cells C t)):(∀k,W.cell? ⟨g,k,none⟩=C[k]?)∧(∀k,W.frozen? ⟨g,k,none⟩=false)∧g<W.heap.size:=by
 refine⟨fun k=> ?_,fun k=> ?_,(Array.getElem?_eq_some_iff.1 h).1⟩
 ·simp[World.cell?,h]
 ·simp[World.frozen?,h]
theorem new_runs{P:Program}{o:Oper}{t:TypeId}{z:Value}(ho:o.op= .alloc t)(hz:∀ w,(zeroValue t).run P w= .ok z w)(ρ:Operand→Value)(B:Nat)(w:World)(hB:B≤w.heap.size):
 ∃v w',(execOp ρ o).run P w= .ok (.value v) w'∧Ext w w'∧TNew B (.cells z.cells t) v w':=by
 obtain⟨dst,op,type,pos,after,guard⟩:=o
 subst ho
 refine⟨.pointer (some ⟨w.heap.size,0,none⟩),w.alloc (.cells z.cells t),?_,(Ext.refl _).alloc _,_,rfl,hB,?_⟩
 ·simp only[execOp,Instr.alloc,Sem.run_bind,hz,Result.andThen_ok]
  rfl
 ·simp only[World.alloc];exact Array.getElem?_push_size
theorem new_cells{W:World}{g:Nat}{t:TypeId}(h:W.heap[g]? =some (.cells zeros11 t)):
 W.cell? ⟨g,0,none⟩=some (.int .i64 0)∧W.cell? ⟨g,1,none⟩=some (.int .i64 0)∧W.cell? ⟨g,2,none⟩=some (.int .i64 0)∧W.cell? ⟨g,3,none⟩=some (.int .i64 0)∧W.cell? ⟨g,4,none⟩=some (.int .i64 0)∧
 W.cell? ⟨g,5,none⟩=some (.int .i64 0)∧W.cell? ⟨g,6,none⟩=some (.int .i64 0)∧W.cell? ⟨g,7,none⟩=some (.int .i64 0)∧W.cell? ⟨g,8,none⟩=some (.int .i64 0)∧W.cell? ⟨g,9,none⟩=some (.int .i64 0)∧
 W.cell? ⟨g,10,none⟩=some (.string ⟨#[]⟩)∧∀ k,W.frozen? ⟨g,k,none⟩=false:=by
 obtain⟨h1,h2,_⟩:=cells_of_heap h
 simp only[h1,zeros11]
 exact⟨rfl,rfl,rfl,rfl,rfl,rfl,rfl,rfl,rfl,rfl,rfl,h2⟩
theorem _root_.Go.Ext.same(w:World)(E:Array Obj)(d d':Nat):Ext (w.ext E d) (w.ext E d'):=⟨#[],d',by simp[World.ext]⟩
instance(w:World)(E:Array Obj)(d d':Nat):Nonempty (Ext (w.ext E d) (w.ext E d')):=⟨Ext.same w E d d'⟩
theorem _root_.Go.Ext.setCell{w W:World}(h:Ext w W)(p:Addr)(v:Value)(hb:w.heap.size≤p.block):Ext w (W.setCell p v):=
 Ext.of_below (h.below.setCell hb v)
end Go.Proofs.YtekjdeibnfaehaaGreat
namespace Go.Proofs.YtekjdeibnfaehaaGreat
open Go.RowKit
def BytVs(w:World):List Value→List (List UInt8)→Prop
 | [],[]=>True
 | v::vs,l::ls=>BytV w v l∧BytVs w vs ls
 | _,_=>False
theorem BytVs.length{w:World}:∀ {vs:List Value}{ls:List (List UInt8)},BytVs w vs ls→vs.length=ls.length
 | [],[],_=>rfl
 | _::_,_::_,h=>by simp[BytVs.length h.2]
theorem BytVs.at_{w:World}:∀ {vs:List Value}{ls:List (List UInt8)},BytVs w vs ls→∀ i (h:i<vs.length) (h':i<ls.length),BytV w vs[i] ls[i]
 | _::_,_::_,h,0,_,_=>h.1
 | _::_,_::_,h,i+1,h1,h2=>BytVs.at_ h.2 i (by simpa using h1) (by simpa using h2)
theorem BytVs.alloc{w:World}(o:Obj):∀ {vs:List Value}{ls:List (List UInt8)},BytVs w vs ls→BytVs (w.alloc o) vs ls
 | [],[],_=>trivial
 | _::_,_::_,h=>⟨BytV.alloc h.1 o,BytVs.alloc o h.2⟩
theorem Concat_list(A:Option Addr)(n c:Nat)(vs:List Value)(ls:List (List UInt8))(w:World)(hn:vs.length=n)(hsz:sumL ls≤1000000)(hsz0:0<sumL ls)(hn':n≤1000000)
 (hs:Sl 1 w A n vs) (hv:BytVs w vs ls):
 Calls Tryz.prog 158 #[.slice A n c] w fun e w'=> ∃A' c',e= .returned (.slice A' ls.flatten.length c')∧Byt w' A' ls.flatten∧Ext w w':=by
 subst hn
 refine(Concat_any A c vs ls hv.length hsz hsz0 hn' w hs hv.at_).mono ?_
 rintro e w' ⟨v,rfl,⟨A',c',rfl,hb⟩,hx⟩
 exact⟨A',c',rfl,hb,hx⟩
theorem Concat_at(W:World)(cs:List Value)(e:TypeId)(g n c:Nat)(ls:List (List UInt8))(hg:g=W.heap.size)(hn:cs.length=n)(hsz:sumL ls≤1000000)(hsz0:0<sumL ls)(hn':n≤1000000)
 (hv:BytVs W cs ls):
 Calls Tryz.prog 158 #[.slice (some ⟨g,0,none⟩) n c] (W.alloc (.cells cs.toArray e)) fun e w'=> ∃A' c',e= .returned (.slice A' ls.flatten.length c')∧Byt w' A' ls.flatten∧Ext W w':=by
 have hv':BytVs (W.alloc (.cells cs.toArray e)) cs ls:=hv.alloc _
 refine(Concat_list _ n c cs ls _ hn hsz hsz0 hn' (Sl_at cs e 1 n g tB hg) hv').mono ?_
 rintro e w' ⟨A',c',he,hb,hx⟩
 exact⟨A',c',he,hb,((Ext.refl W).alloc _).trans hx⟩
theorem Byt.of_ext{w w':World}{A:Option Addr}{l:List UInt8}(h:Byt w A l)(hx:Ext w w'):Byt w' A l:=Sl.of_ext h hx
theorem bytI{w w':World}{A:Option Addr}{l:List UInt8}(h:Byt w A l)[hx:Nonempty (Ext w w')]:Byt w' A l:=h.of_ext (hx.elim id)
def TByt(s:ByteArray)(v:Value)(w:World):Prop:=∃ A c,v= .slice A s.size c∧Byt w A s.data.toList
theorem TByt.later{s:ByteArray}{v:Value}{w w':World}(h:TByt s v w)(hx:Ext w w'):TByt s v w':=by
 obtain⟨A,c,hv,hb⟩:=h
 exact⟨A,c,hv,hb.of_ext hx⟩
theorem to_bytes(P:Program)(hP:P=Tryz.prog){o:Oper}{ρ:Operand→Value}{x:Operand}{s:ByteArray}(ho:o.op= .convert 9 22 x)(hx:ρ x= .string s)(w:World):
 ∃v w',(execOp ρ o).run P w= .ok (.value v) w'∧Ext w w'∧TByt s v w':=by
 obtain⟨dst,op,type,pos,after,guard⟩:=o
 subst ho
 obtain⟨A,c,E,d,hrun,hb⟩:=run_to_bytes w s
 rw[←hP] at hrun
 refine⟨_,_,?_,(Ext.refl _).ext E d,A,c,rfl,hb⟩
 simp only[execOp,Sem.run_bind,hx,hrun,Result.andThen_ok,Sem.run_pure]
set_option maxRecDepth 100000 in
set_option maxHeartbeats 2000000 in
theorem bytesOf_any(r:Rec)(hr:RecNum r)(w:World):
 Calls Tryz.prog 128 #[recV r] w fun e w'=> ∃A c,e= .returned (.slice A (recB r).length c)∧Byt w' A (recB r)∧Ext w w':=by
 obtain⟨⟨a0,a1⟩,⟨b0,b1⟩,⟨c0,c1⟩,⟨d0,d1⟩,⟨e0,e1⟩,⟨f0,f1⟩,⟨g0,g1⟩,⟨h0,h1⟩,⟨i0,i1⟩,⟨j0,j1⟩,k0⟩:=hr
 have hsum:sumL (partsB r)=23+r.text.size:=recB_length r
 go_enter Tryz.func128,Tryz.ntmps128
 go_wp2_with fail
 refine wp_region_pend ⟨[(true,0),(true,1),(true,2),(true,4),(true,5),(true,6),(true,8),(true,9),(true,11),(true,12),(true,14),(true,15),(true,17),(true,18),(true,20),(true,21),(true,22),(true,24),(true,25),(true,26),(true,28),(true,29),(true,31),(true,32),(true,34),(true,35),(true,36),(true,38),(true,39)],40,[(false,3),(false,7),(false,10),(false,13),(false,16),(false,19),(false,23),(false,27),(false,30),(false,33),(false,37)],(.a 41 (.a 42 (.f 43 .d)))⟩ (TByt r.text) tG tG rfl rfl (by exact fun _ _ _ h hx=>h.later hx) ?_
 repeat(first|(refine wpPend_free (v:=?_) rfl rfl (fun _ hS=> ?_) ?_;rotate_left;(focus(obtain⟨E9,d9,rfl⟩:=hS;go_simp;try with_reducible rfl));simp only[Act.put,zp]))
 refine wpPend_nil (fun W98 hS98 hx98=>⟨?_,?_⟩)
 ·rintro w1 ⟨E8,d8,rfl⟩
  exact to_bytes _ rfl rfl rfl _
 refine wpPend_call rfl rfl rfl Tryz.call159 (fun W100 hS100 hx100 R hR=> ?_)
 go_simp
 refine(number_i _ _ tB tB tB tB _).mono ?_
 rintro e w1 ⟨A100,c100,rfl,hb100,E100,d100,rfl⟩
 refine hR _ _ ⟨_,rfl,⟨tR,exI⟩,?_⟩
 clear hR R
 simp only[Act.put,zp]
 refine wpPend_call rfl rfl rfl Tryz.call159 (fun W101 hS101 hx101 R hR=> ?_)
 go_simp
 refine(number_i _ _ tB tB tB tB _).mono ?_
 rintro e w1 ⟨A101,c101,rfl,hb101,E101,d101,rfl⟩
 refine hR _ _ ⟨_,rfl,⟨tR,exI⟩,?_⟩
 clear hR R
 simp only[Act.put,zp]
 refine wpPend_call rfl rfl rfl Tryz.call159 (fun W102 hS102 hx102 R hR=> ?_)
 go_simp
 refine(number_i _ _ tB tB tB tB _).mono ?_
 rintro e w1 ⟨A102,c102,rfl,hb102,E102,d102,rfl⟩
 refine hR _ _ ⟨_,rfl,⟨tR,exI⟩,?_⟩
 clear hR R
 simp only[Act.put,zp]
 refine wpPend_call rfl rfl rfl Tryz.call159 (fun W103 hS103 hx103 R hR=> ?_)
 go_simp
 refine(number_i _ _ tB tB tB tB _).mono ?_
 rintro e w1 ⟨A103,c103,rfl,hb103,E103,d103,rfl⟩
 refine hR _ _ ⟨_,rfl,⟨tR,exI⟩,?_⟩
 clear hR R
 simp only[Act.put,zp]
 refine wpPend_call rfl rfl rfl Tryz.call159 (fun W104 hS104 hx104 R hR=> ?_)
 go_simp
 refine(number_i _ _ tB tB tB tB _).mono ?_
 rintro e w1 ⟨A104,c104,rfl,hb104,E104,d104,rfl⟩
 refine hR _ _ ⟨_,rfl,⟨tR,exI⟩,?_⟩
 clear hR R
 simp only[Act.put,zp]
 refine wpPend_call rfl rfl rfl Tryz.call159 (fun W105 hS105 hx105 R hR=> ?_)
 go_simp
 refine(number_i _ _ tB tB tB tB _).mono ?_
 rintro e w1 ⟨A105,c105,rfl,hb105,E105,d105,rfl⟩
 refine hR _ _ ⟨_,rfl,⟨tR,exI⟩,?_⟩
 clear hR R
 simp only[Act.put,zp]
 refine wpPend_call rfl rfl rfl Tryz.call159 (fun W106 hS106 hx106 R hR=> ?_)
 go_simp
 refine(number_i _ _ tB tB tB tB _).mono ?_
 rintro e w1 ⟨A106,c106,rfl,hb106,E106,d106,rfl⟩
 refine hR _ _ ⟨_,rfl,⟨tR,exI⟩,?_⟩
 clear hR R
 simp only[Act.put,zp]
 refine wpPend_call rfl rfl rfl Tryz.call159 (fun W107 hS107 hx107 R hR=> ?_)
 go_simp
 refine(number_i _ _ tB tB tB tB _).mono ?_
 rintro e w1 ⟨A107,c107,rfl,hb107,E107,d107,rfl⟩
 refine hR _ _ ⟨_,rfl,⟨tR,exI⟩,?_⟩
 clear hR R
 simp only[Act.put,zp]
 refine wpPend_call rfl rfl rfl Tryz.call159 (fun W108 hS108 hx108 R hR=> ?_)
 go_simp
 refine(number_i _ _ tB tB tB tB _).mono ?_
 rintro e w1 ⟨A108,c108,rfl,hb108,E108,d108,rfl⟩
 refine hR _ _ ⟨_,rfl,⟨tR,exI⟩,?_⟩
 clear hR R
 simp only[Act.put,zp]
 refine wpPend_call rfl rfl rfl Tryz.call159 (fun W109 hS109 hx109 R hR=> ?_)
 go_simp
 refine(number_i _ _ tB tB tB tB _).mono ?_
 rintro e w1 ⟨A109,c109,rfl,hb109,E109,d109,rfl⟩
 refine hR _ _ ⟨_,rfl,⟨tR,exI⟩,?_⟩
 clear hR R
 simp only[Act.put,zp]
 refine wpPend_call rfl rfl rfl Tryz.call159 (fun W110 hS110 hx110 R hR=> ?_)
 go_simp
 refine(number_i _ _ tB tB tB tB _).mono ?_
 rintro e w1 ⟨A110,c110,rfl,hb110,E110,d110,rfl⟩
 refine hR _ _ ⟨_,rfl,⟨tR,exI⟩,?_⟩
 clear hR R
 simp only[Act.put,zp]
 refine wpPend_nil (fun W99 hS99 hx99=> ?_)
 rintro v9 ⟨A12,c12,rfl,hb12⟩
 simp only[Act.put,zp]
 refine oA ?_
 refine wpOrd_call rfl rfl rfl Tryz.call158 (fun R hR=> ?_)
 go_simp
 refine(Concat_at _ _ _ _ _ _ (partsB r) (by rfl) (by rfl) (by rw[hsum];omega) (by rw[hsum];omega) tB (by exact⟨⟨_,_,rfl,hb100.of_ext tS⟩,⟨_,_,rfl,hb101.of_ext tS⟩,⟨_,_,rfl,hb102.of_ext tS⟩,⟨_,_,rfl,hb103.of_ext tS⟩,⟨_,_,rfl,hb104.of_ext tS⟩,⟨_,_,rfl,hb105.of_ext tS⟩,⟨_,_,rfl,hb106.of_ext tS⟩,⟨_,_,rfl,hb107.of_ext tS⟩,⟨_,_,rfl,hb108.of_ext tS⟩,⟨_,_,rfl,hb109.of_ext tS⟩,⟨_,_,rfl,hb110.of_ext tS⟩,⟨_,_,rfl,hb12⟩,trivial⟩)).mono ?_
 rintro e w1 ⟨A112,c112,rfl,hb112,E112,d112,rfl⟩
 refine hR _ _ ⟨_,rfl,?_,?_⟩
 ·exact tR
 clear hR R
 simp only[Act.put,zp]
 refine oS ?_
 refine wpOrd_nil ?_
 go_wp2_with fail
 go_ret
 exact⟨A112,c112,ret_val (congrArg (fun n=>Value.slice A112 n c112) (by simp[recB])),hb112,by repeat(first|exact Ext.refl _|assumption|apply Ext.alloc|apply Ext.ext|apply Ext.drew|(refine Ext.trans ?_ tF))⟩
end Go.Proofs.YtekjdeibnfaehaaGreat
namespace Go.Proofs.YtekjdeibnfaehaaGreat
open Go.RowKit
def OwnB(base:Nat)(w:World)(v:Value)(l:List UInt8):Prop:=w.ownsRow base 5 1 v l.length (l.map encB)
theorem OwnB.ext{base:Nat}{w:World}{v:Value}{l:List UInt8}(h:OwnB base w v l)(E:Array Obj)(d:Nat):OwnB base (w.ext E d) v l:=ownsRow_ext h E d
theorem OwnB.none(base:Nat)(w:World):OwnB base w (.slice none 0 0) []:=ownsRow_none base
theorem OwnB.slice{base:Nat}{w:World}{v:Value}{l:List UInt8}(h:OwnB base w v l):∃ A c,v= .slice A l.length c∧Byt w A l:=by
 obtain⟨A,c,hv,_,hs⟩:=ownsRow_slice h
 exact⟨A,c,hv,hs⟩
theorem OwnB.congr{base:Nat}{w:World}{v:Value}{l l':List UInt8}(h:OwnB base w v l)(e:l=l'):OwnB base w v l':=e▸h
theorem ownsRow_base{base base':Nat}{w:World}{e:TypeId}{size n:Nat}{v:Value}{xs:List Value}(h:w.ownsRow base e size v n xs)(hb:base'≤base):w.ownsRow base' e size v n xs:=by
 refine⟨h.1,?_⟩
 rcases h.2 with h0|⟨g,cap,cur,hv,hb',hr⟩
 ·exact .inl h0
 ·exact .inr ⟨g,cap,cur,hv,by omega,hr⟩
set_option maxRecDepth 100000 in
set_option maxHeartbeats 2000000 in
theorem rput_any(w0:World)(v:Value)(l:List UInt8)(n:Int)(many:Nat)(h0:0≤n)(h1:n≤9223372036854775807)(hm:many≤4)(hl:l.length≤1000000)(w:World)(hx:Ext w0 w)(hown:OwnB w0.heap.size w v l):
 Calls Tryz.prog 133 #[v,.int .i64 n,.int .i64 many] w fun e w'=> ∃v' E d,e= .returned v'∧w'=w0.ext E d∧OwnB w0.heap.size w' v' (l++numB n many):=by
 obtain⟨i0,hi,hz0,hz1,hz2⟩:=info_parts info_u8
 obtain⟨E0,d0,rfl⟩:=hx
 go_enter Tryz.func133,Tryz.ntmps133
 go_wp2_with fail
 go_loopw [0,7] (fun out i wr=> ∃(k:Nat) (v:Int),v=(many:Int)-1-k∧k≤many∧i= .int .i64 v∧Ext w0 wr∧wr.ownsRow w0.heap.size 5 1 out (l.length+k) (l.map encB++((numB n many).take k).map encB)) (fun _ i _=>(intOf i+1).toNat)
 case atStart=>exact⟨0,many-1,by omega,by omega,rfl,(Ext.refl _).ext _ _,by simpa [OwnB] using hown⟩
 case round=>
  obtain⟨k,v,hv,hk,rfl,⟨E,d,rfl⟩,hown⟩:=hrel
  by_cases hlt:k<many
  ·have hv0:0≤v:=by omega
   have hv1:v≤3:=by omega
   have Hv:=hid hv
   clear hv
   obtain rfl|rfl|rfl|rfl:v=0∨v=1∨v=2∨v=3:=by omega
   all_goals
    go_wp2_with (at_builtin;refine wpList_append (w:=w0) rfl _ _ 22 rfl 5 i0 (.int .u8 0) 1 1 Tryz.underlying22 hi hz0 hz1 hz2 rfl tN rfl ((Ext.refl _).ext E d |>.alloc _) (ownsRow_alloc hown _) rfl (Sl_at [_] _ 1 1 _ rfl tE) (by intro u hu;simp only[List.mem_singleton] at hu;subst hu;rfl) tO tB ?_;intro v1 E1 d1 hown1;rw[List.append_assoc,number_step n h0 many k _ Hv.out hlt hm _ tE] at hown1)
    go_roundw
    case rel=>exact⟨k+1,_,rfl,by omega,congrArg (Value.int .i64) (by have:=Hv.out;omega),(Ext.refl _).ext E1 d1,hown1⟩
    case measure=>simp[intOf]
  ·obtain rfl:k=many:=by omega
   have hv0:v<0:=by omega
   rw[List.take_of_length_le (by rw[numB_length];exact Nat.le_refl _),←List.map_append] at hown
   obtain⟨A,c,rfl,_,_⟩:=ownsRow_slice hown
   have hown':OwnB w0.heap.size (w0.ext E d) (.slice A (l.length+k) c) (l++numB n k):=by
    unfold OwnB
    rw[List.length_append,numB_length]
    exact hown
   clear hown hv
   go_wp2_with fail
   go_ret
   exact⟨_,E,d,rfl,rfl,hown'⟩
theorem rput_i(w0:World)(v:Value)(l:List UInt8)(n many:Int)(w:World)(hx:Ext w0 w)(hown:OwnB w0.heap.size w v l)(h0:0≤n)(h1:n≤9223372036854775807)(hm0:0≤many)(hm:many≤4)(hl:l.length≤1000000):
 Calls Tryz.prog 133 #[v,.int .i64 n,.int .i64 many] w fun e w'=> ∃v' E d,e= .returned v'∧w'=w0.ext E d∧OwnB w0.heap.size w' v' (l++numB n many.toNat):=by
 obtain⟨m,rfl⟩:=Int.eq_ofNat_of_zero_le hm0
 exact rput_any w0 v l n m h0 h1 tB hl w hx hown
theorem strCells_eq(s:ByteArray):Lib.strCells s=s.data.toList.map encB:=rfl
theorem wpList_append_string{ops:Array Oper}{rest:List Oper}{o:Oper}{a:Act}{Q:Exit→Act→World→Prop}{w W:World}(hgd:o.guard=none)(s x:Operand)
 (ho:o.op= .call {callee:=.builtin .append,args:=#[s,x],argTypes:=#[22,9]})
 {v:Value} {l:List UInt8} (hs:a.eval s=v) (hx:Ext w W) (hown:OwnB w.heap.size W v l) {t:ByteArray} (hv:a.eval x= .string t) (hsz:l.length+t.size≤140737488355328)
 (h:∀ v' E d,OwnB w.heap.size (w.ext E d) v' (l++t.data.toList)→wpList Tryz.prog ops Q rest (a.put o.dst v') (w.ext E d)):wpList Tryz.prog ops Q (o::rest) a W:=by
 refine wpList_plain hgd fun _ hK=> ?_
 obtain⟨i0,hi,hz0,hz1,hz2⟩:=info_parts info_u8
 obtain⟨v',w',hrun,h2,h3,_⟩:=Lib.run_append_own_string (P:=Tryz.prog) W w.heap.size 22 9 o.type 5 i0 Tryz.underlying22 Tryz.underlying9 hi hz0 hz1 hz2 v l.length _ hown t tO hsz hx.below.size
 obtain⟨E,d,rfl⟩:=Ext.of_own hx hown h3
 have h2':OwnB w.heap.size (w.ext E d) v' (l++t.data.toList):=by
  unfold OwnB
  rw[List.map_append,←strCells_eq,List.length_append,show t.data.toList.length=t.size from rfl]
  exact h2
 have h4:=hK _ _ (h v' E d h2')
 generalize wpList Tryz.prog ops Q rest=K at h4
 generalize Tryz.prog=P at hrun ⊢
 unfold Oper.wp execOp
 simp only[ho,resolve,invoke,builtin,Sem.run_bind,Sem.run_pure,Result.andThen_ok,List.map_toArray,List.map_cons,List.map_nil,hs,hv,hrun]
 exact h4
set_option maxRecDepth 100000 in
set_option maxHeartbeats 2000000 in
theorem encode_any(r:Rec)(hr:RecNum r)(w:World):
 Calls Tryz.prog 132 #[recV r] w fun e w'=> ∃v E d,e= .returned v∧w'=w.ext E d∧OwnB w.heap.size w' v (recB r):=by
 obtain⟨⟨a0,a1⟩,⟨b0,b1⟩,⟨c0,c1⟩,⟨d0,d1⟩,⟨e0,e1⟩,⟨f0,f1⟩,⟨g0,g1⟩,⟨h0,h1⟩,⟨i0,i1⟩,⟨j0,j1⟩,k0⟩:=hr
 go_enter Tryz.func132,Tryz.ntmps132
 go_wp2_with fail
 refine(rput_i (w.alloc _) _ [] _ _ _ (Ext.refl _) (OwnB.none _ _) tB tB tB tB tE).mono ?_
 rintro e w1 ⟨v1,E1,d1,rfl,rfl,hb1⟩
 go_wp2_with (first|(at_builtin;refine wpList_append_string (w:=w.alloc _) rfl _ _ rfl rfl ((Ext.refl _).ext _ _) tF rfl (by simp[numB_length];omega) ?_;intro v2 E2 d2 hb2)|(go_at_call 133;refine(rput_i _ _ _ _ _ _ ((Ext.refl _).ext _ _) tF tB tB tB tB (by simp[numB_length])).mono ?_;rintro e w1 ⟨v1,E1,d1,rfl,rfl,hb1⟩))
 go_ret
 obtain⟨E,d,hE⟩:=((Ext.refl w).alloc _).ext E2 d2
 exact⟨v2,E,d,rfl,hE,OwnB.congr (ownsRow_base hb2 tE) (by simp[recB,partsB])⟩
theorem encode_v(r:Rec)(hr:RecNum r)(w:World):
 Calls Tryz.prog 132 #[recV r] w fun e w'=> ∃A c,e= .returned (.slice A (recB r).length c)∧Byt w' A (recB r)∧Ext w w':=by
 refine(encode_any r hr w).mono ?_
 rintro e w' ⟨v,E,d,rfl,rfl,hb⟩
 obtain⟨A,c,rfl,hb2⟩:=hb.slice
 exact⟨A,c,rfl,hb2,(Ext.refl _).ext _ _⟩
end Go.Proofs.YtekjdeibnfaehaaGreat
namespace Go.Proofs.YtekjdeibnfaehaaGreat
open Go.RowKit
def encL(r:Rec):List UInt8:=if recOk r=true then recB r else[]
set_option maxHeartbeats 400000 in
theorem Encode_any(r:Rec)(w:World)(hs:r.text.size≤9223372036854775807):
 Calls Tryz.prog 69 #[recV r] w fun e w'=> ∃A c,e= .returned (.tuple #[.slice A (encL r).length c,.int .i64 (errRec r)])∧Byt w' A (encL r)∧Ext w w':=by
 cases h:recOk r with
 | true=>
  have he:errRec r=0:=by rw[errRec,h];rfl
  have hl:encL r=recB r:=by rw[encL,h];rfl
  have hn:RecNum r:=recNum_of h
  rw[he,hl]
  have H:=hid h
  clear h he hl
  go_enter Tryz.func69,Tryz.ntmps69
  go_wp2_with fail
  refine(isRecord_any r _ hs).mono ?_
  rintro e w1 ⟨rfl,E,d,rfl⟩
  rw[H.out]
  go_wp2_with (go_at_call 128;refine(bytesOf_any _ tF _).mono ?_;rintro e w1 ⟨A1,c1,rfl,hb1,E1,d1,rfl⟩)
  go_ret2
  exact⟨_,_,rfl,hb1,exI⟩
 | false=>
  have he:errRec r=70:=by rw[errRec,h];rfl
  have hl:encL r=[]:=by rw[encL,h];rfl
  rw[he,hl]
  have H:=hid h
  clear h he hl
  go_enter Tryz.func69,Tryz.ntmps69
  go_wp2_with fail
  refine(isRecord_any r _ hs).mono ?_
  rintro e w1 ⟨rfl,E,d,rfl⟩
  rw[H.out]
  go_wp2_with fail
  go_ret2
  exact⟨none,0,rfl,⟨rfl,fun h=>absurd h tE⟩,exI⟩
theorem run_of_bytes{w:World}{A:Option Addr}{l:List UInt8}(hb:Byt w A l)(c:Nat):
 (convert 22 9 (.slice A l.length c)).run Tryz.prog w= .ok (.string ⟨l.toArray⟩) w:=by
 cases l with
 | nil=>
  show(convert 22 9 (.slice A 0 c)).run Tryz.prog w=_
  rw[run_convert_bytes_string w 22 9 _ A 0 c Tryz.underlying22 Tryz.underlying5 Tryz.underlying9]
  cases A with
  | none=>simp[Conv.bytesToString];rfl
  | some a=>
   rw[run_bytesToString w a 0 c [] (by simp[loadCells,loadCellsFrom])]
   rfl
 | cons b t=>
  obtain⟨g,o,rfl,hg,hc⟩:=hb.2 tE
  refine run_convert_bytes_back w 22 9 _ ⟨g,o,none⟩ c (b::t) Tryz.underlying22 Tryz.underlying5 Tryz.underlying9 ?_
  intro j hj
  have:=hc j _ (by rw[List.getElem?_map,List.getElem?_eq_getElem hj];rfl)
  rw[←encB,←this]
  unfold Addr.add
  split
  ·rename_i h;subst h;rfl
  ·rfl
set_option maxHeartbeats 400000 in
theorem SameBytes_any(A A':Option Addr)(c c' n n':Nat)(l l':List UInt8)(w:World)(hn:l.length=n)(hn':l'.length=n')(hb:Byt w A l)(hb':Byt w A' l'):
 Calls Tryz.prog 116 #[.slice A n c,.slice A' n' c'] w fun e w'=>e= .returned (.bool (decide (l=l')))∧w=w':=by
 subst hn hn'
 have h1:=run_of_bytes hb c
 have h2:=run_of_bytes hb' c'
 go_enter Tryz.func116,Tryz.ntmps116
 go_wp2_with fail
 go_ret
 refine⟨ret_val ?_,rfl⟩
 show Value.bool (l==l')=Value.bool (decide (l=l'))
 by_cases h:l=l' <;> simp[h]
end Go.Proofs.YtekjdeibnfaehaaGreat
