/- Texts of a proof. -/
import Derived.RangeFuncNested
import Derived.RangeFuncBound
import Derived.RangeFuncCalls
import Derived.RangeFuncLeaves
import Derived.OwnWalkIn
import Derived.TacticsInMore
import Derived.LoopNIn
import Derived.LoopIn
import Derived.Test.YtekjdeibnfaehaaGreatKDag
import Derived.Test.YtekjdeibnfaehaaGreatKDad
import Derived.Test.YtekjdeibnfaehaaGreatKDaf
set_option linter.unusedSimpArgs false
set_option linter.unusedVariables false
namespace Go.Proofs.YtekjdeibnfaehaaGreat
open Go Go.RowKit
variable{F:Fence}{n:Nat}{P:Program}
theorem wpIn_rangeFunc_step{α:Type}{g:Operand}{ps:Array Tmp}{assign body:Code}{Q:Exit→Act→World→Prop}{a:Act}{w:World}
 (hro:F.round=none) (h1:1≤n) {gf:Nat} {lb:Array Value} (hg:a.eval g= .func (.func gf) #[] lb) (hFg:F.fn gf) (eg:∀ args w,(callFunc gf args).run P w= .ok (.enter gf args) w)
 {encs:α→Array Value} {Kp Step:World→World→Prop} {S:List α→Prop} {Ok:List α→α→Prop}
 (hseq:∀ (l:Nat) (J:List α→World→Prop) (W:World),Below w.heap.size w W→(∀s A B,J s A→Step A B→J s B)→
  (∀pre x W1,J pre W1→Ok pre x→YieldAt F (n-1-1) P l (encs x) W1 fun e W'=>e= .returned (.bool true)∧J (pre++[x]) W'∧Kp W1 W')→J [] W→
  CallsIn F (n-1) P gf (#[.func (.yield l) #[] #[]]++lb) W fun e W'=>(∃v,e= .returned v)∧∃ xs,S xs∧J xs W')
 (hKt:∀ {A B C:World},Kp A B→Kp B C→Kp A C) (hKb:∀ (W:World) (l:Nat) (o o':Obj),w.heap.size≤l→W.heap[l]? =some o→o.isCells=false→o.isWalk=false→Kp W (W.putObj l o'))
 (hps:∀ x,(encs x).size=ps.size) (hStep:∀ A B,Step A B→KeepsFrom w.heap.size A B)
 (I:List α→World→Prop) (hIs:∀ s A B,I s A→Step A B→I s B) (hIp:∀ s (A:World) (l:Nat) (o o':Obj),I s A→w.heap.size≤l→A.heap[l]? =some o→o.isCells=false→I s (A.putObj l o'))
 (hIa:∀ D,D=w.heap.size→∀ o,o.isCells=false→I [] ((w.alloc (.deferred (some []))).alloc o)) (Ax:α→Act→World→Prop) (hAx:∀ x a' (A:World) (l:Nat) (o o':Obj),Ax x a' A→w.heap.size≤l→A.heap[l]? =some o→o.isCells=false→Ax x a' (A.putObj l o'))
 (hassign:∀ (l:Nat) (pre:List α) (x:α) (W:World) (K:Act→World→Prop),I pre W→(∀a' W',KeepsFrom w.heap.size W W'→Kp W W'→I pre W'→Ax x a' W'→K a' W')→
  assign.wpIn (F.inRound l) (n-1-1) P (Exit.then K (fun _ _ _=>False)) {tmps:=(ps.zip (encs x)).foldl (fun t (p,v)=>t.setIfInBounds p v) a.tmps,defers:=[]} W)
 (hbody:∀ (l:Nat) (pre:List α) (x:α) (a':Act) (W:World),I pre W→Ax x a' W→Ok pre x→body.wpIn (F.inRound l) (n-1-1) P (ownPostG w.heap.size Kp I (fun _ _ _=>False) (pre++[x]) W) a' W)
 (hdone:∀ (D:Nat) (xs:List α) (W:World),w.heap.size≤D→S xs→I xs W→W.heap[D]? =some (.deferred (some []))→Q .normal {a with defers:={target:=.collected D,args:=#[]}::a.defers} W):
 (Code.rangeFunc g ps assign body).wpIn F n P Q a w:=by
 refine wpIn_rangeFunc ?_
 intro fn hfn
 rw[hro]
 obtain⟨rec,hrec⟩:∃ rec:LoopState→Option Code→Loop,rec=fun st pe=>{state:=st,pending:=pe,fn,tmps:=a.tmps,params:=ps,assign,body,defers:=w.heap.size}:=⟨_,rfl⟩
 obtain⟨W1,hW1⟩:∃ W1,(w.alloc (.deferred (some []))).alloc (.loop (rec .ready none))=W1:=⟨_,rfl⟩
 have hL1:W1.heap[w.heap.size+1]? =some (.loop (rec .ready none)):=by
  rw[←hW1];have:=World.alloc_heap_new (w.alloc (.deferred (some []))) (.loop (rec .ready none));rwa [World.size_alloc] at this
 have hK1:W1.heap[w.heap.size]? =some (.deferred (some [])):=by
  rw[←hW1];exact(Below.heap_alloc _ _ _ tE).trans (World.alloc_heap_new w _)
 have hI1:I [] W1:=by rw[←hW1];exact hIa _ rfl _ rfl
 have hb1:Below w.heap.size w W1:=by
  rw[←hW1];exact(((Below.refl _ w).alloc (Nat.le_refl _) _).alloc tE _)
 refine⟨w.heap.size+1,[{target:=.collected w.heap.size,args:=#[]}],W1,{target:=.fn (.func gf) lb,args:=#[.func (.yield (w.heap.size+1)) #[] #[]]},W1,gf,
  #[.func (.yield (w.heap.size+1)) #[] #[]]++lb,W1,?_,?_,?_,?_,fun _=>h1,?_⟩
 ·rw[←hW1,hrec];exact run_enterLoop_outer _ _ _ _ _
 ·simp only[resolve,hg]
  simp[go_sem]
 ·intro f' hf';simp[Target.leads] at hf';subst hf';exact hFg
 ·simp[invoke,go_sem,eg]
 ·refine(hseq (w.heap.size+1)
   (fun pre W=>I pre W∧W.heap[w.heap.size+1]? =some (.loop (rec .ready none))∧W.heap[w.heap.size]? =some (.deferred (some [])))
   W1 hb1
   (fun s A B hs hst=>⟨hIs s A B hs.1 hst,(hStep A B hst).same _ _ tB hs.2.1 rfl,(hStep A B hst).same _ _ (Nat.le_refl _) hs.2.2 rfl⟩)
   ?_ ⟨hI1,hL1,hK1⟩).mono ?_
  ·rintro pre x W ⟨hi,hl,hk⟩ hlen
   have hlt:w.heap.size+1<W.heap.size:=(Array.getElem?_eq_some_iff.1 hl).1
   have hy:=run_yield (P:=P) (args:=encs x) hl (by rw[hrec];exact hps x)
   rw[hrec] at hy
   refine⟨fn,_,assign,body,hy,roundIn_of_wpIn hfn (hassign _ pre x W _ hi ?_)⟩
   clear hy
   intro a' Wa hkfa hkpa hia hax
   replace hl:=hkfa.same _ _ tB hl rfl
   replace hk:=hkfa.same _ _ (Nat.le_refl _) hk rfl
   replace hlt:w.heap.size+1<Wa.heap.size:=(Array.getElem?_eq_some_iff.1 hl).1
   replace hi:=hia
   clear hia
   revert hkpa hkfa
   generalize W=Wb
   intro hkfa hkpa
   obtain⟨W,rfl⟩:∃ W,W=Wa:=⟨_,rfl⟩
   refine⟨_,run_beginRound hl (by rw[hrec]),?_⟩
   have hl2:(W.putObj (w.heap.size+1) (.loop {rec .ready none with state:=.busy})).heap[w.heap.size+1]? =some (.loop {rec .ready none with state:=.busy}):=World.putObj_heap_same hlt
   have hk2:(W.putObj (w.heap.size+1) (.loop {rec .ready none with state:=.busy})).heap[w.heap.size]? =some (.deferred (some [])):=(World.putObj_heap_other tB).trans hk
   have hw2:Kp W (W.putObj (w.heap.size+1) (.loop {rec .ready none with state:=.busy})):=hKb _ _ _ _ tB hl rfl rfl
   refine wpIn_mono (hbody _ pre x a' _ (hIp _ _ _ _ _ hi tB hl rfl) (hAx _ _ _ _ _ _ hax tB hl rfl) hlen) ?_
   have fin:∀ (jump:Option Code) (W3:World),KeepsFrom w.heap.size (W.putObj (w.heap.size+1) (.loop {rec .ready none with state:=.busy})) W3→
    (Instr.endRound (w.heap.size+1) jump).run P W3= .ok (.bool jump.isNone) (W3.putObj (w.heap.size+1) (.loop (rec (if jump.isNone then .ready else .done) jump)))∧
    W3.heap[w.heap.size+1]? =some (.loop {rec .ready none with state:=.busy})∧
    (W3.putObj (w.heap.size+1) (.loop (rec (if jump.isNone then .ready else .done) jump))).heap[w.heap.size+1]? =some (.loop (rec (if jump.isNone then .ready else .done) jump))∧
    (W3.putObj (w.heap.size+1) (.loop (rec (if jump.isNone then .ready else .done) jump))).heap[w.heap.size]? =some (.deferred (some [])):=fun jump W3 hk3=>by
    have hl3:=hk3.same _ _ tB hl2 rfl
    have:=run_endRound (P:=P) jump hl3
    rw[hrec] at this ⊢
    exact⟨this,by rw[hrec] at hl3;exact hl3,World.putObj_heap_same (Array.getElem?_eq_some_iff.1 hl3).1,(World.putObj_heap_other tB).trans (hk3.same _ _ (Nat.le_refl _) hk2 rfl)⟩
   rintro e a3 W3 hp
   cases e with
   | normal=>
    obtain⟨hk3,hkp3,hi3⟩:=hp
    obtain⟨hr,hl3,hl4,hk4⟩:=fin none W3 hk3
    exact⟨_,_,hr,rfl,⟨hIp _ _ _ _ _ hi3 tB hl3 rfl,hl4,hk4⟩,hKt (hKt (hKt hkpa hw2) hkp3) (hKb _ _ _ _ tB hl3 rfl rfl)⟩
   | ret=>exact hp.2.elim
   | exit id=>exact hp.2.elim
   | goto t=>exact hp.2.elim
   | panic ch=>exact hp.elim
   | outgrown=>exact hp.elim
  ·rintro e W2 ⟨⟨v,rfl⟩,xs,hS,hi,hl,hk⟩
   exact⟨none,_,by have:=run_endLoop (P:=P) hl (by rw[hrec];simp);rw[hrec] at this;exact this,hdone _ xs _ (Nat.le_refl _) hS (hIp _ _ _ _ _ hi tB hl rfl) ((World.putObj_heap_other tB).trans hk)⟩
def BStep(b:Nat)(A B:World):Prop:=Ext A B∨∃ v,B=A.setCell ⟨b,0,none⟩ v
theorem _root_.Go.Ext.keepsFrom{A B:World}(h:Ext A B)(N:Nat):KeepsFrom N A B:=by
 obtain⟨E,d,rfl⟩:=h
 exact⟨by simp[size_ext],fun k o _ hk _=>by rw[heap_ext _ _ _ _ (Array.getElem?_eq_some_iff.1 hk).1];exact hk⟩
theorem BStep.keepsFrom{b:Nat}{A B:World}(h:BStep b A B)(N:Nat):KeepsFrom N A B:=by
 rcases h with h|⟨v,rfl⟩
 ·exact h.keepsFrom N
 ·exact(KeepsOthers.setCell _ _ _).from N
theorem OwnR.keep{N:Nat}{W W':World}{v:Value}{l:List Rec}(h:OwnR N W v l)(hk:∀ k,N≤k→k<W.heap.size→W'.heap[k]? =W.heap[k]?):OwnR N W' v l:=by
 refine⟨h.1,?_⟩
 rcases h.2 with h0|⟨g,cap,cur,hv,hb,hh,hr⟩
 ·exact .inl h0
 ·exact .inr ⟨g,cap,cur,hv,hb,by rw[hk g hb (Array.getElem?_eq_some_iff.1 hh).1];exact hh,hr⟩
theorem OwnR.nil(N:Nat)(W:World):OwnR N W (.slice Option.none 0 0) []:=⟨by simp,.inl ⟨rfl,rfl⟩⟩
set_option maxRecDepth 100000 in
theorem OwnR.putObj{N:Nat}{W:World}{v:Value}{l:List Rec}(h:OwnR N W v l){k:Nat}{o:Obj}(hk:W.heap[k]? =some o)(ho:o.isCells=false)(o':Obj):OwnR N (W.putObj k o') v l:=by
 refine⟨h.1,?_⟩
 rcases h.2 with h0|⟨g,cap,cur,hv,hb,hh,hr⟩
 ·exact .inl h0
 ·refine .inr ⟨g,cap,cur,hv,hb,?_,hr⟩
  rw[World.putObj_heap_other,hh]
  rintro rfl
  rw[hk] at hh
  exact absurd (Option.some.inj hh) (by rintro rfl;cases ho)
set_option maxRecDepth 100000 in
theorem append_recK{W:World}{N:Nat}(ty:TypeId){v:Value}{l news:List Rec}(hN:N≤W.heap.size)(hown:OwnR N W v l){ad:Addr}{m c:Nat}(hm:m=news.length)(hr:Sl 11 W (some ad) m (news.flatMap encRec))(h0:0<m)(hlen:l.length+news.length≤1000000):
 ∃v' W',(Builtin.append_ #[32,32] ty #[v,.slice (some ad) m c]).run Tryz.prog W= .ok v' W'∧Below N W W'∧KeepsFrom N W W'∧OwnR N W' v' (l++news):=by
 obtain⟨i0,hi,hz0,hz1,hz2⟩:=info_parts info_rec
 have hcells:∀ j u,(news.flatMap encRec)[j]? =some u→W.cell? (ad.add j)=some u:=by
  intro j u hu
  obtain⟨g,o',h,hg,hc⟩:=hr.2 h0
  injection h with h
  subst h
  rw[←hc j u hu]
  unfold Addr.add
  by_cases hj:j=0
  ·subst hj;rfl
  ·rw[if_neg hj]
 obtain⟨v',w',hrun,h2,h3,_,_⟩:=run_append_own_at (P:=Tryz.prog) W N 32 ty 46 i0 _ 11 96 Tryz.underlying32 hi hz0 hz1 hz2 rfl tN v _ _ hown ad m c _ hr.1 hcells (encRec_one _) tO tB hN
 refine⟨v',w',hrun,(Below.refl N W).grown h3 hN (own_base hown),⟨h3.size,?_⟩,?_⟩
 ·intro k o _ hk ho
  refine(h3.block k (Array.getElem?_eq_some_iff.1 hk).1 ?_).trans hk
  intro e
  rcases hown.2 with⟨hv,_⟩|⟨g,cap,cur,hv,hb,hh,hr⟩
  ·rw[hv] at e;cases e
  ·rw[hv] at e
   simp only[Value.ownBlock,Option.some.injEq] at e
   subst e
   rw[hk] at hh
   cases hh
   cases ho
 ·unfold OwnR
  rw[List.length_append,List.flatMap_append,←hm]
  exact h2
theorem wpListIn_arecK{F:Fence}{n:Nat}{P:Program}(hP:P=Tryz.prog){ops:Array Oper}{rest:List Oper}{o:Oper}{a:Act}{Q:Exit→Act→World→Prop}{W:World}(N:Nat)(hgd:o.guard=none)(s x:Operand)
 (ho:o.op= .call {callee:=.builtin .append,args:=#[s,x],argTypes:=#[32,32]}) {v:Value} {l:List Rec} (news:List Rec) (hs:a.eval s=v) (hN:N≤W.heap.size) (hown:OwnR N W v l)
 {ad:Addr} {m c:Nat} (hv:a.eval x= .slice (some ad) m c) (hm:m=news.length) (hr:Sl 11 W (some ad) m (news.flatMap encRec)) (h0:0<m) (hlen:l.length+news.length≤1000000)
 (h:∀ v' W',Below N W W'→KeepsFrom N W W'→OwnR N W' v' (l++news)→wpListIn F n P ops Q rest (a.put o.dst v') W'):wpListIn F n P ops Q (o::rest) a W:=by
 obtain⟨v',W',h1,h2,h3,h4⟩:=append_recK o.type hN hown (c:=c) hm hr h0 hlen
 rw[←hP] at h1
 refine wpListIn_plain hgd fun K hK=> ?_
 unfold Oper.wpIn
 refine⟨by simp[Oper.about,ho,resolve,Target.leads,Sem.run_pure],?_⟩
 rw[Oper.semAt_plain F _ _ (by rw[ho];intro c hc';cases hc')]
 simp[execOp,ho,resolve,invoke,builtin,hs,hv,h1,Result.andThen]
 exact hK _ _ (h v' W' h2 h3 h4)
end Go.Proofs.YtekjdeibnfaehaaGreat
namespace Go.Proofs.YtekjdeibnfaehaaGreat
open Go Go.RowKit
attribute [local go_sem] Oper.semAt_some
theorem run_slice_mid{A:Option Addr}{n c l h:Nat}(hl:l≤h)(hh:h≤c)(w:World):(Instr.slice 22 (.slice A n c) (some (.int .i64 l)) (some (.int .i64 h)) none).run Tryz.prog w= .ok (.slice (cutA A c l) (h-l) (c-l)) w:=by
 have hi:=size_u8
 by_cases hc:c=l
 ·obtain rfl:h=c:=by omega
  subst hc
  simp[Instr.slice,run_underlying Tryz.underlying22,Instr.sliceBounds,run_sliceBound,hi,cutA]
 ·simp[Instr.slice,run_underlying Tryz.underlying22,Instr.sliceBounds,run_sliceBound,hl,hh,hi,cutA,hc]
theorem _root_.Go.Ext.of_below2{w W W':World}(h:Ext w W)(hb:Below w.heap.size W W'):Ext w W':=Ext.of_below (h.below.trans hb)
def KpB(N b:Nat)(W W':World):Prop:=Below N W W'∧W'.cell? ⟨b,0,none⟩=W.cell? ⟨b,0,none⟩∧W'.frozen? ⟨b,0,none⟩=W.frozen? ⟨b,0,none⟩
def boxLen(W:World)(b:Nat):Nat:=match W.cell? ⟨b,0,none⟩ with
 | some (.slice _ n _)=>n
 | _=>0
theorem boxLen_eq{W:World}{b n c:Nat}{A:Option Addr}(h:W.cell? ⟨b,0,none⟩=some (.slice A n c)):boxLen W b=n:=by
 unfold boxLen;rw[h]
set_option maxRecDepth 100000 in
set_option maxHeartbeats 4000000 in
theorem frames1_in(l Bb:Nat)(A:Option Addr)(n c:Nat)(L:List UInt8)(w:World)(J:List Rec→World→Prop)(hJ:∀ s X Y,J s X→BStep Bb X Y→J s Y)
 (hL:L.length=n) (hn10:10≤n) (hnc:n≤c) (hbig:c≤9223372036854775807) (hb:Byt w A L) (hBb:w.heap.size≤Bb)
 (hY:∀ pre x W,J pre W→pre.length<(framesL (L.drop 10)).length→YieldAt Fence.wide 1 Tryz.prog l #[recV x] W fun e W'=>e= .returned (.bool true)∧J (pre++[x]) W'∧KpB w.heap.size Bb W W')
 (W:World) (hx:Ext w W) (hBW:Bb<W.heap.size) (hc:W.cell? ⟨Bb,0,none⟩=some (.slice A n c)) (hf:W.frozen? ⟨Bb,0,none⟩=false) (h0:J [] W):
 CallsIn Fence.wide 2 Tryz.prog 152 #[.func (.yield l) #[] #[],.pointer (some ⟨Bb,0,none⟩)] W fun e W'=>(∃v,e= .returned v)∧∃ ys,ys=framesL (L.drop 10)∧J ys W':=by
 have hsl:∀ W:World,(Instr.slice 22 (.slice A n c) (some (.int .i64 10)) none none).run Tryz.prog W= .ok (.slice (cutA A c 10) (n-10) (c-10)) W:=fun W=>run_slice_from (k:=10) hn10 hnc W
 refine callsIn_of_wp Tryz.func152 rfl trivial ?_ rfl
 simp only[Tryz.ntmps152,List.size_toArray,List.length_cons,List.length_nil,Nat.reduceAdd,Nat.reduceSub,Array.replicate_succ,Array.replicate_zero,List.push_toArray,List.append_toArray,List.nil_append,List.cons_append]
 gi_wp2
 gi_loopw [] (fun wr=> ∃(pre:List Rec) (A':Option Addr) (n' c':Nat) (rest:List UInt8),wr.cell? ⟨Bb,0,none⟩=some (.slice A' n' c')∧wr.frozen? ⟨Bb,0,none⟩=false∧Bb<wr.heap.size∧rest.length=n'∧n'≤c'∧c'≤9223372036854775807∧Byt w A' rest∧
  framesL (L.drop 10)=pre++framesL rest∧Ext w wr∧J pre wr) (fun wr=>boxLen wr Bb)
 case atStart=>
  refine⟨[],cutA A c 10,n-10,c-10,L.drop 10,?_,?_,by simpa using hBW,by rw[List.length_drop,hL],by omega,by omega,hb.cut tB tB,rfl,?_,hJ _ _ _ h0 (.inr ⟨_,rfl⟩)⟩
  ·exact World.cell?_setCell_same' _ _ _ (by rw[hc];rfl)
  ·rw[World.frozen?_setCell];exact hf
  ·exact hx.of_below2 ((Below.refl _ W).setCell (p:=⟨Bb,0,none⟩) hBb _)
 case round=>
  obtain⟨pre,A',n',c',rest,hc',hf',hBw,hl',hnc',hbig',hb',hfr,hx',hJ'⟩:=hrel
  cases rest with
  | nil=>
   obtain rfl:n'=0:=by simpa using hl'.symm
   gi_wp2
   go_end0
   exact⟨⟨_,rfl⟩,pre,by rw[hfr];simp[framesL_nil],hJ'⟩
  | cons b t=>
   obtain⟨g,o,rfl,hg,h0'⟩:=hb'.at_ (i:=0) tE
   have hcell:wr.cell? ⟨g,o,none⟩=some (.int .u8 (b.toNat:Int)):=(Ext.cellOf hx' hg).trans h0'
   have hgr:g<wr.heap.size:=Nat.lt_of_lt_of_le hg hx'.below.size
   have hBg:¬g=Bb:=by omega
   have hn1:t.length+1=n':=hl'
   obtain⟨k,hk⟩:∃ k,b.toNat=k:=⟨_,rfl⟩
   have hk256:k<256:=hk▸b.toNat_lt
   rw[hk] at hcell
   by_cases hle:n'≤k
   ·have hF:Hid (framesL (L.drop 10)=pre):=hid (by rw[hfr,framesL_short (by rw[hk];omega)];simp)
    clear hfr
    gi_wp2
    refine bodyPost_ret (results_none rfl _ _ _) rfl ?_
    exact⟨⟨_,rfl⟩,pre,hF.out.symm,hJ'⟩
   ·have hkn:1+k≤n':=by omega
    have hms:∀ W:World,(Instr.slice 22 (.slice (some ⟨g,o,none⟩) n' c') (some (.int .i64 1)) (some (.int .i64 (1+(k:Int)))) none).run Tryz.prog W= .ok (.slice (cutA (some ⟨g,o,none⟩) c' 1) k (c'-1)) W:=fun W=>by
     have h:=run_slice_mid (A:=some ⟨g,o,none⟩) (n:=n') (c:=c') (l:=1) (h:=1+k) tB tB W
     rw[show 1+k-1=k from by omega] at h
     simpa using h
    have hbt:Byt w (cutA (some ⟨g,o,none⟩) c' 1) (t.take k):=by
     have h:=(hb'.cut (c:=c') (k:=1) tE tA).take k tA
     exact h
    have hlt:(t.take k).length=k:=by rw[List.length_take];omega
    cases hok:decOk (t.take k) with
    | false=>
     have hF:Hid (framesL (L.drop 10)=pre):=hid (by rw[hfr,framesL_bad (by rw[hk];exact hok)];simp)
     have Hok:=hid hok
     clear hfr hok
     gi_wp2_with (refine⟨trivial,?_⟩;gi_at_call 153;refine(callsIn_wide.2 (recordOf_any _ _ _ (t.take k) hlt tB tB _ (hbt.of_ext hx'))).mono ?_;rintro e w1 ⟨rfl,E,d,rfl⟩;rw[Hok.out])
     refine⟨fun _ h=>(by cases h),?_⟩
     gi_wp2
     refine bodyPost_ret (results_none rfl _ _ _) rfl ?_
     exact⟨⟨_,rfl⟩,pre,hF.out.symm,hJ _ _ _ hJ' (.inl exI)⟩
    | true=>
     have hv:decV (t.take k)=decR (t.take k):=by rw[decV,hok];rfl
     have hF:Hid (framesL (L.drop 10)=pre++(decR (t.take k)::framesL (t.drop k))):=hid (by rw[hfr,framesL_some tB (by rw[hk];exact hok),hk])
     have Hok:=hid hok
     have hpl:pre.length<(framesL (L.drop 10)).length:=by rw[hF.out];simp
     obtain⟨x,hxr⟩:∃ x,decR (t.take k)=x:=⟨_,rfl⟩
     have Hv:Hid (decV (t.take k)=x):=hid (by rw[hv,hxr])
     rw[hxr] at hF
     clear hfr hok hv hxr
     gi_wp2_with (refine⟨trivial,?_⟩;gi_at_call 153;refine(callsIn_wide.2 (recordOf_any _ _ _ (t.take k) hlt tB tB _ (hbt.of_ext hx'))).mono ?_;rintro e w1 ⟨rfl,E,d,rfl⟩;rw[Hok.out,Hv.out];obtain⟨fn,tmps,assign,body,hy,hR⟩:=hY pre x ((wr.ext E d).alloc (.cells #[.int .i64 x.ao,.int .i64 x.sq,.int .i64 x.kind,.int .i64 x.ship,.int .i64 x.day,.int .i64 x.known,.int .i64 x.wo,.int .i64 x.ws,.int .i64 x.to,.int .i64 x.til,.string x.text] 46)) (hJ _ _ _ hJ' (.inl exI)) hpl;replace hy:(Instr.yield l #[.agg #[.int .i64 x.ao,.int .i64 x.sq,.int .i64 x.kind,.int .i64 x.ship,.int .i64 x.day,.int .i64 x.known,.int .i64 x.wo,.int .i64 x.ws,.int .i64 x.to,.int .i64 x.til,.string x.text]]).run Tryz.prog ((wr.ext E d).alloc (.cells #[.int .i64 x.ao,.int .i64 x.sq,.int .i64 x.kind,.int .i64 x.ship,.int .i64 x.day,.int .i64 x.known,.int .i64 x.wo,.int .i64 x.ws,.int .i64 x.to,.int .i64 x.til,.string x.text] 46))= .ok (.round l fn tmps assign body) ((wr.ext E d).alloc (.cells #[.int .i64 x.ao,.int .i64 x.sq,.int .i64 x.kind,.int .i64 x.ship,.int .i64 x.day,.int .i64 x.known,.int .i64 x.wo,.int .i64 x.ws,.int .i64 x.to,.int .i64 x.til,.string x.text] 46)):=hy)
     refine hR.mono ?_
     rintro e W3 ⟨rfl,hJ3,hkp⟩
     have hc3:W3.cell? ⟨Bb,0,none⟩=some (.slice (some ⟨g,o,none⟩) n' c'):=hkp.2.1.trans (by rw[Ext.cellOf (w:=wr) exI hBw];exact hc')
     have hf3:W3.frozen? ⟨Bb,0,none⟩=false:=hkp.2.2.trans tI
     have hx3:Ext w W3:=Ext.of_below2 (hx'.trans exI) hkp.1
     have hBw3:Bb<W3.heap.size:=Nat.lt_of_lt_of_le tA hkp.1.size
     clear hkp
     have hs2:∀ W:World,(Instr.slice 22 (.slice (some ⟨g,o,none⟩) n' c') (some (.int .i64 (1+(k:Int)))) none none).run Tryz.prog W= .ok (.slice (cutA (some ⟨g,o,none⟩) c' (1+k)) (n'-(1+k)) (c'-(1+k))) W:=fun W=>by
      have h:=run_slice_from (A:=some ⟨g,o,none⟩) (n:=n') (c:=c') (k:=1+k) tB tB W
      simpa using h
     gi_wp2
     go_roundw
     case rel=>
      refine⟨pre++[x],cutA (some ⟨g,o,none⟩) c' (1+k),n'-(1+k),c'-(1+k),t.drop k,?_,?_,by simpa using hBw3,by rw[List.length_drop];omega,by omega,by omega,?_,by rw[hF.out];simp,?_,hJ _ _ _ hJ3 (.inr ⟨_,rfl⟩)⟩
      ·exact World.cell?_setCell_same' _ _ _ (by rw[hc3];rfl)
      ·rw[World.frozen?_setCell];exact hf3
      ·have h:=hb'.cut (c:=c') (k:=1+k) tA tA
       rwa [Nat.add_comm 1 k,List.drop_succ_cons,Nat.add_comm k 1] at h
      ·exact hx3.of_below2 ((Below.refl _ W3).setCell (p:=⟨Bb,0,none⟩) hBb _)
     case measure=>
      rw[boxLen_eq hc',boxLen_eq (World.cell?_setCell_same' _ _ _ (by rw[hc3];rfl))]
      omega
end Go.Proofs.YtekjdeibnfaehaaGreat
