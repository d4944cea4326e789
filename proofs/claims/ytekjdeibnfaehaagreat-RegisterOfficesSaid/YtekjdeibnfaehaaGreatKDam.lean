/- Texts of a proof. -/
import Derived.Test.YtekjdeibnfaehaaGreatKDah
import Derived.Test.YtekjdeibnfaehaaGreatKDal
set_option linter.unusedSimpArgs false
set_option linter.unusedVariables false
namespace Go.Proofs.YtekjdeibnfaehaaGreat
open Go Go.RowKit
attribute [local go_sem] Oper.semAt_some
def pgG(b:List UInt8):Int:=if isHead b=true then genB b else 0
def pgC(b:List UInt8):Int:=if isHead b=true then cntB b else 0
def pgR(b:List UInt8):List Rec:=if isHead b=true then recsB b else[]
theorem isHead_of_page{b:List UInt8}(h:pageOk b=true):isHead b=true:=by
 simp only[pageOk,Bool.and_eq_true] at h
 exact h.1.1
theorem pgG_ok{b:List UInt8}(h:pageOk b=true):pgG b=genB b:=by rw[pgG,isHead_of_page h];rfl
theorem pgC_ok{b:List UInt8}(h:pageOk b=true):pgC b=cntB b:=by rw[pgC,isHead_of_page h];rfl
theorem pgR_ok{b:List UInt8}(h:pageOk b=true):pgR b=recsB b:=by rw[pgR,isHead_of_page h];rfl
theorem pg_no{b:List UInt8}(h:isHead b=false):pgG b=0∧pgC b=0∧pgR b=[]∧pageOk b=false:=by
 rw[pgG,pgC,pgR,pageOk,h];exact⟨rfl,rfl,rfl,rfl⟩
set_option maxRecDepth 100000 in
set_option maxHeartbeats 1000000 in
theorem frames_any(A:Option Addr)(n c:Nat)(w:World):
 Calls Tryz.prog 119 #[.slice A n c] w fun e w'=>e= .returned (.func (.func 152) #[] #[.pointer (some ⟨w.heap.size,0,none⟩)])∧w'=w.alloc (.cells #[.slice A n c] 22):=by
 have hmf:∀ (fn:Fn) (first cap:Array Value) (w:World),(Instr.makeFunc fn first cap).run Tryz.prog w= .ok (.func fn first cap) w:=fun _ _ _ _=>rfl
 go_enter Tryz.func119,Tryz.ntmps119
 go_wp2_with fail
 go_ret
 exact⟨rfl,rfl⟩
theorem moor_eq(L:List UInt8):(L.take 4==[109,111,111,114])=decide (L.take 4=moorB):=by
 rw[Bool.eq_iff_iff,beq_iff_eq,decide_eq_true_iff];rfl
theorem isHead_eq{b:List UInt8}{n:Nat}(h:b.length=n):isHead b=(decide (10≤n)&&decide (b.take 4=moorB)):=by subst h;rfl
structure PgI(w:World)(G C:Int)(l:List Rec)(W:World):Prop where
 ext:Ext (w.alloc (.cells #[.int .i64 0,.int .i64 0,.slice none 0 0] 114)) W
 size:w.heap.size+4≤W.heap.size
 c0:W.cell? ⟨w.heap.size+1+1,0,none⟩=some (.int .i64 G)
 c1:W.cell? ⟨w.heap.size+1+1,1,none⟩=some (.int .i64 C)
 own:∃ v,W.cell? ⟨w.heap.size+1+1,2,none⟩=some v∧OwnR (w.heap.size+4) W v l
 f:W.frozen? ⟨w.heap.size+1+1,2,none⟩=false
theorem PgI.keep{w W W':World}{G C:Int}{l:List Rec}(h:PgI w G C l W)(hB:Below (w.heap.size+1) W W')(hk:∀ k,w.heap.size+1≤k→k≠w.heap.size+3→(∃o:Obj,W.heap[k]? =some o∧o.isCells=true)→W'.heap[k]? =W.heap[k]?):PgI w G C l W':=by
 have hp:W'.heap[w.heap.size+1+1]? =W.heap[w.heap.size+1+1]? :=hk _ tB tB (cells_of_cell h.c0)
 have hc:∀ j,W'.cell? ⟨w.heap.size+1+1,j,none⟩=W.cell? ⟨w.heap.size+1+1,j,none⟩:=fun j=>World.cell?_of_block hp
 have hf:∀ j,W'.frozen? ⟨w.heap.size+1+1,j,none⟩=W.frozen? ⟨w.heap.size+1+1,j,none⟩:=fun j=>World.frozen?_of_block hp
 obtain⟨v,hv,ho⟩:=h.own
 refine⟨Ext.of_below (h.ext.below.trans (by rw[World.size_alloc];exact hB)),Nat.le_trans h.size hB.size,(hc 0).trans h.c0,(hc 1).trans h.c1,⟨v,(hc 2).trans hv,?_⟩,(hf 2).trans h.f⟩
 refine⟨ho.1,?_⟩
 rcases ho.2 with h0|⟨g,cap,cur,hv,hb,hh,hr⟩
 ·exact .inl h0
 ·exact .inr ⟨g,cap,cur,hv,hb,by rw[hk g tB tB ⟨_,hh,rfl⟩];exact hh,hr⟩
theorem PgI.of_ext{w W W':World}{G C:Int}{l:List Rec}(h:PgI w G C l W)(hx:Ext W W'):PgI w G C l W':=by
 have hs:=h.size
 refine h.keep (hx.below.mono tB) fun k _ _ ⟨o,ho,_⟩=> ?_
 exact hx.below.block k (Array.getElem?_eq_some_iff.1 ho).1
theorem PgI.step{w W W':World}{G C:Int}{l:List Rec}(h:PgI w G C l W)(hst:BStep (w.heap.size+1+1+1) W W'):PgI w G C l W':=by
 rcases hst with hx|⟨v,rfl⟩
 ·exact h.of_ext hx
 ·exact h.keep ((Below.refl _ W).setCell (p:=⟨w.heap.size+1+1+1,0,none⟩) (by show w.heap.size+1≤w.heap.size+1+1+1;omega) v) fun k _ h3 _=>Below.heap_setCell _ _ _ _ tA
theorem PgI.put{w W:World}{G C:Int}{l:List Rec}(h:PgI w G C l W){k:Nat}{o:Obj}(hk:w.heap.size+4≤k)(ho:W.heap[k]? =some o)(hc:o.isCells=false)(o':Obj):PgI w G C l (W.putObj k o'):=by
 have hs:=h.size
 refine h.keep ((Below.refl _ W).grown (grownBy_putObj' W k o') tB (fun j e=>by cases e;omega)) fun j _ _ ⟨o2,ho2,hc2⟩=>World.putObj_heap_other ?_
 rintro rfl
 rw[ho] at ho2
 cases ho2
 rw[hc] at hc2
 cases hc2
def pgAct(A:Option Addr)(n c:Nat)(L:List UInt8)(w:World)(G C:Int)(x:Rec)(Bx:Nat):Act:={tmps:=#[Value.slice A n c,undef,Value.pointer (some {block:=w.heap.size,off:=0}),Value.bool false,Value.pointer (some {block:=w.heap.size+1,off:=0}),Value.pointer (some {block:=w.heap.size+1+1,off:=0}),Value.pointer (some {block:=Bx,off:=0}),Value.slice A n c,Value.int IntKind.i64 ↑n,Value.bool (decide ((n:Int)<10)),Value.bool (decide ((n:Int)<10)),Value.slice A n c,Value.slice A 4 c,Value.string {data:=(List.take 4 L).toArray},Value.bool false,Value.bool (decide ((n:Int)<10)),undef,Value.slice A n c,Value.slice (cutA A c 4) 6 (c-4),Value.agg #[Value.slice (cutA A c 4) 6 (c-4)],Value.pointer (some {block:=w.heap.size+1,off:=0}),Value.pointer (some {block:=w.heap.size+1,off:=0}),Value.int IntKind.i64 G,Value.pointer (some {block:=w.heap.size+1,off:=0}),Value.int IntKind.i64 C,Value.agg #[Value.int IntKind.i64 G,Value.int IntKind.i64 C,Value.slice none 0 0],Value.slice A n c,Value.func (Fn.func 152) #[] #[Value.pointer (some {block:=w.heap.size+1+1+1,off:=0})],recV x,undef,undef,undef,undef,undef,undef,undef,undef,undef,undef,undef,undef,undef,undef,undef,undef,undef,undef],defers:=[]}
set_option maxRecDepth 100000 in
set_option maxHeartbeats 8000000 in
theorem pageOf_any(A:Option Addr)(n c:Nat)(L:List UInt8)(hL:L.length=n)(hnc:n≤c)(hbig:c≤9223372036854775807)(hn:n≤100000)(w:World)(hb:Byt w A L):
 Calls Tryz.prog 64 #[.slice A n c] w fun e w'=> ∃A' n' c',e= .returned (.tuple #[.agg #[.int .i64 (pgG L),.int .i64 (pgC L),.slice A' n' c'],.bool (pageOk L)])∧
  Hid (n'=(pgR L).length)∧OwnR w.heap.size w' (.slice A' n' c') (pgR L)∧Ext w w':=by
 have hhe:=isHead_eq hL
 by_cases h10:n<10
 ·rw[show decide (10≤n)=false from decide_eq_false tB] at hhe
  obtain⟨h1,h2,h3,h4⟩:=pg_no (b:=L) (by rw[hhe];rfl)
  have H1:=hid h1
  have H2:=hid h2
  have H3:=hid h3
  have H4:=hid h4
  clear h1 h2 h3 h4 hhe
  refine(callsIn_wide (n:=3)).1 (callsIn_of_wp_marks Tryz.func64 rfl trivial (wpIn_wide.2 ?_) rfl)
  simp only[Tryz.ntmps64,List.size_toArray,List.length_cons,List.length_nil,Nat.reduceAdd,Nat.reduceSub,Array.replicate_succ,Array.replicate_zero,List.push_toArray,List.append_toArray,List.nil_append,List.cons_append]
  go_wp2_with fail
  exact⟨.tuple #[.agg #[.int .i64 0,.int .i64 0,.slice none 0 0],.bool false],by simp[results,Tryz.results64,go_sem],none,0,0,by rw[H1.out,H2.out,H4.out],hid (by rw[H3.out];rfl),by rw[H3.out];exact OwnR.nil _ _,exI⟩
 ·have h10':10≤n:=by omega
  have hcv:∀ o,(convert 22 9 (.slice A 4 c)).run Tryz.prog (w.alloc o)= .ok (.string ⟨(L.take 4).toArray⟩) (w.alloc o):=by
   intro o
   have h:=run_of_bytes ((hb.take 4 tB).alloc o) c
   rwa [show(L.take 4).length=4 from by rw[List.length_take];omega] at h
  have hmq:=moor_eq L
  rw[show decide (10≤n)=true from decide_eq_true h10',Bool.true_and,←hmq] at hhe
  clear hmq
  have hsl:∀ W:World,(Instr.slice 22 (.slice A n c) (some (.int .i64 4)) (some (.int .i64 10)) none).run Tryz.prog W= .ok (.slice (cutA A c 4) 6 (c-4)) W:=fun W=>run_slice_mid (l:=4) (h:=10) tB tB W
  cases hm:(L.take 4==[109,111,111,114]) with
  | false=>
   rw[hm] at hhe
   obtain⟨h1,h2,h3,h4⟩:=pg_no (b:=L) hhe
   have H1:=hid h1
   have H2:=hid h2
   have H3:=hid h3
   have H4:=hid h4
   clear h1 h2 h3 h4 hhe
   refine(callsIn_wide (n:=3)).1 (callsIn_of_wp_marks Tryz.func64 rfl trivial (wpIn_wide.2 ?_) rfl)
   simp only[Tryz.ntmps64,List.size_toArray,List.length_cons,List.length_nil,Nat.reduceAdd,Nat.reduceSub,Array.replicate_succ,Array.replicate_zero,List.push_toArray,List.append_toArray,List.nil_append,List.cons_append]
   go_wp2_with fail
   exact⟨.tuple #[.agg #[.int .i64 0,.int .i64 0,.slice none 0 0],.bool false],by simp[results,Tryz.results64,go_sem],none,0,0,by rw[H1.out,H2.out,H4.out],hid (by rw[H3.out];rfl),by rw[H3.out];exact OwnR.nil _ _,exI⟩
  | true=>
   rw[hm] at hhe
   have HH:=hid hhe
   clear hhe
   have hb4:Byt w (cutA A c 4) ((L.drop 4).take 6):=(hb.cut (c:=c) (k:=4) tB tB).take 6 tU
   have hl4:((L.drop 4).take 6).length=6:=by rw[List.length_take,List.length_drop];omega
   have hb8:Byt w (cutA (cutA A c 4) (c-4) 4) (((L.drop 4).take 6).drop 4):=hb4.cut (c:=c-4) (k:=4) tB tB
   have hA4:∀ a,cutA A c 4=some a→a.block<w.heap.size+1:=fun a h=>Nat.lt_succ_of_lt (hb4.block tB a h)
   have hA8:=cutA_block (c:=c-4) (k:=4) hA4
   refine(callsIn_wide (n:=3)).1 (callsIn_of_wp_marks Tryz.func64 rfl trivial (wpIn_wide.2 ?_) rfl)
   simp only[Tryz.ntmps64,List.size_toArray,List.length_cons,List.length_nil,Nat.reduceAdd,Nat.reduceSub,Array.replicate_succ,Array.replicate_zero,List.push_toArray,List.append_toArray,List.nil_append,List.cons_append]
   go_wp2_with fail
   refine(rnum_i (cutA A c 4) (c-4) 6 _ 4 ((L.drop 4).take 6) hl4 tB tB tB tB tB _ tI tI ((hb4.alloc _).alloc _) hA4).mono ?_
   rintro e w1 ⟨rfl,rfl⟩
   go_wp2_with fail
   refine(rnum_i (cutA (cutA A c 4) (c-4) 4) (c-4-4) 2 _ 2 (((L.drop 4).take 6).drop 4) (by rw[List.length_drop,hl4]) tB tB tB tB tB _ tI tI ((hb8.alloc _).alloc _) hA8).mono ?_
   rintro e w1 ⟨rfl,rfl⟩
   have hgen:Hid (valB (((L.drop 4).take 6).take 4)=pgG L):=hid (by rw[pgG,HH.out,List.take_take];rfl)
   have hcnt:Hid (valB ((((L.drop 4).take 6).drop 4).take 2)=pgC L):=hid (by rw[pgC,HH.out,List.drop_take,List.take_take,List.drop_drop];rfl)
   go_wp2_with (go_at_call 119;refine(frames_any _ _ _ _).mono ?_;rintro e w1 ⟨rfl,rfl⟩)
   rw[hgen.out,hcnt.out]
   refine(wpIn_wide (n:=3)).1 ?_
   refine wpIn_rangeFunc_step rfl tB (gf:=152) (lb:=#[.pointer (some ⟨w.heap.size+1+1+1,0,none⟩)]) rfl trivial (enters_of Tryz.func152 tG rfl) (encs:=fun x:Rec=> #[recV x])
    (Kp:=KpB w.heap.size (w.heap.size+1+1+1)) (Step:=BStep (w.heap.size+1+1+1)) (S:=fun ys=>ys=framesL (L.drop 10)) (Ok:=fun pre _=>pre.length<(framesL (L.drop 10)).length) ?hseq ?hKt ?hKb (fun _=>rfl) (fun A B h=>h.keepsFrom _)
    (PgI w (pgG L) (pgC L)) (fun s X Y h hst=>h.step hst) ?hIp ?hIa (fun x a' W=> ∃Bx,w.heap.size+4≤Bx∧W.heap[Bx]? =some (.cells (encRec x).toArray 46)∧a'=pgAct A n c L w (pgG L) (pgC L) x Bx) ?hAx ?hassign ?hbody ?hdone
   case hseq=>
    intro l J W hW hJ hY h0
    have hbb:Below w.heap.size w W:=(Ext.below (w:=w) exI).trans (hW.mono tA)
    refine frames1_in l (w.heap.size+1+1+1) A n c L w J hJ hL h10' hnc hbig hb tB hY W (Ext.of_below hbb) (Nat.lt_of_lt_of_le tE hW.size) ((hW.cell tE).trans tI) ((hW.frozen tE).trans tI) h0
   case hKt=>
    intro X Y Z h h'
    exact⟨h.1.trans h'.1,h'.2.1.trans h.2.1,h'.2.2.trans h.2.2⟩
   case hKb=>
    intro W l o o' hl ho hoc _
    simp only[World.size_alloc] at hl
    have hls:=(Array.getElem?_eq_some_iff.1 ho).1
    exact⟨(Below.refl _ W).grown (grownBy_putObj' W l o') tB (fun k e=>by cases e;omega),World.cell?_of_block (World.putObj_heap_other (by show w.heap.size+1+1+1≠l;omega)),World.frozen?_of_block (World.putObj_heap_other (by show w.heap.size+1+1+1≠l;omega))⟩
   case hIp=>
    intro s X l o o' hi hl ho hc
    simp only[World.size_alloc] at hl
    exact hi.put hl ho hc o'
   case hIa=>
    intro D hD o ho
    have h0:PgI w (pgG L) (pgC L) [] ((((w.alloc (.cells #[.int .i64 0,.int .i64 0,.slice none 0 0] 114)).alloc (.cells #[.slice (cutA (cutA (cutA A c 4) (c-4) 4) (c-4-4) 2) 0 (c-4-4-2)] 171)).alloc
     (.cells #[.int .i64 (pgG L),.int .i64 (pgC L),.slice none 0 0] 114)).alloc (.cells #[.slice A n c] 22)):=
     ⟨exI,by simp,by go_simp,by go_simp,⟨.slice none 0 0,by go_simp,OwnR.nil _ _⟩,by go_simp⟩
    exact h0.of_ext exI
   case hAx=>
    rintro x a' W l o o' ⟨Bx,h1,h2,h3⟩ hl ho hc
    refine⟨Bx,h1,?_,h3⟩
    rw[World.putObj_heap_other,h2]
    rintro rfl
    rw[ho] at h2
    cases h2
    cases hc
   case hassign=>
    intro l pre x W K hi hK
    gi_wp2
    have hs:=hi.size
    have hs3:w.heap.size+1+1+1<W.heap.size:=by omega
    exact hK _ _ ((KeepsOthers.alloc _ _).from _) ⟨(Below.refl _ W).alloc tB _,by go_simp,by go_simp⟩ (hi.of_ext exI) ⟨W.heap.size,by omega,World.alloc_heap_new W _,rfl⟩
   case hbody=>
    rintro l pre x a' W hi ⟨Bx,hBx,hh,rfl⟩ hlt
    obtain⟨v,hc2,hown⟩:=hi.own
    obtain⟨Av,nv,cv,rfl,hnv,hncv,-⟩:=hown.open
    clear hnv hncv
    have hf2:=hi.f
    have hs:=hi.size
    have hs3:w.heap.size+1+1+1<W.heap.size:=by omega
    have hs2:w.heap.size+1+1<W.heap.size:=by omega
    obtain⟨hx1,hx2,hx3⟩:=cells_of_heap hh
    have hy0:=hx1 0
    have hy1:=hx1 1
    have hy2:=hx1 2
    have hy3:=hx1 3
    have hy4:=hx1 4
    have hy5:=hx1 5
    have hy6:=hx1 6
    have hy7:=hx1 7
    have hy8:=hx1 8
    have hy9:=hx1 9
    have hy10:=hx1 10
    simp only[encRec,List.getElem?_toArray,List.getElem?_cons_zero,List.getElem?_cons_succ] at hy0 hy1 hy2 hy3 hy4 hy5 hy6 hy7 hy8 hy9 hy10
    have hlen:pre.length+1≤1000000:=by
     have:=framesL_le (L.drop 10)
     rw[List.length_drop,hL] at this
     omega
    clear hx1
    unfold pgAct
    gi_wp2_with (gi_at_builtin;refine wpListIn_arecK rfl (w.heap.size+4) rfl _ _ rfl (v:=.slice Av nv cv) [x] rfl tA (hown.alloc _) (ad:=⟨W.heap.size,0,none⟩) (c:=1) rfl rfl (by simpa [encRec] using Sl_top (W:=W) (encRec x) 46 11 1 rfl) tN (by simpa using hlen) ?_;intro v' W' hB hKf hO;obtain⟨A2,n2,c2,rfl,hn2,hnc2,-⟩:=hO.open;clear hn2 hnc2;have hd2:W'.cell? ⟨w.heap.size+1+1,2,none⟩=some (.slice Av nv cv):=(hB.cell (by show w.heap.size+1+1<w.heap.size+4;omega)).trans (by rw[World.cell?_alloc_past _ _ _ tB];exact hc2);have hg2:W'.frozen? ⟨w.heap.size+1+1,2,none⟩=false:=(hB.frozen (by show w.heap.size+1+1<w.heap.size+4;omega)).trans (by rw[World.frozen?_alloc_past _ _ _ tB];exact hf2))
    have hcc:∀ b j,b<w.heap.size+4→W'.cell? ⟨b,j,none⟩=W.cell? ⟨b,j,none⟩:=fun b j hbl=>(hB.cell (by show b<w.heap.size+4;omega)).trans (World.cell?_alloc_past _ _ _ tB)
    have hff:∀ b j,b<w.heap.size+4→W'.frozen? ⟨b,j,none⟩=W.frozen? ⟨b,j,none⟩:=fun b j hbl=>(hB.frozen (by show b<w.heap.size+4;omega)).trans (World.frozen?_alloc_past _ _ _ tB)
    have hBl:Below (w.heap.size+1) W (W'.setCell ⟨w.heap.size+1+1,2,none⟩ (.slice A2 n2 c2)):=(((Below.refl _ W).alloc tB _).trans (hB.mono tB)).setCell (p:=⟨w.heap.size+1+1,2,none⟩) (by show w.heap.size+1≤w.heap.size+1+1;omega) _
    have hne:∀ b j,b≠w.heap.size+1+1∨j≠2→(W'.setCell ⟨w.heap.size+1+1,2,none⟩ (.slice A2 n2 c2)).cell? ⟨b,j,none⟩=W'.cell? ⟨b,j,none⟩:=fun b j h=>World.cell?_setCell_other _ _ _ _ (fun e=>by simp only[Addr.mk.injEq] at e;omega)
    have hsz:W.heap.size≤W'.heap.size:=by have:=hB.size;simp at this;omega
    refine⟨?_,⟨hBl.mono tB,?_,?_⟩,?_⟩
    ·simp only[World.size_alloc]
     exact(((KeepsOthers.alloc _ _).from _).trans hKf).trans ((KeepsOthers.setCell _ _ _).from _)
    ·rw[hne _ _ (.inl tB),hcc _ _ tB]
    ·rw[World.frozen?_setCell,hff _ _ tB]
    ·refine⟨Ext.of_below (hi.ext.below.trans (by rw[World.size_alloc];exact hBl)),by simp;omega,?_,?_,⟨_,World.cell?_setCell_same' _ _ _ (by rw[hd2];rfl),hO.keep fun k hk _=>Below.heap_setCell _ _ _ _ (by show k≠w.heap.size+1+1;omega)⟩,?_⟩
     ·rw[hne _ _ (.inr tB),hcc _ _ tB];exact hi.c0
     ·rw[hne _ _ (.inr tB),hcc _ _ tB];exact hi.c1
     ·rw[World.frozen?_setCell];exact hg2
   case hdone=>
    rintro D xs W hD rfl hI hK
    simp only[World.size_alloc] at hD
    obtain⟨v,hv,ho⟩:=hI.own
    obtain⟨A2,n2,c2,rfl,hn2,-,-⟩:=ho.open
    have hc0:=hI.c0
    have hc1:=hI.c1
    have hs:=hI.size
    have hs2:w.heap.size+1+1<W.heap.size:=by omega
    have hs0:w.heap.size<W.heap.size:=by omega
    have hne2:¬(w.heap.size+1+1=w.heap.size):=by omega
    obtain⟨hr0,hr1,hr2,hf0⟩:W.cell? ⟨w.heap.size,0,none⟩=some (.int .i64 0)∧W.cell? ⟨w.heap.size,1,none⟩=some (.int .i64 0)∧W.cell? ⟨w.heap.size,2,none⟩=some (.slice none 0 0)∧∀ k,W.frozen? ⟨w.heap.size,k,none⟩=false:=by
     obtain⟨E,d,hW⟩:=hI.ext
     rw[hW]
     exact⟨by go_simp,by go_simp,by go_simp,fun k=>by go_simp⟩
    have hf00:=hf0 0
    have hf01:=hf0 1
    have hf02:=hf0 2
    clear hf0
    have hrl:Hid (pgR L=framesL (L.drop 10)):=hid (by rw[pgR,HH.out];rfl)
    have hpo:pageOk L=(inB (pgG L) 1 1000000000&&decide (pgC L≤(n2:Int))):=by
     rw[pageOk,HH.out,pgG,pgC,HH.out,hn2];rfl
    have Hn2:=hid hn2
    have Ho:=hid ho
    have HK:=hid hK
    have HI:=hid hI
    clear hn2 ho hK hI
    go_wp2_with fail
    cases hin:inB (pgG L) 1 1000000000 with
    | false=>
     rw[hin,Bool.false_and] at hpo
     have Hpo:=hid hpo
     clear hpo
     refine wp_region_ord_but (w.heap.size) (.f 0 (.f 1 (.f 2 (.a 3 (.f 4 (.f 5 (.f 6 (.f 7 (.f 8 (.f 9 (.f 10 (.f 11 (.a 12 (.f 13 .d)))))))))))))) tG tG ?_
     refine oR ?_
     refine wpOrd_call rfl rfl rfl Tryz.call117 (fun R hR=> ?_)
     go_simp
     refine(in_any _ _ _ _).mono ?_
     rintro e w1 ⟨rfl,rfl⟩
     refine hR _ _ ⟨_,rfl,?_,?_⟩
     ·exact TD
     clear hR R
     simp only[Act.put,zp]
     refine oR ?_
     refine ord_bool (j:=4) rfl (fun hb4=> ?_) (fun hb4=> ?_)
     rotate_left
     focus
      try(exfalso;first|(simp at hb4;done)|(simp at hb4;omega))
      all_goals
       (try simp only[hb4])
       refine oR ?_
       refine wpOrd_act rfl rfl (fun K hK=> ?_)
       go_simp
       refine hK _ _ ⟨?_,?_⟩
       ·exact TD
       clear hK K
       try simp only[Act.put,zp]
       refine oR ?_
       refine wpOrd_nil ?_
     rotate_right
     focus
      try(exfalso;first|(simp at hb4;done)|(simp at hb4;omega))
      all_goals
       (try simp only[hb4])
       refine oR ?_
       refine wpOrd_act rfl rfl (fun K hK=> ?_)
       go_simp
       refine hK _ _ ⟨?_,?_⟩
       ·exact TD
       clear hK K
       try simp only[Act.put,zp]
       refine oR ?_
       refine wpOrd_nil ?_
     go_wp2_with fail
     have hWD:W.heap[D]? =some (.deferred (some [])):=HK.out
     have hDn:D≠w.heap.size:=by omega
     have hX:∀ v0 v1 v2,((((W.setCell ⟨w.heap.size,0,none⟩ v0).setCell ⟨w.heap.size,1,none⟩ v1).setCell ⟨w.heap.size,2,none⟩ v2).drew).heap[D]? =some (.deferred (some [])):=fun v0 v1 v2=>by
      show(((W.setCell ⟨w.heap.size,0,none⟩ v0).setCell ⟨w.heap.size,1,none⟩ v1).setCell ⟨w.heap.size,2,none⟩ v2).heap[D]? =_
      rw[Below.heap_setCell _ _ _ _ hDn,Below.heap_setCell _ _ _ _ hDn,Below.heap_setCell _ _ _ _ hDn];exact hWD
     refine⟨by simp,.inl ⟨_,_,rfl,run_takeDeferred (hX _ _ _),?_⟩⟩
     refine⟨.tuple #[.agg #[.int .i64 (pgG L),.int .i64 (pgC L),.slice A2 n2 c2],.bool false],?_,A2,n2,c2,by rw[Hpo.out],hid (by rw[hrl.out];exact Hn2.out),?_,?_⟩
     ·have hY:∀ v0 v1 v2 j,((((W.setCell ⟨w.heap.size,0,none⟩ v0).setCell ⟨w.heap.size,1,none⟩ v1).setCell ⟨w.heap.size,2,none⟩ v2).drew.putObj D (.deferred none)).cell? ⟨w.heap.size,j,none⟩=
       (((W.setCell ⟨w.heap.size,0,none⟩ v0).setCell ⟨w.heap.size,1,none⟩ v1).setCell ⟨w.heap.size,2,none⟩ v2).cell? ⟨w.heap.size,j,none⟩:=fun v0 v1 v2 j=>World.cell?_of_block (World.putObj_heap_other (Ne.symm hDn))
      simp[results,Tryz.results64,go_sem,hY,hr0,hr1,hr2]
     ·rw[hrl.out]
      refine OwnR.putObj (o:=.deferred (some [])) ?_ (hX _ _ _) rfl _
      exact(Ho.out.keep (W':=(((W.setCell ⟨w.heap.size,0,none⟩ _).setCell ⟨w.heap.size,1,none⟩ _).setCell ⟨w.heap.size,2,none⟩ _).drew) fun k hk _=>by
       show(((W.setCell ⟨w.heap.size,0,none⟩ _).setCell ⟨w.heap.size,1,none⟩ _).setCell ⟨w.heap.size,2,none⟩ _).heap[k]? =_
       rw[Below.heap_setCell _ _ _ _ TE,Below.heap_setCell _ _ _ _ TE,Below.heap_setCell _ _ _ _ TE]).base tB
     ·have hW0:Below w.heap.size w W:=(Ext.below (w:=w) exI).trans (HI.out.ext.below.mono tE)
      refine Ext.of_below (Below.grown ?_ (grownBy_putObj' _ D (.deferred none)) tA (fun k e=>by cases e;omega))
      exact(((hW0.setCell (p:=⟨w.heap.size,0,none⟩) (Nat.le_refl _) _).setCell (p:=⟨w.heap.size,1,none⟩) (Nat.le_refl _) _).setCell (p:=⟨w.heap.size,2,none⟩) (Nat.le_refl _) _).drew
    | true=>
     rw[hin,Bool.true_and] at hpo
     have Hpo:=hid hpo
     clear hpo
     refine wp_region_ord_but (w.heap.size) (.f 0 (.f 1 (.f 2 (.a 3 (.f 4 (.f 5 (.f 6 (.f 7 (.f 8 (.f 9 (.f 10 (.f 11 (.a 12 (.f 13 .d)))))))))))))) tG tG ?_
     refine oR ?_
     refine wpOrd_call rfl rfl rfl Tryz.call117 (fun R hR=> ?_)
     go_simp
     refine(in_any _ _ _ _).mono ?_
     rintro e w1 ⟨rfl,rfl⟩
     refine hR _ _ ⟨_,rfl,?_,?_⟩
     ·exact TD
     clear hR R
     simp only[Act.put,zp]
     refine oR ?_
     refine ord_bool (j:=4) rfl (fun hb4=> ?_) (fun hb4=> ?_)
     rotate_left
     focus
      try(exfalso;first|(simp at hb4;done)|(simp at hb4;omega))
      all_goals
       (try simp only[hb4])
       refine oR ?_
       refine wpOrd_act rfl rfl (fun K hK=> ?_)
       go_simp
       refine hK _ _ ⟨?_,?_⟩
       ·exact TD
       clear hK K
       try simp only[Act.put,zp]
       refine oR ?_
       refine wpOrd_nil ?_
     rotate_right
     focus
      try(exfalso;first|(simp at hb4;done)|(simp at hb4;omega))
      all_goals
       (try simp only[hb4])
       refine oR ?_
       refine wpOrd_act rfl rfl (fun K hK=> ?_)
       go_simp
       refine hK _ _ ⟨?_,?_⟩
       ·exact TD
       clear hK K
       try simp only[Act.put,zp]
       refine oR ?_
       refine wpOrd_nil ?_
     go_wp2_with fail
     have hWD:W.heap[D]? =some (.deferred (some [])):=HK.out
     have hDn:D≠w.heap.size:=by omega
     have hX:∀ v0 v1 v2,((((W.setCell ⟨w.heap.size,0,none⟩ v0).setCell ⟨w.heap.size,1,none⟩ v1).setCell ⟨w.heap.size,2,none⟩ v2).drew).heap[D]? =some (.deferred (some [])):=fun v0 v1 v2=>by
      show(((W.setCell ⟨w.heap.size,0,none⟩ v0).setCell ⟨w.heap.size,1,none⟩ v1).setCell ⟨w.heap.size,2,none⟩ v2).heap[D]? =_
      rw[Below.heap_setCell _ _ _ _ hDn,Below.heap_setCell _ _ _ _ hDn,Below.heap_setCell _ _ _ _ hDn];exact hWD
     refine⟨by simp,.inl ⟨_,_,rfl,run_takeDeferred (hX _ _ _),?_⟩⟩
     refine⟨.tuple #[.agg #[.int .i64 (pgG L),.int .i64 (pgC L),.slice A2 n2 c2],.bool (decide (pgC L≤(n2:Int)))],?_,A2,n2,c2,by rw[Hpo.out],hid (by rw[hrl.out];exact Hn2.out),?_,?_⟩
     ·have hY:∀ v0 v1 v2 j,((((W.setCell ⟨w.heap.size,0,none⟩ v0).setCell ⟨w.heap.size,1,none⟩ v1).setCell ⟨w.heap.size,2,none⟩ v2).drew.putObj D (.deferred none)).cell? ⟨w.heap.size,j,none⟩=
       (((W.setCell ⟨w.heap.size,0,none⟩ v0).setCell ⟨w.heap.size,1,none⟩ v1).setCell ⟨w.heap.size,2,none⟩ v2).cell? ⟨w.heap.size,j,none⟩:=fun v0 v1 v2 j=>World.cell?_of_block (World.putObj_heap_other (Ne.symm hDn))
      simp[results,Tryz.results64,go_sem,hY,hr0,hr1,hr2]
     ·rw[hrl.out]
      refine OwnR.putObj (o:=.deferred (some [])) ?_ (hX _ _ _) rfl _
      exact(Ho.out.keep (W':=(((W.setCell ⟨w.heap.size,0,none⟩ _).setCell ⟨w.heap.size,1,none⟩ _).setCell ⟨w.heap.size,2,none⟩ _).drew) fun k hk _=>by
       show(((W.setCell ⟨w.heap.size,0,none⟩ _).setCell ⟨w.heap.size,1,none⟩ _).setCell ⟨w.heap.size,2,none⟩ _).heap[k]? =_
       rw[Below.heap_setCell _ _ _ _ TE,Below.heap_setCell _ _ _ _ TE,Below.heap_setCell _ _ _ _ TE]).base tB
     ·have hW0:Below w.heap.size w W:=(Ext.below (w:=w) exI).trans (HI.out.ext.below.mono tE)
      refine Ext.of_below (Below.grown ?_ (grownBy_putObj' _ D (.deferred none)) tA (fun k e=>by cases e;omega))
      exact(((hW0.setCell (p:=⟨w.heap.size,0,none⟩) (Nat.le_refl _) _).setCell (p:=⟨w.heap.size,1,none⟩) (Nat.le_refl _) _).setCell (p:=⟨w.heap.size,2,none⟩) (Nat.le_refl _) _).drew
end Go.Proofs.YtekjdeibnfaehaaGreat
namespace Go.Proofs.YtekjdeibnfaehaaGreat
open Go.RowKit
theorem wpList_abyt{P:Program}(hP:P=Tryz.prog){ops:Array Oper}{rest:List Oper}{o:Oper}{a:Act}{Q:Exit→Act→World→Prop}{W:World}(X:World)(N:Nat)(hN:N=X.heap.size)(hgd:o.guard=none)(s x:Operand)
 (ho:o.op= .call {callee:=.builtin .append,args:=#[s,x],argTypes:=#[22,22]}) {v:Value} {l:List UInt8} (news:List UInt8) (hs:a.eval s=v) (hx:Ext X W) (hown:OwnB N W v l)
 {A:Option Addr} {m c:Nat} (hv:a.eval x= .slice A m c) (hm:m=news.length) (hr:Byt W A news) (hlen:l.length+news.length≤100000000)
 (h:∀ v' E d,OwnB N (X.ext E d) v' (l++news)→wpList P ops Q rest (a.put o.dst v') (X.ext E d)):wpList P ops Q (o::rest) a W:=by
 subst hP hm hN
 obtain⟨i0,hi,hz0,hz1,hz2⟩:=info_parts info_u8
 refine wpList_append (w:=X) hgd s x 22 ho 5 i0 _ 1 1 Tryz.underlying22 hi hz0 hz1 hz2 rfl tN hs hx hown hv hr (encB_one _) tO tB fun v' E d h2=>h v' E d ?_
 unfold OwnB
 rw[List.length_append,List.map_append]
 exact h2
theorem bytesR_small(l:List Rec)(h:∀ r∈l,r.text.size≤200):(bytesR l).length≤224 * l.length:=by
 induction l with
 | nil=>simp[bytesR_nil]
 | cons r l ih=>
  have h1:=h r tE
  have h2:=ih fun x hx=>h x tQ
  rw[bytesR_cons,List.length_append,frameB_length,List.length_cons]
  omega
theorem bytesR_snoc(l:List Rec){k:Nat}(hk:k<l.length):bytesR (l.take (k+1))=bytesR (l.take k)++frameB l[k]:=by
 rw[List.take_succ_eq_append_getElem hk,bytesR_append,bytesR_cons,bytesR_nil,List.append_nil]
set_option maxRecDepth 100000 in
set_option maxHeartbeats 4000000 in
theorem written_any(g ct:Int)(A:Option Addr)(n c:Nat)(l:List Rec)(hn:l.length=n)(hbig:n≤100000)(hok:∀ r∈l,recOk r=true)(hg0:0≤g)(hg1:g≤9223372036854775807)(hc0:0≤ct)(hc1:ct≤9223372036854775807)(w:World)(hr:Recs w A l):
 Calls Tryz.prog 66 #[.agg #[.int .i64 g,.int .i64 ct,.slice A n c]] w fun e w'=> ∃A' n' c',e= .returned (.slice A' n' c')∧Hid (n'=(writtenB g ct l).length)∧OwnB w.heap.size w' (.slice A' n' c') (writtenB g ct l)∧Ext w w':=by
 have Hok:=hid hok
 clear hok
 go_enter Tryz.func66,Tryz.ntmps66
 go_wp2_with (go_at_call 123;refine(headOf_any _ _ tB tB tB tB _).mono ?_;rintro e w1 ⟨A1,c1,rfl,hb1,E1,d1,rfl⟩)
 go_loopw [3,14] (fun v i wr=> ∃k:Nat,k≤n∧i= .int .i64 k∧Ext (w.alloc (.cells #[.int .i64 g,.int .i64 ct,.slice A n c] 114)) wr∧OwnB (w.heap.size+1) wr v (headB g ct++bytesR (l.take k))) (fun _ i _=>n-(intOf i).toNat)
 case atStart=>
  refine⟨0,Nat.zero_le _,rfl,exI,?_⟩
  simpa [bytesR_nil] using hb1
 case round=>
  obtain⟨k,hk,rfl,⟨E9,d9,rfl⟩,hown⟩:=hrel
  have Hown:=hid hown
  clear hown hb1
  by_cases hlt:k<n
  ·have hm:k<l.length:=by omega
   obtain⟨gg,of,rfl,hg⟩:=hr.addr tB
   have hrow:=hr.row hm
   have hmem:=Hok.out _ (List.getElem_mem hm)
   have hstep:=bytesR_snoc l hm
   obtain⟨r,hrk⟩:∃ r,l[k]=r:=⟨_,rfl⟩
   rw[hrk] at hrow hmem hstep
   have hnum:=recNum_of hmem
   have htx:=recOk_text hmem
   have Hstep:=hid hstep
   have Hlen:Hid ((headB g ct++bytesR (l.take k)).length+(frameB r).length≤100000000):=hid (by
    have h1:=bytesR_small (l.take k) fun x hx=>recOk_text (Hok.out x (List.mem_of_mem_take hx))
    rw[List.length_append,headB_length,frameB_length]
    rw[List.length_take] at h1
    omega)
   obtain⟨h0,h1,h2,h3,h4,h5,h6,h7,h8,h9,h10⟩:=hrow
   clear hrk hmem hstep
   go_wp2_with (first|(at_builtin;refine wpList_abyt rfl (w.alloc (.cells #[.int .i64 g,.int .i64 ct,.slice (some ⟨gg,of,none⟩) n c] 114)) (w.heap.size+1) ta rfl _ _ rfl (frameB r) rfl tc (by exact OwnB.of_ext Hown.out exI) rfl TF TG Hlen.out (fun v1 E2 d2 ho1=> ?_))|(go_at_call 124;refine(frame_any _ tF _).mono ?_;rintro e w1 ⟨A1,c1,rfl,hb1,E1,d1,rfl⟩))
   exact⟨⟨k+1,by omega,by go_num,(Ext.refl _).ext _ _,by rw[Hstep.out,←List.append_assoc];exact ho1⟩,by simp[intOf];omega⟩
  ·obtain rfl:k=n:=by omega
   have hown:=Hown.out
   rw[List.take_of_length_le tB] at hown
   obtain⟨A2,c2,rfl,-⟩:=hown.slice
   have Ho2:=hid hown
   obtain⟨n2,hn2⟩:∃ n2,(headB g ct++bytesR l).length=n2:=⟨_,rfl⟩
   rw[hn2] at Ho2
   have Hn2:Hid (n2=(writtenB g ct l).length):=hid hn2.symm
   simp only[hn2]
   clear hown hn2 Hown
   go_wp2_with fail
   go_ret
   exact⟨A2,n2,c2,rfl,Hn2,OwnB.of_ext (ownsRow_base Ho2.out tB) exI,exI⟩
end Go.Proofs.YtekjdeibnfaehaaGreat
