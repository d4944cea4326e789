/- Texts of a proof. -/
import Derived.Test.YtekjdeibnfaehaaGreatKDbf
import Derived.Test.YtekjdeibnfaehaaGreatKDbg
import Derived.Test.YtekjdeibnfaehaaGreatKDbh
import Derived.Test.YtekjdeibnfaehaaGreatKDbi
import Derived.Test.YtekjdeibnfaehaaGreatKDai
set_option linter.unusedSimpArgs false
set_option linter.unusedVariables false
namespace Go.Proofs.YtekjdeibnfaehaaGreat
open Go Go.RowKit
section
variable{a b c d e f:Nat}
@[go_sem] theorem lta0:a<a+1+b:=by omega
@[go_sem] theorem lta1(h:a<b):a<b+c:=by omega
@[go_sem] theorem lta2(h:a<b):a<b+c+d:=by omega
@[go_sem] theorem lta3(h:a<b):a<b+c+d+e:=by omega
@[go_sem] theorem lta4(h:a<b):a<b+c+d+e+f:=by omega
@[go_sem] theorem lea1(h:a≤b):a≤b+c:=by omega
@[go_sem] theorem lea2(h:a≤b):a≤b+c+d:=by omega
@[go_sem] theorem lea3(h:a≤b):a≤b+c+d+e:=by omega
@[go_sem] theorem ltb1:a<a+1+b+c:=by omega
@[go_sem] theorem ltb2:a<a+1+b+c+d:=by omega
end
def offQ(O:OffD)(L:OffL):List Value:=offC O L
@[go_sem] theorem offQ_len(O:OffD)(L:OffL):(offQ O L).length=17:=rfl
theorem offQ_one(O:OffD)(L:OffL):∀ v∈offQ O L,v.oneCell'=true:=by
 intro v hv
 simp only[offQ,offC,List.mem_cons,List.not_mem_nil,or_false] at hv
 rcases hv with rfl|rfl|rfl|rfl|rfl|rfl|rfl|rfl|rfl|rfl|rfl|rfl|rfl|rfl|rfl|rfl|rfl <;> rfl
@[go_sem] theorem toA_list(l:List Value):l.toArray.toList=l:=rfl
@[go_sem] theorem toA_size(l:List Value):l.toArray.size=l.length:=by simp
theorem whole_of{l:List Value}{n:Nat}(hl:l.length=n)(h:∀ v∈l,v.oneCell'=true):Whole l.toArray n:=⟨by simpa using hl,by simpa [Array.all_eq_true_iff_forall_mem] using h⟩
@[go_sem] theorem offQ_whole(O:OffD)(L:OffL):Whole (offQ O L).toArray 17:=whole_of rfl (offQ_one O L)
def worldC(W:WD)(Ls:Nat→OffL)(A:Option Addr)(n c:Nat):List Value:=offQ (W.off 0) (Ls 0)++(offQ (W.off 1) (Ls 1)++(offQ (W.off 2) (Ls 2)++(offQ (W.off 3) (Ls 3)++[.slice A n c,.int .i64 W.e])))
section
variable(W:WD)(Ls:Nat→OffL)(A:Option Addr)(n c:Nat)
@[go_sem] theorem worldC_len:(worldC W Ls A n c).length=70:=rfl
theorem worldC_one:∀ v∈worldC W Ls A n c,v.oneCell'=true:=by
 intro v hv
 simp only[worldC,List.mem_append,List.mem_cons,List.not_mem_nil,or_false] at hv
 rcases hv with h|h|h|h|h|h
 ·exact offQ_one _ _ v h
 ·exact offQ_one _ _ v h
 ·exact offQ_one _ _ v h
 ·exact offQ_one _ _ v h
 ·subst h;rfl
 ·subst h;rfl
theorem worldC_get{a:Nat}(ha:a<4):((worldC W Ls A n c).drop (a * 17)).take 17=offQ (W.off a) (Ls a):=by
 have:a=0∨a=1∨a=2∨a=3:=by omega
 rcases this with rfl|rfl|rfl|rfl <;> rfl
theorem worldC_way:(worldC W Ls A n c)[68]? =some (.slice A n c):=rfl
theorem worldC_err:(worldC W Ls A n c)[69]? =some (.int .i64 W.e):=rfl
theorem worldC_put{a:Nat}(ha:a<4)(O:OffD)(L:OffL):(worldC W Ls A n c).take (a * 17)++offQ O L++(worldC W Ls A n c).drop (a * 17+(offQ O L).length)=worldC ⟨upd W.off a O,W.way,W.e⟩ (upd Ls a L) A n c:=by
 have:a=0∨a=1∨a=2∨a=3:=by omega
 rcases this with rfl|rfl|rfl|rfl <;> rfl
theorem worldC_set_err(e:Int):(worldC W Ls A n c).set 69 (.int .i64 e)=worldC ⟨W.off,W.way,e⟩ Ls A n c:=rfl
theorem worldC_set_way(way:List MsgD)(A':Option Addr)(n' c':Nat):(worldC W Ls A n c).set 68 (.slice A' n' c')=worldC ⟨W.off,way,W.e⟩ Ls A' n' c':=rfl
end
def zeroW:WD:=⟨fun _=>noOff,[],0⟩
theorem info_world:(Tryz.prog.info? 83).map (fun i=>(i.zero,i.size))=some (some (.agg (worldC zeroW (fun _=>zL) none 0 0).toArray),70):=by kernel_rfl
theorem size_world:(Tryz.prog.info? 83).map (·.size)=some 70:=by kernel_rfl
theorem agg_world:(Tryz.prog.underlying 83).map aggD=some true:=by kernel_rfl
section
variable{P:World}{a:Addr}{v:Value}{g i:Nat}{c:Array Value}
@[go_sem ↓ high] theorem lr_world:loadVar 83 a=ldRow 83 a:=rfl
@[go_sem ↓ high] theorem sr_world:storeVar 83 a v=stRow 83 a v:=rfl
@[go_sem] theorem ld_world(h:i+70≤rowLen P g):(ldRow 83 ⟨g,i,none⟩).run Tryz.prog P= .ok (.agg (rowAt P g i 70)) P:=run_ld agg_world size_world h
@[go_sem] theorem st_world(h:i+70≤rowLen P g)(hs:Whole c 70):(stRow 83 ⟨g,i,none⟩ (.agg c)).run Tryz.prog P= .ok () (P.setCells g i c.toList):=run_st size_world hs.1 hs.2 h
@[go_sem] theorem worldC_whole(W:WD)(Ls:Nat→OffL)(A:Option Addr)(n k:Nat):Whole (worldC W Ls A n k).toArray 70:=whole_of rfl (worldC_one W Ls A n k)
theorem zero_world(w:World):(zeroValue 83).run Tryz.prog w= .ok (.agg (worldC zeroW (fun _=>zL) none 0 0).toArray) w:=by
 have h:=info_world
 cases hq:Tryz.prog.info? 83 with
 | none=>simp[hq] at h
 | some i=>
  simp[hq] at h
  simp[zeroValue,typeInfo,hq,h.1]
theorem BoxC.world{b:Nat}{t:TypeId}{W:WD}{Ls:Nat→OffL}{A:Option Addr}{n k:Nat}(h:BoxC P b (worldC W Ls A n k) t):P.cell? ⟨b,68,none⟩=some (.slice A n k)∧P.cell? ⟨b,69,none⟩=some (.int .i64 W.e)∧rowLen P b=70∧rowAt P b 0 70=(worldC W Ls A n k).toArray:=
 ⟨h.cell (worldC_way W Ls A n k),h.cell (worldC_err W Ls A n k),h.len,h.row⟩
theorem BoxC.worldOff{b:Nat}{t:TypeId}{W:WD}{Ls:Nat→OffL}{A:Option Addr}{n k:Nat}(h:BoxC P b (worldC W Ls A n k) t){p:Nat}(hp:p<4):rowAt P b (p * 17) 17=(offQ (W.off p) (Ls p)).toArray:=by
 rw[h.rows (p * 17) 17 (by rw[worldC_len];omega),worldC_get W Ls A n k hp]
end
def putC(l:List Value)(j:Nat)(vs:List Value):List Value:=l.take j++vs++l.drop (j+vs.length)
section
variable{P:World}{g j n:Nat}{l vs:List Value}
theorem rowLen_putBox(h:70≤rowLen P g):∃ cs t,BoxC P g cs t∧cs.length=rowLen P g:=rowLen_box (k:=0) tB
@[go_sem] theorem rowAt_put(hv:vs.length=17)(hj:j≤53)(hl:rowLen P g=70):rowAt (P.setCells g j vs) g 0 70=(putC (rowAt P g 0 70).toList j vs).toArray:=by
 obtain⟨cs,t,hb,hc⟩:=rowLen_putBox (P:=P) (g:=g) tB
 have h1:=hb.row
 rw[hc,hl] at h1
 have h2:=BoxC.cells vs j hb tB
 have h3:=h2.row
 have hlen:(cs.take j++vs++cs.drop (j+vs.length)).length=70:=by
  simp only[List.length_append,List.length_take,List.length_drop]
  omega
 rw[hlen] at h3
 rw[h3,h1]
 rfl
@[go_sem] theorem set_toA(k:Nat)(v:Value):l.toArray.setIfInBounds k v=(l.set k v).toArray:=by simp
@[go_sem] theorem whole_put(h:Whole l.toArray 70)(hv:Whole vs.toArray 17)(hj:j≤53):Whole (putC l j vs).toArray 70:=by
 obtain⟨h1,h2⟩:=h
 obtain⟨v1,v2⟩:=hv
 simp only[List.size_toArray] at h1 v1
 refine whole_of ?_ fun v hv=> ?_
 ·unfold putC
  simp only[List.length_append,List.length_take,List.length_drop]
  omega
 ·unfold putC at hv
  rw[Array.all_eq_true_iff_forall_mem] at h2 v2
  rcases List.mem_append.1 hv with hv|hv
  ·rcases List.mem_append.1 hv with hv|hv
   ·exact h2 v (by simpa using List.mem_of_mem_take hv)
   ·exact v2 v ti
  ·exact h2 v (by simpa using List.mem_of_mem_drop hv)
theorem whole_set{k:Nat}{u:Value}(h:Whole l.toArray n)(hu:u.oneCell'=true):Whole (l.set k u).toArray n:=by
 obtain⟨h1,h2⟩:=h
 refine whole_of (by simpa using h1) fun v hv=> ?_
 rw[Array.all_eq_true_iff_forall_mem] at h2
 rcases List.mem_or_eq_of_mem_set hv with hv|rfl
 ·exact h2 v ti
 ·exact hu
@[go_sem] theorem whole_seti(k:Nat)(e:Int)(h:Whole l.toArray n):Whole (l.set k (.int .i64 e)).toArray n:=whole_set h rfl
@[go_sem] theorem whole_sets(k:Nat)(A:Option Addr)(x y:Nat)(h:Whole l.toArray n):Whole (l.set k (.slice A x y)).toArray n:=whole_set h rfl
end
def OffF(g:Nat)(L:OffL):Prop:=OffN g L∧∀ j,j<9→Off (L.k j).A (L.k j).n g
section
variable{base g i n c:Nat}{w w' P:World}{O:OffD}{L:OffL}{A:Option Addr}{l:List MsgD}{vs:List Value}{v:Value}
theorem gb_cells(g:Nat):∀ (vs:List Value) (i:Nat) (w:World),w.grownBy (w.setCells g i vs) (some g)
 | [],_,w=>World.grownBy.refl w _
 | v::r,i,w=>gb_trans (gb_setCell w g i v) (gb_cells g r (i+1) _)
theorem sl_grown{k:Nat}{xs:List Value}{row:Option Nat}(h:Sl k w A n xs)(hg:w.grownBy w' row)(hne:0<n→∀ a,A=some a→some a.block≠row):Sl k w' A n xs:=by
 refine⟨h.1,fun hn=> ?_⟩
 obtain⟨q,o,rfl,hq,hc⟩:=h.2 hn
 refine⟨q,o,rfl,Nat.lt_of_lt_of_le hq hg.size,fun j u hu=> ?_⟩
 rw[←hc j u hu]
 exact World.cell?_of_block (hg.block q hq (hne hn _ rfl))
theorem off_ne(h:Off A n g):0<n→∀ a,A=some a→some a.block≠some g:=fun hn a ha he=>h hn a ha (Option.some.inj he)
theorem OffY.grown(h:OffY w O L)(hf:OffF g L)(hg:w.grownBy w' (some g)):OffY w' O L:=by
 obtain⟨⟨f0,f1,fm⟩,fk⟩:=hf
 refine⟨⟨h.d.l0,h.d.l1,h.d.h0,h.d.h1,h.d.k0,h.d.k1,sl_grown h.d.b0 hg (off_ne (by rw[h.d.l0];exact f0)),sl_grown h.d.b1 hg (off_ne (by rw[h.d.l1];exact f1))⟩,h.l,h.h,h.t,sl_grown h.r hg (off_ne (by rw[h.l];exact fm)),fun j hj=> ?_⟩
 obtain⟨p1,p2,p3,p4⟩:=h.k j hj
 exact⟨p1,p2,p3,sl_grown p4 hg (off_ne (fk j hj))⟩
theorem OffA.far(h:OffA base w O L)(hg:g<base):OffF g L:=by
 refine⟨⟨fun hn a ha=> ?_,fun hn a ha=> ?_,fun hn a ha=> ?_⟩,fun j hj hn a ha=> ?_⟩
 ·have:=h.d.b0.2 (by rw[h.d.l0];exact hn) a ha;omega
 ·have:=h.d.b1.2 (by rw[h.d.l1];exact hn) a ha;omega
 ·have:=h.r.2 (by rw[h.l];exact hn) a ha;omega
 ·have:=(h.k j hj).2.2.2.2 hn a ha;omega
theorem OffY.far(h:OffY w O L)(hg:w.heap.size≤g):OffF g L:=by
 refine⟨⟨fun hn a ha=> ?_,fun hn a ha=> ?_,fun hn a ha=> ?_⟩,fun j hj hn a ha=> ?_⟩
 ·have:=sl_low h.d.b0 (by rw[h.d.l0];exact hn) ha;omega
 ·have:=sl_low h.d.b1 (by rw[h.d.l1];exact hn) ha;omega
 ·have:=sl_low h.r (by rw[h.l];exact hn) ha;omega
 ·have:=sl_low (h.k j hj).2.2.2 hn ha;omega
def MsgsY(w:World)(A:Option Addr)(n c:Nat)(l:List MsgD):Prop:=l.length=n∧n≤c∧c≤9223372036854775807∧Sl 14 w A n (l.flatMap msgC)
theorem MsgsY.of_ext(h:MsgsY w A n c l)(hx:Ext w w'):MsgsY w' A n c l:=⟨h.1,h.2.1,h.2.2.1,h.2.2.2.of_ext hx⟩
theorem MsgsY.grown(h:MsgsY w A n c l)(hf:Off A n g)(hg:w.grownBy w' (some g)):MsgsY w' A n c l:=⟨h.1,h.2.1,h.2.2.1,sl_grown h.2.2.2 hg (off_ne hf)⟩
theorem MsgsA.read(h:MsgsA base w A n c l):MsgsY w A n c l:=⟨h.1,h.2.1,h.2.2.1,h.2.2.2.1⟩
theorem MsgsA.far(h:MsgsA base w A n c l)(hg:g<base):Off A n g:=fun hn a ha=>by have:=h.2.2.2.2 hn a ha;omega
theorem MsgsY.far(h:MsgsY w A n c l)(hg:w.heap.size≤g):Off A n g:=fun hn a ha=>by have:=sl_low h.2.2.2 hn ha;omega
theorem MsgsY.nil(w:World):MsgsY w none 0 0 []:=(MsgsA.nil 0 w).read
end
structure WorldY(w:World)(W:WD)(Ls:Nat→OffL)(A:Option Addr)(n c:Nat):Prop where
 o:∀ p,p<4→OffY w (W.off p) (Ls p)
 m:MsgsY w A n c W.way
def WorldF(g:Nat)(Ls:Nat→OffL)(A:Option Addr)(n:Nat):Prop:=(∀p,p<4→OffF g (Ls p))∧Off A n g
theorem WorldY.of_ext{w w':World}{W:WD}{Ls:Nat→OffL}{A:Option Addr}{n c:Nat}(h:WorldY w W Ls A n c)(hx:Ext w w'):WorldY w' W Ls A n c:=⟨fun p hp=>(h.o p hp).of_ext hx,h.m.of_ext hx⟩
theorem WorldY.grown{w w':World}{W:WD}{Ls:Nat→OffL}{A:Option Addr}{n c g:Nat}(h:WorldY w W Ls A n c)(hf:WorldF g Ls A n)(hg:w.grownBy w' (some g)):WorldY w' W Ls A n c:=⟨fun p hp=>(h.o p hp).grown (hf.1 p hp) hg,h.m.grown hf.2 hg⟩
theorem WorldY.far{w:World}{W:WD}{Ls:Nat→OffL}{A:Option Addr}{n c g:Nat}(h:WorldY w W Ls A n c)(hg:w.heap.size≤g):WorldF g Ls A n:=⟨fun p hp=>(h.o p hp).far hg,h.m.far hg⟩
theorem WorldY.put{w:World}{W:WD}{Ls:Nat→OffL}{A:Option Addr}{n c:Nat}(h:WorldY w W Ls A n c)(p:Nat){O:OffD}{L:OffL}(hO:OffY w O L)(e:Int):WorldY w ⟨upd W.off p O,W.way,e⟩ (upd Ls p L) A n c:=by
 refine⟨fun q hq=> ?_,h.m⟩
 show OffY w (upd W.off p O q) (upd Ls p L q)
 by_cases he:q=p
 ·subst he
  rw[upd_at,upd_at]
  exact hO
 ·rw[upd_ne _ _ he,upd_ne _ _ he]
  exact h.o q hq
theorem txtBig_of{l:List Rec}(h:checkB l=true):TxtBig l:=fun r hr=>by have:=recOk_text ((checkB_iff.1 h).2.1 r hr);omega
theorem WorldY.new{k base p:Nat}{G:Gh}{w w':World}{W:WD}{Ls:Nat→OffL}{A:Option Addr}{n c:Nat}{O:OffD}{L:OffL}{e:Int}(hI:WI k ⟨upd W.off p O,W.way,e⟩ G)(hp:p<4)(h:WorldY w W Ls A n c)(hx:Ext w w')(hA:OffA base w' O L)(hb:w.heap.size≤base):
 WorldY w' ⟨upd W.off p O,W.way,e⟩ (upd Ls p L) A n c∧∀ g,g<w.heap.size→WorldF g Ls A n→WorldF g (upd Ls p L) A n:=by
 have hc:=(hI.o p hp).check
 simp only[upd_at] at hc
 refine⟨(h.of_ext hx).put p (hA.read (txtBig_of hc)) e,fun g hg hf=>⟨fun q hq=> ?_,hf.2⟩⟩
 by_cases he:q=p
 ·subst he
  rw[upd_at]
  exact hA.far tB
 ·rw[upd_ne _ _ he]
  exact hf.1 q hq
theorem OffA.cellsF{base g i:Nat}{P:World}{O:OffD}{L:OffL}{vs:List Value}(h:OffA base P O L)(hf:OffF g L):OffA base (P.setCells g i vs) O L:=by
 have key:∀ {A:Option Addr} {n kk:Nat} {xs:List Value},Off A n g→SlA base kk P A n xs→SlA base kk (P.setCells g i vs) A n xs:=fun hoff hs=>hs.grown (gb_cells g vs i P) fun hn a ha he=>hoff hn a ha (Option.some.inj he)
 obtain⟨⟨f0,f1,fm⟩,fk⟩:=hf
 refine⟨⟨h.d.l0,h.d.l1,h.d.h0,h.d.h1,h.d.k0,h.d.k1,key (by rw[h.d.l0];exact f0) h.d.b0,key (by rw[h.d.l1];exact f1) h.d.b1⟩,h.l,h.h,key (by rw[h.l];exact fm) h.r,fun j hj=> ?_⟩
 obtain⟨p1,p2,p3,p4⟩:=h.k j hj
 exact⟨p1,p2,p3,key (fk j hj) p4⟩
theorem OffA.farHi{base g:Nat}{w:World}{O:OffD}{L:OffL}(h:OffA base w O L)(hg:w.heap.size≤g):OffF g L:=by
 refine⟨⟨fun hn a ha=> ?_,fun hn a ha=> ?_,fun hn a ha=> ?_⟩,fun j hj hn a ha=> ?_⟩
 ·have:=sl_low h.d.b0.1 (by rw[h.d.l0];exact hn) ha;omega
 ·have:=sl_low h.d.b1.1 (by rw[h.d.l1];exact hn) ha;omega
 ·have:=sl_low h.r.1 (by rw[h.l];exact hn) ha;omega
 ·have:=sl_low (h.k j hj).2.2.2.1 hn ha;omega
end Go.Proofs.YtekjdeibnfaehaaGreat
set_option linter.unusedSimpArgs false
set_option linter.unusedVariables false
namespace Go.Proofs.YtekjdeibnfaehaaGreat
open Go Go.RowKit
@[reducible] def mvV(m:MoveD):Value:=.agg #[.int .i64 m.what,.int .i64 m.a,.int .i64 m.b,.int .i64 m.x.a0,.int .i64 m.x.a1,.int .i64 m.x.a2,.int .i64 m.x.a3,.int .i64 m.x.a4,.int .i64 m.x.a5,.int .i64 m.x.a6,.string m.x.text,.int .i64 m.k0,.int .i64 m.k1]
@[reducible] def mvC(m:MoveD):List Value:=[.int .i64 m.what,.int .i64 m.a,.int .i64 m.b,.int .i64 m.x.a0,.int .i64 m.x.a1,.int .i64 m.x.a2,.int .i64 m.x.a3,.int .i64 m.x.a4,.int .i64 m.x.a5,.int .i64 m.x.a6,.string m.x.text,.int .i64 m.k0,.int .i64 m.k1]
theorem BoxC.c13{P:World}{b:Nat}{t:TypeId}{v0 v1 v2 v3 v4 v5 v6 v7 v8 v9 v10 v11 v12:Value}(h:BoxC P b [v0,v1,v2,v3,v4,v5,v6,v7,v8,v9,v10,v11,v12] t):P.cell? ⟨b,0,none⟩=some v0∧P.cell? ⟨b,1,none⟩=some v1∧P.cell? ⟨b,2,none⟩=some v2∧P.cell? ⟨b,3,none⟩=some v3∧P.cell? ⟨b,4,none⟩=some v4∧P.cell? ⟨b,5,none⟩=some v5∧P.cell? ⟨b,6,none⟩=some v6∧P.cell? ⟨b,7,none⟩=some v7∧P.cell? ⟨b,8,none⟩=some v8∧P.cell? ⟨b,9,none⟩=some v9∧P.cell? ⟨b,10,none⟩=some v10∧P.cell? ⟨b,11,none⟩=some v11∧P.cell? ⟨b,12,none⟩=some v12:=
 ⟨h.cell (i:=0) rfl,h.cell (i:=1) rfl,h.cell (i:=2) rfl,h.cell (i:=3) rfl,h.cell (i:=4) rfl,h.cell (i:=5) rfl,h.cell (i:=6) rfl,h.cell (i:=7) rfl,h.cell (i:=8) rfl,h.cell (i:=9) rfl,h.cell (i:=10) rfl,h.cell (i:=11) rfl,h.cell (i:=12) rfl⟩
theorem ret_w{P:World}{g:Nat}{c:Array Value}{fn:Func}{p:Tmp}{tmps:Array Value}(h:fn.results= #[.cell p 83])(hp:tmps.getD p undef= .pointer (some ⟨g,0,none⟩))(lp:rowLen P g=70)(rp:rowAt P g 0 70=c):(results fn tmps).run Tryz.prog P= .ok (.agg c) P:=by
 subst rp
 have hp':=hp
 have qhp:=run_ld (Q:=Tryz.prog) (i:=0) agg_world size_world (P:=P) (g:=g) tB
 simp at hp'
 simp only[results,h]
 simp[Sem.run_bind,Result.andThen,asAddr,hp',qhp]
theorem madeR_text(l:List Rec)(x:RawD):(madeR l x).text.size≤40:=by
 unfold madeR
 split
 ·exact Nat.zero_le _
 ·split
  ·exact Nat.zero_le _
  ·show((x.text.data.toList.take 40).map shownC).toArray.size≤40
   simp only[List.size_toArray,List.length_map,List.length_take]
   omega
theorem sqSmall_of{l:List Rec}(h:checkB l=true):SqSmall l:=by
 obtain⟨_,h2,_⟩:=checkB_iff.1 h
 intro r hr
 have:=h2 r hr
 simp only[recOk,isPlaceB,Bool.and_eq_true,inB_spec] at this
 omega
def OffR(w w':World)(O':OffD)(j':Int)(L':OffL)(nc:List Value)(j:Int):Prop:=offQ O' L'=nc∧j'=j∧OffA w.heap.size w' O' L'
theorem note_q(O:OffD)(L:OffL)(oc:List Value)(ho:offQ O L=oc)(w:World)(r:Rec)(h:OffY w O L)(htx:r.text.size≤9223372036854775807):
 Calls Tryz.prog 40 #[.agg oc.toArray,recV r] w fun e w'=> ∃(L':OffL) (nc rc:List Value) (j:Int),e= .returned (.tuple #[.agg nc.toArray,.agg rc.toArray,.int .i64 j])∧Whole nc.toArray 17∧Whole rc.toArray 11∧nc.length=17∧rc.length=11∧Hid (OffR w w' (noteO O r) (noteE O r) L' nc j)∧Ext w w':=by
 subst ho
 refine(Note_any O L w r h htx).mono ?_
 rintro e w' ⟨L',rfl,hA,hx⟩
 exact⟨L',offQ (noteO O r) L',recC (noteR O r),_,rfl,offQ_whole _ _,one11 _ _ _ _ _ _ _ _ _ _ _,rfl,rfl,hid ⟨rfl,rfl,hA⟩,hx⟩
def MovR(w w':World)(Ls:Nat→OffL)(A:Option Addr)(na:Nat)(W':WD)(Ls':Nat→OffL)(A':Option Addr)(n' c':Nat):Prop:=
 WorldY w' W' Ls' A' n' c'∧(∀g,g<w.heap.size→WorldF g Ls A na→WorldF g Ls' A' n')∧Ext w w'
section
variable{n na c p:Nat}{W W' W0:WD}{G:Gh}{m:MoveD}{Ls:Nat→OffL}{A A':Option Addr}{w R P Q:World}{O':OffD}{L':OffL}{wq nc:List Value}{base hi n' c':Nat}{way:List MsgD}{e j:Int}
theorem off_nat{x:Int}(hp:x=p):x.toNat=p:=by omega
theorem movedW_note(hp:m.a % 4=p)(hd:10≤m.what % 12):movedW W m=noteW W p (madeR (W.off p).m.recs m.x):=by
 rw[movedW,if_neg tB,if_neg tB,if_neg tB,if_neg tB,off_nat hp]
theorem movedW_grant(hp:m.a % 4=p)(hd:8≤m.what % 12)(hd':m.what % 12≤9):movedW W m=grantW W p (1+m.b % 20) (madeR (W.off p).m.recs m.x).to (madeR (W.off p).m.recs m.x).day ((madeR (W.off p).m.recs m.x).day+m.x.a6 % 12):=by
 rw[movedW,if_neg tB,if_neg tB,if_neg tB,if_pos tB,off_nat hp]
theorem movedW_rest(hp:m.a % 4=p)(hd:m.what % 12=0):movedW W m=restW W p m.k0 m.k1:=by
 rw[movedW,if_pos hd,off_nat hp]
theorem movedW_offer(hp:m.a % 4=p)(hd:1≤m.what % 12)(hd':m.what % 12≤2):movedW W m=offerW W p (m.b % 4):=by
 rw[movedW,if_neg tB,if_pos hd',off_nat hp]
theorem mov_err(hY:WorldY w W Ls A na c)(hs:W'=errW W W.way e)(hx:Ext w R):MovR w R Ls A na W' Ls A na c:=by
 subst hs
 exact⟨⟨(hY.of_ext hx).o,(hY.of_ext hx).m⟩,fun _ _ h=>h,hx⟩
theorem mov_ok(hI:WI n W G)(hY:WorldY w W Ls A na c)(hp:p<4)(hW:movedW W m=W')(hs:W'=setW W p O' W.way)(hx:Ext w R)(hA:OffA base R O' L')(hb:w.heap.size≤base):MovR w R Ls A na W' (upd Ls p L') A na c:=by
 obtain⟨G',h1,_⟩:=hI.moved m
 rw[hW,hs] at h1
 subst hs
 obtain⟨h2,h3⟩:=WorldY.new h1 hp hY hx hA hb
 exact⟨h2,h3,hx⟩
theorem fin_err(hs:W'=errW W W.way e)(hq:worldC ⟨W.off,W.way,0⟩ Ls A na c=wq)(hM:MovR w R Ls A na W' Ls A na c):∃ Ls' A' n' c',Ending.returned (.agg (wq.set 69 (.int .i64 e)).toArray)= .returned (.agg (worldC W' Ls' A' n' c').toArray)∧MovR w R Ls A na W' Ls' A' n' c':=by
 subst hs hq
 exact⟨Ls,A,na,c,rfl,hM⟩
theorem fin_ok(hp:p<4)(hs:W'=setW W p O' W.way)(hq:worldC ⟨W.off,W.way,0⟩ Ls A na c=wq)(hn:offQ O' L'=nc)(hM:MovR w R Ls A na W' (upd Ls p L') A na c):∃ Ls' A' n' c',Ending.returned (.agg (putC (wq.set 69 (.int .i64 0)) (p * 17) nc).toArray)= .returned (.agg (worldC W' Ls' A' n' c').toArray)∧MovR w R Ls A na W' Ls' A' n' c':=by
 subst hs hq hn
 refine⟨_,A,na,c,?_,hM⟩
 rw[worldC_set_err,putC,worldC_put _ _ _ _ _ hp]
 rfl
def OffZ(base hi:Nat)(P:World)(O:OffD)(L:OffL):Prop:=OffA base P O L∧∀ g,hi≤g→OffF g L
theorem OffZ.mk(h:OffA base P O' L'):OffZ base P.heap.size P O' L':=⟨h,fun _ hg=>h.farHi hg⟩
theorem OffZ.alloc(h:OffZ base hi P O' L')(o:Obj):OffZ base hi (P.alloc o) O' L':=⟨h.1.alloc o,h.2⟩
theorem OffZ.drew(h:OffZ base hi P O' L'):OffZ base hi P.drew O' L':=⟨h.1.drew,h.2⟩
theorem OffZ.ext(h:OffZ base hi P O' L')(E:Array Obj)(d:Nat):OffZ base hi (P.ext E d) O' L':=⟨h.1.of_ext ((Ext.refl P).ext E d),h.2⟩
theorem OffZ.cells{g i:Nat}{vs:List Value}(h:OffZ base hi P O' L')(hg:g<base∨hi≤g):OffZ base hi (P.setCells g i vs) O' L':=⟨hg.elim (fun hg=>h.1.cells hg) fun hg=>h.1.cellsF (h.2 g hg),h.2⟩
theorem OffZ.set{g i:Nat}{v:Value}(h:OffZ base hi P O' L')(hg:g<base):OffZ base hi (P.setCell ⟨g,i,none⟩ v) O' L':=⟨h.1.set hg,h.2⟩
theorem offz_ex(h:OffA base P O' L'):∃ bs hi,bs=base∧hi=P.heap.size∧OffZ bs hi P O' L':=⟨_,_,rfl,rfl,OffZ.mk h⟩
theorem whole_len{l:List Value}(h:Whole l.toArray n):l.length=n:=by simpa using h.1
theorem lw_alloc{g:Nat}{o:Obj}(h:g<P.heap.size):g<(P.alloc o).heap.size:=by rw[World.size_alloc];omega
theorem lw_ext{g d:Nat}{E:Array Obj}(h:g<P.heap.size):g<(P.ext E d).heap.size:=by rw[size_ext];omega
theorem lw_drew{g:Nat}(h:g<P.heap.size):g<P.drew.heap.size:=h
theorem lw_set{g:Nat}{a:Addr}{v:Value}(h:g<P.heap.size):g<(P.setCell a v).heap.size:=by rw[World.size_setCell];exact h
theorem lw_cells{g b i:Nat}{vs:List Value}(h:g<P.heap.size):g<(P.setCells b i vs).heap.size:=by rw[size_cells];exact h
theorem fars{b N:Nat}(h:b<N):((∀x,b<N+x)∧(∀x y,b<N+x+y)∧(∀x y z,b<N+x+y+z)∧b≤N∧(∀x,b≤N+x)∧(∀x y,b≤N+x+y)∧(∀x y z,b≤N+x+y+z))∧(¬(N=b)∧(∀x,¬(N+x=b))∧(∀x y,¬(N+x+y=b))∧(∀x y z,¬(N+x+y+z=b)))∧(¬(b=N)∧(∀x,¬(b=N+x))∧(∀x y,¬(b=N+x+y))∧(∀x y z,¬(b=N+x+y+z))):=by
 refine⟨⟨fun _=> ?_,fun _ _=> ?_,fun _ _ _=> ?_,?_,fun _=> ?_,fun _ _=> ?_,fun _ _ _=> ?_⟩,⟨?_,fun _=> ?_,fun _ _=> ?_,fun _ _ _=> ?_⟩,?_,fun _=> ?_,fun _ _=> ?_,fun _ _ _=> ?_⟩ <;> omega
theorem grant_q(O:OffD)(L:OffL)(oc:List Value)(ho:offQ O L=oc)(w:World)(s t d u:Int)(h:OffY w O L):
 Calls Tryz.prog 42 #[.agg oc.toArray,.int .i64 s,.int .i64 t,.int .i64 d,.int .i64 u] w fun e w'=> ∃(L':OffL) (nc rc:List Value) (j:Int),e= .returned (.tuple #[.agg nc.toArray,.agg rc.toArray,.int .i64 j])∧Whole nc.toArray 17∧Whole rc.toArray 11∧nc.length=17∧rc.length=11∧Hid (OffR w w' (grantO O s t d u) (grantE O s t d u) L' nc j)∧Ext w w':=by
 subst ho
 refine(Grant_any O L w s t d u h).mono ?_
 rintro e w' ⟨L',rfl,hA,hx⟩
 exact⟨L',offQ (grantO O s t d u) L',recC (grantR O s t d u),_,rfl,offQ_whole _ _,one11 _ _ _ _ _ _ _ _ _ _ _,rfl,rfl,hid ⟨rfl,rfl,hA⟩,hx⟩
@[go_sem] theorem nes1(a b:Nat):(a+1+b=a)=False:=eq_false tB
@[go_sem] theorem nes2(a b c:Nat):(a+1+b+c=a)=False:=eq_false tB
@[go_sem] theorem nes3(a b:Nat):(a=a+1+b)=False:=eq_false tB
@[go_sem] theorem nes4(a b c:Nat):(a=a+1+b+c)=False:=eq_false tB
theorem szd:P.drew.heap.size=P.heap.size:=rfl
end
end Go.Proofs.YtekjdeibnfaehaaGreat
set_option linter.unusedSimpArgs false
set_option linter.unusedVariables false
namespace Go.Proofs.YtekjdeibnfaehaaGreat
open Go Go.RowKit
set_option maxRecDepth 100000 in
set_option maxHeartbeats 16000000 in
theorem moved_note{n:Nat}{G:Gh}(W:WD)(Ls:Nat→OffL)(A:Option Addr)(na c:Nat)(mv:MoveD)(w:World)(hI:WI n W G)(hY:WorldY w W Ls A na c)(hx:mv.x.text.size≤9223372036854775807)
 (hk0: -9223372036854775808≤mv.k0) (hk0':mv.k0≤9223372036854775807) (hk1: -9223372036854775808≤mv.k1) (hk1':mv.k1≤9223372036854775807) (hlong:na≤100000) (HD:Hid (10≤mv.what % 12)):
 Calls Tryz.prog 38 #[.agg (worldC W Ls A na c).toArray,mvV mv] w fun e w'=> ∃Ls' A' n' c',e= .returned (.agg (worldC (movedW W mv) Ls' A' n' c').toArray)∧MovR w w' Ls A na (movedW W mv) Ls' A' n' c':=by
 have HI:=hid hI
 have HY:=hid hY
 have HK:=hid (show _∧_∧_∧_ from⟨hk0,hk0',hk1,hk1'⟩)
 have Hx:=hid hx
 have Hlong:=hid hlong
 clear hI hY hk0 hk0' hk1 hk1' hx hlong
 obtain⟨B,hB⟩:∃ B:Nat,w.heap.size=B:=⟨_,rfl⟩
 have HB:=hid hB
 obtain⟨p,hp⟩:∃ p:Nat,mv.a % 4=p:=⟨(mv.a % 4).toNat,by omega⟩
 have hp4:p<4:=by omega
 have hpi:(p:Int)<4:=by omega
 obtain⟨W',hW'⟩:∃ W',movedW W mv=W':=⟨_,rfl⟩
 rw[hW']
 have HW:=hid hW'
 obtain⟨wc,hwc⟩:∃ wc,worldC W Ls A na c=wc:=⟨_,rfl⟩
 obtain⟨zc,hzc⟩:∃ zc,worldC zeroW (fun _=>zL) none 0 0=zc:=⟨_,rfl⟩
 have hzw:=zero_world
 rw[hwc]
 rw[hzc] at hzw
 have Hwc:=hid hwc
 have Hzc:=hid hzc
 clear hW' hB hwc hzc
 go_enter Tryz.func38,Tryz.ntmps38
 go_wp2_with fail
 refine(Mod_any _ _ tN tN _).mono ?_
 rintro e w1 ⟨rfl,rfl⟩
 obtain⟨P0,hP0⟩:∃ P0,((w.alloc (.cells wc.toArray 83)).alloc (.cells (mvC mv).toArray 90)).alloc (.cells zc.toArray 83)=P0:=⟨_,rfl⟩
 simp only[hP0]
 have b0:BoxC P0 B (worldC W Ls A na c) 83:=by rw[Hwc.out,←hP0];exact((BoxC.new_at _ _ HB.out.symm).alloc _).alloc _
 have b1:BoxC P0 (B+1) (mvC mv) 90:=by rw[←hP0];exact(BoxC.new_at _ _ qH).alloc _
 have b2:BoxC P0 (B+1+1) zc 83:=by rw[←hP0];exact BoxC.new_at _ _ qH
 have xP:Hid (Ext w P0):=hid qh
 have zP:P0.heap.size=B+1+1+1:=by rw[←hP0];simp[HB.out]
 simp only[HB.out]
 have c0:=b0.world
 rw[Hwc.out] at c0
 obtain⟨oc,hoc⟩:∃ oc,offQ (W.off p) (Ls p)=oc:=⟨_,rfl⟩
 have ro:rowAt P0 B (p * 17) 17=oc.toArray:=by rw[←hoc];exact b0.worldOff hp4
 have wo:Whole oc.toArray 17:=by rw[←hoc];exact offQ_whole _ _
 have lo:oc.length=17:=by rw[←hoc];rfl
 have Hoc:=hid hoc
 clear hoc
 have c1:=b1.c13
 have t0:=b0.lt
 have t1:=b1.lt
 have f0:=b0.frozen
 have B0:=hid b0
 have B1:=hid b1
 have B2:=hid b2
 clear b0 b1 b2 hP0
 rw[hp]
 have ns:¬ (B+1+1+1=B+1):=by omega
 have nb:¬ (B+1+1+1=B):=by omega
 have nss:¬ (B+1+1=B):=by omega
 have hpt:17+p * 17≤70:=by omega
 have hpt2:p * 17+17≤70:=by omega
 have hpt3:p * 17≤53:=by omega
 go_wp2_with fail
 refine(Mod_any _ _ tN tN _).mono ?_
 rintro e w1 ⟨rfl,rfl⟩
 obtain⟨Q,hQ⟩:∃ Q,((P0.alloc (.cells #[.int .i64 0,.slice none 0 0,.int .i64 0,.slice none 0 0,.int .i64 0,.slice none 0 0,.int .i64 0,.int .i64 0,.slice none 0 0,.slice none 0 0,.slice none 0 0,.slice none 0 0,.slice none 0 0,.slice none 0 0,.slice none 0 0,.slice none 0 0,.slice none 0 0] 76)).setCells (B+1+1+1) 0 oc).setCell ⟨B,69,none⟩ (.int .i64 0)=Q:=⟨_,rfl⟩
 simp only[hQ]
 have q0:BoxC Q B (worldC ⟨W.off,W.way,0⟩ Ls A na c) 83:=by rw[←hQ];exact(BoxC.cellsOther nb _ _ (B0.out.alloc _)).set 69 _
 have q1:BoxC Q (B+1) (mvC mv) 90:=by rw[←hQ];exact(BoxC.cellsOther tB _ _ (B1.out.alloc _)).other _ _ tB
 have q2:BoxC Q (B+1+1) zc 83:=by rw[←hQ];exact(BoxC.cellsOther tB _ _ (B2.out.alloc _)).other _ _ tB
 have q3:BoxC Q (B+1+1+1) oc 76:=by rw[←hQ];exact BoxC.other qi _ _ tB
 have XQ:Hid (Ext w Q):=hid qj
 have Q0:=hid q0
 have Q1:=hid q1
 have Q2:=hid q2
 have Q3:=hid q3
 have I:=hid (HI.out.o p hp4)
 have hoy:=hid ((HY.out.o p hp4).of_ext XQ.out)
 have c1:=q1.c13
 have o5:=q3.cell (i:=5) (v:=.slice (Ls p).Am (Ls p).nm (Ls p).cm) qk
 have lq3:rowLen Q (B+1+1+1)=17:=q3.len.trans lo
 have rq3:rowAt Q (B+1+1+1) 0 17=oc.toArray:=by have:=q3.row;rw[lo] at this;exact this
 obtain⟨wq,hwq⟩:∃ wq,worldC ⟨W.off,W.way,0⟩ Ls A na c=wq:=⟨_,rfl⟩
 obtain⟨w68,w69,lq0,rq0⟩:=q0.world
 rw[hwq] at rq0
 have wwq:Whole wq.toArray 70:=by rw[←hwq];exact worldC_whole _ _ _ _ _
 have wset:∀ e:Int,Whole (wq.set 69 (.int .i64 e)).toArray 70:=fun e=>whole_seti 69 e wwq
 have Hwq:=hid hwq
 clear hwq
 have t0:=q0.lt
 have t1:=q1.lt
 have t2:=q2.lt
 have t3:=q3.lt
 have bfa:(∀x,B<Q.heap.size+x)∧(∀x y,B<Q.heap.size+x+y)∧(∀x y z,B<Q.heap.size+x+y+z)∧(∀x,B≤Q.heap.size+x)∧(∀x y,B≤Q.heap.size+x+y)∧(∀x y z,B≤Q.heap.size+x+y+z):=⟨fun _=>by omega,fun _ _=>by omega,fun _ _ _=>by omega,fun _=>by omega,fun _ _=>by omega,fun _ _ _=>by omega⟩
 have bfb:(∀x,B+1<Q.heap.size+x)∧(∀x y,B+1<Q.heap.size+x+y)∧(∀x y z,B+1<Q.heap.size+x+y+z)∧(∀x,B+1≤Q.heap.size+x)∧(∀x y,B+1≤Q.heap.size+x+y)∧(∀x y z,B+1≤Q.heap.size+x+y+z):=⟨fun _=>by omega,fun _ _=>by omega,fun _ _ _=>by omega,fun _=>by omega,fun _ _=>by omega,fun _ _ _=>by omega⟩
 have bfc:(∀x,B+1+1<Q.heap.size+x)∧(∀x y,B+1+1<Q.heap.size+x+y)∧(∀x y z,B+1+1<Q.heap.size+x+y+z)∧(∀x,B+1+1≤Q.heap.size+x)∧(∀x y,B+1+1≤Q.heap.size+x+y)∧(∀x y z,B+1+1≤Q.heap.size+x+y+z):=⟨fun _=>by omega,fun _ _=>by omega,fun _ _ _=>by omega,fun _=>by omega,fun _ _=>by omega,fun _ _ _=>by omega⟩
 have nfa:¬ (Q.heap.size=B)∧(∀x,¬(Q.heap.size+x=B))∧(∀x y,¬(Q.heap.size+x+y=B))∧(∀x y z,¬(Q.heap.size+x+y+z=B)):=⟨by omega,fun _=>by omega,fun _ _=>by omega,fun _ _ _=>by omega⟩
 have nfb:¬ (Q.heap.size=B+1)∧(∀x,¬(Q.heap.size+x=B+1))∧(∀x y,¬(Q.heap.size+x+y=B+1))∧(∀x y z,¬(Q.heap.size+x+y+z=B+1)):=⟨by omega,fun _=>by omega,fun _ _=>by omega,fun _ _ _=>by omega⟩
 have nfc:¬ (Q.heap.size=B+1+1)∧(∀x,¬(Q.heap.size+x=B+1+1))∧(∀x y,¬(Q.heap.size+x+y=B+1+1))∧(∀x y z,¬(Q.heap.size+x+y+z=B+1+1)):=⟨by omega,fun _=>by omega,fun _ _=>by omega,fun _ _ _=>by omega⟩
 have nga:¬ (B=Q.heap.size)∧(∀x,¬(B=Q.heap.size+x))∧(∀x y,¬(B=Q.heap.size+x+y))∧(∀x y z,¬(B=Q.heap.size+x+y+z)):=⟨by omega,fun _=>by omega,fun _ _=>by omega,fun _ _ _=>by omega⟩
 have ngb:¬ (B+1=Q.heap.size)∧(∀x,¬(B+1=Q.heap.size+x))∧(∀x y,¬(B+1=Q.heap.size+x+y))∧(∀x y z,¬(B+1=Q.heap.size+x+y+z)):=⟨by omega,fun _=>by omega,fun _ _=>by omega,fun _ _ _=>by omega⟩
 have ngc:¬ (B+1+1=Q.heap.size)∧(∀x,¬(B+1+1=Q.heap.size+x))∧(∀x y,¬(B+1+1=Q.heap.size+x+y))∧(∀x y z,¬(B+1+1=Q.heap.size+x+y+z)):=⟨by omega,fun _=>by omega,fun _ _=>by omega,fun _ _ _=>by omega⟩
 have wB:w.heap.size≤B:=by have:=HB.out;omega
 have wB2:w.heap.size≤B+1+1:=by omega
 have wQ:w.heap.size≤Q.heap.size:=by omega
 have e0le:B≤Q.heap.size:=by omega
 have e1le:B+1≤Q.heap.size:=by omega
 have e2le:B+1+1≤Q.heap.size:=by omega
 have e1lt:B+1<Q.heap.size:=by omega
 have f0:=q0.frozen
 have lq2:rowLen Q (B+1+1)=70:=q2.len.trans ql
 clear c0 ro hzw zP hQ q0 q1 q2 q3 B0 B1 B2 xP hpt hpt2
 have hd:=HD.out
 clear HD
 obtain⟨d,hdd⟩:∃ d,mv.what % 12=d:=⟨_,rfl⟩
 rw[hdd]
 rw[hdd] at hd
 have Hdd:=hid hdd
 clear hdd
 have hdn:(d==0)=false∧(d==1)=false∧(d==2)=false∧(d==3)=false∧(d==4)=false∧(d==5)=false∧(d==6)=false∧(d==7)=false∧(d==8)=false∧(d==9)=false:=by simp only[beq_eq_false_iff_ne];omega
 have Hd:=hid hd
 clear hd
 have hml:=I.out.long.trans I.out.long.symm
 have hlm:=(HY.out.o p hp4).l
 have hsq:=sqSmall_of I.out.check
 have h80:=(checkB_iff.1 I.out.check).1
 have hxt:=Hx.out
 have hrr:=hoy.out.r
 have htm:(madeR (W.off p).m.recs mv.x).text.size≤9223372036854775807:=by have:=madeR_text (W.off p).m.recs mv.x;omega
 go_wp2_with fail
 refine wp_region_ord (.f 0 (.f 1 (.f 2 (.f 3 (.f 4 (.f 5 (.k3 6 (.k3 7 (.f 8 (.f 9 (.f 10 (.f 11 (.k 12 (.a 13 (.a 14 (.a 15 (.f 16 .d)))) 13 (.a 12 (.a 14 (.a 15 (.f 16 .d))))))))) 12 (.k 7 (.f 8 (.f 9 (.f 10 (.f 11 (.a 13 (.a 14 (.a 15 (.f 16 .d)))))))) 13 (.a 7 (.f 8 (.f 9 (.f 10 (.f 11 (.a 14 (.a 15 (.f 16 .d))))))))) 13 (.k 7 (.f 8 (.f 9 (.f 10 (.f 11 (.a 12 (.a 14 (.a 15 (.f 16 .d)))))))) 12 (.a 7 (.f 8 (.f 9 (.f 10 (.f 11 (.a 14 (.a 15 (.f 16 .d)))))))))) 12 (.k 6 (.k 7 (.f 8 (.f 9 (.f 10 (.f 11 (.a 13 (.a 14 (.a 15 (.f 16 .d)))))))) 13 (.a 7 (.f 8 (.f 9 (.f 10 (.f 11 (.a 14 (.a 15 (.f 16 .d))))))))) 13 (.a 6 (.a 7 (.f 8 (.f 9 (.f 10 (.f 11 (.a 14 (.a 15 (.f 16 .d)))))))))) 13 (.k 6 (.k 7 (.f 8 (.f 9 (.f 10 (.f 11 (.a 12 (.a 14 (.a 15 (.f 16 .d)))))))) 12 (.a 7 (.f 8 (.f 9 (.f 10 (.f 11 (.a 14 (.a 15 (.f 16 .d))))))))) 12 (.a 6 (.a 7 (.f 8 (.f 9 (.f 10 (.f 11 (.a 14 (.a 15 (.f 16 .d))))))))))))))))) (Kept (Q) (B) (B)) tG tG (Kept.refl _ _ _).drew ?_
 repeat' first|(refine oK ?_)|(refine wpOrd_call rfl rfl rfl Tryz.call100 (fun R hR=> ?_);go_simp;refine(Made_any _ _ _ (W.off p).m.recs mv.x hlm tB hsq hxt _ (hrr.of_ext exI)).mono ?_;rintro e w1 ⟨rfl,EM,dM,rfl⟩;refine hR _ _ ⟨_,rfl,qm,?_⟩;clear hR R;simp only[Act.put,zp])|(refine wpOrd_call rfl rfl rfl Tryz.call40 (fun R hR=> ?_);go_simp;refine(note_q (W.off p) (Ls p) oc Hoc.out _ (madeR (W.off p).m.recs mv.x) (hoy.out.of_ext exI) htm).mono ?_;rintro e w1 ⟨LN,nc,rc,jn,rfl,wn,wr,ln,lr,hN,⟨EN,dN,rfl⟩⟩;refine hR _ _ ⟨_,rfl,qm,?_⟩;clear hR R;simp only[Act.put,zp])|(refine wpOrd_act rfl rfl (fun K hK=> ?_);go_simp;refine hK _ _ ⟨qm,?_⟩;clear hK K;try simp only[Act.put,zp])|refine wpOrd_fork ?_ ?_|refine wpOrd_fork3 ?_ ?_ ?_|refine wpOrd_nil ?_
 all_goals
  have hs:=movedW_note (W:=W) hp (by rw[Hdd.out];exact Hd.out)
  rw[HW.out,noteW] at hs
  have wput:=fun e=>whole_put (wset e) wn hpt3
  have hN1:=hN.out
  obtain⟨bs,hi,hbs,hhi,hZ⟩:=offz_ex hN1.2.2
  rw[hN1.2.1] at hs
  have Hs:=hid hs
  have HZ:=hid hZ
  have HN1:=hid hN1.1
  have Hbs:=hid hbs
  have Hhi:=hid hhi
  clear hN1 hs hN hZ hbs hhi
  by_cases hj:jn=0
  ·subst hj
   go_wp2_with fail
   have hs:=Hs.out
   simp only[if_true] at hs
   have hZ:=HZ.out
   have hbs:=Hbs.out
   have hhi:=Hhi.out
   simp only[World.size_alloc,size_ext,size_cells,World.size_setCell,szd] at hbs hhi
   have bB:B<bs:=by omega
   have bB2:B+1+1<bs:=by omega
   have wbs:w.heap.size≤bs:=by omega
   refine bodyPost_ret (ret_w rfl rfl qn (rowAt_setCells_same (whole_len (wput 0)) (Nat.le_of_eq (Eq.symm qn)))) rfl ?_
   exact fin_ok hp4 hs Hwq.out HN1.out (mov_ok (base:=bs) HI.out HY.out hp4 HW.out hs qo (And.left (show OffZ bs hi _ _ _ from qp)) wbs)
  ·have hj2:(jn==0)=false:=by simpa using hj
   go_wp2_with fail
   have hs:=Hs.out
   rw[if_neg hj] at hs
   refine bodyPost_ret (ret_w rfl rfl qn (rowAt_setCells_same (whole_len (wset jn)) (Nat.le_of_eq (Eq.symm qn)))) rfl ?_
   exact fin_err hs Hwq.out (mov_err HY.out hs qo)
end Go.Proofs.YtekjdeibnfaehaaGreat
set_option linter.unusedSimpArgs false
set_option linter.unusedVariables false
namespace Go.Proofs.YtekjdeibnfaehaaGreat
open Go Go.RowKit
theorem rest_q(O:OffD)(L:OffL)(oc:List Value)(ho:offQ O L=oc)(w:World)(k0 k1:Int)(h:OffY w O L)(hk0: -9223372036854775808≤k0)(hk0':k0≤9223372036854775807)(hk1: -9223372036854775808≤k1)(hk1':k1≤9223372036854775807):
 Calls Tryz.prog 48 #[.agg oc.toArray,.agg #[.int .i64 k0,.int .i64 k1]] w fun e w'=> ∃(L':OffL) (nc:List Value) (j:Int),e= .returned (.tuple #[.agg nc.toArray,.int .i64 j])∧Whole nc.toArray 17∧nc.length=17∧Hid (OffR w w' (restO O k0 k1) (restE O k0 k1) L' nc j)∧Ext w w':=by
 subst ho
 refine(Restart_any O L w k0 k1 h hk0 hk0' hk1 hk1').mono ?_
 rintro e w' ⟨L',rfl,hA,hx⟩
 exact⟨L',offQ (restO O k0 k1) L',_,rfl,offQ_whole _ _,rfl,hid ⟨rfl,rfl,hA⟩,hx⟩
set_option maxRecDepth 100000 in
set_option maxHeartbeats 16000000 in
theorem moved_rest{n:Nat}{G:Gh}(W:WD)(Ls:Nat→OffL)(A:Option Addr)(na c:Nat)(mv:MoveD)(w:World)(hI:WI n W G)(hY:WorldY w W Ls A na c)(hx:mv.x.text.size≤9223372036854775807)
 (hk0: -9223372036854775808≤mv.k0) (hk0':mv.k0≤9223372036854775807) (hk1: -9223372036854775808≤mv.k1) (hk1':mv.k1≤9223372036854775807) (hlong:na≤100000) (HD:Hid (mv.what % 12=0)):
 Calls Tryz.prog 38 #[.agg (worldC W Ls A na c).toArray,mvV mv] w fun e w'=> ∃Ls' A' n' c',e= .returned (.agg (worldC (movedW W mv) Ls' A' n' c').toArray)∧MovR w w' Ls A na (movedW W mv) Ls' A' n' c':=by
 have HI:=hid hI
 have HY:=hid hY
 have HK:=hid (show _∧_∧_∧_ from⟨hk0,hk0',hk1,hk1'⟩)
 have Hx:=hid hx
 have Hlong:=hid hlong
 clear hI hY hk0 hk0' hk1 hk1' hx hlong
 obtain⟨B,hB⟩:∃ B:Nat,w.heap.size=B:=⟨_,rfl⟩
 have HB:=hid hB
 obtain⟨p,hp⟩:∃ p:Nat,mv.a % 4=p:=⟨(mv.a % 4).toNat,by omega⟩
 have hp4:p<4:=by omega
 have hpi:(p:Int)<4:=by omega
 obtain⟨W',hW'⟩:∃ W',movedW W mv=W':=⟨_,rfl⟩
 rw[hW']
 have HW:=hid hW'
 obtain⟨wc,hwc⟩:∃ wc,worldC W Ls A na c=wc:=⟨_,rfl⟩
 obtain⟨zc,hzc⟩:∃ zc,worldC zeroW (fun _=>zL) none 0 0=zc:=⟨_,rfl⟩
 have hzw:=zero_world
 rw[hwc]
 rw[hzc] at hzw
 have Hwc:=hid hwc
 have Hzc:=hid hzc
 clear hW' hB hwc hzc
 go_enter Tryz.func38,Tryz.ntmps38
 go_wp2_with fail
 refine(Mod_any _ _ tN tN _).mono ?_
 rintro e w1 ⟨rfl,rfl⟩
 obtain⟨P0,hP0⟩:∃ P0,((w.alloc (.cells wc.toArray 83)).alloc (.cells (mvC mv).toArray 90)).alloc (.cells zc.toArray 83)=P0:=⟨_,rfl⟩
 simp only[hP0]
 have b0:BoxC P0 B (worldC W Ls A na c) 83:=by rw[Hwc.out,←hP0];exact((BoxC.new_at _ _ HB.out.symm).alloc _).alloc _
 have b1:BoxC P0 (B+1) (mvC mv) 90:=by rw[←hP0];exact(BoxC.new_at _ _ qH).alloc _
 have b2:BoxC P0 (B+1+1) zc 83:=by rw[←hP0];exact BoxC.new_at _ _ qH
 have xP:Hid (Ext w P0):=hid qh
 have zP:P0.heap.size=B+1+1+1:=by rw[←hP0];simp[HB.out]
 simp only[HB.out]
 have c0:=b0.world
 rw[Hwc.out] at c0
 obtain⟨oc,hoc⟩:∃ oc,offQ (W.off p) (Ls p)=oc:=⟨_,rfl⟩
 have ro:rowAt P0 B (p * 17) 17=oc.toArray:=by rw[←hoc];exact b0.worldOff hp4
 have wo:Whole oc.toArray 17:=by rw[←hoc];exact offQ_whole _ _
 have lo:oc.length=17:=by rw[←hoc];rfl
 have Hoc:=hid hoc
 clear hoc
 have c1:=b1.c13
 have t0:=b0.lt
 have t1:=b1.lt
 have f0:=b0.frozen
 have B0:=hid b0
 have B1:=hid b1
 have B2:=hid b2
 clear b0 b1 b2 hP0
 rw[hp]
 have ns:¬ (B+1+1+1=B+1):=by omega
 have nb:¬ (B+1+1+1=B):=by omega
 have nss:¬ (B+1+1=B):=by omega
 have hpt:17+p * 17≤70:=by omega
 have hpt2:p * 17+17≤70:=by omega
 have hpt3:p * 17≤53:=by omega
 go_wp2_with fail
 refine(Mod_any _ _ tN tN _).mono ?_
 rintro e w1 ⟨rfl,rfl⟩
 obtain⟨Q,hQ⟩:∃ Q,((P0.alloc (.cells #[.int .i64 0,.slice none 0 0,.int .i64 0,.slice none 0 0,.int .i64 0,.slice none 0 0,.int .i64 0,.int .i64 0,.slice none 0 0,.slice none 0 0,.slice none 0 0,.slice none 0 0,.slice none 0 0,.slice none 0 0,.slice none 0 0,.slice none 0 0,.slice none 0 0] 76)).setCells (B+1+1+1) 0 oc).setCell ⟨B,69,none⟩ (.int .i64 0)=Q:=⟨_,rfl⟩
 simp only[hQ]
 have q0:BoxC Q B (worldC ⟨W.off,W.way,0⟩ Ls A na c) 83:=by rw[←hQ];exact(BoxC.cellsOther nb _ _ (B0.out.alloc _)).set 69 _
 have q1:BoxC Q (B+1) (mvC mv) 90:=by rw[←hQ];exact(BoxC.cellsOther tB _ _ (B1.out.alloc _)).other _ _ tB
 have q2:BoxC Q (B+1+1) zc 83:=by rw[←hQ];exact(BoxC.cellsOther tB _ _ (B2.out.alloc _)).other _ _ tB
 have q3:BoxC Q (B+1+1+1) oc 76:=by rw[←hQ];exact BoxC.other qi _ _ tB
 have XQ:Hid (Ext w Q):=hid qj
 have Q0:=hid q0
 have Q1:=hid q1
 have Q2:=hid q2
 have Q3:=hid q3
 have I:=hid (HI.out.o p hp4)
 have hoy:=hid ((HY.out.o p hp4).of_ext XQ.out)
 have c1:=q1.c13
 have o5:=q3.cell (i:=5) (v:=.slice (Ls p).Am (Ls p).nm (Ls p).cm) qk
 have lq3:rowLen Q (B+1+1+1)=17:=q3.len.trans lo
 have rq3:rowAt Q (B+1+1+1) 0 17=oc.toArray:=by have:=q3.row;rw[lo] at this;exact this
 obtain⟨wq,hwq⟩:∃ wq,worldC ⟨W.off,W.way,0⟩ Ls A na c=wq:=⟨_,rfl⟩
 obtain⟨w68,w69,lq0,rq0⟩:=q0.world
 rw[hwq] at rq0
 have wwq:Whole wq.toArray 70:=by rw[←hwq];exact worldC_whole _ _ _ _ _
 have wset:∀ e:Int,Whole (wq.set 69 (.int .i64 e)).toArray 70:=fun e=>whole_seti 69 e wwq
 have Hwq:=hid hwq
 clear hwq
 have t0:=q0.lt
 have t1:=q1.lt
 have t2:=q2.lt
 have t3:=q3.lt
 have bfa:(∀x,B<Q.heap.size+x)∧(∀x y,B<Q.heap.size+x+y)∧(∀x y z,B<Q.heap.size+x+y+z)∧(∀x,B≤Q.heap.size+x)∧(∀x y,B≤Q.heap.size+x+y)∧(∀x y z,B≤Q.heap.size+x+y+z):=⟨fun _=>by omega,fun _ _=>by omega,fun _ _ _=>by omega,fun _=>by omega,fun _ _=>by omega,fun _ _ _=>by omega⟩
 have bfb:(∀x,B+1<Q.heap.size+x)∧(∀x y,B+1<Q.heap.size+x+y)∧(∀x y z,B+1<Q.heap.size+x+y+z)∧(∀x,B+1≤Q.heap.size+x)∧(∀x y,B+1≤Q.heap.size+x+y)∧(∀x y z,B+1≤Q.heap.size+x+y+z):=⟨fun _=>by omega,fun _ _=>by omega,fun _ _ _=>by omega,fun _=>by omega,fun _ _=>by omega,fun _ _ _=>by omega⟩
 have bfc:(∀x,B+1+1<Q.heap.size+x)∧(∀x y,B+1+1<Q.heap.size+x+y)∧(∀x y z,B+1+1<Q.heap.size+x+y+z)∧(∀x,B+1+1≤Q.heap.size+x)∧(∀x y,B+1+1≤Q.heap.size+x+y)∧(∀x y z,B+1+1≤Q.heap.size+x+y+z):=⟨fun _=>by omega,fun _ _=>by omega,fun _ _ _=>by omega,fun _=>by omega,fun _ _=>by omega,fun _ _ _=>by omega⟩
 have nfa:¬ (Q.heap.size=B)∧(∀x,¬(Q.heap.size+x=B))∧(∀x y,¬(Q.heap.size+x+y=B))∧(∀x y z,¬(Q.heap.size+x+y+z=B)):=⟨by omega,fun _=>by omega,fun _ _=>by omega,fun _ _ _=>by omega⟩
 have nfb:¬ (Q.heap.size=B+1)∧(∀x,¬(Q.heap.size+x=B+1))∧(∀x y,¬(Q.heap.size+x+y=B+1))∧(∀x y z,¬(Q.heap.size+x+y+z=B+1)):=⟨by omega,fun _=>by omega,fun _ _=>by omega,fun _ _ _=>by omega⟩
 have nfc:¬ (Q.heap.size=B+1+1)∧(∀x,¬(Q.heap.size+x=B+1+1))∧(∀x y,¬(Q.heap.size+x+y=B+1+1))∧(∀x y z,¬(Q.heap.size+x+y+z=B+1+1)):=⟨by omega,fun _=>by omega,fun _ _=>by omega,fun _ _ _=>by omega⟩
 have nga:¬ (B=Q.heap.size)∧(∀x,¬(B=Q.heap.size+x))∧(∀x y,¬(B=Q.heap.size+x+y))∧(∀x y z,¬(B=Q.heap.size+x+y+z)):=⟨by omega,fun _=>by omega,fun _ _=>by omega,fun _ _ _=>by omega⟩
 have ngb:¬ (B+1=Q.heap.size)∧(∀x,¬(B+1=Q.heap.size+x))∧(∀x y,¬(B+1=Q.heap.size+x+y))∧(∀x y z,¬(B+1=Q.heap.size+x+y+z)):=⟨by omega,fun _=>by omega,fun _ _=>by omega,fun _ _ _=>by omega⟩
 have ngc:¬ (B+1+1=Q.heap.size)∧(∀x,¬(B+1+1=Q.heap.size+x))∧(∀x y,¬(B+1+1=Q.heap.size+x+y))∧(∀x y z,¬(B+1+1=Q.heap.size+x+y+z)):=⟨by omega,fun _=>by omega,fun _ _=>by omega,fun _ _ _=>by omega⟩
 have wB:w.heap.size≤B:=by have:=HB.out;omega
 have wB2:w.heap.size≤B+1+1:=by omega
 have wQ:w.heap.size≤Q.heap.size:=by omega
 have e0le:B≤Q.heap.size:=by omega
 have e1le:B+1≤Q.heap.size:=by omega
 have e2le:B+1+1≤Q.heap.size:=by omega
 have e1lt:B+1<Q.heap.size:=by omega
 have f0:=q0.frozen
 have lq2:rowLen Q (B+1+1)=70:=q2.len.trans ql
 clear c0 ro hzw zP hQ q0 q1 q2 q3 B0 B1 B2 xP hpt hpt2
 have hd:=HD.out
 clear HD
 rw[hd]
 go_wp2_with fail
 refine(rest_q (W.off p) (Ls p) oc Hoc.out _ mv.k0 mv.k1 (hoy.out.of_ext exI) HK.out.1 HK.out.2.1 HK.out.2.2.1 HK.out.2.2.2).mono ?_
 rintro e w1 ⟨LN,nc,jn,rfl,wn,ln,hN,EN,dN,rfl⟩
 have hs:=movedW_rest (W:=W) hp hd
 rw[HW.out,restW] at hs
 have wput:=fun e=>whole_put (wset e) wn hpt3
 have hN1:=hN.out
 obtain⟨bs,hi,hbs,hhi,hZ⟩:=offz_ex hN1.2.2
 rw[hN1.2.1] at hs
 have Hs:=hid hs
 have HZ:=hid hZ
 have HN1:=hid hN1.1
 have Hbs:=hid hbs
 have Hhi:=hid hhi
 clear hN1 hs hN hZ hbs hhi
 by_cases hj:jn=0
 ·subst hj
  go_wp2_with fail
  have hs:=Hs.out
  simp only[if_true] at hs
  have hZ:=HZ.out
  have hbs:=Hbs.out
  have hhi:=Hhi.out
  simp only[World.size_alloc,size_ext,size_cells,World.size_setCell,szd] at hbs hhi
  have bB:B<bs:=by omega
  have bB2:B+1+1<bs:=by omega
  have wbs:w.heap.size≤bs:=by omega
  refine bodyPost_ret (ret_w rfl rfl qn (rowAt_setCells_same (whole_len (wput 0)) (Nat.le_of_eq (Eq.symm qn)))) rfl ?_
  exact fin_ok hp4 hs Hwq.out HN1.out (mov_ok (base:=bs) HI.out HY.out hp4 HW.out hs qo (And.left (show OffZ bs hi _ _ _ from qp)) wbs)
 ·have hj2:(jn==0)=false:=by simpa using hj
  go_wp2_with fail
  have hs:=Hs.out
  rw[if_neg hj] at hs
  refine bodyPost_ret (ret_w rfl rfl qn (rowAt_setCells_same (whole_len (wset jn)) (Nat.le_of_eq (Eq.symm qn)))) rfl ?_
  exact fin_err hs Hwq.out (mov_err HY.out hs qo)
end Go.Proofs.YtekjdeibnfaehaaGreat
set_option linter.unusedSimpArgs false
set_option linter.unusedVariables false
namespace Go.Proofs.YtekjdeibnfaehaaGreat
open Go Go.RowKit
theorem append_msg{W:World}{N:Nat}(ty:TypeId){v:Value}{l news:List MsgD}(hN:N≤W.heap.size)(hown:OwnM N W v l){A:Option Addr}{m c:Nat}(hm:m=news.length)(hr:Sl 14 W A m (news.flatMap msgC))(hlen:l.length+news.length≤1000000):
 ∃v' W',(Builtin.append_ #[81,81] ty #[v,.slice A m c]).run Tryz.prog W= .ok v' W'∧Below N W W'∧OwnM N W' v' (l++news):=by
 obtain⟨i0,hi,hz0,hz1,hz2⟩:=info_parts info_msg
 obtain⟨v',W',h1,h2,h3⟩:=run_append_b (P:=Tryz.prog) 81 ty 70 i0 _ 14 120 Tryz.underlying81 hi hz0 hz1 hz2 rfl tN hN hown (c:=c) hr (msgC_one _) tO tB
 refine⟨v',W',h1,h2,?_⟩
 unfold OwnM
 rw[List.length_append,List.flatMap_append,←hm]
 exact h3
theorem wpList_append_msg{P:Program}(hP:P=Tryz.prog){ops:Array Oper}{rest:List Oper}{o:Oper}{a:Act}{Q:Exit→Act→World→Prop}{W:World}(N:Nat)(hgd:o.guard=none)(s x:Operand)
 (ho:o.op= .call {callee:=.builtin .append,args:=#[s,x],argTypes:=#[81,81]}) {v:Value} {l:List MsgD} (news:List MsgD) (hs:a.eval s=v) (hN:N≤W.heap.size) (hown:OwnM N W v l)
 {A:Option Addr} {m c:Nat} (hv:a.eval x= .slice A m c) (hm:m=news.length) (hr:Sl 14 W A m (news.flatMap msgC)) (hlen:l.length+news.length≤1000000)
 (h:∀ v' W',Below N W W'→OwnM N W' v' (l++news)→wpList P ops Q rest (a.put o.dst v') W'):wpList P ops Q (o::rest) a W:=by
 obtain⟨v',W',h1,h2,h3⟩:=append_msg o.type hN hown (c:=c) hm hr hlen
 rw[←hP] at h1
 exact wpList_plain hgd fun _ hK=>wp_append_run s x _ _ ho hs hv h1 (hK _ _ (h v' W' h2 h3))
theorem wpOrd_append_msg{P:Program}(hP:P=Tryz.prog){ops:Array Oper}{Q:Exit→Act→World→Prop}{S:World→Prop}{i:Nat}{rest:Plan}{a:Act}{W:World}{o:Oper}(N:Nat)(hi:ops[i]? =some o)
 (hw:Region.wanted o (yielded ops a.tmps)=true) (s x:Operand) (ho:o.op= .call {callee:=.builtin .append,args:=#[s,x],argTypes:=#[81,81]})
 {v:Value} {l:List MsgD} (news:List MsgD) (hs:a.eval s=v) (hN:N≤W.heap.size) (hown:OwnM N W v l)
 {A:Option Addr} {m c:Nat} (hv:a.eval x= .slice A m c) (hm:m=news.length) (hr:Sl 14 W A m (news.flatMap msgC)) (hlen:l.length+news.length≤1000000)
 (h:∀ v' W',Below N W W'→OwnM N W' v' (l++news)→S W'∧wpOrd P ops Q S rest (a.put o.dst v') W'):wpOrd P ops Q S (.a i rest) a W:=by
 refine wpOrd_act hi hw fun K hK=> ?_
 obtain⟨v',W',h1,h2,h3⟩:=append_msg o.type hN hown (c:=c) hm hr hlen
 rw[←hP] at h1
 exact wp_append_run s x _ _ ho hs hv h1 (hK _ _ (h v' W' h2 h3))
theorem OwnM.empty(w:World)(base g:Nat)(hg:g=w.heap.size)(hb:base≤g):OwnM base (w.alloc (.cells #[] 70)) (.slice (some ⟨g,0,Option.none⟩) 0 0) []:=by
 subst hg
 exact ownsRow_empty w base _ _ hb
theorem wpOrd_amsg{P:Program}(hP:P=Tryz.prog){ops:Array Oper}{Q:Exit→Act→World→Prop}{S:World→Prop}{i:Nat}{rest:Plan}{a:Act}{W:World}{o:Oper}(X:World)(N:Nat)(hN:N=X.heap.size)(hi:ops[i]? =some o)
 (hw:Region.wanted o (yielded ops a.tmps)=true) (s x:Operand) (ho:o.op= .call {callee:=.builtin .append,args:=#[s,x],argTypes:=#[81,81]})
 {v:Value} {l:List MsgD} (news:List MsgD) (hs:a.eval s=v) (hx:Ext X W) (hown:OwnM N W v l)
 {A:Option Addr} {m c:Nat} (hv:a.eval x= .slice A m c) (hm:m=news.length) (hr:Sl 14 W A m (news.flatMap msgC)) (hlen:l.length+news.length≤1000000)
 (h:∀ v' E d,OwnM N (X.ext E d) v' (l++news)→S (X.ext E d)∧wpOrd P ops Q S rest (a.put o.dst v') (X.ext E d)):wpOrd P ops Q S (.a i rest) a W:=by
 refine wpOrd_append_msg hP N hi hw s x ho news hs t8 hown hv hm hr hlen fun v' W' hb ho'=> ?_
 obtain⟨E,d,rfl⟩:=hx.below_of hb (Nat.le_of_eq hN.symm)
 exact h _ _ _ ho'
theorem wp_named{P:Program}{C:Code}{Q:Exit→Act→World→Prop}{a:Act}{R:World}(h:∀ Y,Y=R→C.wp P Q a Y):C.wp P Q a R:=h R rfl
def MsgZ(base hi:Nat)(P:World)(A:Option Addr)(n c:Nat)(l:List MsgD):Prop:=MsgsA base P A n c l∧∀ g,hi≤g→Off A n g
section
variable{base hi n c:Nat}{P:World}{A:Option Addr}{l:List MsgD}
theorem MsgZ.mk(h:MsgsA base P A n c l):MsgZ base P.heap.size P A n c l:=⟨h,fun _ hg=>h.read.far hg⟩
theorem MsgZ.of_ext{P':World}(h:MsgZ base hi P A n c l)(hx:Ext P P'):MsgZ base hi P' A n c l:=⟨⟨h.1.1,h.1.2.1,h.1.2.2.1,h.1.2.2.2.of_ext hx⟩,h.2⟩
theorem MsgZ.alloc(h:MsgZ base hi P A n c l)(o:Obj):MsgZ base hi (P.alloc o) A n c l:=h.of_ext ((Ext.refl P).alloc o)
theorem MsgZ.drew(h:MsgZ base hi P A n c l):MsgZ base hi P.drew A n c l:=h.of_ext (Ext.refl P).drew
theorem MsgZ.ext(h:MsgZ base hi P A n c l)(E:Array Obj)(d:Nat):MsgZ base hi (P.ext E d) A n c l:=h.of_ext ((Ext.refl P).ext E d)
theorem MsgZ.cells{g i:Nat}{vs:List Value}(h:MsgZ base hi P A n c l)(hg:g<base∨hi≤g):MsgZ base hi (P.setCells g i vs) A n c l:=by
 have hoff:Off A n g:=hg.elim (fun hg=>h.1.far hg) fun hg=>h.2 g hg
 exact⟨⟨h.1.1,h.1.2.1,h.1.2.2.1,h.1.2.2.2.grown (gb_cells g vs i P) fun hn a ha he=>hoff hn a ha (Option.some.inj he)⟩,h.2⟩
theorem MsgZ.set{g i:Nat}{v:Value}(h:MsgZ base hi P A n c l)(hg:g<base∨hi≤g):MsgZ base hi (P.setCell ⟨g,i,none⟩ v) A n c l:=by
 have hoff:Off A n g:=hg.elim (fun hg=>h.1.far hg) fun hg=>h.2 g hg
 exact⟨⟨h.1.1,h.1.2.1,h.1.2.2.1,h.1.2.2.2.grown (gb_setCell P g i v) fun hn a ha he=>hoff hn a ha (Option.some.inj he)⟩,h.2⟩
end
section
variable{n na c p:Nat}{W W' W0:WD}{G:Gh}{m:MoveD}{Ls:Nat→OffL}{A A':Option Addr}{w R:World}{O':OffD}{L':OffL}{wq nc:List Value}{base base' n' c':Nat}{way:List MsgD}{e:Int}
def WayK(w:World)(Ls:Nat→OffL)(A:Option Addr)(na:Nat)(R:World)(A':Option Addr)(n' c':Nat)(way:List MsgD):Prop:=MsgsY R A' n' c' way∧∀ g,g<w.heap.size→WorldF g Ls A na→Off A' n' g
theorem WayK.old(hY:WorldY w W Ls A na c)(hx:Ext w R):WayK w Ls A na R A na c W.way:=⟨(hY.of_ext hx).m,fun _ _ h=>h.2⟩
theorem WayK.new(hM:MsgsA base R A' n' c' way)(hb:w.heap.size≤base):WayK w Ls A na R A' n' c' way:=⟨hM.read,fun _ hg _=>hM.far tB⟩
theorem mov_way(hI:WI n W G)(hY:WorldY w W Ls A na c)(hp:p<4)(hW:movedW W m=W')(hs:W'=setW W p O' way)(hx:Ext w R)(hA:OffA base R O' L')(hM:WayK w Ls A na R A' n' c' way)(hb:w.heap.size≤base):MovR w R Ls A na W' (upd Ls p L') A' n' c':=by
 obtain⟨G',h1,_⟩:=hI.moved m
 rw[hW,hs] at h1
 have hc:=(h1.o p hp).check
 simp only[setW,upd_at] at hc
 subst hs
 have h2:=(hY.of_ext hx).put p (hA.read (txtBig_of hc)) 0
 refine⟨⟨h2.o,hM.1⟩,fun g hg hf=>⟨fun q hq=> ?_,hM.2 g hg hf⟩,hx⟩
 by_cases he:q=p
 ·subst he
  rw[upd_at]
  exact hA.far tB
 ·rw[upd_ne _ _ he]
  exact hf.1 q hq
theorem mov_errw(hY:WorldY w W Ls A na c)(hs:W'=errW W way e)(hx:Ext w R)(hM:WayK w Ls A na R A' n' c' way):MovR w R Ls A na W' Ls A' n' c':=by
 subst hs
 exact⟨⟨(hY.of_ext hx).o,hM.1⟩,fun g hg hf=>⟨hf.1,hM.2 g hg hf⟩,hx⟩
theorem fin_way(hp:p<4)(hs:W'=setW W p O' way)(hq:worldC ⟨W.off,W0.way,0⟩ Ls A na c=wq)(hn:offQ O' L'=nc){A0 A1:Option Addr}{na0 n1 c1:Nat}(hM:MovR w R Ls A0 na0 W' (upd Ls p L') A1 n1 c1):∃ Ls' A' n' c',Ending.returned (.agg ((putC (wq.set 69 (.int .i64 0)) (p * 17) nc).set 68 (.slice A1 n1 c1)).toArray)= .returned (.agg (worldC W' Ls' A' n' c').toArray)∧MovR w R Ls A0 na0 W' Ls' A' n' c':=by
 subst hs hq hn
 refine⟨_,A1,n1,c1,?_,hM⟩
 rw[worldC_set_err,putC,worldC_put _ _ _ _ _ hp,worldC_set_way _ _ _ _ _ way]
 rfl
end
section
variable{w P:World}{g o n c k:Nat}{l:List MsgD}{A:Option Addr}
theorem msgs_len(l:List MsgD):(l.flatMap msgC).length=l.length * 14:=by
 induction l with
 | nil=>rfl
 | cons m r ih=>
  rw[List.flatMap_cons,List.length_append,ih,show(msgC m).length=14 from rfl,show(m::r).length=r.length+1 from rfl]
  omega
theorem MsgsY.addr(h:MsgsY w A n c l)(hn:0<n):∃ g o,A=some ⟨g,o,none⟩∧g<w.heap.size:=by
 obtain⟨g,o,h1,h2,_⟩:=h.2.2.2.2 hn
 exact⟨g,o,h1,h2⟩
theorem MsgsY.at(h:MsgsY w (some ⟨g,o,none⟩) n c l){m:MsgD}(hk:l[k]? =some m){j:Nat}{u:Value}(hu:(msgC m)[j]? =some u):w.cell? ⟨g,o+k * 14+j,none⟩=some u:=by
 obtain⟨hk1,hk2⟩:=List.getElem?_eq_some_iff.1 hk
 obtain⟨g',o',he,_,hc⟩:=h.2.2.2.2 (by have:=h.1;omega)
 cases he
 rw[Nat.add_assoc]
 refine hc _ u ?_
 rw[flatMap_get msgC 14 (fun _=>rfl) l k j hk1 (by have:=(List.getElem?_eq_some_iff.1 hu).1;exact this),hk2]
 exact hu
theorem MsgsY.load(h:MsgsY w (some ⟨g,o,none⟩) n c l){m:MsgD}(hk:l[k]? =some m):(ldRow 70 ⟨g,o+k * 14,none⟩).run Tryz.prog w= .ok (.agg (msgC m).toArray) w:=by
 have hl:=run_loadCells_list (P:=Tryz.prog) w ⟨g,o+k * 14,none⟩ (msgC m) (fun j v hv=>by
  rw[addr_add]
  exact h.at hk hv)
 have hu:=agg_msg
 have hi:=size_msg
 unfold ldRow
 cases hq:Tryz.prog.info? 70 with
 | none=>simp[hq] at hi
 | some f=>
  have hs:f.size=14:=by simpa [hq] using hi
  have hagg:(isAgg 70).run Tryz.prog w= .ok true w:=by
   unfold isAgg
   cases hx:Tryz.prog.underlying 70 with
   | none=>simp[hx] at hu
   | some u=>
    rw[Sem.run_bind,run_underlying hx w]
    simp only[hx,Option.map_some,Option.some.injEq] at hu
    cases u <;> simp_all [aggD]
  have hl':(loadCells ⟨g,o+k * 14,none⟩ 14).run Tryz.prog w=_:=hl
  simp[loadVar,Sem.run_bind,hagg,sizeOf,typeInfo,hq,hs,hl']
theorem MsgsY.take(h:MsgsY w A n c l)(hk:k≤n):Sl 14 w A k ((l.take k).flatMap msgC):=by
 obtain⟨h1,_,_,h2,h3⟩:=h
 refine⟨by rw[msgs_len,List.length_take,h1,Nat.min_eq_left hk],fun h0=> ?_⟩
 obtain⟨g,o,h4,h5,h6⟩:=h3 tB
 refine⟨g,o,h4,h5,fun j u hj=>h6 j u ?_⟩
 rw[←List.take_append_drop k l,List.flatMap_append,List.getElem?_append_left (List.getElem?_eq_some_iff.1 hj).1]
 exact hj
theorem MsgsY.drop(h:MsgsY w (some ⟨g,o,none⟩) n c l)(hk:k≤n):Sl 14 w (some ⟨g,o+k * 14,none⟩) (n-k) ((l.drop k).flatMap msgC):=by
 obtain⟨h1,_,_,h2,h3⟩:=h
 refine⟨by rw[msgs_len,List.length_drop,h1],fun h0=> ?_⟩
 obtain⟨g',o',h4,h5,h6⟩:=h3 tB
 cases h4
 refine⟨g,o+k * 14,rfl,h5,fun j u hj=> ?_⟩
 rw[Nat.add_assoc]
 refine h6 _ u ?_
 have hl:((l.take k).flatMap msgC).length=k * 14:=by rw[msgs_len,List.length_take,h1,Nat.min_eq_left hk]
 rw[←List.take_append_drop k l,List.flatMap_append,List.getElem?_append_right tB,hl]
 rw[show k * 14+j-k * 14=j by omega]
 exact hj
end
def WayO(base hi:Nat)(P:World)(A3:Option Addr)(n3 c3:Nat)(W3:List MsgD)(A:Option Addr)(na c:Nat)(way:List MsgD):Prop:=MsgZ base hi P A3 n3 c3 W3∨(A3=A∧n3=na∧c3=c∧W3=way)
section
variable{base hi n3 c3 na c g i:Nat}{w P:World}{W:WD}{Ls:Nat→OffL}{A3 A:Option Addr}{W3 way:List MsgD}{vs:List Value}{v:Value}
theorem WayO.alloc(h:WayO base hi P A3 n3 c3 W3 A na c way)(o:Obj):WayO base hi (P.alloc o) A3 n3 c3 W3 A na c way:=h.imp (fun h=>h.alloc o) id
theorem WayO.drew(h:WayO base hi P A3 n3 c3 W3 A na c way):WayO base hi P.drew A3 n3 c3 W3 A na c way:=h.imp (fun h=>h.drew) id
theorem WayO.ext(h:WayO base hi P A3 n3 c3 W3 A na c way)(E:Array Obj)(d:Nat):WayO base hi (P.ext E d) A3 n3 c3 W3 A na c way:=h.imp (fun h=>h.ext E d) id
theorem WayO.cells(h:WayO base hi P A3 n3 c3 W3 A na c way)(hg:g<base∨hi≤g):WayO base hi (P.setCells g i vs) A3 n3 c3 W3 A na c way:=h.imp (fun h=>h.cells hg) id
theorem WayO.set(h:WayO base hi P A3 n3 c3 W3 A na c way)(hg:g<base∨hi≤g):WayO base hi (P.setCell ⟨g,i,none⟩ v) A3 n3 c3 W3 A na c way:=h.imp (fun h=>h.set hg) id
theorem WayO.k(h:WayO base hi P A3 n3 c3 W3 A na c W.way)(hY:WorldY w W Ls A na c)(hx:Ext w P)(hb:w.heap.size≤base):WayK w Ls A na P A3 n3 c3 W3:=by
 rcases h with h|⟨rfl,rfl,rfl,rfl⟩
 ·exact WayK.new h.1 hb
 ·exact WayK.old hY hx
end
@[go_sem] theorem rowAt_setCell_apart{P:World}{g i n k:Nat}{v:Value}(h:k<i∨i+n≤k):rowAt (P.setCell ⟨g,k,none⟩ v) g i n=rowAt P g i n:=rowAt_of fun j hj=>World.cell?_setCell_other _ _ _ _ fun e=>by
 have:=congrArg Addr.off e
 simp only at this
 omega
theorem wpList_amsg{P:Program}(hP:P=Tryz.prog){ops:Array Oper}{rest:List Oper}{o:Oper}{a:Act}{Q:Exit→Act→World→Prop}{W:World}(X:World)(N:Nat)(hN:N=X.heap.size)(hgd:o.guard=none)(s x:Operand)
 (ho:o.op= .call {callee:=.builtin .append,args:=#[s,x],argTypes:=#[81,81]}) {v:Value} {l:List MsgD} (news:List MsgD) (hs:a.eval s=v) (hx:Ext X W) (hown:OwnM N W v l)
 {A:Option Addr} {m c:Nat} (hv:a.eval x= .slice A m c) (hm:m=news.length) (hr:Sl 14 W A m (news.flatMap msgC)) (hlen:l.length+news.length≤1000000)
 (h:∀ v' E d,OwnM N (X.ext E d) v' (l++news)→wpList P ops Q rest (a.put o.dst v') (X.ext E d)):wpList P ops Q (o::rest) a W:=by
 refine wpList_append_msg hP N hgd s x ho news hs t8 hown hv hm hr hlen fun v' W' hb ho'=> ?_
 obtain⟨E,d,rfl⟩:=hx.below_of hb (Nat.le_of_eq hN.symm)
 exact h _ _ _ ho'
theorem wpl_alloc{P:Program}{ops:Array Oper}{l:List Oper}{a:Act}{Q:Exit→Act→World→Prop}{R:World}{o:Obj}(h:∀ X,X=R→wpList P ops Q l a (X.alloc o)):wpList P ops Q l a (R.alloc o):=h R rfl
section
variable{na c p:Nat}{W W' W0:WD}{m:MoveD}{Ls:Nat→OffL}{A A':Option Addr}{w R:World}{wq:List Value}{n' c' na0:Nat}{A0:Option Addr}{way:List MsgD}{e:Int}
theorem fin_errw(hs:W'=errW W way e)(hq:worldC ⟨W.off,way,0⟩ Ls A n' c'=wq)(hM:MovR w R Ls A0 na0 W' Ls A n' c'):∃ Ls' A' n' c',Ending.returned (.agg (wq.set 69 (.int .i64 e)).toArray)= .returned (.agg (worldC W' Ls' A' n' c').toArray)∧MovR w R Ls A0 na0 W' Ls' A' n' c':=by
 subst hs hq
 exact⟨Ls,A,n',c',rfl,hM⟩
theorem fin_drop(hs:W'=errW W way 0)(hq:worldC ⟨W.off,way,0⟩ Ls A n' c'=wq)(hM:MovR w R Ls A0 na0 W' Ls A n' c'):∃ Ls' A' n' c',Ending.returned (.agg wq.toArray)= .returned (.agg (worldC W' Ls' A' n' c').toArray)∧MovR w R Ls A0 na0 W' Ls' A' n' c':=by
 subst hs hq
 exact⟨Ls,A,n',c',rfl,hM⟩
theorem movedW_drop(hd:m.what % 12=3)(hw:W.way≠[]):movedW W m=errW W (wayW W 3 m.b) 0:=by
 rw[movedW,if_neg tB,if_neg tB,if_pos tB,if_neg hw,if_pos hd]
theorem movedW_recv(hd:4≤m.what % 12)(hd':m.what % 12≤7)(hw:W.way≠[]):movedW W m=recvW W (msgW W m.b) (wayW W (m.what % 12) m.b):=by
 rw[movedW,if_neg tB,if_neg tB,if_pos tB,if_neg hw,if_neg tB]
theorem wayW_cut{d b:Int}(h:d<6∨40<W.way.length):wayW W d b=W.way.take (msgI W b)++W.way.drop (msgI W b+1):=if_pos h
theorem wayW_all{d b:Int}(h:6≤d)(h2:W.way.length≤40):wayW W d b=W.way:=if_neg tB
end
theorem recv_q(O:OffD)(L:OffL)(oc mc:List Value)(m:MsgD)(ho:offQ O L=oc)(hm:msgC m=mc)(w:World)(h:OffY w O L)(htx:m.r.text.size≤9223372036854775807):
 Calls Tryz.prog 46 #[.agg oc.toArray,.agg mc.toArray] w fun e w'=> ∃(L':OffL) (nc:List Value) (A:Option Addr) (n c:Nat) (j:Int),e= .returned (.tuple #[.agg nc.toArray,.slice A n c,.int .i64 j])∧Whole nc.toArray 17∧nc.length=17∧Hid (OffR w w' (recvO O m) (recvE O m) L' nc j)∧Hid (MsgsA w.heap.size w' A n c (recvL O m))∧Ext w w':=by
 subst ho hm
 refine(Receive_any O L w m h htx).mono ?_
 rintro e w' ⟨L',A,n,c,rfl,hA,hm,hx⟩
 exact⟨L',offQ (recvO O m) L',A,n,c,_,rfl,offQ_whole _ _,rfl,hid ⟨rfl,rfl,hA⟩,hid hm,hx⟩
end Go.Proofs.YtekjdeibnfaehaaGreat
