/- Texts of a proof. -/
import Derived.Test.YtekjdeibnfaehaaGreatKDar
import Derived.Laws.Tables
import Derived.Laws.Cells
import Derived.Laws.IdiomCopy
import Derived.Test.YtekjdeibnfaehaaGreatKDat
import Derived.Test.YtekjdeibnfaehaaGreatKDak
import Derived.Test.YtekjdeibnfaehaaGreatKDav
set_option linter.unusedSimpArgs false
set_option linter.unusedVariables false
namespace Go.Proofs.YtekjdeibnfaehaaGreat
open Go Go.RowKit
def rowLen(w:World)(g:Nat):Nat:=match w.heap[g]? with
 | some (.cells cs _ (0,0))=>cs.size
 | _=>0
def rowAt(w:World)(g i n:Nat):Array Value:=((List.range n).map fun j=>(w.cell? ⟨g,i+j,none⟩).getD undef).toArray
section
variable{P w:World}{b g i j k m n d base:Nat}{cs vs:List Value}{c:Array Value}{t:TypeId}{A:Option Addr}{xs:List Value}{o:Obj}{v:Value}{a:Addr}{E:Array Obj}
theorem BoxC.len(h:BoxC P b cs t):rowLen P b=cs.length:=by
 simp only[rowLen,show P.heap[b]? =some (.cells cs.toArray t (0,0)) from h,List.size_toArray]
theorem BoxC.rows(h:BoxC P b cs t)(i n:Nat)(hn:i+n≤cs.length):rowAt P b i n=((cs.drop i).take n).toArray:=by
 unfold rowAt
 congr 1
 apply List.ext_getElem?
 intro j
 rw[List.getElem?_map,List.getElem?_take,List.getElem?_drop]
 by_cases hj:j<n
 ·rw[List.getElem?_range hj,if_pos hj,Option.map_some,List.getElem?_eq_getElem tB,h.cell (List.getElem?_eq_getElem tB)]
  rfl
 ·rw[List.getElem?_eq_none tA,if_neg hj]
  rfl
theorem BoxC.row(h:BoxC P b cs t):rowAt P b 0 cs.length=cs.toArray:=by
 rw[h.rows 0 cs.length tB,List.drop_zero,List.take_length]
theorem rowLen_heap(h:k<rowLen P g):∃ cs t,P.heap[g]? =some (.cells cs t (0,0))∧cs.size=rowLen P g:=by
 unfold rowLen at *
 split at h
 ·rename_i cs t he
  exact⟨cs,t,he,rfl⟩
 ·omega
theorem rowLen_box(h:k<rowLen P g):∃ cs t,BoxC P g cs t∧cs.length=rowLen P g:=by
 obtain⟨cs,t,h1,h2⟩:=rowLen_heap h
 exact⟨cs.toList,t,by unfold BoxC;simpa using h1,by simpa using h2⟩
theorem rowLen_cell(h:k<rowLen P g):(P.cell? ⟨g,k,none⟩).isSome=true∧P.frozen? ⟨g,k,none⟩=false:=by
 obtain⟨cs,t,h1,h2⟩:=rowLen_box h
 exact⟨by rw[h1.cell (List.getElem?_eq_getElem tB)];rfl,h1.frozen k⟩
def aggD(u:TypeDesc):Bool:=match u with
 | .struct _| .array _ _=>true
 | _=>false
theorem addr_add(g i j:Nat):(⟨g,i,none⟩:Addr).add j=⟨g,i+j,none⟩:=by unfold Addr.add;split <;> simp_all
theorem run_ld{Q:Program}(hu:(Q.underlying t).map aggD=some true)(hi:(Q.info? t).map (·.size)=some n)(h:i+n≤rowLen P g):
 (loadVar t ⟨g,i,none⟩).run Q P= .ok (.agg (rowAt P g i n)) P:=by
 have hl:=run_loadCells (P:=Q) P ⟨g,i,none⟩ n (fun j=>(P.cell? ⟨g,i+j,none⟩).getD undef) (fun j hj=>by
  obtain⟨x,hx⟩:=Option.isSome_iff_exists.1 (rowLen_cell (P:=P) (g:=g) (k:=i+j) tB).1
  rw[addr_add,hx];rfl)
 cases hq:Q.info? t with
 | none=>simp[hq] at hi
 | some f=>
  have hs:f.size=n:=by simpa [hq] using hi
  have hagg:(isAgg t).run Q P= .ok true P:=by
   unfold isAgg
   cases hx:Q.underlying t with
   | none=>simp[hx] at hu
   | some u=>
    rw[Sem.run_bind,run_underlying hx P]
    simp only[hx,Option.map_some,Option.some.injEq] at hu
    cases u <;> simp_all [aggD]
  simp[loadVar,Sem.run_bind,hagg,sizeOf,typeInfo,hq,hs,hl,rowAt]
theorem run_st{Q:Program}(hi:(Q.info? t).map (·.size)=some n)(hs:c.size=n)(h1:c.all (·.oneCell')=true)(h:i+n≤rowLen P g):
 (storeVar t ⟨g,i,none⟩ (.agg c)).run Q P= .ok () (P.setCells g i c.toList):=by
 have hl:c.toList.length=n:=by simpa using hs
 have:=run_storeCells_cells (P:=Q) g i c.toList 0 P (fun j hj=>(rowLen_cell tB).1) (fun j hj=>(rowLen_cell tB).2) (fun v hv=>(Array.all_eq_true_iff_forall_mem.1 h1) v ti)
 cases hq:Q.info? t with
 | none=>simp[hq] at hi
 | some f=>
  have hf:f.size=n:=by simpa [hq] using hi
  simp only[Nat.add_zero] at this
  simp[storeVar,sizeOf,typeInfo,hq,Value.cells,hs,hf,this]
theorem rowLen_of{P':World}(h:P'.heap[g]? =P.heap[g]?):rowLen P' g=rowLen P g:=by simp only[rowLen,h]
theorem rowAt_of{P':World}(h:∀ j,j<n→P'.cell? ⟨g,i+j,none⟩=P.cell? ⟨g,i+j,none⟩):rowAt P' g i n=rowAt P g i n:=by
 unfold rowAt
 congr 1
 apply List.map_congr_left
 intro j hj
 rw[h j (List.mem_range.1 hj)]
@[go_sem] theorem rowLen_alloc_old(h:g<P.heap.size):rowLen (P.alloc o) g=rowLen P g:=rowLen_of (heap_alloc_old P o g h)
@[go_sem] theorem rowLen_alloc_new(h:g=P.heap.size):rowLen (P.alloc (.cells c t)) g=c.size:=by
 subst h
 simp only[rowLen,heap_alloc_new]
@[go_sem] theorem rowLen_setCell:rowLen (P.setCell a v) g=rowLen P g:=by
 by_cases h:a.block=g
 ·subst h
  have hm:(P.setCell a v).heap[a.block]? =(P.heap[a.block]?).map fun
   | .cells c elem frozen=> .cells (if a.spot.isSome=true then c else c.setIfInBounds a.off v) elem frozen
   | o=>o:=by
   simp only[World.setCell,Array.getElem?_modify,if_true]
   rfl
  unfold rowLen
  rw[hm]
  cases hq:P.heap[a.block]? with
  | none=>rfl
  | some o=>
   cases o with
   | cells c e f=>
    obtain⟨f1,f2⟩:=f
    simp only[Option.map_some]
    cases f1 <;> cases f2 <;> simp <;> split <;> simp
   | _=>rfl
 ·refine rowLen_of ?_
  simp only[World.setCell,Array.getElem?_modify,if_neg h]
theorem size_setCells:∀ (vs:List Value) (i:Nat) (P:World),(P.setCells g i vs).heap.size=P.heap.size
 | [],_,_=>rfl
 | v::r,i,P=>by rw[World.setCells,size_setCells r,World.size_setCell]
theorem rowLen_setCells':∀ (vs:List Value) (i:Nat) (P:World),rowLen (P.setCells b i vs) g=rowLen P g
 | [],_,_=>rfl
 | v::r,i,P=>by rw[World.setCells,rowLen_setCells' r,rowLen_setCell]
@[go_sem] theorem rowLen_setCells:rowLen (P.setCells b i vs) g=rowLen P g:=rowLen_setCells' vs i P
@[go_sem] theorem size_cells:(P.setCells g i vs).heap.size=P.heap.size:=size_setCells vs i P
@[go_sem] theorem rowLen_ext(h:g<P.heap.size):rowLen (P.ext E d) g=rowLen P g:=rowLen_of (heap_ext P E d g h)
@[go_sem] theorem rowLen_drew:rowLen P.drew g=rowLen P g:=rfl
@[go_sem] theorem rowLen_drew_ext(h:g<P.heap.size):rowLen (P.drew.ext E d) g=rowLen P g:=rowLen_ext (P:=P.drew) h
@[go_sem] theorem rowAt_alloc_old(h:g<P.heap.size):rowAt (P.alloc o) g i n=rowAt P g i n:=rowAt_of fun j _=>World.cell?_alloc_lt _ _ _ h
@[go_sem] theorem rowAt_alloc_new(h:g=P.heap.size)(hs:c.size=n):rowAt (P.alloc (.cells c t)) g 0 n=c:=by
 have hb:BoxC (P.alloc (.cells c.toList.toArray t)) g c.toList t:=BoxC.new_at _ _ h
 have:=hb.row
 simp only[Array.toArray_toList,Array.length_toList] at this
 rw[←hs]
 exact this
@[go_sem] theorem rowAt_setCell_off(h:¬ (a.block=g)):rowAt (P.setCell a v) g i n=rowAt P g i n:=rowAt_of fun j _=>World.cell?_setCell_other _ _ _ _ fun e=>h (by rw[e])
@[go_sem] theorem rowAt_setCell_in(h1:i≤k)(h2:k<i+n)(h3:i+n≤rowLen P g):rowAt (P.setCell ⟨g,k,none⟩ v) g i n=(rowAt P g i n).setIfInBounds (k-i) v:=by
 obtain⟨cs,t,hb,hl⟩:=rowLen_box (P:=P) (g:=g) (k:=k) tB
 rw[(hb.set k v).rows i n (by rw[List.length_set];omega),hb.rows i n tB,List.setIfInBounds_toArray]
 congr 1
 apply List.ext_getElem?
 intro j
 simp only[List.getElem?_take,List.getElem?_drop,List.getElem?_set,List.length_take,List.length_drop]
 by_cases hj:j<n
 ·by_cases hk:k=i+j
  ·subst hk
   simp[hj,show i+j<cs.length by omega,show j<cs.length-i by omega]
   omega
  ·simp[hj,hk,show ¬(k-i=j) by omega]
 ·simp[hj,show ¬(k-i=j∧k-i<min n (cs.length-i)) by omega]
  intro h
  omega
@[go_sem] theorem rowAt_setCells_off(h:¬ (b=g)):rowAt (P.setCells b j vs) g i n=rowAt P g i n:=rowAt_of fun k _=>World.cell?_setCells_out b vs j P _ fun e=>absurd e.symm h
@[go_sem] theorem rowAt_setCells_apart(h:i+n≤j∨j+vs.length≤i):rowAt (P.setCells b j vs) g i n=rowAt P g i n:=rowAt_of fun k hk=>World.cell?_setCells_out b vs j P _ fun _ _=>by
 simp only
 omega
@[go_sem] theorem rowAt_setCells_same(hs:vs.length=n)(h:i+n≤rowLen P g):rowAt (P.setCells g i vs) g i n=vs.toArray:=by
 subst hs
 unfold rowAt
 congr 1
 apply List.ext_getElem?
 intro j
 rw[List.getElem?_map]
 by_cases hj:j<vs.length
 ·rw[List.getElem?_range hj,Option.map_some,List.getElem?_eq_getElem hj,World.cell?_setCells_in g vs i P (fun k hk=>(rowLen_cell tB).1) j hj]
  rfl
 ·rw[List.getElem?_eq_none tA,List.getElem?_eq_none tB]
  rfl
@[go_sem] theorem rowAt_ext(h:g<P.heap.size):rowAt (P.ext E d) g i n=rowAt P g i n:=rowAt_of fun j _=>cell?_ext P E d g _ none h
@[go_sem] theorem rowAt_drew_ext(h:g<P.heap.size):rowAt (P.drew.ext E d) g i n=rowAt P g i n:=rowAt_ext (P:=P.drew) h
@[go_sem] theorem rowAt_drew:rowAt P.drew g i n=rowAt P g i n:=rfl
@[go_sem] theorem cell?_cells_off{s:Option Nat}(h:¬ (b=g)):(P.setCells b j vs).cell? ⟨g,i,s⟩=P.cell? ⟨g,i,s⟩:=World.cell?_setCells_out b vs j P _ fun e=>absurd e.symm h
@[go_sem] theorem cell?_cells_apart{s:Option Nat}(h:i<j∨j+vs.length≤i):(P.setCells b j vs).cell? ⟨g,i,s⟩=P.cell? ⟨g,i,s⟩:=World.cell?_setCells_out b vs j P _ fun _ _=>h
@[go_sem] theorem cell?_cells_same(h1:j≤i)(h2:i<j+vs.length)(h:j+vs.length≤rowLen P g):(P.setCells g j vs).cell? ⟨g,i,none⟩=vs[i-j]? :=by
 have:=World.cell?_setCells_in g vs j P (fun k hk=>(rowLen_cell tB).1) (i-j) tB
 rw[show j+(i-j)=i by omega] at this
 rw[this,List.getElem?_eq_getElem tB]
@[go_sem] theorem frozen?_cells:(P.setCells b j vs).frozen? a=P.frozen? a:=World.frozen?_setCells b vs j P a
theorem Ext.cells{w:World}:∀ (vs:List Value) (i:Nat) {P:World},Ext w P→w.heap.size≤g→Ext w (P.setCells g i vs)
 | [],_,_,h,_=>h
 | v::r,i,_,h,hb=>Ext.cells r (i+1) (Ext.box h i v hb) hb
theorem SlA.cells(hb:b<base):∀ (vs:List Value) (i:Nat) {P:World},SlA base k P A n xs→SlA base k (P.setCells b i vs) A n xs
 | [],_,_,h=>h
 | v::r,i,_,h=>SlA.cells hb r (i+1) (h.set hb)
theorem BoxC.cellsOther(hb:g≠b):∀ (vs:List Value) (i:Nat) {P:World},BoxC P b cs t→BoxC (P.setCells g i vs) b cs t
 | [],_,_,h=>h
 | v::r,i,_,h=>BoxC.cellsOther hb r (i+1) (h.other i v hb)
theorem BoxC.cells:∀ (vs:List Value) (i:Nat) {P:World}{cs:List Value},BoxC P b cs t→i+vs.length≤cs.length→BoxC (P.setCells b i vs) b (cs.take i++vs++cs.drop (i+vs.length)) t
 | [],i,_,cs,h,_=>by simpa [World.setCells] using h
 | v::r,i,P,cs,h,hl=>by
  have ih:=BoxC.cells r (i+1) (h.set i v) (by simp only[List.length_cons,List.length_set] at *;omega)
  rw[World.setCells]
  simp only[List.length_cons] at hl
  have e:(cs.set i v).take (i+1)++r++(cs.set i v).drop (i+1+r.length)=cs.take i++v::r++cs.drop (i+(v::r).length):=?_
  ·rw[e] at ih
   exact ih
  apply List.ext_getElem?
  intro j
  simp only[List.getElem?_append,List.length_append,List.length_take,List.length_set,List.length_cons,List.getElem?_take,List.getElem?_set,List.getElem?_drop,List.getElem?_cons]
  by_cases h1:j<i
  ·have e1:j<min (i+1) cs.length+r.length:=by omega
   have e2:j<min (i+1) cs.length:=by omega
   have e3:j<min i cs.length+(r.length+1):=by omega
   have e4:j<min i cs.length:=by omega
   simp[e1,e2,e3,e4,h1,show j<i+1 by omega,show ¬i=j by omega]
  ·by_cases h2:j=i
   ·subst h2
    have e1:j<min (j+1) cs.length+r.length:=by omega
    have e2:j<min (j+1) cs.length:=by omega
    have e3:j<min j cs.length+(r.length+1):=by omega
    have e4:¬ j<min j cs.length:=by omega
    simp[e1,e2,e3,e4,show j<cs.length by omega,show j-min j cs.length=0 by omega]
   ·by_cases h3:j<i+1+r.length
    ·have e1:j<min (i+1) cs.length+r.length:=by omega
     have e2:¬ j<min (i+1) cs.length:=by omega
     have e3:j<min i cs.length+(r.length+1):=by omega
     have e4:¬ j<min i cs.length:=by omega
     simp[e1,e2,e3,e4,show ¬(j-min i cs.length=0) by omega,show j-min i cs.length-1=j-min (i+1) cs.length by omega]
    ·have e1:¬ j<min (i+1) cs.length+r.length:=by omega
     have e3:¬ j<min i cs.length+(r.length+1):=by omega
     simp only[e1,e3,if_false]
     rw[if_neg tB]
     congr 1
     omega
structure Kept(W:World)(x y:Nat)(w:World):Prop where
 size:W.heap.size≤w.heap.size
 block:∀ b,b<W.heap.size→¬ (b=x)→¬ (b=y)→w.heap[b]? =W.heap[b]?
section
variable{W:World}{x y:Nat}
theorem Kept.refl(W:World)(x y:Nat):Kept W x y W:=⟨Nat.le_refl _,fun _ _ _ _=>rfl⟩
theorem Kept.rows(h:Kept W x y w):∀ b i n,b<W.heap.size→¬ (b=x)→¬ (b=y)→rowAt w b i n=rowAt W b i n:=fun b _ _ h1 h2 h3=>rowAt_of fun _ _=>World.cell?_of_block (h.block b h1 h2 h3)
theorem Kept.len(h:Kept W x y w):∀ b,b<W.heap.size→¬ (b=x)→¬ (b=y)→rowLen w b=rowLen W b:=fun b h1 h2 h3=>rowLen_of (h.block b h1 h2 h3)
theorem Kept.cell(h:Kept W x y w):∀ b o,b<W.heap.size→¬ (b=x)→¬ (b=y)→w.cell? ⟨b,o,none⟩=W.cell? ⟨b,o,none⟩:=fun b _ h1 h2 h3=>World.cell?_of_block (h.block b h1 h2 h3)
theorem Kept.drew(h:Kept W x y w):Kept W x y w.drew:=⟨h.size,h.block⟩
theorem Kept.alloc(h:Kept W x y w):Kept W x y (w.alloc o):=⟨by simp only[World.size_alloc];have:=h.size;omega,fun b h1 h2 h3=>(heap_alloc_old w o b (by have:=h.size;omega)).trans (h.block b h1 h2 h3)⟩
theorem Kept.ext(h:Kept W x y w):Kept W x y (w.ext E d):=⟨by rw[size_ext];have:=h.size;omega,fun b h1 h2 h3=>(heap_ext w E d b (by have:=h.size;omega)).trans (h.block b h1 h2 h3)⟩
theorem Kept.set(h:Kept W x y w)(hb:b=x∨b=y∨W.heap.size≤b):Kept W x y (w.setCell ⟨b,i,none⟩ v):=⟨by rw[World.size_setCell];exact h.size,fun g h1 h2 h3=>by
 refine Eq.trans ?_ (h.block g h1 h2 h3)
 simp only[World.setCell]
 rw[Array.getElem?_modify,if_neg tB]⟩
theorem kept_cells(hb:b=x∨b=y∨W.heap.size≤b):∀ (vs:List Value) (i:Nat) {w:World},Kept W x y w→Kept W x y (w.setCells b i vs)
 | [],_,_,h=>h
 | v::r,i,_,h=>kept_cells hb r (i+1) (h.set hb)
theorem Kept.cells(h:Kept W x y w)(hb:b=x∨b=y∨W.heap.size≤b):Kept W x y (w.setCells b i vs):=kept_cells hb vs i h
end
end
end Go.Proofs.YtekjdeibnfaehaaGreat
set_option linter.unusedSimpArgs false
set_option linter.unusedVariables false
namespace Go.Proofs.YtekjdeibnfaehaaGreat
open Go Go.RowKit
def ldRow(t:TypeId)(a:Addr):Sem Value:=loadVar t a
def Whole(c:Array Value)(n:Nat):Prop:=c.size=n∧c.all (·.oneCell')=true
def stRow(t:TypeId)(a:Addr)(v:Value):Sem Unit:=storeVar t a v
section
variable{P w:World}{a:Addr}{v:Value}{b g i base:Nat}{c:Array Value}{t:TypeId}{vs:List Value}
theorem agg_off:(Tryz.prog.underlying 76).map aggD=some true:=by kernel_rfl
theorem size_off:(Tryz.prog.info? 76).map (·.size)=some 17:=by kernel_rfl
@[go_sem ↓ high] theorem lr_off:loadVar 76 a=ldRow 76 a:=rfl
@[go_sem ↓ high] theorem sr_off:storeVar 76 a v=stRow 76 a v:=rfl
@[go_sem] theorem ld_off(h:i+17≤rowLen P g):(ldRow 76 ⟨g,i,none⟩).run Tryz.prog P= .ok (.agg (rowAt P g i 17)) P:=run_ld agg_off size_off h
@[go_sem] theorem st_off(h:i+17≤rowLen P g)(hs:Whole c 17):(stRow 76 ⟨g,i,none⟩ (.agg c)).run Tryz.prog P= .ok () (P.setCells g i c.toList):=run_st size_off hs.1 hs.2 h
theorem agg_msg:(Tryz.prog.underlying 70).map aggD=some true:=by kernel_rfl
theorem size_msg:(Tryz.prog.info? 70).map (·.size)=some 14:=by kernel_rfl
@[go_sem ↓ high] theorem lr_msg:loadVar 70 a=ldRow 70 a:=rfl
@[go_sem ↓ high] theorem sr_msg:storeVar 70 a v=stRow 70 a v:=rfl
@[go_sem] theorem ld_msg(h:i+14≤rowLen P g):(ldRow 70 ⟨g,i,none⟩).run Tryz.prog P= .ok (.agg (rowAt P g i 14)) P:=run_ld agg_msg size_msg h
@[go_sem] theorem st_msg(h:i+14≤rowLen P g)(hs:Whole c 14):(stRow 70 ⟨g,i,none⟩ (.agg c)).run Tryz.prog P= .ok () (P.setCells g i c.toList):=run_st size_msg hs.1 hs.2 h
theorem agg_rcd:(Tryz.prog.underlying 46).map aggD=some true:=by kernel_rfl
theorem size_rcd:(Tryz.prog.info? 46).map (·.size)=some 11:=by kernel_rfl
@[go_sem ↓ high] theorem lr_rcd:loadVar 46 a=ldRow 46 a:=rfl
@[go_sem ↓ high] theorem sr_rcd:storeVar 46 a v=stRow 46 a v:=rfl
@[go_sem] theorem ld_rcd(h:i+11≤rowLen P g):(ldRow 46 ⟨g,i,none⟩).run Tryz.prog P= .ok (.agg (rowAt P g i 11)) P:=run_ld agg_rcd size_rcd h
@[go_sem] theorem st_rcd(h:i+11≤rowLen P g)(hs:Whole c 11):(stRow 46 ⟨g,i,none⟩ (.agg c)).run Tryz.prog P= .ok () (P.setCells g i c.toList):=run_st size_rcd hs.1 hs.2 h
@[go_sem] theorem one17(me f0 f1 file gen:Int)(A0 A1 Am:Option Addr)(n0 c0 n1 c1 nm cm:Nat)(K0 K1 K2 K3 K4 K5 K6 K7 K8:Option Addr)(a0 b0 a1 b1 a2 b2 a3 b3 a4 b4 a5 b5 a6 b6 a7 b7 a8 b8:Nat):Whole #[.int .i64 me,.slice A0 n0 c0,.int .i64 f0,.slice A1 n1 c1,.int .i64 f1,.slice Am nm cm,.int .i64 file,.int .i64 gen,.slice K0 a0 b0,.slice K1 a1 b1,.slice K2 a2 b2,.slice K3 a3 b3,.slice K4 a4 b4,.slice K5 a5 b5,.slice K6 a6 b6,.slice K7 a7 b7,.slice K8 a8 b8] 17:=⟨rfl,by simp[Value.oneCell']⟩
@[go_sem] theorem one11(a b c d e f g h i j:Int)(t:ByteArray):Whole #[.int .i64 a,.int .i64 b,.int .i64 c,.int .i64 d,.int .i64 e,.int .i64 f,.int .i64 g,.int .i64 h,.int .i64 i,.int .i64 j,.string t] 11:=⟨rfl,by simp[Value.oneCell']⟩
@[go_sem] theorem one14(x y:Int)(z:Bool)(a b c d e f g h i j:Int)(t:ByteArray):Whole #[.int .i64 x,.int .i64 y,.bool z,.int .i64 a,.int .i64 b,.int .i64 c,.int .i64 d,.int .i64 e,.int .i64 f,.int .i64 g,.int .i64 h,.int .i64 i,.int .i64 j,.string t] 14:=⟨rfl,by simp[Value.oneCell']⟩
theorem DrvA.cells{D:DriveD}{A0 A1:Option Addr}{n0 c0 n1 c1:Nat}(h:DrvA base P D A0 n0 c0 A1 n1 c1)(hb:g<base):DrvA base (P.setCells g i vs) D A0 n0 c0 A1 n1 c1:=
 ⟨h.l0,h.l1,h.h0,h.h1,h.k0,h.k1,SlA.cells hb vs i h.b0,SlA.cells hb vs i h.b1⟩
theorem PlcA.cells{t:SlT}{l:List Plc}(h:PlcA base P t l)(hb:g<base):PlcA base (P.setCells g i vs) t l:=by
 obtain⟨p1,p2,p3,p4⟩:=h
 exact⟨p1,p2,p3,SlA.cells hb vs i p4⟩
theorem OffA.cells{O:OffD}{L:OffL}(h:OffA base P O L)(hb:g<base):OffA base (P.setCells g i vs) O L:=⟨h.d.cells hb,h.l,h.h,SlA.cells hb vs i h.r,fun i hi=>(h.k i hi).cells hb⟩
theorem OffA.set{O:OffD}{L:OffL}{v:Value}(h:OffA base P O L)(hb:b<base):OffA base (P.setCell ⟨b,i,none⟩ v) O L:=⟨h.d.set hb,h.l,h.h,h.r.set hb,fun i hi=>(h.k i hi).set hb⟩
theorem OffA.alloc{O:OffD}{L:OffL}(h:OffA base P O L)(o:Obj):OffA base (P.alloc o) O L:=h.of_ext ((Ext.refl P).alloc o)
@[reducible] def offC(O:OffD)(L:OffL):List Value:=[.int .i64 O.me,.slice L.A0 L.n0 L.c0,.int .i64 O.d.f0.firm,.slice L.A1 L.n1 L.c1,.int .i64 O.d.f1.firm,.slice L.Am L.nm L.cm,.int .i64 O.m.file,.int .i64 O.m.gen,.slice (L.k 0).A (L.k 0).n (L.k 0).c,.slice (L.k 1).A (L.k 1).n (L.k 1).c,.slice (L.k 2).A (L.k 2).n (L.k 2).c,.slice (L.k 3).A (L.k 3).n (L.k 3).c,.slice (L.k 4).A (L.k 4).n (L.k 4).c,.slice (L.k 5).A (L.k 5).n (L.k 5).c,.slice (L.k 6).A (L.k 6).n (L.k 6).c,.slice (L.k 7).A (L.k 7).n (L.k 7).c,.slice (L.k 8).A (L.k 8).n (L.k 8).c]
theorem BoxC.c17{v0 v1 v2 v3 v4 v5 v6 v7 v8 v9 v10 v11 v12 v13 v14 v15 v16:Value}(h:BoxC P b [v0,v1,v2,v3,v4,v5,v6,v7,v8,v9,v10,v11,v12,v13,v14,v15,v16] t):P.cell? ⟨b,0,none⟩=some v0∧P.cell? ⟨b,1,none⟩=some v1∧P.cell? ⟨b,2,none⟩=some v2∧P.cell? ⟨b,3,none⟩=some v3∧P.cell? ⟨b,4,none⟩=some v4∧P.cell? ⟨b,5,none⟩=some v5∧P.cell? ⟨b,6,none⟩=some v6∧P.cell? ⟨b,7,none⟩=some v7∧P.cell? ⟨b,8,none⟩=some v8∧P.cell? ⟨b,9,none⟩=some v9∧P.cell? ⟨b,10,none⟩=some v10∧P.cell? ⟨b,11,none⟩=some v11∧P.cell? ⟨b,12,none⟩=some v12∧P.cell? ⟨b,13,none⟩=some v13∧P.cell? ⟨b,14,none⟩=some v14∧P.cell? ⟨b,15,none⟩=some v15∧P.cell? ⟨b,16,none⟩=some v16∧rowLen P b=17∧rowAt P b 0 17= #[v0,v1,v2,v3,v4,v5,v6,v7,v8,v9,v10,v11,v12,v13,v14,v15,v16]:=
 ⟨h.cell (i:=0) rfl,h.cell (i:=1) rfl,h.cell (i:=2) rfl,h.cell (i:=3) rfl,h.cell (i:=4) rfl,h.cell (i:=5) rfl,h.cell (i:=6) rfl,h.cell (i:=7) rfl,h.cell (i:=8) rfl,h.cell (i:=9) rfl,h.cell (i:=10) rfl,h.cell (i:=11) rfl,h.cell (i:=12) rfl,h.cell (i:=13) rfl,h.cell (i:=14) rfl,h.cell (i:=15) rfl,h.cell (i:=16) rfl,h.len,h.row⟩
theorem BoxC.c11{v0 v1 v2 v3 v4 v5 v6 v7 v8 v9 v10:Value}(h:BoxC P b [v0,v1,v2,v3,v4,v5,v6,v7,v8,v9,v10] t):P.cell? ⟨b,0,none⟩=some v0∧P.cell? ⟨b,1,none⟩=some v1∧P.cell? ⟨b,2,none⟩=some v2∧P.cell? ⟨b,3,none⟩=some v3∧P.cell? ⟨b,4,none⟩=some v4∧P.cell? ⟨b,5,none⟩=some v5∧P.cell? ⟨b,6,none⟩=some v6∧P.cell? ⟨b,7,none⟩=some v7∧P.cell? ⟨b,8,none⟩=some v8∧P.cell? ⟨b,9,none⟩=some v9∧P.cell? ⟨b,10,none⟩=some v10∧rowLen P b=11∧rowAt P b 0 11= #[v0,v1,v2,v3,v4,v5,v6,v7,v8,v9,v10]:=
 ⟨h.cell (i:=0) rfl,h.cell (i:=1) rfl,h.cell (i:=2) rfl,h.cell (i:=3) rfl,h.cell (i:=4) rfl,h.cell (i:=5) rfl,h.cell (i:=6) rfl,h.cell (i:=7) rfl,h.cell (i:=8) rfl,h.cell (i:=9) rfl,h.cell (i:=10) rfl,h.len,h.row⟩
variable{fn:Func}{p q u u2:Tmp}{x y:Value}{tmps c2:Array Value}{g2:Nat}
theorem ret_c(h:fn.results= #[.cell p 76])(hp:tmps.getD p undef= .pointer (some ⟨g,0,none⟩))(lp:rowLen P g=17)(rp:rowAt P g 0 17=c):(results fn tmps).run Tryz.prog P= .ok (.agg c) P:=by
 subst rp
 have hp':=hp
 have qhp:=run_ld (Q:=Tryz.prog) (i:=0) agg_off size_off (P:=P) (g:=g) tB
 simp at hp'
 simp only[results,h]
 simp[Sem.run_bind,Result.andThen,asAddr,hp',qhp]
theorem ret_ct(h:fn.results= #[.cell p 76,.tmp u])(hp:tmps.getD p undef= .pointer (some ⟨g,0,none⟩))(lp:rowLen P g=17)(rp:rowAt P g 0 17=c)(hu:tmps.getD u undef=x):(results fn tmps).run Tryz.prog P= .ok (.tuple #[.agg c,x]) P:=by
 subst rp hu
 have hp':=hp
 have qhp:=run_ld (Q:=Tryz.prog) (i:=0) agg_off size_off (P:=P) (g:=g) tB
 simp at hp'
 simp only[results,h]
 simp[Sem.run_bind,Result.andThen,asAddr,hp',qhp]
theorem ret_cct(h:fn.results= #[.cell p 76,.cell q 46,.tmp u])(hp:tmps.getD p undef= .pointer (some ⟨g,0,none⟩))(lp:rowLen P g=17)(rp:rowAt P g 0 17=c)(hq:tmps.getD q undef= .pointer (some ⟨g2,0,none⟩))(lq:rowLen P g2=11)(rq:rowAt P g2 0 11=c2)(hu:tmps.getD u undef=x):(results fn tmps).run Tryz.prog P= .ok (.tuple #[.agg c,.agg c2,x]) P:=by
 subst rp rq hu
 have hp':=hp
 have qhp:=run_ld (Q:=Tryz.prog) (i:=0) agg_off size_off (P:=P) (g:=g) tB
 simp at hp'
 have hq':=hq
 have qhq:=run_ld (Q:=Tryz.prog) (i:=0) agg_rcd size_rcd (P:=P) (g:=g2) tB
 simp at hq'
 simp only[results,h]
 simp[Sem.run_bind,Result.andThen,asAddr,hp',qhp,hq',qhq]
theorem ret_ctt(h:fn.results= #[.cell p 76,.tmp u,.tmp u2])(hp:tmps.getD p undef= .pointer (some ⟨g,0,none⟩))(lp:rowLen P g=17)(rp:rowAt P g 0 17=c)(hu:tmps.getD u undef=x)(hu2:tmps.getD u2 undef=y):(results fn tmps).run Tryz.prog P= .ok (.tuple #[.agg c,x,y]) P:=by
 subst rp hu hu2
 have hp':=hp
 have qhp:=run_ld (Q:=Tryz.prog) (i:=0) agg_off size_off (P:=P) (g:=g) tB
 simp at hp'
 simp only[results,h]
 simp[Sem.run_bind,Result.andThen,asAddr,hp',qhp]
end
end Go.Proofs.YtekjdeibnfaehaaGreat
set_option linter.unusedSimpArgs false
set_option linter.unusedVariables false
namespace Go.Proofs.YtekjdeibnfaehaaGreat
open Go Go.RowKit
section
variable{base base' N k b i g:Nat}{w w' P P':World}{v:Value}{l:List Plc}{vs:List Value}{t:SlT}{K:Nat→SlT}{kn:Nat→List Plc}{row:Option Nat}{A:Option Addr}{n:Nat}{xs:List Value}
theorem OwnP.lower(h:OwnP base w v l)(hb:base'≤base):OwnP base' w v l:=by
 refine⟨h.1,?_⟩
 rcases h.2 with h0|⟨g,cap,cur,hv,hg,hr⟩
 ·exact .inl h0
 ·exact .inr ⟨g,cap,cur,hv,Nat.le_trans hb hg,hr⟩
theorem OwnP.keep(h:OwnP base w v l)(hk:∀ g,base≤g→g<w.heap.size→some g≠row→w'.heap[g]? =w.heap[g]?)(hne:∀ a n c,v= .slice (some a) n c→some a.block≠row):OwnP base w' v l:=by
 refine⟨h.1,?_⟩
 rcases h.2 with h0|⟨g,cap,cur,hv,hg,hh,hr⟩
 ·exact .inl h0
 ·exact .inr ⟨g,cap,cur,hv,hg,(hk g hg (Array.getElem?_eq_some_iff.1 hh).1 (hne _ _ _ hv)).trans hh,hr⟩
theorem OwnP.set(h:OwnP base w v l)(hb:b<base){u:Value}:OwnP base (w.setCell ⟨b,i,Option.none⟩ u) v l:=
 h.keep (row:=Option.none) (fun g hg _ _=>by simp only[World.setCell];rw[Array.getElem?_modify,if_neg tB]) (fun _ _ _ _=>by simp)
theorem OwnP.cells(hb:b<base):∀ (vs:List Value) (i:Nat) {w:World},OwnP base w v l→OwnP base (w.setCells b i vs) v l
 | [],_,_,h=>h
 | v::r,i,_,h=>OwnP.cells hb r (i+1) (h.set hb)
theorem OwnP.grown(h:OwnP base w v l)(hg:w.grownBy w' row)(hne:∀ a n c,v= .slice (some a) n c→some a.block≠row):OwnP base w' v l:=
 h.keep (fun g _ hl hr=>hg.block g hl hr) hne
theorem SlA.grown(h:SlA base k w A n xs)(hg:w.grownBy w' row)(hne:0<n→∀ a,A=some a→some a.block≠row):SlA base k w' A n xs:=by
 refine⟨⟨h.1.1,fun hn=> ?_⟩,h.2⟩
 obtain⟨q,o,rfl,hq,hc⟩:=h.1.2 hn
 refine⟨q,o,rfl,Nat.lt_of_lt_of_le hq hg.size,fun j u hu=> ?_⟩
 rw[←hc j u hu]
 exact World.cell?_of_block (hg.block q hq (hne hn _ rfl))
theorem OwnP.plcA{A:Option Addr}{n c:Nat}(h:OwnP base w (.slice A n c) l):PlcA base w ⟨A,n,c⟩ l:=by
 obtain⟨A2,c2,hv,hc,hs⟩:=h.slice
 cases hv
 exact⟨rfl,hc,h.cap.2,hs,fun _ a ha=>(h.lies a ha).1⟩
structure KnO(N k:Nat)(w:World)(K:Nat→SlT)(kn:Nat→List Plc):Prop where
 own:∀ i,i<k→OwnP N w (.slice (K i).A (K i).n (K i).c) (kn i)
 sep:∀ i,i<k→∀ j,j<k→i≠j→∀ a b,(K i).A=some a→(K j).A=some b→a.block≠b.block
theorem KnO.zero(N:Nat)(w:World)(K:Nat→SlT)(kn:Nat→List Plc):KnO N 0 w K kn:=⟨fun _ h=>absurd h (Nat.not_lt_zero _),fun _ h=>absurd h (Nat.not_lt_zero _)⟩
theorem KnO.of_ext(h:KnO N k w K kn)(hx:Ext w w'):KnO N k w' K kn:=⟨fun i hi=>(h.own i hi).of_ext hx,h.sep⟩
theorem KnO.lower(h:KnO N k w K kn)(hb:b≤N):KnO b k w K kn:=⟨fun i hi=>(h.own i hi).lower hb,h.sep⟩
theorem KnO.set(h:KnO N k w K kn)(hb:b<N):KnO N k (w.setCell ⟨b,i,Option.none⟩ v) K kn:=⟨fun i hi=>(h.own i hi).set hb,h.sep⟩
theorem KnO.cells(h:KnO N k w K kn)(hb:b<N):KnO N k (w.setCells b i vs) K kn:=⟨fun j hj=>OwnP.cells hb vs i (h.own j hj),h.sep⟩
theorem KnO.next(h:KnO N k P K kn)(hx:Ext P P')(ho:OwnP P.heap.size P' (.slice t.A t.n t.c) (kn k))(hN:N≤P.heap.size):KnO N (k+1) P' (upd K k t) kn:=by
 refine⟨fun i hi=> ?_,fun i hi j hj hij a b ha hb=> ?_⟩
 ·by_cases he:i=k
  ·subst he
   rw[upd_at]
   exact ho.lower hN
  ·rw[upd_ne _ _ he]
   exact(h.own i tB).of_ext hx
 ·by_cases he:i=k
  ·subst he
   rw[upd_at] at ha
   rw[upd_ne _ _ (fun e=>hij e.symm)] at hb
   have h1:=(ho.lies a ha).1
   have h2:=((h.own j tB).lies b hb).2
   omega
  ·rw[upd_ne _ _ he] at ha
   have h1:=((h.own i tB).lies a ha).2
   by_cases hj2:j=k
   ·subst hj2
    rw[upd_at] at hb
    have h2:=(ho.lies b hb).1
    omega
   ·rw[upd_ne _ _ hj2] at hb
    exact h.sep i tB j tB hij a b ha hb
theorem KnO.plc(h:KnO N k w K kn)(i:Nat)(hi:i<k):PlcA N w (K i) (kn i):=(h.own i hi).plcA
end
def Off(A:Option Addr)(n:Nat)(g:Nat):Prop:=0<n→∀ a,A=some a→a.block≠g
structure OffU(base:Nat)(w:World)(O:OffD)(L:OffL):Prop where
 a:OffA base w O L
 k:KnO base 9 w L.k O.kn
 s:∀ i,i<9→∀ a,(L.k i).A=some a→Off L.A0 L.n0 a.block∧Off L.A1 L.n1 a.block∧Off L.Am L.nm a.block
theorem sl_low{k n:Nat}{w:World}{A:Option Addr}{xs:List Value}(h:Sl k w A n xs)(hn:0<n){a:Addr}(ha:A=some a):a.block<w.heap.size:=by
 obtain⟨g,o,rfl,hg,_⟩:=h.2 hn
 cases ha
 exact hg
section
variable{base b i:Nat}{w w':World}{O:OffD}{L:OffL}{v:Value}{vs:List Value}
theorem OffU.of_ext(h:OffU base w O L)(hx:Ext w w'):OffU base w' O L:=⟨h.a.of_ext hx,h.k.of_ext hx,h.s⟩
theorem OffU.mono(h:OffU base w O L)(hb:b≤base):OffU b w O L:=⟨h.a.mono hb,h.k.lower hb,h.s⟩
theorem OffU.set(h:OffU base w O L)(hb:b<base):OffU base (w.setCell ⟨b,i,Option.none⟩ v) O L:=⟨h.a.set hb,h.k.set hb,h.s⟩
theorem OffU.cells(h:OffU base w O L)(hb:b<base):OffU base (w.setCells b i vs) O L:=⟨h.a.cells hb,h.k.cells hb,h.s⟩
theorem OffU.drew(h:OffU base w O L):OffU base w.drew O L:=h.of_ext (Ext.refl w).drew
theorem OffA.drew(h:OffA base w O L):OffA base w.drew O L:=h.of_ext (Ext.refl w).drew
theorem OffU.low{N:Nat}(hd:DrvA base w O.d L.A0 L.n0 L.c0 L.A1 L.n1 L.c1)(hl:O.m.recs.length=L.nm)(hc:L.nm≤L.cm∧L.cm≤9223372036854775807)(hr:RecsA base w L.Am O.m.recs)(hk:KnO N 9 w L.k O.kn)(hN:base≤N)
 (h0:0<L.n0→∀ a,L.A0=some a→a.block<N) (h1:0<L.n1→∀ a,L.A1=some a→a.block<N) (hm:0<L.nm→∀ a,L.Am=some a→a.block<N):OffU base w O L:=by
 refine⟨⟨hd,hl,hc,hr,fun i hi=>((hk.lower hN).plc i hi)⟩,hk.lower hN,fun i hi a ha=> ?_⟩
 have:=((hk.own i hi).lies a ha).1
 exact⟨fun h x hx=>by have:=h0 h x hx;omega,fun h x hx=>by have:=h1 h x hx;omega,fun h x hx=>by have:=hm h x hx;omega⟩
end
end Go.Proofs.YtekjdeibnfaehaaGreat
set_option linter.unusedSimpArgs false
set_option linter.unusedVariables false
namespace Go.Proofs.YtekjdeibnfaehaaGreat
open Go Go.RowKit
def zL:OffL:=⟨none,0,0,none,0,0,none,0,0,fun _=>⟨none,0,0⟩⟩
theorem OffA.zero(base:Nat)(w:World):OffA base w noOff zL:=⟨DrvA.zero base w,rfl,⟨Nat.le_refl _,Nat.zero_le _⟩,RecsA.nil _ _ _,fun _ _=>PlcA.nil _ _⟩
theorem OffU.zero(base:Nat)(w:World):OffU base w noOff zL:=⟨OffA.zero base w,⟨fun _ _=>OwnP.none _ _,fun _ _ _ _ _ a _ h=>by cases h⟩,fun _ _ a h=>by cases h⟩
theorem sortedP_len:∀ {l:List Plc}{a b:Int},SortedP l→(∀x∈l,a≤x.o * 10000+x.s∧x.o * 10000+x.s<b∧0≤x.s∧x.s≤9999)→(l.length:Int)≤max 0 (b-a)
 | [],_,_,_,_=>by simp;omega
 | x::l,a,b,h,hk=>by
  obtain⟨h1,h2⟩:=List.pairwise_cons.1 h
  obtain⟨k1,k2,k3,k4⟩:=hk x List.mem_cons_self
  have ih:=sortedP_len (a:=x.o * 10000+x.s+1) (b:=b) h2 fun y hy=>by
   obtain⟨g1,g2,g3,g4⟩:=hk y (List.mem_cons_of_mem _ hy)
   have hlt:=h1 y hy
   rw[ahP,ltP_iff] at hlt
   exact⟨by omega,g2,g3,g4⟩
  simp only[List.length_cons]
  omega
theorem knB_len{l:List Plc}(h:knB l=true):l.length≤90000:=by
 obtain⟨h1,h2⟩:=knB_iff.1 h
 have:=sortedP_len (a:=0) (b:=90000) h2 fun x hx=>by
  have:=h1 x hx
  simp only[isPlaceB,Bool.and_eq_true,inB_spec] at this
  omega
 omega
structure OffOk(O:OffD)(L:OffL):Prop where
 s0:L.n0≤100000
 s1:L.n1≤100000
 sm:L.nm≤80
 k:∀ i,i<9→(O.kn i).length≤90000
 mo:memOk O.d O.m=true
 ck:checkB O.m.recs=true
 me:0≤O.me∧O.me≤8
 kb:∀ i,i<9→knB (O.kn i)=true
theorem OffY.ok{w:World}{O:OffD}{L:OffL}(h:OffY w O L)(ho:offOk O=true):OffOk O L:=by
 simp only[offOk,Bool.and_eq_true,List.all_eq_true,List.mem_range] at ho
 obtain⟨⟨h1,h2⟩,h3⟩:=ho
 obtain⟨hok,-,-,hck,-,-⟩:=memOk_facts h2
 obtain⟨hs0,hs1⟩:=driveOk_len hok
 have h80:=(checkB_iff.1 hck).1
 exact⟨by rw[←h.d.l0];exact hs0,by rw[←h.d.l1];exact hs1,by rw[←h.l];exact h80,fun i hi=>knB_len (h3 i hi),h2,hck,inB_spec.1 h1,h3⟩
set_option maxRecDepth 100000 in
set_option maxHeartbeats 4000000 in
theorem own_any(O:OffD)(L:OffL)(w:World)(h:OffY w O L):
 Calls Tryz.prog 102 #[offV O L] w fun e w'=>e= .returned (.agg #[.int .i64 O.me,.int .i64 (nextI O.m.recs O.me)])∧Ext w w':=by
 have hm:=h.l
 have ht:=h.t
 have hr:=h.r
 have hb:=h.h
 clear h
 go_enter Tryz.func102,Tryz.ntmps102
 go_wp2_with fail
 refine wp_region_ord (.f 0 (.f 1 (.f 2 (.f 3 (.f 4 (.f 5 (.f 6 (.a 7 (.f 8 (.a 9 .d)))))))))) (Ext (w.alloc (.cells #[.int .i64 O.me,.slice L.A0 L.n0 L.c0,.int .i64 O.d.f0.firm,.slice L.A1 L.n1 L.c1,.int .i64 O.d.f1.firm,.slice L.Am L.nm L.cm,.int .i64 O.m.file,.int .i64 O.m.gen,.slice (L.k 0).A (L.k 0).n (L.k 0).c,.slice (L.k 1).A (L.k 1).n (L.k 1).c,.slice (L.k 2).A (L.k 2).n (L.k 2).c,.slice (L.k 3).A (L.k 3).n (L.k 3).c,.slice (L.k 4).A (L.k 4).n (L.k 4).c,.slice (L.k 5).A (L.k 5).n (L.k 5).c,.slice (L.k 6).A (L.k 6).n (L.k 6).c,.slice (L.k 7).A (L.k 7).n (L.k 7).c,.slice (L.k 8).A (L.k 8).n (L.k 8).c] 76))) tG tG exI ?_
 refine oS ?_
 refine wpOrd_call rfl rfl rfl Tryz.call140 (fun R hR=> ?_)
 go_simp
 refine(Next_any _ _ _ _ _ tZ tB tF _ (recI ‹_›)).mono ?_
 rintro e w1 ⟨rfl,E201,d201,rfl⟩
 refine hR _ _ ⟨_,rfl,?_,?_⟩
 ·exact exI
 clear hR R
 simp only[Act.put,zp]
 refine oS ?_
 refine oC ?_
 refine wpOrd_nil ?_
 go_wp2_with fail
 refine bodyPost_ret (v:=.agg #[.int .i64 O.me,.int .i64 (nextI O.m.recs O.me)]) (by simp[results,Tryz.results102,go_sem]) rfl ?_
 exact⟨rfl,exI⟩
set_option maxRecDepth 100000 in
set_option maxHeartbeats 4000000 in
theorem NewOffice_any(me:Int)(w:World):
 Calls Tryz.prog 34 #[.int .i64 me] w fun e w'=> ∃L',e= .returned (.tuple #[offV (newO me) L',.int .i64 (newOE me)])∧OffA w.heap.size w' (newO me) L'∧Ext w w':=by
 cases hme:inB me 0 8 with
 | false=>
  have e1:newO me=noOff:=by rw[newO,hme];rfl
  have e2:newOE me=1:=by rw[newOE,hme];rfl
  rw[e1,e2]
  clear e1 e2
  go_enter Tryz.func34,Tryz.ntmps34
  go_wp2_with (go_at_call 97;refine(isOffice_any _ _).mono ?_;rintro e w1 ⟨rfl,rfl⟩;rw[hme])
  refine bodyPost_ret (ret_ct rfl rfl (rowLen_setCells.trans (rowLen_alloc_new rfl)) (rowAt_setCells_same rfl (by rw[rowLen_alloc_new rfl];decide)) rfl) rfl ?_
  exact⟨zL,rfl,OffA.zero _ _,Ext.cells _ _ exI (Nat.le_refl _)⟩
 | true=>
  have e1:newO me=⟨me,newDrive,newMem,fun _=>[]⟩:=by rw[newO,hme];rfl
  have e2:newOE me=0:=by rw[newOE,hme];rfl
  rw[e1,e2]
  clear e1 e2
  go_enter Tryz.func34,Tryz.ntmps34
  obtain⟨B,hB⟩:∃ B:Nat,w.heap.size=B:=⟨_,rfl⟩
  have HB:=hid hB
  go_wp2_with fail
  refine(isOffice_any _ _).mono ?_
  rintro e w1 ⟨rfl,rfl⟩
  rw[hme]
  go_wp2_with fail
  refine(New_any _).mono ?_
  rintro e P1 ⟨A0,c0,rfl,how,x1⟩
  have b0:BoxC P1 B [.int .i64 0,.slice none 0 0,.int .i64 0,.slice none 0 0,.int .i64 0,.slice none 0 0,.int .i64 0,.int .i64 0,.slice none 0 0,.slice none 0 0,.slice none 0 0,.slice none 0 0,.slice none 0 0,.slice none 0 0,.slice none 0 0,.slice none 0 0,.slice none 0 0] 76:=BoxC.of_ext (BoxC.cellsOther tB _ _ ((BoxC.new_at _ _ hB.symm).alloc _)) x1
  have b1:BoxC P1 (B+1) [.int .i64 me,.slice none 0 0,.int .i64 0,.slice none 0 0,.int .i64 0,.slice none 0 0,.int .i64 0,.int .i64 0,.slice none 0 0,.slice none 0 0,.slice none 0 0,.slice none 0 0,.slice none 0 0,.slice none 0 0,.slice none 0 0,.slice none 0 0,.slice none 0 0] 76:=BoxC.of_ext (by rw[←hB];exact BoxC.cells _ 0 (BoxC.new_at (P:=w.alloc _) [.int .i64 0,.slice none 0 0,.int .i64 0,.slice none 0 0,.int .i64 0,.slice none 0 0,.int .i64 0,.int .i64 0,.slice none 0 0,.slice none 0 0,.slice none 0 0,.slice none 0 0,.slice none 0 0,.slice none 0 0,.slice none 0 0,.slice none 0 0,.slice none 0 0] 76 tE) (Nat.le_refl _)) x1
  have X1:Hid (Ext w P1):=hid (Ext.trans (Ext.cells _ _ exI tB) x1)
  have Ho:=hid (how.anc.mono (base':=B+2) tA)
  have Hc:Hid (10≤c0∧c0≤9223372036854775807):=hid ⟨how.le,how.cap⟩
  have c1:=b1.c17
  have l0:rowLen P1 B=17:=b0.len
  have l1:=b1.lt
  have fz:=b1.frozen
  simp only[hB]
  clear b0 b1 x1 how hB
  go_wp2_with fail
  have hB:=HB.out
  have hc:=Hc.out
  have U:OffA (B+2) P1 ⟨me,newDrive,newMem,fun _=>[]⟩ ⟨A0,10,c0,none,0,0,none,0,0,fun _=>⟨none,0,0⟩⟩:=⟨⟨headB_length 1 0,rfl,hc.1,Nat.le_refl _,hc.2,Nat.zero_le _,Ho.out,BytA.nil _ _ _⟩,rfl,⟨Nat.le_refl _,Nat.zero_le _⟩,RecsA.nil _ _ _,fun _ _=>PlcA.nil _ _⟩
  refine bodyPost_ret (ret_ct rfl rfl (rowLen_setCells.trans (by simp only[rowLen_setCell];exact l0)) (rowAt_setCells_same rfl (by simp only[rowLen_setCell,l0];decide)) rfl) rfl ?_
  refine⟨⟨A0,10,c0,none,0,0,none,0,0,fun _=>⟨none,0,0⟩⟩,rfl,?_,?_⟩
  ·refine OffA.mono (base:=B+2) (OffA.cells ?_ tB) tB
   repeat refine OffA.set ?_ tB
   exact U
  ·refine Ext.cells _ _ ?_ tB
   repeat refine Ext.box ?_ _ _ tB
   exact X1.out
end Go.Proofs.YtekjdeibnfaehaaGreat
set_option linter.unusedSimpArgs false
set_option linter.unusedVariables false
namespace Go.Proofs.YtekjdeibnfaehaaGreat
open Go Go.RowKit
theorem risOffice_any(n:Int)(w:World):
 Calls Tryz.prog 98 #[.int .i64 n] w fun e w'=>e= .returned (.bool (inB n 0 8))∧w=w':=by
 go_enter Tryz.func98,Tryz.ntmps98
 go_wp2_with (go_at_call 92;refine(rin_any _ _ _ _).mono ?_;rintro e w1 ⟨rfl,rfl⟩)
 go_ret
 exact⟨rfl,rfl⟩
def errOff(O:OffD):Int:=if offOk O=true then 0 else 76
theorem errOff_no{O:OffD}(h:offOk O=false):errOff O=76:=by rw[errOff,h];rfl
theorem errOff_ok{O:OffD}(h:offOk O=true):errOff O=0:=by rw[errOff,h];rfl
set_option maxRecDepth 100000 in
set_option maxHeartbeats 16000000 in
theorem rCheckOffice_any(O:OffD)(L:OffL)(w:World)(h:OffY w O L):
 Calls Tryz.prog 104 #[offV O L] w fun e w'=>e= .returned (.int .i64 (errOff O))∧Ext w w':=by
 have hD:=h.d
 have hK:=hid h.k
 have hr:=h.r
 have hm:=h.l
 have hmb:=h.h
 have ht:=h.t
 clear h
 obtain⟨B,hB⟩:∃ B:Nat,w.heap.size=B:=⟨_,rfl⟩
 have HB:=hid hB
 clear hB
 have HO:Hid (offOk O=(inB O.me 0 8&&memOk O.d O.m&&(List.range 9).all (fun i=>knB (O.kn i)))):=hid rfl
 cases hme:inB O.me 0 8 with
 | false=>
  have HO2:Hid (errOff O=76):=hid (errOff_no (by rw[HO.out,hme];rfl))
  clear HO
  go_enter Tryz.func104,Tryz.ntmps104
  go_wp2_with (go_at_call 98;refine(risOffice_any _ _).mono ?_;rintro e w1 ⟨rfl,rfl⟩)
  go_ret
  exact⟨ret_val (by rw[HO2.out];rfl),Tv⟩
 | true=>
  go_enter Tryz.func104,Tryz.ntmps104
  go_wp2_with (go_at_call 98;refine(risOffice_any _ _).mono ?_;rintro e w1 ⟨rfl,rfl⟩)
  refine(rmem_any L.A0 L.n0 L.c0 L.A1 L.n1 L.c1 O.d L.Am L.nm L.cm O.m hm tB ht _ (hD.of_ext Tv) (hr.of_ext Tv)).mono ?_
  rintro e P1 ⟨rfl,x1⟩
  have b1:BoxC P1 B (offC O L) 76:=BoxC.of_ext (BoxC.new_at _ _ HB.out.symm) x1
  have X1:Hid (Ext w P1):=hid (Ext.trans Tv x1)
  simp only[HB.out]
  clear x1 hD hr hm hmb ht
  cases hmo:memOk O.d O.m with
  | false=>
   have HO2:Hid (errOff O=76):=hid (errOff_no (by rw[HO.out,hme,hmo];rfl))
   clear HO
   go_wp2_with fail
   go_ret
   exact⟨ret_val (by rw[HO2.out];rfl),X1.out⟩
  | true=>
   have HO2:=hid (HO.out.trans (by rw[hme,hmo,Bool.true_and,Bool.true_and]))
   clear HO
   have HV:=hid b1
   clear b1
   go_wp2_with fail
   go_loopw [3] (fun v wr=> ∃k:Nat,k≤9∧v= .int .i64 k∧Ext P1 wr∧∀ i,i<k→knB (O.kn i)=true) (fun v _=>9-(intOf v).toNat)
   case atStart=>exact⟨0,Nat.zero_le _,rfl,Ext.refl _,fun i hi=>absurd hi (Nat.not_lt_zero i)⟩
   case round=>
    rename_i K hKK
    obtain⟨k,hk,rfl,hx,hall⟩:=hrel
    have Hall:=hid hall
    have Hx:=hid hx
    clear hall hx
    by_cases hlt:k<9
    ·have hkk:=hK.out k hlt
     have hki:(k:Int)<9:=by omega
     obtain⟨⟨A,n,c⟩,hkv⟩:∃ t,L.k k=t:=⟨_,rfl⟩
     rw[hkv] at hkk
     obtain⟨hn,hnc,hcm,hsl⟩:=hkk
     simp only[] at hn hnc hcm hsl
     have hsl:=hsl.of_ext X1.out
     have HKv:=hid hkv
     clear hkv
     go_wp2_with fail
     go_loopw [4] (fun v w2=> ∃m:Nat,m≤n∧v= .int .i64 m∧Ext P1 w2∧∀ i,i<m→plOk (O.kn k) i=true) (fun v _=>n-(intOf v).toNat)
     case atStart=>exact⟨0,Nat.zero_le _,rfl,Hx.out,fun i hi=>absurd hi (Nat.not_lt_zero i)⟩
     case round=>
      rename_i K2 hK2
      obtain⟨m,hm,rfl,hx2,hpl⟩:=hrel
      have Hpl:=hid hpl
      have Hx2:=hid hx2
      have bb:=HV.out.of_ext hx2
      have ck:=bb.cell (i:=8+k) (get_kn _ _ _ _ _ _ _ _ L.k k hlt)
      rw[HKv.out] at ck
      have tb:=bb.lt
      have hsl2:=hsl.of_ext hx2
      clear hpl hx2 bb
      by_cases hlm:m<n
      ·obtain⟨g,o,rfl,hg,hrow⟩:=plcs_row hsl2 hn tB
       obtain⟨x0,x1⟩:=hrow m hlm
       have hno:plOk (O.kn k) m=false→Hid (errOff O=76):=fun hf=>hid (errOff_no (by
        rw[HO2.out]
        refine all_false k hlt ?_
        exact all_false m (by rw[hn];exact hlm) hf))
       have hrow2:=hrow
       have hmi:(m:Int)<n:=by omega
       clear hrow hsl2
       by_cases hk0:0<m
       rotate_left
       ·obtain rfl:m=0:=by omega
        clear hrow2
        simp only[Nat.zero_mul,Nat.add_zero] at x0 x1
        have hpe:plOk (O.kn k) 0=isPlaceB (pAt (O.kn k) 0).o (pAt (O.kn k) 0).s:=by simp[plOk]
        rw[hpe] at hno
        cases hq:isPlaceB (pAt (O.kn k) 0).o (pAt (O.kn k) 0).s with
        | false=>
         have HN:=hno hq
         clear hno
         go_wp2_with fail
         refine wp_region_ord_same (.f 0 (.f 1 (.f 2 (.f 3 (.f 4 (.f 5 (.f 6 (.a 7 (.f 8 (.f 9 (.f 10 (.f 11 (.f 12 (.f 13 (.f 14 (.f 15 (.f 16 (.f 17 (.f 18 (.f 19 (.f 20 (.f 21 (.f 22 (.f 23 (.f 24 (.f 25 (.f 26 (.f 27 (.a 28 (.f 29 (.f 30 (.f 31 .d)))))))))))))))))))))))))))))))) tG tG ?_
         refine oR ?_
         refine wpOrd_call rfl rfl rfl Tryz.call141 (fun R hR=> ?_)
         go_simp
         refine(risPlace_any _ _ _).mono ?_
         rintro e w1 ⟨rfl,E,d,rfl⟩
         refine hR _ _ ⟨_,rfl,?_,?_⟩
         ·exact tH
         clear hR R
         simp only[Act.put,zp]
         refine oR ?_
         refine ord_bool (j:=9) rfl (fun hb9=> ?_) (fun hb9=> ?_)
         rotate_left
         focus
          try(exfalso;first|(simp at hb9;done)|(simp at hb9;omega))
          all_goals
           (try simp only[hb9])
           refine oR ?_
           refine ord_bool (j:=12) rfl (fun hb12=> ?_) (fun hb12=> ?_)
           rotate_left
           focus
            try(exfalso;first|(simp at hb12;done)|(simp at hb12;omega))
            all_goals
             (try simp only[hb12])
             refine oR ?_
             refine wpOrd_actPass rfl rfl ?_ ?_
             ·exact tH
             simp only[Act.put,zp]
             refine oR ?_
             refine wpOrd_nil ?_
           rotate_right
           focus
            try(exfalso;first|(simp at hb12;done)|(simp at hb12;omega))
            all_goals
             (try simp only[hb12])
             refine oR ?_
             refine wpOrd_call rfl rfl rfl Tryz.call136 (fun R hR=> ?_)
             go_simp
             refine(Ahead_any _ _ _ _ _).mono ?_
             rintro e w1 ⟨rfl,E2,d2,rfl⟩
             refine hR _ _ ⟨_,rfl,?_,?_⟩
             ·exact tH
             clear hR R
             simp only[Act.put,zp]
             refine oR ?_
             refine wpOrd_nil ?_
         rotate_right
         focus
          try(exfalso;first|(simp at hb9;done)|(simp at hb9;omega))
          all_goals
           (try simp only[hb9])
           refine oR ?_
           refine wpOrd_actPass rfl rfl ?_ ?_
           ·exact tH
           simp only[Act.put,zp]
           refine oR ?_
           refine wpOrd_nil ?_
         all_goals
          go_wp2_with fail
         go_ret
         exact⟨ret_val TH,Ext.trans X1.out (Ext.trans Hx2.out Tv)⟩
        | true=>
         have HN:Hid (plOk (O.kn k) 0=true):=hid (hpe.trans hq)
         clear hno hpe
         go_wp2_with fail
         refine wp_region_ord_same (.f 0 (.f 1 (.f 2 (.f 3 (.f 4 (.f 5 (.f 6 (.a 7 (.f 8 (.f 9 (.f 10 (.f 11 (.f 12 (.f 13 (.f 14 (.f 15 (.f 16 (.f 17 (.f 18 (.f 19 (.f 20 (.f 21 (.f 22 (.f 23 (.f 24 (.f 25 (.f 26 (.f 27 (.a 28 (.f 29 (.f 30 (.f 31 .d)))))))))))))))))))))))))))))))) tG tG ?_
         refine oR ?_
         refine wpOrd_call rfl rfl rfl Tryz.call141 (fun R hR=> ?_)
         go_simp
         refine(risPlace_any _ _ _).mono ?_
         rintro e w1 ⟨rfl,E,d,rfl⟩
         refine hR _ _ ⟨_,rfl,?_,?_⟩
         ·exact tH
         clear hR R
         simp only[Act.put,zp]
         refine oR ?_
         refine ord_bool (j:=9) rfl (fun hb9=> ?_) (fun hb9=> ?_)
         rotate_left
         focus
          try(exfalso;first|(simp at hb9;done)|(simp at hb9;omega))
          all_goals
           (try simp only[hb9])
           refine oR ?_
           refine ord_bool (j:=12) rfl (fun hb12=> ?_) (fun hb12=> ?_)
           rotate_left
           focus
            try(exfalso;first|(simp at hb12;done)|(simp at hb12;omega))
            all_goals
             (try simp only[hb12])
             refine oR ?_
             refine wpOrd_actPass rfl rfl ?_ ?_
             ·exact tH
             simp only[Act.put,zp]
             refine oR ?_
             refine wpOrd_nil ?_
           rotate_right
           focus
            try(exfalso;first|(simp at hb12;done)|(simp at hb12;omega))
            all_goals
             (try simp only[hb12])
             refine oR ?_
             refine wpOrd_call rfl rfl rfl Tryz.call136 (fun R hR=> ?_)
             go_simp
             refine(Ahead_any _ _ _ _ _).mono ?_
             rintro e w1 ⟨rfl,E2,d2,rfl⟩
             refine hR _ _ ⟨_,rfl,?_,?_⟩
             ·exact tH
             clear hR R
             simp only[Act.put,zp]
             refine oR ?_
             refine wpOrd_nil ?_
         rotate_right
         focus
          try(exfalso;first|(simp at hb9;done)|(simp at hb9;omega))
          all_goals
           (try simp only[hb9])
           refine oR ?_
           refine wpOrd_actPass rfl rfl ?_ ?_
           ·exact tH
           simp only[Act.put,zp]
           refine oR ?_
           refine wpOrd_nil ?_
         all_goals
          go_wp2_with fail
         exact⟨⟨0+1,by omega,by go_num,Ext.trans Hx2.out Tv,fun i hi=>by
          obtain rfl:i=0:=by omega
          exact HN.out⟩,by simp[intOf];omega⟩
       ·obtain⟨y0,y1⟩:=hrow2 (m-1) tB
        have hpe:plOk (O.kn k) m=(isPlaceB (pAt (O.kn k) m).o (pAt (O.kn k) m).s&&ltP (pAt (O.kn k) (m-1)).o (pAt (O.kn k) (m-1)).s (pAt (O.kn k) m).o (pAt (O.kn k) m).s):=by
         rw[show ∀a b c d,ltP a b c d=decide (cmpP a b c d<0) from fun a b c d=>by
          cases h:ltP a b c d with
          | true=>exact(decide_eq_true (cmpP_neg.2 h)).symm
          | false=>exact(decide_eq_false (fun h2=>by rw[cmpP_neg.1 h2] at h;cases h)).symm]
         simp[plOk,show ¬m=0 by omega]
        rw[hpe] at hno
        obtain⟨p,hp⟩:∃ p,pAt (O.kn k) m=p:=⟨_,rfl⟩
        obtain⟨q,hq⟩:∃ q,pAt (O.kn k) (m-1)=q:=⟨_,rfl⟩
        rw[hp] at x0 x1
        rw[hq] at y0 y1
        rw[hp,hq] at hno hpe
        have hi1:(1:Int)≤(m:Int):=by omega
        have hi2:(m:Int)-1<(n:Int):=by omega
        have hi0:(0:Int)≤(m:Int)-1:=by omega
        have hi3:IntKind.i64.wrap ((m:Int)-1)=(m:Int)-1:=IntWalk.i64_in _ tB
        have hi4:((m:Int)-1).toNat=m-1:=by omega
        clear hp hq hrow2
        obtain⟨cv,hcv⟩:∃ cv,ltP q.o q.s p.o p.s=cv:=⟨_,rfl⟩
        rw[hcv] at hno hpe
        cases hz:isPlaceB p.o p.s with
        | false=>
         have HN:=hno (by rw[hz];rfl)
         clear hno hpe hcv
         go_wp2_with fail
         refine wp_region_ord_same (.f 0 (.f 1 (.f 2 (.f 3 (.f 4 (.f 5 (.f 6 (.a 7 (.f 8 (.f 9 (.f 10 (.f 11 (.f 12 (.f 13 (.f 14 (.f 15 (.f 16 (.f 17 (.f 18 (.f 19 (.f 20 (.f 21 (.f 22 (.f 23 (.f 24 (.f 25 (.f 26 (.f 27 (.a 28 (.f 29 (.f 30 (.f 31 .d)))))))))))))))))))))))))))))))) tG tG ?_
         refine oR ?_
         refine wpOrd_call rfl rfl rfl Tryz.call141 (fun R hR=> ?_)
         go_simp
         refine(risPlace_any _ _ _).mono ?_
         rintro e w1 ⟨rfl,E,d,rfl⟩
         refine hR _ _ ⟨_,rfl,?_,?_⟩
         ·exact tH
         clear hR R
         simp only[Act.put,zp]
         refine oR ?_
         refine ord_bool (j:=9) rfl (fun hb9=> ?_) (fun hb9=> ?_)
         rotate_left
         focus
          try(exfalso;first|(simp at hb9;done)|(simp at hb9;omega))
          all_goals
           (try simp only[hb9])
           refine oR ?_
           refine ord_bool (j:=12) rfl (fun hb12=> ?_) (fun hb12=> ?_)
           rotate_left
           focus
            try(exfalso;first|(simp at hb12;done)|(simp at hb12;omega))
            all_goals
             (try simp only[hb12])
             refine oR ?_
             refine wpOrd_actPass rfl rfl ?_ ?_
             ·exact tH
             simp only[Act.put,zp]
             refine oR ?_
             refine wpOrd_nil ?_
           rotate_right
           focus
            try(exfalso;first|(simp at hb12;done)|(simp at hb12;omega))
            all_goals
             (try simp only[hb12])
             refine oR ?_
             refine wpOrd_call rfl rfl rfl Tryz.call136 (fun R hR=> ?_)
             go_simp
             refine(Ahead_any _ _ _ _ _).mono ?_
             rintro e w1 ⟨rfl,E2,d2,rfl⟩
             refine hR _ _ ⟨_,rfl,?_,?_⟩
             ·exact tH
             clear hR R
             simp only[Act.put,zp]
             refine oR ?_
             refine wpOrd_nil ?_
         rotate_right
         focus
          try(exfalso;first|(simp at hb9;done)|(simp at hb9;omega))
          all_goals
           (try simp only[hb9])
           refine oR ?_
           refine wpOrd_actPass rfl rfl ?_ ?_
           ·exact tH
           simp only[Act.put,zp]
           refine oR ?_
           refine wpOrd_nil ?_
         all_goals
          go_wp2_with fail
         go_ret
         exact⟨ret_val TH,Ext.trans X1.out (Ext.trans Hx2.out Tv)⟩
        | true=>
         cases cv with
         | true=>
          have HN:Hid (plOk (O.kn k) m=true):=hid (hpe.trans (by rw[hz];rfl))
          clear hno hpe
          go_wp2_with fail
          refine wp_region_ord_same (.f 0 (.f 1 (.f 2 (.f 3 (.f 4 (.f 5 (.f 6 (.a 7 (.f 8 (.f 9 (.f 10 (.f 11 (.f 12 (.f 13 (.f 14 (.f 15 (.f 16 (.f 17 (.f 18 (.f 19 (.f 20 (.f 21 (.f 22 (.f 23 (.f 24 (.f 25 (.f 26 (.f 27 (.a 28 (.f 29 (.f 30 (.f 31 .d)))))))))))))))))))))))))))))))) tG tG ?_
          refine oR ?_
          refine wpOrd_call rfl rfl rfl Tryz.call141 (fun R hR=> ?_)
          go_simp
          refine(risPlace_any _ _ _).mono ?_
          rintro e w1 ⟨rfl,E,d,rfl⟩
          refine hR _ _ ⟨_,rfl,?_,?_⟩
          ·exact tH
          clear hR R
          simp only[Act.put,zp]
          refine oR ?_
          refine ord_bool (j:=9) rfl (fun hb9=> ?_) (fun hb9=> ?_)
          rotate_left
          focus
           try(exfalso;first|(simp at hb9;done)|(simp at hb9;omega))
           all_goals
            (try simp only[hb9])
            refine oR ?_
            refine ord_bool (j:=12) rfl (fun hb12=> ?_) (fun hb12=> ?_)
            rotate_left
            focus
             try(exfalso;first|(simp at hb12;done)|(simp at hb12;omega))
             all_goals
              (try simp only[hb12])
              refine oR ?_
              refine wpOrd_actPass rfl rfl ?_ ?_
              ·exact tH
              simp only[Act.put,zp]
              refine oR ?_
              refine wpOrd_nil ?_
            rotate_right
            focus
             try(exfalso;first|(simp at hb12;done)|(simp at hb12;omega))
             all_goals
              (try simp only[hb12])
              refine oR ?_
              refine wpOrd_call rfl rfl rfl Tryz.call136 (fun R hR=> ?_)
              go_simp
              refine(Ahead_any _ _ _ _ _).mono ?_
              rintro e w1 ⟨rfl,E2,d2,rfl⟩
              refine hR _ _ ⟨_,rfl,?_,?_⟩
              ·exact tH
              clear hR R
              simp only[Act.put,zp]
              refine oR ?_
              refine wpOrd_nil ?_
          rotate_right
          focus
           try(exfalso;first|(simp at hb9;done)|(simp at hb9;omega))
           all_goals
            (try simp only[hb9])
            refine oR ?_
            refine wpOrd_actPass rfl rfl ?_ ?_
            ·exact tH
            simp only[Act.put,zp]
            refine oR ?_
            refine wpOrd_nil ?_
          all_goals
           go_wp2_with fail
          all_goals exact⟨⟨m+1,by omega,by go_num,Ext.trans Hx2.out Tv,fun i hi=>by
           by_cases he:i=m
           ·rw[he];exact HN.out
           ·exact Hpl.out i tB⟩,by simp[intOf];omega⟩
         | false=>
          have HN:=hno (by rw[hz];rfl)
          clear hno hpe
          go_wp2_with fail
          refine wp_region_ord_same (.f 0 (.f 1 (.f 2 (.f 3 (.f 4 (.f 5 (.f 6 (.a 7 (.f 8 (.f 9 (.f 10 (.f 11 (.f 12 (.f 13 (.f 14 (.f 15 (.f 16 (.f 17 (.f 18 (.f 19 (.f 20 (.f 21 (.f 22 (.f 23 (.f 24 (.f 25 (.f 26 (.f 27 (.a 28 (.f 29 (.f 30 (.f 31 .d)))))))))))))))))))))))))))))))) tG tG ?_
          refine oR ?_
          refine wpOrd_call rfl rfl rfl Tryz.call141 (fun R hR=> ?_)
          go_simp
          refine(risPlace_any _ _ _).mono ?_
          rintro e w1 ⟨rfl,E,d,rfl⟩
          refine hR _ _ ⟨_,rfl,?_,?_⟩
          ·exact tH
          clear hR R
          simp only[Act.put,zp]
          refine oR ?_
          refine ord_bool (j:=9) rfl (fun hb9=> ?_) (fun hb9=> ?_)
          rotate_left
          focus
           try(exfalso;first|(simp at hb9;done)|(simp at hb9;omega))
           all_goals
            (try simp only[hb9])
            refine oR ?_
            refine ord_bool (j:=12) rfl (fun hb12=> ?_) (fun hb12=> ?_)
            rotate_left
            focus
             try(exfalso;first|(simp at hb12;done)|(simp at hb12;omega))
             all_goals
              (try simp only[hb12])
              refine oR ?_
              refine wpOrd_actPass rfl rfl ?_ ?_
              ·exact tH
              simp only[Act.put,zp]
              refine oR ?_
              refine wpOrd_nil ?_
            rotate_right
            focus
             try(exfalso;first|(simp at hb12;done)|(simp at hb12;omega))
             all_goals
              (try simp only[hb12])
              refine oR ?_
              refine wpOrd_call rfl rfl rfl Tryz.call136 (fun R hR=> ?_)
              go_simp
              refine(Ahead_any _ _ _ _ _).mono ?_
              rintro e w1 ⟨rfl,E2,d2,rfl⟩
              refine hR _ _ ⟨_,rfl,?_,?_⟩
              ·exact tH
              clear hR R
              simp only[Act.put,zp]
              refine oR ?_
              refine wpOrd_nil ?_
          rotate_right
          focus
           try(exfalso;first|(simp at hb9;done)|(simp at hb9;omega))
           all_goals
            (try simp only[hb9])
            refine oR ?_
            refine wpOrd_actPass rfl rfl ?_ ?_
            ·exact tH
            simp only[Act.put,zp]
            refine oR ?_
            refine wpOrd_nil ?_
          all_goals
           go_wp2_with fail
          all_goals (go_ret;exact⟨ret_val TH,Ext.trans X1.out (Ext.trans Hx2.out Tv)⟩)
      ·have hmi:¬ ((m:Int)<n):=by omega
       obtain rfl:n=m:=by omega
       have HKN:Hid (knB (O.kn k)=true):=hid (by rw[knB,hn];exact all_true Hpl.out)
       clear Hpl hsl2 hsl
       go_wp2_with fail
       exact⟨⟨k+1,by omega,by go_num,Hx2.out,fun i hi=>by
        by_cases he:i=k
        ·rw[he];exact HKN.out
        ·exact Hall.out i tB⟩,by simp[intOf];omega⟩
    ·have hki:¬ ((k:Int)<9):=by omega
     obtain rfl:k=9:=by omega
     have HN:Hid (errOff O=0):=hid (errOff_ok (by rw[HO2.out];exact all_true Hall.out))
     go_wp2_with fail
     go_ret
     exact⟨ret_val TH,X1.out.trans Hx.out⟩
end Go.Proofs.YtekjdeibnfaehaaGreat
