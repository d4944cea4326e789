/- Texts of a proof. -/
import Derived.Test.YtekjdeibnfaehaaGreatKDar
import Derived.Test.YtekjdeibnfaehaaGreatKDaj
set_option linter.unusedSimpArgs false
set_option linter.unusedVariables false
namespace Go.Proofs.YtekjdeibnfaehaaGreat
open Go.RowKit
def zeros2:Array Value:=#[.int .i64 0,.int .i64 0]
theorem gb_drew(w:World)(b:Option Nat):w.grownBy w.drew b:=⟨rfl,rfl,rfl,Nat.le_refl _,fun _ _ _=>rfl⟩
theorem gb_setRow(w:World)(g:Nat)(cs:Array Value):w.grownBy (w.setRow g cs) (some g):=⟨rfl,rfl,rfl,by simp,fun k _ hk=>setRow_other w g k cs (fun e=>hk (by rw[e]))⟩
theorem gb_setCell(w:World)(g i:Nat)(v:Value):w.grownBy (w.setCell ⟨g,i,none⟩ v) (some g):=⟨rfl,rfl,rfl,by simp,fun k _ hk=>by
 simp only[World.setCell]
 rw[Array.getElem?_modify,if_neg (fun e=>hk (by rw[←e]))]⟩
theorem gb_alloc(w:World)(o:Obj)(b:Option Nat):w.grownBy (w.alloc o) b:=World.grownBy_alloc w o b
theorem gb_drew'{w w':World}{b:Option Nat}(h:w.grownBy w' b):w.grownBy w'.drew b:=⟨h.os,h.tape,h.output,h.size,h.block⟩
theorem gb_newRow{w w':World}{b:Option Nat}(h:w.grownBy w' b)(g:Nat)(cs:Array Value)(hg:w.heap.size≤g):w.grownBy (w'.setRow g cs) b:=
 ⟨h.os,h.tape,h.output,by simpa using h.size,fun k hk hb=>(setRow_other w' g k cs tB).trans (h.block k hk hb)⟩
theorem plcs_length(l:List Plc):(l.flatMap encP).length=l.length * 2:=by
 induction l with
 | nil=>rfl
 | cons r l ih=>
  have h:((r::l).flatMap encP).length=(encP r).length+(l.flatMap encP).length:=by rw[List.flatMap_cons,List.length_append]
  have h2:(encP r).length=2:=rfl
  have h3:(r::l).length=l.length+1:=rfl
  rw[h,ih,h3,h2]
  omega
theorem encP_length(r:Plc):(encP r).length=2:=rfl
theorem plcs_take:∀ (l:List Plc) (i:Nat),(l.flatMap encP).take (i * 2)=(l.take i).flatMap encP
 | [],i=>by simp
 | r::l,0=>by simp
 | r::l,i+1=>by
  rw[List.flatMap_cons,List.take_succ_cons,List.flatMap_cons,List.take_append,encP_length,List.take_of_length_le (by rw[encP_length];omega),show(i+1) * 2-2=i * 2 by omega,plcs_take l i]
theorem plcs_drop:∀ (l:List Plc) (i:Nat),(l.flatMap encP).drop (i * 2)=(l.drop i).flatMap encP
 | [],i=>by simp
 | r::l,0=>by simp
 | r::l,i+1=>by
  rw[List.flatMap_cons,List.drop_succ_cons,List.drop_append,encP_length,List.drop_of_length_le (by rw[encP_length];omega),show(i+1) * 2-2=i * 2 by omega,plcs_drop l i]
  rfl
theorem insert_rowsP(l:List Plc)(r:Plc)(i:Nat)(hi:i≤l.length)(cur:List Value)(h:cur.take (l.length * 2)=l.flatMap encP)(hc:(l.length+1) * 2≤cur.length):
 let c1:=cur.take ((i+1) * 2)++(l.drop i).flatMap encP++cur.drop ((i+1) * 2+((l.drop i).flatMap encP).length)
 let c2:=c1.take (i * 2)++encP r++c1.drop (i * 2+(encP r).length)
 c2.length=cur.length∧c2.take ((l.length+1) * 2)=(l.take i++r::l.drop i).flatMap encP:=by
 intro c1 c2
 have he:(encP r).length=2:=rfl
 have hd:((l.drop i).flatMap encP).length=(l.length-i) * 2:=by rw[plcs_length,List.length_drop]
 have h1:c1.take (i * 2)=(l.take i).flatMap encP:=by
  rw[←plcs_take,←h,List.take_take,Nat.min_eq_left tB]
  show(cur.take ((i+1) * 2)++_++_).take (i * 2)=_
  rw[List.append_assoc,List.take_append_of_le_length tg,List.take_take,Nat.min_eq_left tB]
 have h2:c1.drop (i * 2+(encP r).length)=(l.drop i).flatMap encP++cur.drop ((l.length+1) * 2):=by
  show(cur.take ((i+1) * 2)++_++_).drop (i * 2+(encP r).length)=_
  rw[List.append_assoc,List.drop_append,List.length_take,he,show i * 2+2-min ((i+1) * 2) cur.length=0 by omega,List.drop_of_length_le tg,hd]
  rw[show(i+1) * 2+(l.length-i) * 2=(l.length+1) * 2 by omega]
  rfl
 have h3:c2=(l.take i++r::l.drop i).flatMap encP++cur.drop ((l.length+1) * 2):=by
  show c1.take (i * 2)++encP r++c1.drop (i * 2+(encP r).length)=_
  rw[h1,h2,List.flatMap_append,List.flatMap_cons]
  simp only[List.append_assoc]
 have h4:((l.take i++r::l.drop i).flatMap encP).length=(l.length+1) * 2:=by
  rw[plcs_length,List.length_append,List.length_cons,List.length_take,List.length_drop]
  congr 1
  omega
 refine⟨?_,?_⟩
 ·rw[h3,List.length_append,h4,List.length_drop];omega
 ·rw[h3,List.take_append_of_le_length tB,List.take_of_length_le tB]
theorem insert_rowsQ(l:List Plc)(r:Plc)(i:Nat)(hi:i≤l.length)(row:List Value)(hr:row.take (i * 2)=(l.take i).flatMap encP)(hc:(l.length+1) * 2≤row.length):
 let c1:=row.take (i * 2)++encP r++row.drop (i * 2+(encP r).length)
 let c2:=c1.take ((i+1) * 2)++(l.drop i).flatMap encP++c1.drop ((i+1) * 2+((l.drop i).flatMap encP).length)
 c2.length=row.length∧c2.take ((l.length+1) * 2)=(l.take i++r::l.drop i).flatMap encP:=by
 intro c1 c2
 have he:(encP r).length=2:=rfl
 have hd:((l.drop i).flatMap encP).length=(l.length-i) * 2:=by rw[plcs_length,List.length_drop]
 have hl1:(row.take (i * 2)++encP r).length=(i+1) * 2:=by rw[List.length_append,he,List.length_take];omega
 have h1:c1.take ((i+1) * 2)=(l.take i).flatMap encP++encP r:=by
  show(row.take (i * 2)++encP r++_).take ((i+1) * 2)=_
  rw[List.take_append_of_le_length tB,List.take_of_length_le tB,hr]
 have hcl:c1.length=row.length:=by
  show(row.take (i * 2)++encP r++row.drop _).length=_
  rw[List.length_append,hl1,List.length_drop,he];omega
 have h4:((l.take i++r::l.drop i).flatMap encP).length=(l.length+1) * 2:=by
  rw[plcs_length,List.length_append,List.length_cons,List.length_take,List.length_drop]
  congr 1
  omega
 have h3:c2=(l.take i++r::l.drop i).flatMap encP++c1.drop ((l.length+1) * 2):=by
  show c1.take ((i+1) * 2)++(l.drop i).flatMap encP++c1.drop _=_
  rw[h1,hd,List.flatMap_append,List.flatMap_cons,show(i+1) * 2+(l.length-i) * 2=(l.length+1) * 2 by omega]
  simp only[List.append_assoc]
 refine⟨?_,?_⟩
 ·rw[h3,List.length_append,h4,List.length_drop];omega
 ·rw[h3,List.take_append_of_le_length tB,List.take_of_length_le tB]
theorem info_plc_size:(Tryz.prog.info? 44).map (·.size)=some 2:=by
 obtain⟨i0,hi,hz0,hz1,hz2⟩:=info_parts info_plc
 rw[hi];simp[hz1]
theorem sizeOf_plc(w:World):(Go.sizeOf 44).run Tryz.prog w= .ok 2 w:=by
 obtain⟨i0,hi,hz0,hz1,hz2⟩:=info_parts info_plc
 simp[sizeOf,typeInfo,hi,hz1]
structure LaidP(w:World)(vb:Nat)(r:Plc):Prop where
 at_:w.heap[vb]? =some (.cells (encP r).toArray 44)
set_option maxRecDepth 100000 in
set_option maxHeartbeats 4000000 in
theorem InsertP_room(X:World)(A:Option Addr)(n c vb vc i:Nat)(l:List Plc)(r:Plc)(hn:n=l.length)(hbig:n≤100000)(hi:i<n)(hroom:n+1≤c)(w:World)(hx:Ext X w)(ho:OwnP X.heap.size w (.slice A n c) l)(hv:LaidP w vb r)(hne:∀ a,A=some a→vb≠a.block):
 Calls Tryz.prog 150 #[.slice A n c,.int .i64 i,.slice (some ⟨vb,0,none⟩) 1 vc] w fun e w'=>
  ∃A' n' c',e= .returned (.slice A' n' c')∧OwnP X.heap.size w' (.slice A' n' c') (l.take i++r::l.drop i)∧Ext X w'∧w.grownBy w' (A.map (·.block)):=by
 rcases ho.2 with⟨_,h0⟩|⟨g,cap,cur,hvl,hb,hg,hnc,hcm,hcs,hcur⟩
 ·omega
 subst hn
 cases hvl
 have hvb:=hne _ rfl
 simp only at hvb
 have hdl:((l.drop i).flatMap encP).length=(l.length-i) * 2:=by rw[plcs_length,List.length_drop]
 have hcl:(l.length+1) * 2≤cur.size:=by rw[hcs];exact Nat.mul_le_mul_right _ hroom
 obtain⟨hr1,hr2⟩:=insert_rowsP l r i tB cur.toList hcur (by simpa using hcl)
 have hcell:∀ j v,((l.drop i).flatMap encP)[j]? =some v→w.cell? ⟨g,i * 2+j,none⟩=some v:=fun j v hj=>by
  rw[←plcs_drop,←hcur,List.getElem?_drop,List.getElem?_take] at hj
  split at hj
  ·simp only[World.cell?,hg,Option.isSome_none,Bool.false_eq_true,if_false]
   rw[←hj,Array.getElem?_toList]
  ·cases hj
 have hcp1:∀ ty dc sc,(Builtin.copy_ #[71,71] ty #[.slice (some ⟨g,(i+1) * 2,none⟩) (l.length-i) dc,.slice (some ⟨g,i * 2,none⟩) (l.length+1-i) sc]).run Tryz.prog w.drew=
  .ok (goInt (l.length-i:Nat)) (w.drew.setRow g (cur.toList.take ((i+1) * 2)++(l.drop i).flatMap encP++cur.toList.drop ((i+1) * 2+((l.drop i).flatMap encP).length)).toArray):=fun ty dc sc=>
  run_copy_rowk w.drew _ _ ty 44 2 g ((i+1) * 2) _ dc ⟨g,i * 2,none⟩ _ sc (l.length-i) cur 44 _ Tryz.underlying71 info_plc_size th hg hdl
   (fun j v hj=>by rw[Addr.add_lit];exact hcell j v hj) (by rw[hdl];omega) (encP_one _)
 obtain⟨c1,hc1⟩:∃ c1,cur.toList.take ((i+1) * 2)++(l.drop i).flatMap encP++cur.toList.drop ((i+1) * 2+((l.drop i).flatMap encP).length)=c1:=⟨_,rfl⟩
 rw[hc1] at hcp1 hr1 hr2
 have hc1l:c1.length=cur.size:=by
  rw[←hc1,List.length_append,List.length_append,List.length_take,List.length_drop,hdl,Array.length_toList];omega
 have hg1:(w.drew.setRow g c1.toArray).heap[g]? =some (.cells c1.toArray 44 (0,0)):=setRow_heap _ _ cur _ _ _ hg
 have hcp2:∀ (W:World),W.heap=(w.drew.setRow g c1.toArray).heap→∀ ty dc,(Builtin.copy_ #[71,71] ty #[.slice (some ⟨g,i * 2,none⟩) (l.length+1-i) dc,.slice (some ⟨vb,0,none⟩) 1 vc]).run Tryz.prog W=
  .ok (goInt (1:Nat)) (W.setRow g (c1.take (i * 2)++encP r++c1.drop (i * 2+(encP r).length)).toArray):=fun W hW ty dc=>by
  have:=run_copy_rowk (P:=Tryz.prog) W 71 71 ty 44 2 g (i * 2) (l.length+1-i) dc ⟨vb,0,none⟩ 1 vc 1 c1.toArray 44 (encP r) Tryz.underlying71 info_plc_size th (by rw[hW];exact hg1) rfl
   (fun j v hj=>by
    rw[Addr.add_lit]
    have h2:W.heap[vb]? =some (.cells (encP r).toArray 44):=by rw[hW,setRow_other _ _ _ _ hvb];exact hv.at_
    simp only[World.cell?,h2,Nat.zero_add,Option.isSome_none,Bool.false_eq_true,if_false]
    rw[←hj,List.getElem?_toArray]) (by rw[List.size_toArray,hc1l,encP_length];omega) (by intro v hv;exact encP_one [r] v ti)
  exact this
 obtain⟨c2,hc2⟩:∃ c2,c1.take (i * 2)++encP r++c1.drop (i * 2+(encP r).length)=c2:=⟨_,rfl⟩
 rw[hc2] at hcp2 hr1 hr2
 have hov:∀ lb cb o,(callFunc 163 #[.slice (some ⟨vb,0,none⟩) 1 vc,.slice (some ⟨g,o,none⟩) lb cb]).run Tryz.prog w= .ok (.value (.bool false)) w:=fun lb cb o=>by
  rw[run_callFunc_extern Tryz.func163 tG tG tG (e:=Extern.SlicesOverlaps.overlaps #[71,71] #[4]) tG,
   Lib.run_overlaps_apart w 71 4 44 Tryz.underlying71 2 sizeOf_plc ⟨vb,0,none⟩ ⟨g,o,none⟩ 1 vc lb cb hvb 44 44 2 cur.size (by simp[World.shape?,hv.at_,encP_length]) (by simp[World.shape?,hg]) tB tj tj]
  rfl
 have hw1:IntKind.i64.wrap ((i:Int)+1)=(i:Int)+1:=by rw[IntKind.wrap_i64];omega
 have htn:((i:Int)+1).toNat=i+1:=by omega
 have hcap:c≤9223372036854775807:=hcm
 have hz2:¬ ((i:Int)=(l.length:Int)):=by omega
 have hf0:(0:Int)≤(i:Int)+1:=by omega
 have hf1:i≤l.length:=by omega
 have hf2:¬ (c=i+1):=by omega
 have hf3:¬ (c=i):=by omega
 have hf4:(i:Int)≤(l.length:Int)+1:=by omega
 go_enter Tryz.func150,Tryz.ntmps150
 go_wp2_with (simp only[hov])
 refine wp_region_ord (.f 0 (.f 1 (.f 2 (.f 3 (.f 4 (.f 5 (.f 6 (.f 7 (.a 8 .d))))))))) (Ext (X)) tG tG tR ?_
 refine oS ?_
 refine wpOrd_act rfl rfl (fun K hK=> ?_)
 refine wp_copy_runI _ _ _ 71 71 rfl _ _ rfl rfl (hcp1 _ _ _) ?_
 refine hK _ _ ⟨?_,?_⟩
 ·exact(hx.drew).setRow _ _ hb
 clear hK K
 try simp only[Act.put,zp]
 refine wpOrd_nil ?_
 go_wp2_with (at_builtin;refine wpList_copy_runI _ rfl _ _ 71 71 rfl _ _ rfl rfl (hcp2 _ rfl _ _) ?_)
 go_ret
 have hlen:(l.take i++r::l.drop i).length=l.length+1:=by simp;omega
 refine⟨_,_,_,rfl,⟨?_,.inr ⟨g,c,_,by rw[hlen],hb,setRow_heap _ _ _ _ _ _ hg1,by omega,hcm,?_,?_⟩⟩,((hx.drew).setRow _ _ hb).setRow _ _ hb,((gb_drew w _).trans (gb_setRow _ _ _)).trans (gb_setRow _ _ _)⟩
 ·rw[plcs_length]
 ·exact tk
 ·rw[hlen]
  exact hr2
set_option maxRecDepth 100000 in
set_option maxHeartbeats 4000000 in
theorem InsertP_grow(X:World)(A:Option Addr)(n c vb vc i:Nat)(l:List Plc)(r:Plc)(hn:n=l.length)(hbig:n≤100000)(hi:i<n)(hroom:c<n+1)(w:World)(hx:Ext X w)(ho:OwnP X.heap.size w (.slice A n c) l)(hv:LaidP w vb r):
 Calls Tryz.prog 150 #[.slice A n c,.int .i64 i,.slice (some ⟨vb,0,none⟩) 1 vc] w fun e w'=>
  ∃A' n' c',e= .returned (.slice A' n' c')∧OwnP X.heap.size w' (.slice A' n' c') (l.take i++r::l.drop i)∧Ext X w'∧w.grownBy w' (A.map (·.block)):=by
 rcases ho.2 with⟨_,h0⟩|⟨g,cap,cur,hvl,hb,hg,hnc,hcm,hcs,hcur⟩
 ·omega
 subst hn
 cases hvl
 obtain rfl:c=l.length:=by omega
 obtain⟨i0,hi0,hz0,hzs,hzb⟩:=info_parts info_plc
 have hbw:g<w.heap.size:=(Array.getElem?_eq_some_iff.1 hg).1
 have hvw:vb<w.heap.size:=(Array.getElem?_eq_some_iff.1 hv.at_).1
 have hXw:X.heap.size≤w.heap.size:=hx.below.size
 have hdl:((l.drop i).flatMap encP).length=(l.length-i) * 2:=by rw[plcs_length,List.length_drop]
 have hcell0:∀ j v,(l.flatMap encP)[j]? =some v→w.cell? ⟨g,j,none⟩=some v:=fun j v hj=>by
  rw[←hcur,List.getElem?_take] at hj
  split at hj
  ·simp only[World.cell?,hg,Option.isSome_none,Bool.false_eq_true,if_false]
   rw[←hj,Array.getElem?_toList]
  ·cases hj
 have hcell:∀ j v,((l.drop i).flatMap encP)[j]? =some v→w.cell? ⟨g,i * 2+j,none⟩=some v:=fun j v hj=>by
  rw[←plcs_drop,List.getElem?_drop] at hj
  exact hcell0 _ _ hj
 have hold:(Builtin.firstCells i0.size i (.slice (some ⟨g,0,none⟩) i l.length)).run Tryz.prog w.drew= .ok ((l.take i).flatMap encP).toArray w.drew:=by
  rw[hzs]
  refine run_firstCells_some w.drew 2 i ⟨g,0,none⟩ i l.length _ (by rw[plcs_length,List.length_take];congr 1;omega) (fun j v hj=> ?_)
  rw[Addr.add_lit,Nat.zero_add]
  rw[←plcs_take,List.getElem?_take] at hj
  split at hj
  ·exact hcell0 _ _ hj
  ·cases hj
 have hik:i+(l.length+1-i)=l.length+1:=by omega
 have hkk:(l.length:Int)+1-(i:Int)=((l.length+1-i:Nat):Int):=by omega
 obtain⟨G,hG⟩:∃ G,G=grownCap w (l.length+1) l.length 44:=⟨_,rfl⟩
 obtain⟨ROW,hROW⟩:∃ ROW:Array Value,ROW=((l.take i).flatMap encP).toArray++Builtin.zeroCells zeros2 (l.length+1-i)++Builtin.zeroCells zeros2 (G-(l.length+1)):=⟨_,rfl⟩
 have hrz:∀ ty,(Builtin.append_ #[71,3] ty #[.slice (some ⟨g,0,none⟩) i l.length,.int .i64 ((l.length:Int)+1-(i:Int))]).run Tryz.prog w=
  .ok (.slice (some ⟨w.heap.size,0,none⟩) (l.length+1) G) (w.drew.alloc (.cells ROW 44)):=fun ty=>by
  have h:=Lib.run_append_grow_zeros w 71 3 ty 44 i0 _ .i64 .i64 Tryz.underlying71 Tryz.underlying3 hi0 hz0 (some ⟨g,0,none⟩) i l.length ((l.take i).flatMap encP) hold (l.length+1-i) tB tB tB tB (by rw[hzb];omega) (by rw[hzb,hik];exact growslice_fits hroom tB)
  rw[hik,←hG] at h
  rw[hkk,hROW]
  exact h
 have hGn:l.length+1≤G:=by rw[hG];exact grownCap_ge w _ _ _
 have hG63:G≤maxLen:=by rw[hG];exact grownCap_le_maxLen w (l.length+1) l.length 44 tO
 have hG64:G≤9223372036854775807:=hG63
 have hrt:((l.take i).flatMap encP).length=i * 2:=by rw[plcs_length,List.length_take];congr 1;omega
 have hRl:ROW.size=G * 2:=by
  rw[hROW,Array.size_append,Array.size_append,List.size_toArray,hrt,size_zeroCells,size_zeroCells]
  have:zeros2.size=2:=rfl
  rw[this]
  omega
 have hRt:ROW.toList.take (i * 2)=(l.take i).flatMap encP:=by
  rw[hROW]
  simp only[Array.toList_append,List.append_assoc]
  rw[List.take_append_of_le_length tm,List.take_of_length_le tm]
 obtain⟨hr1,hr2⟩:=insert_rowsQ l r i tB ROW.toList hRt tn
 obtain⟨W1,hW1⟩:∃ W1,W1=w.drew.alloc (.cells ROW 44):=⟨_,rfl⟩
 have hg0:W1.heap[w.heap.size]? =some (.cells ROW 44 (0,0)):=by rw[hW1];exact heap_alloc_new w.drew _
 have hvat:W1.heap[vb]? =some (.cells (encP r).toArray 44):=by rw[hW1,heap_alloc_old w.drew _ _ hvw];exact hv.at_
 have hgat:W1.heap[g]? =some (.cells cur 44):=by rw[hW1,heap_alloc_old w.drew _ _ hbw];exact hg
 have hcpA:∀ (W:World),W.heap=W1.heap→∀ ty dc,(Builtin.copy_ #[71,71] ty #[.slice (some ⟨w.heap.size,i * 2,none⟩) (l.length+1-i) dc,.slice (some ⟨vb,0,none⟩) 1 vc]).run Tryz.prog W=
  .ok (goInt (1:Nat)) (W.setRow w.heap.size (ROW.toList.take (i * 2)++encP r++ROW.toList.drop (i * 2+(encP r).length)).toArray):=fun W hW ty dc=>by
  have:=run_copy_rowk (P:=Tryz.prog) W 71 71 ty 44 2 w.heap.size (i * 2) (l.length+1-i) dc ⟨vb,0,none⟩ 1 vc 1 ROW 44 (encP r) Tryz.underlying71 info_plc_size th (by rw[hW];exact hg0) rfl
   (fun j v hj=>by
    rw[Addr.add_lit]
    have h2:W.heap[vb]? =some (.cells (encP r).toArray 44):=by rw[hW];exact hvat
    simp only[World.cell?,h2,Nat.zero_add,Option.isSome_none,Bool.false_eq_true,if_false]
    rw[←hj,List.getElem?_toArray]) (by rw[hRl,encP_length];omega) (by intro v hv;exact encP_one [r] v ti)
  exact this
 obtain⟨c1,hc1⟩:∃ c1,ROW.toList.take (i * 2)++encP r++ROW.toList.drop (i * 2+(encP r).length)=c1:=⟨_,rfl⟩
 rw[hc1] at hcpA hr1 hr2
 have hc1l:c1.length=ROW.size:=by
  rw[←hc1,List.length_append,List.length_append,List.length_take,List.length_drop,encP_length,show ROW.toList.length=ROW.size from Array.length_toList,hRl];omega
 have hcpB:∀ (W:World),W.heap=(W1.setRow w.heap.size c1.toArray).heap→∀ ty dc sc,(Builtin.copy_ #[71,71] ty #[.slice (some ⟨w.heap.size,(i+1) * 2,none⟩) (l.length-i) dc,.slice (some ⟨g,i * 2,none⟩) (l.length-i) sc]).run Tryz.prog W=
  .ok (goInt (l.length-i:Nat)) (W.setRow w.heap.size (c1.take ((i+1) * 2)++(l.drop i).flatMap encP++c1.drop ((i+1) * 2+((l.drop i).flatMap encP).length)).toArray):=fun W hW ty dc sc=>by
  have:=run_copy_rowk (P:=Tryz.prog) W 71 71 ty 44 2 w.heap.size ((i+1) * 2) (l.length-i) dc ⟨g,i * 2,none⟩ (l.length-i) sc (l.length-i) c1.toArray 44 ((l.drop i).flatMap encP) Tryz.underlying71 info_plc_size th (by rw[hW];exact setRow_heap _ _ _ _ _ _ hg0) hdl
   (fun j v hj=>by
    rw[Addr.add_lit]
    have h2:W.heap[g]? =some (.cells cur 44):=by rw[hW,setRow_other _ _ _ _ tB];exact hgat
    have h3:=hcell j v hj
    simp only[World.cell?,hg,Option.isSome_none,Bool.false_eq_true,if_false] at h3
    simp only[World.cell?,h2,Option.isSome_none,Bool.false_eq_true,if_false]
    exact h3) (by rw[List.size_toArray,hc1l,hRl,hdl];omega) (encP_one _)
  exact this
 obtain⟨c2,hc2⟩:∃ c2,c1.take ((i+1) * 2)++(l.drop i).flatMap encP++c1.drop ((i+1) * 2+((l.drop i).flatMap encP).length)=c2:=⟨_,rfl⟩
 rw[hc2] at hcpB hr1 hr2
 have hgB:∀ W:World,W.heap=(W1.setRow w.heap.size c1.toArray).heap→W.heap[w.heap.size]? =some (.cells c1.toArray 44 (0,0)):=fun W hW=>by rw[hW];exact setRow_heap _ _ _ _ _ _ hg0
 rw[←hW1] at hrz
 have hxW:Ext X W1:=by rw[hW1];exact hx.drew.alloc _
 have hw1:IntKind.i64.wrap ((i:Int)+1)=(i:Int)+1:=by rw[IntKind.wrap_i64];omega
 have htn:((i:Int)+1).toNat=i+1:=by omega
 have hz2:¬ ((i:Int)=(l.length:Int)):=by omega
 have hf0:(0:Int)≤(i:Int)+1:=by omega
 have hf1:i≤l.length:=by omega
 have hf2:¬ (G=i+1):=by omega
 have hf3:¬ (G=i):=by omega
 have hf4:(i:Int)≤(l.length:Int)+1:=by omega
 have hf5:¬ (l.length=i):=by omega
 have hf6:(i:Int)≤(l.length:Int):=by omega
 clear hkk hik hold hROW hG hRt
 go_enter Tryz.func150,Tryz.ntmps150
 go_wp2_with (first|(at_builtin;refine Lib.wpList_append_run _ rfl _ _ _ _ rfl _ _ rfl rfl _ _ (hrz _) ?_)|(at_builtin;refine wpList_copy_runI _ rfl _ _ 71 71 rfl _ _ rfl rfl (hcpA _ (by first|rfl|(rw[hW1];rfl)) _ _) ?_))
 have hS0:=((hx.alloc (.cells ROW 44)).drew).setRow w.heap.size c1.toArray hXw
 refine wp_region_ord (.f 0 (.f 1 (.f 2 (.f 3 (.f 4 (.f 5 (.f 6 (.f 7 (.a 8 .d))))))))) (Ext (X)) tG tG tW ?_
 refine oS ?_
 refine wpOrd_act rfl rfl (fun K hK=> ?_)
 refine wp_copy_runI _ _ _ 71 71 rfl _ _ rfl rfl (hcpB _ (by rw[hW1];rfl) _ _ _) ?_
 refine hK _ _ ⟨?_,?_⟩
 ·exact(hS0.drew).setRow _ _ hXw
 clear hK K
 try simp only[Act.put,zp]
 refine wpOrd_nil ?_
 go_wp2_with fail
 go_ret
 have hlen:(l.take i++r::l.drop i).length=l.length+1:=by simp;omega
 refine⟨_,_,_,rfl,⟨?_,.inr ⟨w.heap.size,G,_,by rw[hlen],hXw,setRow_heap _ _ _ _ _ _ (hgB _ (by rw[hW1];rfl)),by omega,hG63,?_,?_⟩⟩,(hS0.drew).setRow _ _ hXw,gb_newRow (gb_drew' (gb_newRow (gb_drew' (gb_alloc w _ _)) _ _ (Nat.le_refl _))) _ _ (Nat.le_refl _)⟩
 ·rw[plcs_length]
 ·exact tp
 ·rw[hlen]
  exact hr2
set_option maxRecDepth 100000 in
set_option maxHeartbeats 4000000 in
theorem InsertP_end(X:World)(A:Option Addr)(n c vb vc:Nat)(l:List Plc)(r:Plc)(hn:n=l.length)(hbig:n≤100000)(w:World)(hx:Ext X w)(ho:OwnP X.heap.size w (.slice A n c) l)(hv:LaidP w vb r):
 Calls Tryz.prog 150 #[.slice A n c,.int .i64 n,.slice (some ⟨vb,0,none⟩) 1 vc] w fun e w'=>
  ∃A' n' c',e= .returned (.slice A' n' c')∧OwnP X.heap.size w' (.slice A' n' c') (l++[r])∧Ext X w'∧w.grownBy w' (A.map (·.block)):=by
 subst hn
 obtain⟨i0,hi,hz0,hz1,hz2⟩:=info_parts info_plc
 have hown:w.ownsRow X.heap.size 44 2 (.slice A l.length c) l.length (l.flatMap encP):=ho
 have hXw:X.heap.size≤w.heap.size:=hx.below.size
 have hnews:∀ (j:Nat) (u:Value),(encP r)[j]? =some u→w.cell? ((⟨vb,0,none⟩:Addr).add j)=some u:=fun j u hj=>by
  rw[Addr.add_lit,Nat.zero_add]
  simp only[World.cell?,hv.at_,Option.isSome_none,Bool.false_eq_true,if_false]
  rw[←hj,List.getElem?_toArray]
 go_enter Tryz.func150,Tryz.ntmps150
 go_wp2_with (at_builtin;go_loud (refine wpList_append_own (P:=Tryz.prog) _ rfl _ _ 71 rfl X.heap.size 44 i0 _ 2 16 Tryz.underlying71 hi hz0 hz1 hz2 rfl tN (.slice A l.length c) l.length _ rfl hown ⟨vb,0,none⟩ 1 vc (encP r) rfl rfl hnews (fun u hu=>encP_one [r] u (by simpa using hu)) tO tB hXw (fun v1 w1 hown1 hgb1 _=> ?_));obtain⟨A1,c1,rfl,hc1,hs1⟩:=ownsRow_slice hown1;have Hown1:=hid hown1;have Hgb1:=hid hgb1;clear hown1 hgb1 hs1 hc1)
 all_goals
  go_ret
  have hgb:=Hgb1.out
  have ho1:=Hown1.out
  refine⟨_,_,_,rfl,?_,Ext.of_below (hx.below.grown hgb hXw fun k hk=> ?_),by cases A <;> exact hgb⟩
  ·unfold OwnP
   simpa using ho1
  ·rcases ho.2 with⟨h0,_⟩|⟨g,cap,cur,hvl,hb,_⟩
   ·simp only[Value.slice.injEq] at h0
    rw[h0.1] at hk
    cases hk
   ·cases hvl
    cases hk
    exact hb
theorem InsertP_any(X:World)(A:Option Addr)(n c vb vc i:Nat)(l:List Plc)(r:Plc)(hn:n=l.length)(hbig:l.length≤100000)(hi:i≤l.length)(w:World)(ho:OwnP X.heap.size w (.slice A n c) l)(hx:Ext X w)(hv:LaidP w vb r)(hne:∀ a,A=some a→vb≠a.block):
 Calls Tryz.prog 150 #[.slice A n c,.int .i64 i,.slice (some ⟨vb,0,none⟩) 1 vc] w fun e w'=>
  ∃A' n' c',e= .returned (.slice A' n' c')∧OwnP X.heap.size w' (.slice A' n' c') (l.take i++r::l.drop i)∧Ext X w'∧w.grownBy w' (A.map (·.block)):=by
 by_cases h1:i=n
 ·subst h1
  refine(InsertP_end X A i c vb vc l r hn tB w hx ho hv).mono fun e w' h=> ?_
  rw[show l.take i++r::l.drop i=l++[r] by rw[hn];simp]
  exact h
 ·by_cases h2:n+1≤c
  ·exact InsertP_room X A n c vb vc i l r hn tB tB h2 w hx ho hv hne
  ·exact InsertP_grow X A n c vb vc i l r hn tB tB tB w hx ho hv
end Go.Proofs.YtekjdeibnfaehaaGreat
