/- Texts of a proof. -/
import Derived.Test.YtekjdeibnfaehaaGreatKDai
import Derived.Laws.CopyRow
import Derived.Laws.CopyOwn
import Derived.Laws.NewBlocks
import Derived.Lib.Overlaps
import Derived.Shelf.Spec.SlicesInsert
import Derived.Lib.AppendZerosOnto
set_option linter.unusedSimpArgs false
set_option linter.unusedVariables false
namespace Go.Proofs.YtekjdeibnfaehaaGreat
open Go.RowKit
section
variable{P:Program}
theorem run_copy_rowk(w:World)(dT sT ty elem:TypeId)(k g o dLen dCap:Nat)(a:Addr)(sLen sCap m:Nat)(cur:Array Value)(t:TypeId)(cs:List Value)
 (hu:P.underlying dT=some (.slice elem)) (hs:(P.info? elem).map (·.size)=some k) (hm:Nat.min sLen dLen=m)
 (hg:w.heap[g]? =some (.cells cur t (0,0))) (hn:cs.length=m * k)
 (hsrc:∀ j v,cs[j]? =some v→w.cell? (a.add j)=some v) (hfit:o+cs.length≤cur.size) (h1:∀ v∈cs,v.oneCell'=true):
 (Builtin.copy_ #[dT,sT] ty #[.slice (some ⟨g,o,none⟩) dLen dCap,.slice (some a) sLen sCap]).run P w=
  .ok (goInt m) (w.setRow g (cur.toList.take o++cs++cur.toList.drop (o+cs.length)).toArray):=by
 have hl:=run_loadCells_list (P:=P) w a cs hsrc
 have hst:=run_storeCells_at P g o t cs 0 cur w hg (by simpa using hfit) h1
 cases hq:P.info? elem with
 | none=>simp[hq] at hs
 | some i=>
  have hi:i.size=k:=by simpa [hq] using hs
  rw[hn] at hl hst
  simp[Builtin.copy_,run_underlying hu,Builtin.lenOf,Builtin.firstCells,sizeOf,typeInfo,hq,hi,hm,hl,hst,hn]
end
theorem _root_.Go.Ext.setRow{w W:World}(h:Ext w W)(g:Nat)(cs:Array Value)(hb:w.heap.size≤g):Ext w (W.setRow g cs):=
 Ext.of_below (below_setRow h.below hb cs)
theorem recs_length(l:List Rec):(l.flatMap encRec).length=l.length * 11:=by
 induction l with
 | nil=>rfl
 | cons r l ih=>
  have h:((r::l).flatMap encRec).length=(encRec r).length+(l.flatMap encRec).length:=by rw[List.flatMap_cons,List.length_append]
  have h2:(encRec r).length=11:=rfl
  have h3:(r::l).length=l.length+1:=rfl
  rw[h,ih,h3,h2]
  omega
theorem encRec_length(r:Rec):(encRec r).length=11:=rfl
theorem recs_take:∀ (l:List Rec) (i:Nat),(l.flatMap encRec).take (i * 11)=(l.take i).flatMap encRec
 | [],i=>by simp
 | r::l,0=>by simp
 | r::l,i+1=>by
  rw[List.flatMap_cons,List.take_succ_cons,List.flatMap_cons,List.take_append,encRec_length,List.take_of_length_le (by rw[encRec_length];omega),show(i+1) * 11-11=i * 11 by omega,recs_take l i]
theorem recs_drop:∀ (l:List Rec) (i:Nat),(l.flatMap encRec).drop (i * 11)=(l.drop i).flatMap encRec
 | [],i=>by simp
 | r::l,0=>by simp
 | r::l,i+1=>by
  rw[List.flatMap_cons,List.drop_succ_cons,List.drop_append,encRec_length,List.drop_of_length_le (by rw[encRec_length];omega),show(i+1) * 11-11=i * 11 by omega,recs_drop l i]
  rfl
theorem insert_rows(l:List Rec)(r:Rec)(i:Nat)(hi:i≤l.length)(cur:List Value)(h:cur.take (l.length * 11)=l.flatMap encRec)(hc:(l.length+1) * 11≤cur.length):
 let c1:=cur.take ((i+1) * 11)++(l.drop i).flatMap encRec++cur.drop ((i+1) * 11+((l.drop i).flatMap encRec).length)
 let c2:=c1.take (i * 11)++encRec r++c1.drop (i * 11+(encRec r).length)
 c2.length=cur.length∧c2.take ((l.length+1) * 11)=(l.take i++r::l.drop i).flatMap encRec:=by
 intro c1 c2
 have he:(encRec r).length=11:=rfl
 have hd:((l.drop i).flatMap encRec).length=(l.length-i) * 11:=by rw[recs_length,List.length_drop]
 have h1:c1.take (i * 11)=(l.take i).flatMap encRec:=by
  rw[←recs_take,←h,List.take_take,Nat.min_eq_left tB]
  show(cur.take ((i+1) * 11)++_++_).take (i * 11)=_
  rw[List.append_assoc,List.take_append_of_le_length tg,List.take_take,Nat.min_eq_left tB]
 have h2:c1.drop (i * 11+(encRec r).length)=(l.drop i).flatMap encRec++cur.drop ((l.length+1) * 11):=by
  show(cur.take ((i+1) * 11)++_++_).drop (i * 11+(encRec r).length)=_
  rw[List.append_assoc,List.drop_append,List.length_take,he,show i * 11+11-min ((i+1) * 11) cur.length=0 by omega,List.drop_of_length_le tg,hd]
  rw[show(i+1) * 11+(l.length-i) * 11=(l.length+1) * 11 by omega]
  rfl
 have h3:c2=(l.take i++r::l.drop i).flatMap encRec++cur.drop ((l.length+1) * 11):=by
  show c1.take (i * 11)++encRec r++c1.drop (i * 11+(encRec r).length)=_
  rw[h1,h2,List.flatMap_append,List.flatMap_cons]
  simp only[List.append_assoc]
 have h4:((l.take i++r::l.drop i).flatMap encRec).length=(l.length+1) * 11:=by
  rw[recs_length,List.length_append,List.length_cons,List.length_take,List.length_drop]
  congr 1
  omega
 refine⟨?_,?_⟩
 ·rw[h3,List.length_append,h4,List.length_drop];omega
 ·rw[h3,List.take_append_of_le_length tB,List.take_of_length_le tB]
theorem insert_rows2(l:List Rec)(r:Rec)(i:Nat)(hi:i≤l.length)(row:List Value)(hr:row.take (i * 11)=(l.take i).flatMap encRec)(hc:(l.length+1) * 11≤row.length):
 let c1:=row.take (i * 11)++encRec r++row.drop (i * 11+(encRec r).length)
 let c2:=c1.take ((i+1) * 11)++(l.drop i).flatMap encRec++c1.drop ((i+1) * 11+((l.drop i).flatMap encRec).length)
 c2.length=row.length∧c2.take ((l.length+1) * 11)=(l.take i++r::l.drop i).flatMap encRec:=by
 intro c1 c2
 have he:(encRec r).length=11:=rfl
 have hd:((l.drop i).flatMap encRec).length=(l.length-i) * 11:=by rw[recs_length,List.length_drop]
 have hl1:(row.take (i * 11)++encRec r).length=(i+1) * 11:=by rw[List.length_append,he,List.length_take];omega
 have h1:c1.take ((i+1) * 11)=(l.take i).flatMap encRec++encRec r:=by
  show(row.take (i * 11)++encRec r++_).take ((i+1) * 11)=_
  rw[List.take_append_of_le_length tB,List.take_of_length_le tB,hr]
 have hcl:c1.length=row.length:=by
  show(row.take (i * 11)++encRec r++row.drop _).length=_
  rw[List.length_append,hl1,List.length_drop,he];omega
 have h4:((l.take i++r::l.drop i).flatMap encRec).length=(l.length+1) * 11:=by
  rw[recs_length,List.length_append,List.length_cons,List.length_take,List.length_drop]
  congr 1
  omega
 have h3:c2=(l.take i++r::l.drop i).flatMap encRec++c1.drop ((l.length+1) * 11):=by
  show c1.take ((i+1) * 11)++(l.drop i).flatMap encRec++c1.drop _=_
  rw[h1,hd,List.flatMap_append,List.flatMap_cons,show(i+1) * 11+(l.length-i) * 11=(l.length+1) * 11 by omega]
  simp only[List.append_assoc]
 refine⟨?_,?_⟩
 ·rw[h3,List.length_append,h4,List.length_drop];omega
 ·rw[h3,List.take_append_of_le_length tB,List.take_of_length_le tB]
end Go.Proofs.YtekjdeibnfaehaaGreat
namespace Go.Proofs.YtekjdeibnfaehaaGreat
open Go.RowKit
theorem info_rec_size:(Tryz.prog.info? 46).map (·.size)=some 11:=by
 obtain⟨i0,hi,hz0,hz1,hz2⟩:=info_parts info_rec
 rw[hi];simp[hz1]
theorem sizeOf_rec(w:World):(Go.sizeOf 46).run Tryz.prog w= .ok 11 w:=by
 obtain⟨i0,hi,hz0,hz1,hz2⟩:=info_parts info_rec
 simp[sizeOf,typeInfo,hi,hz1]
structure Laid(w:World)(vb:Nat)(r:Rec):Prop where
 at_:w.heap[vb]? =some (.cells (encRec r).toArray 46)
theorem Laid.sl{w:World}{vb:Nat}{r:Rec}(h:Laid w vb r):Sl 11 w (some ⟨vb,0,none⟩) 1 ([r].flatMap encRec):=by
 refine⟨rfl,fun _=>⟨vb,0,rfl,(Array.getElem?_eq_some_iff.1 h.at_).1,fun j u hu=> ?_⟩⟩
 have hj:([r].flatMap encRec)=encRec r:=by simp
 rw[hj] at hu
 simp only[World.cell?,h.at_,Nat.zero_add,Option.isSome_none,Bool.false_eq_true,if_false]
 rw[←hu,List.getElem?_toArray]
set_option maxRecDepth 100000 in
set_option maxHeartbeats 4000000 in
theorem Insert_end(X:World)(A:Option Addr)(n c vb vc:Nat)(l:List Rec)(r:Rec)(hn:n=l.length)(hbig:n≤100000)(w:World)(hx:Ext X w)(ho:OwnR X.heap.size w (.slice A n c) l)(hv:Laid w vb r):
 Calls Tryz.prog 160 #[.slice A n c,.int .i64 n,.slice (some ⟨vb,0,none⟩) 1 vc] w fun e w'=>
  ∃A' n' c',e= .returned (.slice A' n' c')∧OwnR X.heap.size w' (.slice A' n' c') (l++[r])∧Ext X w':=by
 obtain⟨_,_,hvl,hnc,_⟩:=ho.slice
 have hnc':n≤c:=by cases hvl;omega
 have hvl:=hv.sl
 go_enter Tryz.func160,Tryz.ntmps160
 go_wp2_with (at_builtin;refine wpList_arec rfl X X.heap.size rfl rfl _ _ rfl [r] rfl hx ho rfl rfl hvl tA (fun v1 E1 d1 ho1=> ?_);obtain⟨Av1,mv1,cv1,rfl,hmv1,hcv1,hsv1⟩:=ho1.open;have Ho1:=hid ho1;clear ho1 hcv1 hsv1 hmv1)
 all_goals
  go_ret
  exact⟨_,_,_,rfl,Ho1.out,exI⟩
set_option maxRecDepth 100000 in
set_option maxHeartbeats 4000000 in
theorem Insert_room(X:World)(A:Option Addr)(n c vb vc i:Nat)(l:List Rec)(r:Rec)(hn:n=l.length)(hbig:n≤100000)(hi:i<n)(hroom:n+1≤c)(w:World)(hx:Ext X w)(ho:OwnR X.heap.size w (.slice A n c) l)(hv:Laid w vb r)(hne:∀ a,A=some a→vb≠a.block):
 Calls Tryz.prog 160 #[.slice A n c,.int .i64 i,.slice (some ⟨vb,0,none⟩) 1 vc] w fun e w'=>
  ∃A' n' c',e= .returned (.slice A' n' c')∧OwnR X.heap.size w' (.slice A' n' c') (l.take i++r::l.drop i)∧Ext X w':=by
 rcases ho.2 with⟨_,h0⟩|⟨g,cap,cur,hvl,hb,hg,hnc,hcm,hcs,hcur⟩
 ·omega
 subst hn
 cases hvl
 have hvb:=hne _ rfl
 simp only at hvb
 have hdl:((l.drop i).flatMap encRec).length=(l.length-i) * 11:=by rw[recs_length,List.length_drop]
 have hcl:(l.length+1) * 11≤cur.size:=by rw[hcs];exact Nat.mul_le_mul_right _ hroom
 obtain⟨hr1,hr2⟩:=insert_rows l r i tB cur.toList hcur (by simpa using hcl)
 have hcell:∀ j v,((l.drop i).flatMap encRec)[j]? =some v→w.cell? ⟨g,i * 11+j,none⟩=some v:=fun j v hj=>by
  rw[←recs_drop,←hcur,List.getElem?_drop,List.getElem?_take] at hj
  split at hj
  ·simp only[World.cell?,hg,Option.isSome_none,Bool.false_eq_true,if_false]
   rw[←hj,Array.getElem?_toList]
  ·cases hj
 have hcp1:∀ ty dc sc,(Builtin.copy_ #[32,32] ty #[.slice (some ⟨g,(i+1) * 11,none⟩) (l.length-i) dc,.slice (some ⟨g,i * 11,none⟩) (l.length+1-i) sc]).run Tryz.prog w.drew=
  .ok (goInt (l.length-i:Nat)) (w.drew.setRow g (cur.toList.take ((i+1) * 11)++(l.drop i).flatMap encRec++cur.toList.drop ((i+1) * 11+((l.drop i).flatMap encRec).length)).toArray):=fun ty dc sc=>
  run_copy_rowk w.drew _ _ ty 46 11 g ((i+1) * 11) _ dc ⟨g,i * 11,none⟩ _ sc (l.length-i) cur 46 _ Tryz.underlying32 info_rec_size th hg hdl
   (fun j v hj=>by rw[Addr.add_lit];exact hcell j v hj) (by rw[hdl];omega) (encRec_one _)
 obtain⟨c1,hc1⟩:∃ c1,cur.toList.take ((i+1) * 11)++(l.drop i).flatMap encRec++cur.toList.drop ((i+1) * 11+((l.drop i).flatMap encRec).length)=c1:=⟨_,rfl⟩
 rw[hc1] at hcp1 hr1 hr2
 have hc1l:c1.length=cur.size:=by
  rw[←hc1,List.length_append,List.length_append,List.length_take,List.length_drop,hdl,Array.length_toList];omega
 have hg1:(w.drew.setRow g c1.toArray).heap[g]? =some (.cells c1.toArray 46 (0,0)):=setRow_heap _ _ cur _ _ _ hg
 have hcp2:∀ (W:World),W.heap=(w.drew.setRow g c1.toArray).heap→∀ ty dc,(Builtin.copy_ #[32,32] ty #[.slice (some ⟨g,i * 11,none⟩) (l.length+1-i) dc,.slice (some ⟨vb,0,none⟩) 1 vc]).run Tryz.prog W=
  .ok (goInt (1:Nat)) (W.setRow g (c1.take (i * 11)++encRec r++c1.drop (i * 11+(encRec r).length)).toArray):=fun W hW ty dc=>by
  have:=run_copy_rowk (P:=Tryz.prog) W 32 32 ty 46 11 g (i * 11) (l.length+1-i) dc ⟨vb,0,none⟩ 1 vc 1 c1.toArray 46 (encRec r) Tryz.underlying32 info_rec_size th (by rw[hW];exact hg1) rfl
   (fun j v hj=>by
    rw[Addr.add_lit]
    have h2:W.heap[vb]? =some (.cells (encRec r).toArray 46):=by rw[hW,setRow_other _ _ _ _ hvb];exact hv.at_
    simp only[World.cell?,h2,Nat.zero_add,Option.isSome_none,Bool.false_eq_true,if_false]
    rw[←hj,List.getElem?_toArray]) (by rw[List.size_toArray,hc1l,encRec_length];omega) (by intro v hv;exact encRec_one [r] v ti)
  exact this
 obtain⟨c2,hc2⟩:∃ c2,c1.take (i * 11)++encRec r++c1.drop (i * 11+(encRec r).length)=c2:=⟨_,rfl⟩
 rw[hc2] at hcp2 hr1 hr2
 have hov:∀ lb cb o,(callFunc 178 #[.slice (some ⟨vb,0,none⟩) 1 vc,.slice (some ⟨g,o,none⟩) lb cb]).run Tryz.prog w= .ok (.value (.bool false)) w:=fun lb cb o=>by
  rw[run_callFunc_extern Tryz.func178 tG tG tG (e:=Extern.SlicesOverlaps.overlaps #[32,32] #[4]) tG,
   Lib.run_overlaps_apart w 32 4 46 Tryz.underlying32 11 sizeOf_rec ⟨vb,0,none⟩ ⟨g,o,none⟩ 1 vc lb cb hvb 46 46 11 cur.size (by simp[World.shape?,hv.at_,encRec_length]) (by simp[World.shape?,hg]) tB tj tj]
  rfl
 have hw1:IntKind.i64.wrap ((i:Int)+1)=(i:Int)+1:=by rw[IntKind.wrap_i64];omega
 have htn:((i:Int)+1).toNat=i+1:=by omega
 have hcap:c≤9223372036854775807:=hcm
 have hz2:¬ ((i:Int)=(l.length:Int)):=by omega
 have hf0:(0:Int)≤(i:Int)+1:=by omega
 have hf1:i≤l.length:=by omega
 have hf2:¬ (c=i+1):=by omega
 have hf3:¬ (c=i):=by omega
 have hf4:(i:Int)≤(l.length:Int)+1:=by omega
 go_enter Tryz.func160,Tryz.ntmps160
 go_wp2_with (simp only[hov])
 refine wp_region_ord (.f 0 (.f 1 (.f 2 (.f 3 (.f 4 (.f 5 (.f 6 (.f 7 (.a 8 .d))))))))) (Ext (X)) tG tG tR ?_
 refine oS ?_
 refine wpOrd_act rfl rfl (fun K hK=> ?_)
 refine wp_copy_runI _ _ _ 32 32 rfl _ _ rfl rfl (hcp1 _ _ _) ?_
 refine hK _ _ ⟨?_,?_⟩
 ·exact(hx.drew).setRow _ _ hb
 clear hK K
 try simp only[Act.put,zp]
 refine wpOrd_nil ?_
 go_wp2_with (at_builtin;refine wpList_copy_runI _ rfl _ _ 32 32 rfl _ _ rfl rfl (hcp2 _ rfl _ _) ?_)
 go_ret
 have hlen:(l.take i++r::l.drop i).length=l.length+1:=by simp;omega
 refine⟨_,_,_,rfl,⟨?_,.inr ⟨g,c,_,by rw[hlen],hb,setRow_heap _ _ _ _ _ _ hg1,by omega,hcm,?_,?_⟩⟩,((hx.drew).setRow _ _ hb).setRow _ _ hb⟩
 ·rw[recs_length]
 ·exact tk
 ·rw[hlen]
  exact hr2
set_option maxRecDepth 100000 in
set_option maxHeartbeats 4000000 in
theorem Insert_grow(X:World)(A:Option Addr)(n c vb vc i:Nat)(l:List Rec)(r:Rec)(hn:n=l.length)(hbig:n≤100000)(hi:i<n)(hroom:c<n+1)(w:World)(hx:Ext X w)(ho:OwnR X.heap.size w (.slice A n c) l)(hv:Laid w vb r):
 Calls Tryz.prog 160 #[.slice A n c,.int .i64 i,.slice (some ⟨vb,0,none⟩) 1 vc] w fun e w'=>
  ∃A' n' c',e= .returned (.slice A' n' c')∧OwnR X.heap.size w' (.slice A' n' c') (l.take i++r::l.drop i)∧Ext X w':=by
 rcases ho.2 with⟨_,h0⟩|⟨g,cap,cur,hvl,hb,hg,hnc,hcm,hcs,hcur⟩
 ·omega
 subst hn
 cases hvl
 obtain rfl:c=l.length:=by omega
 obtain⟨i0,hi0,hz0,hzs,hzb⟩:=info_parts info_rec
 have hbw:g<w.heap.size:=(Array.getElem?_eq_some_iff.1 hg).1
 have hvw:vb<w.heap.size:=(Array.getElem?_eq_some_iff.1 hv.at_).1
 have hXw:X.heap.size≤w.heap.size:=hx.below.size
 have hdl:((l.drop i).flatMap encRec).length=(l.length-i) * 11:=by rw[recs_length,List.length_drop]
 have hcell0:∀ j v,(l.flatMap encRec)[j]? =some v→w.cell? ⟨g,j,none⟩=some v:=fun j v hj=>by
  rw[←hcur,List.getElem?_take] at hj
  split at hj
  ·simp only[World.cell?,hg,Option.isSome_none,Bool.false_eq_true,if_false]
   rw[←hj,Array.getElem?_toList]
  ·cases hj
 have hcell:∀ j v,((l.drop i).flatMap encRec)[j]? =some v→w.cell? ⟨g,i * 11+j,none⟩=some v:=fun j v hj=>by
  rw[←recs_drop,List.getElem?_drop] at hj
  exact hcell0 _ _ hj
 have hold:(Builtin.firstCells i0.size i (.slice (some ⟨g,0,none⟩) i l.length)).run Tryz.prog w.drew= .ok ((l.take i).flatMap encRec).toArray w.drew:=by
  rw[hzs]
  refine run_firstCells_some w.drew 11 i ⟨g,0,none⟩ i l.length _ (by rw[recs_length,List.length_take];congr 1;omega) (fun j v hj=> ?_)
  rw[Addr.add_lit,Nat.zero_add]
  rw[←recs_take,List.getElem?_take] at hj
  split at hj
  ·exact hcell0 _ _ hj
  ·cases hj
 have hik:i+(l.length+1-i)=l.length+1:=by omega
 have hkk:(l.length:Int)+1-(i:Int)=((l.length+1-i:Nat):Int):=by omega
 obtain⟨G,hG⟩:∃ G,G=grownCap w (l.length+1) l.length 46:=⟨_,rfl⟩
 obtain⟨ROW,hROW⟩:∃ ROW:Array Value,ROW=((l.take i).flatMap encRec).toArray++Builtin.zeroCells zeros11 (l.length+1-i)++Builtin.zeroCells zeros11 (G-(l.length+1)):=⟨_,rfl⟩
 have hrz:∀ ty,(Builtin.append_ #[32,3] ty #[.slice (some ⟨g,0,none⟩) i l.length,.int .i64 ((l.length:Int)+1-(i:Int))]).run Tryz.prog w=
  .ok (.slice (some ⟨w.heap.size,0,none⟩) (l.length+1) G) (w.drew.alloc (.cells ROW 46)):=fun ty=>by
  have h:=Lib.run_append_grow_zeros w 32 3 ty 46 i0 _ .i64 .i64 Tryz.underlying32 Tryz.underlying3 hi0 hz0 (some ⟨g,0,none⟩) i l.length ((l.take i).flatMap encRec) hold (l.length+1-i) tB tB tB tB (by rw[hzb];omega) (by rw[hzb,hik];exact growslice_fits hroom tB)
  rw[hik,←hG] at h
  rw[hkk,hROW]
  exact h
 have hGn:l.length+1≤G:=by rw[hG];exact grownCap_ge w _ _ _
 have hG63:G≤maxLen:=by rw[hG];exact grownCap_le_maxLen w (l.length+1) l.length 46 tO
 have hG64:G≤9223372036854775807:=hG63
 have hrt:((l.take i).flatMap encRec).length=i * 11:=by rw[recs_length,List.length_take];congr 1;omega
 have hRl:ROW.size=G * 11:=by
  rw[hROW,Array.size_append,Array.size_append,List.size_toArray,hrt,size_zeroCells,size_zeroCells]
  have:zeros11.size=11:=rfl
  rw[this]
  omega
 have hRt:ROW.toList.take (i * 11)=(l.take i).flatMap encRec:=by
  rw[hROW]
  simp only[Array.toList_append,List.append_assoc]
  rw[List.take_append_of_le_length tm,List.take_of_length_le tm]
 obtain⟨hr1,hr2⟩:=insert_rows2 l r i tB ROW.toList hRt tn
 obtain⟨W1,hW1⟩:∃ W1,W1=w.drew.alloc (.cells ROW 46):=⟨_,rfl⟩
 have hg0:W1.heap[w.heap.size]? =some (.cells ROW 46 (0,0)):=by rw[hW1];exact heap_alloc_new w.drew _
 have hvat:W1.heap[vb]? =some (.cells (encRec r).toArray 46):=by rw[hW1,heap_alloc_old w.drew _ hvw];exact hv.at_
 have hgat:W1.heap[g]? =some (.cells cur 46):=by rw[hW1,heap_alloc_old w.drew _ hbw];exact hg
 have hcpA:∀ (W:World),W.heap=W1.heap→∀ ty dc,(Builtin.copy_ #[32,32] ty #[.slice (some ⟨w.heap.size,i * 11,none⟩) (l.length+1-i) dc,.slice (some ⟨vb,0,none⟩) 1 vc]).run Tryz.prog W=
  .ok (goInt (1:Nat)) (W.setRow w.heap.size (ROW.toList.take (i * 11)++encRec r++ROW.toList.drop (i * 11+(encRec r).length)).toArray):=fun W hW ty dc=>by
  have:=run_copy_rowk (P:=Tryz.prog) W 32 32 ty 46 11 w.heap.size (i * 11) (l.length+1-i) dc ⟨vb,0,none⟩ 1 vc 1 ROW 46 (encRec r) Tryz.underlying32 info_rec_size th (by rw[hW];exact hg0) rfl
   (fun j v hj=>by
    rw[Addr.add_lit]
    have h2:W.heap[vb]? =some (.cells (encRec r).toArray 46):=by rw[hW];exact hvat
    simp only[World.cell?,h2,Nat.zero_add,Option.isSome_none,Bool.false_eq_true,if_false]
    rw[←hj,List.getElem?_toArray]) (by rw[hRl,encRec_length];omega) (by intro v hv;exact encRec_one [r] v ti)
  exact this
 obtain⟨c1,hc1⟩:∃ c1,ROW.toList.take (i * 11)++encRec r++ROW.toList.drop (i * 11+(encRec r).length)=c1:=⟨_,rfl⟩
 rw[hc1] at hcpA hr1 hr2
 have hc1l:c1.length=ROW.size:=by
  rw[←hc1,List.length_append,List.length_append,List.length_take,List.length_drop,encRec_length,show ROW.toList.length=ROW.size from Array.length_toList,hRl];omega
 have hcpB:∀ (W:World),W.heap=(W1.setRow w.heap.size c1.toArray).heap→∀ ty dc sc,(Builtin.copy_ #[32,32] ty #[.slice (some ⟨w.heap.size,(i+1) * 11,none⟩) (l.length-i) dc,.slice (some ⟨g,i * 11,none⟩) (l.length-i) sc]).run Tryz.prog W=
  .ok (goInt (l.length-i:Nat)) (W.setRow w.heap.size (c1.take ((i+1) * 11)++(l.drop i).flatMap encRec++c1.drop ((i+1) * 11+((l.drop i).flatMap encRec).length)).toArray):=fun W hW ty dc sc=>by
  have:=run_copy_rowk (P:=Tryz.prog) W 32 32 ty 46 11 w.heap.size ((i+1) * 11) (l.length-i) dc ⟨g,i * 11,none⟩ (l.length-i) sc (l.length-i) c1.toArray 46 ((l.drop i).flatMap encRec) Tryz.underlying32 info_rec_size th (by rw[hW];exact setRow_heap _ _ _ _ _ _ hg0) hdl
   (fun j v hj=>by
    rw[Addr.add_lit]
    have h2:W.heap[g]? =some (.cells cur 46):=by rw[hW,setRow_other _ _ _ _ tB];exact hgat
    have h3:=hcell j v hj
    simp only[World.cell?,hg,Option.isSome_none,Bool.false_eq_true,if_false] at h3
    simp only[World.cell?,h2,Option.isSome_none,Bool.false_eq_true,if_false]
    exact h3) (by rw[List.size_toArray,hc1l,hRl,hdl];omega) (encRec_one _)
  exact this
 obtain⟨c2,hc2⟩:∃ c2,c1.take ((i+1) * 11)++(l.drop i).flatMap encRec++c1.drop ((i+1) * 11+((l.drop i).flatMap encRec).length)=c2:=⟨_,rfl⟩
 rw[hc2] at hcpB hr1 hr2
 have hgB:∀ W:World,W.heap=(W1.setRow w.heap.size c1.toArray).heap→W.heap[w.heap.size]? =some (.cells c1.toArray 46 (0,0)):=fun W hW=>by rw[hW];exact setRow_heap _ _ _ _ _ _ hg0
 rw[←hW1] at hrz
 have hxW:Ext X W1:=by rw[hW1];exact hx.drew.alloc _
 have hw1:IntKind.i64.wrap ((i:Int)+1)=(i:Int)+1:=by rw[IntKind.wrap_i64];omega
 have htn:((i:Int)+1).toNat=i+1:=by omega
 have hz2:¬ ((i:Int)=(l.length:Int)):=by omega
 have hf0:(0:Int)≤(i:Int)+1:=by omega
 have hf1:i≤l.length:=by omega
 have hf2:¬ (G=i+1):=by omega
 have hf3:¬ (G=i):=by omega
 have hf4:(i:Int)≤(l.length:Int)+1:=by omega
 have hf5:¬ (l.length=i):=by omega
 have hf6:(i:Int)≤(l.length:Int):=by omega
 clear hkk hik hold hROW hG hRt
 go_enter Tryz.func160,Tryz.ntmps160
 go_wp2_with (first|(at_builtin;refine Lib.wpList_append_run _ rfl _ _ _ _ rfl _ _ rfl rfl _ _ (hrz _) ?_)|(at_builtin;refine wpList_copy_runI _ rfl _ _ 32 32 rfl _ _ rfl rfl (hcpA _ (by first|rfl|(rw[hW1];rfl)) _ _) ?_))
 have hS0:=((hx.alloc (.cells ROW 46)).drew).setRow w.heap.size c1.toArray hXw
 refine wp_region_ord (.f 0 (.f 1 (.f 2 (.f 3 (.f 4 (.f 5 (.f 6 (.f 7 (.a 8 .d))))))))) (Ext (X)) tG tG tR ?_
 refine oS ?_
 refine wpOrd_act rfl rfl (fun K hK=> ?_)
 refine wp_copy_runI _ _ _ 32 32 rfl _ _ rfl rfl (hcpB _ (by rw[hW1];rfl) _ _ _) ?_
 refine hK _ _ ⟨?_,?_⟩
 ·exact(hS0.drew).setRow _ _ hXw
 clear hK K
 try simp only[Act.put,zp]
 refine wpOrd_nil ?_
 go_wp2_with fail
 go_ret
 have hlen:(l.take i++r::l.drop i).length=l.length+1:=by simp;omega
 refine⟨_,_,_,rfl,⟨?_,.inr ⟨w.heap.size,G,_,by rw[hlen],hXw,setRow_heap _ _ _ _ _ _ (hgB _ (by rw[hW1];rfl)),by omega,hG63,?_,?_⟩⟩,(hS0.drew).setRow _ _ hXw⟩
 ·rw[recs_length]
 ·exact tp
 ·rw[hlen]
  exact hr2
theorem Insert_any(X:World)(A:Option Addr)(n c vb vc i:Nat)(l:List Rec)(r:Rec)(hn:n=l.length)(hbig:l.length≤100000)(hi:i≤l.length)(w:World)(ho:OwnR X.heap.size w (.slice A n c) l)(hx:Ext X w)(hv:Laid w vb r)(hne:∀ a,A=some a→vb≠a.block):
 Calls Tryz.prog 160 #[.slice A n c,.int .i64 i,.slice (some ⟨vb,0,none⟩) 1 vc] w fun e w'=>
  ∃A' n' c',e= .returned (.slice A' n' c')∧Hid (n'=l.length+1)∧OwnR X.heap.size w' (.slice A' n' c') (l.take i++r::l.drop i)∧Ext X w':=by
 have key:∀ {e:Ending} {w':World},(∃A' n' c',e= .returned (.slice A' n' c')∧OwnR X.heap.size w' (.slice A' n' c') (l.take i++r::l.drop i)∧Ext X w')→
  ∃A' n' c',e= .returned (.slice A' n' c')∧Hid (n'=l.length+1)∧OwnR X.heap.size w' (.slice A' n' c') (l.take i++r::l.drop i)∧Ext X w':=by
  rintro e w' ⟨A',n',c',rfl,h1,h2⟩
  obtain⟨_,_,hv,_,_⟩:=h1.slice
  cases hv
  exact⟨_,_,_,rfl,hid tA,h1,h2⟩
 by_cases h1:i=n
 ·subst h1
  refine(Insert_end X A i c vb vc l r hn tB w hx ho hv).mono fun e w' h=> ?_
  refine key ?_
  rw[show l.take i++r::l.drop i=l++[r] by rw[hn];simp]
  exact h
 ·by_cases h2:n+1≤c
  ·exact(Insert_room X A n c vb vc i l r hn tB tB h2 w hx ho hv hne).mono fun e w' h=>key h
  ·exact(Insert_grow X A n c vb vc i l r hn tB tB tB w hx ho hv).mono fun e w' h=>key h
end Go.Proofs.YtekjdeibnfaehaaGreat
set_option linter.unusedSimpArgs false
set_option linter.unusedVariables false
namespace Go.Proofs.YtekjdeibnfaehaaGreat
open Go.RowKit
theorem Laid.ext{w:World}{vb:Nat}{r:Rec}(h:Laid w vb r)(E:Array Obj)(d:Nat):Laid (w.ext E d) vb r:=
 ⟨by rw[heap_ext _ _ _ _ (Array.getElem?_eq_some_iff.1 h.at_).1];exact h.at_⟩
theorem Laid.new(w:World)(g:Nat)(r:Rec)(hg:g=w.heap.size):Laid (w.alloc (.cells (encRec r).toArray 46)) g r:=by
 subst hg
 exact⟨heap_alloc_new w _⟩
theorem OwnR.lies{base n c:Nat}{w:World}{A:Option Addr}{l:List Rec}(h:OwnR base w (.slice A n c) l):∀ a,A=some a→base≤a.block∧a.block<w.heap.size:=by
 intro a ha
 rcases h.2 with⟨hv,_⟩|⟨g,cap,cur,hv,hb,hh,_⟩
 ·cases hv;cases ha
 ·cases hv;cases ha
  exact⟨hb,(Array.getElem?_eq_some_iff.1 hh).1⟩
theorem putE_hit{l:List Rec}{r x:Rec}(h:findR l r.ao r.sq=some x):putE l r=if recEqB x r=true then 0 else 72:=by simp[putE,h]
theorem putL_hit{l:List Rec}{r x:Rec}(h:findR l r.ao r.sq=some x):putL l r=if recEqB x r=true then l else[]:=by simp[putL,h]
theorem putE_new{l:List Rec}{r:Rec}(h:findR l r.ao r.sq=none):putE l r=if l.length=80 then 2 else 0:=by simp[putE,h]
theorem putL_new{l:List Rec}{r:Rec}(h:findR l r.ao r.sq=none):putL l r=if l.length=80 then[] else insR l r:=by simp[putL,h]
set_option maxRecDepth 100000 in
set_option maxHeartbeats 8000000 in
theorem put_any(A:Option Addr)(c n:Nat)(l:List Rec)(r:Rec)(hn:l.length=n)(hbig:n≤100000)(hs:Sorted l)(w:World)(hr:Recs w A l):
 Calls Tryz.prog 130 #[regV A n c,recV r] w fun e w'=> ∃A' n' c',e= .returned (.tuple #[regV A' n' c',.int .i64 (putE l r)])∧Hid (n'=(putL l r).length)∧OwnR w.heap.size w' (.slice A' n' c') (putL l r)∧Ext w w':=by
 have hps:=hasR_pos hs r.ao r.sq
 cases hh:hasR l r.ao r.sq with
 | true=>
  obtain⟨hp,ha⟩:=hps.1 hh
  have hf:=findR_some hs hp ha
  have hE:=putE_hit hf
  have hL:=putL_hit hf
  obtain⟨g,of,rfl,hg⟩:=hr.addr tB
  have hrow:=hr.row hp
  obtain⟨q,hq⟩:∃ q,l[posR l r.ao r.sq]=q:=⟨_,rfl⟩
  obtain⟨k,hk⟩:∃ k,posR l r.ao r.sq=k:=⟨_,rfl⟩
  rw[hq] at hrow hE hL
  rw[hk] at hrow hp
  obtain⟨h0,h1,h2,h3,h4,h5,h6,h7,h8,h9,h10⟩:=hrow
  have hkn:k<n:=by omega
  clear hq ha hf hps
  cases heq:recEqB q r with
  | true=>
   have HE:Hid (putE l r=0):=hid (by rw[hE,heq];rfl)
   have HL:Hid (putL l r=l):=hid (by rw[hL,heq];rfl)
   clear hE hL
   go_enter Tryz.func130,Tryz.ntmps130
   go_wp2_with (go_at_call 82;refine(find_any _ _ _ _ _ _ tZ tB tF _ (recI ‹_›)).mono ?_;rintro e w1 ⟨rfl,E1,d1,rfl⟩)
   refine wp_region_ord_same (.f 0 (.f 1 (.f 2 (.f 3 (.f 4 (.f 5 (.f 6 (.f 7 (.f 8 (.f 9 (.f 10 .d))))))))))) tG tG ?_
   refine oR ?_
   refine ord_bool (j:=1) rfl (fun hb1=> ?_) (fun hb1=> ?_)
   rotate_left
   focus
    try(exfalso;first|(simp at hb1;done)|(simp at hb1;omega))
    all_goals
     (try simp only[hb1])
     refine oR ?_
     refine wpOrd_nil ?_
   rotate_right
   focus
    try(exfalso;first|(simp at hb1;done)|(simp at hb1;omega))
    all_goals
     (try simp only[hb1])
     refine oR ?_
     refine wpOrd_nil ?_
   go_wp2_with (go_at_call 79;refine(copied_any _ _ _ _ tZ tB _ (recI ‹_›)).mono ?_;rintro e w1 ⟨Ac1,nc1,cc1,rfl,hnc1,hvc1,E1,d1,rfl⟩)
   refine bodyPost_ret (v:=.tuple #[regV Ac1 nc1 cc1,.int .i64 0]) tq rfl ?_
   exact⟨_,_,_,by rw[HE.out],hid (by rw[HL.out];exact hnc1.out),by rw[HL.out];((try simp only[alloc_ext,ext_ext,size_ext,World.size_alloc,Array.size_push,Array.size_append] at *);refine OwnR.moved tF ?_ ?_ ?_;(focus(simp only[World.size_alloc,size_ext]));(focus(simp only[World.size_alloc,size_ext];try omega));(focus omega)),exI⟩
  | false=>
   have HE:Hid (putE l r=72):=hid (by rw[hE,heq];rfl)
   have HL:Hid (putL l r=[]):=hid (by rw[hL,heq];rfl)
   clear hE hL
   go_enter Tryz.func130,Tryz.ntmps130
   go_wp2_with (go_at_call 82;refine(find_any _ _ _ _ _ _ tZ tB tF _ (recI ‹_›)).mono ?_;rintro e w1 ⟨rfl,E1,d1,rfl⟩)
   refine wp_region_ord_same (.f 0 (.f 1 (.f 2 (.f 3 (.f 4 (.f 5 (.f 6 (.f 7 (.f 8 (.f 9 (.f 10 .d))))))))))) tG tG ?_
   refine oR ?_
   refine ord_bool (j:=1) rfl (fun hb1=> ?_) (fun hb1=> ?_)
   rotate_left
   focus
    try(exfalso;first|(simp at hb1;done)|(simp at hb1;omega))
    all_goals
     (try simp only[hb1])
     refine oR ?_
     refine wpOrd_nil ?_
   rotate_right
   focus
    try(exfalso;first|(simp at hb1;done)|(simp at hb1;omega))
    all_goals
     (try simp only[hb1])
     refine oR ?_
     refine wpOrd_nil ?_
   go_wp2_with fail
   refine bodyPost_ret (v:=.tuple #[regV none 0 0,.int .i64 72]) tq rfl ?_
   exact⟨_,_,_,by rw[HE.out],hid tr,by rw[HL.out];exact OwnR.none _ _,exI⟩
 | false=>
  have hf:=findR_none hh
  have hE:=putE_new hf
  have hL:=putL_new hf
  obtain⟨k,hk⟩:∃ k,posR l r.ao r.sq=k:=⟨_,rfl⟩
  have hkn:k≤n:=by rw[←hk,←hn];exact posR_le _ _ _
  have hI:insR l r=l.take k++r::l.drop k:=by rw[insR,hk]
  clear hf hps
  by_cases h80:n=80
  ·have HE:Hid (putE l r=2):=hid (by rw[hE,hn,if_pos h80])
   have HL:Hid (putL l r=[]):=hid (by rw[hL,hn,if_pos h80])
   clear hE hL hI
   subst h80
   go_enter Tryz.func130,Tryz.ntmps130
   go_wp2_with (go_at_call 82;refine(find_any _ _ _ _ _ _ tZ tB tF _ (recI ‹_›)).mono ?_;rintro e w1 ⟨rfl,E1,d1,rfl⟩)
   refine wp_region_ord_same (.f 0 (.f 1 (.f 2 (.f 3 (.f 4 (.f 5 (.f 6 (.f 7 (.f 8 (.f 9 (.f 10 .d))))))))))) tG tG ?_
   refine oR ?_
   refine ord_bool (j:=1) rfl (fun hb1=> ?_) (fun hb1=> ?_)
   rotate_left
   focus
    try(exfalso;first|(simp at hb1;done)|(simp at hb1;omega))
    all_goals
     (try simp only[hb1])
     refine oR ?_
     refine wpOrd_nil ?_
   rotate_right
   focus
    try(exfalso;first|(simp at hb1;done)|(simp at hb1;omega))
    all_goals
     (try simp only[hb1])
     refine oR ?_
     refine wpOrd_nil ?_
   go_wp2_with fail
   refine bodyPost_ret (v:=.tuple #[regV none 0 0,.int .i64 2]) tq rfl ?_
   exact⟨_,_,_,by rw[HE.out],hid tr,by rw[HL.out];exact OwnR.none _ _,exI⟩
  ·have HE:Hid (putE l r=0):=hid (by rw[hE,hn,if_neg h80])
   have HL:Hid (putL l r=l.take k++r::l.drop k):=hid (by rw[hL,hn,if_neg h80,hI])
   clear hE hL hI
   go_enter Tryz.func130,Tryz.ntmps130
   go_wp2_with (go_at_call 82;refine(find_any _ _ _ _ _ _ tZ tB tF _ (recI ‹_›)).mono ?_;rintro e w1 ⟨rfl,E1,d1,rfl⟩)
   refine wp_region_ord_same (.f 0 (.f 1 (.f 2 (.f 3 (.f 4 (.f 5 (.f 6 (.f 7 (.f 8 (.f 9 (.f 10 .d))))))))))) tG tG ?_
   refine oR ?_
   refine ord_bool (j:=1) rfl (fun hb1=> ?_) (fun hb1=> ?_)
   rotate_left
   focus
    try(exfalso;first|(simp at hb1;done)|(simp at hb1;omega))
    all_goals
     (try simp only[hb1])
     refine oR ?_
     refine wpOrd_nil ?_
   rotate_right
   focus
    try(exfalso;first|(simp at hb1;done)|(simp at hb1;omega))
    all_goals
     (try simp only[hb1])
     refine oR ?_
     refine wpOrd_nil ?_
   go_wp2_with fail
   refine wp_region_ord (.f 0 (.f 1 (.f 3 (.f 4 (.k 2 (.a 5 (.a 6 (.f 7 (.a 8 (.f 9 .d))))) 5 (.a 2 (.a 6 (.f 7 (.a 8 (.f 9 .d)))))))))) (Ext (((w.alloc (.cells #[.slice A n c] 34)).alloc (.cells #[.int .i64 r.ao,.int .i64 r.sq,.int .i64 r.kind,.int .i64 r.ship,.int .i64 r.day,.int .i64 r.known,.int .i64 r.wo,.int .i64 r.ws,.int .i64 r.to,.int .i64 r.til,.string r.text] 46)))) tG tG exI ?_
   refine oS ?_
   refine wpOrd_fork ?_ ?_
   focus
    refine wpOrd_call rfl rfl rfl Tryz.call90 (fun R hR=> ?_)
    go_simp
    refine(Clone_own _ _ _ _ tZ tB _ (recI ‹_›)).mono ?_
    rintro e w1 ⟨Ac201,nc201,cc201,rfl,hnc201,hvc201,E201,d201,rfl⟩
    refine hR _ _ ⟨_,rfl,?_,?_⟩
    ·exact exI
    clear hR R
    simp only[Act.put,zp]
    refine oC ?_
    refine wpOrd_call rfl rfl rfl Tryz.call160 (fun R hR=> ?_)
    go_simp
    refine(Insert_any _ _ _ _ _ _ k l r (Hid.out tF) tB tB _ (by exact OwnR.of_ext tF exI) tc tt (by intro a ha;obtain⟨q1,q2⟩:=OwnR.lies (l:=l) tF a ha;simp only[size_ext,World.size_alloc] at q1 q2;omega)).mono ?_
    rintro e w1 ⟨Ai,ni,ci,rfl,hni,hvi,Ei,di,rfl⟩
    refine hR _ _ ⟨_,rfl,?_,?_⟩
    ·exact exI
    clear hR R
    try simp only[Act.put,zp]
    refine oS ?_
    refine oC ?_
    refine oS ?_
    refine wpOrd_nil ?_
   rotate_right
   focus
    refine oC ?_
    refine wpOrd_call rfl rfl rfl Tryz.call90 (fun R hR=> ?_)
    go_simp
    refine(Clone_own _ _ _ _ tZ tB _ (recI ‹_›)).mono ?_
    rintro e w1 ⟨Ac203,nc203,cc203,rfl,hnc203,hvc203,E203,d203,rfl⟩
    refine hR _ _ ⟨_,rfl,?_,?_⟩
    ·exact exI
    clear hR R
    simp only[Act.put,zp]
    refine wpOrd_call rfl rfl rfl Tryz.call160 (fun R hR=> ?_)
    go_simp
    refine(Insert_any _ _ _ _ _ _ k l r (Hid.out tF) tB tB _ (by exact OwnR.of_ext tF exI) tc tt (by intro a ha;obtain⟨q1,q2⟩:=OwnR.lies (l:=l) tF a ha;simp only[size_ext,World.size_alloc] at q1 q2;omega)).mono ?_
    rintro e w1 ⟨Ai,ni,ci,rfl,hni,hvi,Ei,di,rfl⟩
    refine hR _ _ ⟨_,rfl,?_,?_⟩
    ·exact exI
    clear hR R
    try simp only[Act.put,zp]
    refine oS ?_
    refine oC ?_
    refine oS ?_
    refine wpOrd_nil ?_
   all_goals
    go_wp2_with fail
   all_goals
    skip
    refine bodyPost_ret (v:=.tuple #[regV Ai ni ci,.int .i64 0]) tq rfl ?_
    refine⟨_,_,_,by rw[HE.out],hid (by rw[HL.out];have:=hni.out;simp;omega),?_,exI⟩
    rw[HL.out]
    ((try simp only[alloc_ext,ext_ext,size_ext,World.size_alloc,Array.size_push,Array.size_append] at *);refine OwnR.moved tF ?_ ?_ ?_;(focus(simp only[World.size_alloc,size_ext]));(focus(simp only[World.size_alloc,size_ext];try omega));(focus omega))
end Go.Proofs.YtekjdeibnfaehaaGreat
set_option linter.unusedSimpArgs false
set_option linter.unusedVariables false
namespace Go.Proofs.YtekjdeibnfaehaaGreat
open Go.RowKit
@[go_sem] theorem lt_add_6(a b c d e f g h:Nat)(hh:a<b):a<b+c+d+e+f+g+h:=by omega
@[go_sem] theorem lt_add_7(a b c d e f g h i:Nat)(hh:a<b):a<b+c+d+e+f+g+h+i:=by omega
@[go_sem] theorem lt_add_8(a b c d e f g h i j:Nat)(hh:a<b):a<b+c+d+e+f+g+h+i+j:=by omega
@[go_sem] theorem lt_add_9(a b c d e f g h i j k:Nat)(hh:a<b):a<b+c+d+e+f+g+h+i+j+k:=by omega
theorem addE_bad{l:List Rec}{r:Rec}(h:checkB l=false):addE l r=71:=by simp[addE,h]
theorem addL_bad{l:List Rec}{r:Rec}(h:checkB l=false):addL l r=[]:=by simp[addL,h]
theorem addE_rec{l:List Rec}{r:Rec}(h:checkB l=true)(h2:recOk r=false):addE l r=70:=by simp[addE,h,h2]
theorem addL_rec{l:List Rec}{r:Rec}(h:checkB l=true)(h2:recOk r=false):addL l r=[]:=by simp[addL,h,h2]
theorem addE_ok{l:List Rec}{r:Rec}(h:checkB l=true)(h2:recOk r=true):addE l r=putE l r:=by simp[addE,h,h2]
theorem addL_ok{l:List Rec}{r:Rec}(h:checkB l=true)(h2:recOk r=true):addL l r=putL l r:=by simp[addL,h,h2]
theorem errReg_ok{l:List Rec}(h:checkB l=true):errReg l=0:=by simp[errReg,h]
theorem errReg_bad{l:List Rec}(h:checkB l=false):errReg l=71:=by simp[errReg,h]
theorem errRec_ok{r:Rec}(h:recOk r=true):errRec r=0:=by simp[errRec,h]
theorem errRec_bad{r:Rec}(h:recOk r=false):errRec r=70:=by simp[errRec,h]
set_option maxRecDepth 100000 in
set_option maxHeartbeats 4000000 in
theorem rAdd_any(A:Option Addr)(c n:Nat)(l:List Rec)(r:Rec)(hn:l.length=n)(hbig:n≤9223372036854775807)(ht:TxtBig l)(hrt:r.text.size≤9223372036854775807)(w:World)(hr:Recs w A l):
 Calls Tryz.prog 76 #[regV A n c,recV r] w fun e w'=> ∃A' n' c',e= .returned (.tuple #[regV A' n' c',.int .i64 (addE l r)])∧Hid (n'=(addL l r).length)∧OwnR w.heap.size w' (.slice A' n' c') (addL l r)∧Ext w w':=by
 cases hc:checkB l with
 | false=>
  have he:=errReg_bad hc
  have HE:=hid (addE_bad (r:=r) hc)
  have HL:=hid (addL_bad (r:=r) hc)
  clear hc
  go_enter Tryz.func76,Tryz.ntmps76
  go_wp2_with (go_at_call 84;refine(rCheck_any _ _ _ _ tZ tB tF _ (recI ‹_›)).mono ?_;rintro e w1 ⟨rfl,E1,d1,rfl⟩)
  refine bodyPost_ret (v:=.tuple #[regV none 0 0,.int .i64 71]) tu rfl ?_
  exact⟨_,_,_,by rw[HE.out],hid tr,by rw[HL.out];exact OwnR.none _ _,exI⟩
 | true=>
  have he:=errReg_ok hc
  obtain⟨h80,_,hs⟩:=checkB_iff.1 hc
  cases hk:recOk r with
  | false=>
   have he2:=errRec_bad hk
   have HE:=hid (addE_rec hc hk)
   have HL:=hid (addL_rec hc hk)
   clear hc
   go_enter Tryz.func76,Tryz.ntmps76
   go_wp2_with (first|(go_at_call 84;refine(rCheck_any _ _ _ _ tZ tB tF _ (recI ‹_›)).mono ?_;rintro e w1 ⟨rfl,E1,d1,rfl⟩)|(go_at_call 109;refine(rCheckRecord_any _ _ tF).mono ?_;rintro e w1 ⟨rfl,E,d,rfl⟩))
   refine bodyPost_ret (v:=.tuple #[regV none 0 0,.int .i64 70]) tu rfl ?_
   exact⟨_,_,_,by rw[HE.out],hid tr,by rw[HL.out];exact OwnR.none _ _,exI⟩
  | true=>
   have he2:=errRec_ok hk
   have hE0:=addE_ok hc hk
   have hL0:=addL_ok hc hk
   clear hc
   cases hh:hasR l r.ao r.sq with
   | true=>
    obtain⟨hp,ha⟩:=(hasR_pos hs r.ao r.sq).1 hh
    have hf:=findR_some hs hp ha
    have hE:=hE0.trans (putE_hit hf)
    have hL:=hL0.trans (putL_hit hf)
    have hfi:=findI_pos hs _ _ hh
    obtain⟨g,of,rfl,hg⟩:=hr.addr tB
    have hrow:=hr.row hp
    obtain⟨q,hq⟩:∃ q,l[posR l r.ao r.sq]=q:=⟨_,rfl⟩
    obtain⟨k,hk⟩:∃ k,posR l r.ao r.sq=k:=⟨_,rfl⟩
    rw[hq] at hrow hE hL
    rw[hk] at hrow hp hfi
    obtain⟨h0,h1,h2,h3,h4,h5,h6,h7,h8,h9,h10⟩:=hrow
    have hkn:k<n:=by omega
    clear hq ha hf hE0 hL0
    cases heq:recEqB q r with
    | true=>
     have HE:Hid (addE l r=0):=hid (by rw[hE,heq];rfl)
     have HL:Hid (addL l r=l):=hid (by rw[hL,heq];rfl)
     clear hE hL
     go_enter Tryz.func76,Tryz.ntmps76
     go_wp2_with (first|(go_at_call 84;refine(rCheck_any _ _ _ _ tZ tB tF _ (recI ‹_›)).mono ?_;rintro e w1 ⟨rfl,E1,d1,rfl⟩)|(go_at_call 109;refine(rCheckRecord_any _ _ tF).mono ?_;rintro e w1 ⟨rfl,E,d,rfl⟩)|(go_at_call 85;refine(rfind_any _ _ _ _ _ _ tZ tB _ (recI ‹_›)).mono ?_;rintro e w1 ⟨rfl,E1,d1,rfl⟩))
     refine wp_region_ord_same (.f 0 (.f 1 (.f 2 (.f 3 (.f 4 (.f 5 (.f 6 (.f 7 (.f 8 (.f 9 (.f 10 .d))))))))))) tG tG ?_
     refine oR ?_
     refine ord_bool (j:=2) rfl (fun hb2=> ?_) (fun hb2=> ?_)
     rotate_left
     focus
      try(exfalso;first|(simp at hb2;done)|(simp at hb2;omega))
      all_goals
       (try simp only[hb2])
       refine oR ?_
       refine wpOrd_nil ?_
     rotate_right
     focus
      try(exfalso;first|(simp at hb2;done)|(simp at hb2;omega))
      all_goals
       (try simp only[hb2])
       refine oR ?_
       refine wpOrd_nil ?_
     go_wp2_with (go_at_call 131;refine(rcopied_any _ _ _ _ tZ tB _ (recI ‹_›)).mono ?_;rintro e w1 ⟨Ac1,nc1,cc1,rfl,hnc1,hvc1,E1,d1,rfl⟩)
     refine bodyPost_ret (v:=.tuple #[regV Ac1 nc1 cc1,.int .i64 0]) tu rfl ?_
     refine⟨_,_,_,by rw[HE.out],hid (by rw[HL.out];exact hnc1.out),?_,exI⟩
     rw[HL.out]
     ((try simp only[alloc_ext,ext_ext,size_ext,World.size_alloc,Array.size_push,Array.size_append] at *);refine OwnR.moved tF ?_ ?_ ?_;(focus(simp only[World.size_alloc,size_ext]));(focus(simp only[World.size_alloc,size_ext];try omega));(focus omega))
    | false=>
     have HE:Hid (addE l r=72):=hid (by rw[hE,heq];rfl)
     have HL:Hid (addL l r=[]):=hid (by rw[hL,heq];rfl)
     clear hE hL
     go_enter Tryz.func76,Tryz.ntmps76
     go_wp2_with (first|(go_at_call 84;refine(rCheck_any _ _ _ _ tZ tB tF _ (recI ‹_›)).mono ?_;rintro e w1 ⟨rfl,E1,d1,rfl⟩)|(go_at_call 109;refine(rCheckRecord_any _ _ tF).mono ?_;rintro e w1 ⟨rfl,E,d,rfl⟩)|(go_at_call 85;refine(rfind_any _ _ _ _ _ _ tZ tB _ (recI ‹_›)).mono ?_;rintro e w1 ⟨rfl,E1,d1,rfl⟩))
     refine wp_region_ord_same (.f 0 (.f 1 (.f 2 (.f 3 (.f 4 (.f 5 (.f 6 (.f 7 (.f 8 (.f 9 (.f 10 .d))))))))))) tG tG ?_
     refine oR ?_
     refine ord_bool (j:=2) rfl (fun hb2=> ?_) (fun hb2=> ?_)
     rotate_left
     focus
      try(exfalso;first|(simp at hb2;done)|(simp at hb2;omega))
      all_goals
       (try simp only[hb2])
       refine oR ?_
       refine wpOrd_nil ?_
     rotate_right
     focus
      try(exfalso;first|(simp at hb2;done)|(simp at hb2;omega))
      all_goals
       (try simp only[hb2])
       refine oR ?_
       refine wpOrd_nil ?_
     go_wp2_with fail
     refine bodyPost_ret (v:=.tuple #[regV none 0 0,.int .i64 72]) tu rfl ?_
     exact⟨_,_,_,by rw[HE.out],hid tr,by rw[HL.out];exact OwnR.none _ _,exI⟩
   | false=>
    have hf:=findR_none hh
    have hE:=hE0.trans (putE_new hf)
    have hL:=hL0.trans (putL_new hf)
    have hfi:findI l r.ao r.sq= -1:=by simp[findI,hh]
    have hI:=insG_eq hs hh
    clear hf hE0 hL0
    by_cases h80':n=80
    ·have HE:Hid (addE l r=2):=hid (by rw[hE,hn,if_pos h80'])
     have HL:Hid (addL l r=[]):=hid (by rw[hL,hn,if_pos h80'])
     clear hE hL hI
     subst h80'
     go_enter Tryz.func76,Tryz.ntmps76
     go_wp2_with (first|(go_at_call 84;refine(rCheck_any _ _ _ _ tZ tB tF _ (recI ‹_›)).mono ?_;rintro e w1 ⟨rfl,E1,d1,rfl⟩)|(go_at_call 109;refine(rCheckRecord_any _ _ tF).mono ?_;rintro e w1 ⟨rfl,E,d,rfl⟩)|(go_at_call 85;refine(rfind_any _ _ _ _ _ _ tZ tB _ (recI ‹_›)).mono ?_;rintro e w1 ⟨rfl,E1,d1,rfl⟩))
     refine wp_region_ord_same (.f 0 (.f 1 (.f 2 (.f 3 (.f 4 (.f 5 (.f 6 (.f 7 (.f 8 (.f 9 (.f 10 .d))))))))))) tG tG ?_
     refine oR ?_
     refine ord_bool (j:=2) rfl (fun hb2=> ?_) (fun hb2=> ?_)
     rotate_left
     focus
      try(exfalso;first|(simp at hb2;done)|(simp at hb2;omega))
      all_goals
       (try simp only[hb2])
       refine oR ?_
       refine wpOrd_nil ?_
     rotate_right
     focus
      try(exfalso;first|(simp at hb2;done)|(simp at hb2;omega))
      all_goals
       (try simp only[hb2])
       refine oR ?_
       refine wpOrd_nil ?_
     go_wp2_with fail
     refine bodyPost_ret (v:=.tuple #[regV none 0 0,.int .i64 2]) tu rfl ?_
     exact⟨_,_,_,by rw[HE.out],hid tr,by rw[HL.out];exact OwnR.none _ _,exI⟩
    ·have HE:Hid (addE l r=0):=hid (by rw[hE,hn,if_neg h80'])
     have HL:Hid (addL l r=insG l r):=hid (by rw[hL,hn,if_neg h80',hI])
     clear hE hL hI
     go_enter Tryz.func76,Tryz.ntmps76
     go_wp2_with (first|(go_at_call 84;refine(rCheck_any _ _ _ _ tZ tB tF _ (recI ‹_›)).mono ?_;rintro e w1 ⟨rfl,E1,d1,rfl⟩)|(go_at_call 109;refine(rCheckRecord_any _ _ tF).mono ?_;rintro e w1 ⟨rfl,E,d,rfl⟩)|(go_at_call 85;refine(rfind_any _ _ _ _ _ _ tZ tB _ (recI ‹_›)).mono ?_;rintro e w1 ⟨rfl,E1,d1,rfl⟩))
     refine wp_region_ord_same (.f 0 (.f 1 (.f 2 (.f 3 (.f 4 (.f 5 (.f 6 (.f 7 (.f 8 (.f 9 (.f 10 .d))))))))))) tG tG ?_
     refine oR ?_
     refine ord_bool (j:=2) rfl (fun hb2=> ?_) (fun hb2=> ?_)
     rotate_left
     focus
      try(exfalso;first|(simp at hb2;done)|(simp at hb2;omega))
      all_goals
       (try simp only[hb2])
       refine oR ?_
       refine wpOrd_nil ?_
     rotate_right
     focus
      try(exfalso;first|(simp at hb2;done)|(simp at hb2;omega))
      all_goals
       (try simp only[hb2])
       refine oR ?_
       refine wpOrd_nil ?_
     go_wp2_with (go_at_call 127;refine(rinsert_own _ _ _ _ _ tZ tB _ (recI ‹_›)).mono ?_;rintro e w1 ⟨Ai1,ni1,ci1,rfl,hni1,hvi1,E1,d1,rfl⟩)
     refine bodyPost_ret (v:=.tuple #[regV Ai1 ni1 ci1,.int .i64 0]) tu rfl ?_
     refine⟨_,_,_,by rw[HE.out],hid (by rw[HL.out];exact hni1.out),?_,exI⟩
     rw[HL.out]
     ((try simp only[alloc_ext,ext_ext,size_ext,World.size_alloc,Array.size_push,Array.size_append] at *);refine OwnR.moved tF ?_ ?_ ?_;(focus(simp only[World.size_alloc,size_ext]));(focus(simp only[World.size_alloc,size_ext];try omega));(focus omega))
end Go.Proofs.YtekjdeibnfaehaaGreat
