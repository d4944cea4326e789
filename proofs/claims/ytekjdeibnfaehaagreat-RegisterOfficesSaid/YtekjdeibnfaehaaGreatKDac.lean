/- Texts of a proof. -/
import Derived.Test.YtekjdeibnfaehaaGreatKDaa
import Derived.Maps.AppendAt
import Derived.Laws.MakeOwn
import Derived.Laws.IdiomStrings
import Derived.Test.YtekjdeibnfaehaaGreatKDab
import Derived.Lib.AppendZeros
import Derived.Laws.BitsLemmas
set_option linter.unusedSimpArgs false
set_option linter.unusedVariables false
namespace Go.Proofs.YtekjdeibnfaehaaGreat
open Go.RowKit
theorem Ext.cellOf{w w':World}(h:Ext w w'){b o:Nat}(hb:b<w.heap.size):w'.cell? ⟨b,o,none⟩=w.cell? ⟨b,o,none⟩:=by
 obtain⟨E,d,rfl⟩:=h
 go_simp
theorem keepI{w w':World}[h:Nonempty (Ext w w')]:∀ b o,b<w.heap.size→w'.cell? ⟨b,o,none⟩=w.cell? ⟨b,o,none⟩:=fun _ _ hb=>Ext.cellOf (h.elim id) hb
section
variable{w W W1:World}{e:TypeId}{size n:Nat}{v:Value}{xs:List Value}
theorem own_base{base:Nat}(h:W.ownsRow base e size v n xs):∀ k,v.ownBlock=some k→base≤k:=by
 intro k hk
 rcases h.2 with⟨rfl,_⟩|⟨g,cap,cur,rfl,hb,_⟩
 ·simp[Value.ownBlock] at hk
 ·simp[Value.ownBlock] at hk;omega
theorem Ext.of_own(hx:Ext w W)(hown:W.ownsRow w.heap.size e size v n xs)(hg:W.grownBy W1 v.ownBlock):Ext w W1:=by
 refine Ext.of_below (hx.below.grown hg ?_ (own_base hown))
 exact hx.below.size
theorem ownsRow_slice{base:Nat}(h:W.ownsRow base e size v n xs):∃ A c,v= .slice A n c∧n≤c∧Sl size W A n xs:=by
 rcases h.2 with⟨rfl,rfl⟩|⟨g,cap,cur,rfl,hb,hh,hn,_,hs,hcur⟩
 ·exact⟨none,0,rfl,Nat.le_refl _,h.1,fun h=>absurd h tB⟩
 ·refine⟨_,cap,rfl,hn,h.1,fun _=>⟨g,0,rfl,(Array.getElem?_eq_some_iff.1 hh).1,fun j u hu=> ?_⟩⟩
  have hj:j<n * size:=by
   have:=(List.getElem?_eq_some_iff.1 hu).1
   rw[h.1] at this
   exact this
  rw[←hcur,List.getElem?_take_of_lt hj] at hu
  simp only[World.cell?,hh,Nat.zero_add,Option.isSome_none,Bool.false_eq_true,if_false]
  rw[←hu,Array.getElem?_toList]
theorem ownsRow_ext{base:Nat}(h:W.ownsRow base e size v n xs)(E:Array Obj)(d:Nat):(W.ext E d).ownsRow base e size v n xs:=by
 refine⟨h.1,?_⟩
 rcases h.2 with h0|⟨g,cap,cur,hv,hb,hh,hr⟩
 ·exact .inl h0
 ·exact .inr ⟨g,cap,cur,hv,hb,by rw[heap_ext _ _ _ _ (Array.getElem?_eq_some_iff.1 hh).1];exact hh,hr⟩
theorem ownsRow_alloc{base:Nat}(h:W.ownsRow base e size v n xs)(o:Obj):(W.alloc o).ownsRow base e size v n xs:=by
 refine⟨h.1,?_⟩
 rcases h.2 with h0|⟨g,cap,cur,hv,hb,hh,hr⟩
 ·exact .inl h0
 ·exact .inr ⟨g,cap,cur,hv,hb,by rw[Below.heap_alloc _ _ _ (Array.getElem?_eq_some_iff.1 hh).1];exact hh,hr⟩
theorem ownsRow_none(base:Nat):W.ownsRow base e size (.slice none 0 0) 0 []:=⟨by simp,.inl ⟨rfl,rfl⟩⟩
end
section
variable{P:Program}
theorem wp_append{o:Oper}{a:Act}{K:Act→World→Prop}{Q:Exit→Act→World→Prop}{w W:World}(s x:Operand)(t:TypeId)
 (ho:o.op= .call {callee:=.builtin .append,args:=#[s,x],argTypes:=#[t,t]})
 (e:TypeId) (i:TypeInfo) (z:Value) (size bytes:Nat) (ht:P.underlying t=some (.slice e)) (hi:P.info? e=some i) (hz:i.zero=some z)
 (hsize:i.size=size) (hby:i.bytes=bytes) (hzs:z.cells.size=size) (hsz:0<size)
 {v:Value} {n:Nat} {xs:List Value} (hs:a.eval s=v) (hx:Ext w W) (hown:W.ownsRow w.heap.size e size v n xs)
 {A:Option Addr} {m c:Nat} {news:List Value} (hv:a.eval x= .slice A m c) (hr:Sl size W A m news) (h1:∀ u∈news,u.oneCell'=true)
 (h63:n+m≤maxLen) (hbytes:(n+m) * bytes≤140737488355328)
 (h:∀ v' E d,(w.ext E d).ownsRow w.heap.size e size v' (n+m) (xs++news)→K (a.put o.dst v') (w.ext E d)):o.wp P a W K Q:=by
 have run:∃ v' w',(Builtin.append_ #[t,t] o.type #[v,.slice A m c]).run P W= .ok v' w'∧w'.ownsRow w.heap.size e size v' (n+m) (xs++news)∧Ext w w':=by
  rcases A with _|ad
  ·have hm:m=0:=by
    rcases Nat.eq_zero_or_pos m with h0|h0
    ·exact h0
    ·obtain⟨g,o',h,_⟩:=hr.2 h0
     cases h
   subst hm
   have hn:news=[]:=List.eq_nil_of_length_eq_zero (by simpa using hr.1)
   subst hn
   refine⟨v,W,?_,by simpa using hown,hx⟩
   rcases hown.2 with⟨rfl,rfl⟩|⟨g,cap,cur,rfl,_,_,hnc,_⟩
   ·exact tL
   ·exact tM
  ·have hcells:∀ j u,news[j]? =some u→W.cell? (ad.add j)=some u:=by
    intro j u hu
    rcases Nat.eq_zero_or_pos m with h0|h0
    ·subst h0
     have hn:news=[]:=List.eq_nil_of_length_eq_zero (by simpa using hr.1)
     subst hn
     simp at hu
    ·obtain⟨g,o',h,hg,hc⟩:=hr.2 h0
     injection h with h
     subst h
     rw[←hc j u hu]
     unfold Addr.add
     by_cases hj:j=0
     ·subst hj;rfl
     ·rw[if_neg hj]
   obtain⟨v',w',hrun,h2,h3,_,_⟩:=run_append_own_at (P:=P) W w.heap.size t o.type e i z size bytes ht hi hz hsize hby hzs hsz v n xs hown ad m c news hr.1 hcells h1 h63 hbytes hx.below.size
   exact⟨v',w',hrun,h2,Ext.of_own hx hown h3⟩
 obtain⟨v',w',hrun,h2,E,d,rfl⟩:=run
 unfold Oper.wp execOp
 simp only[ho,resolve,invoke,builtin,Sem.run_bind,Sem.run_pure,Result.andThen_ok,List.map_toArray,List.map_cons,List.map_nil,hs,hv,hrun]
 exact h v' E d h2
theorem wpList_append{ops:Array Oper}{rest:List Oper}{o:Oper}{a:Act}{Q:Exit→Act→World→Prop}{w W:World}(hgd:o.guard=none)(s x:Operand)(t:TypeId)
 (ho:o.op= .call {callee:=.builtin .append,args:=#[s,x],argTypes:=#[t,t]})
 (e:TypeId) (i:TypeInfo) (z:Value) (size bytes:Nat) (ht:P.underlying t=some (.slice e)) (hi:P.info? e=some i) (hz:i.zero=some z)
 (hsize:i.size=size) (hby:i.bytes=bytes) (hzs:z.cells.size=size) (hsz:0<size)
 {v:Value} {n:Nat} {xs:List Value} (hs:a.eval s=v) (hx:Ext w W) (hown:W.ownsRow w.heap.size e size v n xs)
 {A:Option Addr} {m c:Nat} {news:List Value} (hv:a.eval x= .slice A m c) (hr:Sl size W A m news) (h1:∀ u∈news,u.oneCell'=true)
 (h63:n+m≤maxLen) (hbytes:(n+m) * bytes≤140737488355328)
 (h:∀ v' E d,(w.ext E d).ownsRow w.heap.size e size v' (n+m) (xs++news)→wpList P ops Q rest (a.put o.dst v') (w.ext E d)):wpList P ops Q (o::rest) a W:=
 wpList_plain hgd fun _ hK=>wp_append s x t ho e i z size bytes ht hi hz hsize hby hzs hsz hs hx hown hv hr h1 h63 hbytes fun v' E d h2=>hK _ _ (h v' E d h2)
theorem Sl_top{W:World}(cs:List Value)(e:TypeId)(k m:Nat)(h:cs.length=m * k):Sl k (W.alloc (.cells cs.toArray e)) (some ⟨W.heap.size,0,none⟩) m cs:=
 ⟨h,fun _=>⟨_,0,rfl,by simp,fun j u hu=>by rw[Nat.zero_add,World.cell?_alloc_new];simpa using hu⟩⟩
theorem Sl_at{W:World}(cs:List Value)(e:TypeId)(k m g:Nat)(h:cs.length=m * k)(hg:g=W.heap.size):Sl k (W.alloc (.cells cs.toArray e)) (some ⟨g,0,none⟩) m cs:=by
 subst hg;exact Sl_top cs e k m h
end
theorem info_u8:(Tryz.prog.info? 5).map (fun i=>(i.zero,i.size,i.bytes))=some (some (.int .u8 0),1,1):=by kernel_rfl
theorem info_rec:(Tryz.prog.info? 46).map (fun i=>(i.zero,i.size,i.bytes))=some (some (.agg #[.int .i64 0,.int .i64 0,.int .i64 0,.int .i64 0,.int .i64 0,.int .i64 0,.int .i64 0,.int .i64 0,.int .i64 0,.int .i64 0,.string ⟨#[]⟩]),11,96):=by kernel_rfl
def encB(b:UInt8):Value:=.int .u8 (b.toNat:Int)
theorem encB_one(l:List UInt8):∀ u∈l.map encB,u.oneCell'=true:=by
 intro u hu
 obtain⟨b,_,rfl⟩:=List.mem_map.1 hu
 rfl
theorem encRec_one(l:List Rec):∀ u∈l.flatMap encRec,u.oneCell'=true:=by
 intro u hu
 obtain⟨r,_,hr⟩:=List.mem_flatMap.1 hu
 simp only[encRec,List.mem_cons,List.not_mem_nil,or_false] at hr
 rcases hr with rfl|rfl|rfl|rfl|rfl|rfl|rfl|rfl|rfl|rfl|rfl <;> rfl
def Byt(w:World)(A:Option Addr)(l:List UInt8):Prop:=Sl 1 w A l.length (l.map encB)
theorem Byt.ext{w:World}{A:Option Addr}{l:List UInt8}(h:Byt w A l)(E:Array Obj)(d:Nat):Byt (w.ext E d) A l:=Sl.ext h E d
theorem Byt.alloc{w:World}{A:Option Addr}{l:List UInt8}(h:Byt w A l)(o:Obj):Byt (w.alloc o) A l:=Sl.alloc h o
theorem Byt.drew{w:World}{A:Option Addr}{l:List UInt8}(h:Byt w A l):Byt w.drew A l:=h
theorem Byt.at_{w:World}{A:Option Addr}{l:List UInt8}(h:Byt w A l){i:Nat}(hi:i<l.length):
 ∃g o,A=some ⟨g,o,none⟩∧g<w.heap.size∧w.cell? ⟨g,o+i,none⟩=some (.int .u8 (l[i].toNat:Int)):=by
 obtain⟨g,o,hA,hg,hc⟩:=h.2 tB
 exact⟨g,o,hA,hg,hc i _ (by rw[List.getElem?_map,List.getElem?_eq_getElem hi];rfl)⟩
theorem Byt.of_cells{W:World}(l:List UInt8)(t:List Value)(e:TypeId)(fr:Nat×Nat):Byt (W.alloc (.cells (l.map encB++t).toArray e fr)) (some ⟨W.heap.size,0,none⟩) l:=by
 refine⟨by simp,fun _=>⟨_,0,rfl,by simp,fun j u hu=> ?_⟩⟩
 rw[Nat.zero_add,World.cell?_alloc_mark]
 have hj:=(List.getElem?_eq_some_iff.1 hu).1
 rw[List.getElem?_toArray,List.getElem?_append_left hj]
 exact hu
theorem run_to_bytes(W:World)(s:ByteArray):∃ A c E d,(convert 9 22 (.string s)).run Tryz.prog W= .ok (.slice A s.size c) (W.ext E d)∧Byt (W.ext E d) A s.data.toList:=by
 have h:=run_bytes_of_string (P:=Tryz.prog) W 9 22 _ s Tryz.underlying9 Tryz.underlying22 Tryz.underlying5
 have hc:bytesRow s (grownCap W s.size 0 5)=(s.data.toList.map encB++(Array.replicate (grownCap W s.size 0 5-s.size) (Value.int .u8 0)).toList).toArray:=by
  unfold bytesRow
  apply Array.ext'
  simp[encB]
 obtain⟨E,d,hE⟩:Ext W (W.drew.alloc (.cells (bytesRow s (grownCap W s.size 0 5)) 5 ((bytesRow s (grownCap W s.size 0 5)).size,(bytesRow s (grownCap W s.size 0 5)).size+1))):=(Ext.refl W).drew.alloc _
 refine⟨_,_,E,d,by rw[h,hE],?_⟩
 rw[←hE,hc]
 exact Byt.of_cells (W:=W.drew) _ _ _ _
end Go.Proofs.YtekjdeibnfaehaaGreat
namespace Go.Proofs.YtekjdeibnfaehaaGreat
open Go.RowKit
def byteI(n:Int)(i:Nat):UInt8:=UInt8.ofNat (n.toNat / 256 ^ i % 256)
theorem byteI_toNat(n:Int)(h:0≤n)(i:Nat):((byteI n i).toNat:Int)=n / (256 ^ i:Nat) % 256:=by
 have:(byteI n i).toNat=n.toNat / 256 ^ i % 256:=by
  unfold byteI
  rw[UInt8.toNat_ofNat']
  omega
 rw[this]
 have hn:(n.toNat:Int)=n:=by omega
 rw[Int.natCast_emod,Int.natCast_ediv,hn]
 rfl
def numB(n:Int):Nat→List UInt8
 | 0=>[]
 | k+1=>byteI n k::numB n k
theorem numB_length(n:Int):∀ k,(numB n k).length=k
 | 0=>rfl
 | k+1=>by simp[numB,numB_length n k]
theorem numB_split(n:Int):∀ (m k:Nat),k<m→(numB n m).take (k+1)=(numB n m).take k++[byteI n (m-1-k)]
 | m+1,0,_=>by simp[numB]
 | m+1,k+1,h=>by
  simp only[numB,List.take_succ_cons,List.cons_append]
  rw[numB_split n m k tB,show m+1-1-(k+1)=m-1-k from by omega]
theorem encB_byteI(n:Int)(h:0≤n)(i:Nat)(p:Int)(hp:(256 ^ i:Nat)=p):encB (byteI n i)= .int .u8 (n / p % 256):=by
 unfold encB
 rw[byteI_toNat n h i,hp]
theorem number_step(n:Int)(h:0≤n)(many k:Nat)(v:Int)(hv:v=(many:Int)-1-k)(hk:k<many)(hm:many≤4)(x:Value)
 (hx:(v=0∧x= .int .u8 (n % 256))∨(v=1∧x= .int .u8 (n / 256 % 256))∨(v=2∧x= .int .u8 (n / 65536 % 256))∨(v=3∧x= .int .u8 (n / 16777216 % 256))):
 ((numB n many).take k).map encB++[x]=((numB n many).take (k+1)).map encB:=by
 rw[numB_split n many k hk,List.map_append]
 congr 1
 simp only[List.map_cons,List.map_nil,List.cons.injEq,and_true]
 rcases hx with⟨h0,rfl⟩|⟨h0,rfl⟩|⟨h0,rfl⟩|⟨h0,rfl⟩
 ·rw[show many-1-k=0 from by omega,encB_byteI n h 0 1 rfl];simp
 ·rw[show many-1-k=1 from by omega,encB_byteI n h 1 256 rfl]
 ·rw[show many-1-k=2 from by omega,encB_byteI n h 2 65536 rfl]
 ·rw[show many-1-k=3 from by omega,encB_byteI n h 3 16777216 rfl]
set_option maxRecDepth 100000 in
set_option maxHeartbeats 2000000 in
theorem number_any(n:Int)(many:Nat)(h0:0≤n)(h1:n≤9223372036854775807)(hm:many≤4)(w:World):
 Calls Tryz.prog 159 #[.int .i64 n,.int .i64 many] w fun e w'=> ∃A c,e= .returned (.slice A many c)∧Byt w' A (numB n many)∧Ext w w':=by
 obtain⟨i0,hi,hz0,hz1,hz2⟩:=info_parts info_u8
 go_enter Tryz.func159,Tryz.ntmps159
 go_wp2_with fail
 go_loopw [5,6] (fun out i wr=> ∃(k:Nat) (v:Int),v=(many:Int)-1-k∧k≤many∧i= .int .i64 v∧Ext w wr∧wr.ownsRow w.heap.size 5 1 out k (((numB n many).take k).map encB)) (fun _ i _=>(intOf i+1).toNat)
 case atStart=>exact⟨0,many-1,by omega,by omega,rfl,Ext.refl _,ownsRow_none _⟩
 case round=>
  obtain⟨k,v,hv,hk,rfl,⟨E,d,rfl⟩,hown⟩:=hrel
  by_cases hlt:k<many
  ·have hv0:0≤v:=by omega
   have hv1:v≤3:=by omega
   have Hv:=hid hv
   clear hv
   obtain rfl|rfl|rfl|rfl:v=0∨v=1∨v=2∨v=3:=by omega
   all_goals
    go_wp2_with (at_builtin;refine wpList_append (w:=w) rfl _ _ 22 rfl 5 i0 (.int .u8 0) 1 1 Tryz.underlying22 hi hz0 hz1 hz2 rfl tN rfl ((Ext.refl _).ext E d |>.alloc _) (ownsRow_alloc hown _) rfl (Sl_at [_] _ 1 1 _ rfl tE) (by intro u hu;simp only[List.mem_singleton] at hu;subst hu;rfl) tO tB ?_;intro v1 E1 d1 hown1;rw[number_step n h0 many k _ Hv.out hlt hm _ tE] at hown1)
    go_roundw
    case rel=>exact⟨k+1,_,rfl,by omega,congrArg (Value.int .i64) (by have:=Hv.out;omega),(Ext.refl _).ext E1 d1,hown1⟩
    case measure=>simp[intOf]
  ·obtain rfl:k=many:=by omega
   obtain⟨A,c,rfl,_,hs⟩:=ownsRow_slice hown
   have hv0:v<0:=by omega
   rw[List.take_of_length_le (by rw[numB_length];exact Nat.le_refl _)] at hs
   have hs':Byt (w.ext E d) A (numB n k):=by unfold Byt;rw[numB_length];exact hs
   clear hs hown hv
   go_wp2_with fail
   go_ret
   exact⟨A,c,rfl,hs',exI⟩
theorem number_i(n many:Int)(h0:0≤n)(h1:n≤9223372036854775807)(hm0:0≤many)(hm:many≤4)(w:World):
 Calls Tryz.prog 159 #[.int .i64 n,.int .i64 many] w fun e w'=> ∃A c,e= .returned (.slice A many.toNat c)∧Byt w' A (numB n many.toNat)∧Ext w w':=by
 obtain⟨m,rfl⟩:=Int.eq_ofNat_of_zero_le hm0
 exact number_any n m h0 h1 tB w
end Go.Proofs.YtekjdeibnfaehaaGreat
namespace Go.Proofs.YtekjdeibnfaehaaGreat
open Go.RowKit
set_option maxRecDepth 100000 in
set_option maxHeartbeats 2000000 in
theorem Grow_any(n:Nat)(h0:0<n)(h1:n≤1000000)(w:World):
 Calls Tryz.prog 177 #[.slice none 0 0,.int .i64 n] w fun e w'=> ∃v,e= .returned v∧w'.ownsRow w.heap.size 5 1 v 0 []∧Ext w w':=by
 obtain⟨i0,hi,hz0,hz1,hz2⟩:=info_parts info_u8
 go_enter Tryz.func177,Tryz.ntmps177
 go_wp2_with (at_builtin;refine Lib.wpList_append_run _ rfl _ _ 22 3 rfl _ _ rfl rfl _ _ (Lib.run_append_nil_zeros _ _ _ _ 5 i0 (.int .u8 0) .i64 .i64 Tryz.underlying22 Tryz.underlying3 hi hz0 n h0 (by rw[hz1];decide) tB (by rw[hz2];omega)) ?_)
 go_ret
 have hge:=grownCap_ge w n 0 5
 refine⟨_,rfl,⟨rfl,.inr ⟨w.heap.size,grownCap w n 0 5,(Builtin.zeroCells #[.int .u8 0] n++Builtin.zeroCells #[.int .u8 0] (grownCap w n 0 5-n)),rfl,Nat.le_refl _,?_,Nat.zero_le _,grownCap_le_maxLen w n 0 _ tO,?_,by simp⟩⟩,exI⟩
 ·show(w.alloc _).heap[w.heap.size]? =_
  simp only[World.alloc]
  exact Array.getElem?_push_size
 ·rw[Array.size_append,size_zeroCells,size_zeroCells]
  simp only[List.size_toArray,List.length_cons,List.length_nil]
  omega
def BytV(w:World)(v:Value)(l:List UInt8):Prop:=∃ A c,v= .slice A l.length c∧Byt w A l
theorem BytV.alloc{w:World}{v:Value}{l:List UInt8}(h:BytV w v l)(o:Obj):BytV (w.alloc o) v l:=by
 obtain⟨A,c,hv,hb⟩:=h;exact⟨A,c,hv,hb.alloc o⟩
def sumL(ls:List (List UInt8)):Nat:=ls.flatten.length
theorem sumL_take(ls:List (List UInt8))(k:Nat)(h:k<ls.length):sumL (ls.take (k+1))=sumL (ls.take k)+ls[k].length:=by
 rw[List.take_succ_eq_append_getElem h]
 simp only[sumL,List.flatten_append,List.length_append,List.flatten_cons,List.flatten_nil,List.append_nil]
theorem sumL_le(ls:List (List UInt8))(k:Nat):sumL (ls.take k)≤sumL ls:=by
 have:ls=ls.take k++ls.drop k:=(List.take_append_drop k ls).symm
 have h2:sumL ls=sumL (ls.take k)+sumL (ls.drop k):=by
  conv=>lhs;rw[this]
  simp only[sumL,List.flatten_append,List.length_append]
 omega
theorem flat_take(ls:List (List UInt8))(k:Nat)(h:k<ls.length):(ls.take (k+1)).flatten.map encB=(ls.take k).flatten.map encB++ls[k].map encB:=by
 rw[List.take_succ_eq_append_getElem h]
 simp only[List.flatten_append,List.flatten_cons,List.flatten_nil,List.append_nil,List.map_append]
set_option maxRecDepth 100000 in
set_option maxHeartbeats 2000000 in
theorem Concat_own(A:Option Addr)(c:Nat)(vs:List Value)(ls:List (List UInt8))(hlen:vs.length=ls.length)(hsz:sumL ls≤1000000)(hsz0:0<sumL ls)(hn:vs.length≤1000000)(w:World)
 (hs:Sl 1 w A vs.length vs) (hv:∀ i (h:i<vs.length) (h':i<ls.length),BytV w vs[i] ls[i]):
 Calls Tryz.prog 158 #[.slice A vs.length c] w fun e w'=> ∃v,e= .returned v∧w'.ownsRow w.heap.size 5 1 v ls.flatten.length (ls.flatten.map encB)∧Ext w w':=by
 obtain⟨i0,hi,hz0,hz1,hz2⟩:=info_parts info_u8
 have Hlen:=hid hlen
 clear hlen
 go_enter Tryz.func158,Tryz.ntmps158
 go_wp2_with fail
 go_loop [3,11] (fun s i=> ∃k:Nat,k≤vs.length∧i= .int .i64 k∧s= .int .i64 (sumL (ls.take k))) (fun _ i=>vs.length-(intOf i).toNat)
 case atStart=>exact⟨0,Nat.zero_le _,rfl,rfl⟩
 case round=>
  obtain⟨k,hk,rfl,rfl⟩:=hrel
  have hb:=sumL_le ls k
  by_cases hlt:k<vs.length
  ·obtain⟨g,o,rfl,hg,hc⟩:=hs.2 tB
   have hc0:=hc k _ (List.getElem?_eq_getElem hlt)
   obtain⟨Ak,ck,hvk,hbk⟩:=hv k hlt tP
   have hst:=sumL_take ls k tP
   have hb1:=sumL_le ls (k+1)
   rw[hst] at hb1
   rw[hvk] at hc0
   have Hst:=hid hst
   clear hc hvk hst
   go_wp2_with fail
   go_round
   case rel=>exact⟨k+1,by omega,by go_num,by rw[Hst.out];go_num⟩
   case measure=>simp[intOf];omega
  ·obtain rfl:k=vs.length:=by omega
   rw[List.take_of_length_le tP]
   go_wp2_with (go_at_call 177;refine(Grow_any _ tF tF _).mono ?_;rintro e w1 ⟨vg,rfl,hgrow,E,d,rfl⟩)
   go_loopw [6,27] (fun out i wr=> ∃k:Nat,k≤vs.length∧i= .int .i64 k∧Ext w wr∧wr.ownsRow w.heap.size 5 1 out (sumL (ls.take k)) ((ls.take k).flatten.map encB)) (fun _ i _=>vs.length-(intOf i).toNat)
   case atStart=>exact⟨0,Nat.zero_le _,rfl,(Ext.refl _).ext E d,hgrow⟩
   case round=>
    obtain⟨k,hk,rfl,⟨E,d,rfl⟩,hown⟩:=hrel
    have hb:=sumL_le ls k
    by_cases hlt:k<vs.length
    ·obtain⟨g,o,rfl,hg,hc⟩:=hs.2 tB
     have hc0:=hc k _ (List.getElem?_eq_getElem hlt)
     obtain⟨Ak,ck,hvk,hbk⟩:=hv k hlt tP
     have hst:=sumL_take ls k tP
     have hft:=flat_take ls k tP
     have hb1:=sumL_le ls (k+1)
     rw[hst] at hb1
     rw[hvk] at hc0
     have Hst:=hid hst
     have Hft:=hid hft
     clear hc hvk hst hft
     go_wp2_with (at_builtin;refine wpList_append (w:=w) rfl _ _ 22 rfl 5 i0 (.int .u8 0) 1 1 Tryz.underlying22 hi hz0 hz1 hz2 rfl tN rfl ((Ext.refl _).ext E d) hown rfl (hbk.ext E d) (encB_one _) tO tB ?_;intro v1 E1 d1 hown1;rw[←Hft.out,←Hst.out] at hown1)
     go_roundw
     case rel=>exact⟨k+1,by omega,by go_num,(Ext.refl _).ext E1 d1,hown1⟩
     case measure=>simp[intOf];omega
    ·obtain rfl:k=vs.length:=by omega
     rw[List.take_of_length_le tP] at hown
     have Hown:=hid hown
     clear hown
     go_wp2_with fail
     go_ret
     exact⟨_,rfl,Hown.out,exI⟩
theorem Concat_any(A:Option Addr)(c:Nat)(vs:List Value)(ls:List (List UInt8))(hlen:vs.length=ls.length)(hsz:sumL ls≤1000000)(hsz0:0<sumL ls)(hn:vs.length≤1000000)(w:World)
 (hs:Sl 1 w A vs.length vs) (hv:∀ i (h:i<vs.length) (h':i<ls.length),BytV w vs[i] ls[i]):
 Calls Tryz.prog 158 #[.slice A vs.length c] w fun e w'=> ∃v,e= .returned v∧BytV w' v ls.flatten∧Ext w w':=by
 refine(Concat_own A c vs ls hlen hsz hsz0 hn w hs hv).mono ?_
 rintro e w' ⟨v,rfl,ho,hx⟩
 obtain⟨A,c,rfl,_,hs⟩:=ownsRow_slice ho
 exact⟨_,rfl,⟨A,c,rfl,hs⟩,hx⟩
end Go.Proofs.YtekjdeibnfaehaaGreat
namespace Go.Proofs.YtekjdeibnfaehaaGreat
open Go.RowKit
def valB(l:List UInt8):Int:=l.foldl (fun n b=>n * 256+(b.toNat:Int)) 0
theorem valB_snoc(l:List UInt8)(b:UInt8):valB (l++[b])=valB l * 256+(b.toNat:Int):=by simp[valB,List.foldl_append]
theorem valB_bound(l:List UInt8):0≤valB l∧valB l<256 ^ l.length:=by
 suffices h:∀ (l:List UInt8),0≤valB l.reverse∧valB l.reverse<256 ^ l.length by
  have:=h l.reverse
  rwa [List.reverse_reverse,List.length_reverse] at this
 intro l
 induction l with
 | nil=>simp[valB]
 | cons b l ih=>
  rw[List.reverse_cons,valB_snoc,List.length_cons]
  have:=b.toNat_lt
  have h2:(256:Int) ^ (l.length+1)=256 ^ l.length * 256:=Int.pow_succ ..
  rw[h2]
  omega
theorem valB_small(l:List UInt8)(k:Nat)(h:l.length≤k)(hk:k≤3):0≤valB l∧valB l<16777216:=by
 have h1:=valB_bound l
 refine⟨h1.1,Int.lt_of_lt_of_le h1.2 ?_⟩
 have:l.length=0∨l.length=1∨l.length=2∨l.length=3:=by omega
 rcases this with h|h|h|h <;> rw[h] <;> decide
theorem bits_or_byte(x:Int)(b:UInt8)(h0:0≤x)(h1:x<16777216):bits .or .i64 (x * 256) (wrap64 (b.toNat:Int))=x * 256+(b.toNat:Int):=by
 have hb:=b.toNat_lt
 obtain⟨m,rfl⟩:=Int.eq_ofNat_of_zero_le h0
 have hw:wrap64 (b.toNat:Int)=(b.toNat:Int):=by unfold wrap64;omega
 rw[hw]
 have e1:((m:Int) * 256)=((m * 256:Nat):Int):=by omega
 rw[e1]
 have ho:∀ a:Nat,a<9223372036854775808→(BitVec.ofInt 64 (a:Int)).toNat=a:=fun a ha=>by
  rw[BitVec.ofInt_natCast,BitVec.toNat_ofNat];exact Nat.mod_eq_of_lt tB
 show IntKind.i64.wrap ((BitVec.ofInt 64 ((m * 256:Nat):Int) ||| BitVec.ofInt 64 (b.toNat:Int)).toNat:Int)=_
 rw[BitVec.toNat_or,ho _ tB,ho _ tB]
 have h3:m * 256 ||| b.toNat=m * 256+b.toNat:=by
  have:=Nat.shiftLeft_add_eq_or_of_lt (i:=8) (b:=b.toNat) hb m
  rw[Nat.shiftLeft_eq] at this
  exact this.symm
 rw[h3,IntKind.wrap_i64]
 omega
theorem take_drop_snoc(l:List UInt8)(i k:Nat)(h:i+k<l.length):(l.drop i).take (k+1)=(l.drop i).take k++[l[i+k]]:=by
 rw[List.take_succ_eq_append_getElem tA]
 simp
set_option maxRecDepth 100000 in
set_option maxHeartbeats 2000000 in
theorem get_any(A:Option Addr)(c:Nat)(l:List UInt8)(i many:Nat)(hl:i+many≤l.length)(hm:many≤4)(hbig:l.length≤9223372036854775807)(w:World)(hb:Byt w A l):
 Calls Tryz.prog 125 #[.slice A l.length c,.int .i64 i,.int .i64 many] w fun e w'=>e= .returned (.int .i64 (valB ((l.drop i).take many)))∧w=w':=by
 go_enter Tryz.func125,Tryz.ntmps125
 go_wp2_with fail
 go_loop [7,8] (fun n j=> ∃k:Nat,k≤many∧j= .int .i64 k∧n= .int .i64 (valB ((l.drop i).take k))) (fun _ j=>many-(intOf j).toNat)
 case atStart=>exact⟨0,Nat.zero_le _,rfl,rfl⟩
 case round=>
  obtain⟨k,hk,rfl,rfl⟩:=hrel
  by_cases hlt:k<many
  ·obtain⟨g,o,rfl,hg,hc⟩:=hb.at_ (i:=i+k) tB
   obtain⟨v0,v1⟩:=valB_small ((l.drop i).take k) k (List.length_take_le _ _) tB
   have hst:=take_drop_snoc l i k tB
   have Hst:=hid hst
   clear hst
   go_wp2_with fail
   go_round
   case rel=>exact⟨k+1,by omega,by go_num,congrArg (Value.int .i64) (by rw[bits_or_byte _ _ v0 v1,Hst.out,valB_snoc])⟩
   case measure=>simp[intOf];omega
  ·obtain rfl:k=many:=by omega
   go_wp2_with fail
   go_ret
   exact⟨rfl,rfl⟩
theorem get_i(A:Option Addr)(c n:Nat)(l:List UInt8)(i many:Int)(hn:l.length=n)(hi:0≤i)(hm0:0≤many)(hl:i+many≤n)(hm:many≤4)(hbig:n≤9223372036854775807)(w:World)(hb:Byt w A l):
 Calls Tryz.prog 125 #[.slice A n c,.int .i64 i,.int .i64 many] w fun e w'=>e= .returned (.int .i64 (valB ((l.drop i.toNat).take many.toNat)))∧w=w':=by
 subst hn
 obtain⟨i,rfl⟩:=Int.eq_ofNat_of_zero_le hi
 obtain⟨m,rfl⟩:=Int.eq_ofNat_of_zero_le hm0
 exact get_any A c l i m tB tB hbig w hb
def cutA(A:Option Addr)(c k:Nat):Option Addr:=if c=k then A else A.map (·.add k)
theorem Byt.cut{w:World}{A:Option Addr}{l:List UInt8}(h:Byt w A l){c k:Nat}(hk:k≤l.length)(hc:l.length≤c):Byt w (cutA A c k) (l.drop k):=by
 refine⟨by simp,fun hn=> ?_⟩
 rw[List.length_drop] at hn
 obtain⟨g,o,rfl,hg,hcell⟩:=h.2 tB
 rw[cutA,if_neg tB]
 refine⟨g,o+k,?_,hg,fun j u hu=> ?_⟩
 ·show some (Addr.add _ k)=_
  unfold Addr.add
  split
  ·rename_i h0;subst h0;rfl
  ·rfl
 ·rw[Nat.add_assoc]
  exact hcell _ u (by rw[←hu,List.map_drop,List.getElem?_drop])
theorem Byt.take{w:World}{A:Option Addr}{l:List UInt8}(h:Byt w A l)(k:Nat)(hk:k≤l.length):Byt w A (l.take k):=by
 refine⟨by simp,fun hn=> ?_⟩
 rw[List.length_take] at hn
 obtain⟨g,o,rfl,hg,hcell⟩:=h.2 tB
 refine⟨g,o,rfl,hg,fun j u hu=>hcell j u ?_⟩
 rw[List.map_take] at hu
 have hj:j<k:=by
  have h1:=(List.getElem?_eq_some_iff.1 hu).1
  rw[List.length_take] at h1
  omega
 rwa [List.getElem?_take_of_lt hj] at hu
theorem Byt.setCell{w:World}{A:Option Addr}{l:List UInt8}(h:Byt w A l){p:Addr}(v:Value)(hne:∀ g o,A=some ⟨g,o,none⟩→g≠p.block):Byt (w.setCell p v) A l:=by
 refine⟨h.1,fun hn=> ?_⟩
 obtain⟨g,o,rfl,hg,hcell⟩:=h.2 hn
 refine⟨g,o,rfl,by simpa using hg,fun j u hu=> ?_⟩
 rw[World.cell?_setCell_other _ _ _ _ (fun e=>hne g o rfl (by rw[e]))]
 exact hcell j u hu
def badP:List PanicEntry:=[{v:=.iface 215 (.agg #[]),recovered:=false}]
set_option maxRecDepth 100000 in
set_option maxHeartbeats 2000000 in
theorem take_any(A:Option Addr)(c n many g:Nat)(hn:n≤c)(hl:many≤n)(hbig:c≤9223372036854775807)(w:World)(hc:w.cell? ⟨g,0,none⟩=some (.slice A n c))(hf:w.frozen? ⟨g,0,none⟩=false):
 Calls Tryz.prog 151 #[.pointer (some ⟨g,0,none⟩),.int .i64 many] w fun e w'=>e= .returned (.slice A many c)∧w.setCell ⟨g,0,none⟩ (.slice (cutA A c many) (n-many) (c-many))=w':=by
 go_enter Tryz.func151,Tryz.ntmps151
 go_wp2_with fail
 ·go_ret
  exact⟨rfl,by simp[cutA]⟩
 ·go_ret
  exact⟨rfl,by rw[cutA,if_neg tF]⟩
set_option maxRecDepth 100000 in
set_option maxHeartbeats 2000000 in
theorem take_bad(A:Option Addr)(c n many g:Nat)(hn:n≤c)(hl:n<many)(hbig:many≤9223372036854775807)(hbig:c≤9223372036854775807)(w:World)(hc:w.cell? ⟨g,0,none⟩=some (.slice A n c)):
 Calls Tryz.prog 151 #[.pointer (some ⟨g,0,none⟩),.int .i64 many] w fun e w'=>e= .panicked badP∧w=w':=by
 go_enter Tryz.func151,Tryz.ntmps151
 go_wp2_with fail
 exact⟨rfl,rfl,rfl⟩
end Go.Proofs.YtekjdeibnfaehaaGreat
