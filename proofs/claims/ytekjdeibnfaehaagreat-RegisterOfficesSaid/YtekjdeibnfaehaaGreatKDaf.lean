/- Texts of a proof. -/
import Derived.Test.YtekjdeibnfaehaaGreatKDac
import Derived.Recover
import Derived.Test.YtekjdeibnfaehaaGreatKDae
set_option linter.unusedSimpArgs false
set_option linter.unusedVariables false
namespace Go.Proofs.YtekjdeibnfaehaaGreat
open Go.RowKit
set_option maxRecDepth 100000 in
set_option maxHeartbeats 2000000 in
theorem rnum_any(A:Option Addr)(c n g many:Nat)(l:List UInt8)(hn:l.length=n)(hnc:n≤c)(hl:many≤n)(hm:many≤4)(hbig:c≤9223372036854775807)(w:World)
 (hc:w.cell? ⟨g,0,none⟩=some (.slice A n c)) (hf:w.frozen? ⟨g,0,none⟩=false) (hb:Byt w A l) (hne:∀ a,A=some a→a.block<g):
 Calls Tryz.prog 118 #[.pointer (some ⟨g,0,none⟩),.int .i64 many] w fun e w'=>e= .returned (.int .i64 (valB (l.take many)))∧w.setCell ⟨g,0,none⟩ (.slice (cutA A c many) (n-many) (c-many))=w':=by
 have hb':Byt (w.setCell ⟨g,0,none⟩ (.slice (cutA A c many) (n-many) (c-many))) A l:=hb.setCell _ (fun x o h=>Nat.ne_of_lt (hne _ h))
 go_enter Tryz.func118,Tryz.ntmps118
 go_wp2_with fail
 refine(take_any A c n many g hnc hl hbig _ hc hf).mono ?_
 rintro e w1 ⟨rfl,hw1⟩
 rw[hw1] at hb'
 subst hw1
 go_wp2_with fail
 go_loop [5,7,12] (fun v b i=> ∃k:Nat,k≤many∧i= .int .i64 k∧v= .int .i64 (valB (l.take k))) (fun _ _ i=>many-(intOf i).toNat)
 case atStart=>exact⟨0,Nat.zero_le _,rfl,rfl⟩
 case round=>
  obtain⟨k,hk,rfl,rfl⟩:=hrel
  by_cases hlt:k<many
  ·obtain⟨x,o,rfl,hg,hcell⟩:=hb'.at_ (i:=k) tB
   obtain⟨v0,v1⟩:=valB_small (l.take k) k (List.length_take_le _ _) tB
   have hst:l.take (k+1)=l.take k++[l[k]'tB]:=List.take_succ_eq_append_getElem tB
   have Hst:=hid hst
   clear hst
   go_wp2_with fail
   go_round
   case rel=>exact⟨k+1,by omega,by go_num,congrArg (Value.int .i64) (by rw[bits_or_byte _ _ v0 v1,Hst.out,valB_snoc])⟩
   case measure=>simp[intOf];omega
  ·obtain rfl:k=many:=by omega
   go_wp2_with fail
   go_ret
   exact⟨rfl,rfl⟩
set_option maxRecDepth 100000 in
set_option maxHeartbeats 2000000 in
theorem rnum_bad(A:Option Addr)(c n g:Nat)(many:Int)(hn:n≤c)(hl:(n:Int)<many)(hbig:many≤9223372036854775807)(hbig':c≤9223372036854775807)(w:World)(hc:w.cell? ⟨g,0,none⟩=some (.slice A n c)):
 Calls Tryz.prog 118 #[.pointer (some ⟨g,0,none⟩),.int .i64 many] w fun e w'=>e= .panicked badP∧w=w':=by
 obtain⟨m,rfl⟩:=Int.eq_ofNat_of_zero_le (a:=many) tB
 go_enter Tryz.func118,Tryz.ntmps118
 go_wp2_with fail
 refine(take_bad A c n m g hn tB tB hbig' _ hc).mono ?_
 rintro e w1 ⟨rfl,rfl⟩
 exact⟨rfl,rfl,rfl⟩
theorem rnum_i(A:Option Addr)(c n g:Nat)(many:Int)(l:List UInt8)(hn:l.length=n)(hnc:n≤c)(hm0:0≤many)(hl:many≤n)(hm:many≤4)(hbig:c≤9223372036854775807)(w:World)
 (hc:w.cell? ⟨g,0,none⟩=some (.slice A n c)) (hf:w.frozen? ⟨g,0,none⟩=false) (hb:Byt w A l) (hne:∀ a,A=some a→a.block<g):
 Calls Tryz.prog 118 #[.pointer (some ⟨g,0,none⟩),.int .i64 many] w fun e w'=>e= .returned (.int .i64 (valB (l.take many.toNat)))∧
  w.setCell ⟨g,0,none⟩ (.slice (cutA A c many.toNat) (n-many.toNat) (c-many.toNat))=w':=by
 obtain⟨m,rfl⟩:=Int.eq_ofNat_of_zero_le hm0
 exact rnum_any A c n g m l hn hnc tB tB hbig w hc hf hb hne
theorem cutA_block{A:Option Addr}{c k B:Nat}(h:∀ a,A=some a→a.block<B):∀ a,cutA A c k=some a→a.block<B:=by
 intro a hx
 unfold cutA at hx
 split at hx
 ·exact h a hx
 ·cases A with
  | none=>cases hx
  | some y=>
   simp only[Option.map_some,Option.some.injEq] at hx
   subst hx
   have:=h y rfl
   unfold Addr.add
   split <;> exact this
theorem Byt.block{w:World}{A:Option Addr}{l:List UInt8}(h:Byt w A l)(h0:0<l.length):∀ a,A=some a→a.block<w.heap.size:=by
 intro a hx
 obtain⟨g,o',hA,hg,_⟩:=h.2 h0
 rw[hA] at hx
 cases hx
 exact hg
end Go.Proofs.YtekjdeibnfaehaaGreat
namespace Go.Proofs.YtekjdeibnfaehaaGreat
open Go.RowKit
@[go_sem] theorem lt_add_b1(a b:Nat):(a<a+1+b)=True:=eq_true tB
@[go_sem] theorem lt_add_b2(a b:Nat):(a<a+1+1+b)=True:=eq_true tB
@[go_sem] theorem lt_add_b3(a b:Nat):(a<a+1+1+1+b)=True:=eq_true tB
@[go_sem] theorem lt_add_b4(a b:Nat):(a<a+1+1+1+1+b)=True:=eq_true tB
@[go_sem] theorem lt_add_c2(a b:Nat):(a+1<a+1+1+b)=True:=eq_true tB
@[go_sem] theorem lt_add_c3(a b:Nat):(a+1<a+1+1+1+b)=True:=eq_true tB
@[go_sem] theorem lt_add_c4(a b:Nat):(a+1<a+1+1+1+1+b)=True:=eq_true tB
@[go_sem] theorem lt_add_d3(a b:Nat):(a+1+1<a+1+1+1+b)=True:=eq_true tB
@[go_sem] theorem lt_add_d4(a b:Nat):(a+1+1<a+1+1+1+1+b)=True:=eq_true tB
def zeroR:Rec:=⟨0,0,0,0,0,0,0,0,0,0,⟨#[]⟩⟩
theorem assert_bad(w:World):(Instr.typeAssert (.iface 215 (.agg #[])) 20 215 true).run Tryz.prog w= .ok (.tuple #[.agg #[],.bool true]) w:=by kernel_rfl
set_option maxRecDepth 100000 in
theorem catch_bad(c0 c1 c2 c3 c4 c5 c6 c7 c8 c9 c10 b r:Value)(w:World):
 CallsD Tryz.prog 165 #[.pointer (some ⟨w.heap.size,0,none⟩),.pointer (some ⟨w.heap.size+1,0,none⟩)] (.panicking badP)
  (((w.alloc (.cells #[c0,c1,c2,c3,c4,c5,c6,c7,c8,c9,c10] 46)).alloc (.cells #[b] 4)).alloc (.cells #[r] 171)) fun e u' w'=>
  e= .returned (.tuple #[])∧u'= .panicking [{v:=.iface 215 (.agg #[]),recovered:=true}]∧
  w'=(((w.alloc (.cells #[.int .i64 0,.int .i64 0,.int .i64 0,.int .i64 0,.int .i64 0,.int .i64 0,.int .i64 0,.int .i64 0,.int .i64 0,.int .i64 0,.string ⟨#[]⟩] 46)).alloc (.cells #[.bool false] 4)).alloc (.cells #[r] 171)).alloc (.cells #[] 215):=by
 have hta:=assert_bad
 refine callsD_of_wpS Tryz.func165 rfl fun c₀ cs hu=> ?_
 apply wpS_seq
 apply wpS_region
 simp[wpOpsS,go_sem,recoverD,hu,badP,Tryz.ntmps165,Exit.thenS]
 refine wpS_of_wp ?_
 simp only[Array.replicate_succ,Array.replicate_zero,List.push_toArray,List.append_toArray,List.nil_append,List.cons_append,List.setIfInBounds_toArray,List.set_cons_zero,List.set_cons_succ]
 go_wp2
 simp[bodyPostS,results,Tryz.results165]
set_option maxRecDepth 100000 in
theorem catch_bad2(c0 c1 c2 c3 c4 c5 c6 c7 c8 c9 c10 b r:Value)(w:World)(E:Array Obj)(d:Nat):
 CallsD Tryz.prog 165 #[.pointer (some ⟨w.heap.size,0,none⟩),.pointer (some ⟨w.heap.size+1,0,none⟩)] (.panicking badP)
  ((((w.alloc (.cells #[c0,c1,c2,c3,c4,c5,c6,c7,c8,c9,c10] 46)).alloc (.cells #[b] 4)).alloc (.cells #[r] 171)).ext E d) fun e u' w'=>
  e= .returned (.tuple #[])∧u'= .panicking [{v:=.iface 215 (.agg #[]),recovered:=true}]∧
  w'=((((w.alloc (.cells #[.int .i64 0,.int .i64 0,.int .i64 0,.int .i64 0,.int .i64 0,.int .i64 0,.int .i64 0,.int .i64 0,.int .i64 0,.int .i64 0,.string ⟨#[]⟩] 46)).alloc (.cells #[.bool false] 4)).alloc (.cells #[r] 171)).ext E d).alloc (.cells #[] 215):=by
 have hta:=assert_bad
 refine callsD_of_wpS Tryz.func165 rfl fun c₀ cs hu=> ?_
 apply wpS_seq
 apply wpS_region
 simp[wpOpsS,go_sem,recoverD,hu,badP,Tryz.ntmps165,Exit.thenS]
 refine wpS_of_wp ?_
 simp only[Array.replicate_succ,Array.replicate_zero,List.push_toArray,List.append_toArray,List.nil_append,List.cons_append,List.setIfInBounds_toArray,List.set_cons_zero,List.set_cons_succ]
 go_wp2
 simp[bodyPostS,results,Tryz.results165]
set_option maxRecDepth 100000 in
theorem catch_idle(p q:Addr)(w:World):
 CallsD Tryz.prog 165 #[.pointer (some p),.pointer (some q)] .returning w fun e u' w'=>e= .returned (.tuple #[])∧u'= .returning∧w'=w:=by
 refine callsD_of_wpS Tryz.func165 rfl fun c₀ cs hu=> ?_
 apply wpS_seq
 apply wpS_region
 simp[wpOpsS,go_sem,recoverD,hu,Tryz.ntmps165,Exit.thenS]
 refine wpS_of_wp ?_
 simp only[Array.replicate_succ,Array.replicate_zero,List.push_toArray,List.append_toArray,List.nil_append,List.cons_append,List.setIfInBounds_toArray,List.set_cons_zero,List.set_cons_succ]
 go_wp2
 cases c₀
 simp_all [bodyPostS,results,Tryz.results165]
theorem decOk_short{l:List UInt8}(h:l.length<23):decOk l=false:=by
 have:lenOk l=false:=by simp only[lenOk,Bool.and_eq_false_iff,decide_eq_false_iff_not];left;omega
 rw[decOk,this];rfl
def decV(l:List UInt8):Rec:=if decOk l=true then decR l else zeroR
theorem decV_no{l:List UInt8}(h:decOk l=false):decV l=zeroR:=by rw[decV,h];rfl
theorem decV_short(l:List UInt8)(h:l.length<23):Hid (decV l=zeroR)∧Hid (decOk l=false):=⟨hid (decV_no (decOk_short h)),hid (decOk_short h)⟩
theorem decV_long(l:List UInt8){k:Nat}(hk:Hid (valB ((l.drop 22).take 1)=k))(h:(l.length:Int)≠23+k):Hid (decV l=zeroR)∧Hid (decOk l=false):=by
 have:decOk l=false:=by
  have:lenOk l=false:=by simp only[lenOk,Bool.and_eq_false_iff,decide_eq_false_iff_not,hk.out];right;omega
  rw[decOk,this];rfl
 exact⟨hid (decV_no this),hid this⟩
set_option maxRecDepth 100000 in
set_option maxHeartbeats 4000000 in
theorem recordOf_any(A:Option Addr)(c n:Nat)(l:List UInt8)(hn:l.length=n)(hnc:n≤c)(hbig:c≤9223372036854775807)(w:World)(hb:Byt w A l):
 Calls Tryz.prog 153 #[.slice A n c] w fun e w'=>e= .returned (.tuple #[recV (decV l),.bool (decOk l)])∧Ext w w':=by
 have hmf:∀ (fn:Fn) (first cap:Array Value) (w:World),(Instr.makeFunc fn first cap).run Tryz.prog w= .ok (.func fn first cap) w:=fun _ _ _ _=>rfl
 go_enter_defers Tryz.func153,Tryz.ntmps153
 go_wp2_with fail
 have hlen:l.length=n:=hn
 by_cases h1:n<1
 ·obtain⟨Hz,Hk⟩:=decV_short l tB
  refine(rnum_bad (A) (c) (n) _ 1 tB tB tB tB _ tI).mono ?_
  rintro e w1 ⟨rfl,rfl⟩
  refine leaves_cons (f:=165) (args:=#[.pointer (some ⟨w.heap.size,0,none⟩),.pointer (some ⟨w.heap.size+1,0,none⟩)]) tE tT ?_
  refine(catch_bad _ _ _ _ _ _ _ _ _ _ _ _ _ _).mono ?_
  rintro e u' w'' ⟨rfl,rfl,rfl⟩
  simp[Leaves,settle,results,Tryz.results153,go_sem,Hz.out,Hk.out,zeroR]
  exact exI
 have hA0:∀ a,A=some a→a.block<w.heap.size+1+1:=fun a h=>Nat.lt_of_lt_of_le (hb.block tB a h) tB
 have hb1:Byt w (cutA A (c) 1) (l.drop 1):=by
  have h:=hb.cut (c:=c) (k:=1) tB tB
  exact h
 have hA1:=cutA_block (c:=c) (k:=1) hA0
 refine(rnum_i (A) (c) (n) _ 1 l tB tB tB tB tB tB _ tI tI (((hb.alloc _).alloc _).alloc _) hA0).mono ?_
 rintro e w1 ⟨rfl,rfl⟩
 go_wp2_with fail
 by_cases h2:n<3
 ·obtain⟨Hz,Hk⟩:=decV_short l tB
  refine(rnum_bad ((cutA A (c) 1)) (c-1) (n-1) _ 2 tB tB tB tB _ tI).mono ?_
  rintro e w1 ⟨rfl,rfl⟩
  refine leaves_cons (f:=165) (args:=#[.pointer (some ⟨w.heap.size,0,none⟩),.pointer (some ⟨w.heap.size+1,0,none⟩)]) tE tT ?_
  refine(catch_bad _ _ _ _ _ _ _ _ _ _ _ _ _ _).mono ?_
  rintro e u' w'' ⟨rfl,rfl,rfl⟩
  simp[Leaves,settle,results,Tryz.results153,go_sem,Hz.out,Hk.out,zeroR]
  exact exI
 have hb2:Byt w (cutA (cutA A (c) 1) (c-1) 2) (l.drop 3):=by
  have h:=hb1.cut (c:=c-1) (k:=2) tU tU
  rwa [List.drop_drop] at h
 have hA2:=cutA_block (c:=c-1) (k:=2) hA1
 refine(rnum_i ((cutA A (c) 1)) (c-1) (n-1) _ 2 (l.drop 1) tU tB tB tB tB tB _ tI tI (((hb1.alloc _).alloc _).alloc _) hA1).mono ?_
 rintro e w1 ⟨rfl,rfl⟩
 go_wp2_with fail
 by_cases h3:n<4
 ·obtain⟨Hz,Hk⟩:=decV_short l tB
  refine(rnum_bad ((cutA (cutA A (c) 1) (c-1) 2)) (c-1-2) (n-1-2) _ 1 tB tB tB tB _ tI).mono ?_
  rintro e w1 ⟨rfl,rfl⟩
  refine leaves_cons (f:=165) (args:=#[.pointer (some ⟨w.heap.size,0,none⟩),.pointer (some ⟨w.heap.size+1,0,none⟩)]) tE tT ?_
  refine(catch_bad _ _ _ _ _ _ _ _ _ _ _ _ _ _).mono ?_
  rintro e u' w'' ⟨rfl,rfl,rfl⟩
  simp[Leaves,settle,results,Tryz.results153,go_sem,Hz.out,Hk.out,zeroR]
  exact exI
 have hb3:Byt w (cutA (cutA (cutA A (c) 1) (c-1) 2) (c-1-2) 1) (l.drop 4):=by
  have h:=hb2.cut (c:=c-1-2) (k:=1) tU tU
  rwa [List.drop_drop] at h
 have hA3:=cutA_block (c:=c-1-2) (k:=1) hA2
 refine(rnum_i ((cutA (cutA A (c) 1) (c-1) 2)) (c-1-2) (n-1-2) _ 1 (l.drop 3) tU tB tB tB tB tB _ tI tI (((hb2.alloc _).alloc _).alloc _) hA2).mono ?_
 rintro e w1 ⟨rfl,rfl⟩
 go_wp2_with fail
 by_cases h4:n<6
 ·obtain⟨Hz,Hk⟩:=decV_short l tB
  refine(rnum_bad ((cutA (cutA (cutA A (c) 1) (c-1) 2) (c-1-2) 1)) (c-1-2-1) (n-1-2-1) _ 2 tB tB tB tB _ tI).mono ?_
  rintro e w1 ⟨rfl,rfl⟩
  refine leaves_cons (f:=165) (args:=#[.pointer (some ⟨w.heap.size,0,none⟩),.pointer (some ⟨w.heap.size+1,0,none⟩)]) tE tT ?_
  refine(catch_bad _ _ _ _ _ _ _ _ _ _ _ _ _ _).mono ?_
  rintro e u' w'' ⟨rfl,rfl,rfl⟩
  simp[Leaves,settle,results,Tryz.results153,go_sem,Hz.out,Hk.out,zeroR]
  exact exI
 have hb4:Byt w (cutA (cutA (cutA (cutA A (c) 1) (c-1) 2) (c-1-2) 1) (c-1-2-1) 2) (l.drop 6):=by
  have h:=hb3.cut (c:=c-1-2-1) (k:=2) tU tU
  rwa [List.drop_drop] at h
 have hA4:=cutA_block (c:=c-1-2-1) (k:=2) hA3
 refine(rnum_i ((cutA (cutA (cutA A (c) 1) (c-1) 2) (c-1-2) 1)) (c-1-2-1) (n-1-2-1) _ 2 (l.drop 4) tU tB tB tB tB tB _ tI tI (((hb3.alloc _).alloc _).alloc _) hA3).mono ?_
 rintro e w1 ⟨rfl,rfl⟩
 go_wp2_with fail
 by_cases h5:n<10
 ·obtain⟨Hz,Hk⟩:=decV_short l tB
  refine(rnum_bad ((cutA (cutA (cutA (cutA A (c) 1) (c-1) 2) (c-1-2) 1) (c-1-2-1) 2)) (c-1-2-1-2) (n-1-2-1-2) _ 4 tB tB tB tB _ tI).mono ?_
  rintro e w1 ⟨rfl,rfl⟩
  refine leaves_cons (f:=165) (args:=#[.pointer (some ⟨w.heap.size,0,none⟩),.pointer (some ⟨w.heap.size+1,0,none⟩)]) tE tT ?_
  refine(catch_bad _ _ _ _ _ _ _ _ _ _ _ _ _ _).mono ?_
  rintro e u' w'' ⟨rfl,rfl,rfl⟩
  simp[Leaves,settle,results,Tryz.results153,go_sem,Hz.out,Hk.out,zeroR]
  exact exI
 have hb5:Byt w (cutA (cutA (cutA (cutA (cutA A (c) 1) (c-1) 2) (c-1-2) 1) (c-1-2-1) 2) (c-1-2-1-2) 4) (l.drop 10):=by
  have h:=hb4.cut (c:=c-1-2-1-2) (k:=4) tU tU
  rwa [List.drop_drop] at h
 have hA5:=cutA_block (c:=c-1-2-1-2) (k:=4) hA4
 refine(rnum_i ((cutA (cutA (cutA (cutA A (c) 1) (c-1) 2) (c-1-2) 1) (c-1-2-1) 2)) (c-1-2-1-2) (n-1-2-1-2) _ 4 (l.drop 6) tU tB tB tB tB tB _ tI tI (((hb4.alloc _).alloc _).alloc _) hA4).mono ?_
 rintro e w1 ⟨rfl,rfl⟩
 go_wp2_with fail
 by_cases h6:n<14
 ·obtain⟨Hz,Hk⟩:=decV_short l tB
  refine(rnum_bad ((cutA (cutA (cutA (cutA (cutA A (c) 1) (c-1) 2) (c-1-2) 1) (c-1-2-1) 2) (c-1-2-1-2) 4)) (c-1-2-1-2-4) (n-1-2-1-2-4) _ 4 tB tB tB tB _ tI).mono ?_
  rintro e w1 ⟨rfl,rfl⟩
  refine leaves_cons (f:=165) (args:=#[.pointer (some ⟨w.heap.size,0,none⟩),.pointer (some ⟨w.heap.size+1,0,none⟩)]) tE tT ?_
  refine(catch_bad _ _ _ _ _ _ _ _ _ _ _ _ _ _).mono ?_
  rintro e u' w'' ⟨rfl,rfl,rfl⟩
  simp[Leaves,settle,results,Tryz.results153,go_sem,Hz.out,Hk.out,zeroR]
  exact exI
 have hb6:Byt w (cutA (cutA (cutA (cutA (cutA (cutA A (c) 1) (c-1) 2) (c-1-2) 1) (c-1-2-1) 2) (c-1-2-1-2) 4) (c-1-2-1-2-4) 4) (l.drop 14):=by
  have h:=hb5.cut (c:=c-1-2-1-2-4) (k:=4) tU tU
  rwa [List.drop_drop] at h
 have hA6:=cutA_block (c:=c-1-2-1-2-4) (k:=4) hA5
 refine(rnum_i ((cutA (cutA (cutA (cutA (cutA A (c) 1) (c-1) 2) (c-1-2) 1) (c-1-2-1) 2) (c-1-2-1-2) 4)) (c-1-2-1-2-4) (n-1-2-1-2-4) _ 4 (l.drop 10) tU tB tB tB tB tB _ tI tI (((hb5.alloc _).alloc _).alloc _) hA5).mono ?_
 rintro e w1 ⟨rfl,rfl⟩
 go_wp2_with fail
 by_cases h7:n<15
 ·obtain⟨Hz,Hk⟩:=decV_short l tB
  refine(rnum_bad ((cutA (cutA (cutA (cutA (cutA (cutA A (c) 1) (c-1) 2) (c-1-2) 1) (c-1-2-1) 2) (c-1-2-1-2) 4) (c-1-2-1-2-4) 4)) (c-1-2-1-2-4-4) (n-1-2-1-2-4-4) _ 1 tB tB tB tB _ tI).mono ?_
  rintro e w1 ⟨rfl,rfl⟩
  refine leaves_cons (f:=165) (args:=#[.pointer (some ⟨w.heap.size,0,none⟩),.pointer (some ⟨w.heap.size+1,0,none⟩)]) tE tT ?_
  refine(catch_bad _ _ _ _ _ _ _ _ _ _ _ _ _ _).mono ?_
  rintro e u' w'' ⟨rfl,rfl,rfl⟩
  simp[Leaves,settle,results,Tryz.results153,go_sem,Hz.out,Hk.out,zeroR]
  exact exI
 have hb7:Byt w (cutA (cutA (cutA (cutA (cutA (cutA (cutA A (c) 1) (c-1) 2) (c-1-2) 1) (c-1-2-1) 2) (c-1-2-1-2) 4) (c-1-2-1-2-4) 4) (c-1-2-1-2-4-4) 1) (l.drop 15):=by
  have h:=hb6.cut (c:=c-1-2-1-2-4-4) (k:=1) tU tU
  rwa [List.drop_drop] at h
 have hA7:=cutA_block (c:=c-1-2-1-2-4-4) (k:=1) hA6
 refine(rnum_i ((cutA (cutA (cutA (cutA (cutA (cutA A (c) 1) (c-1) 2) (c-1-2) 1) (c-1-2-1) 2) (c-1-2-1-2) 4) (c-1-2-1-2-4) 4)) (c-1-2-1-2-4-4) (n-1-2-1-2-4-4) _ 1 (l.drop 14) tU tB tB tB tB tB _ tI tI (((hb6.alloc _).alloc _).alloc _) hA6).mono ?_
 rintro e w1 ⟨rfl,rfl⟩
 go_wp2_with fail
 by_cases h8:n<17
 ·obtain⟨Hz,Hk⟩:=decV_short l tB
  refine(rnum_bad ((cutA (cutA (cutA (cutA (cutA (cutA (cutA A (c) 1) (c-1) 2) (c-1-2) 1) (c-1-2-1) 2) (c-1-2-1-2) 4) (c-1-2-1-2-4) 4) (c-1-2-1-2-4-4) 1)) (c-1-2-1-2-4-4-1) (n-1-2-1-2-4-4-1) _ 2 tB tB tB tB _ tI).mono ?_
  rintro e w1 ⟨rfl,rfl⟩
  refine leaves_cons (f:=165) (args:=#[.pointer (some ⟨w.heap.size,0,none⟩),.pointer (some ⟨w.heap.size+1,0,none⟩)]) tE tT ?_
  refine(catch_bad _ _ _ _ _ _ _ _ _ _ _ _ _ _).mono ?_
  rintro e u' w'' ⟨rfl,rfl,rfl⟩
  simp[Leaves,settle,results,Tryz.results153,go_sem,Hz.out,Hk.out,zeroR]
  exact exI
 have hb8:Byt w (cutA (cutA (cutA (cutA (cutA (cutA (cutA (cutA A (c) 1) (c-1) 2) (c-1-2) 1) (c-1-2-1) 2) (c-1-2-1-2) 4) (c-1-2-1-2-4) 4) (c-1-2-1-2-4-4) 1) (c-1-2-1-2-4-4-1) 2) (l.drop 17):=by
  have h:=hb7.cut (c:=c-1-2-1-2-4-4-1) (k:=2) tU tU
  rwa [List.drop_drop] at h
 have hA8:=cutA_block (c:=c-1-2-1-2-4-4-1) (k:=2) hA7
 refine(rnum_i ((cutA (cutA (cutA (cutA (cutA (cutA (cutA A (c) 1) (c-1) 2) (c-1-2) 1) (c-1-2-1) 2) (c-1-2-1-2) 4) (c-1-2-1-2-4) 4) (c-1-2-1-2-4-4) 1)) (c-1-2-1-2-4-4-1) (n-1-2-1-2-4-4-1) _ 2 (l.drop 15) tU tB tB tB tB tB _ tI tI (((hb7.alloc _).alloc _).alloc _) hA7).mono ?_
 rintro e w1 ⟨rfl,rfl⟩
 go_wp2_with fail
 by_cases h9:n<18
 ·obtain⟨Hz,Hk⟩:=decV_short l tB
  refine(rnum_bad ((cutA (cutA (cutA (cutA (cutA (cutA (cutA (cutA A (c) 1) (c-1) 2) (c-1-2) 1) (c-1-2-1) 2) (c-1-2-1-2) 4) (c-1-2-1-2-4) 4) (c-1-2-1-2-4-4) 1) (c-1-2-1-2-4-4-1) 2)) (c-1-2-1-2-4-4-1-2) (n-1-2-1-2-4-4-1-2) _ 1 tB tB tB tB _ tI).mono ?_
  rintro e w1 ⟨rfl,rfl⟩
  refine leaves_cons (f:=165) (args:=#[.pointer (some ⟨w.heap.size,0,none⟩),.pointer (some ⟨w.heap.size+1,0,none⟩)]) tE tT ?_
  refine(catch_bad _ _ _ _ _ _ _ _ _ _ _ _ _ _).mono ?_
  rintro e u' w'' ⟨rfl,rfl,rfl⟩
  simp[Leaves,settle,results,Tryz.results153,go_sem,Hz.out,Hk.out,zeroR]
  exact exI
 have hb9:Byt w (cutA (cutA (cutA (cutA (cutA (cutA (cutA (cutA (cutA A (c) 1) (c-1) 2) (c-1-2) 1) (c-1-2-1) 2) (c-1-2-1-2) 4) (c-1-2-1-2-4) 4) (c-1-2-1-2-4-4) 1) (c-1-2-1-2-4-4-1) 2) (c-1-2-1-2-4-4-1-2) 1) (l.drop 18):=by
  have h:=hb8.cut (c:=c-1-2-1-2-4-4-1-2) (k:=1) tU tU
  rwa [List.drop_drop] at h
 have hA9:=cutA_block (c:=c-1-2-1-2-4-4-1-2) (k:=1) hA8
 refine(rnum_i ((cutA (cutA (cutA (cutA (cutA (cutA (cutA (cutA A (c) 1) (c-1) 2) (c-1-2) 1) (c-1-2-1) 2) (c-1-2-1-2) 4) (c-1-2-1-2-4) 4) (c-1-2-1-2-4-4) 1) (c-1-2-1-2-4-4-1) 2)) (c-1-2-1-2-4-4-1-2) (n-1-2-1-2-4-4-1-2) _ 1 (l.drop 17) tU tB tB tB tB tB _ tI tI (((hb8.alloc _).alloc _).alloc _) hA8).mono ?_
 rintro e w1 ⟨rfl,rfl⟩
 go_wp2_with fail
 by_cases h10:n<22
 ·obtain⟨Hz,Hk⟩:=decV_short l tB
  refine(rnum_bad ((cutA (cutA (cutA (cutA (cutA (cutA (cutA (cutA (cutA A (c) 1) (c-1) 2) (c-1-2) 1) (c-1-2-1) 2) (c-1-2-1-2) 4) (c-1-2-1-2-4) 4) (c-1-2-1-2-4-4) 1) (c-1-2-1-2-4-4-1) 2) (c-1-2-1-2-4-4-1-2) 1)) (c-1-2-1-2-4-4-1-2-1) (n-1-2-1-2-4-4-1-2-1) _ 4 tB tB tB tB _ tI).mono ?_
  rintro e w1 ⟨rfl,rfl⟩
  refine leaves_cons (f:=165) (args:=#[.pointer (some ⟨w.heap.size,0,none⟩),.pointer (some ⟨w.heap.size+1,0,none⟩)]) tE tT ?_
  refine(catch_bad _ _ _ _ _ _ _ _ _ _ _ _ _ _).mono ?_
  rintro e u' w'' ⟨rfl,rfl,rfl⟩
  simp[Leaves,settle,results,Tryz.results153,go_sem,Hz.out,Hk.out,zeroR]
  exact exI
 have hb10:Byt w (cutA (cutA (cutA (cutA (cutA (cutA (cutA (cutA (cutA (cutA A (c) 1) (c-1) 2) (c-1-2) 1) (c-1-2-1) 2) (c-1-2-1-2) 4) (c-1-2-1-2-4) 4) (c-1-2-1-2-4-4) 1) (c-1-2-1-2-4-4-1) 2) (c-1-2-1-2-4-4-1-2) 1) (c-1-2-1-2-4-4-1-2-1) 4) (l.drop 22):=by
  have h:=hb9.cut (c:=c-1-2-1-2-4-4-1-2-1) (k:=4) tU tU
  rwa [List.drop_drop] at h
 have hA10:=cutA_block (c:=c-1-2-1-2-4-4-1-2-1) (k:=4) hA9
 refine(rnum_i ((cutA (cutA (cutA (cutA (cutA (cutA (cutA (cutA (cutA A (c) 1) (c-1) 2) (c-1-2) 1) (c-1-2-1) 2) (c-1-2-1-2) 4) (c-1-2-1-2-4) 4) (c-1-2-1-2-4-4) 1) (c-1-2-1-2-4-4-1) 2) (c-1-2-1-2-4-4-1-2) 1)) (c-1-2-1-2-4-4-1-2-1) (n-1-2-1-2-4-4-1-2-1) _ 4 (l.drop 18) tU tB tB tB tB tB _ tI tI (((hb9.alloc _).alloc _).alloc _) hA9).mono ?_
 rintro e w1 ⟨rfl,rfl⟩
 go_wp2_with fail
 by_cases h11:n<23
 ·obtain⟨Hz,Hk⟩:=decV_short l tB
  refine(rnum_bad ((cutA (cutA (cutA (cutA (cutA (cutA (cutA (cutA (cutA (cutA A (c) 1) (c-1) 2) (c-1-2) 1) (c-1-2-1) 2) (c-1-2-1-2) 4) (c-1-2-1-2-4) 4) (c-1-2-1-2-4-4) 1) (c-1-2-1-2-4-4-1) 2) (c-1-2-1-2-4-4-1-2) 1) (c-1-2-1-2-4-4-1-2-1) 4)) (c-1-2-1-2-4-4-1-2-1-4) (n-1-2-1-2-4-4-1-2-1-4) _ 1 tB tB tB tB _ tI).mono ?_
  rintro e w1 ⟨rfl,rfl⟩
  refine leaves_cons (f:=165) (args:=#[.pointer (some ⟨w.heap.size,0,none⟩),.pointer (some ⟨w.heap.size+1,0,none⟩)]) tE tT ?_
  refine(catch_bad _ _ _ _ _ _ _ _ _ _ _ _ _ _).mono ?_
  rintro e u' w'' ⟨rfl,rfl,rfl⟩
  simp[Leaves,settle,results,Tryz.results153,go_sem,Hz.out,Hk.out,zeroR]
  exact exI
 have hb11:Byt w (cutA (cutA (cutA (cutA (cutA (cutA (cutA (cutA (cutA (cutA (cutA A (c) 1) (c-1) 2) (c-1-2) 1) (c-1-2-1) 2) (c-1-2-1-2) 4) (c-1-2-1-2-4) 4) (c-1-2-1-2-4-4) 1) (c-1-2-1-2-4-4-1) 2) (c-1-2-1-2-4-4-1-2) 1) (c-1-2-1-2-4-4-1-2-1) 4) (c-1-2-1-2-4-4-1-2-1-4) 1) (l.drop 23):=by
  have h:=hb10.cut (c:=c-1-2-1-2-4-4-1-2-1-4) (k:=1) tU tU
  rwa [List.drop_drop] at h
 have hA11:=cutA_block (c:=c-1-2-1-2-4-4-1-2-1-4) (k:=1) hA10
 refine(rnum_i ((cutA (cutA (cutA (cutA (cutA (cutA (cutA (cutA (cutA (cutA A (c) 1) (c-1) 2) (c-1-2) 1) (c-1-2-1) 2) (c-1-2-1-2) 4) (c-1-2-1-2-4) 4) (c-1-2-1-2-4-4) 1) (c-1-2-1-2-4-4-1) 2) (c-1-2-1-2-4-4-1-2) 1) (c-1-2-1-2-4-4-1-2-1) 4)) (c-1-2-1-2-4-4-1-2-1-4) (n-1-2-1-2-4-4-1-2-1-4) _ 1 (l.drop 22) tU tB tB tB tB tB _ tI tI (((hb10.alloc _).alloc _).alloc _) hA10).mono ?_
 rintro e w1 ⟨rfl,rfl⟩
 go_wp2_with fail
 have hr:(⟨valB (l.take 1),valB (l.tail.take 2),valB ((l.drop 3).take 1),valB ((l.drop 4).take 2),valB ((l.drop 6).take 4),valB ((l.drop 10).take 4),valB ((l.drop 14).take 1),valB ((l.drop 15).take 2),valB ((l.drop 17).take 1),valB ((l.drop 18).take 4),⟨(l.drop 23).toArray⟩⟩:Rec)=decR l:=by simp[decR]
 have Hr:=hid hr
 clear hr
 obtain⟨k,hk⟩:=Int.eq_ofNat_of_zero_le (valB_bound (List.take 1 (List.drop 22 l))).1
 have hk2:=(valB_bound (List.take 1 (List.drop 22 l))).2
 have hk3:k<256:=by
  have h1:(List.take 1 (List.drop 22 l)).length=1:=by rw[List.length_take,List.length_drop];omega
  rw[h1,hk] at hk2
  omega
 clear hk2
 rw[hk]
 have Hk0:=hid hk
 clear hk
 have hlen23:(l.drop 23).length=n-23:=by rw[List.length_drop];omega
 by_cases hB:n-23<k
 ·obtain⟨Hz,Hk⟩:=decV_long l (k:=k) Hk0 tB
  refine(take_bad ((cutA (cutA (cutA (cutA (cutA (cutA (cutA (cutA (cutA (cutA (cutA A (c) 1) (c-1) 2) (c-1-2) 1) (c-1-2-1) 2) (c-1-2-1-2) 4) (c-1-2-1-2-4) 4) (c-1-2-1-2-4-4) 1) (c-1-2-1-2-4-4-1) 2) (c-1-2-1-2-4-4-1-2) 1) (c-1-2-1-2-4-4-1-2-1) 4) (c-1-2-1-2-4-4-1-2-1-4) 1)) (c-1-2-1-2-4-4-1-2-1-4-1) (n-1-2-1-2-4-4-1-2-1-4-1) k _ tB tB tB tB _ tI).mono ?_
  rintro e w1 ⟨rfl,rfl⟩
  refine leaves_cons (f:=165) (args:=#[.pointer (some ⟨w.heap.size,0,none⟩),.pointer (some ⟨w.heap.size+1,0,none⟩)]) tE tT ?_
  refine(catch_bad _ _ _ _ _ _ _ _ _ _ _ _ _ _).mono ?_
  rintro e u' w'' ⟨rfl,rfl,rfl⟩
  simp[Leaves,settle,results,Tryz.results153,go_sem,Hz.out,Hk.out,zeroR]
  exact exI
 ·have hbt:Byt w ((cutA (cutA (cutA (cutA (cutA (cutA (cutA (cutA (cutA (cutA (cutA A (c) 1) (c-1) 2) (c-1-2) 1) (c-1-2-1) 2) (c-1-2-1-2) 4) (c-1-2-1-2-4) 4) (c-1-2-1-2-4-4) 1) (c-1-2-1-2-4-4-1) 2) (c-1-2-1-2-4-4-1-2) 1) (c-1-2-1-2-4-4-1-2-1) 4) (c-1-2-1-2-4-4-1-2-1-4) 1)) ((l.drop 23).take k):=hb11.take k tB
  have hcv:∀ o1 o2 o3,(convert 22 9 (.slice ((cutA (cutA (cutA (cutA (cutA (cutA (cutA (cutA (cutA (cutA (cutA A (c) 1) (c-1) 2) (c-1-2) 1) (c-1-2-1) 2) (c-1-2-1-2) 4) (c-1-2-1-2-4) 4) (c-1-2-1-2-4-4) 1) (c-1-2-1-2-4-4-1) 2) (c-1-2-1-2-4-4-1-2) 1) (c-1-2-1-2-4-4-1-2-1) 4) (c-1-2-1-2-4-4-1-2-1-4) 1)) k (c-1-2-1-2-4-4-1-2-1-4-1))).run Tryz.prog (((w.alloc o1).alloc o2).alloc o3)= .ok (.string ⟨((l.drop 23).take k).toArray⟩) (((w.alloc o1).alloc o2).alloc o3):=by
   intro o1 o2 o3
   have h:=run_of_bytes (((hbt.alloc o1).alloc o2).alloc o3) (c-1-2-1-2-4-4-1-2-1-4-1)
   rwa [show((l.drop 23).take k).length=k from by rw[List.length_take];omega] at h
  refine(take_any ((cutA (cutA (cutA (cutA (cutA (cutA (cutA (cutA (cutA (cutA (cutA A (c) 1) (c-1) 2) (c-1-2) 1) (c-1-2-1) 2) (c-1-2-1-2) 4) (c-1-2-1-2-4) 4) (c-1-2-1-2-4-4) 1) (c-1-2-1-2-4-4-1) 2) (c-1-2-1-2-4-4-1-2) 1) (c-1-2-1-2-4-4-1-2-1) 4) (c-1-2-1-2-4-4-1-2-1-4) 1)) (c-1-2-1-2-4-4-1-2-1-4-1) (n-1-2-1-2-4-4-1-2-1-4-1) k _ tB tB tB _ tI tI).mono ?_
  rintro e w1 ⟨rfl,rfl⟩
  by_cases hC:0<n-23-k
  ·obtain⟨Hz,Hk⟩:=decV_long l (k:=k) Hk0 tB
   have hC':(0:Int)<((n-1-2-1-2-4-4-1-2-1-4-1-k:Nat):Int):=by omega
   have hC2:0<n-1-2-1-2-4-4-1-2-1-4-1-k:=by omega
   go_wp2_with fail
   refine leaves_cons (f:=165) (args:=#[.pointer (some ⟨w.heap.size,0,none⟩),.pointer (some ⟨w.heap.size+1,0,none⟩)]) tE tT ?_
   refine(catch_bad _ _ _ _ _ _ _ _ _ _ _ _ _ _).mono ?_
   rintro e u' w'' ⟨rfl,rfl,rfl⟩
   simp[Leaves,settle,results,Tryz.results153,go_sem,Hz.out,Hk.out,zeroR]
   exact exI
  ·have hC0:n-1-2-1-2-4-4-1-2-1-4-1-k=0:=by omega
   have htk:(l.drop 23).take k=l.drop 23:=List.take_of_length_le tB
   rw[htk] at hcv
   rw[hC0]
   go_wp2_with fail
   have hsz:(⟨(l.drop 23).toArray⟩:ByteArray).size≤9223372036854775807:=by
    show(l.drop 23).toArray.size≤_
    rw[List.size_toArray];omega
   have hlk:lenOk l=true:=by
    simp only[lenOk,Bool.and_eq_true,decide_eq_true_eq]
    rw[Hk0.out]
    constructor <;> omega
   refine(isRecord_any ⟨valB (l.take 1),valB (l.tail.take 2),valB ((l.drop 3).take 1),valB ((l.drop 4).take 2),valB ((l.drop 6).take 4),valB ((l.drop 10).take 4),valB ((l.drop 14).take 1),valB ((l.drop 15).take 2),valB ((l.drop 17).take 1),valB ((l.drop 18).take 4),⟨(l.drop 23).toArray⟩⟩ _ hsz).mono ?_
   rintro e w1 ⟨rfl,E,d,rfl⟩
   rw[Hr.out]
   cases hok:recOk (decR l) with
   | true=>
    have Hk:Hid (decOk l=true):=hid (by rw[decOk,hlk,hok];rfl)
    have Hv:Hid (decV l=decR l):=hid (by rw[decV,Hk.out];rfl)
    clear hlk hok
    go_wp2_with fail
    refine leaves_cons (f:=165) (args:=#[.pointer (some ⟨w.heap.size,0,none⟩),.pointer (some ⟨w.heap.size+1,0,none⟩)]) tE tT ?_
    refine(catch_idle _ _ _).mono ?_
    rintro e u' w'' ⟨rfl,rfl,rfl⟩
    simp[Leaves,settle,results,Tryz.results153,go_sem,Hv.out,Hk.out,←Hr.out]
    exact exI
   | false=>
    have hno:decOk l=false:=by rw[decOk,hlk,hok];rfl
    have Hk:=hid hno
    have Hz:=hid (decV_no hno)
    clear hlk hok hno
    go_wp2_with fail
    refine leaves_cons (f:=165) (args:=#[.pointer (some ⟨w.heap.size,0,none⟩),.pointer (some ⟨w.heap.size+1,0,none⟩)]) tE tT ?_
    refine(catch_bad2 _ _ _ _ _ _ _ _ _ _ _ _ _ _ _ _).mono ?_
    rintro e u' w'' ⟨rfl,rfl,rfl⟩
    simp[Leaves,settle,results,Tryz.results153,go_sem,Hz.out,Hk.out,zeroR]
    exact exI
end Go.Proofs.YtekjdeibnfaehaaGreat
set_option linter.unusedSimpArgs false
set_option linter.unusedVariables false
namespace Go.Proofs.YtekjdeibnfaehaaGreat
open Go.RowKit
theorem heap_of_ext{w W:World}{o:Obj}(h:Ext (w.alloc o).drew W):W.heap[w.heap.size]? =some o:=by
 obtain⟨E,d,rfl⟩:=h
 rw[heap_ext _ _ _ _ tE]
 simp only[World.drew,World.alloc]
 exact Array.getElem?_push_size
theorem size_u8(w:World):(sizeOf 5).run Tryz.prog w= .ok 1 w:=by kernel_rfl
def errDec(l:List UInt8):Int:=if decOk l=true then 0 else 70
theorem run_slice_from{A:Option Addr}{n c k:Nat}(hk:k≤n)(hn:n≤c)(w:World):(Instr.slice 22 (.slice A n c) (some (.int .i64 k)) none none).run Tryz.prog w= .ok (.slice (cutA A c k) (n-k) (c-k)) w:=by
 have hi:=size_u8
 by_cases hc:c=k <;> simp[Instr.slice,run_underlying Tryz.underlying22,Instr.sliceBounds,run_sliceBound,hk,hn,hi,cutA,hc]
theorem lenOk_of{l:List UInt8}(h:23≤l.length):valB ((l.drop 22).take 1)=(l[22]'tB).toNat:=by
 rw[List.drop_eq_getElem_cons (i:=22) tB,List.take_succ_cons,List.take_zero]
 simp[valB]
set_option maxRecDepth 100000 in
set_option maxHeartbeats 2000000 in
theorem rDecode_any(A:Option Addr)(c n:Nat)(l:List UInt8)(hn:l.length=n)(hnc:n≤c)(hbig:c≤9223372036854775807)(w:World)(hb:Byt w A l):
 Calls Tryz.prog 126 #[.slice A n c] w fun e w'=>e= .returned (.tuple #[recV (decV l),.int .i64 (errDec l)])∧Ext w w':=by
 by_cases h23:n<23
 ·have hno:=decOk_short (l:=l) tB
  have hz:=decV_no hno
  have he:errDec l=70:=by rw[errDec,hno];rfl
  rw[he,hz]
  clear hno hz he
  go_enter Tryz.func126,Tryz.ntmps126
  go_wp2_with fail
  refine bodyPost_ret (v:=.tuple #[recV zeroR,.int .i64 70]) (by simp[results,Tryz.results126,go_sem,zeroR]) rfl ?_
  exact⟨rfl,tR⟩
 ·obtain⟨g,o,rfl,hg,h22⟩:=hb.at_ (i:=22) tB
  have hlt:=(l[22]'tB).toNat_lt
  have hk:=lenOk_of (l:=l) tB
  obtain⟨k,hk0⟩:∃ k,(l[22]'tB).toNat=k:=⟨_,rfl⟩
  rw[hk0] at h22 hlt hk
  clear hk0
  by_cases hln:n=23+k
  ·have hlk:lenOk l=true:=by simp only[lenOk,Bool.and_eq_true,decide_eq_true_eq];omega
   have hln':((n:Int) != (23:Int)+(k:Int))=false:=by rw[bne_eq_false_iff_eq];omega
   have hbt:Byt w (cutA (some ⟨g,o,none⟩) c 23) (l.drop 23):=hb.cut tB tB
   have hcv:∀ o1 E d,(convert 22 9 (.slice (cutA (some ⟨g,o,none⟩) c 23) (n-23) (c-23))).run Tryz.prog ((w.alloc o1).drew.ext E d)= .ok (.string ⟨(l.drop 23).toArray⟩) ((w.alloc o1).drew.ext E d):=by
    intro o1 E d
    have h:=run_of_bytes (((hbt.alloc o1).drew).ext E d) (c-23)
    rwa [show(l.drop 23).length=n-23 from by rw[List.length_drop];omega] at h
   have hsl:∀ W:World,(Instr.slice 22 (.slice (some ⟨g,o,none⟩) n c) (some (.int .i64 23)) none none).run Tryz.prog W= .ok (.slice (cutA (some ⟨g,o,none⟩) c 23) (n-23) (c-23)) W:=fun W=>run_slice_from (k:=23) tB tB W
   have hr:(⟨valB (l.take 1),valB (l.tail.take 2),valB ((l.drop 3).take 1),valB ((l.drop 4).take 2),valB ((l.drop 6).take 4),valB ((l.drop 10).take 4),valB ((l.drop 14).take 1),valB ((l.drop 15).take 2),valB ((l.drop 17).take 1),valB ((l.drop 18).take 4),⟨(l.drop 23).toArray⟩⟩:Rec)=decR l:=by simp[decR]
   have Hr:=hid hr
   clear hr
   have Hln:=hid hln
   have Hk:=hid hk
   clear hln hk
   go_enter Tryz.func126,Tryz.ntmps126
   go_wp2_with fail
   refine wp_region_pend ⟨[],26,[(true,0),(true,2),(true,5),(true,7),(true,9),(true,11),(true,13),(true,15),(true,18),(true,20),(true,22),(true,23),(true,24),(false,1),(false,3),(true,4),(false,6),(false,8),(false,10),(false,12),(false,14),(false,16),(true,17),(false,19),(false,21),(true,25)],(.a 27 .d)⟩ (TNew (w.heap.size+1) (.cells zeros11 46)) tG tG rfl rfl (by exact fun _ _ _ h hx=>h.later hx) ?_
   refine wpPend_nil (fun W98 hS98 hx98=>⟨?_,?_⟩)
   ·rintro w1 ⟨E8,d8,rfl⟩
    exact new_runs rfl Tryz.zeroValue46 _ _ _ tE
   repeat(first|(refine wpPend_free (v:=?_) rfl rfl (fun _ hS=> ?_) ?_;rotate_left;(focus(obtain⟨E9,d9,rfl⟩:=hS;go_simp;try with_reducible rfl));simp only[Act.put,zp]))
   refine wpPend_call rfl rfl rfl Tryz.call125 (fun W100 hS100 hx100 R hR=> ?_)
   go_simp
   refine(get_i _ _ _ _ _ _ tF tB tB tB tB tB _ tV).mono ?_
   rintro e w1 ⟨rfl,rfl⟩
   refine hR _ _ ⟨_,rfl,⟨tR,tR⟩,?_⟩
   clear hR R
   simp only[Act.put,zp]
   refine wpPend_call rfl rfl rfl Tryz.call125 (fun W101 hS101 hx101 R hR=> ?_)
   go_simp
   refine(get_i _ _ _ _ _ _ tF tB tB tB tB tB _ tV).mono ?_
   rintro e w1 ⟨rfl,rfl⟩
   refine hR _ _ ⟨_,rfl,⟨tR,tR⟩,?_⟩
   clear hR R
   simp only[Act.put,zp]
   repeat(first|(refine wpPend_free (v:=?_) rfl rfl (fun _ hS=> ?_) ?_;rotate_left;(focus(obtain⟨E9,d9,rfl⟩:=hS;go_simp;try with_reducible rfl));simp only[Act.put,zp]))
   refine wpPend_call rfl rfl rfl Tryz.call125 (fun W102 hS102 hx102 R hR=> ?_)
   go_simp
   refine(get_i _ _ _ _ _ _ tF tB tB tB tB tB _ tV).mono ?_
   rintro e w1 ⟨rfl,rfl⟩
   refine hR _ _ ⟨_,rfl,⟨tR,tR⟩,?_⟩
   clear hR R
   simp only[Act.put,zp]
   refine wpPend_call rfl rfl rfl Tryz.call125 (fun W103 hS103 hx103 R hR=> ?_)
   go_simp
   refine(get_i _ _ _ _ _ _ tF tB tB tB tB tB _ tV).mono ?_
   rintro e w1 ⟨rfl,rfl⟩
   refine hR _ _ ⟨_,rfl,⟨tR,tR⟩,?_⟩
   clear hR R
   simp only[Act.put,zp]
   refine wpPend_call rfl rfl rfl Tryz.call125 (fun W104 hS104 hx104 R hR=> ?_)
   go_simp
   refine(get_i _ _ _ _ _ _ tF tB tB tB tB tB _ tV).mono ?_
   rintro e w1 ⟨rfl,rfl⟩
   refine hR _ _ ⟨_,rfl,⟨tR,tR⟩,?_⟩
   clear hR R
   simp only[Act.put,zp]
   refine wpPend_call rfl rfl rfl Tryz.call125 (fun W105 hS105 hx105 R hR=> ?_)
   go_simp
   refine(get_i _ _ _ _ _ _ tF tB tB tB tB tB _ tV).mono ?_
   rintro e w1 ⟨rfl,rfl⟩
   refine hR _ _ ⟨_,rfl,⟨tR,tR⟩,?_⟩
   clear hR R
   simp only[Act.put,zp]
   refine wpPend_call rfl rfl rfl Tryz.call125 (fun W106 hS106 hx106 R hR=> ?_)
   go_simp
   refine(get_i _ _ _ _ _ _ tF tB tB tB tB tB _ tV).mono ?_
   rintro e w1 ⟨rfl,rfl⟩
   refine hR _ _ ⟨_,rfl,⟨tR,tR⟩,?_⟩
   clear hR R
   simp only[Act.put,zp]
   refine wpPend_call rfl rfl rfl Tryz.call125 (fun W107 hS107 hx107 R hR=> ?_)
   go_simp
   refine(get_i _ _ _ _ _ _ tF tB tB tB tB tB _ tV).mono ?_
   rintro e w1 ⟨rfl,rfl⟩
   refine hR _ _ ⟨_,rfl,⟨tR,tR⟩,?_⟩
   clear hR R
   simp only[Act.put,zp]
   repeat(first|(refine wpPend_free (v:=?_) rfl rfl (fun _ hS=> ?_) ?_;rotate_left;(focus(obtain⟨E9,d9,rfl⟩:=hS;go_simp;try with_reducible rfl));simp only[Act.put,zp]))
   refine wpPend_call rfl rfl rfl Tryz.call125 (fun W108 hS108 hx108 R hR=> ?_)
   go_simp
   refine(get_i _ _ _ _ _ _ tF tB tB tB tB tB _ tV).mono ?_
   rintro e w1 ⟨rfl,rfl⟩
   refine hR _ _ ⟨_,rfl,⟨tR,tR⟩,?_⟩
   clear hR R
   simp only[Act.put,zp]
   refine wpPend_call rfl rfl rfl Tryz.call125 (fun W109 hS109 hx109 R hR=> ?_)
   go_simp
   refine(get_i _ _ _ _ _ _ tF tB tB tB tB tB _ tV).mono ?_
   rintro e w1 ⟨rfl,rfl⟩
   refine hR _ _ ⟨_,rfl,⟨tR,tR⟩,?_⟩
   clear hR R
   simp only[Act.put,zp]
   repeat(first|(refine wpPend_free (v:=?_) rfl rfl (fun _ hS=> ?_) ?_;rotate_left;(focus(obtain⟨E9,d9,rfl⟩:=hS;go_simp;try with_reducible rfl));simp only[Act.put,zp]))
   refine wpPend_nil (fun W99 hS99 hx99=> ?_)
   rintro v9 ⟨g9,rfl,hg9,hh9⟩
   obtain⟨hz0,hz1,hz2,hz3,hz4,hz5,hz6,hz7,hz8,hz9,hz10,hzf⟩:=new_cells hh9
   have hl9:=(cells_of_heap hh9).2.2
   have hh0:=heap_of_ext hS99
   have hl0:=(cells_of_heap hh0).2.2
   obtain⟨hy0,hy1,hy2,hy3,hy4,hy5,hy6,hy7,hy8,hy9,hy10,hyf⟩:=new_cells hh0
   have hne:¬w.heap.size=g9:=by omega
   have hne':¬g9=w.heap.size:=by omega
   simp only[Act.put,zp]
   refine oB ?_
   refine wpOrd_nil ?_
   go_wp2_with fail
   have hsz:(⟨(l.drop 23).toArray⟩:ByteArray).size≤9223372036854775807:=by
    show(l.drop 23).toArray.size≤_
    rw[List.size_toArray,List.length_drop];omega
   refine(rCheckRecord_any ⟨valB (l.take 1),valB (l.tail.take 2),valB ((l.drop 3).take 1),valB ((l.drop 4).take 2),valB ((l.drop 6).take 4),valB ((l.drop 10).take 4),valB ((l.drop 14).take 1),valB ((l.drop 15).take 2),valB ((l.drop 17).take 1),valB ((l.drop 18).take 4),⟨(l.drop 23).toArray⟩⟩ _ hsz).mono ?_
   rintro e w1 ⟨rfl,E,d,rfl⟩
   rw[Hr.out]
   cases hok:recOk (decR l) with
   | true=>
    have hdo:decOk l=true:=by rw[decOk,hlk,hok];rfl
    have he:errRec (decR l)=0:=by rw[errRec,hok];rfl
    have Hd:=hid hdo
    clear hdo hok
    simp only[he]
    clear he
    go_wp2_with fail
    refine bodyPost_ret (v:=.tuple #[recV (decR l),.int .i64 0]) (by simp[results,Tryz.results126,go_sem,←Hr.out,hl0,hl9,hne,hne',hy0,hy1,hy2,hy3,hy4,hy5,hy6,hy7,hy8,hy9,hy10,hyf]) rfl ?_
    rw[show decV l=decR l from by rw[decV,Hd.out];rfl,show errDec l=0 from by rw[errDec,Hd.out];rfl]
    exact⟨rfl,tW⟩
   | false=>
    have hno:decOk l=false:=by rw[decOk,hlk,hok];rfl
    have hz:=decV_no hno
    have he:errDec l=70:=by rw[errDec,hno];rfl
    have HE:=hid he
    have HZ:=hid hz
    have he2:errRec (decR l)=70:=by rw[errRec,hok];rfl
    clear hno hz he hok
    simp only[he2]
    clear he2
    go_wp2_with fail
    refine bodyPost_ret (v:=.tuple #[recV zeroR,.int .i64 70]) (by simp[results,Tryz.results126,go_sem,zeroR,hl0,hl9,hne,hne',hy0,hy1,hy2,hy3,hy4,hy5,hy6,hy7,hy8,hy9,hy10,hyf]) rfl ?_
    rw[HE.out,HZ.out]
    exact⟨rfl,tW⟩
  ·have hlk:lenOk l=false:=by simp only[lenOk,Bool.and_eq_false_iff,decide_eq_false_iff_not];right;omega
   have hno:decOk l=false:=by rw[decOk,hlk];rfl
   have hz:=decV_no hno
   have he:errDec l=70:=by rw[errDec,hno];rfl
   rw[he,hz]
   have hln':((n:Int) != (23:Int)+(k:Int))=true:=by rw[bne_iff_ne];omega
   clear hno hz he hlk hln hk
   go_enter Tryz.func126,Tryz.ntmps126
   go_wp2_with fail
   refine bodyPost_ret (v:=.tuple #[recV zeroR,.int .i64 70]) (by simp[results,Tryz.results126,go_sem,zeroR]) rfl ?_
   exact⟨rfl,tR⟩
end Go.Proofs.YtekjdeibnfaehaaGreat
set_option linter.unusedSimpArgs false
set_option linter.unusedVariables false
namespace Go.Proofs.YtekjdeibnfaehaaGreat
open Go.RowKit
@[go_sem] theorem lt_add_2(a b c d:Nat)(h:a<b):a<b+c+d:=by omega
@[go_sem] theorem lt_add_3(a b c d e:Nat)(h:a<b):a<b+c+d+e:=by omega
@[go_sem] theorem lt_add_4(a b c d e f:Nat)(h:a<b):a<b+c+d+e+f:=by omega
@[go_sem] theorem lt_add_5(a b c d e f g:Nat)(h:a<b):a<b+c+d+e+f+g:=by omega
def RecAt(w:World)(g o:Nat)(r:Rec):Prop:=
 w.cell? ⟨g,o,none⟩=some (.int .i64 r.ao)∧w.cell? ⟨g,o+1,none⟩=some (.int .i64 r.sq)∧w.cell? ⟨g,o+2,none⟩=some (.int .i64 r.kind)∧w.cell? ⟨g,o+3,none⟩=some (.int .i64 r.ship)∧
 w.cell? ⟨g,o+4,none⟩=some (.int .i64 r.day)∧w.cell? ⟨g,o+5,none⟩=some (.int .i64 r.known)∧w.cell? ⟨g,o+6,none⟩=some (.int .i64 r.wo)∧w.cell? ⟨g,o+7,none⟩=some (.int .i64 r.ws)∧
 w.cell? ⟨g,o+8,none⟩=some (.int .i64 r.to)∧w.cell? ⟨g,o+9,none⟩=some (.int .i64 r.til)∧w.cell? ⟨g,o+10,none⟩=some (.string r.text)
theorem Recs.row{w:World}{g o:Nat}{l:List Rec}(h:Recs w (some ⟨g,o,none⟩) l){i:Nat}(hi:i<l.length):RecAt w g (o+i * 11) l[i]:=by
 obtain⟨g',o',hA,hg,hc⟩:=h.at_ hi
 cases hA
 exact⟨hc 0 _ rfl,hc 1 _ rfl,hc 2 _ rfl,hc 3 _ rfl,hc 4 _ rfl,hc 5 _ rfl,hc 6 _ rfl,hc 7 _ rfl,hc 8 _ rfl,hc 9 _ rfl,hc 10 _ rfl⟩
theorem Recs.addr{w:World}{A:Option Addr}{l:List Rec}(h:Recs w A l)(h0:0<l.length):∃ g o,A=some ⟨g,o,none⟩∧g<w.heap.size:=by
 obtain⟨g,o,hA,hg,_⟩:=h.at_ h0
 exact⟨g,o,hA,hg⟩
theorem Recs.of_ext{w w':World}{A:Option Addr}{l:List Rec}(h:Recs w A l)(hx:Ext w w'):Recs w' A l:=Sl.of_ext h hx
theorem recI{w w':World}{A:Option Addr}{l:List Rec}(h:Recs w A l)[hx:Nonempty (Ext w w')]:Recs w' A l:=h.of_ext (hx.elim id)
theorem Recs.nil(w:World)(A:Option Addr):Recs w A []:=⟨rfl,fun h=>absurd h tE⟩
abbrev regV(A:Option Addr)(n c:Nat):Value:=.agg #[.slice A n c]
def TxtBig(l:List Rec):Prop:=∀ r∈l,r.text.size≤9223372036854775807
theorem aheadI(a b c d:Int):decide (cmpP a b c d<0)=ltP a b c d:=by
 rw[Bool.eq_iff_iff,decide_eq_true_eq,cmpP_neg]
set_option maxRecDepth 100000 in
set_option maxHeartbeats 4000000 in
theorem Check_any(A:Option Addr)(c n:Nat)(l:List Rec)(hn:l.length=n)(hbig:n≤9223372036854775807)(ht:TxtBig l)(w:World)(hr:Recs w A l):
 Calls Tryz.prog 81 #[regV A n c] w fun e w'=>e= .returned (.int .i64 (errReg l))∧Ext w w':=by
 by_cases h80:80<n
 ·have he:errReg l=71:=by rw[errReg,checkB_long tB];rfl
  rw[he]
  clear he
  go_enter Tryz.func81,Tryz.ntmps81
  go_wp2_with fail
  go_ret
  exact⟨rfl,exI⟩
 ·have h80':n≤80:=by omega
  go_enter Tryz.func81,Tryz.ntmps81
  go_wp2_with fail
  go_loopw [12] (fun i wr=> ∃k:Nat,k≤n∧i= .int .i64 k∧Ext (w.alloc (.cells #[.slice A n c] 34)) wr∧PreOk l k) (fun i _=>n-(intOf i).toNat)
  case atStart=>exact⟨0,Nat.zero_le _,rfl,Ext.refl _,PreOk.zero _⟩
  case round=>
   obtain⟨k,hk,rfl,⟨E0,d0,rfl⟩,hpre⟩:=hrel
   by_cases hlt:k<n
   ·obtain⟨g,o,rfl,hg⟩:=hr.addr tB
    have hks:k<l.length:=by omega
    have hrow:=hr.row hks
    have htk:=ht _ (List.getElem_mem hks)
    obtain⟨r,hrk⟩:∃ r,l[k]=r:=⟨_,rfl⟩
    rw[hrk] at hrow htk
    have Hrk:=hid hrk
    clear hrk
    obtain⟨h0,h1,h2,h3,h4,h5,h6,h7,h8,h9,h10⟩:=hrow
    have bad1:recOk r=false→errReg l=71:=fun h=>by
     rw[errReg,checkB_rec hks (by rw[Hrk.out];exact h)];rfl
    by_cases hk0:0<k
    ·obtain⟨q0,q1,_⟩:=hr.row (i:=k-1) tB
     obtain⟨p,hpk⟩:∃ p,l[k-1]'tB=p:=⟨_,rfl⟩
     rw[hpk] at q0 q1
     have bad2:0≤cmpP p.ao p.sq r.ao r.sq→errReg l=71:=fun h=>by
      rw[errReg,checkB_unsorted hks tB];· rfl
      rw[hpk,Hrk.out,aheadB,←aheadI];simpa using h
     have good:recOk r=true→¬0≤cmpP p.ao p.sq r.ao r.sq→PreOk l (k+1):=fun h1 h2=>hpre.succ hks (by rw[Hrk.out];exact h1) (.inr (by
      rw[hpk,Hrk.out,aheadB,←aheadI];simpa using h2))
     clear hpk
     have Bad1:=hid bad1
     have Bad2:=hid bad2
     have Good:=hid good
     clear bad1 bad2 good hpre
     have hg1:g<w.heap.size+1+E0.size+1:=by omega
     have hi1:(1:Int)≤(k:Int):=by omega
     have hi2:(k:Int)-1<(n:Int):=by omega
     have hi0:(0:Int)≤(k:Int)-1:=by omega
     have hi3:IntKind.i64.wrap ((k:Int)-1)=(k:Int)-1:=IntWalk.i64_in _ tB
     have hi4:((k:Int)-1).toNat=k-1:=by omega
     go_wp2_with fail
     refine wp_region_ord_same (.f 0 (.a 1 (.f 2 (.f 3 (.f 4 (.f 5 (.f 6 (.f 7 (.f 8 (.f 9 (.f 10 (.f 11 (.f 12 (.f 13 (.f 14 (.f 15 (.a 16 (.f 17 (.f 18 (.f 19 .d)))))))))))))))))))) tG tG ?_
     refine oR ?_
     refine wpOrd_call rfl rfl rfl Tryz.call107 (fun R hR=> ?_)
     go_simp
     refine(isRecord_any _ _ tF).mono ?_
     rintro e w1 ⟨rfl,E,d,rfl⟩
     refine hR _ _ ⟨_,rfl,?_,?_⟩
     ·exact keepI
     clear hR R
     simp only[Act.put,zp]
     refine oR ?_
     refine ord_bool (j:=3) rfl (fun hb3=> ?_) (fun hb3=> ?_)
     rotate_left
     focus
      try(exfalso;first|(simp at hb3;done)|(simp at hb3;omega))
      all_goals
       (try simp only[hb3])
       refine oR ?_
       refine ord_bool (j:=6) rfl (fun hb6=> ?_) (fun hb6=> ?_)
       rotate_left
       focus
        try(exfalso;first|(simp at hb6;done)|(simp at hb6;omega))
        all_goals
         (try simp only[hb6])
         refine oR ?_
         refine wpOrd_actPass rfl rfl ?_ ?_
         ·exact keepI
         simp only[Act.put,zp]
         refine oR ?_
         refine wpOrd_nil ?_
       rotate_right
       focus
        try(exfalso;first|(simp at hb6;done)|(simp at hb6;omega))
        all_goals
         (try simp only[hb6])
         refine oR ?_
         refine wpOrd_call rfl rfl rfl Tryz.call122 (fun R hR=> ?_)
         go_simp
         refine(compare_any _ _ _ _ _).mono ?_
         rintro e w1 ⟨rfl,E,d,rfl⟩
         refine hR _ _ ⟨_,rfl,?_,?_⟩
         ·exact keepI
         clear hR R
         simp only[Act.put,zp]
         refine oR ?_
         refine wpOrd_nil ?_
     rotate_right
     focus
      try(exfalso;first|(simp at hb3;done)|(simp at hb3;omega))
      all_goals
       (try simp only[hb3])
       refine oR ?_
       refine wpOrd_actPass rfl rfl ?_ ?_
       ·exact keepI
       simp only[Act.put,zp]
       refine oR ?_
       refine wpOrd_nil ?_
     all_goals
      go_wp2_with fail
     all_goals first
      | (go_ret;exact⟨ret_val (by show Value.int .i64 _=_;rw[Bad1.out (by simpa using hb3)]),exI⟩)
      | (go_ret;exact⟨ret_val (by show Value.int .i64 _=_;rw[Bad2.out (by first|assumption|omega)]),exI⟩)
      | exact⟨⟨k+1,by omega,by go_num,exI,Good.out (by simpa using hb3) tB⟩,by simp[intOf];omega⟩
    ·have Bad1:=hid bad1
     have good:recOk r=true→PreOk l (k+1):=fun h1=>hpre.succ hks (by rw[Hrk.out];exact h1) (.inl tB)
     have Good:=hid good
     clear bad1 good hpre
     go_wp2_with fail
     refine wp_region_ord_same (.f 0 (.a 1 (.f 2 (.f 3 (.f 4 (.f 5 (.f 6 (.f 7 (.f 8 (.f 9 (.f 10 (.f 11 (.f 12 (.f 13 (.f 14 (.f 15 (.a 16 (.f 17 (.f 18 (.f 19 .d)))))))))))))))))))) tG tG ?_
     refine oR ?_
     refine wpOrd_call rfl rfl rfl Tryz.call107 (fun R hR=> ?_)
     go_simp
     refine(isRecord_any _ _ tF).mono ?_
     rintro e w1 ⟨rfl,E,d,rfl⟩
     refine hR _ _ ⟨_,rfl,?_,?_⟩
     ·exact keepI
     clear hR R
     simp only[Act.put,zp]
     refine oR ?_
     refine ord_bool (j:=3) rfl (fun hb3=> ?_) (fun hb3=> ?_)
     rotate_left
     focus
      try(exfalso;first|(simp at hb3;done)|(simp at hb3;omega))
      all_goals
       (try simp only[hb3])
       refine oR ?_
       refine ord_bool (j:=6) rfl (fun hb6=> ?_) (fun hb6=> ?_)
       rotate_left
       focus
        try(exfalso;first|(simp at hb6;done)|(simp at hb6;omega))
        all_goals
         (try simp only[hb6])
         refine oR ?_
         refine wpOrd_actPass rfl rfl ?_ ?_
         ·exact keepI
         simp only[Act.put,zp]
         refine oR ?_
         refine wpOrd_nil ?_
       rotate_right
       focus
        try(exfalso;first|(simp at hb6;done)|(simp at hb6;omega))
        all_goals
         (try simp only[hb6])
         refine oR ?_
         refine wpOrd_call rfl rfl rfl Tryz.call122 (fun R hR=> ?_)
         go_simp
         refine(compare_any _ _ _ _ _).mono ?_
         rintro e w1 ⟨rfl,E,d,rfl⟩
         refine hR _ _ ⟨_,rfl,?_,?_⟩
         ·exact keepI
         clear hR R
         simp only[Act.put,zp]
         refine oR ?_
         refine wpOrd_nil ?_
     rotate_right
     focus
      try(exfalso;first|(simp at hb3;done)|(simp at hb3;omega))
      all_goals
       (try simp only[hb3])
       refine oR ?_
       refine wpOrd_actPass rfl rfl ?_ ?_
       ·exact keepI
       simp only[Act.put,zp]
       refine oR ?_
       refine wpOrd_nil ?_
     all_goals
      go_wp2_with fail
     all_goals first
      | (go_ret;exact⟨ret_val (by show Value.int .i64 _=_;rw[Bad1.out (by simpa using hb3)]),exI⟩)
      | exact⟨⟨k+1,by omega,by go_num,exI,Good.out (by simpa using hb3)⟩,by simp[intOf];omega⟩
   ·obtain rfl:k=n:=by omega
    have he:errReg l=0:=by
     subst hn
     rw[errReg,hpre.done tB];rfl
    have HE:=hid he
    clear he hpre
    go_wp2_with fail
    go_ret
    exact⟨ret_val tX,exI⟩
end Go.Proofs.YtekjdeibnfaehaaGreat
set_option linter.unusedSimpArgs false
set_option linter.unusedVariables false
namespace Go.Proofs.YtekjdeibnfaehaaGreat
open Go.RowKit
set_option maxHeartbeats 1000000 in
theorem Ahead_any(o1 s1 o2 s2:Int)(w:World):
 Calls Tryz.prog 136 #[.agg #[.int .i64 o1,.int .i64 s1],.agg #[.int .i64 o2,.int .i64 s2]] w fun e w'=>e= .returned (.bool (ltP o1 s1 o2 s2))∧Ext w w':=by
 go_enter Tryz.func136,Tryz.ntmps136
 go_wp2_with fail
 all_goals
  go_ret
  refine⟨ret_val ?_,exI⟩
  show Value.bool _=_
  first|(simp[ltP, *];done)|(simp[ltP];omega)|(simp_all [ltP];done)|(simp_all [ltP];omega)
theorem errRec_zero{r:Rec}:(errRec r != 0)= !recOk r:=by unfold errRec;cases recOk r <;> rfl
set_option maxRecDepth 100000 in
set_option maxHeartbeats 4000000 in
theorem rCheck_any(A:Option Addr)(c n:Nat)(l:List Rec)(hn:l.length=n)(hbig:n≤9223372036854775807)(ht:TxtBig l)(w:World)(hr:Recs w A l):
 Calls Tryz.prog 84 #[regV A n c] w fun e w'=>e= .returned (.int .i64 (errReg l))∧Ext w w':=by
 by_cases h80:80<n
 ·have he:errReg l=71:=by rw[errReg,checkB_long tB];rfl
  rw[he]
  clear he
  go_enter Tryz.func84,Tryz.ntmps84
  go_wp2_with fail
  go_ret
  exact⟨rfl,exI⟩
 ·have h80':n≤80:=by omega
  go_enter Tryz.func84,Tryz.ntmps84
  go_wp2_with fail
  go_loopw [3] (fun i wr=> ∃k:Nat,k≤n∧i= .int .i64 k∧Ext (w.alloc (.cells #[.slice A n c] 34)) wr∧PreOk l k) (fun i _=>n-(intOf i).toNat)
  case atStart=>exact⟨0,Nat.zero_le _,rfl,Ext.refl _,PreOk.zero _⟩
  case round=>
   obtain⟨k,hk,rfl,⟨E0,d0,rfl⟩,hpre⟩:=hrel
   by_cases hlt:k<n
   ·obtain⟨g,o,rfl,hg⟩:=hr.addr tB
    have hks:k<l.length:=by omega
    have hrow:=hr.row hks
    have htk:=ht _ (List.getElem_mem hks)
    obtain⟨r,hrk⟩:∃ r,l[k]=r:=⟨_,rfl⟩
    rw[hrk] at hrow htk
    have Hrk:=hid hrk
    clear hrk
    obtain⟨h0,h1,h2,h3,h4,h5,h6,h7,h8,h9,h10⟩:=hrow
    have bad1:recOk r=false→errReg l=71:=fun h=>by
     rw[errReg,checkB_rec hks (by rw[Hrk.out];exact h)];rfl
    have herr:(errRec r != 0)= !recOk r:=errRec_zero
    by_cases hk0:0<k
    ·obtain⟨q0,q1,_⟩:=hr.row (i:=k-1) tB
     obtain⟨p,hpk⟩:∃ p,l[k-1]'tB=p:=⟨_,rfl⟩
     rw[hpk] at q0 q1
     have bad2:ltP p.ao p.sq r.ao r.sq=false→errReg l=71:=fun h=>by
      rw[errReg,checkB_unsorted hks tB];· rfl
      rw[hpk,Hrk.out,aheadB];exact h
     have good:recOk r=true→ltP p.ao p.sq r.ao r.sq=true→PreOk l (k+1):=fun h1 h2=>hpre.succ hks (by rw[Hrk.out];exact h1) (.inr (by
      rw[hpk,Hrk.out,aheadB];exact h2))
     clear hpk
     have Bad1:=hid bad1
     have Bad2:=hid bad2
     have Good:=hid good
     clear bad1 bad2 good hpre
     have hi1:(1:Int)≤(k:Int):=by omega
     have hi2:(k:Int)-1<(n:Int):=by omega
     have hi0:(0:Int)≤(k:Int)-1:=by omega
     have hi3:IntKind.i64.wrap ((k:Int)-1)=(k:Int)-1:=IntWalk.i64_in _ tB
     have hi4:((k:Int)-1).toNat=k-1:=by omega
     go_wp2_with fail
     refine wp_region_ord_same (.f 0 (.f 1 (.f 2 (.f 3 (.f 4 (.a 5 (.f 6 (.f 7 (.f 8 (.f 9 (.f 10 (.f 11 (.f 12 (.f 13 (.f 14 (.f 15 (.f 16 (.f 17 (.f 18 (.f 19 (.f 20 (.f 21 (.f 22 (.f 23 (.a 24 (.f 25 (.f 26 (.f 27 .d)))))))))))))))))))))))))))) tG tG ?_
     refine oR ?_
     refine wpOrd_call rfl rfl rfl Tryz.call109 (fun R hR=> ?_)
     go_simp
     refine(rCheckRecord_any _ _ tF).mono ?_
     rintro e w1 ⟨rfl,E,d,rfl⟩
     refine hR _ _ ⟨_,rfl,?_,?_⟩
     ·exact keepI
     clear hR R
     simp only[Act.put,zp]
     refine oR ?_
     refine ord_bool (j:=7) rfl (fun hb7=> ?_) (fun hb7=> ?_)
     rotate_left
     focus
      try(exfalso;first|(simp at hb7;done)|(simp at hb7;omega))
      all_goals
       (try simp only[hb7])
       refine oR ?_
       refine ord_bool (j:=10) rfl (fun hb10=> ?_) (fun hb10=> ?_)
       rotate_left
       focus
        try(exfalso;first|(simp at hb10;done)|(simp at hb10;omega))
        all_goals
         (try simp only[hb10])
         refine oR ?_
         refine wpOrd_actPass rfl rfl ?_ ?_
         ·exact keepI
         simp only[Act.put,zp]
         refine oR ?_
         refine wpOrd_nil ?_
       rotate_right
       focus
        try(exfalso;first|(simp at hb10;done)|(simp at hb10;omega))
        all_goals
         (try simp only[hb10])
         refine oR ?_
         refine wpOrd_call rfl rfl rfl Tryz.call136 (fun R hR=> ?_)
         go_simp
         refine(Ahead_any _ _ _ _ _).mono ?_
         rintro e w1 ⟨rfl,E2,d2,rfl⟩
         refine hR _ _ ⟨_,rfl,?_,?_⟩
         ·exact keepI
         clear hR R
         simp only[Act.put,zp]
         refine oR ?_
         refine wpOrd_nil ?_
     rotate_right
     focus
      try(exfalso;first|(simp at hb7;done)|(simp at hb7;omega))
      all_goals
       (try simp only[hb7])
       refine oR ?_
       refine wpOrd_actPass rfl rfl ?_ ?_
       ·exact keepI
       simp only[Act.put,zp]
       refine oR ?_
       refine wpOrd_nil ?_
     all_goals
      go_wp2_with fail
     all_goals first
      | (go_ret;exact⟨ret_val (by show Value.int .i64 _=_;rw[Bad1.out (by simpa using hb7)]),exI⟩)
      | (go_ret;exact⟨ret_val (by show Value.int .i64 _=_;rw[Bad2.out (by first|assumption|simp_all)]),exI⟩)
      | exact⟨⟨k+1,by omega,by go_num,exI,Good.out (by simpa using hb7) (by first|assumption|simp_all)⟩,by simp[intOf];omega⟩
    ·have Bad1:=hid bad1
     have good:recOk r=true→PreOk l (k+1):=fun h1=>hpre.succ hks (by rw[Hrk.out];exact h1) (.inl tB)
     have Good:=hid good
     clear bad1 good hpre
     go_wp2_with fail
     refine wp_region_ord_same (.f 0 (.f 1 (.f 2 (.f 3 (.f 4 (.a 5 (.f 6 (.f 7 (.f 8 (.f 9 (.f 10 (.f 11 (.f 12 (.f 13 (.f 14 (.f 15 (.f 16 (.f 17 (.f 18 (.f 19 (.f 20 (.f 21 (.f 22 (.f 23 (.a 24 (.f 25 (.f 26 (.f 27 .d)))))))))))))))))))))))))))) tG tG ?_
     refine oR ?_
     refine wpOrd_call rfl rfl rfl Tryz.call109 (fun R hR=> ?_)
     go_simp
     refine(rCheckRecord_any _ _ tF).mono ?_
     rintro e w1 ⟨rfl,E,d,rfl⟩
     refine hR _ _ ⟨_,rfl,?_,?_⟩
     ·exact keepI
     clear hR R
     simp only[Act.put,zp]
     refine oR ?_
     refine ord_bool (j:=7) rfl (fun hb7=> ?_) (fun hb7=> ?_)
     rotate_left
     focus
      try(exfalso;first|(simp at hb7;done)|(simp at hb7;omega))
      all_goals
       (try simp only[hb7])
       refine oR ?_
       refine ord_bool (j:=10) rfl (fun hb10=> ?_) (fun hb10=> ?_)
       rotate_left
       focus
        try(exfalso;first|(simp at hb10;done)|(simp at hb10;omega))
        all_goals
         (try simp only[hb10])
         refine oR ?_
         refine wpOrd_actPass rfl rfl ?_ ?_
         ·exact keepI
         simp only[Act.put,zp]
         refine oR ?_
         refine wpOrd_nil ?_
       rotate_right
       focus
        try(exfalso;first|(simp at hb10;done)|(simp at hb10;omega))
        all_goals
         (try simp only[hb10])
         refine oR ?_
         refine wpOrd_call rfl rfl rfl Tryz.call136 (fun R hR=> ?_)
         go_simp
         refine(Ahead_any _ _ _ _ _).mono ?_
         rintro e w1 ⟨rfl,E2,d2,rfl⟩
         refine hR _ _ ⟨_,rfl,?_,?_⟩
         ·exact keepI
         clear hR R
         simp only[Act.put,zp]
         refine oR ?_
         refine wpOrd_nil ?_
     rotate_right
     focus
      try(exfalso;first|(simp at hb7;done)|(simp at hb7;omega))
      all_goals
       (try simp only[hb7])
       refine oR ?_
       refine wpOrd_actPass rfl rfl ?_ ?_
       ·exact keepI
       simp only[Act.put,zp]
       refine oR ?_
       refine wpOrd_nil ?_
     all_goals
      go_wp2_with fail
     all_goals first
      | (go_ret;exact⟨ret_val (by show Value.int .i64 _=_;rw[Bad1.out (by simpa using hb7)]),exI⟩)
      | exact⟨⟨k+1,by omega,by go_num,exI,Good.out (by simpa using hb7)⟩,by simp[intOf];omega⟩
   ·obtain rfl:k=n:=by omega
    have he:errReg l=0:=by
     subst hn
     rw[errReg,hpre.done tB];rfl
    have HE:=hid he
    clear he hpre
    go_wp2_with fail
    go_ret
    exact⟨ret_val tX,exI⟩
end Go.Proofs.YtekjdeibnfaehaaGreat
