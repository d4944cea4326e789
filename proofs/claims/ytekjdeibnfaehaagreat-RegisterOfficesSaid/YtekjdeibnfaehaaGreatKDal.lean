/- Texts of a proof. -/
import Derived.Test.YtekjdeibnfaehaaGreatKDak
import Derived.Test.YtekjdeibnfaehaaGreatKDad
import Derived.Lib.SlBytesConst
import Derived.LoopN
set_option linter.unusedSimpArgs false
set_option linter.unusedVariables false
namespace Go.Proofs.YtekjdeibnfaehaaGreat
open Go.RowKit
theorem headB_flat(g c:Int):[moorB,numB g 4,numB c 2].flatten=headB g c:=by simp[headB]
theorem moor_at(W:World)(e:TypeId)(g:Nat)(fr:Nat×Nat)(hg:g=W.heap.size):Byt (W.alloc (.cells #[.int .u8 109,.int .u8 111,.int .u8 111,.int .u8 114] e fr)) (some ⟨g,0,none⟩) moorB:=by
 subst hg
 exact Byt.of_cells (W:=W) moorB [] e fr
theorem OwnB.lit(W:World)(b:UInt8)(g:Nat)(hg:g=W.heap.size)(v:Value)(hv:v= .int .u8 (b.toNat:Int)):OwnB W.heap.size (W.alloc (.cells #[v] 5)) (.slice (some ⟨g,0,Option.none⟩) 1 1) [b]:=by
 subst hg hv
 exact⟨rfl,.inr ⟨W.heap.size,1,_,rfl,Nat.le_refl _,heap_alloc_new W _,Nat.le_refl _,by unfold maxLen;omega,rfl,rfl⟩⟩
theorem Concat_at_own(W:World)(cs:List Value)(e:TypeId)(g n c:Nat)(ls:List (List UInt8))(hg:g=W.heap.size)(hn:cs.length=n)(hsz:sumL ls≤1000000)(hsz0:0<sumL ls)(hn':n≤1000000)
 (hv:BytVs W cs ls):
 Calls Tryz.prog 158 #[.slice (some ⟨g,0,none⟩) n c] (W.alloc (.cells cs.toArray e)) fun e w'=> ∃A' c',e= .returned (.slice A' ls.flatten.length c')∧OwnB W.heap.size w' (.slice A' ls.flatten.length c') ls.flatten∧Ext W w':=by
 have hv':BytVs (W.alloc (.cells cs.toArray e)) cs ls:=hv.alloc _
 subst hn
 refine(Concat_own _ c cs ls hv'.length hsz hsz0 hn' _ (Sl_at cs e 1 _ g tB hg) hv'.at_).mono ?_
 rintro e w' ⟨v,rfl,ho,hx⟩
 obtain⟨A',c',rfl,_,_⟩:=ownsRow_slice ho
 exact⟨A',c',rfl,ownsRow_base ho ta,((Ext.refl W).alloc _).trans hx⟩
set_option maxRecDepth 100000 in
set_option maxHeartbeats 2000000 in
theorem headOf_any(g c:Int)(hg0:0≤g)(hg1:g≤9223372036854775807)(hc0:0≤c)(hc1:c≤9223372036854775807)(w:World):
 Calls Tryz.prog 123 #[.int .i64 g,.int .i64 c] w fun e w'=> ∃A c',e= .returned (.slice A 10 c')∧OwnB w.heap.size w' (.slice A 10 c') (headB g c)∧Ext w w':=by
 have hsum:sumL [moorB,numB g 4,numB c 2]=10:=by simp[sumL,moorB,numB_length]
 have hm:=moor_at w 5 w.heap.size (4,5) rfl
 have hconv:=fun(w:World) (C:Array Value) (n c:Nat)=>Lib.run_convert_bytes_const (P:=Tryz.prog) w 22 5 C n c Tryz.underlying22 Tryz.underlying5
 go_enter Tryz.func123,Tryz.ntmps123
 go_wp2_with fail
 refine(number_i g 4 hg0 hg1 tB tB _).mono ?_
 rintro e w1 ⟨A1,c1,rfl,hb1,E1,d1,rfl⟩
 go_wp2_with fail
 refine(number_i c 2 hc0 hc1 tB tB _).mono ?_
 rintro e w1 ⟨A2,c2,rfl,hb2,E2,d2,rfl⟩
 go_wp2_with fail
 refine(Concat_at_own _ _ _ _ _ _ [moorB,numB g 4,numB c 2] ta (by rfl) (by rw[hsum];omega) (by rw[hsum];omega) tB (by exact⟨⟨_,_,rfl,hm.of_ext exI⟩,⟨_,_,rfl,hb1.of_ext exI⟩,⟨_,_,rfl,hb2.of_ext exI⟩,trivial⟩)).mono ?_
 rintro e w1 ⟨A3,c3,rfl,hb3,E3,d3,rfl⟩
 go_wp2_with fail
 go_ret
 have hln:[moorB,numB g 4,numB c 2].flatten.length=10:=hsum
 rw[hln,headB_flat] at hb3
 exact⟨A3,c3,ret_val (congrArg (fun n=>Value.slice A3 n c3) hsum),ownsRow_base hb3 TA,exI⟩
set_option maxRecDepth 100000 in
set_option maxHeartbeats 2000000 in
theorem frame_any(r:Rec)(hr:RecNum r)(w:World):
 Calls Tryz.prog 124 #[recV r] w fun e w'=> ∃A c,e= .returned (.slice A (24+r.text.size) c)∧Byt w' A (frameB r)∧Ext w w':=by
 obtain⟨i0,hi,hz0,hz1,hz2⟩:=info_parts info_u8
 have hrb:=recB_length r
 have htx:=hr.text
 go_enter Tryz.func124,Tryz.ntmps124
 go_wp2_with (first|(at_builtin;have hq:=OwnB.lit ((w.alloc (.cells #[.int .i64 r.ao,.int .i64 r.sq,.int .i64 r.kind,.int .i64 r.ship,.int .i64 r.day,.int .i64 r.known,.int .i64 r.wo,.int .i64 r.ws,.int .i64 r.to,.int .i64 r.til,.string r.text] 46)).ext E1 d1) (byteI (23+(r.text.size:Int)) 0) (w.heap.size+1+E1.size) ta (.int .u8 ((23+(r.text.size:Int)) % 256)) (by rw[byteI_toNat _ tB];simp);have hq2:Sl 1 (((w.alloc (.cells #[.int .i64 r.ao,.int .i64 r.sq,.int .i64 r.kind,.int .i64 r.ship,.int .i64 r.day,.int .i64 r.known,.int .i64 r.wo,.int .i64 r.ws,.int .i64 r.to,.int .i64 r.til,.string r.text] 46)).ext E1 d1).alloc (.cells #[.int .u8 ((23+(r.text.size:Int)) % 256)] 5)) A1 (23+r.text.size) ((recB r).map encB):=TB;refine wpList_append (w:=(w.alloc (.cells #[.int .i64 r.ao,.int .i64 r.sq,.int .i64 r.kind,.int .i64 r.ship,.int .i64 r.day,.int .i64 r.known,.int .i64 r.wo,.int .i64 r.ws,.int .i64 r.to,.int .i64 r.til,.string r.text] 46)).ext E1 d1) rfl _ _ 22 rfl 5 i0 _ 1 1 Tryz.underlying22 hi hz0 hz1 hz2 rfl tN rfl ((Ext.refl _).alloc _) hq rfl hq2 (encB_one _) (by simp only[List.length_cons,List.length_nil];unfold maxLen;omega) (by simp only[List.length_cons,List.length_nil];omega) (fun v2 E2 d2 ho2=> ?_))|(go_at_call 128;refine(bytesOf_any _ tF _).mono ?_;rintro e w1 ⟨A1,c1,rfl,hb1,E1,d1,rfl⟩))
 go_ret
 have hfl:(frameB r).length=24+r.text.size:=by simp[frameB,hrb];omega
 obtain⟨A2,c2,rfl,hcc,hsl⟩:=ownsRow_slice ho2
 refine⟨A2,c2,ret_val (congrArg (fun n=>Value.slice A2 n c2) tA),?_,exI⟩
 unfold Byt
 rw[hfl]
 have e1:[byteI (23+(r.text.size:Int)) 0].length+(23+r.text.size)=24+r.text.size:=by simp;omega
 rw[e1] at hsl
 exact hsl
end Go.Proofs.YtekjdeibnfaehaaGreat
namespace Go.Proofs.YtekjdeibnfaehaaGreat
open Go.RowKit
abbrev drvV(A0:Option Addr)(n0 c0:Nat)(f0:Int)(A1:Option Addr)(n1 c1:Nat)(f1:Int):Value:=.agg #[.slice A0 n0 c0,.int .i64 f0,.slice A1 n1 c1,.int .i64 f1]
abbrev filV(A:Option Addr)(n c:Nat)(f:Int):Value:=.agg #[.slice A n c,.int .i64 f]
def fOk(n:Nat)(f:Int):Bool:=inB f 0 n&&decide (n≤100000)
def dOk(n0:Nat)(f0:Int)(n1:Nat)(f1:Int):Bool:=fOk n0 f0&&fOk n1 f1
theorem driveOk_eq(D:DriveD)(n0 n1:Nat)(h0:D.f0.bytes.length=n0)(h1:D.f1.bytes.length=n1):driveOk D=dOk n0 D.f0.firm n1 D.f1.firm:=by
 subst h0 h1
 rfl
@[go_sem] theorem run_index0(a b c d:Value)(W:World):(Instr.index 25 (.agg #[a,b,c,d]) (.int .i64 0)).run Tryz.prog W= .ok (.agg #[a,b]) W:=by
 simp[Instr.index,go_sem,part]
@[go_sem] theorem run_index1(a b c d:Value)(W:World):(Instr.index 25 (.agg #[a,b,c,d]) (.int .i64 1)).run Tryz.prog W= .ok (.agg #[c,d]) W:=by
 simp[Instr.index,go_sem,part]
set_option maxRecDepth 100000 in
set_option maxHeartbeats 2000000 in
theorem isDrive_any(A0:Option Addr)(n0 c0:Nat)(f0:Int)(A1:Option Addr)(n1 c1:Nat)(f1:Int)(w:World):
 Calls Tryz.prog 56 #[drvV A0 n0 c0 f0 A1 n1 c1 f1] w fun e w'=>e= .returned (.bool (dOk n0 f0 n1 f1))∧Ext w w':=by
 cases h0:inB f0 0 n0 with
 | false=>
  have hr:dOk n0 f0 n1 f1=false:=by simp[dOk,fOk,h0]
  have HR:=hid hr
  clear hr
  go_enter Tryz.func56,Tryz.ntmps56
  go_wp2_with fail
  refine wp_loop_rounds 3 ?_
  rw[rounds_succ]
  go_wp2_with (go_at_call 117;refine(in_any _ _ _ _).mono ?_;rintro e w1 ⟨rfl,rfl⟩)
  go_ret
  exact⟨ret_val tz,exI⟩
 | true=>
  by_cases h1:n0≤100000
  ·cases h2:inB f1 0 n1 with
   | false=>
    have HR:Hid (dOk n0 f0 n1 f1=false):=hid (by simp[dOk,fOk,h2])
    go_enter Tryz.func56,Tryz.ntmps56
    go_wp2_with fail
    refine wp_loop_rounds 3 ?_
    rw[rounds_succ]
    go_wp2_with (go_at_call 117;refine(in_any _ _ _ _).mono ?_;rintro e w1 ⟨rfl,rfl⟩)
    rw[rounds_succ]
    go_wp2_with (go_at_call 117;refine(in_any _ _ _ _).mono ?_;rintro e w1 ⟨rfl,rfl⟩)
    go_ret
    exact⟨ret_val tz,exI⟩
   | true=>
    by_cases h3:n1≤100000
    ·have HR:Hid (dOk n0 f0 n1 f1=true):=hid (by simp[dOk,fOk,h0,h1,h2,h3])
     go_enter Tryz.func56,Tryz.ntmps56
     go_wp2_with fail
     refine wp_loop_rounds 3 ?_
     rw[rounds_succ]
     go_wp2_with (go_at_call 117;refine(in_any _ _ _ _).mono ?_;rintro e w1 ⟨rfl,rfl⟩)
     rw[rounds_succ]
     go_wp2_with (go_at_call 117;refine(in_any _ _ _ _).mono ?_;rintro e w1 ⟨rfl,rfl⟩)
     rw[rounds_succ]
     go_wp2_with (go_at_call 117;refine(in_any _ _ _ _).mono ?_;rintro e w1 ⟨rfl,rfl⟩)
     go_ret
     exact⟨ret_val tz,exI⟩
    ·have HR:Hid (dOk n0 f0 n1 f1=false):=hid (by simp[dOk,fOk,h3])
     go_enter Tryz.func56,Tryz.ntmps56
     go_wp2_with fail
     refine wp_loop_rounds 3 ?_
     rw[rounds_succ]
     go_wp2_with (go_at_call 117;refine(in_any _ _ _ _).mono ?_;rintro e w1 ⟨rfl,rfl⟩)
     rw[rounds_succ]
     go_wp2_with (go_at_call 117;refine(in_any _ _ _ _).mono ?_;rintro e w1 ⟨rfl,rfl⟩)
     go_ret
     exact⟨ret_val tz,exI⟩
  ·have HR:Hid (dOk n0 f0 n1 f1=false):=hid (by simp[dOk,fOk,h1])
   go_enter Tryz.func56,Tryz.ntmps56
   go_wp2_with fail
   refine wp_loop_rounds 3 ?_
   rw[rounds_succ]
   go_wp2_with (go_at_call 117;refine(in_any _ _ _ _).mono ?_;rintro e w1 ⟨rfl,rfl⟩)
   go_ret
   exact⟨ret_val tz,exI⟩
theorem OwnB.moved{N base:Nat}{X X':World}{E:Array Obj}{d d':Nat}{v:Value}{l:List UInt8}(h:OwnB N (X.ext E d) v l)(hs:X'.heap.size=X.heap.size)(hN:X.heap.size≤N)(hb:base≤N):OwnB base (X'.ext E d') v l:=by
 refine ownsRow_base (base:=N) ⟨h.1,?_⟩ hb
 rcases h.2 with h0|⟨g,cap,cur,hv,hb,hh,hr⟩
 ·exact .inl h0
 ·refine .inr ⟨g,cap,cur,hv,hb,?_,hr⟩
  rw[←hh]
  simp only[World.ext]
  rw[Array.getElem?_append_right tB,Array.getElem?_append_right tB,hs]
theorem OwnB.of_ext{base:Nat}{w w':World}{v:Value}{l:List UInt8}(h:OwnB base w v l)(hx:Ext w w'):OwnB base w' v l:=by
 obtain⟨E,d,rfl⟩:=hx
 exact h.ext E d
theorem OwnB.moved2{N base:Nat}{X X' W':World}{E:Array Obj}{d d':Nat}{v:Value}{l:List UInt8}(h:OwnB N (X.ext E d) v l)(hx:Ext (X'.ext E d') W')(hs:X'.heap.size=X.heap.size)(hN:X.heap.size≤N)(hb:base≤N):OwnB base W' v l:=
 (OwnB.moved h hs hN hb).of_ext hx
theorem run_copy_bytes(w:World)(ty:TypeId)(g:Nat)(t:TypeId)(A:Option Addr)(n c:Nat)(cur:Array Value)(l:List UInt8)(hl:l.length=n)(hg:w.heap[g]? =some (.cells cur t (0,0)))(hs:cur.size=n)(hb:Byt w A l):
 ∃w',(Builtin.copy_ #[22,22] ty #[.slice (some ⟨g,0,none⟩) n n,.slice A n c]).run Tryz.prog w= .ok (goInt n) w'∧w'=w.setRow g (l.map encB).toArray:=by
 obtain⟨i0,hi,hz0,hz1,hz2⟩:=info_parts info_u8
 have hsz:(Tryz.prog.info? 5).map (·.size)=some 1:=by rw[hi];simp[hz1]
 refine⟨_,?_,rfl⟩
 rcases Nat.eq_zero_or_pos n with h0|h0
 ·subst h0
  have hl0:l=[]:=List.eq_nil_of_length_eq_zero hl
  subst hl0
  rw[run_copy_none w 22 22 ty 5 (some ⟨g,0,none⟩) A 0 0 0 c Tryz.underlying22 hsz tE]
  have hc:cur= #[]:=Array.eq_empty_of_size_eq_zero hs
  subst hc
  have e:=setRow_self w g _ t (0,0) hg
  show Result.ok (goInt 0) w=Result.ok (goInt 0) (w.setRow g #[])
  rw[e]
 ·obtain⟨g',o',hA,hg',hc⟩:=hb.2 tB
  subst hA
  have:=run_copy_row Tryz.prog w 22 22 ty 5 g 0 n n ⟨g',o',none⟩ n c cur t (l.map encB) Tryz.underlying22 hsz hg (by simp[hl]) (fun j v hj=>by rw[Addr.add_lit];exact hc j v hj) (by simp[hl,hs]) (encB_one _)
  have hd:cur.toList.drop n=[]:=List.drop_of_length_le (by simp[hs])
  rw[this]
  simp[hl,hd]
set_option maxRecDepth 100000 in
set_option maxHeartbeats 2000000 in
theorem fileCopy_any(A:Option Addr)(n c:Nat)(f:Int)(l:List UInt8)(hl:l.length=n)(hbig:n≤140737488355328)(w:World)(hb:Byt w A l):
 Calls Tryz.prog 62 #[filV A n c f] w fun e w'=> ∃A',e= .returned (filV A' n n f)∧OwnB w.heap.size w' (.slice A' n n) l∧Ext w w':=by
 obtain⟨i0,hi,hz0,hz1,hz2⟩:=info_parts info_u8
 obtain⟨X,hX⟩:∃ X,X=(w.alloc (.cells #[.slice A n c,.int .i64 f] 24)).alloc (.cells #[.slice none 0 0,.int .i64 0] 24):=⟨_,rfl⟩
 have hXs:X.heap.size=w.heap.size+1+1:=by rw[hX];simp[World.size_alloc]
 have hg0:(X.alloc (.cells (madeCells #[.int .u8 0] n) 5)).heap[w.heap.size+1+1]? =some (.cells (madeCells #[.int .u8 0] n) 5 (0,0)):=by rw[←hXs];exact heap_alloc_new X _
 obtain⟨w9,hcp,hw9⟩:=run_copy_bytes (X.alloc (.cells (madeCells #[.int .u8 0] n) 5)) 3 (w.heap.size+1+1) 5 A n c _ l hl hg0 (size_madeCells _ _) ((by rw[hX];exact(hb.alloc _).alloc _:Byt X A l).alloc _)
 have hrow:=setRow_heap _ (w.heap.size+1+1) _ (l.map encB).toArray _ _ hg0
 rw[←hw9] at hrow
 have hx9:Ext X w9:=by rw[hw9];exact((Ext.refl X).alloc _).setRow _ _ tB
 have hown:OwnB (w.heap.size+1+1) w9 (.slice (some ⟨w.heap.size+1+1,0,none⟩) n n) l:=
  ⟨by simp,.inr ⟨w.heap.size+1+1,n,_,by rw[hl],Nat.le_refl _,hrow,by omega,by unfold maxLen;omega,by simp[hl],List.take_of_length_le tE⟩⟩
 obtain⟨E9,d9,hE9⟩:=hx9
 rw[hE9] at hcp hown
 rw[hX] at hcp hown
 clear hrow hw9 hg0 hXs hX hE9
 go_enter Tryz.func62,Tryz.ntmps62
 go_wp2_with (first|(at_make;refine wpList_make_row _ rfl _ _ 22 rfl 5 i0 _ Tryz.underlying22 hi hz0 hz1 rfl .i64 .i64 n rfl rfl (by rw[hz2];omega) tB ?_)|(at_builtin;refine wpList_copy_runI _ rfl _ _ 22 22 rfl _ _ rfl rfl hcp ?_))
 refine bodyPost_ret (v:=filV (some ⟨w.heap.size+1+1,0,none⟩) n n f) (by simp[results,Tryz.results62,go_sem]) rfl ?_
 refine⟨_,rfl,?_,exI⟩
 ((try simp only[alloc_ext,ext_ext,size_ext,World.size_alloc,Array.size_push,Array.size_append] at *);refine OwnB.moved tF ?_ ?_ ?_;(focus(simp only[World.size_alloc,size_ext]));(focus(simp only[World.size_alloc,size_ext];try omega));(focus omega))
set_option maxRecDepth 100000 in
set_option maxHeartbeats 4000000 in
theorem driveCopy_any(A0:Option Addr)(n0 c0:Nat)(f0:Int)(A1:Option Addr)(n1 c1:Nat)(f1:Int)(l0 l1:List UInt8)(hl0:l0.length=n0)(hl1:l1.length=n1)(hbig0:n0≤140737488355328)(hbig1:n1≤140737488355328)(w:World)(hb0:Byt w A0 l0)(hb1:Byt w A1 l1):
 Calls Tryz.prog 57 #[drvV A0 n0 c0 f0 A1 n1 c1 f1] w fun e w'=> ∃A0' A1',e= .returned (drvV A0' n0 n0 f0 A1' n1 n1 f1)∧OwnB w.heap.size w' (.slice A0' n0 n0) l0∧OwnB w.heap.size w' (.slice A1' n1 n1) l1∧Ext w w':=by
 go_enter Tryz.func57,Tryz.ntmps57
 go_wp2_with fail
 refine wp_loop_rounds 3 ?_
 rw[rounds_succ]
 go_wp2_with fail
 refine(fileCopy_any _ _ _ _ l0 tZ tB _ (bytI ‹_›)).mono ?_
 rintro e w1 ⟨Af1,rfl,hbf1,E1,d1,rfl⟩
 go_wp2_with fail
 rw[rounds_succ]
 go_wp2_with fail
 refine(fileCopy_any _ _ _ _ l1 tZ tB _ (bytI ‹_›)).mono ?_
 rintro e w1 ⟨Af2,rfl,hbf2,E2,d2,rfl⟩
 go_wp2_with fail
 rw[rounds_succ]
 go_wp2_with fail
 refine bodyPost_ret (v:=drvV Af1 n0 n0 f0 Af2 n1 n1 f1) (by simp[results,Tryz.results57,go_sem]) rfl ?_
 refine⟨_,_,rfl,?_,?_,exI⟩
 ·exact OwnB.moved2 hbf1 tR ta ta TA
 ·exact OwnB.moved2 hbf2 tR ta ta TA
end Go.Proofs.YtekjdeibnfaehaaGreat
namespace Go.Proofs.YtekjdeibnfaehaaGreat
open Go.RowKit
theorem OwnB.of_byt_slice{base n c:Nat}{w:World}{A:Option Addr}{l:List UInt8}(h:OwnB base w (.slice A n c) l):Byt w A l:=by
 obtain⟨A2,c2,hv,hb⟩:=h.slice
 cases hv
 exact hb
set_option maxRecDepth 100000 in
set_option maxHeartbeats 4000000 in
theorem synced_any(A0:Option Addr)(n0 c0:Nat)(f0:Int)(A1:Option Addr)(n1 c1:Nat)(f1:Int)(l0 l1:List UInt8)(hl0:l0.length=n0)(hl1:l1.length=n1)(hbig0:n0≤140737488355328)(hbig1:n1≤140737488355328)(w:World)(hb0:Byt w A0 l0)(hb1:Byt w A1 l1):
 Calls Tryz.prog 58 #[drvV A0 n0 c0 f0 A1 n1 c1 f1] w fun e w'=> ∃A0' A1',e= .returned (drvV A0' n0 n0 n0 A1' n1 n1 n1)∧OwnB w.heap.size w' (.slice A0' n0 n0) l0∧OwnB w.heap.size w' (.slice A1' n1 n1) l1∧Ext w w':=by
 go_enter Tryz.func58,Tryz.ntmps58
 go_wp2_with (go_at_call 57;refine(driveCopy_any _ _ _ _ _ _ _ _ _ _ tZ tZ tB tB _ (bytI ‹_›) (bytI ‹_›)).mono ?_;rintro e w1 ⟨Ax1,Ay1,rfl,hox1,hoy1,E1,d1,rfl⟩)
 refine wp_loop_rounds 3 ?_
 rw[rounds_succ]
 go_wp2_with fail
 rw[rounds_succ]
 go_wp2_with fail
 rw[rounds_succ]
 go_wp2_with fail
 refine bodyPost_ret (v:=drvV Ax1 n0 n0 n0 Ay1 n1 n1 n1) (by simp[results,Tryz.results58,go_sem]) rfl ?_
 refine⟨_,_,rfl,?_,?_,exI⟩
 ·exact OwnB.moved2 hox1 tR ta ta TC
 ·exact OwnB.moved2 hoy1 tR ta ta TC
def DrvO(base:Nat)(w:World)(D:DriveD)(v:Value):Prop:=∃ A0 A1,v=drvV A0 D.f0.bytes.length D.f0.bytes.length D.f0.firm A1 D.f1.bytes.length D.f1.bytes.length D.f1.firm∧
 OwnB base w (.slice A0 D.f0.bytes.length D.f0.bytes.length) D.f0.bytes∧OwnB base w (.slice A1 D.f1.bytes.length D.f1.bytes.length) D.f1.bytes
end Go.Proofs.YtekjdeibnfaehaaGreat
namespace Go.Proofs.YtekjdeibnfaehaaGreat
open Go.RowKit
abbrev memV(A:Option Addr)(n c:Nat)(f g:Int):Value:=.agg #[.slice A n c,.int .i64 f,.int .i64 g]
set_option maxRecDepth 100000 in
set_option maxHeartbeats 4000000 in
theorem New_any(w:World):
 Calls Tryz.prog 72 #[] w fun e w'=> ∃A0 c0,e= .returned (.tuple #[drvV A0 10 c0 10 none 0 0 0,memV none 0 0 0 1])∧OwnB w.heap.size w' (.slice A0 10 c0) (headB 1 0)∧Ext w w':=by
 go_enter Tryz.func72,Tryz.ntmps72
 go_wp2_with (go_at_call 123;refine(headOf_any _ _ tB tB tB tB _).mono ?_;rintro e w1 ⟨A1,c1,rfl,hb1,E1,d1,rfl⟩)
 refine bodyPost_ret (v:=.tuple #[drvV A1 10 c1 10 none 0 0 0,memV none 0 0 0 1]) (by simp[results,Tryz.results72,go_sem]) rfl ?_
 refine⟨_,_,rfl,?_,exI⟩
 exact OwnB.moved2 hb1 tR ta ta TC
theorem tmod_ways(k m:Int)(hm:1≤m):k.tmod m=k % m∨k.tmod m=k % m-m:=by
 rw[Int.tmod_eq_emod]
 have hn:(m.natAbs:Int)=m:=Int.natAbs_of_nonneg tB
 split
 ·exact .inl tB
 ·exact .inr tB
theorem rem_pos(k m:Int)(hm:1≤m):(k.tmod m+m).tmod m=k % m:=by
 have e0:=Int.emod_nonneg k (b:=m) tB
 have e1:=Int.emod_lt_of_pos k (b:=m) tB
 rcases tmod_ways k m hm with h|h <;> rw[h]
 ·rw[Int.tmod_eq_emod_of_nonneg tB,Int.add_emod_right,Int.emod_emod]
 ·rw[show k % m-m+m=k % m by omega,Int.tmod_eq_emod_of_nonneg e0,Int.emod_emod]
theorem kept_facts(n:Nat)(f k:Int)(h0:0≤f)(h1:f≤n)(hn:n≤100000):∃ L:Nat,L≤n∧f+k % ((n:Int)-f+1)=L∧¬ ((n:Int)-f+1=0)∧(-100001≤k.tmod ((n:Int)-f+1)∧k.tmod ((n:Int)-f+1)≤100001)∧
 (k.tmod ((n:Int)-f+1)+((n:Int)-f+1)).tmod ((n:Int)-f+1)=(L:Int)-f:=by
 have hm:1≤(n:Int)-f+1:=by omega
 have e0:=Int.emod_nonneg k (b:=(n:Int)-f+1) tB
 have e1:=Int.emod_lt_of_pos k (b:=(n:Int)-f+1) tB
 have h2:=tmod_ways k _ hm
 refine⟨(f+k % ((n:Int)-f+1)).toNat,by omega,by omega,by omega,⟨by omega,by omega⟩,?_⟩
 rw[rem_pos _ _ hm]
 omega
set_option maxRecDepth 100000 in
set_option maxHeartbeats 4000000 in
theorem Crash_ok(A0:Option Addr)(n0 c0:Nat)(A1:Option Addr)(n1 c1:Nat)(D:DriveD)(k0 k1:Int)(hl0:D.f0.bytes.length=n0)(hl1:D.f1.bytes.length=n1)(hc0:n0≤c0)(hc1:n1≤c1)(hbig0:c0≤9223372036854775807)(hbig1:c1≤9223372036854775807)
 (hk0: -9223372036854775808≤k0) (hk0':k0≤9223372036854775807) (hk1: -9223372036854775808≤k1) (hk1':k1≤9223372036854775807) (hok:driveOk D=true) (w:World) (hb0:Byt w A0 D.f0.bytes) (hb1:Byt w A1 D.f1.bytes):
 Calls Tryz.prog 13 #[drvV A0 n0 c0 D.f0.firm A1 n1 c1 D.f1.firm,.agg #[.int .i64 k0,.int .i64 k1]] w fun e w'=> ∃v,e= .returned v∧DrvO w.heap.size w' (crashD D k0 k1) v∧Ext w w':=by
 have hdo:=driveOk_eq D n0 n1 hl0 hl1
 rw[hok] at hdo
 have hok2:=hdo.symm
 obtain⟨⟨⟨i0,i1⟩,i2⟩,⟨⟨j0,j1⟩,j2⟩⟩:((0≤D.f0.firm∧D.f0.firm≤n0)∧n0≤100000)∧((0≤D.f1.firm∧D.f1.firm≤n1)∧n1≤100000):=by
  simpa [dOk,fOk,inB,Bool.and_eq_true] using hok2
 obtain⟨f0,hf0⟩:∃ f0,D.f0.firm=f0:=⟨_,rfl⟩
 obtain⟨f1,hf1⟩:∃ f1,D.f1.firm=f1:=⟨_,rfl⟩
 rw[hf0] at i0 i1 hok2
 rw[hf1] at j0 j1 hok2
 rw[hf0,hf1]
 obtain⟨L0,a0,a1,a2,⟨a3,a4⟩,a5⟩:=kept_facts n0 f0 k0 i0 i1 i2
 obtain⟨L1,b0,b1,b2,⟨b3,b4⟩,b5⟩:=kept_facts n1 f1 k1 j0 j1 j2
 have HA:=hid a1
 have HB:=hid b1
 obtain⟨m0,hm0⟩:∃ m0,(n0:Int)-f0+1=m0:=⟨_,rfl⟩
 obtain⟨m1,hm1⟩:∃ m1,(n1:Int)-f1+1=m1:=⟨_,rfl⟩
 rw[hm0] at a2 a3 a4 a5
 rw[hm1] at b2 b3 b4 b5
 obtain⟨r0,hr0⟩:∃ r0,k0.tmod m0=r0:=⟨_,rfl⟩
 obtain⟨r1,hr1⟩:∃ r1,k1.tmod m1=r1:=⟨_,rfl⟩
 rw[hr0] at a3 a4 a5
 rw[hr1] at b3 b4 b5
 clear hdo a1 b1
 have g0:f0+((L0:Int)-f0)=L0:=by omega
 have g1:f1+((L1:Int)-f1)=L1:=by omega
 have hb0':=hb0.take L0 tB
 have hb1':=hb1.take L1 tB
 have t0:(D.f0.bytes.take L0).length=L0:=by rw[List.length_take];omega
 have t1:(D.f1.bytes.take L1).length=L1:=by rw[List.length_take];omega
 have hcr:Hid (crashD D k0 k1=⟨⟨D.f0.bytes.take L0,L0⟩,⟨D.f1.bytes.take L1,L1⟩⟩):=hid (by
  have q0:keptI D.f0 k0=L0:=by rw[keptI,hl0,hf0];exact HA.out
  have q1:keptI D.f1 k1=L1:=by rw[keptI,hl1,hf1];exact HB.out
  rw[crashD,if_pos hok,crashF,crashF,q0,q1]
  simp)
 have T0:=hid t0
 have T1:=hid t1
 clear HA HB t0 t1
 go_enter Tryz.func13,Tryz.ntmps13
 go_wp2_with (go_at_call 56;refine(isDrive_any _ _ _ _ _ _ _ _ _).mono ?_;rintro e w1 ⟨rfl,E1,d1,rfl⟩)
 refine wp_loop_rounds 3 ?_
 rw[rounds_succ]
 go_wp2_with fail
 refine wp_region_ord_same (.f 0 (.f 1 (.f 2 (.f 3 (.f 4 (.f 5 (.f 6 (.f 7 (.f 8 (.f 9 (.f 10 (.f 11 (.f 12 .d))))))))))))) tG tG ?_
 refine oR ?_
 refine wpOrd_nil ?_
 go_wp2_with fail
 refine(fileCopy_any _ _ _ _ (D.f0.bytes.take L0) T0.out tB _ (bytI ‹_›)).mono ?_
 rintro e w1 ⟨Af1,rfl,hbf1,E2,d2,rfl⟩
 go_wp2_with fail
 rw[rounds_succ]
 go_wp2_with fail
 refine wp_region_ord_same (.f 0 (.f 1 (.f 2 (.f 3 (.f 4 (.f 5 (.f 6 (.f 7 (.f 8 (.f 9 (.f 10 (.f 11 (.f 12 .d))))))))))))) tG tG ?_
 refine oR ?_
 refine wpOrd_nil ?_
 go_wp2_with fail
 refine(fileCopy_any _ _ _ _ (D.f1.bytes.take L1) T1.out tB _ (bytI ‹_›)).mono ?_
 rintro e w1 ⟨Af2,rfl,hbf2,E3,d3,rfl⟩
 go_wp2_with fail
 rw[rounds_succ]
 go_wp2_with fail
 refine bodyPost_ret (v:=drvV Af1 L0 L0 L0 Af2 L1 L1 L1) (by simp[results,Tryz.results13,go_sem]) rfl ?_
 refine⟨_,rfl,?_,exI⟩
 rw[hcr.out]
 refine⟨Af1,Af2,by simp only[T0.out,T1.out],?_,?_⟩
 ·simp only[T0.out]
  exact OwnB.moved2 hbf1 tR ta ta TC
 ·simp only[T1.out]
  exact OwnB.moved2 hbf2 tR ta ta TC
set_option maxRecDepth 100000 in
set_option maxHeartbeats 4000000 in
theorem Crash_any(A0:Option Addr)(n0 c0:Nat)(A1:Option Addr)(n1 c1:Nat)(D:DriveD)(k0 k1:Int)(hl0:D.f0.bytes.length=n0)(hl1:D.f1.bytes.length=n1)(hc0:n0≤c0)(hc1:n1≤c1)(hbig0:c0≤9223372036854775807)(hbig1:c1≤9223372036854775807)(hsm0:n0≤140737488355328)(hsm1:n1≤140737488355328)
 (hk0: -9223372036854775808≤k0) (hk0':k0≤9223372036854775807) (hk1: -9223372036854775808≤k1) (hk1':k1≤9223372036854775807) (w:World) (hb0:Byt w A0 D.f0.bytes) (hb1:Byt w A1 D.f1.bytes):
 Calls Tryz.prog 13 #[drvV A0 n0 c0 D.f0.firm A1 n1 c1 D.f1.firm,.agg #[.int .i64 k0,.int .i64 k1]] w fun e w'=> ∃v,e= .returned v∧DrvO w.heap.size w' (crashD D k0 k1) v∧Ext w w':=by
 cases hok:driveOk D with
 | true=>exact Crash_ok A0 n0 c0 A1 n1 c1 D k0 k1 hl0 hl1 hc0 hc1 hbig0 hbig1 hk0 hk0' hk1 hk1' hok w hb0 hb1
 | false=>
  have hdo:=driveOk_eq D n0 n1 hl0 hl1
  rw[hok] at hdo
  have hok2:=hdo.symm
  have HC:Hid (crashD D k0 k1=D):=hid (by rw[crashD,if_neg (by simp[hok])])
  clear hdo hok
  go_enter Tryz.func13,Tryz.ntmps13
  go_wp2_with (first|(go_at_call 56;refine(isDrive_any _ _ _ _ _ _ _ _ _).mono ?_;rintro e w1 ⟨rfl,E1,d1,rfl⟩)|(go_at_call 57;refine(driveCopy_any _ _ _ _ _ _ _ _ _ _ tZ tZ tB tB _ (bytI ‹_›) (bytI ‹_›)).mono ?_;rintro e w1 ⟨Ax1,Ay1,rfl,hox1,hoy1,E1,d1,rfl⟩))
  refine bodyPost_ret (v:=drvV Ax1 n0 n0 D.f0.firm Ay1 n1 n1 D.f1.firm) (by simp[results,Tryz.results13,go_sem]) rfl ?_
  refine⟨_,rfl,?_,exI⟩
  rw[HC.out]
  refine⟨Ax1,Ay1,by rw[hl0,hl1],?_,?_⟩
  ·rw[hl0]
   exact OwnB.moved2 hox1 tR ta ta TC
  ·rw[hl1]
   exact OwnB.moved2 hoy1 tR ta ta TC
end Go.Proofs.YtekjdeibnfaehaaGreat
