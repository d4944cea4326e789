/- Texts of a proof. -/
import Derived.Test.YtekjdeibnfaehaaGreatKDaa
import Derived.MapKept
set_option linter.unusedSimpArgs false
set_option linter.unusedVariables false
namespace Go.Proofs.YtekjdeibnfaehaaGreat
open Go.RowKit
theorem run_mapUpdate_top{P:Program}(w:World)(t k e:TypeId)(x:Int)(v:Value)(g:Nat)(es:Array MapEntry)(c:Nat)(hm:P.underlying t=some (.map k e))(hk:P.underlying k=some (.int .i64))
 (hg:g=w.heap.size) (hf:Instr.findNow (.int .i64) (.int .i64 x) es.toList 0=some none):
 (Instr.mapUpdate t (.map (some g)) (.int .i64 x) v).run P (w.alloc (.map es c))= .ok () (w.alloc (.map (es.push {key:=.int .i64 x,val:=v,born:=c}) (c+1))):=by
 subst hg
 have hb:(w.alloc (.map es c)).heap[w.heap.size]? =some (.map es c):=by simp only[World.alloc];exact Array.getElem?_push_size
 have hck:(Instr.checkKey false (9999+1) k (.int .i64 x)).run P (w.alloc (.map es c))= .ok () (w.alloc (.map es c)):=MapKept.run_checkKey hk (by trivial) _ _
 unfold Instr.mapUpdate
 simp only[Sem.run_bind,run_underlying hm,Result.andThen_ok,MapKept.run_getObj_map hb]
 rw[hck]
 simp only[Result.andThen_ok,MapKept.run_findKey hk hf,MapKept.run_setObj_map _ hb]
 simp only[World.alloc,Result.ok.injEq,true_and,World.mk.injEq,and_true]
 apply Array.ext_getElem?
 intro i
 simp only[Array.getElem?_setIfInBounds,Array.getElem?_push,Array.size_push]
 by_cases h:i=w.heap.size
 ·subst h;simp
 ·rw[if_neg (Ne.symm h),if_neg h,if_neg h]
theorem run_lookup_top{P:Program}(w:World)(t k e:TypeId)(x:Int)(v:Value)(j:Nat)(g:Nat)(es:Array MapEntry)(c:Nat)(hm:P.underlying t=some (.map k e))(hk:P.underlying k=some (.int .i64))
 (hg:g=w.heap.size) (hf:Instr.findNow (.int .i64) (.int .i64 x) es.toList 0=some (some (j,v))):
 (Instr.lookup t (.map (some g)) (.int .i64 x) true).run P (w.alloc (.map es c))= .ok (.tuple #[v,.bool true]) (w.alloc (.map es c)):=by
 subst hg
 have hb:(w.alloc (.map es c)).heap[w.heap.size]? =some (.map es c):=by simp only[World.alloc];exact Array.getElem?_push_size
 have hck:∀ b,(Instr.checkKey b (9999+1) k (.int .i64 x)).run P (w.alloc (.map es c))= .ok () (w.alloc (.map es c)):=fun b=>MapKept.run_checkKey hk (by trivial) _ _
 unfold Instr.lookup
 simp only[Sem.run_bind,run_underlying hm,Result.andThen_ok,MapKept.run_getObj_map hb,Sem.run_pure]
 rw[hck]
 simp only[Result.andThen_ok,MapKept.run_findKey hk hf,Sem.run_bind,Sem.run_pure,if_true]
theorem run_lookup_top_no{P:Program}(w:World)(t k e:TypeId)(x:Int)(z:Value)(g:Nat)(es:Array MapEntry)(c:Nat)(hm:P.underlying t=some (.map k e))(hk:P.underlying k=some (.int .i64))
 (hz:∀ w,(zeroValue e).run P w= .ok z w) (hg:g=w.heap.size) (hf:Instr.findNow (.int .i64) (.int .i64 x) es.toList 0=some none):
 (Instr.lookup t (.map (some g)) (.int .i64 x) true).run P (w.alloc (.map es c))= .ok (.tuple #[z,.bool false]) (w.alloc (.map es c)):=by
 subst hg
 have hb:(w.alloc (.map es c)).heap[w.heap.size]? =some (.map es c):=by simp only[World.alloc];exact Array.getElem?_push_size
 have hck:∀ b,(Instr.checkKey b (9999+1) k (.int .i64 x)).run P (w.alloc (.map es c))= .ok () (w.alloc (.map es c)):=fun b=>MapKept.run_checkKey hk (by trivial) _ _
 unfold Instr.lookup
 simp only[Sem.run_bind,run_underlying hm,Result.andThen_ok,MapKept.run_getObj_map hb,Sem.run_pure]
 rw[hck]
 simp only[Result.andThen_ok,MapKept.run_findKey hk hf,Sem.run_bind,Sem.run_pure,hz,if_true]
def asksM:Array MapEntry:=#[⟨.int .i64 0,.func (.func 161) #[] #[],0⟩,⟨.int .i64 1,.func (.func 162) #[] #[],1⟩]
set_option maxHeartbeats 1000000 in
theorem asks_any(w:World):
 Calls Tryz.prog 142 #[] w fun e w'=>e= .returned (.map (some w.heap.size))∧w.alloc (.map asksM 2)=w':=by
 have hmm:=@run_makeMap Tryz.prog
 have h0:=run_mapUpdate_top (P:=Tryz.prog) w 195 3 _ 0 (.func (.func 161) #[] #[]) w.heap.size #[] 0 Tryz.underlying195 Tryz.underlying3 rfl rfl
 have h1:=run_mapUpdate_top (P:=Tryz.prog) w 195 3 _ 1 (.func (.func 162) #[] #[]) w.heap.size #[⟨.int .i64 0,.func (.func 161) #[] #[],0⟩] 1 Tryz.underlying195 Tryz.underlying3 rfl rfl
 simp only[List.push_toArray,List.nil_append,List.cons_append] at h0 h1
 go_enter Tryz.func142,Tryz.ntmps142
 go_wp2_with fail
 go_ret
 exact⟨rfl,rfl⟩
def chrOk(c:UInt8):Bool:=decide (32≤c.toNat)&&decide (c.toNat≤126)
def txtOk(t:ByteArray):Bool:=decide (t.size≤200)&&t.data.toList.all chrOk
def kindB(r:Rec):Bool:=if r.kind=0 then withdrawB r else if r.kind=1 then leaseB r else eventB r
def recOk(r:Rec):Bool:=isPlaceB r.ao r.sq&&inB r.kind 0 29&&inB r.day 0 100000&&inB r.known 0 100000&&txtOk r.text&&kindB r
theorem inB_spec{n a b:Int}:inB n a b=true↔a≤n∧n≤b:=by simp[inB]
theorem all_snoc(l:List UInt8)(k:Nat)(hk:k<l.length)(h:(l.take k).all chrOk=true)(h':chrOk l[k]=true):(l.take (k+1)).all chrOk=true:=by
 rw[List.take_succ_eq_append_getElem hk,List.all_append,h]
 simp[h']
theorem all_not(l:List UInt8)(k:Nat)(hk:k<l.length)(h':chrOk l[k]=false):l.all chrOk=false:=by
 rw[List.all_eq_false]
 exact⟨_,List.getElem_mem hk,by simp[h']⟩
set_option maxRecDepth 100000 in
set_option maxHeartbeats 2000000 in
theorem isRecord_no(r:Rec)(w:World)(h:(isPlaceB r.ao r.sq&&inB r.kind 0 29&&inB r.day 0 100000&&inB r.known 0 100000&&decide (r.text.size≤200))=false)(hs:r.text.size≤9223372036854775807):
 Calls Tryz.prog 107 #[recV r] w fun e w'=>e= .returned (.bool false)∧Ext w w':=by
 go_enter Tryz.func107,Tryz.ntmps107
 go_wp2_with (first|(go_at_call 139;refine(isPlace_any _ _ _).mono ?_;rintro e w1 ⟨rfl,E,d,rfl⟩)|(go_at_call 117;refine(in_any _ _ _ _).mono ?_;rintro e w1 ⟨rfl,rfl⟩)|(go_at_call 88;refine(isDay_any _ _).mono ?_;rintro e w1 ⟨rfl,rfl⟩))
 all_goals first
  | (go_ret;exact⟨rfl,exI⟩)
  | (exfalso;simp_all;omega)
set_option maxRecDepth 100000 in
set_option maxHeartbeats 2000000 in
theorem isRecord_yes(r:Rec)(w:World)(p1:isPlaceB r.ao r.sq=true)(p2:inB r.kind 0 29=true)(p3:inB r.day 0 100000=true)(p4:inB r.known 0 100000=true)(p5:r.text.size≤200):
 Calls Tryz.prog 107 #[recV r] w fun e w'=>e= .returned (.bool (recOk r))∧Ext w w':=by
 obtain⟨hd,hd'⟩:=inB_spec.1 p3
 have p5':decide (200<(r.text.size:Int))=false:=by simp;omega
 have hfin:recOk r=(r.text.data.toList.all chrOk&&kindB r):=by simp[recOk,txtOk,p1,p2,p3,p4,p5]
 have Hfin:=hid hfin
 clear hfin
 go_enter Tryz.func107,Tryz.ntmps107
 go_wp2_with (first|(go_at_call 139;refine(isPlace_any _ _ _).mono ?_;rintro e w1 ⟨rfl,E,d,rfl⟩)|(go_at_call 117;refine(in_any _ _ _ _).mono ?_;rintro e w1 ⟨rfl,rfl⟩)|(go_at_call 88;refine(isDay_any _ _).mono ?_;rintro e w1 ⟨rfl,rfl⟩))
 go_loop [3,37] (fun _ i=> ∃k:Nat,k≤r.text.size∧i= .int .i64 k∧(r.text.data.toList.take k).all chrOk=true) (fun _ i=>r.text.size-(intOf i).toNat)
 case atStart=>exact⟨0,Nat.zero_le _,rfl,rfl⟩
 case round=>
  obtain⟨k,hk,rfl,hall⟩:=hrel
  have Hall:=hid hall
  clear hall
  by_cases hlt:k<r.text.size
  ·have hb:r.text.data.toList[k]'tJ=r.text[k]:=rfl
   go_wp2_with fail
   ·go_ret
    refine⟨ret_val ?_,exI⟩
    show Value.bool _=_
    rw[Hfin.out,all_not _ k tJ tK]
    rfl
   ·go_round
    case rel=>exact⟨k+1,by omega,by go_num,all_snoc _ k tJ Hall.out tK⟩
    case measure=>simp[intOf];omega
   ·go_ret
    refine⟨ret_val ?_,exI⟩
    show Value.bool _=_
    rw[Hfin.out,all_not _ k tJ tK]
    rfl
  ·obtain rfl:k=r.text.size:=by omega
   have hall:r.text.data.toList.all chrOk=true:=by
    have h1:=Hall.out
    rwa [List.take_of_length_le tE] at h1
   have hfin2:recOk r=kindB r:=by rw[Hfin.out,hall];rfl
   have Hfin2:=hid hfin2
   clear hfin2 Hfin Hall hall hlt hk
   by_cases k0:r.kind=0
   ·have hlk:∀ (W:World) (g:Nat),g=W.heap.size→(Instr.lookup 195 (.map (some g)) (.int .i64 r.kind) true).run Tryz.prog (W.alloc (.map asksM 2))=
     .ok (.tuple #[.func (.func 161) #[] #[],.bool true]) (W.alloc (.map asksM 2)):=fun W g hg=>
     run_lookup_top W _ 3 _ _ _ 0 g _ _ Tryz.underlying195 Tryz.underlying3 hg (by rw[k0];rfl)
    have K0:=hid k0
    clear k0
    go_wp2_with fail
    refine wp_region_ord_same (.f 1 (.f 2 (.a 0 (.a 3 (.f 4 (.f 5 (.f 6 (.f 7 (.f 8 .d))))))))) tG tG ?_
    refine oR ?_
    refine wpOrd_call rfl rfl rfl Tryz.call142 (fun R hR=> ?_)
    go_simp
    refine(asks_any _).mono ?_
    rintro e w1 ⟨rfl,rfl⟩
    refine hR _ _ ⟨_,rfl,?_,?_⟩
    ·exact tH
    clear hR R
    simp only[Act.put,zp]
    refine wpOrd_act rfl rfl (fun K hK=> ?_)
    go_simp
    refine hK _ _ ⟨?_,?_⟩
    ·exact tH
    clear hK K
    try simp only[Act.put,zp]
    refine oR ?_
    refine wpOrd_nil ?_
    go_wp2_with (go_at_call 161;refine(withdraws_any _ _).mono ?_;rintro e w1 ⟨rfl,E,d,rfl⟩)
    go_ret
    refine⟨ret_val ?_,exI⟩
    show Value.bool _=_
    rw[Hfin2.out,kindB,if_pos K0.out]
   ·by_cases k1:r.kind=1
    ·have hlk:∀ (W:World) (g:Nat),g=W.heap.size→(Instr.lookup 195 (.map (some g)) (.int .i64 r.kind) true).run Tryz.prog (W.alloc (.map asksM 2))=
      .ok (.tuple #[.func (.func 162) #[] #[],.bool true]) (W.alloc (.map asksM 2)):=fun W g hg=>
      run_lookup_top W _ 3 _ _ _ 1 g _ _ Tryz.underlying195 Tryz.underlying3 hg (by rw[k1];rfl)
     have K0:=hid k0
     have K1:=hid k1
     clear k0 k1
     go_wp2_with fail
     refine wp_region_ord_same (.f 1 (.f 2 (.a 0 (.a 3 (.f 4 (.f 5 (.f 6 (.f 7 (.f 8 .d))))))))) tG tG ?_
     refine oR ?_
     refine wpOrd_call rfl rfl rfl Tryz.call142 (fun R hR=> ?_)
     go_simp
     refine(asks_any _).mono ?_
     rintro e w1 ⟨rfl,rfl⟩
     refine hR _ _ ⟨_,rfl,?_,?_⟩
     ·exact tH
     clear hR R
     simp only[Act.put,zp]
     refine wpOrd_act rfl rfl (fun K hK=> ?_)
     go_simp
     refine hK _ _ ⟨?_,?_⟩
     ·exact tH
     clear hK K
     try simp only[Act.put,zp]
     refine oR ?_
     refine wpOrd_nil ?_
     go_wp2_with (go_at_call 162;refine(leases_any _ hd hd' _).mono ?_;rintro e w1 ⟨rfl,E,d,rfl⟩)
     go_ret
     refine⟨ret_val ?_,exI⟩
     show Value.bool _=_
     rw[Hfin2.out,kindB,if_neg K0.out,if_pos K1.out]
    ·have hlk:∀ (W:World) (g:Nat),g=W.heap.size→(Instr.lookup 195 (.map (some g)) (.int .i64 r.kind) true).run Tryz.prog (W.alloc (.map asksM 2))=
      .ok (.tuple #[.nilFunc,.bool false]) (W.alloc (.map asksM 2)):=fun W g hg=>
      run_lookup_top_no W _ 3 193 _ _ g _ _ Tryz.underlying195 Tryz.underlying3 Tryz.zeroValue193 hg
       (by simp only[asksM,Instr.findNow,Instr.sameNow,if_true,beq_eq_false_iff_ne.2 k0,beq_eq_false_iff_ne.2 k1])
     have K0:=hid k0
     have K1:=hid k1
     clear k0 k1
     go_wp2_with fail
     refine wp_region_ord_same (.f 1 (.f 2 (.a 0 (.a 3 (.f 4 (.f 5 (.f 6 (.f 7 (.f 8 .d))))))))) tG tG ?_
     refine oR ?_
     refine wpOrd_call rfl rfl rfl Tryz.call142 (fun R hR=> ?_)
     go_simp
     refine(asks_any _).mono ?_
     rintro e w1 ⟨rfl,rfl⟩
     refine hR _ _ ⟨_,rfl,?_,?_⟩
     ·exact tH
     clear hR R
     simp only[Act.put,zp]
     refine wpOrd_act rfl rfl (fun K hK=> ?_)
     go_simp
     refine hK _ _ ⟨?_,?_⟩
     ·exact tH
     clear hK K
     try simp only[Act.put,zp]
     refine oR ?_
     refine wpOrd_nil ?_
     go_wp2_with (go_at_call 143;refine(tells_any _ _).mono ?_;rintro e w1 ⟨rfl,E,d,rfl⟩)
     go_ret
     refine⟨ret_val ?_,exI⟩
     show Value.bool _=_
     rw[Hfin2.out,kindB,if_neg K0.out,if_neg K1.out]
theorem isRecord_any(r:Rec)(w:World)(hs:r.text.size≤9223372036854775807):
 Calls Tryz.prog 107 #[recV r] w fun e w'=>e= .returned (.bool (recOk r))∧Ext w w':=by
 by_cases h:(isPlaceB r.ao r.sq&&inB r.kind 0 29&&inB r.day 0 100000&&inB r.known 0 100000&&decide (r.text.size≤200))=true
 ·simp only[Bool.and_eq_true,decide_eq_true_eq] at h
  exact isRecord_yes r w h.1.1.1.1 h.1.1.1.2 h.1.1.2 h.1.2 h.2
 ·have h:=eq_false_of_ne_true h
  refine(isRecord_no r w h hs).mono ?_
  rintro e w' ⟨rfl,hx⟩
  refine⟨ret_val ?_,hx⟩
  have:recOk r=false:=by
   rw[←h,recOk,txtOk]
   rw[Bool.eq_iff_iff] at *
   simp at *
   grind
  rw[this]
end Go.Proofs.YtekjdeibnfaehaaGreat
namespace Go.Proofs.YtekjdeibnfaehaaGreat
open Go.RowKit
set_option maxHeartbeats 400000 in
theorem rin_any(a b c:Int)(w:World):
 Calls Tryz.prog 92 #[.int .i64 a,.int .i64 b,.int .i64 c] w fun e w'=>e= .returned (.bool (inB a b c))∧w=w':=by
 go_enter Tryz.func92,Tryz.ntmps92
 go_wp2_with fail
 all_goals
  go_ret
  refine⟨ret_val ?_,rfl⟩
  show Value.bool _=_
  simp[inB]
  try omega
set_option maxHeartbeats 400000 in
theorem risPlace_any(o s:Int)(w:World):
 Calls Tryz.prog 141 #[.agg #[.int .i64 o,.int .i64 s]] w fun e w'=>e= .returned (.bool (isPlaceB o s))∧Ext w w':=by
 go_enter Tryz.func141,Tryz.ntmps141
 go_wp2_with (go_at_call 92;refine(rin_any _ _ _ _).mono ?_;rintro e w1 ⟨rfl,rfl⟩)
 all_goals
  go_ret
  refine⟨ret_val ?_,exI⟩
  show Value.bool _=_
  simp[isPlaceB, *]
set_option maxHeartbeats 400000 in
theorem rHome_any(ship:Int)(w:World):
 Calls Tryz.prog 147 #[.int .i64 ship] w fun e w'=>e= .returned (.int .i64 (homeI ship))∧w=w':=by
 by_cases h:inB ship 1 999=true
 ·have h':0≤ship:=by unfold inB at h;simp at h;omega
  have hr:homeI ship=ship % 9:=by rw[homeI,if_pos h]
  go_enter Tryz.func147,Tryz.ntmps147
  go_wp2_with (go_at_call 92;refine(rin_any _ _ _ _).mono ?_;rintro e w1 ⟨rfl,rfl⟩)
  go_ret
  exact⟨ret_val (by rw[hr];rfl),rfl⟩
 ·have hr:homeI ship= -1:=by rw[homeI,if_neg h]
  have h:=eq_false_of_ne_true h
  go_enter Tryz.func147,Tryz.ntmps147
  go_wp2_with (go_at_call 92;refine(rin_any _ _ _ _).mono ?_;rintro e w1 ⟨rfl,rfl⟩)
  go_ret
  exact⟨ret_val (by rw[hr];rfl),rfl⟩
set_option maxHeartbeats 1000000 in
theorem isText_any(t:ByteArray)(w:World)(hs:t.size≤9223372036854775807):
 Calls Tryz.prog 146 #[.string t] w fun e w'=>e= .returned (.bool (txtOk t))∧w=w':=by
 go_enter Tryz.func146,Tryz.ntmps146
 go_wp2_with fail
 go_loop [3] (fun i=> ∃k:Nat,k≤t.size∧i= .int .i64 k∧(t.data.toList.take k).all chrOk=true) (fun i=>t.size-(intOf i).toNat)
 case atStart=>exact⟨0,Nat.zero_le _,rfl,rfl⟩
 case round=>
  obtain⟨k,hk,rfl,hall⟩:=hrel
  have Hall:=hid hall
  clear hall
  by_cases hlt:k<t.size
  ·have hb:t.data.toList[k]'tJ=t[k]:=rfl
   have hno:chrOk t[k]=false→txtOk t=false:=fun h=>by
    rw[txtOk,all_not _ k tJ (by rw[hb];exact h),Bool.and_false]
   go_wp2_with fail
   ·go_ret
    refine⟨ret_val ?_,rfl⟩
    show Value.bool _=_
    rw[hno (by simp only[chrOk];simp;omega)]
   ·go_round
    case rel=>exact⟨k+1,by omega,by go_num,all_snoc _ k tJ Hall.out tK⟩
    case measure=>simp[intOf];omega
   ·go_ret
    refine⟨ret_val ?_,rfl⟩
    show Value.bool _=_
    rw[hno (by simp only[chrOk];simp;omega)]
  ·obtain rfl:k=t.size:=by omega
   have hall:t.data.toList.all chrOk=true:=by
    have h1:=Hall.out
    rwa [List.take_of_length_le tE] at h1
   go_wp2_with fail
   go_ret
   refine⟨ret_val ?_,rfl⟩
   show Value.bool _=_
   rw[txtOk,hall]
   simp
   omega
set_option maxRecDepth 100000 in
set_option maxHeartbeats 1000000 in
theorem CheckRecord_no(r:Rec)(w:World)(h:(isPlaceB r.ao r.sq&&inB r.kind 0 29&&inB r.day 0 100000&&inB r.known 0 100000&&txtOk r.text)=false)(hs:r.text.size≤9223372036854775807):
 Calls Tryz.prog 109 #[recV r] w fun e w'=>e= .returned (.int .i64 70)∧Ext w w':=by
 go_enter Tryz.func109,Tryz.ntmps109
 go_wp2_with (first|(go_at_call 141;refine(risPlace_any _ _ _).mono ?_;rintro e w1 ⟨rfl,E,d,rfl⟩)|(go_at_call 92;refine(rin_any _ _ _ _).mono ?_;rintro e w1 ⟨rfl,rfl⟩)|(go_at_call 146;refine(isText_any _ _ tF).mono ?_;rintro e w1 ⟨rfl,rfl⟩))
 all_goals first
  | (go_ret;exact⟨rfl,exI⟩)
  | (exfalso;simp_all;done)
def errRec(r:Rec):Int:=if recOk r=true then 0 else 70
theorem errRec_of{r:Rec}{b:Bool}(h:recOk r=b):errRec r=if b=true then 0 else 70:=by rw[errRec,h]
set_option maxRecDepth 100000 in
set_option maxHeartbeats 2000000 in
theorem CheckRecord_yes(r:Rec)(w:World)(p1:isPlaceB r.ao r.sq=true)(p2:inB r.kind 0 29=true)(p3:inB r.day 0 100000=true)(p4:inB r.known 0 100000=true)(p5:txtOk r.text=true)(hs:r.text.size≤9223372036854775807):
 Calls Tryz.prog 109 #[recV r] w fun e w'=>e= .returned (.int .i64 (errRec r))∧Ext w w':=by
 obtain⟨hd,hd'⟩:=inB_spec.1 p3
 have hw1:IntKind.i64.wrap (r.day+400)=r.day+400:=IntWalk.i64_in _ tB
 have hw2:IntKind.i64.wrap (r.day+400-1)=r.day+399:=by rw[show r.day+400-1=r.day+399 from by omega];exact IntWalk.i64_in _ tB
 have hmin:(if 100000<r.day+399 then 100000 else r.day+399)=minI 100000 (r.day+399):=by unfold minI;(repeat split) <;> omega
 have hfin:recOk r=kindB r:=by simp[recOk,p1,p2,p3,p4,p5]
 have Hfin:=hid hfin
 clear hfin
 by_cases k0:r.kind=0
 ·have hkb:kindB r=withdrawB r:=by rw[kindB,if_pos k0]
  have Hkb:=hid hkb
  have k0':(r.kind==0)=true:=by simpa using k0
  clear hkb k0 hw1 hw2 hmin
  go_enter Tryz.func109,Tryz.ntmps109
  go_wp2_with (first|(go_at_call 141;refine(risPlace_any _ _ _).mono ?_;rintro e w1 ⟨rfl,E,d,rfl⟩)|(go_at_call 92;refine(rin_any _ _ _ _).mono ?_;rintro e w1 ⟨rfl,rfl⟩)|(go_at_call 146;refine(isText_any _ _ tF).mono ?_;rintro e w1 ⟨rfl,rfl⟩))
  all_goals
   go_ret
   refine⟨ret_val ?_,exI⟩
   show Value.int .i64 _=_
   rw[errRec_of (Hfin.out.trans Hkb.out)]
   first|(simp[withdrawB,plcEqB, *];done)|(simp_all [withdrawB,plcEqB];done)|(simp_all [withdrawB,plcEqB];intro h;omega)
 ·by_cases k1:r.kind=1
  ·have hkb:kindB r=leaseB r:=by rw[kindB,if_neg k0,if_pos k1]
   have Hkb:=hid hkb
   have k0':(r.kind==0)=false:=by simpa using k0
   have k1':(r.kind==1)=true:=by simpa using k1
   clear hkb k0 k1
   go_enter Tryz.func109,Tryz.ntmps109
   go_wp2_with (first|(go_at_call 141;refine(risPlace_any _ _ _).mono ?_;rintro e w1 ⟨rfl,E,d,rfl⟩)|(go_at_call 92;refine(rin_any _ _ _ _).mono ?_;rintro e w1 ⟨rfl,rfl⟩)|(go_at_call 146;refine(isText_any _ _ tF).mono ?_;rintro e w1 ⟨rfl,rfl⟩))
   refine wp_region_ord_same (.f 0 (.f 1 (.a 2 (.f 3 (.f 4 (.f 5 (.f 7 (.f 8 (.f 9 (.a 6 (.f 10 (.f 11 (.f 12 (.f 13 (.f 14 (.a 15 (.f 16 (.f 17 (.f 18 (.f 19 (.f 20 (.f 21 (.f 22 (.f 23 (.f 24 (.f 25 (.f 26 (.a 27 (.f 28 (.f 29 (.f 30 (.f 31 (.f 32 (.f 33 (.f 34 (.f 35 (.f 36 (.f 37 (.f 38 (.f 39 (.f 40 .d))))))))))))))))))))))))))))))))))))))))) tG tG ?_
   refine oR ?_
   refine wpOrd_call rfl rfl rfl Tryz.call92 (fun R hR=> ?_)
   go_simp
   refine(rin_any _ _ _ _).mono ?_
   rintro e w1 ⟨rfl,rfl⟩
   refine hR _ _ ⟨_,rfl,?_,?_⟩
   ·exact tH
   clear hR R
   simp only[Act.put,zp]
   refine oR ?_
   refine ord_bool (j:=3) rfl (fun hb3=> ?_) (fun hb3=> ?_)
   rotate_left
   focus
    try(exfalso;first|(simp at hb3;done)|(simp at hb3;omega))
    all_goals
     (try simp only[hb3])
     refine oR ?_
     refine wpOrd_actPass rfl rfl ?_ ?_
     ·exact tH
     simp only[Act.put,zp]
     refine oR ?_
     refine wpOrd_actPass rfl rfl ?_ ?_
     ·exact tH
     simp only[Act.put,zp]
     refine oR ?_
     refine wpOrd_actPass rfl rfl ?_ ?_
     ·exact tH
     simp only[Act.put,zp]
     refine oR ?_
     refine wpOrd_nil ?_
   rotate_right
   focus
    try(exfalso;first|(simp at hb3;done)|(simp at hb3;omega))
    all_goals
     (try simp only[hb3])
     refine oR ?_
     refine wpOrd_call rfl rfl rfl Tryz.call147 (fun R hR=> ?_)
     go_simp
     refine(rHome_any _ _).mono ?_
     rintro e w1 ⟨rfl,rfl⟩
     refine hR _ _ ⟨_,rfl,?_,?_⟩
     ·exact tH
     clear hR R
     simp only[Act.put,zp]
     refine oR ?_
     refine ord_bool (j:=12) rfl (fun hb12=> ?_) (fun hb12=> ?_)
     rotate_left
     focus
      try(exfalso;first|(simp at hb12;done)|(simp at hb12;omega))
      all_goals
       (try simp only[hb12])
       refine oR ?_
       refine wpOrd_actPass rfl rfl ?_ ?_
       ·exact tH
       simp only[Act.put,zp]
       refine oR ?_
       refine wpOrd_actPass rfl rfl ?_ ?_
       ·exact tH
       simp only[Act.put,zp]
       refine oR ?_
       refine wpOrd_nil ?_
     rotate_right
     focus
      try(exfalso;first|(simp at hb12;done)|(simp at hb12;omega))
      all_goals
       (try simp only[hb12])
       refine oR ?_
       refine wpOrd_call rfl rfl rfl Tryz.call92 (fun R hR=> ?_)
       go_simp
       refine(rin_any _ _ _ _).mono ?_
       rintro e w1 ⟨rfl,rfl⟩
       refine hR _ _ ⟨_,rfl,?_,?_⟩
       ·exact tH
       clear hR R
       simp only[Act.put,zp]
       refine oR ?_
       refine ord_bool (j:=17) rfl (fun hb17=> ?_) (fun hb17=> ?_)
       rotate_left
       focus
        try(exfalso;first|(simp at hb17;done)|(simp at hb17;omega))
        all_goals
         (try simp only[hb17])
         refine oR ?_
         refine wpOrd_actPass rfl rfl ?_ ?_
         ·exact tH
         simp only[Act.put,zp]
         refine oR ?_
         refine wpOrd_nil ?_
       rotate_right
       focus
        try(exfalso;first|(simp at hb17;done)|(simp at hb17;omega))
        all_goals
         (try simp only[hb17])
         refine oR ?_
         refine wpOrd_call rfl rfl rfl Tryz.call92 (fun R hR=> ?_)
         go_simp
         refine(rin_any _ _ _ _).mono ?_
         rintro e w1 ⟨rfl,rfl⟩
         refine hR _ _ ⟨_,rfl,?_,?_⟩
         ·exact tH
         clear hR R
         simp only[Act.put,zp]
         refine oR ?_
         refine ord_bool (j:=29) rfl (fun hb29=> ?_) (fun hb29=> ?_)
         rotate_left
         focus
          try(exfalso;first|(simp at hb29;done)|(simp at hb29;omega))
          all_goals
           (try simp only[hb29])
           refine oR ?_
           refine wpOrd_nil ?_
         rotate_right
         focus
          try(exfalso;first|(simp at hb29;done)|(simp at hb29;omega))
          all_goals
           (try simp only[hb29])
           refine oR ?_
           refine ord_bool (j:=35) rfl (fun hb35=> ?_) (fun hb35=> ?_)
           rotate_left
           focus
            try(exfalso;first|(simp at hb35;done)|(simp at hb35;omega))
            all_goals
             (try simp only[hb35])
             refine oR ?_
             refine wpOrd_nil ?_
           rotate_right
           focus
            try(exfalso;first|(simp at hb35;done)|(simp at hb35;omega))
            all_goals
             (try simp only[hb35])
             refine oR ?_
             refine wpOrd_nil ?_
   all_goals go_wp2_with fail
   all_goals
    go_ret
    refine⟨ret_val ?_,exI⟩
    show Value.int .i64 _=_
    rw[errRec_of (Hfin.out.trans Hkb.out)]
    first|(simp[leaseB,plcEqB, *];done)|(simp_all [leaseB,plcEqB];done)
  ·have hkb:kindB r=eventB r:=by rw[kindB,if_neg k0,if_neg k1]
   have Hkb:=hid hkb
   have k0':(r.kind==0)=false:=by simpa using k0
   have k1':(r.kind==1)=false:=by simpa using k1
   clear hkb k0 k1 hw1 hw2 hmin
   go_enter Tryz.func109,Tryz.ntmps109
   go_wp2_with (first|(go_at_call 141;refine(risPlace_any _ _ _).mono ?_;rintro e w1 ⟨rfl,E,d,rfl⟩)|(go_at_call 92;refine(rin_any _ _ _ _).mono ?_;rintro e w1 ⟨rfl,rfl⟩)|(go_at_call 146;refine(isText_any _ _ tF).mono ?_;rintro e w1 ⟨rfl,rfl⟩))
   all_goals
    go_ret
    refine⟨ret_val ?_,exI⟩
    show Value.int .i64 _=_
    rw[errRec_of (Hfin.out.trans Hkb.out)]
    first|(simp[eventB,plcEqB, *];done)|(simp_all [eventB,plcEqB];done)
theorem rCheckRecord_any(r:Rec)(w:World)(hs:r.text.size≤9223372036854775807):
 Calls Tryz.prog 109 #[recV r] w fun e w'=>e= .returned (.int .i64 (errRec r))∧Ext w w':=by
 by_cases h:(isPlaceB r.ao r.sq&&inB r.kind 0 29&&inB r.day 0 100000&&inB r.known 0 100000&&txtOk r.text)=true
 ·have h':=h
  simp only[Bool.and_eq_true] at h
  exact CheckRecord_yes r w h.1.1.1.1 h.1.1.1.2 h.1.1.2 h.1.2 h.2 hs
 ·have h:=eq_false_of_ne_true h
  refine(CheckRecord_no r w h hs).mono ?_
  rintro e w' ⟨rfl,hx⟩
  refine⟨ret_val ?_,hx⟩
  have:recOk r=false:=by rw[recOk,h,Bool.false_and]
  rw[errRec,this]
  rfl
end Go.Proofs.YtekjdeibnfaehaaGreat
