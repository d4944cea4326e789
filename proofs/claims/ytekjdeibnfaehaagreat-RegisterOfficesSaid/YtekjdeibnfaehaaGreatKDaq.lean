/- Texts of a proof. -/
import Derived.Test.YtekjdeibnfaehaaGreatKDap
import Derived.Test.YtekjdeibnfaehaaGreatKDak
set_option linter.unusedSimpArgs false
set_option linter.unusedVariables false
namespace Go.Proofs.YtekjdeibnfaehaaGreat
open Go Go.RowKit
theorem wpOrd_abyt{P:Program}(hP:P=Tryz.prog){ops:Array Oper}{Q:Exit→Act→World→Prop}{S:World→Prop}{i:Nat}{rest:Plan}{a:Act}{W:World}{o:Oper}(X:World)(N:Nat)(hN:N=X.heap.size)(hi:ops[i]? =some o)
 (hw:Region.wanted o (yielded ops a.tmps)=true) (s x:Operand) (ho:o.op= .call {callee:=.builtin .append,args:=#[s,x],argTypes:=#[22,22]})
 {v:Value} {l:List UInt8} (news:List UInt8) (hs:a.eval s=v) (hx:Ext X W) (hown:OwnB N W v l)
 {A:Option Addr} {m c:Nat} (hv:a.eval x= .slice A m c) (hm:m=news.length) (hr:Byt W A news) (hlen:l.length+news.length≤100000000)
 (h:∀ v' E d,OwnB N (X.ext E d) v' (l++news)→S (X.ext E d)∧wpOrd P ops Q S rest (a.put o.dst v') (X.ext E d)):wpOrd P ops Q S (.a i rest) a W:=by
 refine wpOrd_act hi hw fun K hK=> ?_
 subst hP hm hN
 obtain⟨i0,hi,hz0,hz1,hz2⟩:=info_parts info_u8
 refine wp_append (w:=X) s x 22 ho 5 i0 _ 1 1 Tryz.underlying22 hi hz0 hz1 hz2 rfl tN hs hx hown hv hr (encB_one _) tO tB fun v' E d h2=>hK _ _ (h v' E d ?_)
 unfold OwnB
 rw[List.length_append,List.map_append]
 exact h2
theorem Byt.nil(w:World)(A:Option Addr):Byt w A []:=⟨rfl,fun h=>absurd h tE⟩
theorem OwnB.cap{base n c:Nat}{w:World}{A:Option Addr}{l:List UInt8}(h:OwnB base w (.slice A n c) l):c≤9223372036854775807:=by
 rcases h.2 with⟨hv,_⟩|⟨g,cap,cur,hv,_,_,_,hc,_⟩
 ·simp only[Value.slice.injEq] at hv
  omega
 ·simp only[Value.slice.injEq] at hv
  unfold maxLen at hc
  omega
def RowB(base:Nat)(w:World)(A:Option Addr)(n c:Nat)(l:List UInt8):Prop:=l=[]∨OwnB base w (.slice A n c) l
theorem RowB.byt{base n c:Nat}{w:World}{A:Option Addr}{l:List UInt8}(h:RowB base w A n c l):Byt w A l:=by
 rcases h with rfl|h
 ·exact Byt.nil _ _
 ·exact h.of_byt_slice
theorem RowB.moved2{N base n c:Nat}{X X' W':World}{E:Array Obj}{d d':Nat}{A:Option Addr}{l:List UInt8}(h:RowB N (X.ext E d) A n c l)(hx:Ext (X'.ext E d') W')(hs:X'.heap.size=X.heap.size)(hN:X.heap.size≤N)(hb:base≤N):RowB base W' A n c l:=by
 rcases h with rfl|h
 ·exact .inl rfl
 ·exact .inr (OwnB.moved2 h hx hs hN hb)
def jaddE(l:List Rec)(r:Rec):Int:=if recOk r=true then putE l r else 70
set_option maxRecDepth 100000 in
set_option maxHeartbeats 8000000 in
theorem add_bad(A0:Option Addr)(n0 c0:Nat)(f0:Int)(A1:Option Addr)(n1 c1:Nat)(f1:Int)(Am:Option Addr)(nm cm:Nat)(file gen:Int)(l:List Rec)(r:Rec)(hn:l.length=nm)(hbig:nm≤100000)(hs:Sorted l)(htx:r.text.size≤9223372036854775807)
 (he:¬(jaddE l r=0)) (X:World) (hr:Recs X Am l):
 Calls Tryz.prog 74 #[.pointer (some ⟨X.heap.size,0,none⟩),recV r] (X.alloc (.cells #[.slice A0 n0 c0,.int .i64 f0,.slice A1 n1 c1,.int .i64 f1,.slice Am nm cm,.int .i64 file,.int .i64 gen] 131)) fun e w'=>
  e= .returned (.int .i64 (jaddE l r))∧Ext X w':=by
 cases hk:recOk r with
 | false=>
  have HE:Hid (jaddE l r=70):=hid (by rw[jaddE,hk];rfl)
  go_enter Tryz.func74,Tryz.ntmps74
  go_wp2_with (go_at_call 107;refine(isRecord_any _ _ tF).mono ?_;rintro e w1 ⟨rfl,E,d,rfl⟩)
  go_ret
  exact⟨ret_val tX,exI⟩
 | true=>
  have HE:Hid (jaddE l r=putE l r):=hid (by rw[jaddE,hk];rfl)
  have hpe:¬(putE l r=0):=by rw[←HE.out];exact he
  obtain⟨c,hc⟩:∃ c,putE l r=c:=⟨_,rfl⟩
  have Hc:=hid hc
  rw[hc] at hpe
  have hpe3:(putE l r != 0)=true:=by rw[hc];simpa using hpe
  clear he hc
  go_enter Tryz.func74,Tryz.ntmps74
  go_wp2_with (go_at_call 107;refine(isRecord_any _ _ tF).mono ?_;rintro e w1 ⟨rfl,E,d,rfl⟩)
  refine wp_region_ord_same (.f 0 (.f 1 (.f 2 (.f 3 (.f 4 (.f 5 (.k 6 (.f 7 (.f 8 (.f 9 (.a 10 (.a 11 (.f 12 .d)))))) 10 (.a 6 (.f 7 (.f 8 (.f 9 (.a 11 (.f 12 .d))))))))))))) tG tG ?_
  refine oR ?_
  refine wpOrd_fork ?_ ?_
  focus
   refine wpOrd_call rfl rfl rfl Tryz.call130 (fun R hR=> ?_)
   go_simp
   refine(put_any _ _ _ _ _ tZ tB tF _ (recI ‹_›)).mono ?_
   rintro e w1 ⟨Ap1,np1,cp1,rfl,hnp1,hvp1,E1,d1,rfl⟩
   refine hR _ _ ⟨_,rfl,?_,?_⟩
   ·exact keepI
   clear hR R
   simp only[Act.put,zp]
   refine oR ?_
   refine oD ?_
   refine oD ?_
   refine oR ?_
   refine wpOrd_nil ?_
  rotate_right
  focus
   refine oD ?_
   refine wpOrd_call rfl rfl rfl Tryz.call130 (fun R hR=> ?_)
   go_simp
   refine(put_any _ _ _ _ _ tZ tB tF _ (recI ‹_›)).mono ?_
   rintro e w1 ⟨Ap2,np2,cp2,rfl,hnp2,hvp2,E2,d2,rfl⟩
   refine hR _ _ ⟨_,rfl,?_,?_⟩
   ·exact keepI
   clear hR R
   simp only[Act.put,zp]
   refine oR ?_
   refine oD ?_
   refine oR ?_
   refine wpOrd_nil ?_
  go_wp2_with fail
  all_goals
   go_ret
   exact⟨ret_val tX,exI⟩
set_option maxRecDepth 100000 in
set_option maxHeartbeats 16000000 in
theorem add_hit(A0:Option Addr)(n0 c0:Nat)(f0:Int)(A1:Option Addr)(n1 c1:Nat)(f1:Int)(Am:Option Addr)(nm cm:Nat)(file gen:Int)(L0 L1:List UInt8)(l:List Rec)(r:Rec)(hL0:L0.length=n0)(hL1:L1.length=n1)(hb0:n0≤100000)(hb1:n1≤100000)(hn:l.length=nm)(hbig:nm≤100000)(hs:Sorted l)
 (hk:recOk r=true) (he:putE l r=0) (hlen:(putL l r).length=l.length) (X:World) (hr:Recs X Am l) (hy0:Byt X A0 L0) (hy1:Byt X A1 L1):
 Calls Tryz.prog 74 #[.pointer (some ⟨X.heap.size,0,none⟩),recV r] (X.alloc (.cells #[.slice A0 n0 c0,.int .i64 f0,.slice A1 n1 c1,.int .i64 f1,.slice Am nm cm,.int .i64 file,.int .i64 gen] 131)) fun e w'=>
  ∃B0 m0 d0 B1 m1 d1 Ag ng cg,e= .returned (.int .i64 0)∧Ext (X.alloc (.cells #[.slice B0 m0 d0,.int .i64 f0,.slice B1 m1 d1,.int .i64 f1,.slice Ag ng cg,.int .i64 file,.int .i64 gen] 131)) w'∧
   Hid (m0=(L0).length∧m1=(L1).length∧m0≤d0∧m1≤d1∧d0≤9223372036854775807∧d1≤9223372036854775807)∧RowB (X.heap.size+1) w' B0 m0 d0 (L0)∧RowB (X.heap.size+1) w' B1 m1 d1 (L1)∧Hid (ng=(putL l r).length)∧OwnR (X.heap.size+1) w' (.slice Ag ng cg) (putL l r):=by
 have htx:r.text.size≤9223372036854775807:=by have:=recOk_text hk;omega
 have hpe2:(putE l r != 0)=false:=by simpa using he
 have HE:=hid he
 clear he
 have Hlen:=hid hlen
 clear hlen
 go_enter Tryz.func74,Tryz.ntmps74
 go_wp2_with (go_at_call 107;refine(isRecord_any _ _ tF).mono ?_;rintro e w1 ⟨rfl,E,d,rfl⟩)
 refine wp_region_ord_same (.f 0 (.f 1 (.f 2 (.f 3 (.f 4 (.f 5 (.k 6 (.f 7 (.f 8 (.f 9 (.a 10 (.a 11 (.f 12 .d)))))) 10 (.a 6 (.f 7 (.f 8 (.f 9 (.a 11 (.f 12 .d))))))))))))) tG tG ?_
 refine oR ?_
 refine wpOrd_fork ?_ ?_
 focus
  refine wpOrd_call rfl rfl rfl Tryz.call130 (fun R hR=> ?_)
  go_simp
  refine(put_any _ _ _ _ _ tZ tB tF _ (recI ‹_›)).mono ?_
  rintro e w1 ⟨Ap1,np1,cp1,rfl,hnp1,hvp1,E1,d1,rfl⟩
  refine hR _ _ ⟨_,rfl,?_,?_⟩
  ·exact keepI
  clear hR R
  simp only[Act.put,zp]
  refine oR ?_
  refine oD ?_
  refine oD ?_
  refine oR ?_
  refine wpOrd_nil ?_
 rotate_right
 focus
  refine oD ?_
  refine wpOrd_call rfl rfl rfl Tryz.call130 (fun R hR=> ?_)
  go_simp
  refine(put_any _ _ _ _ _ tZ tB tF _ (recI ‹_›)).mono ?_
  rintro e w1 ⟨Ap2,np2,cp2,rfl,hnp2,hvp2,E2,d2,rfl⟩
  refine hR _ _ ⟨_,rfl,?_,?_⟩
  ·exact keepI
  clear hR R
  simp only[Act.put,zp]
  refine oR ?_
  refine oD ?_
  refine oR ?_
  refine wpOrd_nil ?_
 ·have hng:np2=nm:=by have:=Hid.out hnp2;have h2:=Hlen.out;omega
  have Hng:=hid hnp2.out
  have Hv:=hid hvp2
  clear hnp2 hvp2
  subst hng
  go_wp2_with fail
  refine(driveCopy_any _ _ _ _ _ _ _ _ L0 L1 hL0 hL1 tB tB _ (bytI ‹_›) (bytI ‹_›)).mono ?_
  rintro e w1 ⟨Ax,Ay,rfl,hox,hoy,Ec,dc,rfl⟩
  have Hox:=hid hox
  have Hoy:=hid hoy
  clear hox hoy
  go_wp2_with fail
  refine wp_region_ord_same (.f 0 (.f 1 (.f 2 (.f 3 (.f 4 (.f 5 (.f 6 (.f 7 (.f 8 (.f 9 (.f 10 .d))))))))))) tG tG ?_
  refine oR ?_
  refine wpOrd_nil ?_
  go_wp2_with fail
  go_ret
  refine⟨Ax,n0,n0,Ay,n1,n1,Ap2,np2,cp2,ret_val rfl,exI,hid ⟨hL0.symm,hL1.symm,Nat.le_refl _,Nat.le_refl _,by omega,by omega⟩,?_,?_,hid Hng.out,?_⟩
  ·exact TQ
  ·exact TR
  ·exact TS
 ·have hng:np1=nm:=by have:=Hid.out hnp1;have h2:=Hlen.out;omega
  have Hng:=hid hnp1.out
  have Hv:=hid hvp1
  clear hnp1 hvp1
  subst hng
  go_wp2_with fail
  refine(driveCopy_any _ _ _ _ _ _ _ _ L0 L1 hL0 hL1 tB tB _ (bytI ‹_›) (bytI ‹_›)).mono ?_
  rintro e w1 ⟨Ax,Ay,rfl,hox,hoy,Ec,dc,rfl⟩
  have Hox:=hid hox
  have Hoy:=hid hoy
  clear hox hoy
  go_wp2_with fail
  refine wp_region_ord_same (.f 0 (.f 1 (.f 2 (.f 3 (.f 4 (.f 5 (.f 6 (.f 7 (.f 8 (.f 9 (.f 10 .d))))))))))) tG tG ?_
  refine oR ?_
  refine wpOrd_nil ?_
  go_wp2_with fail
  go_ret
  refine⟨Ax,n0,n0,Ay,n1,n1,Ap1,np1,cp1,ret_val rfl,exI,hid ⟨hL0.symm,hL1.symm,Nat.le_refl _,Nat.le_refl _,by omega,by omega⟩,?_,?_,hid Hng.out,?_⟩
  ·exact TQ
  ·exact TR
  ·exact TS
set_option maxRecDepth 100000 in
set_option maxHeartbeats 16000000 in
theorem add_new0(A0:Option Addr)(n0 c0:Nat)(f0:Int)(A1:Option Addr)(n1 c1:Nat)(f1:Int)(Am:Option Addr)(nm cm:Nat)(gen:Int)(L0 L1:List UInt8)(l:List Rec)(r:Rec)(hL0:L0.length=n0)(hL1:L1.length=n1)(hb0:n0≤100000)(hb1:n1≤100000)(hn:l.length=nm)(hbig:nm≤100000)(hs:Sorted l)
 (hk:recOk r=true) (he:putE l r=0) (hlen:(putL l r).length=l.length+1) (hne:L1=[]) (X:World) (hr:Recs X Am l) (hy0:Byt X A0 L0) (hy1:Byt X A1 L1):
 Calls Tryz.prog 74 #[.pointer (some ⟨X.heap.size,0,none⟩),recV r] (X.alloc (.cells #[.slice A0 n0 c0,.int .i64 f0,.slice A1 n1 c1,.int .i64 f1,.slice Am nm cm,.int .i64 0,.int .i64 gen] 131)) fun e w'=>
  ∃B0 m0 d0 B1 m1 d1 Ag ng cg,e= .returned (.int .i64 0)∧Ext (X.alloc (.cells #[.slice B0 m0 d0,.int .i64 f0,.slice B1 m1 d1,.int .i64 f1,.slice Ag ng cg,.int .i64 0,.int .i64 gen] 131)) w'∧
   Hid (m0=(L0++frameB r).length∧m1=(L1).length∧m0≤d0∧m1≤d1∧d0≤9223372036854775807∧d1≤9223372036854775807)∧RowB (X.heap.size+1) w' B0 m0 d0 (L0++frameB r)∧RowB (X.heap.size+1) w' B1 m1 d1 (L1)∧Hid (ng=(putL l r).length)∧OwnR (X.heap.size+1) w' (.slice Ag ng cg) (putL l r):=by
 have htx:r.text.size≤9223372036854775807:=by have:=recOk_text hk;omega
 have hpe2:(putE l r != 0)=false:=by simpa using he
 have HE:=hid he
 clear he
 have Hlen:=hid hlen
 have Hne:=hid hne
 have hnum:=recNum_of hk
 have hft:r.text.size≤200:=recOk_text hk
 clear hlen hne
 go_enter Tryz.func74,Tryz.ntmps74
 go_wp2_with (go_at_call 107;refine(isRecord_any _ _ tF).mono ?_;rintro e w1 ⟨rfl,E,d,rfl⟩)
 refine wp_region_ord_same (.f 0 (.f 1 (.f 2 (.f 3 (.f 4 (.f 5 (.k 6 (.f 7 (.f 8 (.f 9 (.a 10 (.a 11 (.f 12 .d)))))) 10 (.a 6 (.f 7 (.f 8 (.f 9 (.a 11 (.f 12 .d))))))))))))) tG tG ?_
 refine oR ?_
 refine wpOrd_fork ?_ ?_
 focus
  refine wpOrd_call rfl rfl rfl Tryz.call130 (fun R hR=> ?_)
  go_simp
  refine(put_any _ _ _ _ _ tZ tB tF _ (recI ‹_›)).mono ?_
  rintro e w1 ⟨Ap1,np1,cp1,rfl,hnp1,hvp1,E1,d1,rfl⟩
  refine hR _ _ ⟨_,rfl,?_,?_⟩
  ·exact keepI
  clear hR R
  simp only[Act.put,zp]
  refine oR ?_
  refine oD ?_
  refine oD ?_
  refine oR ?_
  refine wpOrd_nil ?_
 rotate_right
 focus
  refine oD ?_
  refine wpOrd_call rfl rfl rfl Tryz.call130 (fun R hR=> ?_)
  go_simp
  refine(put_any _ _ _ _ _ tZ tB tF _ (recI ‹_›)).mono ?_
  rintro e w1 ⟨Ap2,np2,cp2,rfl,hnp2,hvp2,E2,d2,rfl⟩
  refine hR _ _ ⟨_,rfl,?_,?_⟩
  ·exact keepI
  clear hR R
  simp only[Act.put,zp]
  refine oR ?_
  refine oD ?_
  refine oR ?_
  refine wpOrd_nil ?_
 ·have hng:np2=nm+1:=by have:=Hid.out hnp2;have h2:=Hlen.out;omega
  have Hng:=hid hnp2.out
  have Hv:=hid hvp2
  clear hnp2 hvp2
  subst hng
  go_wp2_with fail
  refine(driveCopy_any _ _ _ _ _ _ _ _ L0 L1 hL0 hL1 tB tB _ (bytI ‹_›) (bytI ‹_›)).mono ?_
  rintro e w1 ⟨Ax,Ay,rfl,hox,hoy,Ec,dc,rfl⟩
  have Hox:=hid hox
  have Hoy:=hid hoy
  clear hox hoy
  go_wp2_with fail
  refine wp_region_ord_same (.f 0 (.f 1 (.f 2 (.f 3 (.f 4 (.f 5 (.f 6 (.f 7 (.f 8 (.f 9 (.f 10 .d))))))))))) tG tG ?_
  refine oR ?_
  refine wpOrd_nil ?_
  have hcast:(nm:Int)<((nm+1:Nat):Int):=by omega
  go_wp2_with fail
  refine wp_region_ord_same (.f 0 (.f 1 (.f 2 (.f 3 (.f 4 (.f 5 (.f 6 (.f 7 (.f 8 (.f 9 (.f 10 .d))))))))))) tG tG ?_
  refine oR ?_
  refine wpOrd_nil ?_
  go_wp2_with fail
  have Hfl:Hid (L0.length+(frameB r).length≤100000000):=hid TT
  refine wp_region_ord (.f 0 (.f 1 (.f 2 (.f 3 (.k 4 (.a 5 (.a 6 (.a 7 (.f 8 (.f 9 (.a 10 .d)))))) 5 (.k 4 (.a 6 (.a 7 (.f 8 (.f 9 (.a 10 .d))))) 6 (.a 4 (.a 7 (.f 8 (.f 9 (.a 10 .d))))))))))) (Ext (X)) tG tG exI ?_
  refine oS ?_
  refine wpOrd_fork ?_ ?_
  focus
   refine oC ?_
   refine oC ?_
   refine wpOrd_call rfl rfl rfl Tryz.call124 (fun R hR=> ?_)
   go_simp
   refine(frame_any _ tF _).mono ?_
   rintro e w1 ⟨A201,c201,rfl,hb201,E201,d201,rfl⟩
   refine hR _ _ ⟨_,rfl,?_,?_⟩
   ·exact exI
   clear hR R
   simp only[Act.put,zp]
   refine wpOrd_abyt rfl (((((X.alloc (.cells #[.slice Ax n0 n0,.int .i64 f0,.slice Ay n1 n1,.int .i64 f1,.slice Am nm cm,.int .i64 0,.int .i64 gen] 131)).alloc (.cells #[.int .i64 r.ao,.int .i64 r.sq,.int .i64 r.kind,.int .i64 r.ship,.int .i64 r.day,.int .i64 r.known,.int .i64 r.wo,.int .i64 r.ws,.int .i64 r.to,.int .i64 r.til,.string r.text] 46)).ext E (d+1)).alloc (.cells #[.slice Ap2 (nm+1) cp2] 34)).ext E2 d2) _ (by rfl) rfl rfl _ _ rfl (frameB r) rfl TU TV rfl TF TW Hfl.out (fun v202 E202 d202 ho202=> ?_)
   obtain⟨Aw,cw,rfl,hcw,-⟩:=ownsRow_slice ho202
   obtain⟨nw,hnw⟩:∃ nw,(L0++frameB r).length=nw:=⟨_,rfl⟩
   rw[hnw] at ho202 hcw ⊢
   have How:=hid ho202
   have Hnw:=hid hnw
   clear ho202 hnw
   refine⟨?_,?_⟩
   ·exact exI
   try simp only[Act.put,zp]
   refine oS ?_
   refine oC ?_
   refine wpOrd_nil ?_
  rotate_right
  focus
   refine oC ?_
   refine wpOrd_fork ?_ ?_
   focus
    refine oC ?_
    refine wpOrd_call rfl rfl rfl Tryz.call124 (fun R hR=> ?_)
    go_simp
    refine(frame_any _ tF _).mono ?_
    rintro e w1 ⟨A203,c203,rfl,hb203,E203,d203,rfl⟩
    refine hR _ _ ⟨_,rfl,?_,?_⟩
    ·exact exI
    clear hR R
    simp only[Act.put,zp]
    refine wpOrd_abyt rfl (((((X.alloc (.cells #[.slice Ax n0 n0,.int .i64 f0,.slice Ay n1 n1,.int .i64 f1,.slice Am nm cm,.int .i64 0,.int .i64 gen] 131)).alloc (.cells #[.int .i64 r.ao,.int .i64 r.sq,.int .i64 r.kind,.int .i64 r.ship,.int .i64 r.day,.int .i64 r.known,.int .i64 r.wo,.int .i64 r.ws,.int .i64 r.to,.int .i64 r.til,.string r.text] 46)).ext E (d+1)).alloc (.cells #[.slice Ap2 (nm+1) cp2] 34)).ext E2 d2) _ (by rfl) rfl rfl _ _ rfl (frameB r) rfl TU TV rfl TF TW Hfl.out (fun v204 E204 d204 ho204=> ?_)
    obtain⟨Aw,cw,rfl,hcw,-⟩:=ownsRow_slice ho204
    obtain⟨nw,hnw⟩:∃ nw,(L0++frameB r).length=nw:=⟨_,rfl⟩
    rw[hnw] at ho204 hcw ⊢
    have How:=hid ho204
    have Hnw:=hid hnw
    clear ho204 hnw
    refine⟨?_,?_⟩
    ·exact exI
    try simp only[Act.put,zp]
    refine oS ?_
    refine oC ?_
    refine wpOrd_nil ?_
   rotate_right
   focus
    refine wpOrd_call rfl rfl rfl Tryz.call124 (fun R hR=> ?_)
    go_simp
    refine(frame_any _ tF _).mono ?_
    rintro e w1 ⟨A205,c205,rfl,hb205,E205,d205,rfl⟩
    refine hR _ _ ⟨_,rfl,?_,?_⟩
    ·exact exI
    clear hR R
    simp only[Act.put,zp]
    refine oC ?_
    refine wpOrd_abyt rfl (((((X.alloc (.cells #[.slice Ax n0 n0,.int .i64 f0,.slice Ay n1 n1,.int .i64 f1,.slice Am nm cm,.int .i64 0,.int .i64 gen] 131)).alloc (.cells #[.int .i64 r.ao,.int .i64 r.sq,.int .i64 r.kind,.int .i64 r.ship,.int .i64 r.day,.int .i64 r.known,.int .i64 r.wo,.int .i64 r.ws,.int .i64 r.to,.int .i64 r.til,.string r.text] 46)).ext E (d+1)).alloc (.cells #[.slice Ap2 (nm+1) cp2] 34)).ext E2 d2) _ (by rfl) rfl rfl _ _ rfl (frameB r) rfl TU TV rfl TF TW Hfl.out (fun v206 E206 d206 ho206=> ?_)
    obtain⟨Aw,cw,rfl,hcw,-⟩:=ownsRow_slice ho206
    obtain⟨nw,hnw⟩:∃ nw,(L0++frameB r).length=nw:=⟨_,rfl⟩
    rw[hnw] at ho206 hcw ⊢
    have How:=hid ho206
    have Hnw:=hid hnw
    clear ho206 hnw
    refine⟨?_,?_⟩
    ·exact exI
    try simp only[Act.put,zp]
    refine oS ?_
    refine oC ?_
    refine wpOrd_nil ?_
  all_goals
   go_wp2_with fail
   go_ret
   refine⟨Aw,nw,cw,Ay,n1,n1,Ap2,nm+1,cp2,ret_val rfl,exI,hid ⟨Hnw.out.symm,hL1.symm,hcw,Nat.le_refl _,OwnB.cap How.out,by omega⟩,?_,?_,hid Hng.out,?_⟩
   ·exact TX
   ·exact .inl Hne.out
   ·exact TS
 ·have hng:np1=nm+1:=by have:=Hid.out hnp1;have h2:=Hlen.out;omega
  have Hng:=hid hnp1.out
  have Hv:=hid hvp1
  clear hnp1 hvp1
  subst hng
  go_wp2_with fail
  refine(driveCopy_any _ _ _ _ _ _ _ _ L0 L1 hL0 hL1 tB tB _ (bytI ‹_›) (bytI ‹_›)).mono ?_
  rintro e w1 ⟨Ax,Ay,rfl,hox,hoy,Ec,dc,rfl⟩
  have Hox:=hid hox
  have Hoy:=hid hoy
  clear hox hoy
  go_wp2_with fail
  refine wp_region_ord_same (.f 0 (.f 1 (.f 2 (.f 3 (.f 4 (.f 5 (.f 6 (.f 7 (.f 8 (.f 9 (.f 10 .d))))))))))) tG tG ?_
  refine oR ?_
  refine wpOrd_nil ?_
  have hcast:(nm:Int)<((nm+1:Nat):Int):=by omega
  go_wp2_with fail
  refine wp_region_ord_same (.f 0 (.f 1 (.f 2 (.f 3 (.f 4 (.f 5 (.f 6 (.f 7 (.f 8 (.f 9 (.f 10 .d))))))))))) tG tG ?_
  refine oR ?_
  refine wpOrd_nil ?_
  go_wp2_with fail
  have Hfl:Hid (L0.length+(frameB r).length≤100000000):=hid TT
  refine wp_region_ord (.f 0 (.f 1 (.f 2 (.f 3 (.k 4 (.a 5 (.a 6 (.a 7 (.f 8 (.f 9 (.a 10 .d)))))) 5 (.k 4 (.a 6 (.a 7 (.f 8 (.f 9 (.a 10 .d))))) 6 (.a 4 (.a 7 (.f 8 (.f 9 (.a 10 .d))))))))))) (Ext (X)) tG tG exI ?_
  refine oS ?_
  refine wpOrd_fork ?_ ?_
  focus
   refine oC ?_
   refine oC ?_
   refine wpOrd_call rfl rfl rfl Tryz.call124 (fun R hR=> ?_)
   go_simp
   refine(frame_any _ tF _).mono ?_
   rintro e w1 ⟨A201,c201,rfl,hb201,E201,d201,rfl⟩
   refine hR _ _ ⟨_,rfl,?_,?_⟩
   ·exact exI
   clear hR R
   simp only[Act.put,zp]
   refine wpOrd_abyt rfl (((((X.alloc (.cells #[.slice Ax n0 n0,.int .i64 f0,.slice Ay n1 n1,.int .i64 f1,.slice Am nm cm,.int .i64 0,.int .i64 gen] 131)).alloc (.cells #[.int .i64 r.ao,.int .i64 r.sq,.int .i64 r.kind,.int .i64 r.ship,.int .i64 r.day,.int .i64 r.known,.int .i64 r.wo,.int .i64 r.ws,.int .i64 r.to,.int .i64 r.til,.string r.text] 46)).ext E (d+1)).ext E1 d1).alloc (.cells #[.slice Ap1 (nm+1) cp1] 34)) _ (by rfl) rfl rfl _ _ rfl (frameB r) rfl TU TV rfl TF TW Hfl.out (fun v202 E202 d202 ho202=> ?_)
   obtain⟨Aw,cw,rfl,hcw,-⟩:=ownsRow_slice ho202
   obtain⟨nw,hnw⟩:∃ nw,(L0++frameB r).length=nw:=⟨_,rfl⟩
   rw[hnw] at ho202 hcw ⊢
   have How:=hid ho202
   have Hnw:=hid hnw
   clear ho202 hnw
   refine⟨?_,?_⟩
   ·exact exI
   try simp only[Act.put,zp]
   refine oS ?_
   refine oC ?_
   refine wpOrd_nil ?_
  rotate_right
  focus
   refine oC ?_
   refine wpOrd_fork ?_ ?_
   focus
    refine oC ?_
    refine wpOrd_call rfl rfl rfl Tryz.call124 (fun R hR=> ?_)
    go_simp
    refine(frame_any _ tF _).mono ?_
    rintro e w1 ⟨A203,c203,rfl,hb203,E203,d203,rfl⟩
    refine hR _ _ ⟨_,rfl,?_,?_⟩
    ·exact exI
    clear hR R
    simp only[Act.put,zp]
    refine wpOrd_abyt rfl (((((X.alloc (.cells #[.slice Ax n0 n0,.int .i64 f0,.slice Ay n1 n1,.int .i64 f1,.slice Am nm cm,.int .i64 0,.int .i64 gen] 131)).alloc (.cells #[.int .i64 r.ao,.int .i64 r.sq,.int .i64 r.kind,.int .i64 r.ship,.int .i64 r.day,.int .i64 r.known,.int .i64 r.wo,.int .i64 r.ws,.int .i64 r.to,.int .i64 r.til,.string r.text] 46)).ext E (d+1)).ext E1 d1).alloc (.cells #[.slice Ap1 (nm+1) cp1] 34)) _ (by rfl) rfl rfl _ _ rfl (frameB r) rfl TU TV rfl TF TW Hfl.out (fun v204 E204 d204 ho204=> ?_)
    obtain⟨Aw,cw,rfl,hcw,-⟩:=ownsRow_slice ho204
    obtain⟨nw,hnw⟩:∃ nw,(L0++frameB r).length=nw:=⟨_,rfl⟩
    rw[hnw] at ho204 hcw ⊢
    have How:=hid ho204
    have Hnw:=hid hnw
    clear ho204 hnw
    refine⟨?_,?_⟩
    ·exact exI
    try simp only[Act.put,zp]
    refine oS ?_
    refine oC ?_
    refine wpOrd_nil ?_
   rotate_right
   focus
    refine wpOrd_call rfl rfl rfl Tryz.call124 (fun R hR=> ?_)
    go_simp
    refine(frame_any _ tF _).mono ?_
    rintro e w1 ⟨A205,c205,rfl,hb205,E205,d205,rfl⟩
    refine hR _ _ ⟨_,rfl,?_,?_⟩
    ·exact exI
    clear hR R
    simp only[Act.put,zp]
    refine oC ?_
    refine wpOrd_abyt rfl (((((X.alloc (.cells #[.slice Ax n0 n0,.int .i64 f0,.slice Ay n1 n1,.int .i64 f1,.slice Am nm cm,.int .i64 0,.int .i64 gen] 131)).alloc (.cells #[.int .i64 r.ao,.int .i64 r.sq,.int .i64 r.kind,.int .i64 r.ship,.int .i64 r.day,.int .i64 r.known,.int .i64 r.wo,.int .i64 r.ws,.int .i64 r.to,.int .i64 r.til,.string r.text] 46)).ext E (d+1)).ext E1 d1).alloc (.cells #[.slice Ap1 (nm+1) cp1] 34)) _ (by rfl) rfl rfl _ _ rfl (frameB r) rfl TU TV rfl TF TW Hfl.out (fun v206 E206 d206 ho206=> ?_)
    obtain⟨Aw,cw,rfl,hcw,-⟩:=ownsRow_slice ho206
    obtain⟨nw,hnw⟩:∃ nw,(L0++frameB r).length=nw:=⟨_,rfl⟩
    rw[hnw] at ho206 hcw ⊢
    have How:=hid ho206
    have Hnw:=hid hnw
    clear ho206 hnw
    refine⟨?_,?_⟩
    ·exact exI
    try simp only[Act.put,zp]
    refine oS ?_
    refine oC ?_
    refine wpOrd_nil ?_
  all_goals
   go_wp2_with fail
   go_ret
   refine⟨Aw,nw,cw,Ay,n1,n1,Ap1,nm+1,cp1,ret_val rfl,exI,hid ⟨Hnw.out.symm,hL1.symm,hcw,Nat.le_refl _,OwnB.cap How.out,by omega⟩,?_,?_,hid Hng.out,?_⟩
   ·exact TX
   ·exact .inl Hne.out
   ·exact TS
set_option maxRecDepth 100000 in
set_option maxHeartbeats 16000000 in
theorem add_new1(A0:Option Addr)(n0 c0:Nat)(f0:Int)(A1:Option Addr)(n1 c1:Nat)(f1:Int)(Am:Option Addr)(nm cm:Nat)(gen:Int)(L0 L1:List UInt8)(l:List Rec)(r:Rec)(hL0:L0.length=n0)(hL1:L1.length=n1)(hb0:n0≤100000)(hb1:n1≤100000)(hn:l.length=nm)(hbig:nm≤100000)(hs:Sorted l)
 (hk:recOk r=true) (he:putE l r=0) (hlen:(putL l r).length=l.length+1) (hne:L0=[]) (X:World) (hr:Recs X Am l) (hy0:Byt X A0 L0) (hy1:Byt X A1 L1):
 Calls Tryz.prog 74 #[.pointer (some ⟨X.heap.size,0,none⟩),recV r] (X.alloc (.cells #[.slice A0 n0 c0,.int .i64 f0,.slice A1 n1 c1,.int .i64 f1,.slice Am nm cm,.int .i64 1,.int .i64 gen] 131)) fun e w'=>
  ∃B0 m0 d0 B1 m1 d1 Ag ng cg,e= .returned (.int .i64 0)∧Ext (X.alloc (.cells #[.slice B0 m0 d0,.int .i64 f0,.slice B1 m1 d1,.int .i64 f1,.slice Ag ng cg,.int .i64 1,.int .i64 gen] 131)) w'∧
   Hid (m0=(L0).length∧m1=(L1++frameB r).length∧m0≤d0∧m1≤d1∧d0≤9223372036854775807∧d1≤9223372036854775807)∧RowB (X.heap.size+1) w' B0 m0 d0 (L0)∧RowB (X.heap.size+1) w' B1 m1 d1 (L1++frameB r)∧Hid (ng=(putL l r).length)∧OwnR (X.heap.size+1) w' (.slice Ag ng cg) (putL l r):=by
 have htx:r.text.size≤9223372036854775807:=by have:=recOk_text hk;omega
 have hpe2:(putE l r != 0)=false:=by simpa using he
 have HE:=hid he
 clear he
 have Hlen:=hid hlen
 have Hne:=hid hne
 have hnum:=recNum_of hk
 have hft:r.text.size≤200:=recOk_text hk
 clear hlen hne
 go_enter Tryz.func74,Tryz.ntmps74
 go_wp2_with (go_at_call 107;refine(isRecord_any _ _ tF).mono ?_;rintro e w1 ⟨rfl,E,d,rfl⟩)
 refine wp_region_ord_same (.f 0 (.f 1 (.f 2 (.f 3 (.f 4 (.f 5 (.k 6 (.f 7 (.f 8 (.f 9 (.a 10 (.a 11 (.f 12 .d)))))) 10 (.a 6 (.f 7 (.f 8 (.f 9 (.a 11 (.f 12 .d))))))))))))) tG tG ?_
 refine oR ?_
 refine wpOrd_fork ?_ ?_
 focus
  refine wpOrd_call rfl rfl rfl Tryz.call130 (fun R hR=> ?_)
  go_simp
  refine(put_any _ _ _ _ _ tZ tB tF _ (recI ‹_›)).mono ?_
  rintro e w1 ⟨Ap1,np1,cp1,rfl,hnp1,hvp1,E1,d1,rfl⟩
  refine hR _ _ ⟨_,rfl,?_,?_⟩
  ·exact keepI
  clear hR R
  simp only[Act.put,zp]
  refine oR ?_
  refine oD ?_
  refine oD ?_
  refine oR ?_
  refine wpOrd_nil ?_
 rotate_right
 focus
  refine oD ?_
  refine wpOrd_call rfl rfl rfl Tryz.call130 (fun R hR=> ?_)
  go_simp
  refine(put_any _ _ _ _ _ tZ tB tF _ (recI ‹_›)).mono ?_
  rintro e w1 ⟨Ap2,np2,cp2,rfl,hnp2,hvp2,E2,d2,rfl⟩
  refine hR _ _ ⟨_,rfl,?_,?_⟩
  ·exact keepI
  clear hR R
  simp only[Act.put,zp]
  refine oR ?_
  refine oD ?_
  refine oR ?_
  refine wpOrd_nil ?_
 ·have hng:np2=nm+1:=by have:=Hid.out hnp2;have h2:=Hlen.out;omega
  have Hng:=hid hnp2.out
  have Hv:=hid hvp2
  clear hnp2 hvp2
  subst hng
  go_wp2_with fail
  refine(driveCopy_any _ _ _ _ _ _ _ _ L0 L1 hL0 hL1 tB tB _ (bytI ‹_›) (bytI ‹_›)).mono ?_
  rintro e w1 ⟨Ax,Ay,rfl,hox,hoy,Ec,dc,rfl⟩
  have Hox:=hid hox
  have Hoy:=hid hoy
  clear hox hoy
  go_wp2_with fail
  refine wp_region_ord_same (.f 0 (.f 1 (.f 2 (.f 3 (.f 4 (.f 5 (.f 6 (.f 7 (.f 8 (.f 9 (.f 10 .d))))))))))) tG tG ?_
  refine oR ?_
  refine wpOrd_nil ?_
  have hcast:(nm:Int)<((nm+1:Nat):Int):=by omega
  go_wp2_with fail
  refine wp_region_ord_same (.f 0 (.f 1 (.f 2 (.f 3 (.f 4 (.f 5 (.f 6 (.f 7 (.f 8 (.f 9 (.f 10 .d))))))))))) tG tG ?_
  refine oR ?_
  refine wpOrd_nil ?_
  go_wp2_with fail
  have Hfl:Hid (L1.length+(frameB r).length≤100000000):=hid TT
  refine wp_region_ord (.f 0 (.f 1 (.f 2 (.f 3 (.k 4 (.a 5 (.a 6 (.a 7 (.f 8 (.f 9 (.a 10 .d)))))) 5 (.k 4 (.a 6 (.a 7 (.f 8 (.f 9 (.a 10 .d))))) 6 (.a 4 (.a 7 (.f 8 (.f 9 (.a 10 .d))))))))))) (Ext (X)) tG tG exI ?_
  refine oS ?_
  refine wpOrd_fork ?_ ?_
  focus
   refine oC ?_
   refine oC ?_
   refine wpOrd_call rfl rfl rfl Tryz.call124 (fun R hR=> ?_)
   go_simp
   refine(frame_any _ tF _).mono ?_
   rintro e w1 ⟨A201,c201,rfl,hb201,E201,d201,rfl⟩
   refine hR _ _ ⟨_,rfl,?_,?_⟩
   ·exact exI
   clear hR R
   simp only[Act.put,zp]
   refine wpOrd_abyt rfl (((((X.alloc (.cells #[.slice Ax n0 n0,.int .i64 f0,.slice Ay n1 n1,.int .i64 f1,.slice Am nm cm,.int .i64 1,.int .i64 gen] 131)).alloc (.cells #[.int .i64 r.ao,.int .i64 r.sq,.int .i64 r.kind,.int .i64 r.ship,.int .i64 r.day,.int .i64 r.known,.int .i64 r.wo,.int .i64 r.ws,.int .i64 r.to,.int .i64 r.til,.string r.text] 46)).ext E (d+1)).alloc (.cells #[.slice Ap2 (nm+1) cp2] 34)).ext E2 d2) _ (by rfl) rfl rfl _ _ rfl (frameB r) rfl TU TY rfl TF TW Hfl.out (fun v202 E202 d202 ho202=> ?_)
   obtain⟨Aw,cw,rfl,hcw,-⟩:=ownsRow_slice ho202
   obtain⟨nw,hnw⟩:∃ nw,(L1++frameB r).length=nw:=⟨_,rfl⟩
   rw[hnw] at ho202 hcw ⊢
   have How:=hid ho202
   have Hnw:=hid hnw
   clear ho202 hnw
   refine⟨?_,?_⟩
   ·exact exI
   try simp only[Act.put,zp]
   refine oS ?_
   refine oC ?_
   refine wpOrd_nil ?_
  rotate_right
  focus
   refine oC ?_
   refine wpOrd_fork ?_ ?_
   focus
    refine oC ?_
    refine wpOrd_call rfl rfl rfl Tryz.call124 (fun R hR=> ?_)
    go_simp
    refine(frame_any _ tF _).mono ?_
    rintro e w1 ⟨A203,c203,rfl,hb203,E203,d203,rfl⟩
    refine hR _ _ ⟨_,rfl,?_,?_⟩
    ·exact exI
    clear hR R
    simp only[Act.put,zp]
    refine wpOrd_abyt rfl (((((X.alloc (.cells #[.slice Ax n0 n0,.int .i64 f0,.slice Ay n1 n1,.int .i64 f1,.slice Am nm cm,.int .i64 1,.int .i64 gen] 131)).alloc (.cells #[.int .i64 r.ao,.int .i64 r.sq,.int .i64 r.kind,.int .i64 r.ship,.int .i64 r.day,.int .i64 r.known,.int .i64 r.wo,.int .i64 r.ws,.int .i64 r.to,.int .i64 r.til,.string r.text] 46)).ext E (d+1)).alloc (.cells #[.slice Ap2 (nm+1) cp2] 34)).ext E2 d2) _ (by rfl) rfl rfl _ _ rfl (frameB r) rfl TU TY rfl TF TW Hfl.out (fun v204 E204 d204 ho204=> ?_)
    obtain⟨Aw,cw,rfl,hcw,-⟩:=ownsRow_slice ho204
    obtain⟨nw,hnw⟩:∃ nw,(L1++frameB r).length=nw:=⟨_,rfl⟩
    rw[hnw] at ho204 hcw ⊢
    have How:=hid ho204
    have Hnw:=hid hnw
    clear ho204 hnw
    refine⟨?_,?_⟩
    ·exact exI
    try simp only[Act.put,zp]
    refine oS ?_
    refine oC ?_
    refine wpOrd_nil ?_
   rotate_right
   focus
    refine wpOrd_call rfl rfl rfl Tryz.call124 (fun R hR=> ?_)
    go_simp
    refine(frame_any _ tF _).mono ?_
    rintro e w1 ⟨A205,c205,rfl,hb205,E205,d205,rfl⟩
    refine hR _ _ ⟨_,rfl,?_,?_⟩
    ·exact exI
    clear hR R
    simp only[Act.put,zp]
    refine oC ?_
    refine wpOrd_abyt rfl (((((X.alloc (.cells #[.slice Ax n0 n0,.int .i64 f0,.slice Ay n1 n1,.int .i64 f1,.slice Am nm cm,.int .i64 1,.int .i64 gen] 131)).alloc (.cells #[.int .i64 r.ao,.int .i64 r.sq,.int .i64 r.kind,.int .i64 r.ship,.int .i64 r.day,.int .i64 r.known,.int .i64 r.wo,.int .i64 r.ws,.int .i64 r.to,.int .i64 r.til,.string r.text] 46)).ext E (d+1)).alloc (.cells #[.slice Ap2 (nm+1) cp2] 34)).ext E2 d2) _ (by rfl) rfl rfl _ _ rfl (frameB r) rfl TU TY rfl TF TW Hfl.out (fun v206 E206 d206 ho206=> ?_)
    obtain⟨Aw,cw,rfl,hcw,-⟩:=ownsRow_slice ho206
    obtain⟨nw,hnw⟩:∃ nw,(L1++frameB r).length=nw:=⟨_,rfl⟩
    rw[hnw] at ho206 hcw ⊢
    have How:=hid ho206
    have Hnw:=hid hnw
    clear ho206 hnw
    refine⟨?_,?_⟩
    ·exact exI
    try simp only[Act.put,zp]
    refine oS ?_
    refine oC ?_
    refine wpOrd_nil ?_
  all_goals
   go_wp2_with fail
   go_ret
   refine⟨Ax,n0,n0,Aw,nw,cw,Ap2,nm+1,cp2,ret_val rfl,exI,hid ⟨hL0.symm,Hnw.out.symm,Nat.le_refl _,hcw,by omega,OwnB.cap How.out⟩,?_,?_,hid Hng.out,?_⟩
   ·exact .inl Hne.out
   ·exact TX
   ·exact TS
 ·have hng:np1=nm+1:=by have:=Hid.out hnp1;have h2:=Hlen.out;omega
  have Hng:=hid hnp1.out
  have Hv:=hid hvp1
  clear hnp1 hvp1
  subst hng
  go_wp2_with fail
  refine(driveCopy_any _ _ _ _ _ _ _ _ L0 L1 hL0 hL1 tB tB _ (bytI ‹_›) (bytI ‹_›)).mono ?_
  rintro e w1 ⟨Ax,Ay,rfl,hox,hoy,Ec,dc,rfl⟩
  have Hox:=hid hox
  have Hoy:=hid hoy
  clear hox hoy
  go_wp2_with fail
  refine wp_region_ord_same (.f 0 (.f 1 (.f 2 (.f 3 (.f 4 (.f 5 (.f 6 (.f 7 (.f 8 (.f 9 (.f 10 .d))))))))))) tG tG ?_
  refine oR ?_
  refine wpOrd_nil ?_
  have hcast:(nm:Int)<((nm+1:Nat):Int):=by omega
  go_wp2_with fail
  refine wp_region_ord_same (.f 0 (.f 1 (.f 2 (.f 3 (.f 4 (.f 5 (.f 6 (.f 7 (.f 8 (.f 9 (.f 10 .d))))))))))) tG tG ?_
  refine oR ?_
  refine wpOrd_nil ?_
  go_wp2_with fail
  have Hfl:Hid (L1.length+(frameB r).length≤100000000):=hid TT
  refine wp_region_ord (.f 0 (.f 1 (.f 2 (.f 3 (.k 4 (.a 5 (.a 6 (.a 7 (.f 8 (.f 9 (.a 10 .d)))))) 5 (.k 4 (.a 6 (.a 7 (.f 8 (.f 9 (.a 10 .d))))) 6 (.a 4 (.a 7 (.f 8 (.f 9 (.a 10 .d))))))))))) (Ext (X)) tG tG exI ?_
  refine oS ?_
  refine wpOrd_fork ?_ ?_
  focus
   refine oC ?_
   refine oC ?_
   refine wpOrd_call rfl rfl rfl Tryz.call124 (fun R hR=> ?_)
   go_simp
   refine(frame_any _ tF _).mono ?_
   rintro e w1 ⟨A201,c201,rfl,hb201,E201,d201,rfl⟩
   refine hR _ _ ⟨_,rfl,?_,?_⟩
   ·exact exI
   clear hR R
   simp only[Act.put,zp]
   refine wpOrd_abyt rfl (((((X.alloc (.cells #[.slice Ax n0 n0,.int .i64 f0,.slice Ay n1 n1,.int .i64 f1,.slice Am nm cm,.int .i64 1,.int .i64 gen] 131)).alloc (.cells #[.int .i64 r.ao,.int .i64 r.sq,.int .i64 r.kind,.int .i64 r.ship,.int .i64 r.day,.int .i64 r.known,.int .i64 r.wo,.int .i64 r.ws,.int .i64 r.to,.int .i64 r.til,.string r.text] 46)).ext E (d+1)).ext E1 d1).alloc (.cells #[.slice Ap1 (nm+1) cp1] 34)) _ (by rfl) rfl rfl _ _ rfl (frameB r) rfl TU TY rfl TF TW Hfl.out (fun v202 E202 d202 ho202=> ?_)
   obtain⟨Aw,cw,rfl,hcw,-⟩:=ownsRow_slice ho202
   obtain⟨nw,hnw⟩:∃ nw,(L1++frameB r).length=nw:=⟨_,rfl⟩
   rw[hnw] at ho202 hcw ⊢
   have How:=hid ho202
   have Hnw:=hid hnw
   clear ho202 hnw
   refine⟨?_,?_⟩
   ·exact exI
   try simp only[Act.put,zp]
   refine oS ?_
   refine oC ?_
   refine wpOrd_nil ?_
  rotate_right
  focus
   refine oC ?_
   refine wpOrd_fork ?_ ?_
   focus
    refine oC ?_
    refine wpOrd_call rfl rfl rfl Tryz.call124 (fun R hR=> ?_)
    go_simp
    refine(frame_any _ tF _).mono ?_
    rintro e w1 ⟨A203,c203,rfl,hb203,E203,d203,rfl⟩
    refine hR _ _ ⟨_,rfl,?_,?_⟩
    ·exact exI
    clear hR R
    simp only[Act.put,zp]
    refine wpOrd_abyt rfl (((((X.alloc (.cells #[.slice Ax n0 n0,.int .i64 f0,.slice Ay n1 n1,.int .i64 f1,.slice Am nm cm,.int .i64 1,.int .i64 gen] 131)).alloc (.cells #[.int .i64 r.ao,.int .i64 r.sq,.int .i64 r.kind,.int .i64 r.ship,.int .i64 r.day,.int .i64 r.known,.int .i64 r.wo,.int .i64 r.ws,.int .i64 r.to,.int .i64 r.til,.string r.text] 46)).ext E (d+1)).ext E1 d1).alloc (.cells #[.slice Ap1 (nm+1) cp1] 34)) _ (by rfl) rfl rfl _ _ rfl (frameB r) rfl TU TY rfl TF TW Hfl.out (fun v204 E204 d204 ho204=> ?_)
    obtain⟨Aw,cw,rfl,hcw,-⟩:=ownsRow_slice ho204
    obtain⟨nw,hnw⟩:∃ nw,(L1++frameB r).length=nw:=⟨_,rfl⟩
    rw[hnw] at ho204 hcw ⊢
    have How:=hid ho204
    have Hnw:=hid hnw
    clear ho204 hnw
    refine⟨?_,?_⟩
    ·exact exI
    try simp only[Act.put,zp]
    refine oS ?_
    refine oC ?_
    refine wpOrd_nil ?_
   rotate_right
   focus
    refine wpOrd_call rfl rfl rfl Tryz.call124 (fun R hR=> ?_)
    go_simp
    refine(frame_any _ tF _).mono ?_
    rintro e w1 ⟨A205,c205,rfl,hb205,E205,d205,rfl⟩
    refine hR _ _ ⟨_,rfl,?_,?_⟩
    ·exact exI
    clear hR R
    simp only[Act.put,zp]
    refine oC ?_
    refine wpOrd_abyt rfl (((((X.alloc (.cells #[.slice Ax n0 n0,.int .i64 f0,.slice Ay n1 n1,.int .i64 f1,.slice Am nm cm,.int .i64 1,.int .i64 gen] 131)).alloc (.cells #[.int .i64 r.ao,.int .i64 r.sq,.int .i64 r.kind,.int .i64 r.ship,.int .i64 r.day,.int .i64 r.known,.int .i64 r.wo,.int .i64 r.ws,.int .i64 r.to,.int .i64 r.til,.string r.text] 46)).ext E (d+1)).ext E1 d1).alloc (.cells #[.slice Ap1 (nm+1) cp1] 34)) _ (by rfl) rfl rfl _ _ rfl (frameB r) rfl TU TY rfl TF TW Hfl.out (fun v206 E206 d206 ho206=> ?_)
    obtain⟨Aw,cw,rfl,hcw,-⟩:=ownsRow_slice ho206
    obtain⟨nw,hnw⟩:∃ nw,(L1++frameB r).length=nw:=⟨_,rfl⟩
    rw[hnw] at ho206 hcw ⊢
    have How:=hid ho206
    have Hnw:=hid hnw
    clear ho206 hnw
    refine⟨?_,?_⟩
    ·exact exI
    try simp only[Act.put,zp]
    refine oS ?_
    refine oC ?_
    refine wpOrd_nil ?_
  all_goals
   go_wp2_with fail
   go_ret
   refine⟨Ax,n0,n0,Aw,nw,cw,Ap1,nm+1,cp1,ret_val rfl,exI,hid ⟨hL0.symm,Hnw.out.symm,Nat.le_refl _,hcw,by omega,OwnB.cap How.out⟩,?_,?_,hid Hng.out,?_⟩
   ·exact .inl Hne.out
   ·exact TX
   ·exact TS
end Go.Proofs.YtekjdeibnfaehaaGreat
set_option linter.unusedSimpArgs false
set_option linter.unusedVariables false
namespace Go.Proofs.YtekjdeibnfaehaaGreat
open Go Go.RowKit
theorem calls_at{P:Program}{f:FuncId}{a:Value}{W:World}{R:Ending→World→Prop}{g g':Nat}(h:Calls P f #[.pointer (some ⟨g,0,none⟩),a] W R)(e:g'=g):Calls P f #[.pointer (some ⟨g',0,none⟩),a] W R:=e▸h
structure DrvY(w:World)(D:DriveD)(A0:Option Addr)(n0 c0:Nat)(A1:Option Addr)(n1 c1:Nat):Prop where
 l0:D.f0.bytes.length=n0
 l1:D.f1.bytes.length=n1
 h0:n0≤c0
 h1:n1≤c1
 k0:c0≤9223372036854775807
 k1:c1≤9223372036854775807
 b0:Byt w A0 D.f0.bytes
 b1:Byt w A1 D.f1.bytes
theorem DrvY.of_ext{w w':World}{D:DriveD}{A0:Option Addr}{n0 c0:Nat}{A1:Option Addr}{n1 c1:Nat}(h:DrvY w D A0 n0 c0 A1 n1 c1)(hx:Ext w w'):DrvY w' D A0 n0 c0 A1 n1 c1:=
 ⟨h.l0,h.l1,h.h0,h.h1,h.k0,h.k1,h.b0.of_ext hx,h.b1.of_ext hx⟩
theorem OwnB.le{base n c:Nat}{w:World}{A:Option Addr}{l:List UInt8}(h:OwnB base w (.slice A n c) l):n≤c:=by
 obtain⟨A2,c2,hv,hc,_⟩:=ownsRow_slice h
 simp only[Value.slice.injEq] at hv
 omega
theorem DrvX.read{base:Nat}{w:World}{D:DriveD}{A0:Option Addr}{n0 c0:Nat}{A1:Option Addr}{n1 c1:Nat}(h:DrvX base w D A0 n0 c0 A1 n1 c1):DrvY w D A0 n0 c0 A1 n1 c1:=
 ⟨h.l0.symm,h.l1.symm,h.b0.le,h.b1.le,h.b0.cap,h.b1.cap,h.b0.of_byt_slice,h.b1.of_byt_slice⟩
structure DrvZ(base:Nat)(w:World)(D:DriveD)(A0:Option Addr)(n0 c0:Nat)(A1:Option Addr)(n1 c1:Nat):Prop where
 l0:D.f0.bytes.length=n0
 l1:D.f1.bytes.length=n1
 h0:n0≤c0
 h1:n1≤c1
 k0:c0≤9223372036854775807
 k1:c1≤9223372036854775807
 r0:RowB base w A0 n0 c0 D.f0.bytes
 r1:RowB base w A1 n1 c1 D.f1.bytes
theorem DrvZ.read{base:Nat}{w:World}{D:DriveD}{A0:Option Addr}{n0 c0:Nat}{A1:Option Addr}{n1 c1:Nat}(h:DrvZ base w D A0 n0 c0 A1 n1 c1):DrvY w D A0 n0 c0 A1 n1 c1:=
 ⟨h.l0,h.l1,h.h0,h.h1,h.k0,h.k1,h.r0.byt,h.r1.byt⟩
theorem DrvX.rows{base:Nat}{w:World}{D:DriveD}{A0:Option Addr}{n0 c0:Nat}{A1:Option Addr}{n1 c1:Nat}(h:DrvX base w D A0 n0 c0 A1 n1 c1):DrvZ base w D A0 n0 c0 A1 n1 c1:=
 ⟨h.l0.symm,h.l1.symm,h.b0.le,h.b1.le,h.b0.cap,h.b1.cap,.inr h.b0,.inr h.b1⟩
theorem DrvZ.moved2{N base:Nat}{X X' W':World}{E:Array Obj}{d d':Nat}{D:DriveD}{A0:Option Addr}{n0 c0:Nat}{A1:Option Addr}{n1 c1:Nat}(h:DrvZ N (X.ext E d) D A0 n0 c0 A1 n1 c1)(hx:Ext (X'.ext E d') W')(hs:X'.heap.size=X.heap.size)(hN:X.heap.size≤N)(hb:base≤N):DrvZ base W' D A0 n0 c0 A1 n1 c1:=
 ⟨h.l0,h.l1,h.h0,h.h1,h.k0,h.k1,h.r0.moved2 hx hs hN hb,h.r1.moved2 hx hs hN hb⟩
theorem DrvZ.zero(base:Nat)(w:World):DrvZ base w noDrive none 0 0 none 0 0:=(DrvX.zero base w).rows
theorem memOk_facts{D:DriveD}{M:MemD}(h:memOk D M=true):driveOk D=true∧(M.file=0∨M.file=1)∧(fileAt D (1-M.file)).bytes=[]∧checkB M.recs=true∧pageOk (fileAt D M.file).bytes=true∧genB (fileAt D M.file).bytes=M.gen:=by
 simp only[memOk,Bool.and_eq_true,decide_eq_true_eq,inB_spec,recsEqB_iff] at h
 obtain⟨h1,⟨h2,h2'⟩,h3,h4,h5,h6,h7,h8⟩:=h
 exact⟨h1,by omega,h3,h8▸checkB_ordL h7,h4,h5⟩
theorem driveOk_len{D:DriveD}(h:driveOk D=true):D.f0.bytes.length≤100000∧D.f1.bytes.length≤100000:=by
 simp only[driveOk,Bool.and_eq_true,fileOk_iff] at h
 omega
theorem putL_has{l:List Rec}{r:Rec}(hs:Sorted l)(hh:hasR l r.ao r.sq=true)(he:putE l r=0):putL l r=l:=by
 obtain⟨hp,ha⟩:=(hasR_pos hs _ _).1 hh
 have hf:=findR_some hs hp ha
 rw[putE_hit hf] at he
 rw[putL_hit hf]
 split at he
 ·rename_i h;rw[if_pos h]
 ·omega
theorem putL_fresh{l:List Rec}{r:Rec}(hh:hasR l r.ao r.sq=false)(he:putE l r=0):(putL l r).length=l.length+1:=by
 have hf:=findR_none hh
 rw[putE_new hf] at he
 rw[putL_new hf]
 split at he
 ·omega
 ·rename_i h
  rw[if_neg h,(insR_perm _ _).length_eq];rfl
theorem appE_bad{D:DriveD}{M:MemD}{r:Rec}(h:memOk D M=false):appE D M r=73∧appD D M r=noDrive∧appM D M r=noMem:=by
 have:appE D M r=73:=by simp[appE,h]
 exact⟨this,by rw[appD,this];rfl,by rw[appM,this];rfl⟩
theorem appE_err{D:DriveD}{M:MemD}{r:Rec}(h:memOk D M=true)(he:¬(jaddE M.recs r=0)):appE D M r=jaddE M.recs r∧appD D M r=noDrive∧appM D M r=noMem:=by
 have:appE D M r=jaddE M.recs r:=by simp[appE,h,jaddE]
 exact⟨this,by rw[appD,this,if_neg he],by rw[appM,this,if_neg he]⟩
theorem appE_ok{D:DriveD}{M:MemD}{r:Rec}(h:memOk D M=true)(hk:recOk r=true)(he:putE M.recs r=0):appE D M r=0∧appD D M r=(if hasR M.recs r.ao r.sq=true then D else addF D M.file (frameB r))∧appM D M r=⟨putL M.recs r,M.file,M.gen⟩:=by
 have:appE D M r=0:=by simp[appE,h,hk,he]
 exact⟨this,by rw[appD,this,if_pos rfl],by rw[appM,this,if_pos rfl]⟩
set_option maxRecDepth 100000 in
set_option maxHeartbeats 16000000 in
theorem Append_any(A0:Option Addr)(n0 c0:Nat)(A1:Option Addr)(n1 c1:Nat)(D:DriveD)(Am:Option Addr)(nm cm:Nat)(M:MemD)(r:Rec)(hm:M.recs.length=nm)(hmb:nm≤9223372036854775807)(htx:r.text.size≤9223372036854775807)(w:World)
 (hD:DrvY w D A0 n0 c0 A1 n1 c1) (hr:Recs w Am M.recs):
 Calls Tryz.prog 19 #[drvV A0 n0 c0 D.f0.firm A1 n1 c1 D.f1.firm,memV Am nm cm M.file M.gen,recV r] w fun e w'=> ∃B0 m0 d0 B1 m1 d1 Ag ng cg,e= .returned (.tuple #[drvV B0 m0 d0 (appD D M r).f0.firm B1 m1 d1 (appD D M r).f1.firm,memV Ag ng cg (appM D M r).file (appM D M r).gen,.int .i64 (appE D M r)])∧
  DrvZ w.heap.size w' (appD D M r) B0 m0 d0 B1 m1 d1∧MemX w.heap.size w' (appM D M r) Ag ng cg∧Ext w w':=by
 obtain⟨hl0,hl1,hc0,hc1,hbig0,hbig1,hb0,hb1⟩:=hD
 cases hmo:memOk D M with
 | false=>
  obtain⟨h1,h2,h3⟩:=appE_bad (r:=r) hmo
  rw[h1,h2,h3]
  clear h1 h2 h3
  go_enter Tryz.func19,Tryz.ntmps19
  go_wp2_with (go_at_call 73;refine(isMemory_any _ _ _ _ _ _ _ _ _ _ _ tZ tZ tB tB tB tB tZ tB _ (bytI ‹_›) (bytI ‹_›) (recI ‹_›)).mono ?_;rintro e w1 ⟨rfl,E1,d1,rfl⟩)
  refine bodyPost_ret (v:=.tuple #[drvV none 0 0 0 none 0 0 0,memV none 0 0 0 0,.int .i64 73]) TZ rfl ?_
  exact⟨none,0,0,none,0,0,none,0,0,rfl,DrvZ.zero _ _,MemX.zero _ _,exI⟩
 | true=>
  obtain⟨hok,h01,hnil,hck,-,-⟩:=memOk_facts hmo
  obtain⟨hs0,hs1⟩:=driveOk_len hok
  rw[hl0] at hs0
  rw[hl1] at hs1
  obtain⟨h80,hall,hsrt⟩:=checkB_iff.1 hck
  have hnm:nm≤100000:=by omega
  by_cases hje:jaddE M.recs r=0
  ·skip
   have hrk:recOk r=true:=by
    cases hq:recOk r with
    | true=>rfl
    | false=>rw[jaddE,hq] at hje;cases hje
   have hpe:putE M.recs r=0:=by rw[jaddE,hrk] at hje;exact hje
   obtain⟨h1,h2,h3⟩:=appE_ok hmo hrk hpe
   cases hh:hasR M.recs r.ao r.sq with
   | true=>
    have hpl:=putL_has hsrt hh hpe
    rw[hh,if_pos rfl] at h2
    have H1:=hid h1
    have H2:=hid h2
    have H3:=hid h3
    clear h1 h2 h3 hok hck hnil h01 hje
    go_enter Tryz.func19,Tryz.ntmps19
    go_wp2_with (go_at_call 73;refine(isMemory_any _ _ _ _ _ _ _ _ _ _ _ tZ tZ tB tB tB tB tZ tB _ (bytI ‹_›) (bytI ‹_›) (recI ‹_›)).mono ?_;rintro e w1 ⟨rfl,E1,d1,rfl⟩)
    refine(calls_at (add_hit A0 n0 c0 D.f0.firm A1 n1 c1 D.f1.firm Am nm cm M.file M.gen D.f0.bytes D.f1.bytes M.recs r hl0 hl1 hs0 hs1 hm hnm hsrt hrk hpe (by rw[hpl]) _ (recI ‹_›) (bytI ‹_›) (bytI ‹_›)) tE).mono ?_
    rintro e w1 ⟨B0,m0,d0,B1,m1,d1,Ag,ng,cg,rfl,⟨E9,d9,rfl⟩,hfa,hy0,hy1,hng,hog⟩
    have Hy0:=hid hy0
    have Hy1:=hid hy1
    have Hog:=hid hog
    clear hy0 hy1 hog
    have hle:w.heap.size+1+1+1+1+1≤w.heap.size+1+1+1+1+1+E1.size:=by omega
    have hlt:w.heap.size+1+1+1+1+1+E1.size<w.heap.size+1+1+1+1+1+E1.size+1+E9.size:=by omega
    go_wp2_with fail
    refine wp_region_ord_from (w.heap.size+1+1+1+1+1) (.f 0 (.f 1 (.f 2 (.f 3 (.a 4 (.a 5 (.f 6 .d))))))) tG tG ?_
    refine oR ?_
    refine wpOrd_act rfl rfl (fun K hK=> ?_)
    go_simp
    refine hK _ _ ⟨?_,?_⟩
    ·exact TO
    clear hK K
    try simp only[Act.put,zp]
    refine wpOrd_act rfl rfl (fun K hK=> ?_)
    go_simp
    refine hK _ _ ⟨?_,?_⟩
    ·exact TO
    clear hK K
    try simp only[Act.put,zp]
    refine oR ?_
    refine wpOrd_nil ?_
    go_wp2_with fail
    refine bodyPost_ret (v:=.tuple #[drvV B0 m0 d0 D.f0.firm B1 m1 d1 D.f1.firm,memV Ag ng cg M.file M.gen,.int .i64 0]) TZ rfl ?_
    rw[H1.out,H2.out,H3.out]
    obtain⟨q0,q1,q2,q3,q4,q5⟩:=hfa.out
    refine⟨B0,m0,d0,B1,m1,d1,Ag,ng,cg,by rfl,⟨q0.symm,q1.symm,q2,q3,q4,q5,?_,?_⟩,⟨hng.out,?_⟩,exI⟩
    ·exact T3
    ·exact T4
    ·exact T5
   | false=>
    have hpl:=putL_fresh hh hpe
    rw[hh,if_neg tN] at h2
    rcases h01 with h01|h01
    ·have hnil2:D.f1.bytes=[]:=by rw[h01] at hnil;exact hnil
     rw[h01] at h2 h3
     have H1:=hid h1
     have H2:Hid (appD D M r=⟨⟨D.f0.bytes++frameB r,D.f0.firm⟩,D.f1⟩):=hid h2
     have H3:=hid h3
     rw[h01]
     clear h1 h2 h3 hok hck hnil hje
     go_enter Tryz.func19,Tryz.ntmps19
     go_wp2_with (go_at_call 73;refine(isMemory_any _ _ _ _ _ _ D _ _ _ ⟨M.recs,0,M.gen⟩ hl0 hl1 hc0 hc1 hbig0 hbig1 hm hmb _ (bytI ‹_›) (bytI ‹_›) (recI ‹_›)).mono ?_;rintro e w1 ⟨rfl,E1,d1,rfl⟩;rw[show memOk D ⟨M.recs,0,M.gen⟩=true from by rw[←h01];exact hmo])
     refine(calls_at (add_new0 A0 n0 c0 D.f0.firm A1 n1 c1 D.f1.firm Am nm cm M.gen D.f0.bytes D.f1.bytes M.recs r hl0 hl1 hs0 hs1 hm hnm hsrt hrk hpe hpl hnil2 _ (recI ‹_›) (bytI ‹_›) (bytI ‹_›)) tE).mono ?_
     rintro e w1 ⟨B0,m0,d0,B1,m1,d1,Ag,ng,cg,rfl,⟨E9,d9,rfl⟩,hfa,hy0,hy1,hng,hog⟩
     have Hy0:=hid hy0
     have Hy1:=hid hy1
     have Hog:=hid hog
     clear hy0 hy1 hog
     have hle:w.heap.size+1+1+1+1+1≤w.heap.size+1+1+1+1+1+E1.size:=by omega
     have hlt:w.heap.size+1+1+1+1+1+E1.size<w.heap.size+1+1+1+1+1+E1.size+1+E9.size:=by omega
     go_wp2_with fail
     refine wp_region_ord_from (w.heap.size+1+1+1+1+1) (.f 0 (.f 1 (.f 2 (.f 3 (.a 4 (.a 5 (.f 6 .d))))))) tG tG ?_
     refine oR ?_
     refine wpOrd_act rfl rfl (fun K hK=> ?_)
     go_simp
     refine hK _ _ ⟨?_,?_⟩
     ·exact TO
     clear hK K
     try simp only[Act.put,zp]
     refine wpOrd_act rfl rfl (fun K hK=> ?_)
     go_simp
     refine hK _ _ ⟨?_,?_⟩
     ·exact TO
     clear hK K
     try simp only[Act.put,zp]
     refine oR ?_
     refine wpOrd_nil ?_
     go_wp2_with fail
     refine bodyPost_ret (v:=.tuple #[drvV B0 m0 d0 D.f0.firm B1 m1 d1 D.f1.firm,memV Ag ng cg 0 M.gen,.int .i64 0]) TZ rfl ?_
     rw[H1.out,H2.out,H3.out]
     obtain⟨q0,q1,q2,q3,q4,q5⟩:=hfa.out
     refine⟨B0,m0,d0,B1,m1,d1,Ag,ng,cg,by rfl,⟨q0.symm,q1.symm,q2,q3,q4,q5,?_,?_⟩,⟨hng.out,?_⟩,exI⟩
     ·exact T3
     ·exact T4
     ·exact T5
    ·have hnil2:D.f0.bytes=[]:=by rw[h01] at hnil;exact hnil
     rw[h01] at h2 h3
     have H1:=hid h1
     have H2:Hid (appD D M r=⟨D.f0,⟨D.f1.bytes++frameB r,D.f1.firm⟩⟩):=hid h2
     have H3:=hid h3
     rw[h01]
     clear h1 h2 h3 hok hck hnil hje
     go_enter Tryz.func19,Tryz.ntmps19
     go_wp2_with (go_at_call 73;refine(isMemory_any _ _ _ _ _ _ D _ _ _ ⟨M.recs,1,M.gen⟩ hl0 hl1 hc0 hc1 hbig0 hbig1 hm hmb _ (bytI ‹_›) (bytI ‹_›) (recI ‹_›)).mono ?_;rintro e w1 ⟨rfl,E1,d1,rfl⟩;rw[show memOk D ⟨M.recs,1,M.gen⟩=true from by rw[←h01];exact hmo])
     refine(calls_at (add_new1 A0 n0 c0 D.f0.firm A1 n1 c1 D.f1.firm Am nm cm M.gen D.f0.bytes D.f1.bytes M.recs r hl0 hl1 hs0 hs1 hm hnm hsrt hrk hpe hpl hnil2 _ (recI ‹_›) (bytI ‹_›) (bytI ‹_›)) tE).mono ?_
     rintro e w1 ⟨B0,m0,d0,B1,m1,d1,Ag,ng,cg,rfl,⟨E9,d9,rfl⟩,hfa,hy0,hy1,hng,hog⟩
     have Hy0:=hid hy0
     have Hy1:=hid hy1
     have Hog:=hid hog
     clear hy0 hy1 hog
     have hle:w.heap.size+1+1+1+1+1≤w.heap.size+1+1+1+1+1+E1.size:=by omega
     have hlt:w.heap.size+1+1+1+1+1+E1.size<w.heap.size+1+1+1+1+1+E1.size+1+E9.size:=by omega
     go_wp2_with fail
     refine wp_region_ord_from (w.heap.size+1+1+1+1+1) (.f 0 (.f 1 (.f 2 (.f 3 (.a 4 (.a 5 (.f 6 .d))))))) tG tG ?_
     refine oR ?_
     refine wpOrd_act rfl rfl (fun K hK=> ?_)
     go_simp
     refine hK _ _ ⟨?_,?_⟩
     ·exact TO
     clear hK K
     try simp only[Act.put,zp]
     refine wpOrd_act rfl rfl (fun K hK=> ?_)
     go_simp
     refine hK _ _ ⟨?_,?_⟩
     ·exact TO
     clear hK K
     try simp only[Act.put,zp]
     refine oR ?_
     refine wpOrd_nil ?_
     go_wp2_with fail
     refine bodyPost_ret (v:=.tuple #[drvV B0 m0 d0 D.f0.firm B1 m1 d1 D.f1.firm,memV Ag ng cg 1 M.gen,.int .i64 0]) TZ rfl ?_
     rw[H1.out,H2.out,H3.out]
     obtain⟨q0,q1,q2,q3,q4,q5⟩:=hfa.out
     refine⟨B0,m0,d0,B1,m1,d1,Ag,ng,cg,by rfl,⟨q0.symm,q1.symm,q2,q3,q4,q5,?_,?_⟩,⟨hng.out,?_⟩,exI⟩
     ·exact T3
     ·exact T4
     ·exact T5
  ·obtain⟨h1,h2,h3⟩:=appE_err hmo hje
   rw[h1,h2,h3]
   clear h1 h2 h3 hok hck hnil h01
   obtain⟨j,hj⟩:∃ j,jaddE M.recs r=j:=⟨_,rfl⟩
   have Hj:=hid hj
   have hj2:(j != 0)=true:=by rw[←hj];simpa using hje
   clear hj
   go_enter Tryz.func19,Tryz.ntmps19
   go_wp2_with (go_at_call 73;refine(isMemory_any _ _ _ _ _ _ _ _ _ _ _ tZ tZ tB tB tB tB tZ tB _ (bytI ‹_›) (bytI ‹_›) (recI ‹_›)).mono ?_;rintro e w1 ⟨rfl,E1,d1,rfl⟩)
   refine(calls_at (add_bad _ _ _ _ _ _ _ _ _ _ _ _ _ M.recs r hm hnm hsrt htx hje _ (recI ‹_›)) tE).mono ?_
   rintro e w1 ⟨rfl,E9,d9,rfl⟩
   rw[Hj.out]
   go_wp2_with fail
   refine bodyPost_ret (v:=.tuple #[drvV none 0 0 0 none 0 0 0,memV none 0 0 0 0,.int .i64 j]) TZ rfl ?_
   exact⟨none,0,0,none,0,0,none,0,0,by rw[Hj.out];rfl,DrvZ.zero _ _,MemX.zero _ _,exI⟩
end Go.Proofs.YtekjdeibnfaehaaGreat
set_option linter.unusedSimpArgs false
set_option linter.unusedVariables false
namespace Go.Proofs.YtekjdeibnfaehaaGreat
open Go Go.RowKit
set_option maxRecDepth 100000 in
set_option maxHeartbeats 4000000 in
theorem SameRecords_any(A B:Option Addr)(n c m d:Nat)(l l':List Rec)(hn:l.length=n)(hm:l'.length=m)(hbig:n≤9223372036854775807)(w:World)(hr:Recs w A l)(hs:Recs w B l'):
 Calls Tryz.prog 32 #[.slice A n c,.slice B m d] w fun e w'=>e= .returned (.bool (recsEqB l l'))∧Ext w w':=by
 by_cases hnm:n=m
 ·subst hnm
  go_enter Tryz.func32,Tryz.ntmps32
  go_wp2_with fail
  go_loopw [5] (fun i wr=> ∃k:Nat,k≤n∧i= .int .i64 k∧Ext w wr∧Hid (l.take k=l'.take k)) (fun i _=>n-(intOf i).toNat)
  case atStart=>exact⟨0,Nat.zero_le _,rfl,exI,hid rfl⟩
  case round=>
   obtain⟨k,hk,rfl,⟨E,dd,rfl⟩,htk⟩:=hrel
   by_cases hlt:k<n
   ·have h1:k<l.length:=by omega
    have h2:k<l'.length:=by omega
    obtain⟨g,o,rfl,hg⟩:=hr.addr tB
    obtain⟨g',o',rfl,hg'⟩:=hs.addr tB
    have hrow:=hr.row h1
    have hrow':=hs.row h2
    cases hq:recEqB l[k] l'[k] with
    | false=>
     have HF:=hid (recsEqB_ne h1 h2 hq)
     obtain⟨r,hrk⟩:∃ r,l[k]=r:=⟨_,rfl⟩
     obtain⟨s,hsk⟩:∃ s,l'[k]=s:=⟨_,rfl⟩
     rw[hrk] at hrow hq
     rw[hsk] at hrow' hq
     obtain⟨h0,h1,h2,h3,h4,h5,h6,h7,h8,h9,h10⟩:=hrow
     obtain⟨g0,g1,g2,g3,g4,g5,g6,g7,g8,g9,g10⟩:=hrow'
     clear hrk hsk
     go_wp2_with fail
     refine wp_region_ord_same (.f 0 (.f 1 (.f 2 (.f 3 (.f 4 (.f 5 (.f 6 (.f 7 (.f 8 .d))))))))) tG tG ?_
     refine oR ?_
     refine wpOrd_nil ?_
     go_wp2_with fail
     go_ret
     exact⟨ret_val (by rw[HF.out];rfl),exI⟩
    | true=>
     have HT:=hid (take_snoc_eq h1 h2 htk.out hq)
     obtain⟨r,hrk⟩:∃ r,l[k]=r:=⟨_,rfl⟩
     obtain⟨s,hsk⟩:∃ s,l'[k]=s:=⟨_,rfl⟩
     rw[hrk] at hrow hq
     rw[hsk] at hrow' hq
     obtain⟨h0,h1,h2,h3,h4,h5,h6,h7,h8,h9,h10⟩:=hrow
     obtain⟨g0,g1,g2,g3,g4,g5,g6,g7,g8,g9,g10⟩:=hrow'
     clear hrk hsk
     go_wp2_with fail
     refine wp_region_ord_same (.f 0 (.f 1 (.f 2 (.f 3 (.f 4 (.f 5 (.f 6 (.f 7 (.f 8 .d))))))))) tG tG ?_
     refine oR ?_
     refine wpOrd_nil ?_
     go_wp2_with fail
     exact⟨⟨k+1,by omega,by go_num,exI,HT⟩,by simp[intOf];omega⟩
   ·obtain rfl:k=n:=by omega
    have hT:Hid (recsEqB l l'=true):=hid (recsEqB_iff.2 (by
     have h:=htk.out
     rwa [List.take_of_length_le tB,List.take_of_length_le tB] at h))
    clear hr hs
    go_wp2_with fail
    go_ret
    exact⟨ret_val (by rw[hT.out];rfl),exI⟩
 ·have hne:=recsEqB_len (a:=l) (b:=l') tB
  have HN:=hid hne
  clear hne
  go_enter Tryz.func32,Tryz.ntmps32
  go_wp2_with fail
  go_ret
  exact⟨ret_val TH,exI⟩
set_option maxRecDepth 100000 in
set_option maxHeartbeats 2000000 in
theorem Same_any(A B:Option Addr)(n c m d:Nat)(l l':List Rec)(hn:l.length=n)(hm:l'.length=m)(hbig:n≤9223372036854775807)(w:World)(hr:Recs w A l)(hs:Recs w B l'):
 Calls Tryz.prog 53 #[regV A n c,regV B m d] w fun e w'=>e= .returned (.bool (recsEqB l l'))∧Ext w w':=by
 go_enter Tryz.func53,Tryz.ntmps53
 go_wp2_with fail
 refine(SameRecords_any A B n c m d l l' hn hm hbig _ (recI ‹_›) (recI ‹_›)).mono ?_
 rintro e w1 ⟨rfl,E1,d1,rfl⟩
 go_wp2_with fail
 go_ret
 exact⟨rfl,exI⟩
end Go.Proofs.YtekjdeibnfaehaaGreat
namespace Go.Proofs.YtekjdeibnfaehaaGreat
open Go Go.RowKit
def evR:Rec:=⟨1,0,2,10,5,6,0,0,0,0,⟨#[98,117,105,108,100]⟩⟩
def yR:Rec:=⟨1,1,0,0,0,9,1,0,0,0,⟨#[]⟩⟩
def zR:Rec:=⟨1,2,0,0,0,12,1,1,0,0,⟨#[]⟩⟩
def thR:List Rec:=[evR,yR,zR]
theorem ev_len:(encL evR).length=28:=by decide+kernel
theorem ev_err:errRec evR=0:=by decide+kernel
theorem th_stands:standsB thR 1 0=true:=by decide+kernel
theorem th_standsE:standsE thR 1 0=0:=by decide+kernel
theorem th_noneE:standingE thR 10 10=0:=by decide+kernel
theorem th_none:(standingR thR 10 10).length=0:=by decide+kernel
theorem th_someE:standingE thR 10 12=0:=by decide+kernel
theorem th_some:(standingR thR 10 12).length=1:=by decide+kernel
theorem home_ten:homeI 10=1:=by decide+kernel
theorem ap_len:(appD newDrive newMem evR).f0.bytes.length=39:=by decide+kernel
theorem ap_firm:(appD newDrive newMem evR).f0.firm=10:=by decide+kernel
theorem ap_len1:(appD newDrive newMem evR).f1.bytes.length=0:=by decide+kernel
theorem ap_lenm:(appM newDrive newMem evR).recs.length=1:=by decide+kernel
theorem op_len29:(openM (crashD (appD newDrive newMem evR) 29 0)).recs.length=1:=by decide+kernel
theorem op_err28:openE (crashD (appD newDrive newMem evR) 28 0)=0:=by decide+kernel
theorem op_len28:(openM (crashD (appD newDrive newMem evR) 28 0)).recs.length=0:=by decide+kernel
theorem op_err29:openE (crashD (appD newDrive newMem evR) 29 0)=0:=by decide+kernel
theorem op_same29:recsEqB (openM (crashD (appD newDrive newMem evR) 29 0)).recs (appM newDrive newMem evR).recs=true:=by decide+kernel
end Go.Proofs.YtekjdeibnfaehaaGreat
namespace Go.Proofs.YtekjdeibnfaehaaGreat
open Go Go.RowKit
theorem DrvO.read{base:Nat}{w:World}{D:DriveD}{v:Value}(h:DrvO base w D v):∃ A0 n0 c0 A1 n1 c1,v=drvV A0 n0 c0 D.f0.firm A1 n1 c1 D.f1.firm∧DrvY w D A0 n0 c0 A1 n1 c1∧OwnB base w (.slice A0 n0 c0) D.f0.bytes∧OwnB base w (.slice A1 n1 c1) D.f1.bytes:=by
 obtain⟨A0,A1,hv,h0,h1⟩:=h
 exact⟨A0,_,_,A1,_,_,hv,⟨rfl,rfl,Nat.le_refl _,Nat.le_refl _,h0.cap,h1.cap,h0.of_byt_slice,h1.of_byt_slice⟩,h0,h1⟩
theorem Crash_y(A0:Option Addr)(n0 c0:Nat)(A1:Option Addr)(n1 c1:Nat)(D:DriveD)(k0 k1:Int)(w:World)(h:DrvY w D A0 n0 c0 A1 n1 c1)(hs0:n0≤140737488355328)(hs1:n1≤140737488355328)
 (hk0: -9223372036854775808≤k0) (hk0':k0≤9223372036854775807) (hk1: -9223372036854775808≤k1) (hk1':k1≤9223372036854775807):
 Calls Tryz.prog 13 #[drvV A0 n0 c0 D.f0.firm A1 n1 c1 D.f1.firm,.agg #[.int .i64 k0,.int .i64 k1]] w fun e w'=> ∃B0 m0 d0 B1 m1 d1,e= .returned (drvV B0 m0 d0 (crashD D k0 k1).f0.firm B1 m1 d1 (crashD D k0 k1).f1.firm)∧DrvY w' (crashD D k0 k1) B0 m0 d0 B1 m1 d1∧Ext w w':=by
 refine(Crash_any A0 n0 c0 A1 n1 c1 D k0 k1 h.l0 h.l1 h.h0 h.h1 h.k0 h.k1 hs0 hs1 hk0 hk0' hk1 hk1' w h.b0 h.b1).mono ?_
 rintro e w' ⟨v,rfl,hv,hx⟩
 obtain⟨B0,m0,d0,B1,m1,d1,rfl,hy,-,-⟩:=hv.read
 exact⟨B0,m0,d0,B1,m1,d1,rfl,hy,hx⟩
theorem Open_y(A0:Option Addr)(n0 c0:Nat)(A1:Option Addr)(n1 c1:Nat)(D:DriveD)(w:World)(h:DrvY w D A0 n0 c0 A1 n1 c1):
 Calls Tryz.prog 15 #[drvV A0 n0 c0 D.f0.firm A1 n1 c1 D.f1.firm] w fun e w'=> ∃B0 m0 d0 B1 m1 d1 Am nm cm,e= .returned (.tuple #[drvV B0 m0 d0 (openD D).f0.firm B1 m1 d1 (openD D).f1.firm,memV Am nm cm (openM D).file (openM D).gen,.int .i64 (openE D)])∧
  DrvY w' (openD D) B0 m0 d0 B1 m1 d1∧MemX w.heap.size w' (openM D) Am nm cm∧Ext w w':=by
 refine(Open_any A0 n0 c0 A1 n1 c1 D h.l0 h.l1 h.h0 h.h1 h.k0 h.k1 w h.b0 h.b1).mono ?_
 rintro e w' ⟨B0,m0,d0,B1,m1,d1,Am,nm,cm,rfl,hd,hm,hx⟩
 exact⟨B0,m0,d0,B1,m1,d1,Am,nm,cm,rfl,hd.read,hm,hx⟩
set_option maxRecDepth 100000 in
set_option maxHeartbeats 1000000 in
theorem event_any(w:World):Calls Tryz.prog 70 #[] w fun e w'=>e= .returned (recV evR)∧Ext w w':=by
 go_enter Tryz.func70,Tryz.ntmps70
 go_wp2_with fail
 refine bodyPost_ret (v:=recV evR) (by simp[results,Tryz.results70,go_sem,evR]) rfl ?_
 exact⟨rfl,exI⟩
set_option maxRecDepth 100000 in
set_option maxHeartbeats 2000000 in
theorem three_any(w:World):Calls Tryz.prog 71 #[] w fun e w'=> ∃A,e= .returned (regV A 3 3)∧Recs w' A thR∧Ext w w':=by
 go_enter Tryz.func71,Tryz.ntmps71
 go_wp2_with fail
 have hl1:w.heap.size+1≤w.heap.size+1:=Nat.le_refl _
 have hl2:w.heap.size+1≤w.heap.size+1+1:=by omega
 have hl3:w.heap.size+1<w.heap.size+1+1+1:=by omega
 have hl4:w.heap.size+1+1<w.heap.size+1+1+1:=by omega
 refine wp_region_ord_from (w.heap.size+1) (.f 1 (.f 2 (.a 0 (.a 3 (.f 4 (.a 5 .d)))))) tG tG ?_
 refine oR ?_
 refine wpOrd_call rfl rfl rfl Tryz.call70 (fun R hR=> ?_)
 go_simp
 refine(event_any _).mono ?_
 rintro e w1 ⟨rfl,E1,d1,rfl⟩
 refine hR _ _ ⟨_,rfl,?_,?_⟩
 ·exact TO
 clear hR R
 simp only[Act.put,zp]
 refine wpOrd_act rfl rfl (fun K hK=> ?_)
 go_simp
 refine hK _ _ ⟨?_,?_⟩
 ·exact TO
 clear hK K
 try simp only[Act.put,zp]
 refine oR ?_
 refine wpOrd_act rfl rfl (fun K hK=> ?_)
 go_simp
 refine hK _ _ ⟨?_,?_⟩
 ·exact TO
 clear hK K
 try simp only[Act.put,zp]
 refine wpOrd_nil ?_
 all_goals
  go_wp2_with fail
 all_goals
  refine bodyPost_ret (v:=regV (some ⟨w.heap.size+1+1+1+E1.size,0,none⟩) 3 3) (by simp[results,Tryz.results71,go_sem]) rfl ?_
  exact⟨_,rfl,Sl_at (thR.flatMap encRec) _ 11 3 _ rfl tE,exI⟩
end Go.Proofs.YtekjdeibnfaehaaGreat
