/- Texts of a proof. -/
import Derived.Test.YtekjdeibnfaehaaGreatKDaq
set_option linter.unusedSimpArgs false
set_option linter.unusedVariables false
namespace Go.Proofs.YtekjdeibnfaehaaGreat
open Go Go.RowKit
theorem th_big:TxtBig thR:=by
 intro r hr
 simp only[thR,List.mem_cons,List.not_mem_nil,or_false] at hr
 rcases hr with rfl|rfl|rfl <;> decide
theorem newDrive_y{base c:Nat}{w:World}{A:Option Addr}(h:OwnB base w (.slice A 10 c) (headB 1 0)):DrvY w newDrive A 10 c none 0 0:=
 ⟨headB_length 1 0,rfl,h.le,Nat.le_refl _,h.cap,by omega,h.of_byt_slice,Byt.nil _ _⟩
set_option maxRecDepth 100000 in
set_option maxHeartbeats 16000000 in
theorem sane_any(w:World):Calls Tryz.prog 18 #[] w fun e w'=>e= .returned (.bool true)∧Ext w w':=by
 have Hbig:=hid th_big
 go_enter Tryz.func18,Tryz.ntmps18
 go_wp2_with (first|(go_at_call 69;refine(Encode_any evR _ tN).mono ?_;rintro e w1 ⟨A1,c1,rfl,hb1,E1,d1,rfl⟩;rw[ev_len,ev_err])|(go_at_call 24;refine(Stands_any _ 3 3 thR _ _ rfl tB Hbig.out _ T6).mono ?_;rintro e w1 ⟨rfl,E1,d1,rfl⟩;rw[th_stands,th_standsE])|(go_at_call 26;refine(Standing_any _ 3 3 thR _ _ rfl tB Hbig.out _ T6).mono ?_;rintro e w1 ⟨Ag,ng,cg,rfl,hng,hrg,E1,d1,rfl⟩;(first|(rw[th_noneE];replace hng:=hng.out;rw[th_none] at hng;subst hng)|(rw[th_someE];replace hng:=hng.out;rw[th_some] at hng;subst hng));clear hrg)|(go_at_call 70;refine(event_any _).mono ?_;rintro e w1 ⟨rfl,E1,d1,rfl⟩)|(go_at_call 71;refine(three_any _).mono ?_;rintro e w1 ⟨At1,rfl,hrt1,E1,d1,rfl⟩)|(go_at_call 72;refine(New_any _).mono ?_;rintro e w1 ⟨Aw1,cw1,rfl,how1,E1,d1,rfl⟩))
 have Hnd:=hid (newDrive_y how1)
 clear how1
 refine wp_region_ord (.k3 0 (.k 1 (.a 2 (.a 3 (.f 4 (.f 5 (.f 6 (.f 7 (.a 8 (.a 9 (.f 10 .d))))))))) 2 (.a 1 (.a 3 (.f 4 (.f 5 (.f 6 (.f 7 (.a 8 (.a 9 (.f 10 .d)))))))))) 1 (.k 0 (.a 2 (.a 3 (.f 4 (.f 5 (.f 6 (.f 7 (.a 8 (.a 9 (.f 10 .d))))))))) 2 (.a 0 (.a 3 (.f 4 (.f 5 (.f 6 (.f 7 (.a 8 (.a 9 (.f 10 .d)))))))))) 2 (.k 0 (.a 1 (.a 3 (.f 4 (.f 5 (.f 6 (.f 7 (.a 8 (.a 9 (.f 10 .d))))))))) 1 (.a 0 (.a 3 (.f 4 (.f 5 (.f 6 (.f 7 (.a 8 (.a 9 (.f 10 .d))))))))))) (Ext (w)) tG tG tR ?_
 refine wpOrd_fork3 ?_ ?_ ?_
 focus
  refine oA ?_
  refine wpOrd_fork ?_ ?_
  focus
   refine oA ?_
   refine wpOrd_call rfl rfl rfl Tryz.call70 (fun R hR=> ?_)
   go_simp
   refine(event_any _).mono ?_
   rintro e w1 ⟨rfl,Ee,de,rfl⟩
   refine hR _ _ ⟨_,rfl,?_,?_⟩
   ·exact tR
   clear hR R
   simp only[Act.put,zp]
   refine wpOrd_call rfl rfl rfl Tryz.call19 (fun R hR=> ?_)
   go_simp
   refine(Append_any _ 10 _ _ _ _ newDrive _ 0 _ newMem evR rfl tB tN _ (DrvY.of_ext Hnd.out tR) (Recs.nil _ _)).mono ?_
   rintro e w1 ⟨Ba,na,ca,Bb,nb,cb,Bm,nmm,cmm,rfl,hdz,hmx,Ea,da,rfl⟩
   refine hR _ _ ⟨_,rfl,?_,?_⟩
   ·exact tR
   clear hR R
   simp only[Act.put,zp]
   refine oS ?_
   refine oA ?_
   refine oA ?_
   refine oS ?_
   refine wpOrd_nil ?_
  rotate_right
  focus
   refine wpOrd_call rfl rfl rfl Tryz.call70 (fun R hR=> ?_)
   go_simp
   refine(event_any _).mono ?_
   rintro e w1 ⟨rfl,Ee,de,rfl⟩
   refine hR _ _ ⟨_,rfl,?_,?_⟩
   ·exact tR
   clear hR R
   simp only[Act.put,zp]
   refine oA ?_
   refine wpOrd_call rfl rfl rfl Tryz.call19 (fun R hR=> ?_)
   go_simp
   refine(Append_any _ 10 _ _ _ _ newDrive _ 0 _ newMem evR rfl tB tN _ (DrvY.of_ext Hnd.out tR) (Recs.nil _ _)).mono ?_
   rintro e w1 ⟨Ba,na,ca,Bb,nb,cb,Bm,nmm,cmm,rfl,hdz,hmx,Ea,da,rfl⟩
   refine hR _ _ ⟨_,rfl,?_,?_⟩
   ·exact tR
   clear hR R
   simp only[Act.put,zp]
   refine oS ?_
   refine oA ?_
   refine oA ?_
   refine oS ?_
   refine wpOrd_nil ?_
 rotate_right
 focus
  refine wpOrd_call rfl rfl rfl Tryz.call70 (fun R hR=> ?_)
  go_simp
  refine(event_any _).mono ?_
  rintro e w1 ⟨rfl,Ee,de,rfl⟩
  refine hR _ _ ⟨_,rfl,?_,?_⟩
  ·exact tR
  clear hR R
  simp only[Act.put,zp]
  refine wpOrd_fork ?_ ?_
  focus
   refine oA ?_
   refine oA ?_
   refine wpOrd_call rfl rfl rfl Tryz.call19 (fun R hR=> ?_)
   go_simp
   refine(Append_any _ 10 _ _ _ _ newDrive _ 0 _ newMem evR rfl tB tN _ (DrvY.of_ext Hnd.out tR) (Recs.nil _ _)).mono ?_
   rintro e w1 ⟨Ba,na,ca,Bb,nb,cb,Bm,nmm,cmm,rfl,hdz,hmx,Ea,da,rfl⟩
   refine hR _ _ ⟨_,rfl,?_,?_⟩
   ·exact tR
   clear hR R
   simp only[Act.put,zp]
   refine oS ?_
   refine oA ?_
   refine oA ?_
   refine oS ?_
   refine wpOrd_nil ?_
  rotate_right
  focus
   refine oA ?_
   refine oA ?_
   refine wpOrd_call rfl rfl rfl Tryz.call19 (fun R hR=> ?_)
   go_simp
   refine(Append_any _ 10 _ _ _ _ newDrive _ 0 _ newMem evR rfl tB tN _ (DrvY.of_ext Hnd.out tR) (Recs.nil _ _)).mono ?_
   rintro e w1 ⟨Ba,na,ca,Bb,nb,cb,Bm,nmm,cmm,rfl,hdz,hmx,Ea,da,rfl⟩
   refine hR _ _ ⟨_,rfl,?_,?_⟩
   ·exact tR
   clear hR R
   simp only[Act.put,zp]
   refine oS ?_
   refine oA ?_
   refine oA ?_
   refine oS ?_
   refine wpOrd_nil ?_
 rotate_right
 focus
  refine oA ?_
  refine wpOrd_fork ?_ ?_
  focus
   refine oA ?_
   refine wpOrd_call rfl rfl rfl Tryz.call70 (fun R hR=> ?_)
   go_simp
   refine(event_any _).mono ?_
   rintro e w1 ⟨rfl,Ee,de,rfl⟩
   refine hR _ _ ⟨_,rfl,?_,?_⟩
   ·exact tR
   clear hR R
   simp only[Act.put,zp]
   refine wpOrd_call rfl rfl rfl Tryz.call19 (fun R hR=> ?_)
   go_simp
   refine(Append_any _ 10 _ _ _ _ newDrive _ 0 _ newMem evR rfl tB tN _ (DrvY.of_ext Hnd.out tR) (Recs.nil _ _)).mono ?_
   rintro e w1 ⟨Ba,na,ca,Bb,nb,cb,Bm,nmm,cmm,rfl,hdz,hmx,Ea,da,rfl⟩
   refine hR _ _ ⟨_,rfl,?_,?_⟩
   ·exact tR
   clear hR R
   simp only[Act.put,zp]
   refine oS ?_
   refine oA ?_
   refine oA ?_
   refine oS ?_
   refine wpOrd_nil ?_
  rotate_right
  focus
   refine wpOrd_call rfl rfl rfl Tryz.call70 (fun R hR=> ?_)
   go_simp
   refine(event_any _).mono ?_
   rintro e w1 ⟨rfl,Ee,de,rfl⟩
   refine hR _ _ ⟨_,rfl,?_,?_⟩
   ·exact tR
   clear hR R
   simp only[Act.put,zp]
   refine oA ?_
   refine wpOrd_call rfl rfl rfl Tryz.call19 (fun R hR=> ?_)
   go_simp
   refine(Append_any _ 10 _ _ _ _ newDrive _ 0 _ newMem evR rfl tB tN _ (DrvY.of_ext Hnd.out tR) (Recs.nil _ _)).mono ?_
   rintro e w1 ⟨Ba,na,ca,Bb,nb,cb,Bm,nmm,cmm,rfl,hdz,hmx,Ea,da,rfl⟩
   refine hR _ _ ⟨_,rfl,?_,?_⟩
   ·exact tR
   clear hR R
   simp only[Act.put,zp]
   refine oS ?_
   refine oA ?_
   refine oA ?_
   refine oS ?_
   refine wpOrd_nil ?_
 all_goals
  have hna:na=39:=by rw[←hdz.l0,ap_len]
  have hnb:nb=0:=by rw[←hdz.l1,ap_len1]
  have hnm:nmm=1:=by rw[hmx.l,ap_lenm]
  subst hna hnb hnm
  have Hdz:=hid hdz
  have Hmx:=hid hmx
  clear hdz hmx
  go_wp2_with (first|(go_at_call 13;refine(Crash_y _ _ _ _ _ _ (appD newDrive newMem evR) _ _ _ (DrvZ.moved2 (base:=0) Hdz.out tR tE tE tB).read tB tB tB tB tB tB).mono ?_;rintro e w1 ⟨Ck0,ck0,ckc0,Ck1,ck1,ckc1,rfl,hck,Ec,dc,rfl⟩)|(go_at_call 15;refine(Open_y _ _ _ _ _ _ _ _ hck).mono ?_;rintro e w1 ⟨Bo0,no0,co0,Bo1,no1,co1,Amo,nmo,cmo,rfl,hdo,hmo,Eo,do_,rfl⟩;(first|(rw[op_err28];have hml:=hmo.l;rw[op_len28] at hml;subst hml;clear hmo hdo hck)|(rw[op_err29];have hml:=hmo.l;rw[op_len29] at hml;subst hml;have Hm29:=hid hmo;clear hmo hdo hck)))|(go_at_call 54;refine(Home_any 10 _).mono ?_;rintro e w1 ⟨rfl,rfl⟩;rw[home_ten];have hfirm:=ap_firm)|(go_at_call 53;refine(Same_any _ _ _ _ _ _ (openM (crashD (appD newDrive newMem evR) 29 0)).recs (appM newDrive newMem evR).recs Hm29.out.l.symm Hmx.out.l.symm tB _ (OwnR.of_slice (base:=0) (OwnR.moved2 Hm29.out.r tR tE tE tB)) (OwnR.of_slice (base:=0) (OwnR.moved2 Hmx.out.r tR tE tE tB))).mono ?_;rintro e w1 ⟨rfl,Es,ds,rfl⟩;rw[op_same29]))
 all_goals
  go_ret
  exact⟨ret_val rfl,tR⟩
end Go.Proofs.YtekjdeibnfaehaaGreat
set_option linter.unusedSimpArgs false
set_option linter.unusedVariables false
namespace Go.Proofs.YtekjdeibnfaehaaGreat
open Go Go.RowKit
def SlA(base k:Nat)(w:World)(A:Option Addr)(n:Nat)(xs:List Value):Prop:=Sl k w A n xs∧(0<n→∀ a,A=some a→base≤a.block)
section
variable{base base' N k n:Nat}{w w' X X' W':World}{A:Option Addr}{xs:List Value}{E:Array Obj}{d d':Nat}
theorem SlA.of_ext(h:SlA base k w A n xs)(hx:Ext w w'):SlA base k w' A n xs:=⟨h.1.of_ext hx,h.2⟩
theorem SlA.mono(h:SlA base k w A n xs)(hb:base'≤base):SlA base' k w A n xs:=⟨h.1,fun hn a ha=>Nat.le_trans hb (h.2 hn a ha)⟩
theorem SlA.moved(h:SlA N k (X.ext E d) A n xs)(hs:X'.heap.size=X.heap.size)(hN:X.heap.size≤N):SlA N k (X'.ext E d') A n xs:=by
 refine⟨⟨h.1.1,fun hn=> ?_⟩,h.2⟩
 obtain⟨g,o,rfl,hg,hc⟩:=h.1.2 hn
 have hb:N≤g:=h.2 hn _ rfl
 refine⟨g,o,rfl,by simp at hg ⊢;omega,fun j u hu=> ?_⟩
 rw[←hc j u hu]
 simp only[World.cell?,World.ext]
 rw[Array.getElem?_append_right tB,Array.getElem?_append_right tB,hs]
theorem SlA.moved2(h:SlA N k (X.ext E d) A n xs)(hx:Ext (X'.ext E d') W')(hs:X'.heap.size=X.heap.size)(hN:X.heap.size≤N)(hb:base≤N):SlA base k W' A n xs:=
 ((SlA.moved h hs hN).of_ext hx).mono hb
end
def RecsA(base:Nat)(w:World)(A:Option Addr)(l:List Rec):Prop:=SlA base 11 w A l.length (l.flatMap encRec)
def BytA(base:Nat)(w:World)(A:Option Addr)(l:List UInt8):Prop:=SlA base 1 w A l.length (l.map encB)
section
variable{base base' N n c:Nat}{w w' X X' W':World}{A:Option Addr}{l:List Rec}{b:List UInt8}{E:Array Obj}{d d':Nat}
theorem RecsA.read(h:RecsA base w A l):Recs w A l:=h.1
theorem BytA.read(h:BytA base w A b):Byt w A b:=h.1
theorem RecsA.of_ext(h:RecsA base w A l)(hx:Ext w w'):RecsA base w' A l:=SlA.of_ext h hx
theorem BytA.of_ext(h:BytA base w A b)(hx:Ext w w'):BytA base w' A b:=SlA.of_ext h hx
theorem RecsA.mono(h:RecsA base w A l)(hb:base'≤base):RecsA base' w A l:=SlA.mono h hb
theorem BytA.mono(h:BytA base w A b)(hb:base'≤base):BytA base' w A b:=SlA.mono h hb
theorem RecsA.moved2(h:RecsA N (X.ext E d) A l)(hx:Ext (X'.ext E d') W')(hs:X'.heap.size=X.heap.size)(hN:X.heap.size≤N)(hb:base≤N):RecsA base W' A l:=SlA.moved2 h hx hs hN hb
theorem RecsA.nil(base:Nat)(w:World)(A:Option Addr):RecsA base w A []:=⟨Recs.nil w A,fun h=>absurd h (Nat.lt_irrefl 0)⟩
theorem BytA.nil(base:Nat)(w:World)(A:Option Addr):BytA base w A []:=⟨Byt.nil w A,fun h=>absurd h (Nat.lt_irrefl 0)⟩
theorem OwnR.anc(h:OwnR base w (.slice A n c) l):RecsA base w A l:=⟨h.of_slice,fun _ a ha=>(h.lies a ha).1⟩
theorem OwnB.lies(h:OwnB base w (.slice A n c) b):∀ a,A=some a→base≤a.block∧a.block<w.heap.size:=by
 intro a ha
 rcases h.2 with⟨hv,_⟩|⟨g,cap,cur,hv,hb,hh,_⟩
 ·cases hv;cases ha
 ·cases hv;cases ha
  exact⟨hb,(Array.getElem?_eq_some_iff.1 hh).1⟩
theorem OwnB.anc(h:OwnB base w (.slice A n c) b):BytA base w A b:=⟨h.of_byt_slice,fun _ a ha=>(h.lies a ha).1⟩
theorem RowB.anc(h:RowB base w A n c b):BytA base w A b:=by
 rcases h with rfl|h
 ·exact BytA.nil _ _ _
 ·exact h.anc
end
structure DrvA(base:Nat)(w:World)(D:DriveD)(A0:Option Addr)(n0 c0:Nat)(A1:Option Addr)(n1 c1:Nat):Prop where
 l0:D.f0.bytes.length=n0
 l1:D.f1.bytes.length=n1
 h0:n0≤c0
 h1:n1≤c1
 k0:c0≤9223372036854775807
 k1:c1≤9223372036854775807
 b0:BytA base w A0 D.f0.bytes
 b1:BytA base w A1 D.f1.bytes
section
variable{base base' N n0 c0 n1 c1:Nat}{w w' X X' W':World}{D:DriveD}{A0 A1:Option Addr}{E:Array Obj}{d d':Nat}
theorem DrvA.read(h:DrvA base w D A0 n0 c0 A1 n1 c1):DrvY w D A0 n0 c0 A1 n1 c1:=⟨h.l0,h.l1,h.h0,h.h1,h.k0,h.k1,h.b0.read,h.b1.read⟩
theorem DrvA.of_ext(h:DrvA base w D A0 n0 c0 A1 n1 c1)(hx:Ext w w'):DrvA base w' D A0 n0 c0 A1 n1 c1:=⟨h.l0,h.l1,h.h0,h.h1,h.k0,h.k1,h.b0.of_ext hx,h.b1.of_ext hx⟩
theorem DrvA.mono(h:DrvA base w D A0 n0 c0 A1 n1 c1)(hb:base'≤base):DrvA base' w D A0 n0 c0 A1 n1 c1:=⟨h.l0,h.l1,h.h0,h.h1,h.k0,h.k1,h.b0.mono hb,h.b1.mono hb⟩
theorem DrvX.anc(h:DrvX base w D A0 n0 c0 A1 n1 c1):DrvA base w D A0 n0 c0 A1 n1 c1:=⟨h.l0.symm,h.l1.symm,h.b0.le,h.b1.le,h.b0.cap,h.b1.cap,h.b0.anc,h.b1.anc⟩
theorem DrvZ.anc(h:DrvZ base w D A0 n0 c0 A1 n1 c1):DrvA base w D A0 n0 c0 A1 n1 c1:=⟨h.l0,h.l1,h.h0,h.h1,h.k0,h.k1,h.r0.anc,h.r1.anc⟩
theorem DrvA.zero(base:Nat)(w:World):DrvA base w noDrive none 0 0 none 0 0:=(DrvZ.zero base w).anc
end
structure MemA(base:Nat)(w:World)(M:MemD)(A:Option Addr)(n c:Nat):Prop where
 l:M.recs.length=n
 r:RecsA base w A M.recs
section
variable{base base' N n c:Nat}{w w' X X' W':World}{M:MemD}{A:Option Addr}{E:Array Obj}{d d':Nat}
theorem MemA.of_ext(h:MemA base w M A n c)(hx:Ext w w'):MemA base w' M A n c:=⟨h.l,h.r.of_ext hx⟩
theorem MemX.anc(h:MemX base w M A n c):MemA base w M A n c:=⟨h.l.symm,h.r.anc⟩
end
end Go.Proofs.YtekjdeibnfaehaaGreat
set_option linter.unusedSimpArgs false
set_option linter.unusedVariables false
namespace Go.Proofs.YtekjdeibnfaehaaGreat
open Go Go.RowKit
def BoxC(P:World)(b:Nat)(cs:List Value)(t:TypeId):Prop:=P.heap[b]? =some (.cells cs.toArray t (0,0))
section
variable{P P':World}{b b':Nat}{cs:List Value}{t:TypeId}
theorem BoxC.lt(h:BoxC P b cs t):b<P.heap.size:=(Array.getElem?_eq_some_iff.1 h).1
theorem BoxC.cell(h:BoxC P b cs t){i:Nat}{v:Value}(hv:cs[i]? =some v):P.cell? ⟨b,i,none⟩=some v:=by
 simp only[World.cell?,show P.heap[b]? =some (.cells cs.toArray t (0,0)) from h,Option.isSome_none,Bool.false_eq_true,if_false]
 rw[List.getElem?_toArray,hv]
theorem BoxC.frozen(h:BoxC P b cs t)(i:Nat):P.frozen? ⟨b,i,none⟩=false:=by
 simp[World.frozen?,show P.heap[b]? =some (.cells cs.toArray t (0,0)) from h]
theorem BoxC.of_ext(h:BoxC P b cs t)(hx:Ext P P'):BoxC P' b cs t:=by
 obtain⟨E,d,rfl⟩:=hx
 exact(heap_ext P E d b h.lt).trans h
theorem BoxC.new(P:World)(cs:List Value)(t:TypeId):BoxC (P.alloc (.cells cs.toArray t)) P.heap.size cs t:=heap_alloc_new P _
theorem BoxC.new_at{g:Nat}(cs:List Value)(t:TypeId)(hg:g=P.heap.size):BoxC (P.alloc (.cells cs.toArray t)) g cs t:=by subst hg;exact BoxC.new P cs t
theorem BoxC.alloc(h:BoxC P b cs t)(o:Obj):BoxC (P.alloc o) b cs t:=by
 unfold BoxC
 rw[Below.heap_alloc _ _ _ h.lt];exact h
theorem BoxC.drew(h:BoxC P b cs t):BoxC P.drew b cs t:=h
theorem BoxC.set(h:BoxC P b cs t)(i:Nat)(v:Value):BoxC (P.setCell ⟨b,i,none⟩ v) b (cs.set i v) t:=by
 rw[setCell_eq_setRow P b i _ t (0,0) _ h]
 have:=setRow_heap P b _ (cs.toArray.setIfInBounds i v) _ _ h
 unfold BoxC
 rw[this]
 simp
theorem BoxC.other(h:BoxC P b cs t)(i:Nat)(v:Value)(hb:b'≠b):BoxC (P.setCell ⟨b',i,none⟩ v) b cs t:=by
 unfold BoxC World.setCell
 simp only
 rw[Array.getElem?_modify,if_neg hb]
 exact h
theorem cell?_drew_ext(w:World)(E:Array Obj)(d n i:Nat)(hn:n<w.heap.size):(w.drew.ext E d).cell? ⟨n,i,none⟩=w.cell? ⟨n,i,none⟩:=cell?_ext w.drew E d n i none hn
theorem frozen?_drew_ext(w:World)(E:Array Obj)(d n i:Nat)(hn:n<w.heap.size):(w.drew.ext E d).frozen? ⟨n,i,none⟩=w.frozen? ⟨n,i,none⟩:=frozen?_ext w.drew E d n i none hn
theorem Ext.box{w:World}(h:Ext w P)(i:Nat)(v:Value)(hb:w.heap.size≤b):Ext w (P.setCell ⟨b,i,none⟩ v):=Ext.setCell h _ _ hb
end
section
variable{base k n:Nat}{P:World}{A:Option Addr}{xs:List Value}{b i:Nat}{v:Value}
theorem SlA.set(h:SlA base k P A n xs)(hb:b<base):SlA base k (P.setCell ⟨b,i,none⟩ v) A n xs:=by
 refine⟨⟨h.1.1,fun hn=> ?_⟩,h.2⟩
 obtain⟨g,o,rfl,hg,hc⟩:=h.1.2 hn
 have hgb:base≤g:=h.2 hn _ rfl
 refine⟨g,o,rfl,by rw[World.size_setCell];exact hg,fun j u hu=> ?_⟩
 rw[World.cell?_setCell_other _ _ _ _ (by intro e;have:=congrArg Addr.block e;simp only at this;omega)]
 exact hc j u hu
theorem RecsA.set{l:List Rec}(h:RecsA base P A l)(hb:b<base):RecsA base (P.setCell ⟨b,i,none⟩ v) A l:=SlA.set h hb
theorem BytA.set{l:List UInt8}(h:BytA base P A l)(hb:b<base):BytA base (P.setCell ⟨b,i,none⟩ v) A l:=SlA.set h hb
theorem DrvA.set{D:DriveD}{A0 A1:Option Addr}{n0 c0 n1 c1:Nat}(h:DrvA base P D A0 n0 c0 A1 n1 c1)(hb:b<base):DrvA base (P.setCell ⟨b,i,none⟩ v) D A0 n0 c0 A1 n1 c1:=
 ⟨h.l0,h.l1,h.h0,h.h1,h.k0,h.k1,h.b0.set hb,h.b1.set hb⟩
theorem BytA.drew{l:List UInt8}(h:BytA base P A l):BytA base P.drew A l:=h
theorem RecsA.drew{l:List Rec}(h:RecsA base P A l):RecsA base P.drew A l:=h
theorem BytA.alloc{l:List UInt8}(h:BytA base P A l)(o:Obj):BytA base (P.alloc o) A l:=h.of_ext ((Ext.refl P).alloc o)
theorem RecsA.alloc{l:List Rec}(h:RecsA base P A l)(o:Obj):RecsA base (P.alloc o) A l:=h.of_ext ((Ext.refl P).alloc o)
end
end Go.Proofs.YtekjdeibnfaehaaGreat
set_option linter.unusedSimpArgs false
set_option linter.unusedVariables false
namespace Go.Proofs.YtekjdeibnfaehaaGreat
open Go Go.RowKit
structure Plc where
 o:Int
 s:Int
def encP(p:Plc):List Value:=[.int .i64 p.o,.int .i64 p.s]
structure OffD where
 me:Int
 d:DriveD
 m:MemD
 kn:Nat→List Plc
structure SlT where
 A:Option Addr
 n:Nat
 c:Nat
structure OffL where
 A0:Option Addr
 n0:Nat
 c0:Nat
 A1:Option Addr
 n1:Nat
 c1:Nat
 Am:Option Addr
 nm:Nat
 cm:Nat
 k:Nat→SlT
@[reducible] def offV(O:OffD)(L:OffL):Value:=.agg #[.int .i64 O.me,.slice L.A0 L.n0 L.c0,.int .i64 O.d.f0.firm,.slice L.A1 L.n1 L.c1,.int .i64 O.d.f1.firm,.slice L.Am L.nm L.cm,.int .i64 O.m.file,.int .i64 O.m.gen,.slice (L.k 0).A (L.k 0).n (L.k 0).c,.slice (L.k 1).A (L.k 1).n (L.k 1).c,.slice (L.k 2).A (L.k 2).n (L.k 2).c,.slice (L.k 3).A (L.k 3).n (L.k 3).c,.slice (L.k 4).A (L.k 4).n (L.k 4).c,.slice (L.k 5).A (L.k 5).n (L.k 5).c,.slice (L.k 6).A (L.k 6).n (L.k 6).c,.slice (L.k 7).A (L.k 7).n (L.k 7).c,.slice (L.k 8).A (L.k 8).n (L.k 8).c]
def Plcs(w:World)(t:SlT)(l:List Plc):Prop:=l.length=t.n∧t.n≤t.c∧t.c≤9223372036854775807∧Sl 2 w t.A t.n (l.flatMap encP)
structure OffY(w:World)(O:OffD)(L:OffL):Prop where
 d:DrvY w O.d L.A0 L.n0 L.c0 L.A1 L.n1 L.c1
 l:O.m.recs.length=L.nm
 h:L.nm≤L.cm∧L.cm≤9223372036854775807
 t:TxtBig O.m.recs
 r:Recs w L.Am O.m.recs
 k:∀ i,i<9→Plcs w (L.k i) (O.kn i)
def pAt(l:List Plc)(i:Nat):Plc:=l[i]?.getD ⟨0,0⟩
def plOk(l:List Plc)(i:Nat):Bool:=isPlaceB (pAt l i).o (pAt l i).s&&(decide (i=0)||decide (cmpP (pAt l (i-1)).o (pAt l (i-1)).s (pAt l i).o (pAt l i).s<0))
def knB(l:List Plc):Bool:=(List.range l.length).all (plOk l)
def offOk(O:OffD):Bool:=inB O.me 0 8&&memOk O.d O.m&&(List.range 9).all (fun i=>knB (O.kn i))
section
open Op
@[go_sem ↓] theorem run_index_kn(f:Nat→SlT)(k:Nat)(w:World)(hk:k<9):Sem.run Tryz.prog (Instr.index 74 (.agg #[.slice (f 0).A (f 0).n (f 0).c,.slice (f 1).A (f 1).n (f 1).c,.slice (f 2).A (f 2).n (f 2).c,.slice (f 3).A (f 3).n (f 3).c,.slice (f 4).A (f 4).n (f 4).c,.slice (f 5).A (f 5).n (f 5).c,.slice (f 6).A (f 6).n (f 6).c,.slice (f 7).A (f 7).n (f 7).c,.slice (f 8).A (f 8).n (f 8).c]) (.int .i64 k)) w= .ok (.slice (f k).A (f k).n (f k).c) w:=by
 have:k=0∨k=1∨k=2∨k=3∨k=4∨k=5∨k=6∨k=7∨k=8:=by omega
 rcases this with rfl|rfl|rfl|rfl|rfl|rfl|rfl|rfl|rfl
 all_goals simp[Instr.index,go_sem,part]
end
theorem all_false{p:Nat→Bool}{n:Nat}(k:Nat)(hk:k<n)(h:p k=false):(List.range n).all p=false:=by
 cases hq:(List.range n).all p with
 | false=>rfl
 | true=>rw[List.all_eq_true.1 hq k (List.mem_range.2 hk)] at h;cases h
theorem all_true{p:Nat→Bool}{n:Nat}(h:∀ i,i<n→p i=true):(List.range n).all p=true:=List.all_eq_true.2 fun i hi=>h i (List.mem_range.1 hi)
theorem plcs_row{w:World}{A:Option Addr}{n:Nat}{l:List Plc}(h:Sl 2 w A n (l.flatMap encP))(hn:l.length=n)(hp:0<n):∃ g o,A=some ⟨g,o,none⟩∧g<w.heap.size∧
 ∀i,i<n→w.cell? ⟨g,o+i * 2,none⟩=some (.int .i64 (pAt l i).o)∧w.cell? ⟨g,o+i * 2+1,none⟩=some (.int .i64 (pAt l i).s):=by
 obtain⟨g,o,rfl,hg,hc⟩:=h.2 hp
 refine⟨g,o,rfl,hg,fun i hi=> ?_⟩
 have hi':i<l.length:=by omega
 have h0:=flatMap_get encP 2 (fun _=>rfl) l i 0 hi' tN
 have h1:=flatMap_get encP 2 (fun _=>rfl) l i 1 hi' tN
 have e:pAt l i=l[i]:=by simp[pAt,hi']
 rw[e]
 exact⟨hc (i * 2) _ (by simpa [encP] using h0),by have:=hc (i * 2+1) _ (by simpa [encP] using h1);rw[Nat.add_assoc];exact this⟩
set_option maxRecDepth 100000 in
set_option maxHeartbeats 16000000 in
theorem isAsOffice_any(O:OffD)(L:OffL)(w:World)(h:OffY w O L):
 Calls Tryz.prog 101 #[offV O L] w fun e w'=>e= .returned (.bool (offOk O))∧Ext w w':=by
 have hD:=h.d
 have hK:=hid h.k
 have hr:=h.r
 have hm:=h.l
 have hmb:=h.h
 obtain⟨hl0,hl1,hc0,hc1,hbig0,hbig1,hb0,hb1⟩:=hD
 clear h
 have HO:Hid (offOk O=(inB O.me 0 8&&memOk O.d O.m&&(List.range 9).all (fun i=>knB (O.kn i)))):=hid rfl
 cases hme:inB O.me 0 8 with
 | false=>
  have HO2:Hid (offOk O=false):=hid (by rw[HO.out,hme];rfl)
  clear HO
  go_enter Tryz.func101,Tryz.ntmps101
  go_wp2_with (go_at_call 97;refine(isOffice_any _ _).mono ?_;rintro e w1 ⟨rfl,rfl⟩;rw[hme])
  go_ret
  exact⟨ret_val (by rw[HO2.out];rfl),exI⟩
 | true=>
  cases hmo:memOk O.d O.m with
  | false=>
   have HO2:Hid (offOk O=false):=hid (by rw[HO.out,hme,hmo];rfl)
   clear HO
   go_enter Tryz.func101,Tryz.ntmps101
   go_wp2_with fail
   refine(isOffice_any _ _).mono ?_
   rintro e w1 ⟨rfl,rfl⟩
   rw[hme]
   go_wp2_with fail
   refine(isMemory_any L.A0 L.n0 L.c0 L.A1 L.n1 L.c1 O.d L.Am L.nm L.cm O.m hl0 hl1 hc0 hc1 hbig0 hbig1 hm tB _ (hb0.of_ext exI) (hb1.of_ext exI) (hr.of_ext exI)).mono ?_
   rintro e w1 ⟨rfl,E1,d1,rfl⟩
   rw[hmo]
   go_wp2_with fail
   go_ret
   exact⟨ret_val (by rw[HO2.out];rfl),exI⟩
  | true=>
   have HO2:=hid (HO.out.trans (by rw[hme,hmo,Bool.true_and,Bool.true_and]))
   clear HO
   go_enter Tryz.func101,Tryz.ntmps101
   go_wp2_with fail
   refine(isOffice_any _ _).mono ?_
   rintro e w1 ⟨rfl,rfl⟩
   rw[hme]
   go_wp2_with fail
   refine(isMemory_any L.A0 L.n0 L.c0 L.A1 L.n1 L.c1 O.d L.Am L.nm L.cm O.m hl0 hl1 hc0 hc1 hbig0 hbig1 hm tB _ (hb0.of_ext exI) (hb1.of_ext exI) (hr.of_ext exI)).mono ?_
   rintro e w1 ⟨rfl,E1,d1,rfl⟩
   rw[hmo]
   go_wp2_with fail
   clear hb0 hb1 hr hl0 hl1 hc0 hc1 hbig0 hbig1 hm hmb
   go_loopw [21] (fun v wr=> ∃k:Nat,k≤9∧v= .int .i64 k∧Ext w wr∧∀ i,i<k→knB (O.kn i)=true) (fun v _=>9-(intOf v).toNat)
   case atStart=>exact⟨0,Nat.zero_le _,rfl,exI,fun i hi=>absurd hi (Nat.not_lt_zero i)⟩
   case round=>
    rename_i K hKK
    obtain⟨k,hk,rfl,hx,hall⟩:=hrel
    by_cases hlt:k<9
    ·have hkk:=hK.out k hlt
     obtain⟨⟨A,n,c⟩,hkv⟩:∃ t,L.k k=t:=⟨_,rfl⟩
     rw[hkv] at hkk
     obtain⟨hn,hnc,hcm,hsl⟩:=hkk
     simp only[] at hn hnc hcm hsl
     have Hall:=hid hall
     clear hall
     obtain⟨E2,d2,rfl⟩:=hx
     go_wp2_with fail
     go_loopw [26] (fun v wr=> ∃m:Nat,m≤n∧v= .int .i64 m∧Ext w wr∧∀ i,i<m→plOk (O.kn k) i=true) (fun v _=>n-(intOf v).toNat)
     case atStart=>exact⟨0,Nat.zero_le _,rfl,exI,fun i hi=>absurd hi (Nat.not_lt_zero i)⟩
     case round=>
      rename_i K2 hK2
      obtain⟨m,hm,rfl,hx2,hpl⟩:=hrel
      have Hpl:=hid hpl
      clear hpl
      by_cases hlm:m<n
      ·obtain⟨g,o,rfl,hg,hrow⟩:=plcs_row hsl hn tB
       obtain⟨x0,x1⟩:=hrow m hlm
       obtain⟨E3,d3,rfl⟩:=hx2
       have hno:plOk (O.kn k) m=false→Hid (offOk O=false):=fun hf=>hid (by
        rw[HO2.out]
        refine all_false k hlt ?_
        exact all_false m (by rw[hn];exact hlm) hf)
       have hrow2:=hrow
       clear hrow hsl
       by_cases hk0:0<m
       rotate_left
       ·obtain rfl:m=0:=by omega
        clear hrow2
        simp only[Nat.zero_mul,Nat.add_zero] at x0 x1
        have hpe:plOk (O.kn k) 0=isPlaceB (pAt (O.kn k) 0).o (pAt (O.kn k) 0).s:=by simp[plOk]
        rw[hpe] at hno
        cases hq:isPlaceB (pAt (O.kn k) 0).o (pAt (O.kn k) 0).s with
        | false=>
         have HN:=hno hq
         clear hno
         go_wp2_with fail
         refine wp_region_ord_same (.f 0 (.a 1 (.f 2 (.f 3 (.f 4 (.f 5 (.f 6 (.f 7 (.f 8 (.f 9 (.f 10 (.f 11 (.f 12 (.a 13 (.f 14 (.f 15 (.f 16 .d))))))))))))))))) tG tG ?_
         refine oR ?_
         refine wpOrd_call rfl rfl rfl Tryz.call139 (fun R hR=> ?_)
         go_simp
         refine(isPlace_any _ _ _).mono ?_
         rintro e w1 ⟨rfl,E,d,rfl⟩
         refine hR _ _ ⟨_,rfl,?_,?_⟩
         ·exact keepI
         clear hR R
         simp only[Act.put,zp]
         refine oR ?_
         refine ord_bool (j:=3) rfl (fun hb3=> ?_) (fun hb3=> ?_)
         rotate_left
         focus
          try(exfalso;first|(simp at hb3;done)|(simp at hb3;omega))
          all_goals
           (try simp only[hb3])
           refine oR ?_
           refine ord_bool (j:=6) rfl (fun hb6=> ?_) (fun hb6=> ?_)
           rotate_left
           focus
            try(exfalso;first|(simp at hb6;done)|(simp at hb6;omega))
            all_goals
             (try simp only[hb6])
             refine oR ?_
             refine wpOrd_actPass rfl rfl ?_ ?_
             ·exact keepI
             simp only[Act.put,zp]
             refine oR ?_
             refine wpOrd_nil ?_
           rotate_right
           focus
            try(exfalso;first|(simp at hb6;done)|(simp at hb6;omega))
            all_goals
             (try simp only[hb6])
             refine oR ?_
             refine wpOrd_call rfl rfl rfl Tryz.call122 (fun R hR=> ?_)
             go_simp
             refine(compare_any _ _ _ _ _).mono ?_
             rintro e w1 ⟨rfl,E,d,rfl⟩
             refine hR _ _ ⟨_,rfl,?_,?_⟩
             ·exact keepI
             clear hR R
             simp only[Act.put,zp]
             refine oR ?_
             refine wpOrd_nil ?_
         rotate_right
         focus
          try(exfalso;first|(simp at hb3;done)|(simp at hb3;omega))
          all_goals
           (try simp only[hb3])
           refine oR ?_
           refine wpOrd_actPass rfl rfl ?_ ?_
           ·exact keepI
           simp only[Act.put,zp]
           refine oR ?_
           refine wpOrd_nil ?_
         all_goals
          go_wp2_with fail
         go_ret
         exact⟨ret_val TH,exI⟩
        | true=>
         have HN:Hid (plOk (O.kn k) 0=true):=hid (hpe.trans hq)
         clear hno hpe
         go_wp2_with fail
         refine wp_region_ord_same (.f 0 (.a 1 (.f 2 (.f 3 (.f 4 (.f 5 (.f 6 (.f 7 (.f 8 (.f 9 (.f 10 (.f 11 (.f 12 (.a 13 (.f 14 (.f 15 (.f 16 .d))))))))))))))))) tG tG ?_
         refine oR ?_
         refine wpOrd_call rfl rfl rfl Tryz.call139 (fun R hR=> ?_)
         go_simp
         refine(isPlace_any _ _ _).mono ?_
         rintro e w1 ⟨rfl,E,d,rfl⟩
         refine hR _ _ ⟨_,rfl,?_,?_⟩
         ·exact keepI
         clear hR R
         simp only[Act.put,zp]
         refine oR ?_
         refine ord_bool (j:=3) rfl (fun hb3=> ?_) (fun hb3=> ?_)
         rotate_left
         focus
          try(exfalso;first|(simp at hb3;done)|(simp at hb3;omega))
          all_goals
           (try simp only[hb3])
           refine oR ?_
           refine ord_bool (j:=6) rfl (fun hb6=> ?_) (fun hb6=> ?_)
           rotate_left
           focus
            try(exfalso;first|(simp at hb6;done)|(simp at hb6;omega))
            all_goals
             (try simp only[hb6])
             refine oR ?_
             refine wpOrd_actPass rfl rfl ?_ ?_
             ·exact keepI
             simp only[Act.put,zp]
             refine oR ?_
             refine wpOrd_nil ?_
           rotate_right
           focus
            try(exfalso;first|(simp at hb6;done)|(simp at hb6;omega))
            all_goals
             (try simp only[hb6])
             refine oR ?_
             refine wpOrd_call rfl rfl rfl Tryz.call122 (fun R hR=> ?_)
             go_simp
             refine(compare_any _ _ _ _ _).mono ?_
             rintro e w1 ⟨rfl,E,d,rfl⟩
             refine hR _ _ ⟨_,rfl,?_,?_⟩
             ·exact keepI
             clear hR R
             simp only[Act.put,zp]
             refine oR ?_
             refine wpOrd_nil ?_
         rotate_right
         focus
          try(exfalso;first|(simp at hb3;done)|(simp at hb3;omega))
          all_goals
           (try simp only[hb3])
           refine oR ?_
           refine wpOrd_actPass rfl rfl ?_ ?_
           ·exact keepI
           simp only[Act.put,zp]
           refine oR ?_
           refine wpOrd_nil ?_
         all_goals
          go_wp2_with fail
         exact⟨⟨0+1,by omega,by go_num,exI,fun i hi=>by
          obtain rfl:i=0:=by omega
          exact HN.out⟩,by simp[intOf];omega⟩
       ·obtain⟨y0,y1⟩:=hrow2 (m-1) tB
        have hpe:plOk (O.kn k) m=(isPlaceB (pAt (O.kn k) m).o (pAt (O.kn k) m).s&&decide (cmpP (pAt (O.kn k) (m-1)).o (pAt (O.kn k) (m-1)).s (pAt (O.kn k) m).o (pAt (O.kn k) m).s<0)):=by simp[plOk,show ¬m=0 by omega]
        rw[hpe] at hno
        obtain⟨p,hp⟩:∃ p,pAt (O.kn k) m=p:=⟨_,rfl⟩
        obtain⟨q,hq⟩:∃ q,pAt (O.kn k) (m-1)=q:=⟨_,rfl⟩
        rw[hp] at x0 x1
        rw[hq] at y0 y1
        rw[hp,hq] at hno hpe
        have hi1:(1:Int)≤(m:Int):=by omega
        have hi2:(m:Int)-1<(n:Int):=by omega
        have hi0:(0:Int)≤(m:Int)-1:=by omega
        have hi3:IntKind.i64.wrap ((m:Int)-1)=(m:Int)-1:=IntWalk.i64_in _ tB
        have hi4:((m:Int)-1).toNat=m-1:=by omega
        have hg2:g<w.heap.size+E3.size+1:=by omega
        clear hp hq hrow2
        obtain⟨cv,hcv⟩:∃ cv,cmpP q.o q.s p.o p.s=cv:=⟨_,rfl⟩
        rw[hcv] at hno hpe
        cases hz:isPlaceB p.o p.s with
        | false=>
         have HN:=hno (by rw[hz];rfl)
         clear hno hpe hcv
         go_wp2_with fail
         refine wp_region_ord_same (.f 0 (.a 1 (.f 2 (.f 3 (.f 4 (.f 5 (.f 6 (.f 7 (.f 8 (.f 9 (.f 10 (.f 11 (.f 12 (.a 13 (.f 14 (.f 15 (.f 16 .d))))))))))))))))) tG tG ?_
         refine oR ?_
         refine wpOrd_call rfl rfl rfl Tryz.call139 (fun R hR=> ?_)
         go_simp
         refine(isPlace_any _ _ _).mono ?_
         rintro e w1 ⟨rfl,E,d,rfl⟩
         refine hR _ _ ⟨_,rfl,?_,?_⟩
         ·exact keepI
         clear hR R
         simp only[Act.put,zp]
         refine oR ?_
         refine ord_bool (j:=3) rfl (fun hb3=> ?_) (fun hb3=> ?_)
         rotate_left
         focus
          try(exfalso;first|(simp at hb3;done)|(simp at hb3;omega))
          all_goals
           (try simp only[hb3])
           refine oR ?_
           refine ord_bool (j:=6) rfl (fun hb6=> ?_) (fun hb6=> ?_)
           rotate_left
           focus
            try(exfalso;first|(simp at hb6;done)|(simp at hb6;omega))
            all_goals
             (try simp only[hb6])
             refine oR ?_
             refine wpOrd_actPass rfl rfl ?_ ?_
             ·exact keepI
             simp only[Act.put,zp]
             refine oR ?_
             refine wpOrd_nil ?_
           rotate_right
           focus
            try(exfalso;first|(simp at hb6;done)|(simp at hb6;omega))
            all_goals
             (try simp only[hb6])
             refine oR ?_
             refine wpOrd_call rfl rfl rfl Tryz.call122 (fun R hR=> ?_)
             go_simp
             refine(compare_any _ _ _ _ _).mono ?_
             rintro e w1 ⟨rfl,E,d,rfl⟩
             refine hR _ _ ⟨_,rfl,?_,?_⟩
             ·exact keepI
             clear hR R
             simp only[Act.put,zp]
             refine oR ?_
             refine wpOrd_nil ?_
         rotate_right
         focus
          try(exfalso;first|(simp at hb3;done)|(simp at hb3;omega))
          all_goals
           (try simp only[hb3])
           refine oR ?_
           refine wpOrd_actPass rfl rfl ?_ ?_
           ·exact keepI
           simp only[Act.put,zp]
           refine oR ?_
           refine wpOrd_nil ?_
         all_goals
          go_wp2_with fail
         go_ret
         exact⟨ret_val TH,exI⟩
        | true=>
         by_cases hneg:cv<0
         ·have HN:Hid (plOk (O.kn k) m=true):=hid (hpe.trans (by rw[hz];simpa using hneg))
          have hneg2:¬ (0≤cv):=by omega
          clear hno hpe
          go_wp2_with fail
          refine wp_region_ord_same (.f 0 (.a 1 (.f 2 (.f 3 (.f 4 (.f 5 (.f 6 (.f 7 (.f 8 (.f 9 (.f 10 (.f 11 (.f 12 (.a 13 (.f 14 (.f 15 (.f 16 .d))))))))))))))))) tG tG ?_
          refine oR ?_
          refine wpOrd_call rfl rfl rfl Tryz.call139 (fun R hR=> ?_)
          go_simp
          refine(isPlace_any _ _ _).mono ?_
          rintro e w1 ⟨rfl,E,d,rfl⟩
          refine hR _ _ ⟨_,rfl,?_,?_⟩
          ·exact keepI
          clear hR R
          simp only[Act.put,zp]
          refine oR ?_
          refine ord_bool (j:=3) rfl (fun hb3=> ?_) (fun hb3=> ?_)
          rotate_left
          focus
           try(exfalso;first|(simp at hb3;done)|(simp at hb3;omega))
           all_goals
            (try simp only[hb3])
            refine oR ?_
            refine ord_bool (j:=6) rfl (fun hb6=> ?_) (fun hb6=> ?_)
            rotate_left
            focus
             try(exfalso;first|(simp at hb6;done)|(simp at hb6;omega))
             all_goals
              (try simp only[hb6])
              refine oR ?_
              refine wpOrd_actPass rfl rfl ?_ ?_
              ·exact keepI
              simp only[Act.put,zp]
              refine oR ?_
              refine wpOrd_nil ?_
            rotate_right
            focus
             try(exfalso;first|(simp at hb6;done)|(simp at hb6;omega))
             all_goals
              (try simp only[hb6])
              refine oR ?_
              refine wpOrd_call rfl rfl rfl Tryz.call122 (fun R hR=> ?_)
              go_simp
              refine(compare_any _ _ _ _ _).mono ?_
              rintro e w1 ⟨rfl,E,d,rfl⟩
              refine hR _ _ ⟨_,rfl,?_,?_⟩
              ·exact keepI
              clear hR R
              simp only[Act.put,zp]
              refine oR ?_
              refine wpOrd_nil ?_
          rotate_right
          focus
           try(exfalso;first|(simp at hb3;done)|(simp at hb3;omega))
           all_goals
            (try simp only[hb3])
            refine oR ?_
            refine wpOrd_actPass rfl rfl ?_ ?_
            ·exact keepI
            simp only[Act.put,zp]
            refine oR ?_
            refine wpOrd_nil ?_
          all_goals
           go_wp2_with fail
          all_goals exact⟨⟨_,_,_,_,⟨m+1,by omega,by go_num,exI,fun i hi=>by
           by_cases he:i=m
           ·rw[he];exact HN.out
           ·exact Hpl.out i tB⟩,rfl,rfl,rfl,rfl⟩,by simp[intOf];omega⟩
         ·have HN:=hno (by rw[hz];simpa using hneg)
          have hneg2:0≤cv:=by omega
          clear hno hpe
          go_wp2_with fail
          refine wp_region_ord_same (.f 0 (.a 1 (.f 2 (.f 3 (.f 4 (.f 5 (.f 6 (.f 7 (.f 8 (.f 9 (.f 10 (.f 11 (.f 12 (.a 13 (.f 14 (.f 15 (.f 16 .d))))))))))))))))) tG tG ?_
          refine oR ?_
          refine wpOrd_call rfl rfl rfl Tryz.call139 (fun R hR=> ?_)
          go_simp
          refine(isPlace_any _ _ _).mono ?_
          rintro e w1 ⟨rfl,E,d,rfl⟩
          refine hR _ _ ⟨_,rfl,?_,?_⟩
          ·exact keepI
          clear hR R
          simp only[Act.put,zp]
          refine oR ?_
          refine ord_bool (j:=3) rfl (fun hb3=> ?_) (fun hb3=> ?_)
          rotate_left
          focus
           try(exfalso;first|(simp at hb3;done)|(simp at hb3;omega))
           all_goals
            (try simp only[hb3])
            refine oR ?_
            refine ord_bool (j:=6) rfl (fun hb6=> ?_) (fun hb6=> ?_)
            rotate_left
            focus
             try(exfalso;first|(simp at hb6;done)|(simp at hb6;omega))
             all_goals
              (try simp only[hb6])
              refine oR ?_
              refine wpOrd_actPass rfl rfl ?_ ?_
              ·exact keepI
              simp only[Act.put,zp]
              refine oR ?_
              refine wpOrd_nil ?_
            rotate_right
            focus
             try(exfalso;first|(simp at hb6;done)|(simp at hb6;omega))
             all_goals
              (try simp only[hb6])
              refine oR ?_
              refine wpOrd_call rfl rfl rfl Tryz.call122 (fun R hR=> ?_)
              go_simp
              refine(compare_any _ _ _ _ _).mono ?_
              rintro e w1 ⟨rfl,E,d,rfl⟩
              refine hR _ _ ⟨_,rfl,?_,?_⟩
              ·exact keepI
              clear hR R
              simp only[Act.put,zp]
              refine oR ?_
              refine wpOrd_nil ?_
          rotate_right
          focus
           try(exfalso;first|(simp at hb3;done)|(simp at hb3;omega))
           all_goals
            (try simp only[hb3])
            refine oR ?_
            refine wpOrd_actPass rfl rfl ?_ ?_
            ·exact keepI
            simp only[Act.put,zp]
            refine oR ?_
            refine wpOrd_nil ?_
          all_goals
           go_wp2_with fail
          all_goals (go_ret;exact⟨ret_val TH,exI⟩)
      ·obtain rfl:n=m:=by omega
       have HKN:Hid (knB (O.kn k)=true):=hid (by rw[knB,hn];exact all_true Hpl.out)
       clear Hpl hsl
       obtain⟨E3,d3,rfl⟩:=hx2
       go_wp2_with fail
       exact⟨⟨k+1,by omega,by go_num,exI,fun i hi=>by
        by_cases he:i=k
        ·rw[he];exact HKN.out
        ·exact Hall.out i tB⟩,by simp[intOf];omega⟩
    ·obtain rfl:k=9:=by omega
     have HN:Hid (offOk O=true):=hid (by rw[HO2.out];exact all_true hall)
     clear hall
     obtain⟨E2,d2,rfl⟩:=hx
     go_wp2_with fail
     go_ret
     exact⟨ret_val TH,exI⟩
end Go.Proofs.YtekjdeibnfaehaaGreat
set_option linter.unusedSimpArgs false
set_option linter.unusedVariables false
namespace Go.Proofs.YtekjdeibnfaehaaGreat
open Go Go.RowKit
theorem info_plc:(Tryz.prog.info? 44).map (fun i=>(i.zero,i.size,i.bytes))=some (some (.agg #[.int .i64 0,.int .i64 0]),2,16):=by kernel_rfl
theorem encP_one(l:List Plc):∀ u∈l.flatMap encP,u.oneCell'=true:=by
 intro u hu
 obtain⟨r,_,hr⟩:=List.mem_flatMap.1 hu
 simp only[encP,List.mem_cons,List.not_mem_nil,or_false] at hr
 rcases hr with rfl|rfl <;> rfl
def OwnP(base:Nat)(w:World)(v:Value)(l:List Plc):Prop:=w.ownsRow base 44 2 v l.length (l.flatMap encP)
theorem OwnP.of_ext{base:Nat}{w w':World}{v:Value}{l:List Plc}(h:OwnP base w v l)(hx:Ext w w'):OwnP base w' v l:=by
 obtain⟨E,d,rfl⟩:=hx
 exact ownsRow_ext h E d
theorem OwnP.none(base:Nat)(w:World):OwnP base w (.slice none 0 0) []:=ownsRow_none base
theorem OwnP.slice{base:Nat}{w:World}{v:Value}{l:List Plc}(h:OwnP base w v l):∃ A c,v= .slice A l.length c∧l.length≤c∧Sl 2 w A l.length (l.flatMap encP):=by
 obtain⟨A,c,hv,hc,hs⟩:=ownsRow_slice h
 exact⟨A,c,hv,hc,hs⟩
set_option maxRecDepth 100000 in
set_option maxHeartbeats 1000000 in
theorem ClonePl_any(A:Option Addr)(c n:Nat)(l:List Plc)(hn:l.length=n)(hbig:n≤1000000)(w:World)(hr:Sl 2 w A n (l.flatMap encP)):
 Calls Tryz.prog 148 #[.slice A n c] w fun e w'=> ∃v,e= .returned v∧OwnP w.heap.size w' v l∧Ext w w':=by
 obtain⟨i0,hi,hz0,hz1,hz2⟩:=info_parts info_plc
 have hq:=fun w:World=>Lib.run_eql_slice_nil (P:=Tryz.prog) w 71 44 A n c 0 0 Tryz.underlying71
 rcases A with _|a
 ·have hn0:n=0:=by
   rcases Nat.eq_zero_or_pos n with h|h
   ·exact h
   ·obtain⟨g,o,h,_⟩:=hr.2 tB
    cases h
  have hl:l=[]:=List.eq_nil_of_length_eq_zero tB
  subst hl hn0
  simp only[Option.isNone_none] at hq
  go_enter Tryz.func148,Tryz.ntmps148
  go_wp2_with fail
  go_ret
  exact⟨_,rfl,OwnP.none _ _,Ext.refl _⟩
 ·simp only[Option.isNone_some] at hq
  go_enter Tryz.func148,Tryz.ntmps148
  go_wp2_with (at_builtin;refine wpList_append (w:=w) rfl _ _ 71 rfl 44 i0 _ 2 16 Tryz.underlying71 hi hz0 hz1 hz2 rfl tN rfl ((Ext.refl _).alloc _) (ownsRow_empty _ _ _ _ (Nat.le_refl _)) rfl (hr.alloc _) (encP_one _) tO tB ?_;intro v1 E1 d1 hown1)
  go_ret
  refine⟨_,rfl,?_,exI⟩
  subst hn
  unfold OwnP
  simpa using hown1
theorem OwnP.lies{base n c:Nat}{w:World}{A:Option Addr}{l:List Plc}(h:OwnP base w (.slice A n c) l):∀ a,A=some a→base≤a.block∧a.block<w.heap.size:=by
 intro a ha
 rcases h.2 with⟨hv,_⟩|⟨g,cap,cur,hv,hb,hh,_⟩
 ·cases hv;cases ha
 ·cases hv;cases ha
  exact⟨hb,(Array.getElem?_eq_some_iff.1 hh).1⟩
theorem OwnP.cap{base n c:Nat}{w:World}{A:Option Addr}{l:List Plc}(h:OwnP base w (.slice A n c) l):n≤c∧c≤9223372036854775807:=by
 rcases h.2 with⟨hv,hx⟩|⟨g,cap,cur,hv,hb,hh,h1,h2,_⟩
 ·cases hv;omega
 ·cases hv;exact⟨by omega,by unfold maxLen at h2;omega⟩
theorem OwnR.caps{base n c:Nat}{w:World}{A:Option Addr}{l:List Rec}(h:OwnR base w (.slice A n c) l):n≤c∧c≤9223372036854775807:=by
 rcases h.2 with⟨hv,hx⟩|⟨g,cap,cur,hv,hb,hh,h1,h2,_⟩
 ·cases hv;omega
 ·cases hv;exact⟨by omega,by unfold maxLen at h2;omega⟩
def PlcA(base:Nat)(w:World)(t:SlT)(l:List Plc):Prop:=l.length=t.n∧t.n≤t.c∧t.c≤9223372036854775807∧SlA base 2 w t.A t.n (l.flatMap encP)
section
variable{base base' b i:Nat}{w w':World}{v:SlT}{u:Value}{l:List Plc}
theorem PlcA.read(h:PlcA base w v l):Plcs w v l:=by
 obtain⟨h2,h3,h4,h5⟩:=h
 exact⟨h2,h3,h4,h5.1⟩
theorem PlcA.of_ext(h:PlcA base w v l)(hx:Ext w w'):PlcA base w' v l:=by
 obtain⟨h2,h3,h4,h5⟩:=h
 exact⟨h2,h3,h4,h5.of_ext hx⟩
theorem PlcA.mono(h:PlcA base w v l)(hb:base'≤base):PlcA base' w v l:=by
 obtain⟨h2,h3,h4,h5⟩:=h
 exact⟨h2,h3,h4,h5.mono hb⟩
theorem PlcA.set(h:PlcA base w v l)(hb:b<base):PlcA base (w.setCell ⟨b,i,none⟩ u) v l:=by
 obtain⟨h2,h3,h4,h5⟩:=h
 exact⟨h2,h3,h4,h5.set hb⟩
theorem Plcs.of_ext(h:Plcs w v l)(hx:Ext w w'):Plcs w' v l:=by
 obtain⟨h2,h3,h4,h5⟩:=h
 exact⟨h2,h3,h4,h5.of_ext hx⟩
theorem PlcA.nil(base:Nat)(w:World):PlcA base w ⟨none,0,0⟩ []:=⟨rfl,Nat.le_refl _,Nat.zero_le _,⟨⟨rfl,fun h=>absurd h (Nat.lt_irrefl 0)⟩,fun h=>absurd h (Nat.lt_irrefl 0)⟩⟩
end
structure OffA(base:Nat)(w:World)(O:OffD)(L:OffL):Prop where
 d:DrvA base w O.d L.A0 L.n0 L.c0 L.A1 L.n1 L.c1
 l:O.m.recs.length=L.nm
 h:L.nm≤L.cm∧L.cm≤9223372036854775807
 r:RecsA base w L.Am O.m.recs
 k:∀ i,i<9→PlcA base w (L.k i) (O.kn i)
theorem OffA.read{base:Nat}{w:World}{O:OffD}{L:OffL}(h:OffA base w O L)(ht:TxtBig O.m.recs):OffY w O L:=⟨h.d.read,h.l,h.h,ht,h.r.read,fun i hi=>(h.k i hi).read⟩
theorem OffA.of_ext{base:Nat}{w w':World}{O:OffD}{L:OffL}(h:OffA base w O L)(hx:Ext w w'):OffA base w' O L:=⟨h.d.of_ext hx,h.l,h.h,h.r.of_ext hx,fun i hi=>(h.k i hi).of_ext hx⟩
theorem OffA.mono{base base':Nat}{w:World}{O:OffD}{L:OffL}(h:OffA base w O L)(hb:base'≤base):OffA base' w O L:=⟨h.d.mono hb,h.l,h.h,h.r.mono hb,fun i hi=>(h.k i hi).mono hb⟩
theorem OffY.of_ext{w w':World}{O:OffD}{L:OffL}(h:OffY w O L)(hx:Ext w w'):OffY w' O L:=⟨h.d.of_ext hx,h.l,h.h,h.t,h.r.of_ext hx,fun i hi=>(h.k i hi).of_ext hx⟩
def upd{α:Type}(K:Nat→α)(k:Nat)(v:α):Nat→α:=fun i=>if i=k then v else K i
theorem set_kn(a b c d e f g h:Value)(K:Nat→SlT)(k:Nat)(v:SlT)(hk:k<9):[a,b,c,d,e,f,g,h,.slice (K 0).A (K 0).n (K 0).c,.slice (K 1).A (K 1).n (K 1).c,.slice (K 2).A (K 2).n (K 2).c,.slice (K 3).A (K 3).n (K 3).c,.slice (K 4).A (K 4).n (K 4).c,.slice (K 5).A (K 5).n (K 5).c,.slice (K 6).A (K 6).n (K 6).c,.slice (K 7).A (K 7).n (K 7).c,.slice (K 8).A (K 8).n (K 8).c].set (8+k) (.slice v.A v.n v.c)=
 [a,b,c,d,e,f,g,h,.slice (upd K k v 0).A (upd K k v 0).n (upd K k v 0).c,.slice (upd K k v 1).A (upd K k v 1).n (upd K k v 1).c,.slice (upd K k v 2).A (upd K k v 2).n (upd K k v 2).c,.slice (upd K k v 3).A (upd K k v 3).n (upd K k v 3).c,.slice (upd K k v 4).A (upd K k v 4).n (upd K k v 4).c,.slice (upd K k v 5).A (upd K k v 5).n (upd K k v 5).c,.slice (upd K k v 6).A (upd K k v 6).n (upd K k v 6).c,.slice (upd K k v 7).A (upd K k v 7).n (upd K k v 7).c,.slice (upd K k v 8).A (upd K k v 8).n (upd K k v 8).c]:=by
 have:k=0∨k=1∨k=2∨k=3∨k=4∨k=5∨k=6∨k=7∨k=8:=by omega
 rcases this with rfl|rfl|rfl|rfl|rfl|rfl|rfl|rfl|rfl <;> simp[upd]
theorem get_kn(a b c d e f g h:Value)(K:Nat→SlT)(k:Nat)(hk:k<9):[a,b,c,d,e,f,g,h,.slice (K 0).A (K 0).n (K 0).c,.slice (K 1).A (K 1).n (K 1).c,.slice (K 2).A (K 2).n (K 2).c,.slice (K 3).A (K 3).n (K 3).c,.slice (K 4).A (K 4).n (K 4).c,.slice (K 5).A (K 5).n (K 5).c,.slice (K 6).A (K 6).n (K 6).c,.slice (K 7).A (K 7).n (K 7).c,.slice (K 8).A (K 8).n (K 8).c][8+k]? =some (.slice (K k).A (K k).n (K k).c):=by
 have:k=0∨k=1∨k=2∨k=3∨k=4∨k=5∨k=6∨k=7∨k=8:=by omega
 rcases this with rfl|rfl|rfl|rfl|rfl|rfl|rfl|rfl|rfl <;> rfl
theorem upd_at{α:Type}(K:Nat→α)(k:Nat)(v:α):upd K k v k=v:=if_pos rfl
theorem upd_ne{α:Type}(K:Nat→α){k i:Nat}(v:α)(h:i≠k):upd K k v i=K i:=if_neg h
end Go.Proofs.YtekjdeibnfaehaaGreat
