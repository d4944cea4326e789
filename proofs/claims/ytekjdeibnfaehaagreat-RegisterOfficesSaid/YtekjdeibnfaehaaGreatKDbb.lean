/- Texts of a proof. -/
import Derived.Test.YtekjdeibnfaehaaGreatKDat
import Derived.Test.YtekjdeibnfaehaaGreatKDba
import Derived.Test.YtekjdeibnfaehaaGreatKDaw
set_option linter.unusedSimpArgs false
set_option linter.unusedVariables false
namespace Go.Proofs.YtekjdeibnfaehaaGreat
open Go Go.RowKit
section
variable{base b i k n:Nat}{w w':World}{row:Option Nat}{A:Option Addr}{xs:List Value}{O:OffD}{L:OffL}
theorem learnL_eq{l:List Plc}{o s:Int}(h:knowsB l o s=false):learnL l o s=l.take (posP l o s)++⟨o,s⟩::l.drop (posP l o s):=by rw[learnL,if_neg (by rw[h];simp)]
theorem learnL_same{l:List Plc}{o s:Int}(h:knowsB l o s=true):learnL l o s=l:=by rw[learnL,if_pos h]
theorem posP_le(l:List Plc)(o s:Int):posP l o s≤l.length:=List.countP_le_length
theorem upd_self{α:Type}(K:Nat→α)(k:Nat):upd K k (K k)=K:=by
 funext i
 unfold upd
 split
 ·rename_i h;rw[h]
 ·rfl
theorem OffU.learn(h:OffU base w O L){m:Nat}(hm:m<9){t':SlT}{l':List Plc}(hg:w.grownBy w' ((L.k m).A.map (·.block)))(ho:OwnP base w' (.slice t'.A t'.n t'.c) l'):OffA base w' ⟨O.me,O.d,O.m,upd O.kn m l'⟩ ⟨L.A0,L.n0,L.c0,L.A1,L.n1,L.c1,L.Am,L.nm,L.cm,upd L.k m t'⟩:=by
 have key:∀ {A:Option Addr} {n kk:Nat} {xs:List Value},(∀a,(L.k m).A=some a→Off A n a.block)→SlA base kk w A n xs→SlA base kk w' A n xs:=by
  intro A n kk xs hoff hs
  refine hs.grown hg fun hn a ha he=> ?_
  cases hA:(L.k m).A with
  | none=>rw[hA] at he;cases he
  | some g=>rw[hA] at he;exact hoff g hA hn a ha (Option.some.inj he)
 refine⟨⟨h.a.d.l0,h.a.d.l1,h.a.d.h0,h.a.d.h1,h.a.d.k0,h.a.d.k1,key (fun a ha=>by rw[h.a.d.l0];exact(h.s m hm a ha).1) h.a.d.b0,key (fun a ha=>by rw[h.a.d.l1];exact(h.s m hm a ha).2.1) h.a.d.b1⟩,h.a.l,h.a.h,key (fun a ha=>by rw[h.a.l];exact(h.s m hm a ha).2.2) h.a.r,fun i hi=> ?_⟩
 by_cases he:i=m
 ·subst he
  show PlcA base w' (upd L.k i t' i) (upd O.kn i l' i)
  rw[upd_at,upd_at]
  exact ho.plcA
 ·show PlcA base w' (upd L.k m t' i) (upd O.kn m l' i)
  rw[upd_ne _ _ he,upd_ne _ _ he]
  refine(OwnP.grown (row:=(L.k m).A.map (·.block)) (h.k.own i hi) hg fun a n c hv he2=> ?_).plcA
  cases hA:(L.k m).A with
  | none=>rw[hA] at he2;cases he2
  | some g=>
   rw[hA] at he2
   simp only[Value.slice.injEq] at hv
   exact h.k.sep i hi m hm he a g hv.1 hA (Option.some.inj he2)
end
theorem trunc{w:World}{N:Nat}(h:N≤w.heap.size):∃ X,X.heap.size=N∧Ext X w:=by
 refine⟨{w with heap:=w.heap.extract 0 N},by simp;omega,w.heap.extract N w.heap.size,w.drawn,?_⟩
 unfold World.ext
 cases w
 simp only at h
 simp[Nat.max_eq_right h]
theorem gb_of_ext{w w':World}(h:Ext w w')(row:Option Nat):w.grownBy w' row:=by
 obtain⟨h1,h2,h3,h4,h5⟩:=h.below
 exact⟨h1,h2,h3,h4,fun k hk _=>h5 k hk⟩
theorem gb_trans{a b c:World}{row:Option Nat}(h:a.grownBy b row)(k:b.grownBy c row):a.grownBy c row:=
 ⟨k.os.trans h.os,k.tape.trans h.tape,k.output.trans h.output,Nat.le_trans h.size k.size,fun i hi hr=>(k.block i (Nat.lt_of_lt_of_le hi h.size) hr).trans (h.block i hi hr)⟩
def OffN(B:Nat)(L:OffL):Prop:=Off L.A0 L.n0 B∧Off L.A1 L.n1 B∧Off L.Am L.nm B
theorem ownP_ne{base B:Nat}{w:World}{A:Option Addr}{n c:Nat}{l:List Plc}{cs:List Value}{t:TypeId}(h:OwnP base w (.slice A n c) l)(hb:BoxC w B cs t)(ht:t≠44):∀ a,A=some a→a.block≠B:=by
 intro a ha he
 rcases h.2 with⟨hv,_⟩|⟨g,cap,cur,hv,hg,hh,_⟩
 ·cases hv;cases ha
 ·cases hv
  cases ha
  simp only at he
  subst he
  rw[show w.heap[g]? =some (.cells cs.toArray t (0,0)) from hb] at hh
  simp only[Option.some.injEq,Obj.cells.injEq] at hh
  exact ht hh.2.1
theorem OffA.setN{base B i:Nat}{w:World}{O:OffD}{L:OffL}{v:Value}(h:OffA base w O L)(hn:OffN B L)(hk:∀ j,j<9→Off (L.k j).A (L.k j).n B):OffA base (w.setCell ⟨B,i,none⟩ v) O L:=by
 have key:∀ {A:Option Addr} {n kk:Nat} {xs:List Value},Off A n B→SlA base kk w A n xs→SlA base kk (w.setCell ⟨B,i,none⟩ v) A n xs:=fun hoff hs=>hs.grown (gb_setCell w B i v) fun hn a ha he=>hoff hn a ha (Option.some.inj he)
 refine⟨⟨h.d.l0,h.d.l1,h.d.h0,h.d.h1,h.d.k0,h.d.k1,key (by rw[h.d.l0];exact hn.1) h.d.b0,key (by rw[h.d.l1];exact hn.2.1) h.d.b1⟩,h.l,h.h,key (by rw[h.l];exact hn.2.2) h.r,fun j hj=> ?_⟩
 obtain⟨p1,p2,p3,p4⟩:=h.k j hj
 exact⟨p1,p2,p3,key (hk j hj) p4⟩
theorem learn_keep{O:OffD}{L:OffL}{base B m:Nat}{w W w1:World}(hm:m<9)(H:OffU base w O L){cs:List Value}{t:TypeId}(hb:BoxC w B cs t)(hg:W.grownBy w1 ((L.k m).A.map (·.block)))(hw:Ext w W)(ht:t≠44:=by decide):BoxC w1 B cs t:=by
 have hne:=ownP_ne (H.k.own m hm) hb ht
 refine(hg.block B (hb.of_ext hw).lt fun he=> ?_).trans (hb.of_ext hw)
 cases hA:(L.k m).A with
 | none=>rw[hA] at he;cases he
 | some a=>rw[hA] at he;exact hne a hA (Option.some.inj he).symm
theorem learn_fin{O:OffD}{L:OffL}{base B m:Nat}{X w W w1:World}{l':List Plc}{Ai:Option Addr}{ni ci:Nat}(hm:m<9)(hbb:base≤B)(hX:X.heap.size≤B)
 (H:OffU base w O L) (Hb:BoxC w B (offC O L) 76) (Hn:OffN B L) (hx1:Ext X w1) (hg:W.grownBy w1 ((L.k m).A.map (·.block))) (ho:OwnP base w1 (.slice Ai ni ci) l') (hw:Ext w W):
 ∃L',BoxC (w1.setCell ⟨B,8+m,none⟩ (.slice Ai ni ci)) B (offC ⟨O.me,O.d,O.m,upd O.kn m l'⟩ L') 76∧OffA base (w1.setCell ⟨B,8+m,none⟩ (.slice Ai ni ci)) ⟨O.me,O.d,O.m,upd O.kn m l'⟩ L'∧
  Ext X (w1.setCell ⟨B,8+m,none⟩ (.slice Ai ni ci))∧(∀g cs t,g≠B→t≠44→BoxC w g cs t→BoxC (w1.setCell ⟨B,8+m,none⟩ (.slice Ai ni ci)) g cs t):=by
 have keep:∀ g cs t,t≠44→BoxC w g cs t→BoxC w1 g cs t:=fun g cs t ht hb=>by
  have hne:=ownP_ne (H.k.own m hm) hb ht
  refine(hg.block g (hb.of_ext hw).lt fun he=> ?_).trans (hb.of_ext hw)
  cases hA:(L.k m).A with
  | none=>rw[hA] at he;cases he
  | some a=>rw[hA] at he;exact hne a hA (Option.some.inj he).symm
 have hgw:=gb_trans (gb_of_ext hw _) hg
 have hb1:=keep B _ _ tN Hb
 have hA:=H.learn hm (t':=⟨Ai,ni,ci⟩) hgw ho
 refine⟨_,?_,hA.setN Hn (fun j hj=> ?_),Ext.box hx1 _ _ hX,fun g cs t hgB ht hb=>BoxC.other (keep g cs t ht hb) _ _ (fun e=>hgB e.symm)⟩
 ·have h2:=hb1.set (8+m) (.slice Ai ni ci)
  rw[set_kn _ _ _ _ _ _ _ _ L.k m ⟨Ai,ni,ci⟩ hm] at h2
  exact h2
 ·show Off (upd L.k m ⟨Ai,ni,ci⟩ j).A (upd L.k m ⟨Ai,ni,ci⟩ j).n B
  by_cases he:j=m
  ·subst he
   rw[upd_at]
   exact fun _ a ha=>ownP_ne ho hb1 tN a ha
  ·rw[upd_ne _ _ he]
   exact fun _ a ha=>ownP_ne (H.k.own j hj) Hb tN a ha
set_option maxRecDepth 100000 in
set_option maxHeartbeats 16000000 in
theorem learn_any(O:OffD)(L:OffL)(base B:Nat)(m:Nat)(o s:Int)(X w:World)(hm:m<9)(hb:BoxC w B (offC O L) 76)(h:OffU base w O L)(hoff:OffN B L)(hbb:base≤B)(hkb:knB (O.kn m)=true)(hx:Ext X w)(hX:X.heap.size≤base):
 Calls Tryz.prog 114 #[.pointer (some ⟨B,0,none⟩),.int .i64 m,.agg #[.int .i64 o,.int .i64 s]] w fun e w'=> ∃L',e= .returned (.tuple #[])∧
  BoxC w' B (offC ⟨O.me,O.d,O.m,upd O.kn m (learnL (O.kn m) o s)⟩ L') 76∧OffA base w' ⟨O.me,O.d,O.m,upd O.kn m (learnL (O.kn m) o s)⟩ L'∧Ext X w'∧(∀g cs t,g≠B→t≠44→BoxC w g cs t→BoxC w' g cs t):=by
 obtain⟨X',hX',hxx⟩:=trunc (w:=w) (N:=base) (by have:=hb.lt;omega)
 have hxX:Ext X X':=by
  obtain⟨h1,h2,h3,h4,h5⟩:=hx.below
  obtain⟨g1,g2,g3,g4,g5⟩:=hxx.below
  exact Ext.of_below ⟨g1.symm.trans h1,g2.symm.trans h2,g3.symm.trans h3,by omega,fun k hk=>(g5 k tB).symm.trans (h5 k hk)⟩
 have Hx:=hid hxX
 have Hxw:=hid hx
 have hlen:=knB_len hkb
 have hso:=(knB_iff.1 hkb).2
 have ck0:=hb.cell (i:=8+m) (get_kn _ _ _ _ _ _ _ _ L.k m hm)
 have hB:=hb.lt
 have hmi:(m:Int)<9:=by omega
 have H:=hid h
 have Hb:=hid hb
 obtain⟨hn,hnc,hcm,hsl⟩:=(h.a.k m hm).read
 clear h hb hx hxX
 cases hk:knowsB (O.kn m) o s with
 | true=>
  rw[learnL_same hk,upd_self]
  go_enter Tryz.func114,Tryz.ntmps114
  go_wp2_with fail
  refine wp_region_ord (.f 0 (.f 1 (.f 2 (.f 3 (.f 4 (.f 5 (.f 6 (.a 7 (.f 8 (.f 9 (.f 10 (.f 11 (.f 12 .d))))))))))))) (Ext (w.alloc (.cells #[.int .i64 o,.int .i64 s] 44))) tG tG exI ?_
  refine oS ?_
  refine wpOrd_call rfl rfl rfl Tryz.call111 (fun R hR=> ?_)
  go_simp
  refine(knows_any _ _ _ (O.kn m) o s hn tB hso _ (hsl.of_ext exI)).mono ?_
  rintro e w1 ⟨rfl,E201,d201,rfl⟩
  refine hR _ _ ⟨_,rfl,?_,?_⟩
  ·exact exI
  clear hR R
  simp only[Act.put,zp]
  refine oS ?_
  refine wpOrd_nil ?_
  go_wp2_with fail
  have hw:Ext w ((w.alloc (.cells #[.int .i64 o,.int .i64 s] 44)).drew.ext E201 d201):=exI
  refine bodyPost_end (results_none rfl _ _ _) rfl ?_
  exact⟨L,rfl,Hb.out.of_ext hw,H.out.a.of_ext hw,Hxw.out.trans hw,fun g cs t _ _ hb=>hb.of_ext hw⟩
 | false=>
  have hown:=hid (H.out.k.own m hm)
  rw[learnL_eq hk]
  go_enter Tryz.func114,Tryz.ntmps114
  go_wp2_with fail
  refine wp_region_ord (.f 0 (.f 1 (.f 2 (.f 3 (.f 4 (.f 5 (.f 6 (.a 7 (.f 8 (.f 9 (.f 10 (.f 11 (.f 12 .d))))))))))))) (Ext (w.alloc (.cells #[.int .i64 o,.int .i64 s] 44))) tG tG exI ?_
  refine oS ?_
  refine wpOrd_call rfl rfl rfl Tryz.call111 (fun R hR=> ?_)
  go_simp
  refine(knows_any _ _ _ (O.kn m) o s hn tB hso _ (hsl.of_ext exI)).mono ?_
  rintro e w1 ⟨rfl,E201,d201,rfl⟩
  refine hR _ _ ⟨_,rfl,?_,?_⟩
  ·exact exI
  clear hR R
  simp only[Act.put,zp]
  refine oS ?_
  refine wpOrd_nil ?_
  go_wp2_with fail
  have hw:Ext w ((w.alloc (.cells #[.int .i64 o,.int .i64 s] 44)).drew.ext E201 d201):=tR
  obtain⟨W1,hW1⟩:∃ W1,(w.alloc (.cells #[.int .i64 o,.int .i64 s] 44)).drew.ext E201 d201=W1:=⟨_,rfl⟩
  simp only[hW1] at hw ⊢
  have ckW:W1.cell? ⟨B,8+m,none⟩=some (.slice (L.k m).A (L.k m).n (L.k m).c):=(Hb.out.of_ext hw).cell (i:=8+m) (get_kn _ _ _ _ _ _ _ _ L.k m hm)
  have hBW:B<W1.heap.size:=(Hb.out.of_ext hw).lt
  have hpb:BoxC W1 w.heap.size [.int .i64 o,.int .i64 s] 44:=by rw[←hW1];exact BoxC.of_ext (BoxC.drew (BoxC.new _ _ _)) ⟨_,_,rfl⟩
  have p0:=hpb.cell (i:=0) rfl
  have p1:=hpb.cell (i:=1) rfl
  have pl:=hpb.lt
  have hxW:Ext X' W1:=hxx.trans hw
  have hownW:=hid (hown.out.of_ext hw)
  clear hW1 hpb ck0 hB hsl
  have hXB:X'.heap.size≤B:=by omega
  refine wp_region_ord (.f 0 (.f 1 (.f 2 (.f 3 (.f 4 (.f 5 (.f 6 (.f 8 (.f 12 (.f 13 (.k 7 (.a 9 (.a 10 (.a 11 (.f 14 (.a 15 .d))))) 9 (.k 7 (.a 10 (.a 11 (.f 14 (.a 15 .d)))) 10 (.a 7 (.a 11 (.f 14 (.a 15 .d)))))))))))))))) (Ext (X')) tG tG tR ?_
  refine oS ?_
  refine wpOrd_fork ?_ ?_
  focus
   refine oA ?_
   refine oA ?_
   refine oA ?_
   refine wpOrd_call rfl rfl rfl Tryz.call150 (fun R hR=> ?_)
   go_simp
   refine(InsertP_any X' (L.k m).A (L.k m).n (L.k m).c _ _ (posP (O.kn m) o s) (O.kn m) ⟨o,s⟩ hn.symm tB (posP_le _ _ _) _ (by rw[hX'];exact hownW.out.of_ext exI) tR ⟨BoxC.drew (BoxC.new_at _ _ qC)⟩ (fun a ha=>by have:=(hownW.out.lies a ha).2;(try simp only[zs] at this ⊢);omega)).mono ?_
   rintro e w1 ⟨Ai,ni,ci,rfl,hoi,hxi,hgi⟩
   have hbi:=learn_keep (m:=m) hm H.out Hb.out hgi (hw.trans Tv)
   have ck1:=hbi.cell (i:=8+m) (get_kn _ _ _ _ _ _ _ _ L.k m hm)
   have fz1:=hbi.frozen
   refine hR _ _ ⟨_,rfl,?_,?_⟩
   ·exact hxi
   clear hR R
   try simp only[Act.put,zp]
   refine oS ?_
   refine oB ?_
   refine wpOrd_nil ?_
  rotate_right
  focus
   refine oA ?_
   refine wpOrd_fork ?_ ?_
   focus
    refine oA ?_
    refine oA ?_
    refine wpOrd_call rfl rfl rfl Tryz.call150 (fun R hR=> ?_)
    go_simp
    refine(InsertP_any X' (L.k m).A (L.k m).n (L.k m).c _ _ (posP (O.kn m) o s) (O.kn m) ⟨o,s⟩ hn.symm tB (posP_le _ _ _) _ (by rw[hX'];exact hownW.out.of_ext exI) tR ⟨BoxC.drew (BoxC.new_at _ _ qC)⟩ (fun a ha=>by have:=(hownW.out.lies a ha).2;(try simp only[zs] at this ⊢);omega)).mono ?_
    rintro e w1 ⟨Ai,ni,ci,rfl,hoi,hxi,hgi⟩
    have hbi:=learn_keep (m:=m) hm H.out Hb.out hgi (hw.trans Tv)
    have ck1:=hbi.cell (i:=8+m) (get_kn _ _ _ _ _ _ _ _ L.k m hm)
    have fz1:=hbi.frozen
    refine hR _ _ ⟨_,rfl,?_,?_⟩
    ·exact hxi
    clear hR R
    try simp only[Act.put,zp]
    refine oS ?_
    refine oB ?_
    refine wpOrd_nil ?_
   rotate_right
   focus
    refine oA ?_
    refine oA ?_
    refine wpOrd_call rfl rfl rfl Tryz.call150 (fun R hR=> ?_)
    go_simp
    refine(InsertP_any X' (L.k m).A (L.k m).n (L.k m).c _ _ (posP (O.kn m) o s) (O.kn m) ⟨o,s⟩ hn.symm tB (posP_le _ _ _) _ (by rw[hX'];exact hownW.out.of_ext exI) tR ⟨BoxC.drew (BoxC.new_at _ _ qC)⟩ (fun a ha=>by have:=(hownW.out.lies a ha).2;(try simp only[zs] at this ⊢);omega)).mono ?_
    rintro e w1 ⟨Ai,ni,ci,rfl,hoi,hxi,hgi⟩
    have hbi:=learn_keep (m:=m) hm H.out Hb.out hgi (hw.trans Tv)
    have ck1:=hbi.cell (i:=8+m) (get_kn _ _ _ _ _ _ _ _ L.k m hm)
    have fz1:=hbi.frozen
    refine hR _ _ ⟨_,rfl,?_,?_⟩
    ·exact hxi
    clear hR R
    try simp only[Act.put,zp]
    refine oS ?_
    refine oB ?_
    refine wpOrd_nil ?_
  all_goals
   go_wp2_with fail
   refine bodyPost_end (results_none rfl _ _ _) rfl ?_
   have hL:=learn_fin (X:=X') hm hbb tB H.out Hb.out hoff hxi hgi (by rw[hX'] at hoi;exact hoi) (hw.trans exI)
   obtain⟨L',h1,h2,h3,h4⟩:=hL
   exact⟨L',rfl,h1,h2,Hx.out.trans h3,h4⟩
end Go.Proofs.YtekjdeibnfaehaaGreat
