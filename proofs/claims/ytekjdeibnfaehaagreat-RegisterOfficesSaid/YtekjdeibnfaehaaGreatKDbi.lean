/- Texts of a proof. -/
import Derived.Test.YtekjdeibnfaehaaGreatKDak
import Derived.Test.YtekjdeibnfaehaaGreatKDas
import Derived.Test.YtekjdeibnfaehaaGreatKDam
set_option linter.unusedSimpArgs false
set_option linter.unusedVariables false
namespace Go.Proofs.YtekjdeibnfaehaaGreat
open Go Go.RowKit
set_option maxHeartbeats 1000000 in
theorem Mod_any(a m:Int)(h1:1≤m)(h2:m≤4611686018427387904)(w:World):
 Calls Tryz.prog 39 #[.int .i64 a,.int .i64 m] w fun e w'=>e= .returned (.int .i64 (a % m))∧w=w':=by
 have e1:=rem_pos a m h1
 have hw:=tmod_ways a m h1
 have p0:=Int.emod_nonneg a (show m≠0 by omega)
 have p1:=Int.emod_lt_of_pos a (show 0<m by omega)
 have b1: -m≤a.tmod m:=by omega
 have b2:a.tmod m≤m:=by omega
 obtain⟨r,hr⟩:∃ r,a.tmod m=r:=⟨_,rfl⟩
 rw[hr] at e1 b1 b2
 have hm0:¬ m=0:=by omega
 have hw1:Go.RowKit.wrap64 (r+m)=r+m:=IntWalk.wrap64_in _ tB
 obtain⟨s,hs⟩:∃ s,a % m=s:=⟨_,rfl⟩
 rw[hs] at e1 p0 p1 ⊢
 clear hw hs
 go_enter Tryz.func39,Tryz.ntmps39
 go_wp2_with fail
 go_ret
 exact⟨ret_val rfl,rfl⟩
theorem encB_shown(c:UInt8):encB (shownC c)= .int .u8 (32+(c.toNat:Int) % 95):=by
 have h:(shownC c).toNat=32+c.toNat % 95:=by
  unfold shownC
  rw[UInt8.toNat_ofNat']
  have:=Nat.mod_lt c.toNat (show 0<95 by decide)
  omega
 unfold encB
 rw[h]
 rfl
theorem shown_snoc(t:ByteArray){k:Nat}(hk:k<t.size):(t.data.toList.take (k+1)).map shownC=(t.data.toList.take k).map shownC++[shownC t[k]]:=by
 have hl:k<t.data.toList.length:=by simpa using hk
 rw[List.take_succ_eq_append_getElem hl,List.map_append]
 rfl
theorem shownT_full(t:ByteArray)(m k:Nat)(h:k=m∨k=t.size)(hk:k≤m)(hk2:k≤t.size):(⟨((t.data.toList.take k).map shownC).toArray⟩:ByteArray)=shownT t m:=by
 unfold shownT
 have:t.data.toList.take k=t.data.toList.take m:=by
  rcases h with rfl|rfl
  ·rfl
  ·have h1:t.data.toList.length≤t.size:=Nat.le_refl _
   rw[List.take_of_length_le h1,List.take_of_length_le (Nat.le_trans h1 hk)]
 rw[this]
set_option maxRecDepth 100000 in
set_option maxHeartbeats 4000000 in
theorem Shown_any(t:ByteArray)(m:Nat)(hs:t.size≤9223372036854775807)(hm:m≤1000)(w:World):
 Calls Tryz.prog 138 #[.string t,.int .i64 m] w fun e w'=>e= .returned (.string (shownT t m))∧Ext w w':=by
 go_enter Tryz.func138,Tryz.ntmps138
 go_wp2_with fail
 go_loopw [5,6] (fun v i wr=> ∃k:Nat,k≤t.size∧k≤m∧i= .int .i64 k∧Ext w wr∧OwnB w.heap.size wr v ((t.data.toList.take k).map shownC)) (fun _ i _=>m-(intOf i).toNat)
 case atStart=>exact⟨0,Nat.zero_le _,Nat.zero_le _,rfl,Ext.refl _,OwnB.none _ _⟩
 case round=>
  obtain⟨k,hk,hkm,rfl,⟨E9,d9,rfl⟩,hown⟩:=hrel
  have Hown:=hid hown
  have hlen:((t.data.toList.take k).map shownC).length=k:=by simp;omega
  have Hlen:=hid hlen
  clear hown hlen
  by_cases hlt:k<t.size
  ·by_cases hlm:k<m
   ·have hstep:=shown_snoc t hlt
    have henc:=encB_shown t[k]
    have hb:=t[k].toNat_lt
    have Hs:=hid hstep
    have He:=hid henc
    clear hstep henc
    go_wp2_with (at_builtin;refine wpList_abyt rfl w w.heap.size rfl rfl _ _ rfl [shownC t[k]] rfl tc (by exact OwnB.of_ext Hown.out exI) rfl rfl (by unfold Byt;rw[List.map_cons,List.map_nil,He.out];exact Sl_at [_] _ 1 1 _ rfl ta) (by rw[Hlen.out];simp only[List.length_cons,List.length_nil];omega) (fun v1 E2 d2 ho1=> ?_))
    exact⟨⟨k+1,by omega,by omega,by go_num,(Ext.refl _).ext _ _,by rw[Hs.out];exact ho1⟩,by simp[intOf];omega⟩
   ·have hfull:=shownT_full t m k (.inl tB) hkm hk
    obtain⟨A2,c2,rfl,hb2⟩:=Hown.out.slice
    have hcv:=fun c=>run_of_bytes hb2 c
    rw[Hlen.out] at hcv
    simp only[hfull] at hcv
    simp only[Hlen.out]
    clear hb2 hfull
    go_wp2_with fail
    go_ret
    exact⟨ret_val rfl,exI⟩
  ·have hfull:=shownT_full t m k (.inr tB) hkm hk
   obtain⟨A2,c2,rfl,hb2⟩:=Hown.out.slice
   have hcv:=fun c=>run_of_bytes hb2 c
   rw[Hlen.out] at hcv
   simp only[hfull] at hcv
   simp only[Hlen.out]
   clear hb2 hfull
   go_wp2_with fail
   go_ret
   exact⟨ret_val rfl,exI⟩
theorem Shown40(t:ByteArray)(hs:t.size≤9223372036854775807)(w:World):
 Calls Tryz.prog 138 #[.string t,.int .i64 40] w fun e w'=>e= .returned (.string (shownT t 40))∧Ext w w':=Shown_any t 40 hs tN w
end Go.Proofs.YtekjdeibnfaehaaGreat
set_option linter.unusedSimpArgs false
set_option linter.unusedVariables false
namespace Go.Proofs.YtekjdeibnfaehaaGreat
open Go Go.RowKit
abbrev rawV(x:RawD):Value:=.agg #[.int .i64 x.a0,.int .i64 x.a1,.int .i64 x.a2,.int .i64 x.a3,.int .i64 x.a4,.int .i64 x.a5,.int .i64 x.a6,.string x.text]
theorem madeR_of{l:List Rec}{x:RawD}(h:x.a1 % 6=0)(h':0<nextN l (x.a0 % 4)):madeR l x=⟨x.a0 % 4,nextN l (x.a0 % 4),0,0,0,x.a4 % 60,x.a0 % 4,x.a5 % nextN l (x.a0 % 4),0,0,noText⟩:=by
 rw[madeR,if_pos ⟨h,h'⟩]
theorem madeR_lease{l:List Rec}{x:RawD}(h:x.a1 % 6=1):madeR l x=⟨x.a0 % 4,nextN l (x.a0 % 4),1,leaseShip (x.a0 % 4) x.a2,x.a3 % 60,x.a4 % 60,0,0,x.a5 % 4,x.a3 % 60+x.a6 % 12,noText⟩:=by
 rw[madeR,if_neg tB,if_pos h]
theorem madeR_event{l:List Rec}{x:RawD}(h:¬ (x.a1 % 6=0∧0<nextN l (x.a0 % 4)))(h':¬ x.a1 % 6=1):madeR l x=⟨x.a0 % 4,nextN l (x.a0 % 4),2+x.a1 % 9,1+x.a2 % 20,x.a3 % 60,x.a4 % 60,0,0,0,0,shownT x.text 40⟩:=by
 rw[madeR,if_neg h,if_neg h']
theorem nextN_small{l:List Rec}(h:SqSmall l)(o:Int):0≤nextN l o∧nextN l o≤65536:=nextN_bound tN l o h
set_option maxRecDepth 100000 in
set_option maxHeartbeats 16000000 in
theorem Made_any(A:Option Addr)(c n:Nat)(l:List Rec)(x:RawD)(hn:l.length=n)(hbig:n≤100000)(hsq:SqSmall l)(hx:x.text.size≤9223372036854775807)(w:World)(hr:Recs w A l):
 Calls Tryz.prog 100 #[regV A n c,rawV x] w fun e w'=>e= .returned (recV (madeR l x))∧Ext w w':=by
 have HA:=@madeR_of l x
 have HB:=@madeR_lease l x
 have HC:=@madeR_event l x
 obtain⟨a0,a1,a2,a3,a4,a5,a6,t⟩:=x
 obtain⟨N0,N1⟩:=nextN_small hsq (a0 % 4)
 have p0:=Int.emod_nonneg a0 (show(4:Int)≠0 by decide)
 have p1:=Int.emod_lt_of_pos a0 (show(0:Int)<4 by decide)
 have q0:=Int.emod_nonneg a1 (show(6:Int)≠0 by decide)
 have q1:=Int.emod_lt_of_pos a1 (show(0:Int)<6 by decide)
 have s0:=Int.emod_nonneg a2 (show(2:Int)≠0 by decide)
 have s1:=Int.emod_lt_of_pos a2 (show(0:Int)<2 by decide)
 have u0:=Int.emod_nonneg a3 (show(60:Int)≠0 by decide)
 have u1:=Int.emod_lt_of_pos a3 (show(0:Int)<60 by decide)
 have v0:=Int.emod_nonneg a6 (show(12:Int)≠0 by decide)
 have v1:=Int.emod_lt_of_pos a6 (show(0:Int)<12 by decide)
 have y0:=Int.emod_nonneg a2 (show(20:Int)≠0 by decide)
 have y1:=Int.emod_lt_of_pos a2 (show(0:Int)<20 by decide)
 have z0:=Int.emod_nonneg a1 (show(9:Int)≠0 by decide)
 have z1:=Int.emod_lt_of_pos a1 (show(0:Int)<9 by decide)
 by_cases k1:a1 % 6=1
 ·have HR:=hid (HB k1)
  clear HA HB HC
  by_cases sh:a0 % 4+9 * (a2 % 2)=0
  ·have HS:=hid (show leaseShip (a0 % 4) a2=9 from if_pos sh)
   go_enter Tryz.func100,Tryz.ntmps100
   go_wp2_with (go_at_call 39;refine(Mod_any _ _ tB tB _).mono ?_;rintro e w1 ⟨rfl,rfl⟩)
   refine wp_region_ord_same (.f 0 (.f 1 (.f 2 (.f 5 (.f 6 (.f 7 (.k 3 (.f 4 (.k 8 (.f 9 (.a 10 (.a 11 .d))) 10 (.a 8 (.f 9 (.a 11 .d))))) 10 (.a 3 (.f 4 (.a 8 (.f 9 (.a 11 .d)))))))))))) tG tG ?_
   refine oR ?_
   refine wpOrd_fork ?_ ?_
   focus
    refine wpOrd_call rfl rfl rfl Tryz.call105 (fun R hR=> ?_)
    go_simp
    refine(rnext_any _ _ _ _ _ tZ tB tF _ (recI ‹_›)).mono ?_
    rintro e w1 ⟨rfl,E1,d1,rfl⟩
    refine hR _ _ ⟨_,rfl,?_,?_⟩
    ·exact keepI
    clear hR R
    simp only[Act.put,zp]
    refine oR ?_
    refine wpOrd_fork ?_ ?_
    focus
     refine wpOrd_call rfl rfl rfl Tryz.call39 (fun R hR=> ?_)
     go_simp
     refine(Mod_any _ _ tB tB _).mono ?_
     rintro e w1 ⟨rfl,rfl⟩
     refine hR _ _ ⟨_,rfl,?_,?_⟩
     ·exact keepI
     clear hR R
     simp only[Act.put,zp]
     refine oR ?_
     refine oD ?_
     refine oD ?_
     refine wpOrd_nil ?_
    rotate_right
    focus
     refine oD ?_
     refine wpOrd_call rfl rfl rfl Tryz.call39 (fun R hR=> ?_)
     go_simp
     refine(Mod_any _ _ tB tB _).mono ?_
     rintro e w1 ⟨rfl,rfl⟩
     refine hR _ _ ⟨_,rfl,?_,?_⟩
     ·exact keepI
     clear hR R
     simp only[Act.put,zp]
     refine oR ?_
     refine oD ?_
     refine wpOrd_nil ?_
   rotate_right
   focus
    refine oD ?_
    refine wpOrd_call rfl rfl rfl Tryz.call105 (fun R hR=> ?_)
    go_simp
    refine(rnext_any _ _ _ _ _ tZ tB tF _ (recI ‹_›)).mono ?_
    rintro e w1 ⟨rfl,E4,d4,rfl⟩
    refine hR _ _ ⟨_,rfl,?_,?_⟩
    ·exact keepI
    clear hR R
    simp only[Act.put,zp]
    refine oR ?_
    refine wpOrd_call rfl rfl rfl Tryz.call39 (fun R hR=> ?_)
    go_simp
    refine(Mod_any _ _ tB tB _).mono ?_
    rintro e w1 ⟨rfl,rfl⟩
    refine hR _ _ ⟨_,rfl,?_,?_⟩
    ·exact keepI
    clear hR R
    simp only[Act.put,zp]
    refine oR ?_
    refine oD ?_
    refine wpOrd_nil ?_
   all_goals
    go_wp2_with (go_at_call 39;refine(Mod_any _ _ tB tB _).mono ?_;rintro e w1 ⟨rfl,rfl⟩)
    refine wp_region_ord (.f 0 (.f 2 (.f 3 (.f 4 (.k 1 (.a 5 (.f 6 (.f 7 (.a 8 .d)))) 5 (.a 1 (.f 6 (.f 7 (.a 8 .d))))))))) (Ext ((w.alloc (.cells #[.slice A n c] 34)).alloc (.cells #[.int .i64 a0,.int .i64 a1,.int .i64 a2,.int .i64 a3,.int .i64 a4,.int .i64 a5,.int .i64 a6,.string t] 88))) tG tG exI ?_
    refine oS ?_
    refine wpOrd_fork ?_ ?_
    focus
     refine oC ?_
     refine wpOrd_call rfl rfl rfl Tryz.call39 (fun R hR=> ?_)
     go_simp
     refine(Mod_any _ _ tB tB _).mono ?_
     rintro e w1 ⟨rfl,rfl⟩
     refine hR _ _ ⟨_,rfl,?_,?_⟩
     ·exact exI
     clear hR R
     simp only[Act.put,zp]
     refine oS ?_
     refine oC ?_
     refine wpOrd_nil ?_
    rotate_right
    focus
     refine wpOrd_call rfl rfl rfl Tryz.call39 (fun R hR=> ?_)
     go_simp
     refine(Mod_any _ _ tB tB _).mono ?_
     rintro e w1 ⟨rfl,rfl⟩
     refine hR _ _ ⟨_,rfl,?_,?_⟩
     ·exact exI
     clear hR R
     simp only[Act.put,zp]
     refine oC ?_
     refine oS ?_
     refine oC ?_
     refine wpOrd_nil ?_
    all_goals
     go_wp2_with (go_at_call 39;refine(Mod_any _ _ tB tB _).mono ?_;rintro e w1 ⟨rfl,rfl⟩)
     refine bodyPost_ret (v:=recV ⟨a0 % 4,nextN l (a0 % 4),1,9,a3 % 60,a4 % 60,0,0,a5 % 4,a3 % 60+a6 % 12,noText⟩) qg rfl ?_
     exact⟨by rw[HR.out,HS.out],exI⟩
  ·have HS:=hid (show leaseShip (a0 % 4) a2=a0 % 4+9 * (a2 % 2) from if_neg sh)
   go_enter Tryz.func100,Tryz.ntmps100
   go_wp2_with (go_at_call 39;refine(Mod_any _ _ tB tB _).mono ?_;rintro e w1 ⟨rfl,rfl⟩)
   refine wp_region_ord_same (.f 0 (.f 1 (.f 2 (.f 5 (.f 6 (.f 7 (.k 3 (.f 4 (.k 8 (.f 9 (.a 10 (.a 11 .d))) 10 (.a 8 (.f 9 (.a 11 .d))))) 10 (.a 3 (.f 4 (.a 8 (.f 9 (.a 11 .d)))))))))))) tG tG ?_
   refine oR ?_
   refine wpOrd_fork ?_ ?_
   focus
    refine wpOrd_call rfl rfl rfl Tryz.call105 (fun R hR=> ?_)
    go_simp
    refine(rnext_any _ _ _ _ _ tZ tB tF _ (recI ‹_›)).mono ?_
    rintro e w1 ⟨rfl,E1,d1,rfl⟩
    refine hR _ _ ⟨_,rfl,?_,?_⟩
    ·exact keepI
    clear hR R
    simp only[Act.put,zp]
    refine oR ?_
    refine wpOrd_fork ?_ ?_
    focus
     refine wpOrd_call rfl rfl rfl Tryz.call39 (fun R hR=> ?_)
     go_simp
     refine(Mod_any _ _ tB tB _).mono ?_
     rintro e w1 ⟨rfl,rfl⟩
     refine hR _ _ ⟨_,rfl,?_,?_⟩
     ·exact keepI
     clear hR R
     simp only[Act.put,zp]
     refine oR ?_
     refine oD ?_
     refine oD ?_
     refine wpOrd_nil ?_
    rotate_right
    focus
     refine oD ?_
     refine wpOrd_call rfl rfl rfl Tryz.call39 (fun R hR=> ?_)
     go_simp
     refine(Mod_any _ _ tB tB _).mono ?_
     rintro e w1 ⟨rfl,rfl⟩
     refine hR _ _ ⟨_,rfl,?_,?_⟩
     ·exact keepI
     clear hR R
     simp only[Act.put,zp]
     refine oR ?_
     refine oD ?_
     refine wpOrd_nil ?_
   rotate_right
   focus
    refine oD ?_
    refine wpOrd_call rfl rfl rfl Tryz.call105 (fun R hR=> ?_)
    go_simp
    refine(rnext_any _ _ _ _ _ tZ tB tF _ (recI ‹_›)).mono ?_
    rintro e w1 ⟨rfl,E4,d4,rfl⟩
    refine hR _ _ ⟨_,rfl,?_,?_⟩
    ·exact keepI
    clear hR R
    simp only[Act.put,zp]
    refine oR ?_
    refine wpOrd_call rfl rfl rfl Tryz.call39 (fun R hR=> ?_)
    go_simp
    refine(Mod_any _ _ tB tB _).mono ?_
    rintro e w1 ⟨rfl,rfl⟩
    refine hR _ _ ⟨_,rfl,?_,?_⟩
    ·exact keepI
    clear hR R
    simp only[Act.put,zp]
    refine oR ?_
    refine oD ?_
    refine wpOrd_nil ?_
   all_goals
    go_wp2_with (go_at_call 39;refine(Mod_any _ _ tB tB _).mono ?_;rintro e w1 ⟨rfl,rfl⟩)
    refine wp_region_ord (.f 0 (.f 2 (.f 3 (.f 4 (.k 1 (.a 5 (.f 6 (.f 7 (.a 8 .d)))) 5 (.a 1 (.f 6 (.f 7 (.a 8 .d))))))))) (Ext ((w.alloc (.cells #[.slice A n c] 34)).alloc (.cells #[.int .i64 a0,.int .i64 a1,.int .i64 a2,.int .i64 a3,.int .i64 a4,.int .i64 a5,.int .i64 a6,.string t] 88))) tG tG exI ?_
    refine oS ?_
    refine wpOrd_fork ?_ ?_
    focus
     refine oC ?_
     refine wpOrd_call rfl rfl rfl Tryz.call39 (fun R hR=> ?_)
     go_simp
     refine(Mod_any _ _ tB tB _).mono ?_
     rintro e w1 ⟨rfl,rfl⟩
     refine hR _ _ ⟨_,rfl,?_,?_⟩
     ·exact exI
     clear hR R
     simp only[Act.put,zp]
     refine oS ?_
     refine oC ?_
     refine wpOrd_nil ?_
    rotate_right
    focus
     refine wpOrd_call rfl rfl rfl Tryz.call39 (fun R hR=> ?_)
     go_simp
     refine(Mod_any _ _ tB tB _).mono ?_
     rintro e w1 ⟨rfl,rfl⟩
     refine hR _ _ ⟨_,rfl,?_,?_⟩
     ·exact exI
     clear hR R
     simp only[Act.put,zp]
     refine oC ?_
     refine oS ?_
     refine oC ?_
     refine wpOrd_nil ?_
    all_goals
     go_wp2_with (go_at_call 39;refine(Mod_any _ _ tB tB _).mono ?_;rintro e w1 ⟨rfl,rfl⟩)
     refine bodyPost_ret (v:=recV ⟨a0 % 4,nextN l (a0 % 4),1,a0 % 4+9 * (a2 % 2),a3 % 60,a4 % 60,0,0,a5 % 4,a3 % 60+a6 % 12,noText⟩) qg rfl ?_
     exact⟨by rw[HR.out,HS.out],exI⟩
 ·by_cases k0:a1 % 6=0
  ·by_cases hN:0<nextN l (a0 % 4)
   ·have HR:=hid (HA k0 hN)
    clear HA HB HC
    obtain⟨N,hNN⟩:∃ N,nextN l (a0 % 4)=N:=⟨_,rfl⟩
    rw[hNN] at N0 N1 hN
    go_enter Tryz.func100,Tryz.ntmps100
    go_wp2_with (go_at_call 39;refine(Mod_any _ _ tB tB _).mono ?_;rintro e w1 ⟨rfl,rfl⟩)
    refine wp_region_ord_same (.f 0 (.f 1 (.f 2 (.f 5 (.f 6 (.f 7 (.k 3 (.f 4 (.k 8 (.f 9 (.a 10 (.a 11 .d))) 10 (.a 8 (.f 9 (.a 11 .d))))) 10 (.a 3 (.f 4 (.a 8 (.f 9 (.a 11 .d)))))))))))) tG tG ?_
    refine oR ?_
    refine wpOrd_fork ?_ ?_
    focus
     refine wpOrd_call rfl rfl rfl Tryz.call105 (fun R hR=> ?_)
     go_simp
     refine(rnext_any _ _ _ _ _ tZ tB tF _ (recI ‹_›)).mono ?_
     rintro e w1 ⟨rfl,E1,d1,rfl⟩
     refine hR _ _ ⟨_,rfl,?_,?_⟩
     ·exact keepI
     clear hR R
     simp only[Act.put,zp]
     refine oR ?_
     refine wpOrd_fork ?_ ?_
     focus
      refine wpOrd_call rfl rfl rfl Tryz.call39 (fun R hR=> ?_)
      go_simp
      refine(Mod_any _ _ tB tB _).mono ?_
      rintro e w1 ⟨rfl,rfl⟩
      refine hR _ _ ⟨_,rfl,?_,?_⟩
      ·exact keepI
      clear hR R
      simp only[Act.put,zp]
      refine oR ?_
      refine oD ?_
      refine oD ?_
      refine wpOrd_nil ?_
     rotate_right
     focus
      refine oD ?_
      refine wpOrd_call rfl rfl rfl Tryz.call39 (fun R hR=> ?_)
      go_simp
      refine(Mod_any _ _ tB tB _).mono ?_
      rintro e w1 ⟨rfl,rfl⟩
      refine hR _ _ ⟨_,rfl,?_,?_⟩
      ·exact keepI
      clear hR R
      simp only[Act.put,zp]
      refine oR ?_
      refine oD ?_
      refine wpOrd_nil ?_
    rotate_right
    focus
     refine oD ?_
     refine wpOrd_call rfl rfl rfl Tryz.call105 (fun R hR=> ?_)
     go_simp
     refine(rnext_any _ _ _ _ _ tZ tB tF _ (recI ‹_›)).mono ?_
     rintro e w1 ⟨rfl,E4,d4,rfl⟩
     refine hR _ _ ⟨_,rfl,?_,?_⟩
     ·exact keepI
     clear hR R
     simp only[Act.put,zp]
     refine oR ?_
     refine wpOrd_call rfl rfl rfl Tryz.call39 (fun R hR=> ?_)
     go_simp
     refine(Mod_any _ _ tB tB _).mono ?_
     rintro e w1 ⟨rfl,rfl⟩
     refine hR _ _ ⟨_,rfl,?_,?_⟩
     ·exact keepI
     clear hR R
     simp only[Act.put,zp]
     refine oR ?_
     refine oD ?_
     refine wpOrd_nil ?_
    all_goals
     go_wp2_with (go_at_call 39;refine(Mod_any _ _ tB tB _).mono ?_;rintro e w1 ⟨rfl,rfl⟩)
     refine bodyPost_ret (v:=recV ⟨a0 % 4,N,0,0,0,a4 % 60,a0 % 4,a5 % N,0,0,noText⟩) qg rfl ?_
     exact⟨by rw[HR.out,hNN],exI⟩
   ·have HR:=hid (HC (fun h=>hN h.2) k1)
    have hN0:nextN l (a0 % 4)=0:=by omega
    clear HA HB HC
    go_enter Tryz.func100,Tryz.ntmps100
    go_wp2_with (go_at_call 39;refine(Mod_any _ _ tB tB _).mono ?_;rintro e w1 ⟨rfl,rfl⟩)
    refine wp_region_ord_same (.f 0 (.f 1 (.f 2 (.f 5 (.f 6 (.f 7 (.k 3 (.f 4 (.k 8 (.f 9 (.a 10 (.a 11 .d))) 10 (.a 8 (.f 9 (.a 11 .d))))) 10 (.a 3 (.f 4 (.a 8 (.f 9 (.a 11 .d)))))))))))) tG tG ?_
    refine oR ?_
    refine wpOrd_fork ?_ ?_
    focus
     refine wpOrd_call rfl rfl rfl Tryz.call105 (fun R hR=> ?_)
     go_simp
     refine(rnext_any _ _ _ _ _ tZ tB tF _ (recI ‹_›)).mono ?_
     rintro e w1 ⟨rfl,E1,d1,rfl⟩
     refine hR _ _ ⟨_,rfl,?_,?_⟩
     ·exact keepI
     clear hR R
     simp only[Act.put,zp]
     refine oR ?_
     refine wpOrd_fork ?_ ?_
     focus
      refine wpOrd_call rfl rfl rfl Tryz.call39 (fun R hR=> ?_)
      go_simp
      refine(Mod_any _ _ tB tB _).mono ?_
      rintro e w1 ⟨rfl,rfl⟩
      refine hR _ _ ⟨_,rfl,?_,?_⟩
      ·exact keepI
      clear hR R
      simp only[Act.put,zp]
      refine oR ?_
      refine oD ?_
      refine oD ?_
      refine wpOrd_nil ?_
     rotate_right
     focus
      refine oD ?_
      refine wpOrd_call rfl rfl rfl Tryz.call39 (fun R hR=> ?_)
      go_simp
      refine(Mod_any _ _ tB tB _).mono ?_
      rintro e w1 ⟨rfl,rfl⟩
      refine hR _ _ ⟨_,rfl,?_,?_⟩
      ·exact keepI
      clear hR R
      simp only[Act.put,zp]
      refine oR ?_
      refine oD ?_
      refine wpOrd_nil ?_
    rotate_right
    focus
     refine oD ?_
     refine wpOrd_call rfl rfl rfl Tryz.call105 (fun R hR=> ?_)
     go_simp
     refine(rnext_any _ _ _ _ _ tZ tB tF _ (recI ‹_›)).mono ?_
     rintro e w1 ⟨rfl,E4,d4,rfl⟩
     refine hR _ _ ⟨_,rfl,?_,?_⟩
     ·exact keepI
     clear hR R
     simp only[Act.put,zp]
     refine oR ?_
     refine wpOrd_call rfl rfl rfl Tryz.call39 (fun R hR=> ?_)
     go_simp
     refine(Mod_any _ _ tB tB _).mono ?_
     rintro e w1 ⟨rfl,rfl⟩
     refine hR _ _ ⟨_,rfl,?_,?_⟩
     ·exact keepI
     clear hR R
     simp only[Act.put,zp]
     refine oR ?_
     refine oD ?_
     refine wpOrd_nil ?_
    all_goals
     go_wp2_with (first|(go_at_call 39;refine(Mod_any _ _ tB tB _).mono ?_;rintro e w1 ⟨rfl,rfl⟩)|(go_at_call 138;refine(Shown40 _ (by first|omega|assumption) _).mono ?_;rintro e w1 ⟨rfl,E1,d1,rfl⟩))
     refine bodyPost_ret (v:=recV ⟨a0 % 4,0,2+a1 % 9,1+a2 % 20,a3 % 60,a4 % 60,0,0,0,0,shownT t 40⟩) (by simp[results,Tryz.results100,go_sem]) rfl ?_
     exact⟨by rw[HR.out,hN0],exI⟩
  ·have HR:=hid (HC (fun h=>k0 h.1) k1)
   clear HA HB HC
   go_enter Tryz.func100,Tryz.ntmps100
   go_wp2_with (go_at_call 39;refine(Mod_any _ _ tB tB _).mono ?_;rintro e w1 ⟨rfl,rfl⟩)
   refine wp_region_ord_same (.f 0 (.f 1 (.f 2 (.f 5 (.f 6 (.f 7 (.k 3 (.f 4 (.k 8 (.f 9 (.a 10 (.a 11 .d))) 10 (.a 8 (.f 9 (.a 11 .d))))) 10 (.a 3 (.f 4 (.a 8 (.f 9 (.a 11 .d)))))))))))) tG tG ?_
   refine oR ?_
   refine wpOrd_fork ?_ ?_
   focus
    refine wpOrd_call rfl rfl rfl Tryz.call105 (fun R hR=> ?_)
    go_simp
    refine(rnext_any _ _ _ _ _ tZ tB tF _ (recI ‹_›)).mono ?_
    rintro e w1 ⟨rfl,E1,d1,rfl⟩
    refine hR _ _ ⟨_,rfl,?_,?_⟩
    ·exact keepI
    clear hR R
    simp only[Act.put,zp]
    refine oR ?_
    refine wpOrd_fork ?_ ?_
    focus
     refine wpOrd_call rfl rfl rfl Tryz.call39 (fun R hR=> ?_)
     go_simp
     refine(Mod_any _ _ tB tB _).mono ?_
     rintro e w1 ⟨rfl,rfl⟩
     refine hR _ _ ⟨_,rfl,?_,?_⟩
     ·exact keepI
     clear hR R
     simp only[Act.put,zp]
     refine oR ?_
     refine oD ?_
     refine oD ?_
     refine wpOrd_nil ?_
    rotate_right
    focus
     refine oD ?_
     refine wpOrd_call rfl rfl rfl Tryz.call39 (fun R hR=> ?_)
     go_simp
     refine(Mod_any _ _ tB tB _).mono ?_
     rintro e w1 ⟨rfl,rfl⟩
     refine hR _ _ ⟨_,rfl,?_,?_⟩
     ·exact keepI
     clear hR R
     simp only[Act.put,zp]
     refine oR ?_
     refine oD ?_
     refine wpOrd_nil ?_
   rotate_right
   focus
    refine oD ?_
    refine wpOrd_call rfl rfl rfl Tryz.call105 (fun R hR=> ?_)
    go_simp
    refine(rnext_any _ _ _ _ _ tZ tB tF _ (recI ‹_›)).mono ?_
    rintro e w1 ⟨rfl,E4,d4,rfl⟩
    refine hR _ _ ⟨_,rfl,?_,?_⟩
    ·exact keepI
    clear hR R
    simp only[Act.put,zp]
    refine oR ?_
    refine wpOrd_call rfl rfl rfl Tryz.call39 (fun R hR=> ?_)
    go_simp
    refine(Mod_any _ _ tB tB _).mono ?_
    rintro e w1 ⟨rfl,rfl⟩
    refine hR _ _ ⟨_,rfl,?_,?_⟩
    ·exact keepI
    clear hR R
    simp only[Act.put,zp]
    refine oR ?_
    refine oD ?_
    refine wpOrd_nil ?_
   all_goals
    go_wp2_with (first|(go_at_call 39;refine(Mod_any _ _ tB tB _).mono ?_;rintro e w1 ⟨rfl,rfl⟩)|(go_at_call 138;refine(Shown40 _ (by first|omega|assumption) _).mono ?_;rintro e w1 ⟨rfl,E1,d1,rfl⟩))
    refine bodyPost_ret (v:=recV ⟨a0 % 4,nextN l (a0 % 4),2+a1 % 9,1+a2 % 20,a3 % 60,a4 % 60,0,0,0,0,shownT t 40⟩) (by simp[results,Tryz.results100,go_sem]) rfl ?_
    exact⟨by rw[HR.out],exI⟩
end Go.Proofs.YtekjdeibnfaehaaGreat
