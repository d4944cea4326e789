/- Texts of a proof. -/
import Derived.Test.YtekjdeibnfaehaaGreatKDag
set_option linter.unusedSimpArgs false
set_option linter.unusedVariables false
namespace Go.Proofs.YtekjdeibnfaehaaGreat
open Go.RowKit
section
variable{P:Program}{S:World→Prop}
theorem run_append_b{W:World}{N:Nat}(t ty:TypeId)(e:TypeId)(i:TypeInfo)(z:Value)(size bytes:Nat)(ht:P.underlying t=some (.slice e))(hi:P.info? e=some i)(hz:i.zero=some z)
 (hsize:i.size=size) (hby:i.bytes=bytes) (hzs:z.cells.size=size) (hsz:0<size) {v:Value} {n:Nat} {xs:List Value} (hN:N≤W.heap.size) (hown:W.ownsRow N e size v n xs)
 {A:Option Addr} {m c:Nat} {news:List Value} (hr:Sl size W A m news) (h1:∀ u∈news,u.oneCell'=true) (h63:n+m≤maxLen) (hbytes:(n+m) * bytes≤140737488355328):
 ∃v' W',(Builtin.append_ #[t,t] ty #[v,.slice A m c]).run P W= .ok v' W'∧Below N W W'∧W'.ownsRow N e size v' (n+m) (xs++news):=by
 rcases A with _|ad
 ·have hm:m=0:=by
   rcases Nat.eq_zero_or_pos m with h0|h0
   ·exact h0
   ·obtain⟨g,o',h,_⟩:=hr.2 h0
    cases h
  subst hm
  have hn:news=[]:=List.eq_nil_of_length_eq_zero (by simpa using hr.1)
  subst hn
  refine⟨v,W,?_,Below.refl _ _,by simpa using hown⟩
  rcases hown.2 with⟨rfl,rfl⟩|⟨g,cap,cur,rfl,_,_,hnc,_⟩
  ·exact tL
  ·exact tM
 ·have hcells:∀ j u,news[j]? =some u→W.cell? (ad.add j)=some u:=by
   intro j u hu
   rcases Nat.eq_zero_or_pos m with h0|h0
   ·subst h0
    have hn:news=[]:=List.eq_nil_of_length_eq_zero (by simpa using hr.1)
    subst hn
    simp at hu
   ·obtain⟨g,o',h,hg,hc⟩:=hr.2 h0
    injection h with h
    subst h
    rw[←hc j u hu]
    unfold Addr.add
    by_cases hj:j=0
    ·subst hj;rfl
    ·rw[if_neg hj]
  obtain⟨v',w',hrun,h2,h3,_,_⟩:=run_append_own_at (P:=P) W N t ty e i z size bytes ht hi hz hsize hby hzs hsz v n xs hown ad m c news hr.1 hcells h1 h63 hbytes hN
  exact⟨v',w',hrun,(Below.refl N W).grown h3 hN (own_base hown),h2⟩
theorem wp_append_run{o:Oper}{a:Act}{K:Act→World→Prop}{Q:Exit→Act→World→Prop}{W W':World}{v v' y:Value}(s x:Operand)(t u:TypeId)
 (ho:o.op= .call {callee:=.builtin .append,args:=#[s,x],argTypes:=#[t,u]}) (hs:a.eval s=v) (hv:a.eval x=y)
 (hrun:(Builtin.append_ #[t,u] o.type #[v,y]).run P W= .ok v' W') (h:K (a.put o.dst v') W'):o.wp P a W K Q:=by
 unfold Oper.wp execOp
 simp only[ho,resolve,invoke,builtin,Sem.run_bind,Sem.run_pure,Result.andThen_ok,List.map_toArray,List.map_cons,List.map_nil,hs,hv,hrun]
 exact h
end
theorem append_rec{W:World}{N:Nat}(ty:TypeId){v:Value}{l news:List Rec}(hN:N≤W.heap.size)(hown:OwnR N W v l){A:Option Addr}{m c:Nat}(hm:m=news.length)(hr:Sl 11 W A m (news.flatMap encRec))(hlen:l.length+news.length≤1000000):
 ∃v' W',(Builtin.append_ #[32,32] ty #[v,.slice A m c]).run Tryz.prog W= .ok v' W'∧Below N W W'∧OwnR N W' v' (l++news):=by
 obtain⟨i0,hi,hz0,hz1,hz2⟩:=info_parts info_rec
 obtain⟨v',W',h1,h2,h3⟩:=run_append_b (P:=Tryz.prog) 32 ty 46 i0 _ 11 96 Tryz.underlying32 hi hz0 hz1 hz2 rfl tN hN hown (c:=c) hr (encRec_one _) tO tB
 refine⟨v',W',h1,h2,?_⟩
 unfold OwnR
 rw[List.length_append,List.flatMap_append,←hm]
 exact h3
theorem wpList_append_rec{P:Program}(hP:P=Tryz.prog){ops:Array Oper}{rest:List Oper}{o:Oper}{a:Act}{Q:Exit→Act→World→Prop}{W:World}(N:Nat)(hgd:o.guard=none)(s x:Operand)
 (ho:o.op= .call {callee:=.builtin .append,args:=#[s,x],argTypes:=#[32,32]}) {v:Value} {l:List Rec} (news:List Rec) (hs:a.eval s=v) (hN:N≤W.heap.size) (hown:OwnR N W v l)
 {A:Option Addr} {m c:Nat} (hv:a.eval x= .slice A m c) (hm:m=news.length) (hr:Sl 11 W A m (news.flatMap encRec)) (hlen:l.length+news.length≤1000000)
 (h:∀ v' W',Below N W W'→OwnR N W' v' (l++news)→wpList P ops Q rest (a.put o.dst v') W'):wpList P ops Q (o::rest) a W:=by
 obtain⟨v',W',h1,h2,h3⟩:=append_rec o.type hN hown (c:=c) hm hr hlen
 rw[←hP] at h1
 exact wpList_plain hgd fun _ hK=>wp_append_run s x _ _ ho hs hv h1 (hK _ _ (h v' W' h2 h3))
theorem wpOrd_append_rec{P:Program}(hP:P=Tryz.prog){ops:Array Oper}{Q:Exit→Act→World→Prop}{S:World→Prop}{i:Nat}{rest:Plan}{a:Act}{W:World}{o:Oper}(N:Nat)(hi:ops[i]? =some o)
 (hw:Region.wanted o (yielded ops a.tmps)=true) (s x:Operand) (ho:o.op= .call {callee:=.builtin .append,args:=#[s,x],argTypes:=#[32,32]})
 {v:Value} {l:List Rec} (news:List Rec) (hs:a.eval s=v) (hN:N≤W.heap.size) (hown:OwnR N W v l)
 {A:Option Addr} {m c:Nat} (hv:a.eval x= .slice A m c) (hm:m=news.length) (hr:Sl 11 W A m (news.flatMap encRec)) (hlen:l.length+news.length≤1000000)
 (h:∀ v' W',Below N W W'→OwnR N W' v' (l++news)→S W'∧wpOrd P ops Q S rest (a.put o.dst v') W'):wpOrd P ops Q S (.a i rest) a W:=by
 refine wpOrd_act hi hw fun K hK=> ?_
 obtain⟨v',W',h1,h2,h3⟩:=append_rec o.type hN hown (c:=c) hm hr hlen
 rw[←hP] at h1
 exact wp_append_run s x _ _ ho hs hv h1 (hK _ _ (h v' W' h2 h3))
theorem _root_.Go.Ext.below_of{w W W':World}{N:Nat}(h:Ext w W)(hb:Below N W W')(hN:w.heap.size≤N):Ext w W':=
 Ext.of_below (h.below.trans (hb.mono hN))
theorem OwnR.empty(w:World)(base g:Nat)(hg:g=w.heap.size)(hb:base≤g):OwnR base (w.alloc (.cells #[] 46)) (.slice (some ⟨g,0,Option.none⟩) 0 0) []:=by
 subst hg
 exact ownsRow_empty w base _ _ hb
theorem OwnR.open{base:Nat}{w:World}{v:Value}{l:List Rec}(h:OwnR base w v l):∃ A n c,v= .slice A n c∧n=l.length∧n≤c∧Recs w A l:=by
 obtain⟨A,c,h1,h2,h3⟩:=h.slice
 exact⟨A,_,c,h1,rfl,h2,h3⟩
theorem OwnR.box{N:Nat}{B:World}{o o':Obj}{E:Array Obj}{d d':Nat}{v:Value}{l:List Rec}(h:OwnR N ((B.alloc o).ext E d) v l)(hN:N=B.heap.size+1):OwnR N ((B.alloc o').ext E d') v l:=by
 refine⟨h.1,?_⟩
 rcases h.2 with h0|⟨g,cap,cur,hv,hb,hh,hr⟩
 ·exact .inl h0
 ·refine .inr ⟨g,cap,cur,hv,hb,?_,hr⟩
  rw[←hh]
  simp only[World.ext,World.alloc]
  rw[Array.getElem?_append_right tA,Array.getElem?_append_right tA]
  simp
theorem OwnR.swap{N:Nat}{X X':World}{E:Array Obj}{d d':Nat}{v:Value}{l:List Rec}(h:OwnR N (X.ext E d) v l)(hs:X'.heap.size=X.heap.size)(hN:X.heap.size≤N):OwnR N (X'.ext E d') v l:=by
 refine⟨h.1,?_⟩
 rcases h.2 with h0|⟨g,cap,cur,hv,hb,hh,hr⟩
 ·exact .inl h0
 ·refine .inr ⟨g,cap,cur,hv,hb,?_,hr⟩
  rw[←hh]
  simp only[World.ext]
  rw[Array.getElem?_append_right tB,Array.getElem?_append_right tB,hs]
theorem OwnR.moved{N base:Nat}{X X':World}{E:Array Obj}{d d':Nat}{v:Value}{l:List Rec}(h:OwnR N (X.ext E d) v l)(hs:X'.heap.size=X.heap.size)(hN:X.heap.size≤N)(hb:base≤N):OwnR base (X'.ext E d') v l:=
 OwnR.base (OwnR.swap h hs hN) hb
theorem wpList_arec{P:Program}(hP:P=Tryz.prog){ops:Array Oper}{rest:List Oper}{o:Oper}{a:Act}{Q:Exit→Act→World→Prop}{W:World}(X:World)(N:Nat)(hN:N=X.heap.size)(hgd:o.guard=none)(s x:Operand)
 (ho:o.op= .call {callee:=.builtin .append,args:=#[s,x],argTypes:=#[32,32]}) {v:Value} {l:List Rec} (news:List Rec) (hs:a.eval s=v) (hx:Ext X W) (hown:OwnR N W v l)
 {A:Option Addr} {m c:Nat} (hv:a.eval x= .slice A m c) (hm:m=news.length) (hr:Sl 11 W A m (news.flatMap encRec)) (hlen:l.length+news.length≤1000000)
 (h:∀ v' E d,OwnR N (X.ext E d) v' (l++news)→wpList P ops Q rest (a.put o.dst v') (X.ext E d)):wpList P ops Q (o::rest) a W:=by
 refine wpList_append_rec hP N hgd s x ho news hs t8 hown hv hm hr hlen fun v' W' hb ho'=> ?_
 obtain⟨E,d,rfl⟩:=hx.below_of hb (Nat.le_of_eq hN.symm)
 exact h _ _ _ ho'
theorem wpOrd_arec{P:Program}(hP:P=Tryz.prog){ops:Array Oper}{Q:Exit→Act→World→Prop}{S:World→Prop}{i:Nat}{rest:Plan}{a:Act}{W:World}{o:Oper}(X:World)(N:Nat)(hN:N=X.heap.size)(hi:ops[i]? =some o)
 (hw:Region.wanted o (yielded ops a.tmps)=true) (s x:Operand) (ho:o.op= .call {callee:=.builtin .append,args:=#[s,x],argTypes:=#[32,32]})
 {v:Value} {l:List Rec} (news:List Rec) (hs:a.eval s=v) (hx:Ext X W) (hown:OwnR N W v l)
 {A:Option Addr} {m c:Nat} (hv:a.eval x= .slice A m c) (hm:m=news.length) (hr:Sl 11 W A m (news.flatMap encRec)) (hlen:l.length+news.length≤1000000)
 (h:∀ v' E d,OwnR N (X.ext E d) v' (l++news)→S (X.ext E d)∧wpOrd P ops Q S rest (a.put o.dst v') (X.ext E d)):wpOrd P ops Q S (.a i rest) a W:=by
 refine wpOrd_append_rec hP N hi hw s x ho news hs t8 hown hv hm hr hlen fun v' W' hb ho'=> ?_
 obtain⟨E,d,rfl⟩:=hx.below_of hb (Nat.le_of_eq hN.symm)
 exact h _ _ _ ho'
end Go.Proofs.YtekjdeibnfaehaaGreat
set_option linter.unusedSimpArgs false
set_option linter.unusedVariables false
namespace Go.Proofs.YtekjdeibnfaehaaGreat
open Go.RowKit
def outG(l:List Rec)(r:Rec)(k:Nat):List Rec:=if anyAhead (l.take k) r=true then insG (l.take k) r else l.take k
theorem outG_zero(l:List Rec)(r:Rec):outG l r 0=[]:=by simp[outG,anyAhead]
theorem anyAhead_succ(l:List Rec)(r:Rec){k:Nat}(hk:k<l.length):anyAhead (l.take (k+1)) r=(anyAhead (l.take k) r||aheadB r l[k]):=by
 rw[List.take_succ_eq_append_getElem hk,anyAhead_snoc]
theorem outG_done{l:List Rec}{r:Rec}{k:Nat}(hk:k<l.length)(h:anyAhead (l.take k) r=true):outG l r (k+1)=outG l r k++[l[k]]:=by
 unfold outG
 rw[anyAhead_succ l r hk,h,if_pos tE,if_pos tE,List.take_succ_eq_append_getElem hk,insG_snoc_any _ h]
theorem outG_new{l:List Rec}{r:Rec}{k:Nat}(hk:k<l.length)(h:anyAhead (l.take k) r=false)(hx:aheadB r l[k]=true):outG l r (k+1)=(outG l r k++[r])++[l[k]]:=by
 unfold outG
 rw[anyAhead_succ l r hk,h,if_pos tQ,if_neg tE,List.take_succ_eq_append_getElem hk,insG_snoc_new _ h hx]
 simp
theorem outG_no{l:List Rec}{r:Rec}{k:Nat}(hk:k<l.length)(h:anyAhead (l.take k) r=false)(hx:aheadB r l[k]=false):outG l r (k+1)=outG l r k++[l[k]]:=by
 unfold outG
 rw[anyAhead_succ l r hk,h,if_neg tQ,if_neg tE,List.take_succ_eq_append_getElem hk]
theorem outG_length(l:List Rec)(r:Rec){k:Nat}(hk:k≤l.length):(outG l r k).length≤k+1:=by
 unfold outG
 split
 ·have:(insG (l.take k) r).length=k+1:=by
   unfold insG
   have:=congrArg List.length (List.takeWhile_append_dropWhile (p:=fun x=> !aheadB r x) (l:=l.take k))
   simp only[List.length_append,List.length_cons,List.length_take] at this ⊢
   omega
  omega
 ·simp;omega
theorem outG_end_true{l:List Rec}{r:Rec}(h:anyAhead (l.take l.length) r=true):outG l r l.length=insG l r:=by
 unfold outG;rw[if_pos h,List.take_length]
theorem outG_end_false{l:List Rec}{r:Rec}(h:anyAhead (l.take l.length) r=false):outG l r l.length++[r]=insG l r:=by
 unfold outG
 rw[if_neg (by simp only[h];decide),List.take_length]
 rw[List.take_length] at h
 rw[insG_none h]
set_option maxRecDepth 100000 in
set_option maxHeartbeats 8000000 in
theorem rinsert_any(A:Option Addr)(c n:Nat)(l:List Rec)(r:Rec)(hn:l.length=n)(hbig:n≤100000)(w:World)(hr:Recs w A l):
 Calls Tryz.prog 127 #[regV A n c,recV r] w fun e w'=> ∃v,e= .returned (.agg #[v])∧OwnR w.heap.size w' v (insG l r)∧Ext w w':=by
 go_enter Tryz.func127,Tryz.ntmps127
 go_wp2_with fail
 go_loopw [6,7] (fun dn i wr=> ∃(k:Nat) (v:Value),k≤n∧i= .int .i64 k∧dn= .bool (anyAhead (l.take k) r)∧Ext ((((w.alloc (.cells #[.slice A n c] 34)).alloc (.cells #[.int .i64 r.ao,.int .i64 r.sq,.int .i64 r.kind,.int .i64 r.ship,.int .i64 r.day,.int .i64 r.known,.int .i64 r.wo,.int .i64 r.ws,.int .i64 r.to,.int .i64 r.til,.string r.text] 46)).alloc (.cells #[.slice none 0 0] 34)).alloc (.cells #[v] 34)) wr∧OwnR (w.heap.size+1+1+1+1) wr v (outG l r k)) (fun _ i _=>n-(intOf i).toNat)
 case atStart=>exact⟨0,_,Nat.zero_le _,rfl,rfl,Ext.refl _,by rw[outG_zero];exact OwnR.none _ _⟩
 case round=>
  obtain⟨k,v,hk,rfl,rfl,⟨E0,d0,rfl⟩,hown⟩:=hrel
  have Hown:=hid hown
  clear hown
  by_cases hlt:k<n
  ·have hm:k<l.length:=by omega
   obtain⟨g,of,rfl,hg⟩:=hr.addr tB
   have hrow:=hr.row hm
   have hol:=outG_length l r (k:=k) tB
   have o1:=outG_done (r:=r) hm
   have o2:=outG_new (r:=r) hm
   have o3:=outG_no (r:=r) hm
   have o4:=anyAhead_succ l r hm
   obtain⟨q,hq⟩:∃ q,l[k]=q:=⟨_,rfl⟩
   rw[hq] at hrow o1 o2 o3 o4
   obtain⟨h0,h1,h2,h3,h4,h5,h6,h7,h8,h9,h10⟩:=hrow
   have hpl:ltP r.ao r.sq q.ao q.sq=aheadB r q:=rfl
   have Hol:=hid hol
   clear hol hq
   cases hat:anyAhead (l.take k) r with
   | true=>
    have O1:=hid (o1 hat)
    rw[hat] at o4
    have O4:=hid o4
    clear o1 o2 o3 o4 hat
    go_wp2_with fail
    refine wp_region_ord_same (.f 0 (.f 1 (.f 2 (.f 3 (.f 4 (.f 5 (.f 6 (.f 7 (.f 8 (.f 9 (.f 10 (.a 11 (.f 12 .d))))))))))))) tG tG ?_
    refine oR ?_
    refine ord_bool (j:=2) rfl (fun hb2=> ?_) (fun hb2=> ?_)
    rotate_left
    focus
     try(exfalso;first|(simp at hb2;done)|(simp at hb2;omega))
     all_goals
      (try simp only[hb2])
      refine oR ?_
      refine wpOrd_actPass rfl rfl ?_ ?_
      ·exact keepI
      simp only[Act.put,zp]
      refine oR ?_
      refine wpOrd_nil ?_
    rotate_right
    focus
     try(exfalso;first|(simp at hb2;done)|(simp at hb2;omega))
     all_goals
      (try simp only[hb2])
      refine oR ?_
      refine wpOrd_call rfl rfl rfl Tryz.call136 (fun R hR=> ?_)
      go_simp
      refine(Ahead_any _ _ _ _ _).mono ?_
      rintro e w1 ⟨rfl,E1,d1,rfl⟩
      refine hR _ _ ⟨_,rfl,?_,?_⟩
      ·exact keepI
      clear hR R
      simp only[Act.put,zp]
      refine oR ?_
      refine wpOrd_nil ?_
    go_wp2_with fail
    refine wp_region_ord (.f 0 (.f 2 (.f 3 (.f 4 (.f 5 (.f 6 (.k 1 (.a 7 (.a 8 (.f 9 (.a 10 .d)))) 7 (.a 1 (.a 8 (.f 9 (.a 10 .d))))))))))) (Ext ((((w.alloc (.cells #[.slice (some ⟨g,of,none⟩) n c] 34)).alloc (.cells #[.int .i64 r.ao,.int .i64 r.sq,.int .i64 r.kind,.int .i64 r.ship,.int .i64 r.day,.int .i64 r.known,.int .i64 r.wo,.int .i64 r.ws,.int .i64 r.to,.int .i64 r.til,.string r.text] 46)).alloc (.cells #[.slice none 0 0] 34)))) tG tG exI ?_
    refine oS ?_
    refine wpOrd_fork ?_ ?_
    focus
     refine oC ?_
     refine oC ?_
     refine wpOrd_arec rfl ((((w.alloc (.cells #[.slice (some ⟨g,of,none⟩) n c] 34)).alloc (.cells #[.int .i64 r.ao,.int .i64 r.sq,.int .i64 r.kind,.int .i64 r.ship,.int .i64 r.day,.int .i64 r.known,.int .i64 r.wo,.int .i64 r.ws,.int .i64 r.to,.int .i64 r.til,.string r.text] 46)).alloc (.cells #[.slice none 0 0] 34)).alloc (.cells #[v] 34)) (w.heap.size+1+1+1+1) ta rfl rfl _ _ rfl [q] rfl tc td rfl rfl (Sl_at (encRec q) _ 11 1 _ rfl ta) te (fun v201 E201 d201 ho201=> ?_)
     obtain⟨Av,mv,cv,rfl,hmv,hcv,hsv⟩:=ho201.open
     have HoX:=hid ho201
     clear ho201 hcv hsv hmv
     refine⟨?_,?_⟩
     ·exact exI
     try simp only[Act.put,zp]
     refine oS ?_
     refine oC ?_
     refine wpOrd_nil ?_
    rotate_right
    focus
     refine oC ?_
     refine oC ?_
     refine wpOrd_arec rfl ((((w.alloc (.cells #[.slice (some ⟨g,of,none⟩) n c] 34)).alloc (.cells #[.int .i64 r.ao,.int .i64 r.sq,.int .i64 r.kind,.int .i64 r.ship,.int .i64 r.day,.int .i64 r.known,.int .i64 r.wo,.int .i64 r.ws,.int .i64 r.to,.int .i64 r.til,.string r.text] 46)).alloc (.cells #[.slice none 0 0] 34)).alloc (.cells #[v] 34)) (w.heap.size+1+1+1+1) ta rfl rfl _ _ rfl [q] rfl tc td rfl rfl (Sl_at (encRec q) _ 11 1 _ rfl ta) te (fun v202 E202 d202 ho202=> ?_)
     obtain⟨Av,mv,cv,rfl,hmv,hcv,hsv⟩:=ho202.open
     have HoX:=hid ho202
     clear ho202 hcv hsv hmv
     refine⟨?_,?_⟩
     ·exact exI
     try simp only[Act.put,zp]
     refine oS ?_
     refine oC ?_
     refine wpOrd_nil ?_
    all_goals
     go_wp2_with fail
    all_goals first
     | exact⟨⟨k+1,_,by omega,by go_num,congrArg Value.bool (by rw[O4.out];rfl),exI,by rw[O1.out];exact OwnR.box HoX.out ta⟩,by simp[intOf];omega⟩
   | false=>
    rw[hat] at o4
    have O4:=hid o4
    cases hah:aheadB r q with
    | true=>
     have O2:=hid (o2 hat hah)
     rw[hah] at O4 hpl
     clear o1 o2 o3 o4 hat hah
     go_wp2_with fail
     refine wp_region_ord_same (.f 0 (.f 1 (.f 2 (.f 3 (.f 4 (.f 5 (.f 6 (.f 7 (.f 8 (.f 9 (.f 10 (.a 11 (.f 12 .d))))))))))))) tG tG ?_
     refine oR ?_
     refine ord_bool (j:=2) rfl (fun hb2=> ?_) (fun hb2=> ?_)
     rotate_left
     focus
      try(exfalso;first|(simp at hb2;done)|(simp at hb2;omega))
      all_goals
       (try simp only[hb2])
       refine oR ?_
       refine wpOrd_actPass rfl rfl ?_ ?_
       ·exact keepI
       simp only[Act.put,zp]
       refine oR ?_
       refine wpOrd_nil ?_
     rotate_right
     focus
      try(exfalso;first|(simp at hb2;done)|(simp at hb2;omega))
      all_goals
       (try simp only[hb2])
       refine oR ?_
       refine wpOrd_call rfl rfl rfl Tryz.call136 (fun R hR=> ?_)
       go_simp
       refine(Ahead_any _ _ _ _ _).mono ?_
       rintro e w1 ⟨rfl,E1,d1,rfl⟩
       refine hR _ _ ⟨_,rfl,?_,?_⟩
       ·exact keepI
       clear hR R
       simp only[Act.put,zp]
       refine oR ?_
       refine wpOrd_nil ?_
     go_wp2_with (at_builtin;refine wpList_arec rfl ((((w.alloc (.cells #[.slice (some ⟨g,of,none⟩) n c] 34)).alloc (.cells #[.int .i64 r.ao,.int .i64 r.sq,.int .i64 r.kind,.int .i64 r.ship,.int .i64 r.day,.int .i64 r.known,.int .i64 r.wo,.int .i64 r.ws,.int .i64 r.to,.int .i64 r.til,.string r.text] 46)).alloc (.cells #[.slice none 0 0] 34)).alloc (.cells #[v] 34)) (w.heap.size+1+1+1+1) ta rfl _ _ rfl [r] rfl tc td rfl rfl (Sl_at (encRec r) _ 11 1 _ rfl ta) te (fun v1 E1 d1 ho1=> ?_);obtain⟨Av1,mv1,cv1,rfl,hmv1,hcv1,hsv1⟩:=ho1.open;have Ho1:=hid ho1;clear ho1 hcv1 hsv1 hmv1)
     have HoB:=hid (OwnR.box (o':=.cells #[.slice Av1 mv1 cv1] 34) (d':=d1) Ho1.out ta)
     clear Ho1
     refine wp_region_ord (.f 0 (.f 2 (.f 3 (.f 4 (.f 5 (.f 6 (.k 1 (.a 7 (.a 8 (.f 9 (.a 10 .d)))) 7 (.a 1 (.a 8 (.f 9 (.a 10 .d))))))))))) (Ext ((((w.alloc (.cells #[.slice (some ⟨g,of,none⟩) n c] 34)).alloc (.cells #[.int .i64 r.ao,.int .i64 r.sq,.int .i64 r.kind,.int .i64 r.ship,.int .i64 r.day,.int .i64 r.known,.int .i64 r.wo,.int .i64 r.ws,.int .i64 r.to,.int .i64 r.til,.string r.text] 46)).alloc (.cells #[.slice none 0 0] 34)))) tG tG exI ?_
     refine oS ?_
     refine wpOrd_fork ?_ ?_
     focus
      refine oC ?_
      refine oC ?_
      refine wpOrd_arec rfl ((((w.alloc (.cells #[.slice (some ⟨g,of,none⟩) n c] 34)).alloc (.cells #[.int .i64 r.ao,.int .i64 r.sq,.int .i64 r.kind,.int .i64 r.ship,.int .i64 r.day,.int .i64 r.known,.int .i64 r.wo,.int .i64 r.ws,.int .i64 r.to,.int .i64 r.til,.string r.text] 46)).alloc (.cells #[.slice none 0 0] 34)).alloc (.cells #[.slice Av1 mv1 cv1] 34)) (w.heap.size+1+1+1+1) ta rfl rfl _ _ rfl [q] rfl tc (by exact HoB.out.of_ext exI) rfl rfl (Sl_at (encRec q) _ 11 1 _ rfl ta) tf (fun v201 E201 d201 ho201=> ?_)
      obtain⟨Av,mv,cv,rfl,hmv,hcv,hsv⟩:=ho201.open
      have HoX:=hid ho201
      clear ho201 hcv hsv hmv
      refine⟨?_,?_⟩
      ·exact exI
      try simp only[Act.put,zp]
      refine oS ?_
      refine oC ?_
      refine wpOrd_nil ?_
     rotate_right
     focus
      refine oC ?_
      refine oC ?_
      refine wpOrd_arec rfl ((((w.alloc (.cells #[.slice (some ⟨g,of,none⟩) n c] 34)).alloc (.cells #[.int .i64 r.ao,.int .i64 r.sq,.int .i64 r.kind,.int .i64 r.ship,.int .i64 r.day,.int .i64 r.known,.int .i64 r.wo,.int .i64 r.ws,.int .i64 r.to,.int .i64 r.til,.string r.text] 46)).alloc (.cells #[.slice none 0 0] 34)).alloc (.cells #[.slice Av1 mv1 cv1] 34)) (w.heap.size+1+1+1+1) ta rfl rfl _ _ rfl [q] rfl tc (by exact HoB.out.of_ext exI) rfl rfl (Sl_at (encRec q) _ 11 1 _ rfl ta) tf (fun v202 E202 d202 ho202=> ?_)
      obtain⟨Av,mv,cv,rfl,hmv,hcv,hsv⟩:=ho202.open
      have HoX:=hid ho202
      clear ho202 hcv hsv hmv
      refine⟨?_,?_⟩
      ·exact exI
      try simp only[Act.put,zp]
      refine oS ?_
      refine oC ?_
      refine wpOrd_nil ?_
     all_goals
      go_wp2_with fail
     all_goals first
      | exact⟨⟨k+1,_,by omega,by go_num,congrArg Value.bool (by rw[O4.out];rfl),exI,by rw[O2.out];exact OwnR.box HoX.out ta⟩,by simp[intOf];omega⟩
    | false=>
     have O3:=hid (o3 hat hah)
     rw[hah] at O4 hpl
     clear o1 o2 o3 o4 hat hah
     go_wp2_with fail
     refine wp_region_ord_same (.f 0 (.f 1 (.f 2 (.f 3 (.f 4 (.f 5 (.f 6 (.f 7 (.f 8 (.f 9 (.f 10 (.a 11 (.f 12 .d))))))))))))) tG tG ?_
     refine oR ?_
     refine ord_bool (j:=2) rfl (fun hb2=> ?_) (fun hb2=> ?_)
     rotate_left
     focus
      try(exfalso;first|(simp at hb2;done)|(simp at hb2;omega))
      all_goals
       (try simp only[hb2])
       refine oR ?_
       refine wpOrd_actPass rfl rfl ?_ ?_
       ·exact keepI
       simp only[Act.put,zp]
       refine oR ?_
       refine wpOrd_nil ?_
     rotate_right
     focus
      try(exfalso;first|(simp at hb2;done)|(simp at hb2;omega))
      all_goals
       (try simp only[hb2])
       refine oR ?_
       refine wpOrd_call rfl rfl rfl Tryz.call136 (fun R hR=> ?_)
       go_simp
       refine(Ahead_any _ _ _ _ _).mono ?_
       rintro e w1 ⟨rfl,E1,d1,rfl⟩
       refine hR _ _ ⟨_,rfl,?_,?_⟩
       ·exact keepI
       clear hR R
       simp only[Act.put,zp]
       refine oR ?_
       refine wpOrd_nil ?_
     go_wp2_with fail
     refine wp_region_ord (.f 0 (.f 2 (.f 3 (.f 4 (.f 5 (.f 6 (.k 1 (.a 7 (.a 8 (.f 9 (.a 10 .d)))) 7 (.a 1 (.a 8 (.f 9 (.a 10 .d))))))))))) (Ext ((((w.alloc (.cells #[.slice (some ⟨g,of,none⟩) n c] 34)).alloc (.cells #[.int .i64 r.ao,.int .i64 r.sq,.int .i64 r.kind,.int .i64 r.ship,.int .i64 r.day,.int .i64 r.known,.int .i64 r.wo,.int .i64 r.ws,.int .i64 r.to,.int .i64 r.til,.string r.text] 46)).alloc (.cells #[.slice none 0 0] 34)))) tG tG exI ?_
     refine oS ?_
     refine wpOrd_fork ?_ ?_
     focus
      refine oC ?_
      refine oC ?_
      refine wpOrd_arec rfl ((((w.alloc (.cells #[.slice (some ⟨g,of,none⟩) n c] 34)).alloc (.cells #[.int .i64 r.ao,.int .i64 r.sq,.int .i64 r.kind,.int .i64 r.ship,.int .i64 r.day,.int .i64 r.known,.int .i64 r.wo,.int .i64 r.ws,.int .i64 r.to,.int .i64 r.til,.string r.text] 46)).alloc (.cells #[.slice none 0 0] 34)).alloc (.cells #[v] 34)) (w.heap.size+1+1+1+1) ta rfl rfl _ _ rfl [q] rfl tc td rfl rfl (Sl_at (encRec q) _ 11 1 _ rfl ta) te (fun v201 E201 d201 ho201=> ?_)
      obtain⟨Av,mv,cv,rfl,hmv,hcv,hsv⟩:=ho201.open
      have HoX:=hid ho201
      clear ho201 hcv hsv hmv
      refine⟨?_,?_⟩
      ·exact exI
      try simp only[Act.put,zp]
      refine oS ?_
      refine oC ?_
      refine wpOrd_nil ?_
     rotate_right
     focus
      refine oC ?_
      refine oC ?_
      refine wpOrd_arec rfl ((((w.alloc (.cells #[.slice (some ⟨g,of,none⟩) n c] 34)).alloc (.cells #[.int .i64 r.ao,.int .i64 r.sq,.int .i64 r.kind,.int .i64 r.ship,.int .i64 r.day,.int .i64 r.known,.int .i64 r.wo,.int .i64 r.ws,.int .i64 r.to,.int .i64 r.til,.string r.text] 46)).alloc (.cells #[.slice none 0 0] 34)).alloc (.cells #[v] 34)) (w.heap.size+1+1+1+1) ta rfl rfl _ _ rfl [q] rfl tc td rfl rfl (Sl_at (encRec q) _ 11 1 _ rfl ta) te (fun v202 E202 d202 ho202=> ?_)
      obtain⟨Av,mv,cv,rfl,hmv,hcv,hsv⟩:=ho202.open
      have HoX:=hid ho202
      clear ho202 hcv hsv hmv
      refine⟨?_,?_⟩
      ·exact exI
      try simp only[Act.put,zp]
      refine oS ?_
      refine oC ?_
      refine wpOrd_nil ?_
     all_goals
      go_wp2_with fail
     all_goals first
      | exact⟨⟨k+1,_,by omega,by go_num,congrArg Value.bool (by rw[O4.out];rfl),exI,by rw[O3.out];exact OwnR.box HoX.out ta⟩,by simp[intOf];omega⟩
  ·obtain rfl:k=n:=by omega
   have e1:=outG_end_true (l:=l) (r:=r)
   have e2:=outG_end_false (l:=l) (r:=r)
   have hol:=outG_length l r (k:=l.length) (Nat.le_refl _)
   rw[hn] at e1 e2 hol
   obtain⟨v0,m0,c0,rfl,hm0,hc0,hs0⟩:=Hown.out.open
   clear hm0 hc0 hs0
   have Hol:=hid hol
   clear hol
   cases hat:anyAhead (l.take k) r with
   | true=>
    have E1:=hid (e1 hat)
    clear e1 e2 hat
    go_wp2_with fail
    refine bodyPost_ret (v:=.agg #[.slice v0 m0 c0]) (by simp[results,Tryz.results127,go_sem]) rfl ?_
    exact⟨_,rfl,by rw[←E1.out];exact OwnR.base (base:=(w.heap.size+1+1+1+1)) (OwnR.swap Hown.out ta ta) tB,exI⟩
   | false=>
    have G1:=hid (e2 hat)
    clear e1 e2 hat
    go_wp2_with (at_builtin;refine wpList_arec rfl ((((w.alloc (.cells #[.slice A k c] 34)).alloc (.cells #[.int .i64 r.ao,.int .i64 r.sq,.int .i64 r.kind,.int .i64 r.ship,.int .i64 r.day,.int .i64 r.known,.int .i64 r.wo,.int .i64 r.ws,.int .i64 r.to,.int .i64 r.til,.string r.text] 46)).alloc (.cells #[.slice none 0 0] 34)).alloc (.cells #[.slice v0 m0 c0] 34)) (w.heap.size+1+1+1+1) ta rfl _ _ rfl [r] rfl tc td rfl rfl (Sl_at (encRec r) _ 11 1 _ rfl ta) (by have:=Hol.out;simp only[List.length_cons,List.length_nil];omega) (fun v1 E1 d1 ho1=> ?_);obtain⟨Av1,mv1,cv1,rfl,hmv1,hcv1,hsv1⟩:=ho1.open;have Ho1:=hid ho1;clear ho1 hcv1 hsv1 hmv1)
    have HoB:=OwnR.box (o':=.cells #[.slice Av1 mv1 cv1] 34) (d':=d1) Ho1.out ta
    refine bodyPost_ret (v:=.agg #[.slice Av1 mv1 cv1]) (by simp[results,Tryz.results127,go_sem]) rfl ?_
    exact⟨_,rfl,by rw[←G1.out];exact OwnR.base (base:=(w.heap.size+1+1+1+1)) (OwnR.swap HoB ta ta) tB,exI⟩
theorem rinsert_own(A:Option Addr)(c n:Nat)(l:List Rec)(r:Rec)(hn:l.length=n)(hbig:n≤100000)(w:World)(hr:Recs w A l):
 Calls Tryz.prog 127 #[regV A n c,recV r] w fun e w'=> ∃A' n' c',e= .returned (regV A' n' c')∧Hid (n'=(insG l r).length)∧OwnR w.heap.size w' (.slice A' n' c') (insG l r)∧Ext w w':=by
 refine(rinsert_any A c n l r hn hbig w hr).mono ?_
 rintro e w' ⟨v,rfl,ho,hx⟩
 obtain⟨A',c',rfl,_,_⟩:=ho.slice
 exact⟨_,_,_,rfl,hid rfl,ho,hx⟩
end Go.Proofs.YtekjdeibnfaehaaGreat
namespace Go.Proofs.YtekjdeibnfaehaaGreat
open Go.RowKit
set_option maxRecDepth 100000 in
set_option maxHeartbeats 2000000 in
theorem copied_any(A:Option Addr)(c n:Nat)(l:List Rec)(hn:l.length=n)(hbig:n≤1000000)(w:World)(hr:Recs w A l):
 Calls Tryz.prog 79 #[regV A n c] w fun e w'=> ∃A' n' c',e= .returned (regV A' n' c')∧Hid (n'=l.length)∧OwnR w.heap.size w' (.slice A' n' c') l∧Ext w w':=by
 go_enter Tryz.func79,Tryz.ntmps79
 go_wp2_with (go_at_call 90;refine(Clone_own _ _ _ _ tZ tB _ (recI ‹_›)).mono ?_;rintro e w1 ⟨Ac1,nc1,cc1,rfl,hnc1,hvc1,E1,d1,rfl⟩)
 refine bodyPost_ret (v:=regV Ac1 nc1 cc1) (by simp[results,Tryz.results79,go_sem]) rfl ?_
 have HH:=hvc1
 simp only[World.size_alloc] at HH
 exact⟨_,_,_,rfl,hnc1,OwnR.base (base:=w.heap.size+1+1) (OwnR.swap HH ta ta) tB,exI⟩
set_option maxRecDepth 100000 in
set_option maxHeartbeats 2000000 in
theorem rcopied_any(A:Option Addr)(c n:Nat)(l:List Rec)(hn:l.length=n)(hbig:n≤1000000)(w:World)(hr:Recs w A l):
 Calls Tryz.prog 131 #[regV A n c] w fun e w'=> ∃A' n' c',e= .returned (regV A' n' c')∧Hid (n'=l.length)∧OwnR w.heap.size w' (.slice A' n' c') l∧Ext w w':=by
 subst hn
 go_enter Tryz.func131,Tryz.ntmps131
 go_wp2_with (at_builtin;refine wpList_arec rfl ((w.alloc (.cells #[.slice A l.length c] 34)).alloc (.cells #[.slice none 0 0] 34)) (w.heap.size+1+1) ta rfl _ _ rfl (l:=[]) l rfl tc (OwnR.empty _ _ _ ta (Nat.le_refl _)) rfl rfl (show Recs _ A l from(recI ‹_›)) tA (fun v1 E1 d1 ho1=> ?_);obtain⟨Av1,mv1,cv1,rfl,hmv1,hcv1,hsv1⟩:=ho1.open;have Ho1:=hid ho1;have Hm1:=hid hmv1;clear ho1 hcv1 hsv1 hmv1)
 refine bodyPost_ret (v:=regV Av1 mv1 cv1) (by simp[results,Tryz.results131,go_sem]) rfl ?_
 have HH:=Ho1.out
 exact⟨_,_,_,rfl,hid (by simpa using Hm1.out),OwnR.base (base:=w.heap.size+1+1) (OwnR.swap HH ta ta) tB,exI⟩
end Go.Proofs.YtekjdeibnfaehaaGreat
