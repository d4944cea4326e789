/- Texts of a proof. -/
import Derived.Test.YtekjdeibnfaehaaGreatKDar
import Derived.Test.YtekjdeibnfaehaaGreatKDas
import Derived.Test.YtekjdeibnfaehaaGreatKDag
set_option linter.unusedSimpArgs false
set_option linter.unusedVariables false
namespace Go.Proofs.YtekjdeibnfaehaaGreat
open Go Go.RowKit
structure MsgD where
 fr:Int
 to:Int
 ack:Bool
 r:Rec
def noOff:OffD:=⟨0,noDrive,noMem,fun _=>[]⟩
def newOE(me:Int):Int:=if inB me 0 8=true then 0 else 1
def newO(me:Int):OffD:=if inB me 0 8=true then⟨me,newDrive,newMem,fun _=>[]⟩ else noOff
def apdO(O:OffD)(r:Rec):OffD:=⟨O.me,appD O.d O.m r,appM O.d O.m r,O.kn⟩
def firmO(O:OffD):OffD:=⟨O.me,firmD O.d,O.m,O.kn⟩
def atR(o s:Int)(r:Rec):Rec:=⟨o,s,r.kind,r.ship,r.day,r.known,r.wo,r.ws,r.to,r.til,r.text⟩
def ownR(O:OffD)(r:Rec):Rec:=atR O.me (nextI O.m.recs O.me) r
def noteE(O:OffD)(r:Rec):Int:=if offOk O=true then if r.kind=1 then 75 else appE O.d O.m (ownR O r) else 76
def noteO(O:OffD)(r:Rec):OffD:=if noteE O r=0 then apdO O (ownR O r) else noOff
def noteR(O:OffD)(r:Rec):Rec:=if noteE O r=0 then ownR O r else zeroR
def leaseR(O:OffD)(ship to day til:Int):Rec:=⟨O.me,nextI O.m.recs O.me,1,ship,day,day,0,0,to,til,noText⟩
def leaseOn(r x:Rec):Bool:=decide (x.kind=1)&&(decide (x.ship=r.ship)&&(decide (x.day≤r.til)&&decide (r.day≤x.til)))
def leasable(O:OffD)(r:Rec):Bool:=decide (homeI r.ship=O.me)&&(recOk r&& !O.m.recs.any (leaseOn r))
def grantE(O:OffD)(ship to day til:Int):Int:=
 if offOk O=true then if inB ship 1 999=true∧inB to 0 8=true then if inB day 0 100000=true∧inB til 0 100000=true then
  if leasable O (leaseR O ship to day til)=true then appE O.d O.m (leaseR O ship to day til) else 75 else 6 else 1 else 76
def grantO(O:OffD)(ship to day til:Int):OffD:=if grantE O ship to day til=0 then firmO (apdO O (leaseR O ship to day til)) else noOff
def grantR(O:OffD)(ship to day til:Int):Rec:=if grantE O ship to day til=0 then leaseR O ship to day til else zeroR
def knowsB(l:List Plc)(o s:Int):Bool:=l.any fun p=>decide (p.o=o)&&decide (p.s=s)
def posP(l:List Plc)(o s:Int):Nat:=l.countP fun p=>ltP p.o p.s o s
def learnL(l:List Plc)(o s:Int):List Plc:=if knowsB l o s=true then l else l.take (posP l o s)++⟨o,s⟩::l.drop (posP l o s)
def offerE(O:OffD)(to:Int):Int:=if offOk O=true then if inB to 0 8=true∧to≠O.me then 0 else 1 else 76
def offerO(O:OffD)(to:Int):OffD:=if offerE O to=0 then firmO O else noOff
def offerL(O:OffD)(to:Int):List MsgD:=if offerE O to=0 then(O.m.recs.filter fun r=> !knowsB (O.kn to.toNat) r.ao r.sq).map fun r=>⟨O.me,to,false,r⟩ else[]
def learnO(O:OffD)(m:MsgD):OffD:=⟨O.me,O.d,O.m,upd O.kn m.fr.toNat (learnL (O.kn m.fr.toNat) m.r.ao m.r.sq)⟩
def recvE(O:OffD)(m:MsgD):Int:=
 if offOk O=true then if m.to=O.me∧inB m.fr 0 8=true∧m.fr≠O.me then if m.ack=true then if hasR O.m.recs m.r.ao m.r.sq=true then 0 else 3 else appE O.d O.m m.r else 1 else 76
def recvO(O:OffD)(m:MsgD):OffD:=if recvE O m=0 then if m.ack=true then learnO O m else learnO (firmO (apdO O m.r)) m else noOff
def recvL(O:OffD)(m:MsgD):List MsgD:=if recvE O m=0∧m.ack=false then[⟨O.me,m.fr,true,m.r⟩] else[]
def restE(O:OffD)(n m:Int):Int:=if offOk O=true then openE (crashD O.d n m) else 76
def restO(O:OffD)(n m:Int):OffD:=if restE O n m=0 then⟨O.me,openD (crashD O.d n m),openM (crashD O.d n m),fun _=>[]⟩ else noOff
def ahP(a b:Plc):Bool:=ltP a.o a.s b.o b.s
def SortedP(l:List Plc):Prop:=l.Pairwise fun a b=>ahP a b=true
theorem sortedP_of:∀ {l:List Plc},(∀i,i+1<l.length→ahP (pAt l i) (pAt l (i+1))=true)→SortedP l
 | [],_=>List.Pairwise.nil
 | [a],_=>List.pairwise_singleton _ _
 | a::b::l,h=>by
  have ih:SortedP (b::l):=sortedP_of fun i hi=>by
   have:=h (i+1) (by simpa using hi)
   simpa [pAt] using this
  refine List.pairwise_cons.2 ⟨fun x hx=> ?_,ih⟩
  have h0:ahP a b=true:=by have:=h 0 tE;simpa [pAt] using this
  rcases List.mem_cons.1 hx with rfl|hx
  ·exact h0
  ·exact ltP_trans h0 (List.rel_of_pairwise_cons ih hx)
theorem pAt_of{l:List Plc}{i:Nat}(h:i<l.length):pAt l i=l[i]:=by simp[pAt,h]
theorem knB_iff{l:List Plc}:knB l=true↔(∀x∈l,isPlaceB x.o x.s=true)∧SortedP l:=by
 simp only[knB,List.all_eq_true,List.mem_range,plOk,Bool.and_eq_true,Bool.or_eq_true,decide_eq_true_eq]
 constructor
 ·intro h
  refine⟨fun x hx=> ?_,sortedP_of fun i hi=> ?_⟩
  ·obtain⟨i,hi,rfl⟩:=List.getElem_of_mem hx
   have:=(h i hi).1
   rwa [pAt_of hi] at this
  ·have:=(h (i+1) hi).2
   rcases this with h0|h0
   ·omega
   ·exact cmpP_neg.1 (by simpa using h0)
 ·rintro⟨h1,h2⟩ i hi
  refine⟨by rw[pAt_of hi];exact h1 _ (List.getElem_mem hi),?_⟩
  rcases Nat.eq_zero_or_pos i with h0|h0
  ·exact .inl h0
  ·refine .inr (cmpP_neg.2 ?_)
   rw[pAt_of hi,pAt_of (show i-1<l.length by omega)]
   exact List.pairwise_iff_getElem.1 h2 (i-1) i tB hi tB
theorem knB_nil:knB []=true:=rfl
theorem knowsB_iff{l:List Plc}{o s:Int}:knowsB l o s=true↔⟨o,s⟩∈l:=by
 simp only[knowsB,List.any_eq_true,Bool.and_eq_true,decide_eq_true_eq]
 constructor
 ·rintro⟨⟨a,b⟩,h,rfl,rfl⟩
  exact h
 ·intro h
  exact⟨_,h,rfl,rfl⟩
theorem learnL_mem{l:List Plc}{o s:Int}{x:Plc}:x∈learnL l o s↔x∈l∨x=⟨o,s⟩:=by
 unfold learnL
 split
 ·rename_i h
  have:=knowsB_iff.1 h
  constructor
  ·exact .inl
  ·rintro(h|rfl)
   ·exact h
   ·exact this
 ·have:x∈l↔x∈l.take (posP l o s)∨x∈l.drop (posP l o s):=by rw[←List.mem_append,List.take_append_drop]
  rw[List.mem_append,List.mem_cons,this]
  constructor
  ·rintro(h|h|h)
   ·exact .inl (.inl h)
   ·exact .inr h
   ·exact .inl (.inr h)
  ·rintro((h|h)|h)
   ·exact .inl h
   ·exact .inr (.inr h)
   ·exact .inr (.inl h)
theorem posP_cons(a:Plc)(l:List Plc)(o s:Int):posP (a::l) o s=posP l o s+if ltP a.o a.s o s=true then 1 else 0:=by
 unfold posP
 rw[List.countP_cons]
theorem posP_zero{l:List Plc}{o s:Int}(h:∀ x∈l,ltP o s x.o x.s=true):posP l o s=0:=
 List.countP_eq_zero.2 fun x hx=>by rw[ltP_asymm (h x hx)];exact Bool.false_ne_true
theorem ins_sortedP:∀ {l:List Plc}{o s:Int},SortedP l→knowsB l o s=false→SortedP (l.take (posP l o s)++⟨o,s⟩::l.drop (posP l o s))
 | [],_,_,_,_=>List.pairwise_singleton _ _
 | a::l,o,s,h,hk=>by
  obtain⟨h1,h2⟩:=List.pairwise_cons.1 h
  have hk':knowsB l o s=false:=by
   simp only[knowsB,List.any_cons,Bool.or_eq_false_iff] at hk
   exact hk.2
  by_cases hl:ltP a.o a.s o s=true
  ·rw[posP_cons,if_pos hl,List.take_succ_cons,List.drop_succ_cons,List.cons_append]
   refine List.pairwise_cons.2 ⟨fun x hx=> ?_,ins_sortedP h2 hk'⟩
   rw[List.mem_append,List.mem_cons] at hx
   rcases hx with hx|rfl|hx
   ·exact h1 x (List.mem_of_mem_take hx)
   ·exact hl
   ·exact h1 x (List.mem_of_mem_drop hx)
  ·have hlt:ltP o s a.o a.s=true:=by
    cases hq:ltP o s a.o a.s with
    | true=>rfl
    | false=>
     obtain⟨e1,e2⟩:=ltP_total (by simpa using hl) hq
     have:knowsB (a::l) o s=true:=knowsB_iff.2 (by obtain⟨x,y⟩:=a;simp only at e1 e2;rw[e1,e2];exact List.mem_cons_self)
     rw[this] at hk;cases hk
   have hz:posP (a::l) o s=0:=posP_zero fun x hx=>by
    rcases List.mem_cons.1 hx with rfl|hx
    ·exact hlt
    ·exact ltP_trans hlt (h1 x hx)
   rw[hz,List.take_zero,List.nil_append,List.drop_zero]
   refine List.pairwise_cons.2 ⟨fun x hx=> ?_,h⟩
   rcases List.mem_cons.1 hx with rfl|hx
   ·exact hlt
   ·exact ltP_trans hlt (h1 x hx)
theorem learnL_ok{l:List Plc}{o s:Int}(h:knB l=true)(hp:isPlaceB o s=true):knB (learnL l o s)=true:=by
 obtain⟨h1,h2⟩:=knB_iff.1 h
 refine knB_iff.2 ⟨fun x hx=> ?_,?_⟩
 ·rcases learnL_mem.1 hx with hx|rfl
  ·exact h1 x hx
  ·exact hp
 ·unfold learnL
  split
  ·exact h2
  ·rename_i hk
   exact ins_sortedP h2 (by simpa using hk)
end Go.Proofs.YtekjdeibnfaehaaGreat
set_option linter.unusedSimpArgs false
set_option linter.unusedVariables false
namespace Go.Proofs.YtekjdeibnfaehaaGreat
open Go Go.RowKit
def toR(p:Plc):Rec:=⟨p.o,p.s,0,0,0,0,0,0,0,0,noText⟩
theorem posP_R(l:List Plc)(o s:Int):posR (l.map toR) o s=posP l o s:=by
 unfold posR posP
 rw[List.countP_map]
 rfl
theorem knowsB_R(l:List Plc)(o s:Int):hasR (l.map toR) o s=knowsB l o s:=by
 unfold hasR knowsB
 rw[List.any_map]
 rfl
theorem sortedP_R{l:List Plc}(h:SortedP l):Sorted (l.map toR):=List.pairwise_map.2 h
set_option maxRecDepth 100000 in
set_option maxHeartbeats 4000000 in
theorem SearchP_any(A:Option Addr)(c n:Nat)(l:List Plc)(o s:Int)(hn:l.length=n)(hbig:n≤1000000)(hs0:SortedP l)(w:World)(hr:Sl 2 w A n (l.flatMap encP)):
 Calls Tryz.prog 149 #[.slice A n c,.agg #[.int .i64 o,.int .i64 s],.func (.func 122) #[] #[]] w
  fun e w'=>e= .returned (.tuple #[.int .i64 (posP l o s),.bool (knowsB l o s)])∧Ext w w':=by
 have hs:=sortedP_R hs0
 have hl:(l.map toR).length=n:=by rw[List.length_map];exact hn
 have Hs:=hid hs
 clear hs hs0
 go_enter Tryz.func149,Tryz.ntmps149
 go_wp2_with fail
 go_loopw [9,10] (fun i j wr=> ∃a b:Nat,a≤b∧b≤n∧i= .int .i64 a∧j= .int .i64 b∧Ext (w.alloc (.cells #[.int .i64 o,.int .i64 s] 44)) wr∧Parts (l.map toR) o s a b) (fun i j _=>(intOf j).toNat-(intOf i).toNat)
 case atStart=>exact⟨0,n,Nat.zero_le _,Nat.le_refl _,rfl,rfl,Ext.refl _,⟨fun t _ h=>absurd h (Nat.not_lt_zero _),fun t h1 h2=>by omega⟩⟩
 case round=>
  obtain⟨a,b,hab,hb,rfl,rfl,⟨E0,d0,rfl⟩,hp⟩:=hrel
  by_cases hlt:a<b
  ·have hm:(a+b) / 2<l.length:=by omega
   have hm':(a+b) / 2<(l.map toR).length:=by omega
   obtain⟨g,of,rfl,hg,hrow⟩:=plcs_row hr hn tB
   obtain⟨x0,x1⟩:=hrow ((a+b) / 2) tB
   obtain⟨p,hpk⟩:∃ p,pAt l ((a+b) / 2)=p:=⟨_,rfl⟩
   have Hrk:Hid ((l.map toR)[(a+b) / 2]=toR p):=hid (by rw[List.getElem_map,←hpk,pAt_of hm])
   rw[hpk] at x0 x1
   clear hpk hrow
   have hi1:((a:Int)+(b:Int)) / 2<(n:Int):=by omega
   have hi0:(0:Int)≤((a:Int)+(b:Int)) / 2:=by omega
   have hi4:(((a:Int)+(b:Int)) / 2).toNat=(a+b) / 2:=by omega
   by_cases hc:cmpP p.o p.s o s<0
   ·have hp':Parts (l.map toR) o s ((a+b) / 2+1) b:=by
     have hc':=hc
     rw[cmpP_neg] at hc'
     refine⟨fun t h1 h2=> ?_,hp.hi⟩
     have:=sorted_mono Hs.out (i:=t) (j:=(a+b) / 2) tB hm' (o:=o) (s:=s) (by rw[Hrk.out];exact hc')
     exact this
    have Hp:=hid hp'
    clear hp hp'
    go_wp2_with fail
    refine wp_region_ord_same (.f 0 (.f 1 (.f 2 (.f 3 (.f 4 (.f 5 (.a 6 (.f 7 .d)))))))) tG tG ?_
    refine oR ?_
    refine wpOrd_act rfl rfl (fun K hK=> ?_)
    go_simp
    refine(compare_any _ _ _ _ _).mono ?_
    rintro e w1 ⟨rfl,E,d,rfl⟩
    refine hK _ _ ⟨?_,?_⟩
    ·exact keepI
    clear hK K
    try simp only[Act.put,zp]
    refine oR ?_
    refine wpOrd_nil ?_
    go_wp2_with fail
    exact⟨⟨(a+b) / 2+1,b,by omega,by omega,congrArg (Value.int .i64) tB,rfl,exI,Hp.out⟩,by simp[intOf];omega⟩
   ·have hp':Parts (l.map toR) o s a ((a+b) / 2):=by
     refine⟨hp.lo,fun t h1 h2=> ?_⟩
     rw[←Bool.not_eq_true]
     intro h3
     have:=sorted_mono Hs.out (i:=(a+b) / 2) (j:=t) h2 h1 (o:=o) (s:=s) h3
     rw[Hrk.out,←cmpP_neg] at this
     exact hc this
    have Hp:=hid hp'
    clear hp hp'
    go_wp2_with fail
    refine wp_region_ord_same (.f 0 (.f 1 (.f 2 (.f 3 (.f 4 (.f 5 (.a 6 (.f 7 .d)))))))) tG tG ?_
    refine oR ?_
    refine wpOrd_act rfl rfl (fun K hK=> ?_)
    go_simp
    refine(compare_any _ _ _ _ _).mono ?_
    rintro e w1 ⟨rfl,E,d,rfl⟩
    refine hK _ _ ⟨?_,?_⟩
    ·exact keepI
    clear hK K
    try simp only[Act.put,zp]
    refine oR ?_
    refine wpOrd_nil ?_
    go_wp2_with fail
    exact⟨⟨a,(a+b) / 2,by omega,by omega,rfl,congrArg (Value.int .i64) tB,exI,Hp.out⟩,by simp[intOf];omega⟩
  ·obtain rfl:a=b:=by omega
   have hpos:posR (l.map toR) o s=a:=posR_eq a tB hp.lo hp.hi
   by_cases han:a<n
   ·have hm:a<l.length:=by omega
    have hm':a<(l.map toR).length:=by omega
    obtain⟨g,of,rfl,hg,hrow⟩:=plcs_row hr hn tB
    obtain⟨x0,x1⟩:=hrow a tB
    obtain⟨p,hpk⟩:∃ p,pAt l a=p:=⟨_,rfl⟩
    have hrk:(l.map toR)[a]=toR p:=by rw[List.getElem_map,←hpk,pAt_of hm]
    rw[hpk] at x0 x1
    have hhas:hasR (l.map toR) o s=atB (toR p) o s:=by
     rw[←hrk,Bool.eq_iff_iff,hasR_pos Hs.out,hpos]
     exact⟨fun⟨_,h⟩=>h,fun h=>⟨hm',h⟩⟩
    have hz:(cmpP p.o p.s o s==0)=atB (toR p) o s:=by
     rw[Bool.eq_iff_iff,beq_iff_eq,cmpP_zero,atB,Bool.and_eq_true]
     exact⟨fun h=>⟨decide_eq_true h.1,decide_eq_true h.2⟩,fun h=>⟨of_decide_eq_true h.1,of_decide_eq_true h.2⟩⟩
    have Hpos:=hid (posP_R l o s▸hpos)
    have Hhas:=hid (knowsB_R l o s▸hhas)
    clear hp hpos hhas hrk hpk hrow
    go_wp2_with fail
    refine wp_region_ord_same (.f 0 (.f 1 (.f 2 (.f 3 (.f 4 (.f 5 (.f 6 (.f 7 (.f 8 (.f 9 (.f 10 (.a 11 (.f 12 (.f 13 (.f 14 (.f 15 .d)))))))))))))))) tG tG ?_
    refine oR ?_
    refine ord_bool (j:=4) rfl (fun hb4=> ?_) (fun hb4=> ?_)
    rotate_left
    focus
     try(exfalso;first|(simp at hb4;done)|(simp at hb4;omega))
     all_goals
      (try simp only[hb4])
      refine oR ?_
      refine wpOrd_actPass rfl rfl ?_ ?_
      ·exact keepI
      simp only[Act.put,zp]
      refine oR ?_
      refine wpOrd_nil ?_
    rotate_right
    focus
     try(exfalso;first|(simp at hb4;done)|(simp at hb4;omega))
     all_goals
      (try simp only[hb4])
      refine oR ?_
      refine wpOrd_act rfl rfl (fun K hK=> ?_)
      go_simp
      refine(compare_any _ _ _ _ _).mono ?_
      rintro e w1 ⟨rfl,E,d,rfl⟩
      refine hK _ _ ⟨?_,?_⟩
      ·exact keepI
      clear hK K
      try simp only[Act.put,zp]
      refine oR ?_
      refine wpOrd_nil ?_
    go_wp2_with fail
    go_ret2
    exact⟨ret_val tY,exI⟩
   ·have hhas:hasR (l.map toR) o s=false:=by
     rw[←Bool.not_eq_true,hasR_pos Hs.out,hpos]
     rintro⟨h,_⟩
     omega
    have Hpos:=hid (posP_R l o s▸hpos)
    have Hhas:=hid (knowsB_R l o s▸hhas)
    clear hp hpos hhas
    go_wp2_with fail
    refine wp_region_ord_same (.f 0 (.f 1 (.f 2 (.f 3 (.f 4 (.f 5 (.f 6 (.f 7 (.f 8 (.f 9 (.f 10 (.a 11 (.f 12 (.f 13 (.f 14 (.f 15 .d)))))))))))))))) tG tG ?_
    refine oR ?_
    refine ord_bool (j:=4) rfl (fun hb4=> ?_) (fun hb4=> ?_)
    rotate_left
    focus
     try(exfalso;first|(simp at hb4;done)|(simp at hb4;omega))
     all_goals
      (try simp only[hb4])
      refine oR ?_
      refine wpOrd_actPass rfl rfl ?_ ?_
      ·exact keepI
      simp only[Act.put,zp]
      refine oR ?_
      refine wpOrd_nil ?_
    rotate_right
    focus
     try(exfalso;first|(simp at hb4;done)|(simp at hb4;omega))
     all_goals
      (try simp only[hb4])
      refine oR ?_
      refine wpOrd_act rfl rfl (fun K hK=> ?_)
      go_simp
      refine(compare_any _ _ _ _ _).mono ?_
      rintro e w1 ⟨rfl,E,d,rfl⟩
      refine hK _ _ ⟨?_,?_⟩
      ·exact keepI
      clear hK K
      try simp only[Act.put,zp]
      refine oR ?_
      refine wpOrd_nil ?_
    go_wp2_with fail
    go_ret2
    exact⟨ret_val tY,exI⟩
set_option maxHeartbeats 1000000 in
theorem knows_any(A:Option Addr)(c n:Nat)(l:List Plc)(o s:Int)(hn:l.length=n)(hbig:n≤1000000)(hs:SortedP l)(w:World)(hr:Sl 2 w A n (l.flatMap encP)):
 Calls Tryz.prog 111 #[.slice A n c,.agg #[.int .i64 o,.int .i64 s]] w fun e w'=>e= .returned (.tuple #[.int .i64 (posP l o s),.bool (knowsB l o s)])∧Ext w w':=by
 go_enter Tryz.func111,Tryz.ntmps111
 go_wp2_with fail
 refine(SearchP_any A c n l o s hn hbig hs _ (hr.of_ext exI)).mono ?_
 rintro e w1 ⟨rfl,E1,d1,rfl⟩
 go_wp2_with fail
 go_ret2
 exact⟨rfl,exI⟩
end Go.Proofs.YtekjdeibnfaehaaGreat
set_option linter.unusedSimpArgs false
set_option linter.unusedVariables false
namespace Go.Proofs.YtekjdeibnfaehaaGreat
open Go Go.RowKit
theorem knowsB_hit{l:List Plc}{o s:Int}{k:Nat}(hk:k<l.length)(h1:(pAt l k).o=o)(h2:(pAt l k).s=s):knowsB l o s=true:=by
 rw[pAt_of hk] at h1 h2
 exact List.any_eq_true.2 ⟨l[k],List.getElem_mem hk,by simp[h1,h2]⟩
theorem knowsB_miss{l:List Plc}{o s:Int}(h:∀ t,t<l.length→¬ ((pAt l t).o=o∧(pAt l t).s=s)):knowsB l o s=false:=by
 rw[knowsB,List.any_eq_false]
 intro x hx
 obtain⟨t,ht,rfl⟩:=List.getElem_of_mem hx
 have:=h t ht
 rw[pAt_of ht] at this
 simpa using this
set_option maxRecDepth 100000 in
set_option maxHeartbeats 4000000 in
theorem rknows_any(A:Option Addr)(n c:Nat)(l:List Plc)(o s:Int)(hn:l.length=n)(hbig:n≤9223372036854775807)(w:World)(hr:Sl 2 w A n (l.flatMap encP)):
 Calls Tryz.prog 112 #[.slice A n c,.agg #[.int .i64 o,.int .i64 s]] w fun e w'=>e= .returned (.bool (knowsB l o s))∧Ext w w':=by
 go_enter Tryz.func112,Tryz.ntmps112
 go_wp2_with fail
 go_loopw [5] (fun i wr=> ∃k:Nat,k≤n∧i= .int .i64 k∧Ext (w.alloc (.cells #[.int .i64 o,.int .i64 s] 44)) wr∧Hid (∀t,t<k→¬ ((pAt l t).o=o∧(pAt l t).s=s))) (fun i _=>n-(intOf i).toNat)
 case atStart=>exact⟨0,Nat.zero_le _,rfl,Ext.refl _,hid fun t h=>absurd h (Nat.not_lt_zero _)⟩
 case round=>
  obtain⟨k,hk,rfl,⟨E0,d0,rfl⟩,hno⟩:=hrel
  by_cases hlt:k<n
  ·obtain⟨g,of,rfl,hg,hrow⟩:=plcs_row hr hn tB
   obtain⟨x0,x1⟩:=hrow k hlt
   obtain⟨p,hp⟩:∃ p,pAt l k=p:=⟨_,rfl⟩
   rw[hp] at x0 x1
   have Hp:=hid hp
   clear hp hrow hr
   cases hat:plcEqB p.o p.s o s with
   | true=>
    have Hf:Hid (knowsB l o s=true):=hid (by
     simp only[plcEqB,Bool.and_eq_true,decide_eq_true_eq] at hat
     exact knowsB_hit (k:=k) tB (by rw[Hp.out];exact hat.1) (by rw[Hp.out];exact hat.2))
    go_wp2_with fail
    refine wp_region_ord_same (.f 0 (.f 1 (.f 2 (.f 3 (.f 4 (.f 5 .d)))))) tG tG ?_
    refine oR ?_
    refine wpOrd_nil ?_
    go_wp2_with fail
    go_ret
    exact⟨ret_val t7,exI⟩
   | false=>
    have Hm:Hid (¬(p.o=o∧p.s=s)):=hid (by
     intro h
     rw[plcEqB,h.1,h.2] at hat
     simp at hat)
    go_wp2_with fail
    refine wp_region_ord_same (.f 0 (.f 1 (.f 2 (.f 3 (.f 4 (.f 5 .d)))))) tG tG ?_
    refine oR ?_
    refine wpOrd_nil ?_
    go_wp2_with fail
    refine⟨⟨k+1,by omega,by go_num,exI,hid fun t ht=> ?_⟩,by simp[intOf];omega⟩
    by_cases hc:t=k
    ·subst hc;rw[Hp.out];exact Hm.out
    ·exact hno.out t tB
  ·obtain rfl:k=n:=by omega
   have hT:Hid (knowsB l o s=false):=hid (knowsB_miss fun t ht=>hno.out t tB)
   clear hr
   go_wp2_with fail
   go_ret
   exact⟨ret_val (by rw[hT.out];rfl),exI⟩
end Go.Proofs.YtekjdeibnfaehaaGreat
set_option linter.unusedSimpArgs false
set_option linter.unusedVariables false
namespace Go.Proofs.YtekjdeibnfaehaaGreat
open Go Go.RowKit
theorem wpList_abytL{P:Program}(hP:P=Tryz.prog){ops:Array Oper}{rest:List Oper}{o:Oper}{a:Act}{Q:Exit→Act→World→Prop}{W:World}(X:World)(N:Nat)(hN:N=X.heap.size)(hgd:o.guard=none)(s x:Operand)
 (ho:o.op= .call {callee:=.builtin .append,args:=#[s,x],argTypes:=#[22,22]}) {v:Value} {l:List UInt8} (news:List UInt8) (hs:a.eval s=v) (hx:Ext X W) (hown:OwnB N W v l)
 {A:Option Addr} {m c:Nat} (hv:a.eval x= .slice A m c) (hm:m=news.length) (hr:Byt W A news) (hlen:l.length+news.length≤140737488355328)
 (h:∀ v' E d,OwnB N (X.ext E d) v' (l++news)→wpList P ops Q rest (a.put o.dst v') (X.ext E d)):wpList P ops Q (o::rest) a W:=by
 subst hP hm hN
 obtain⟨i0,hi,hz0,hz1,hz2⟩:=info_parts info_u8
 refine wpList_append (w:=X) hgd s x 22 ho 5 i0 _ 1 1 Tryz.underlying22 hi hz0 hz1 hz2 rfl tN hs hx hown hv hr (encB_one _) tO tB fun v' E d h2=>h v' E d ?_
 unfold OwnB
 rw[List.length_append,List.map_append]
 exact h2
theorem OwnB.empty(w:World)(base g:Nat)(hg:g=w.heap.size)(hb:base≤g):OwnB base (w.alloc (.cells #[] 5)) (.slice (some ⟨g,0,Option.none⟩) 0 0) []:=by
 subst hg
 exact ownsRow_empty w base _ _ hb
set_option maxRecDepth 100000 in
set_option maxHeartbeats 2000000 in
theorem risDrive_any(A0:Option Addr)(n0 c0:Nat)(f0:Int)(A1:Option Addr)(n1 c1:Nat)(f1:Int)(w:World):
 Calls Tryz.prog 59 #[drvV A0 n0 c0 f0 A1 n1 c1 f1] w fun e w'=>e= .returned (.bool (dOk n0 f0 n1 f1))∧Ext w w':=by
 by_cases h1:n0≤100000
 ·cases h0:inB f0 0 n0 with
  | false=>
   have HR:Hid (dOk n0 f0 n1 f1=false):=hid (by simp[dOk,fOk,h0])
   go_enter Tryz.func59,Tryz.ntmps59
   go_wp2_with fail
   refine wp_loop_rounds 3 ?_
   rw[rounds_succ]
   go_wp2_with (go_at_call 92;refine(rin_any _ _ _ _).mono ?_;rintro e w1 ⟨rfl,rfl⟩)
   go_ret
   exact⟨ret_val tz,tR⟩
  | true=>
   by_cases h3:n1≤100000
   ·cases h2:inB f1 0 n1 with
    | false=>
     have HR:Hid (dOk n0 f0 n1 f1=false):=hid (by simp[dOk,fOk,h2])
     go_enter Tryz.func59,Tryz.ntmps59
     go_wp2_with fail
     refine wp_loop_rounds 3 ?_
     rw[rounds_succ]
     go_wp2_with (go_at_call 92;refine(rin_any _ _ _ _).mono ?_;rintro e w1 ⟨rfl,rfl⟩)
     rw[rounds_succ]
     go_wp2_with (go_at_call 92;refine(rin_any _ _ _ _).mono ?_;rintro e w1 ⟨rfl,rfl⟩)
     go_ret
     exact⟨ret_val tz,tR⟩
    | true=>
     have HR:Hid (dOk n0 f0 n1 f1=true):=hid (by simp[dOk,fOk,h0,h1,h2,h3])
     go_enter Tryz.func59,Tryz.ntmps59
     go_wp2_with fail
     refine wp_loop_rounds 3 ?_
     rw[rounds_succ]
     go_wp2_with (go_at_call 92;refine(rin_any _ _ _ _).mono ?_;rintro e w1 ⟨rfl,rfl⟩)
     rw[rounds_succ]
     go_wp2_with (go_at_call 92;refine(rin_any _ _ _ _).mono ?_;rintro e w1 ⟨rfl,rfl⟩)
     rw[rounds_succ]
     go_wp2_with (go_at_call 92;refine(rin_any _ _ _ _).mono ?_;rintro e w1 ⟨rfl,rfl⟩)
     go_ret
     exact⟨ret_val tz,tR⟩
   ·have HR:Hid (dOk n0 f0 n1 f1=false):=hid (by simp[dOk,fOk,h3])
    go_enter Tryz.func59,Tryz.ntmps59
    go_wp2_with fail
    refine wp_loop_rounds 3 ?_
    rw[rounds_succ]
    go_wp2_with (go_at_call 92;refine(rin_any _ _ _ _).mono ?_;rintro e w1 ⟨rfl,rfl⟩)
    rw[rounds_succ]
    go_wp2_with (go_at_call 92;refine(rin_any _ _ _ _).mono ?_;rintro e w1 ⟨rfl,rfl⟩)
    go_ret
    exact⟨ret_val tz,tR⟩
 ·have HR:Hid (dOk n0 f0 n1 f1=false):=hid (by simp[dOk,fOk,h1])
  go_enter Tryz.func59,Tryz.ntmps59
  go_wp2_with fail
  refine wp_loop_rounds 3 ?_
  rw[rounds_succ]
  go_wp2_with (go_at_call 92;refine(rin_any _ _ _ _).mono ?_;rintro e w1 ⟨rfl,rfl⟩)
  go_ret
  exact⟨ret_val tz,tR⟩
set_option maxRecDepth 100000 in
set_option maxHeartbeats 2000000 in
theorem cut_any(A:Option Addr)(n c:Nat)(f:Int)(l:List UInt8)(k:Nat)(hl:l.length=n)(hk:k≤n)(hc:n≤c)(hbig:n≤140737488355328)(w:World)(hb:Byt w A l):
 Calls Tryz.prog 61 #[filV A n c f,.int .i64 k] w fun e w'=> ∃A' c',e= .returned (filV A' k c' k)∧OwnB w.heap.size w' (.slice A' k c') (l.take k)∧Ext w w':=by
 have hb2:=hb.take k tB
 have ht:(l.take k).length=k:=by rw[List.length_take];omega
 have Ht:=hid ht
 clear ht
 go_enter Tryz.func61,Tryz.ntmps61
 go_wp2_with (at_builtin;refine wpList_abytL rfl ((w.alloc (.cells #[.slice A n c,.int .i64 f] 24)).alloc (.cells #[.slice none 0 0,.int .i64 0] 24)) (w.heap.size+1+1) ta rfl _ _ rfl (l:=[]) (l.take k) rfl tc (OwnB.empty _ _ _ ta (Nat.le_refl _)) rfl Ht.out.symm (show Byt _ A (l.take k) from(bytI ‹_›)) (by rw[Ht.out];simp;omega) (fun v1 E1 d1 ho1=> ?_);obtain⟨Av1,cv1,rfl,hcv1,hsv1⟩:=ownsRow_slice ho1;have Ho1:=hid ho1;clear ho1 hcv1 hsv1)
 refine bodyPost_ret (v:=filV Av1 k cv1 k) (by simp[results,Tryz.results61,go_sem]) rfl ?_
 refine⟨_,_,rfl,?_,exI⟩
 have h:=Ho1.out
 rw[List.nil_append] at h
 rw[Ht.out] at h
 exact OwnB.moved2 h tR ta ta tB
set_option maxRecDepth 100000 in
set_option maxHeartbeats 4000000 in
theorem sameDrive_any(A0:Option Addr)(n0 c0:Nat)(f0:Int)(A1:Option Addr)(n1 c1:Nat)(f1:Int)(l0 l1:List UInt8)(hl0:l0.length=n0)(hl1:l1.length=n1)(hbig0:n0≤140737488355328)(hbig1:n1≤140737488355328)(w:World)(hb0:Byt w A0 l0)(hb1:Byt w A1 l1):
 Calls Tryz.prog 60 #[drvV A0 n0 c0 f0 A1 n1 c1 f1] w fun e w'=> ∃B0 d0 B1 d1,e= .returned (drvV B0 n0 d0 f0 B1 n1 d1 f1)∧OwnB w.heap.size w' (.slice B0 n0 d0) l0∧OwnB w.heap.size w' (.slice B1 n1 d1) l1∧Ext w w':=by
 have H0:=hid hl0
 have H1:=hid hl1
 go_enter Tryz.func60,Tryz.ntmps60
 go_wp2_with fail
 refine wp_loop_rounds 3 ?_
 rw[rounds_succ]
 go_wp2_with (at_builtin;refine wpList_abytL rfl ((w.alloc (.cells #[.slice A0 n0 c0,.int .i64 f0,.slice A1 n1 c1,.int .i64 f1] 27)).alloc (.cells #[.slice none 0 0,.int .i64 0,.slice none 0 0,.int .i64 0] 27)) (w.heap.size+1+1) ta rfl _ _ rfl (l:=[]) (l0) rfl tc (OwnB.empty _ _ _ ta (Nat.le_refl _)) rfl H0.out.symm (show Byt _ A0 (l0) from(bytI ‹_›)) (by rw[H0.out];simp;omega) (fun v1 E1 d1 ho1=> ?_);obtain⟨Av1,cv1,rfl,hcv1,hsv1⟩:=ownsRow_slice ho1;have Ho1:=hid ho1;clear ho1 hcv1 hsv1)
 rw[rounds_succ]
 go_wp2_with (at_builtin;refine wpList_abytL rfl (((w.alloc (.cells #[.slice Av1 n0 cv1,.int .i64 f0,.slice A1 n1 c1,.int .i64 f1] 27)).alloc (.cells #[.slice none 0 0,.int .i64 0,.slice none 0 0,.int .i64 0] 27)).ext E1 d1) (w.heap.size+1+1+E1.size) ta rfl _ _ rfl (l:=[]) (l1) rfl tc (OwnB.empty _ _ _ ta (Nat.le_refl _)) rfl H1.out.symm (show Byt _ A1 (l1) from(bytI ‹_›)) (by rw[H1.out];simp;omega) (fun v2 E2 d2 ho2=> ?_);obtain⟨Av2,cv2,rfl,hcv2,hsv2⟩:=ownsRow_slice ho2;have Ho2:=hid ho2;clear ho2 hcv2 hsv2)
 rw[rounds_succ]
 go_wp2_with fail
 refine bodyPost_ret (v:=drvV Av1 n0 cv1 f0 Av2 n1 cv2 f1) (by simp[results,Tryz.results60,go_sem]) rfl ?_
 have h1:=Ho1.out
 have h2:=Ho2.out
 rw[List.nil_append] at h1 h2
 rw[H0.out] at h1
 rw[H1.out] at h2
 refine⟨_,_,_,_,rfl,?_,?_,exI⟩
 ·exact OwnB.moved2 h1 tR ta ta tB
 ·exact OwnB.moved2 h2 tR ta ta tB
set_option maxRecDepth 100000 in
set_option maxHeartbeats 4000000 in
theorem rSync_any(A0:Option Addr)(n0 c0:Nat)(A1:Option Addr)(n1 c1:Nat)(D:DriveD)(hs0:n0≤140737488355328)(hs1:n1≤140737488355328)(w:World)(hD:DrvY w D A0 n0 c0 A1 n1 c1):
 Calls Tryz.prog 12 #[drvV A0 n0 c0 D.f0.firm A1 n1 c1 D.f1.firm] w fun e w'=> ∃B0 m0 d0 B1 m1 d1,e= .returned (drvV B0 m0 d0 (syncD D).f0.firm B1 m1 d1 (syncD D).f1.firm)∧DrvX w.heap.size w' (syncD D) B0 m0 d0 B1 m1 d1∧Ext w w':=by
 obtain⟨hl0,hl1,hc0,hc1,hbig0,hbig1,hb0,hb1⟩:=hD
 have hdo:=driveOk_eq D n0 n1 hl0 hl1
 cases hk:dOk n0 D.f0.firm n1 D.f1.firm with
 | false=>
  rw[hk] at hdo
  have HS:Hid (syncD D=D):=hid (by simp[syncD,hdo])
  clear hdo
  go_enter Tryz.func12,Tryz.ntmps12
  go_wp2_with (first|(go_at_call 59;refine(risDrive_any _ _ _ _ _ _ _ _ _).mono ?_;rintro e w1 ⟨rfl,E1,d1,rfl⟩)|(go_at_call 60;refine(sameDrive_any _ _ _ _ _ _ _ _ _ _ tZ tZ tB tB _ (bytI ‹_›) (bytI ‹_›)).mono ?_;rintro e w1 ⟨Bs1,ds1,Bt1,dt1,rfl,hos1,hot1,E1,d1,rfl⟩))
  refine bodyPost_ret (v:=drvV Bs1 n0 ds1 D.f0.firm Bt1 n1 dt1 D.f1.firm) (by simp[results,Tryz.results12,go_sem]) rfl ?_
  refine⟨Bs1,n0,ds1,Bt1,n1,dt1,by rw[HS.out],?_,exI⟩
  rw[HS.out]
  refine⟨hl0.symm,hl1.symm,?_,?_⟩
  ·exact T7
  ·exact T8
 | true=>
  rw[hk] at hdo
  have HS:Hid (syncD D=⟨⟨D.f0.bytes,(n0:Int)⟩,⟨D.f1.bytes,(n1:Int)⟩⟩):=hid (by simp[syncD,hdo,firmD,firmF,hl0,hl1])
  clear hdo
  have T0:=hid (List.take_of_length_le (Nat.le_of_eq hl0))
  have T1:=hid (List.take_of_length_le (Nat.le_of_eq hl1))
  go_enter Tryz.func12,Tryz.ntmps12
  go_wp2_with (go_at_call 59;refine(risDrive_any _ _ _ _ _ _ _ _ _).mono ?_;rintro e w1 ⟨rfl,E1,d1,rfl⟩)
  refine wp_region_ord (.f 0 (.f 1 (.f 2 (.f 3 (.f 4 (.f 5 (.f 6 (.f 7 (.f 9 (.f 10 (.f 11 (.f 12 (.f 13 (.f 14 (.f 15 (.f 16 (.a 8 (.a 17 (.f 18 (.f 19 (.a 20 .d))))))))))))))))))))) (Ext (w.alloc (.cells #[.slice A0 n0 c0,.int .i64 D.f0.firm,.slice A1 n1 c1,.int .i64 D.f1.firm] 27))) tG tG exI ?_
  refine oS ?_
  refine wpOrd_call rfl rfl rfl Tryz.call61 (fun R hR=> ?_)
  go_simp
  refine(cut_any _ _ _ _ _ _ tZ tB tB tB _ (bytI ‹_›)).mono ?_
  rintro e w1 ⟨Af201,cf201,rfl,hbf201,E201,d201,rfl⟩
  refine hR _ _ ⟨_,rfl,?_,?_⟩
  ·exact exI
  clear hR R
  simp only[Act.put,zp]
  refine wpOrd_call rfl rfl rfl Tryz.call61 (fun R hR=> ?_)
  go_simp
  refine(cut_any _ _ _ _ _ _ tZ tB tB tB _ (bytI ‹_›)).mono ?_
  rintro e w1 ⟨Af202,cf202,rfl,hbf202,E202,d202,rfl⟩
  refine hR _ _ ⟨_,rfl,?_,?_⟩
  ·exact exI
  clear hR R
  simp only[Act.put,zp]
  refine oS ?_
  refine oC ?_
  refine wpOrd_nil ?_
  all_goals
   go_wp2_with fail
  all_goals
   refine bodyPost_ret (v:=drvV Af201 n0 cf201 n0 Af202 n1 cf202 n1) (by simp[results,Tryz.results12,go_sem]) rfl ?_
   refine⟨Af201,n0,cf201,Af202,n1,cf202,by rw[HS.out],?_,exI⟩
   rw[HS.out]
   have h1:=hbf201
   have h2:=hbf202
   rw[T0.out] at h1
   rw[T1.out] at h2
   refine⟨hl0.symm,hl1.symm,?_,?_⟩
   ·exact OwnB.moved2 h1 tR ta ta TC
   ·exact OwnB.moved2 h2 tR ta ta TC
set_option maxRecDepth 100000 in
set_option maxHeartbeats 2000000 in
theorem kept_any(A:Option Addr)(n c:Nat)(f k:Int)(L:Nat)(h0:0≤f)(h1:f≤n)(hn:n≤100000)(hL:f+k % ((n:Int)-f+1)=L)(w:World):
 Calls Tryz.prog 63 #[filV A n c f,.int .i64 k] w fun e w'=>e= .returned (.int .i64 L)∧Ext w w':=by
 obtain⟨L0,a0,a1,a2,⟨a3,a4⟩,a5⟩:=kept_facts n f k h0 h1 hn
 obtain rfl:L0=L:=by omega
 obtain⟨m,hm⟩:∃ m,(n:Int)-f+1=m:=⟨_,rfl⟩
 rw[hm] at a2 a3 a4 a5
 obtain⟨r,hr⟩:∃ r,k.tmod m=r:=⟨_,rfl⟩
 rw[hr] at a3 a4 a5
 have g:f+((L0:Int)-f)=L0:=by omega
 have hw1:IntKind.i64.wrap (r+m)=r+m:=IntWalk.i64_in _ tB
 have hw2:IntKind.i64.wrap (L0:Int)=L0:=IntWalk.i64_in _ tB
 clear a1 hL
 go_enter Tryz.func63,Tryz.ntmps63
 go_wp2_with fail
 refine wp_region_ord_same (.f 0 (.f 1 (.f 2 (.f 3 (.f 4 (.f 5 (.f 6 (.f 7 (.f 8 (.f 9 (.f 10 .d))))))))))) tG tG ?_
 refine oR ?_
 refine wpOrd_nil ?_
 go_wp2_with fail
 go_ret
 exact⟨ret_val rfl,exI⟩
set_option maxRecDepth 100000 in
set_option maxHeartbeats 4000000 in
theorem rCrash_any(A0:Option Addr)(n0 c0:Nat)(A1:Option Addr)(n1 c1:Nat)(D:DriveD)(k0 k1:Int)(hs0:n0≤140737488355328)(hs1:n1≤140737488355328)(w:World)(hD:DrvY w D A0 n0 c0 A1 n1 c1):
 Calls Tryz.prog 14 #[drvV A0 n0 c0 D.f0.firm A1 n1 c1 D.f1.firm,.agg #[.int .i64 k0,.int .i64 k1]] w fun e w'=> ∃B0 m0 d0 B1 m1 d1,e= .returned (drvV B0 m0 d0 (crashD D k0 k1).f0.firm B1 m1 d1 (crashD D k0 k1).f1.firm)∧DrvX w.heap.size w' (crashD D k0 k1) B0 m0 d0 B1 m1 d1∧Ext w w':=by
 obtain⟨hl0,hl1,hc0,hc1,hbig0,hbig1,hb0,hb1⟩:=hD
 have hdo:=driveOk_eq D n0 n1 hl0 hl1
 cases hk:dOk n0 D.f0.firm n1 D.f1.firm with
 | false=>
  rw[hk] at hdo
  have HS:Hid (crashD D k0 k1=D):=hid (by simp[crashD,hdo])
  clear hdo
  go_enter Tryz.func14,Tryz.ntmps14
  go_wp2_with (first|(go_at_call 59;refine(risDrive_any _ _ _ _ _ _ _ _ _).mono ?_;rintro e w1 ⟨rfl,E1,d1,rfl⟩)|(go_at_call 60;refine(sameDrive_any _ _ _ _ _ _ _ _ _ _ tZ tZ tB tB _ (bytI ‹_›) (bytI ‹_›)).mono ?_;rintro e w1 ⟨Bs1,ds1,Bt1,dt1,rfl,hos1,hot1,E1,d1,rfl⟩))
  refine bodyPost_ret (v:=drvV Bs1 n0 ds1 D.f0.firm Bt1 n1 dt1 D.f1.firm) (by simp[results,Tryz.results14,go_sem]) rfl ?_
  refine⟨Bs1,n0,ds1,Bt1,n1,dt1,by rw[HS.out],?_,exI⟩
  rw[HS.out]
  refine⟨hl0.symm,hl1.symm,?_,?_⟩
  ·exact T7
  ·exact T8
 | true=>
  rw[hk] at hdo
  obtain⟨⟨⟨i0,i1⟩,i2⟩,⟨⟨j0,j1⟩,j2⟩⟩:((0≤D.f0.firm∧D.f0.firm≤n0)∧n0≤100000)∧((0≤D.f1.firm∧D.f1.firm≤n1)∧n1≤100000):=by
   simpa [dOk,fOk,inB,Bool.and_eq_true] using hk
  obtain⟨f0,hf0⟩:∃ f0,D.f0.firm=f0:=⟨_,rfl⟩
  obtain⟨f1,hf1⟩:∃ f1,D.f1.firm=f1:=⟨_,rfl⟩
  rw[hf0] at i0 i1 hk
  rw[hf1] at j0 j1 hk
  rw[hf0,hf1]
  obtain⟨M0,a0,a1,-⟩:=kept_facts n0 f0 k0 i0 i1 i2
  obtain⟨M1,b0,b1,-⟩:=kept_facts n1 f1 k1 j0 j1 j2
  have q0:keptI D.f0 k0=M0:=by rw[keptI,hl0,hf0];exact a1
  have q1:keptI D.f1 k1=M1:=by rw[keptI,hl1,hf1];exact b1
  have HS:Hid (crashD D k0 k1=⟨⟨D.f0.bytes.take M0,M0⟩,⟨D.f1.bytes.take M1,M1⟩⟩):=hid (by
   rw[crashD,if_pos hdo,crashF,crashF,q0,q1]
   simp)
  have HA:=hid a1
  have HB:=hid b1
  clear hdo a1 b1 q0 q1 hf0 hf1
  go_enter Tryz.func14,Tryz.ntmps14
  go_wp2_with (go_at_call 59;refine(risDrive_any _ _ _ _ _ _ _ _ _).mono ?_;rintro e w1 ⟨rfl,E1,d1,rfl⟩)
  refine wp_region_ord (.f 0 (.f 1 (.f 2 (.f 3 (.f 4 (.f 5 (.f 6 (.f 7 (.f 10 (.f 11 (.f 12 (.f 13 (.f 14 (.f 15 (.f 16 (.f 17 (.a 8 (.a 9 (.a 18 (.a 19 (.f 20 (.f 21 (.a 22 .d))))))))))))))))))))))) (Ext ((w.alloc (.cells #[.slice A0 n0 c0,.int .i64 f0,.slice A1 n1 c1,.int .i64 f1] 27)).alloc (.cells #[.int .i64 k0,.int .i64 k1] 28))) tG tG exI ?_
  refine oS ?_
  refine wpOrd_call rfl rfl rfl Tryz.call63 (fun R hR=> ?_)
  go_simp
  refine(kept_any _ _ _ _ _ _ tF tF tB (by first|exact HA.out|exact HB.out) _).mono ?_
  rintro e w1 ⟨rfl,E201,d201,rfl⟩
  refine hR _ _ ⟨_,rfl,?_,?_⟩
  ·exact exI
  clear hR R
  simp only[Act.put,zp]
  refine wpOrd_call rfl rfl rfl Tryz.call61 (fun R hR=> ?_)
  go_simp
  refine(cut_any _ _ _ _ _ _ tZ tB tB tB _ (bytI ‹_›)).mono ?_
  rintro e w1 ⟨Af202,cf202,rfl,hbf202,E202,d202,rfl⟩
  refine hR _ _ ⟨_,rfl,?_,?_⟩
  ·exact exI
  clear hR R
  simp only[Act.put,zp]
  refine wpOrd_call rfl rfl rfl Tryz.call63 (fun R hR=> ?_)
  go_simp
  refine(kept_any _ _ _ _ _ _ tF tF tB (by first|exact HA.out|exact HB.out) _).mono ?_
  rintro e w1 ⟨rfl,E203,d203,rfl⟩
  refine hR _ _ ⟨_,rfl,?_,?_⟩
  ·exact exI
  clear hR R
  simp only[Act.put,zp]
  refine wpOrd_call rfl rfl rfl Tryz.call61 (fun R hR=> ?_)
  go_simp
  refine(cut_any _ _ _ _ _ _ tZ tB tB tB _ (bytI ‹_›)).mono ?_
  rintro e w1 ⟨Af204,cf204,rfl,hbf204,E204,d204,rfl⟩
  refine hR _ _ ⟨_,rfl,?_,?_⟩
  ·exact exI
  clear hR R
  simp only[Act.put,zp]
  refine oS ?_
  refine oC ?_
  refine wpOrd_nil ?_
  all_goals
   go_wp2_with fail
  all_goals
   refine bodyPost_ret (v:=drvV Af202 M0 cf202 M0 Af204 M1 cf204 M1) (by simp[results,Tryz.results14,go_sem]) rfl ?_
   refine⟨Af202,M0,cf202,Af204,M1,cf204,by rw[HS.out],?_,exI⟩
   rw[HS.out]
   refine⟨by simp[hl0];omega,by simp[hl1];omega,?_,?_⟩
   ·exact OwnB.moved2 hbf202 tR ta ta TC
   ·exact OwnB.moved2 hbf204 tR ta ta TC
def fileEqB(f g:FileD):Bool:=decide (f.firm=g.firm)&&decide (f.bytes=g.bytes)
def driveEqB(a b:DriveD):Bool:=fileEqB a.f0 b.f0&&fileEqB a.f1 b.f1
theorem driveEqB_self(a:DriveD):driveEqB a a=true:=by simp[driveEqB,fileEqB]
set_option maxRecDepth 100000 in
set_option maxHeartbeats 2000000 in
theorem SameFile_any(A B:Option Addr)(n c m d:Nat)(f g:Int)(l l':List UInt8)(hl:l.length=n)(hl':l'.length=m)(w:World)(hb:Byt w A l)(hb':Byt w B l'):
 Calls Tryz.prog 55 #[filV A n c f,filV B m d g] w fun e w'=>e= .returned (.bool (fileEqB ⟨l,f⟩ ⟨l',g⟩))∧Ext w w':=by
 by_cases h:f=g
 ·subst h
  have HE:Hid (fileEqB ⟨l,f⟩ ⟨l',f⟩=decide (l=l')):=hid (by simp[fileEqB])
  go_enter Tryz.func55,Tryz.ntmps55
  go_wp2_with (go_at_call 116;refine(SameBytes_any _ _ _ _ _ _ l l' _ hl hl' (bytI ‹_›) (bytI ‹_›)).mono ?_;rintro e w1 ⟨rfl,rfl⟩)
  go_ret
  exact⟨ret_val tX,exI⟩
 ·have b0:(f==g)=false:=by simpa using h
  have HE:Hid (fileEqB ⟨l,f⟩ ⟨l',g⟩=false):=hid (by simp[fileEqB,h])
  go_enter Tryz.func55,Tryz.ntmps55
  go_wp2_with fail
  go_ret
  exact⟨ret_val tX,exI⟩
set_option maxRecDepth 100000 in
set_option maxHeartbeats 2000000 in
theorem SameDrive_any(A0 A1 B0 B1:Option Addr)(n0 c0 n1 c1 m0 d0 m1 d1:Nat)(D D':DriveD)(h0:D.f0.bytes.length=n0)(h1:D.f1.bytes.length=n1)(h2:D'.f0.bytes.length=m0)(h3:D'.f1.bytes.length=m1)(w:World)
 (hb0:Byt w A0 D.f0.bytes) (hb1:Byt w A1 D.f1.bytes) (hb2:Byt w B0 D'.f0.bytes) (hb3:Byt w B1 D'.f1.bytes):
 Calls Tryz.prog 10 #[drvV A0 n0 c0 D.f0.firm A1 n1 c1 D.f1.firm,drvV B0 m0 d0 D'.f0.firm B1 m1 d1 D'.f1.firm] w fun e w'=>e= .returned (.bool (driveEqB D D'))∧Ext w w':=by
 obtain⟨⟨l0,f0⟩,⟨l1,f1⟩⟩:=D
 obtain⟨⟨l2,f2⟩,⟨l3,f3⟩⟩:=D'
 simp only[] at h0 h1 h2 h3 hb0 hb1 hb2 hb3 ⊢
 have HE:Hid (driveEqB ⟨⟨l0,f0⟩,⟨l1,f1⟩⟩ ⟨⟨l2,f2⟩,⟨l3,f3⟩⟩=(fileEqB ⟨l0,f0⟩ ⟨l2,f2⟩&&fileEqB ⟨l1,f1⟩ ⟨l3,f3⟩)):=hid rfl
 cases he:fileEqB ⟨l0,f0⟩ ⟨l2,f2⟩ with
 | false=>
  have HF:Hid (driveEqB ⟨⟨l0,f0⟩,⟨l1,f1⟩⟩ ⟨⟨l2,f2⟩,⟨l3,f3⟩⟩=false):=hid (by rw[HE.out,he];rfl)
  go_enter Tryz.func10,Tryz.ntmps10
  go_wp2_with (go_at_call 55;refine(SameFile_any _ _ _ _ _ _ _ _ l0 l2 h0 h2 _ (bytI ‹_›) (bytI ‹_›)).mono ?_;rintro e w1 ⟨rfl,E1,d1,rfl⟩;rw[he])
  go_ret
  exact⟨ret_val (by rw[HF.out];rfl),exI⟩
 | true=>
  have HF:Hid (driveEqB ⟨⟨l0,f0⟩,⟨l1,f1⟩⟩ ⟨⟨l2,f2⟩,⟨l3,f3⟩⟩=fileEqB ⟨l1,f1⟩ ⟨l3,f3⟩):=hid (by rw[HE.out,he];rfl)
  go_enter Tryz.func10,Tryz.ntmps10
  go_wp2_with fail
  refine(SameFile_any _ _ _ _ _ _ _ _ l0 l2 h0 h2 _ (bytI ‹_›) (bytI ‹_›)).mono ?_
  rintro e w1 ⟨rfl,E1,d1,rfl⟩
  rw[he]
  go_wp2_with fail
  refine(SameFile_any _ _ _ _ _ _ _ _ l1 l3 h1 h3 _ (bytI ‹_›) (bytI ‹_›)).mono ?_
  rintro e w1 ⟨rfl,E2,d2,rfl⟩
  go_wp2_with fail
  go_ret
  exact⟨ret_val (by rw[HF.out];rfl),exI⟩
end Go.Proofs.YtekjdeibnfaehaaGreat
set_option linter.unusedSimpArgs false
set_option linter.unusedVariables false
namespace Go.Proofs.YtekjdeibnfaehaaGreat
open Go Go.RowKit
def rdG(l:List UInt8):Int:=if pageOk l=true then genB l else 0
def rdR(l:List UInt8):List Rec:=if pageOk l=true then recsB l else[]
def rdN(l:List UInt8):Nat:=if pageOk l=true then longB l else 0
theorem rd_yes{l:List UInt8}(h:pageOk l=true):rdG l=genB l∧rdR l=recsB l∧rdN l=longB l:=by simp[rdG,rdR,rdN,h]
theorem rd_no{l:List UInt8}(h:pageOk l=false):rdG l=0∧rdR l=[]∧rdN l=0:=by simp[rdG,rdR,rdN,h]
theorem bytesR_one(o:List Rec)(r:Rec):(bytesR (o++[r])).length=(bytesR o).length+(24+r.text.size):=by
 rw[bytesR_append,List.length_append,bytesR_cons,bytesR_nil,List.append_nil,frameB_length]
structure RdW(w wr:World)(l:List UInt8)(a:Nat)(o:List Rec)(v:Value):Prop where
 ext:Ext w wr
 own:OwnR w.heap.size wr v o
 eq:recsB l=o++framesL (l.drop a)
 at_:a=10+(bytesR o).length
 few:o.length≤a
set_option maxRecDepth 100000 in
set_option maxHeartbeats 8000000 in
theorem read_any(A:Option Addr)(n c:Nat)(l:List UInt8)(hl:l.length=n)(hnc:n≤c)(hbig:c≤9223372036854775807)(hn:n≤100000)(w:World)(hb:Byt w A l):
 Calls Tryz.prog 67 #[.slice A n c] w fun e w'=> ∃A' n' c',e= .returned (.tuple #[.int .i64 (rdG l),.slice A' n' c',.int .i64 (rdN l)])∧Hid (n'=(rdR l).length)∧OwnR w.heap.size w' (.slice A' n' c') (rdR l)∧Ext w w':=by
 have hhe:=isHead_eq hl
 by_cases h10:n<10
 ·have hp:pageOk l=false:=by rw[pageOk,hhe,show decide (10≤n)=false from decide_eq_false tB];rfl
  obtain⟨e1,e2,e3⟩:=rd_no hp
  rw[e1,e2,e3]
  clear hp e1 e2 e3 hhe
  go_enter Tryz.func67,Tryz.ntmps67
  go_wp2_with fail
  refine bodyPost_ret (v:=.tuple #[.int .i64 0,.slice none 0 0,.int .i64 0]) T9 rfl ?_
  exact⟨none,0,0,rfl,hid rfl,OwnR.none _ _,exI⟩
 have h10':10≤n:=by omega
 have hcv:(convert 22 9 (.slice A 4 c)).run Tryz.prog w= .ok (.string ⟨(l.take 4).toArray⟩) w:=by
  have h:=run_of_bytes (hb.take 4 tB) c
  rwa [show(l.take 4).length=4 from by rw[List.length_take];omega] at h
 have hmq:=moor_eq l
 rw[show decide (10≤n)=true from decide_eq_true h10',Bool.true_and,←hmq] at hhe
 clear hmq
 cases hm:(l.take 4==[109,111,111,114]) with
 | false=>
  rw[hm] at hhe
  have hp:pageOk l=false:=by rw[pageOk,hhe];rfl
  obtain⟨e1,e2,e3⟩:=rd_no hp
  rw[e1,e2,e3]
  clear hp e1 e2 e3 hhe
  go_enter Tryz.func67,Tryz.ntmps67
  go_wp2_with fail
  refine bodyPost_ret (v:=.tuple #[.int .i64 0,.slice none 0 0,.int .i64 0]) T9 rfl ?_
  exact⟨none,0,0,rfl,hid rfl,OwnR.none _ _,exI⟩
 | true=>
  rw[hm] at hhe
  have hgb:=genB_bound l
  have hcb:=cntB_bound l
  obtain⟨G,hG⟩:∃ G,genB l=G:=⟨_,rfl⟩
  obtain⟨C,hC⟩:∃ C,cntB l=C:=⟨_,rfl⟩
  rw[hG] at hgb
  rw[hC] at hcb
  obtain⟨g0,g1⟩:=hgb
  obtain⟨c0,c1⟩:=hcb
  have HG:=hid hG
  have HC:=hid hC
  have HP:Hid (pageOk l=(inB G 1 1000000000&&decide (C≤((recsB l).length:Int)))):=hid (by rw[pageOk,hhe,hG,hC];rfl)
  clear hhe hG hC
  cases hgi:inB G 1 1000000000 with
  | false=>
   obtain⟨e1,e2,e3⟩:=rd_no (l:=l) (by rw[HP.out,hgi];rfl)
   rw[e1,e2,e3]
   clear e1 e2 e3
   go_enter Tryz.func67,Tryz.ntmps67
   go_wp2_with (first|(go_at_call 125;refine(get_i _ _ _ l _ _ hl tB tB tB tB tB _ (bytI ‹_›)).mono ?_;rintro e w1 ⟨rfl,rfl⟩;(first|rw[show valB ((l.drop (Int.toNat 4)).take (Int.toNat 4))=G from HG.out]|rw[show valB ((l.drop (Int.toNat 8)).take (Int.toNat 2))=C from HC.out]))|(go_at_call 92;refine(rin_any _ _ _ _).mono ?_;rintro e w1 ⟨rfl,rfl⟩))
   refine bodyPost_ret (v:=.tuple #[.int .i64 0,.slice none 0 0,.int .i64 0]) T9 rfl ?_
   exact⟨none,0,0,rfl,hid rfl,OwnR.none _ _,exI⟩
  | true=>
   have HP2:Hid (pageOk l=decide (C≤((recsB l).length:Int))):=hid (by rw[HP.out,hgi];rfl)
   clear HP
   go_enter Tryz.func67,Tryz.ntmps67
   go_wp2_with (first|(go_at_call 125;refine(get_i _ _ _ l _ _ hl tB tB tB tB tB _ (bytI ‹_›)).mono ?_;rintro e w1 ⟨rfl,rfl⟩;(first|rw[show valB ((l.drop (Int.toNat 4)).take (Int.toNat 4))=G from HG.out]|rw[show valB ((l.drop (Int.toNat 8)).take (Int.toNat 2))=C from HC.out]))|(go_at_call 92;refine(rin_any _ _ _ _).mono ?_;rintro e w1 ⟨rfl,rfl⟩))
   go_loopw [5,6] (fun v i wr=> ∃(a:Nat) (o:List Rec),a≤n∧i= .int .i64 a∧RdW w wr l a o v) (fun _ i _=>n-(intOf i).toNat)
   case atStart=>exact⟨10,[],h10',rfl,Ext.refl _,OwnR.none _ _,rfl,rfl,by simp⟩
   case round=>
    obtain⟨a,o,ha,rfl,⟨E9,d9,rfl⟩,hown,heq,hat,hfew⟩:=hrel
    have Hown:=hid hown
    have Heq:=hid heq
    have Hat:=hid hat
    have hfew2:o.length≤100000:=by omega
    have Hfew:=hid hfew
    have ha10:10≤a:=by omega
    clear hown heq hat hfew
    by_cases hlt:a<n
    ·have hal:a<l.length:=by omega
     obtain⟨g,of,rfl,hg,hcell⟩:=hb.at_ hal
     obtain⟨bt,hbt⟩:∃ bt,l[a].toNat=bt:=⟨_,rfl⟩
     have hb256:=l[a].toNat_lt
     have hdrop:=List.drop_eq_getElem_cons hal
     have Hdrop:=hid hdrop
     have Hbt:=hid hbt
     rw[hbt] at hcell hb256
     clear hdrop hbt
     have hb256:bt<256:=hb256
     by_cases hle:a+1+bt≤n
     ·obtain⟨X,hX⟩:∃ X,(l.drop (a+1)).take bt=X:=⟨_,rfl⟩
      have hXl:X.length=bt:=by rw[←hX,List.length_take,List.length_drop];omega
      have hbX:Byt w (cutA (some ⟨g,of,none⟩) c (a+1)) X:=by
       rw[←hX]
       exact(hb.cut (c:=c) (k:=a+1) tB tB).take bt tU
      obtain⟨AX,hAX⟩:∃ AX,cutA (some ⟨g,of,none⟩) c (a+1)=AX:=⟨_,rfl⟩
      obtain⟨cX,hcX⟩:∃ cX,c-(a+1)=cX:=⟨_,rfl⟩
      have hsl:∀ W,(Instr.slice 22 (.slice (some ⟨g,of,none⟩) n c) (some (.int .i64 ((a:Int)+1))) (some (.int .i64 ((a:Int)+1+bt))) none).run Tryz.prog W= .ok (.slice AX bt cX) W:=fun W=>by
       have h:=run_slice_mid (A:=some ⟨g,of,none⟩) (n:=n) (c:=c) (l:=a+1) (h:=a+1+bt) tB tB W
       rw[show a+1+bt-(a+1)=bt from by omega,show((a+1:Nat):Int)=(a:Int)+1 from by omega,show((a+1+bt:Nat):Int)=(a:Int)+1+bt from by omega,hAX,hcX] at h
       exact h
      rw[hAX] at hbX
      have hcX1:bt≤cX:=by omega
      have hcX2:cX≤9223372036854775807:=by omega
      have HX:=hid hX
      clear hAX hcX hX
      cases hd:decOk X with
      | true=>
       obtain⟨r,hr⟩:∃ r,decR X=r:=⟨_,rfl⟩
       have hdv:decV X=r:=by rw[decV,hd,if_pos rfl,hr]
       have hde:errDec X=0:=by rw[errDec,hd];rfl
       have hrl:bt=23+r.text.size:=by
        have h1:=recB_length r
        rw[←hr,recB_decR X (by simp only[decOk,Bool.and_eq_true] at hd;exact hd.1),hXl,hr] at h1
        exact h1
       have Hrl:=hid hrl
       have HF:Hid (framesL (l.drop a)=r::framesL (l.drop (a+1+bt))):=hid (by
        rw[Hdrop.out,framesL_some (by rw[Hbt.out,List.length_drop];omega) (by rw[Hbt.out,HX.out];exact hd),Hbt.out,HX.out,hr,List.drop_drop])
       clear hr hrl hd
       go_wp2_with (first|(go_at_call 126;refine(rDecode_any _ _ _ X hXl tB tB _ (bytI ‹_›)).mono ?_;rintro e w1 ⟨rfl,E1,d1,rfl⟩;rw[hdv,hde])|(at_builtin;refine wpList_arec rfl w w.heap.size rfl rfl _ _ rfl [r] rfl tc td rfl rfl (Sl_at (encRec r) _ 11 1 _ rfl ta) tA (fun v1 E2 d2 ho1=> ?_)))
       refine⟨⟨a+1+bt,o++[r],by omega,by go_num,⟨exI,ho1,?_,?_,?_⟩⟩,by simp[intOf];omega⟩
       ·rw[Heq.out,HF.out,List.append_assoc];rfl
       ·have h1:=Hat.out
        have h2:=Hrl.out
        rw[bytesR_one];omega
       ·have:=Hfew.out
        rw[List.length_append];simp;omega
      | false=>
       have hdv:decV X=zeroR:=decV_no hd
       have hde:errDec X=70:=by rw[errDec,hd];rfl
       have HR:Hid (recsB l=o):=hid (by
        rw[Heq.out,Hdrop.out,framesL_bad (by rw[Hbt.out,HX.out];exact hd),List.append_nil])
       clear hd
       obtain⟨Av,nv,cv,hv5,hnv,hcv5,hsv5⟩:=Hown.out.open
       subst hv5
       have Hnv:=hid hnv
       have hnv2:nv≤100000:=by omega
       clear hnv hcv5 hsv5
       by_cases hC:C≤(nv:Int)
       ·obtain⟨e1,e2,e3⟩:=rd_yes (l:=l) Ta
        have e4:longB l=a:=by rw[longB,HR.out];exact Hat.out.symm
        have E1':=hid e1
        have E2':=hid e2
        have E3':=hid (e3.trans e4)
        clear e1 e2 e3 e4
        go_wp2_with (first|(go_at_call 126;refine(rDecode_any _ _ _ X hXl tB tB _ (bytI ‹_›)).mono ?_;rintro e w1 ⟨rfl,E1,d1,rfl⟩;rw[hdv,hde])|(go_at_call 125;refine(get_i _ _ _ l _ _ hl tB tB tB tB tB _ (bytI ‹_›)).mono ?_;rintro e w1 ⟨rfl,rfl⟩;(first|rw[show valB ((l.drop (Int.toNat 4)).take (Int.toNat 4))=G from HG.out]|rw[show valB ((l.drop (Int.toNat 8)).take (Int.toNat 2))=C from HC.out]))|(go_at_call 92;refine(rin_any _ _ _ _).mono ?_;rintro e w1 ⟨rfl,rfl⟩))
        refine bodyPost_ret (v:=.tuple #[.int .i64 G,.slice Av nv cv,.int .i64 a]) T9 rfl ?_
        refine⟨Av,nv,cv,by rw[E1'.out,E3'.out,HG.out],hid (by rw[E2'.out,HR.out];exact Hnv.out),?_,exI⟩
        rw[E2'.out,HR.out]
        exact OwnR.of_ext Hown.out exI
       ·obtain⟨e1,e2,e3⟩:=rd_no (l:=l) Tb
        have E1':=hid e1
        have E2':=hid e2
        have E3':=hid e3
        clear e1 e2 e3
        go_wp2_with (first|(go_at_call 126;refine(rDecode_any _ _ _ X hXl tB tB _ (bytI ‹_›)).mono ?_;rintro e w1 ⟨rfl,E1,d1,rfl⟩;rw[hdv,hde])|(go_at_call 125;refine(get_i _ _ _ l _ _ hl tB tB tB tB tB _ (bytI ‹_›)).mono ?_;rintro e w1 ⟨rfl,rfl⟩;(first|rw[show valB ((l.drop (Int.toNat 4)).take (Int.toNat 4))=G from HG.out]|rw[show valB ((l.drop (Int.toNat 8)).take (Int.toNat 2))=C from HC.out]))|(go_at_call 92;refine(rin_any _ _ _ _).mono ?_;rintro e w1 ⟨rfl,rfl⟩))
        refine bodyPost_ret (v:=.tuple #[.int .i64 0,.slice none 0 0,.int .i64 0]) T9 rfl ?_
        exact⟨none,0,0,by rw[E1'.out,E3'.out];rfl,hid (by rw[E2'.out];rfl),by rw[E2'.out];exact OwnR.none _ _,exI⟩
     ·have HR:Hid (recsB l=o):=hid (by rw[Heq.out,Hdrop.out,framesL_short (by rw[List.length_drop,Hbt.out];omega),List.append_nil])
      obtain⟨Av,nv,cv,hv5,hnv,hcv5,hsv5⟩:=Hown.out.open
      subst hv5
      have Hnv:=hid hnv
      have hnv2:nv≤100000:=by omega
      clear hnv hcv5 hsv5
      by_cases hC:C≤(nv:Int)
      ·obtain⟨e1,e2,e3⟩:=rd_yes (l:=l) Ta
       have e4:longB l=a:=by rw[longB,HR.out];exact Hat.out.symm
       have E1':=hid e1
       have E2':=hid e2
       have E3':=hid (e3.trans e4)
       clear e1 e2 e3 e4
       go_wp2_with (first|(go_at_call 125;refine(get_i _ _ _ l _ _ hl tB tB tB tB tB _ (bytI ‹_›)).mono ?_;rintro e w1 ⟨rfl,rfl⟩;(first|rw[show valB ((l.drop (Int.toNat 4)).take (Int.toNat 4))=G from HG.out]|rw[show valB ((l.drop (Int.toNat 8)).take (Int.toNat 2))=C from HC.out]))|(go_at_call 92;refine(rin_any _ _ _ _).mono ?_;rintro e w1 ⟨rfl,rfl⟩))
       refine bodyPost_ret (v:=.tuple #[.int .i64 G,.slice Av nv cv,.int .i64 a]) T9 rfl ?_
       refine⟨Av,nv,cv,by rw[E1'.out,E3'.out,HG.out],hid (by rw[E2'.out,HR.out];exact Hnv.out),?_,exI⟩
       rw[E2'.out,HR.out]
       exact OwnR.of_ext Hown.out exI
      ·obtain⟨e1,e2,e3⟩:=rd_no (l:=l) Tb
       have E1':=hid e1
       have E2':=hid e2
       have E3':=hid e3
       clear e1 e2 e3
       go_wp2_with (first|(go_at_call 125;refine(get_i _ _ _ l _ _ hl tB tB tB tB tB _ (bytI ‹_›)).mono ?_;rintro e w1 ⟨rfl,rfl⟩;(first|rw[show valB ((l.drop (Int.toNat 4)).take (Int.toNat 4))=G from HG.out]|rw[show valB ((l.drop (Int.toNat 8)).take (Int.toNat 2))=C from HC.out]))|(go_at_call 92;refine(rin_any _ _ _ _).mono ?_;rintro e w1 ⟨rfl,rfl⟩))
       refine bodyPost_ret (v:=.tuple #[.int .i64 0,.slice none 0 0,.int .i64 0]) T9 rfl ?_
       exact⟨none,0,0,by rw[E1'.out,E3'.out];rfl,hid (by rw[E2'.out];rfl),by rw[E2'.out];exact OwnR.none _ _,exI⟩
    ·have HR:Hid (recsB l=o):=hid (by rw[Heq.out,List.drop_of_length_le tB,framesL_nil,List.append_nil])
     have han:a=n:=by omega
     subst han
     obtain⟨Av,nv,cv,hv5,hnv,hcv5,hsv5⟩:=Hown.out.open
     subst hv5
     have Hnv:=hid hnv
     have hnv2:nv≤100000:=by omega
     clear hnv hcv5 hsv5
     by_cases hC:C≤(nv:Int)
     ·obtain⟨e1,e2,e3⟩:=rd_yes (l:=l) Ta
      have e4:longB l=a:=by rw[longB,HR.out];exact Hat.out.symm
      have E1':=hid e1
      have E2':=hid e2
      have E3':=hid (e3.trans e4)
      clear e1 e2 e3 e4
      go_wp2_with (first|(go_at_call 125;refine(get_i _ _ _ l _ _ hl tB tB tB tB tB _ (bytI ‹_›)).mono ?_;rintro e w1 ⟨rfl,rfl⟩;(first|rw[show valB ((l.drop (Int.toNat 4)).take (Int.toNat 4))=G from HG.out]|rw[show valB ((l.drop (Int.toNat 8)).take (Int.toNat 2))=C from HC.out]))|(go_at_call 92;refine(rin_any _ _ _ _).mono ?_;rintro e w1 ⟨rfl,rfl⟩))
      refine bodyPost_ret (v:=.tuple #[.int .i64 G,.slice Av nv cv,.int .i64 a]) T9 rfl ?_
      refine⟨Av,nv,cv,by rw[E1'.out,E3'.out,HG.out],hid (by rw[E2'.out,HR.out];exact Hnv.out),?_,exI⟩
      rw[E2'.out,HR.out]
      exact OwnR.of_ext Hown.out exI
     ·obtain⟨e1,e2,e3⟩:=rd_no (l:=l) Tb
      have E1':=hid e1
      have E2':=hid e2
      have E3':=hid e3
      clear e1 e2 e3
      go_wp2_with (first|(go_at_call 125;refine(get_i _ _ _ l _ _ hl tB tB tB tB tB _ (bytI ‹_›)).mono ?_;rintro e w1 ⟨rfl,rfl⟩;(first|rw[show valB ((l.drop (Int.toNat 4)).take (Int.toNat 4))=G from HG.out]|rw[show valB ((l.drop (Int.toNat 8)).take (Int.toNat 2))=C from HC.out]))|(go_at_call 92;refine(rin_any _ _ _ _).mono ?_;rintro e w1 ⟨rfl,rfl⟩))
      refine bodyPost_ret (v:=.tuple #[.int .i64 0,.slice none 0 0,.int .i64 0]) T9 rfl ?_
      exact⟨none,0,0,by rw[E1'.out,E3'.out];rfl,hid (by rw[E2'.out];rfl),by rw[E2'.out];exact OwnR.none _ _,exI⟩
end Go.Proofs.YtekjdeibnfaehaaGreat
set_option linter.unusedSimpArgs false
set_option linter.unusedVariables false
namespace Go.Proofs.YtekjdeibnfaehaaGreat
open Go Go.RowKit
set_option maxRecDepth 100000 in
set_option maxHeartbeats 4000000 in
theorem SameMemory_any(A B:Option Addr)(n c m d:Nat)(f g f' g':Int)(l l':List Rec)(hn:l.length=n)(hm:l'.length=m)(hbig:n≤9223372036854775807)(w:World)(hr:Recs w A l)(hs:Recs w B l'):
 Calls Tryz.prog 17 #[memV A n c f g,memV B m d f' g'] w fun e w'=>e= .returned (.bool (memEqB ⟨l,f,g⟩ ⟨l',f',g'⟩))∧Ext w w':=by
 have HM:Hid (memEqB ⟨l,f,g⟩ ⟨l',f',g'⟩=(decide (f=f')&&(decide (g=g')&&recsEqB l l'))):=hid rfl
 by_cases h1:f=f'
 ·by_cases h2:g=g'
  ·subst h1 h2
   have HE:Hid (memEqB ⟨l,f,g⟩ ⟨l',f,g⟩=recsEqB l l'):=hid (by rw[HM.out];simp)
   clear HM
   go_enter Tryz.func17,Tryz.ntmps17
   go_wp2_with (go_at_call 53;refine(Same_any _ _ _ _ _ _ l l' hn hm hbig _ (recI ‹_›) (recI ‹_›)).mono ?_;rintro e w1 ⟨rfl,E1,d1,rfl⟩)
   go_ret
   exact⟨ret_val tX,exI⟩
  ·have b1:(f==f')=true:=by simpa using h1
   have b2:(g==g')=false:=by simpa using h2
   have HE:Hid (memEqB ⟨l,f,g⟩ ⟨l',f',g'⟩=false):=hid (by rw[HM.out];simp[h2])
   clear h1 HM
   go_enter Tryz.func17,Tryz.ntmps17
   go_wp2_with fail
   go_ret
   exact⟨ret_val tX,exI⟩
 ·have b1:(f==f')=false:=by simpa using h1
  have HE:Hid (memEqB ⟨l,f,g⟩ ⟨l',f',g'⟩=false):=hid (by rw[HM.out];simp[h1])
  clear HM
  go_enter Tryz.func17,Tryz.ntmps17
  go_wp2_with fail
  go_ret
  exact⟨ret_val tX,exI⟩
end Go.Proofs.YtekjdeibnfaehaaGreat
set_option linter.unusedSimpArgs false
set_option linter.unusedVariables false
namespace Go.Proofs.YtekjdeibnfaehaaGreat
open Go Go.RowKit
theorem findI_at{l:List Rec}(h:Sorted l){o s:Int}(hh:hasR l o s=true):∃ p:Nat,findI l o s=p:=⟨_,findI_pos h o s hh⟩
theorem findI_no{l:List Rec}{o s:Int}(hh:hasR l o s=false):findI l o s= -1:=by rw[findI,hh];rfl
set_option maxRecDepth 100000 in
set_option maxHeartbeats 8000000 in
theorem ordered_any(A:Option Addr)(n c:Nat)(l:List Rec)(hn:l.length=n)(hbig:n≤100000)(w:World)(hr:Recs w A l):
 Calls Tryz.prog 68 #[.slice A n c] w fun e w'=> ∃A' n' c' l',e= .returned (.tuple #[regV A' n' c',.bool (decide (Apart l)&&decide (n≤80))])∧Hid (n'=l'.length)∧OwnR w.heap.size w' (.slice A' n' c') l'∧Hid (Apart l→l'=ordL l)∧Ext w w':=by
 go_enter Tryz.func68,Tryz.ntmps68
 go_wp2_with fail
 go_loopw [5] (fun i wr=> ∃(k:Nat) (v:Value),k≤n∧i= .int .i64 k∧Ext ((w.alloc (.cells #[.slice none 0 0] 34)).alloc (.cells #[v] 34)) wr∧OwnR (w.heap.size+1+1) wr v (ordL (l.take k))∧Hid (Apart (l.take k))) (fun i _=>n-(intOf i).toNat)
 case atStart=>exact⟨0,_,Nat.zero_le _,rfl,Ext.refl _,by simpa [ordL] using OwnR.none _ _,hid (by simp[Apart])⟩
 case round=>
  obtain⟨k,v,hk,rfl,⟨E9,d9,rfl⟩,hown,hap⟩:=hrel
  have Hown:=hid hown
  clear hown
  obtain⟨Av,nv,cv,rfl,hnv,hcv,hsv⟩:=Hown.out.open
  have hsort:=ordL_sorted hap.out
  have hlen:=(ordL_perm (l.take k)).length_eq
  rw[List.length_take] at hlen
  by_cases hlt:k<n
  ·have hm:k<l.length:=by omega
   obtain⟨g,of,rfl,hg⟩:=hr.addr tB
   obtain⟨h0,h1,h2,h3,h4,h5,h6,h7,h8,h9,h10⟩:=hr.row hm
   have hst:=ordL_take_succ l k hm
   have hasu:=apart_take_succ l k hm
   obtain⟨q,hq⟩:∃ q,l[k]=q:=⟨_,rfl⟩
   rw[hq] at h0 h1 h2 h3 h4 h5 h6 h7 h8 h9 h10 hst hasu
   have hnv2:nv≤100000:=by omega
   obtain⟨gl,hgl⟩:∃ gl,ordL (l.take k)=gl:=⟨_,rfl⟩
   have hsvd:=fun d'=>Recs.of_ext hsv (Ext.same _ _ _ d')
   rw[hgl] at hsvd hst hasu hsort hnv
   have hnl:gl.length=nv:=hnv.symm
   have Hst:=hid hst
   have Hasu:=hid hasu
   have Hgl:=hid hgl
   have Hsort:=hid hsort
   have Hnl:=hid hnl
   clear hst hasu hgl hsort hnl hnv hlen hq hsv
   cases hh:hasR gl q.ao q.sq with
   | true=>
    obtain⟨p,hfi⟩:=findI_at Hsort.out hh
    have HN:Hid (¬Apart l):=hid (fun ha=>by
     have:=(Hasu.out.1 (List.Pairwise.sublist (List.take_sublist _ _) ha)).2
     rw[hh] at this
     cases this)
    have HE:Hid ((decide (Apart l)&&decide (n≤80))=false):=hid (by rw[decide_eq_false HN.out];rfl)
    clear hh
    go_wp2_with fail
    refine wp_region_ord_same (.f 0 (.f 1 (.f 2 (.f 3 (.f 4 (.f 5 (.a 6 (.f 7 .d)))))))) tG tG ?_
    refine oR ?_
    refine wpOrd_call rfl rfl rfl Tryz.call85 (fun R hR=> ?_)
    go_simp
    refine(rfind_any _ _ _ gl _ _ Hnl.out tB _ Tc).mono ?_
    rintro e w1 ⟨rfl,E1,d1,rfl⟩
    refine hR _ _ ⟨_,rfl,?_,?_⟩
    ·exact keepI
    clear hR R
    simp only[Act.put,zp]
    refine oR ?_
    refine wpOrd_nil ?_
    all_goals
     go_wp2_with fail
    all_goals
     refine bodyPost_ret (v:=.tuple #[regV none 0 0,.bool false]) (by simp[results,Tryz.results68,go_sem]) rfl ?_
     exact⟨none,0,0,[],by rw[HE.out],hid rfl,OwnR.none _ _,hid (fun h=>absurd h HN.out),exI⟩
   | false=>
    have hfi:=findI_no hh
    have HI:Hid (insG gl q=ordL (l.take (k+1))):=hid (by rw[Hst.out,insG_eq Hsort.out hh])
    have HA:Hid (Apart (l.take (k+1))):=hid (Hasu.out.2 ⟨hap.out,hh⟩)
    clear hh
    go_wp2_with fail
    refine wp_region_ord_same (.f 0 (.f 1 (.f 2 (.f 3 (.f 4 (.f 5 (.a 6 (.f 7 .d)))))))) tG tG ?_
    refine oR ?_
    refine wpOrd_call rfl rfl rfl Tryz.call85 (fun R hR=> ?_)
    go_simp
    refine(rfind_any _ _ _ gl _ _ Hnl.out tB _ Tc).mono ?_
    rintro e w1 ⟨rfl,E1,d1,rfl⟩
    refine hR _ _ ⟨_,rfl,?_,?_⟩
    ·exact keepI
    clear hR R
    simp only[Act.put,zp]
    refine oR ?_
    refine wpOrd_nil ?_
    all_goals
     go_wp2_with fail
    all_goals
     refine wp_region_ord (.f 1 (.f 2 (.f 3 (.f 4 (.a 0 (.a 5 (.a 6 .d))))))) (Ext ((w.alloc (.cells #[.slice none 0 0] 34)))) tG tG exI ?_
     refine oS ?_
     refine oC ?_
     refine wpOrd_call rfl rfl rfl Tryz.call127 (fun R hR=> ?_)
     go_simp
     refine(rinsert_own _ _ _ gl q Hnl.out tB _ Tc).mono ?_
     rintro e w1 ⟨Ai201,ni201,ci201,rfl,hni201,hvi201,E201,d201,rfl⟩
     refine hR _ _ ⟨_,rfl,?_,?_⟩
     ·exact exI
     clear hR R
     simp only[Act.put,zp]
     refine oC ?_
     refine wpOrd_nil ?_
    all_goals
     go_wp2_with fail
    all_goals
     first|have Ho:=hvi201|have Ho:=hvi200|have Ho:=hvi202
     refine⟨⟨k+1,_,by omega,by go_num,tR,?_,HA.out⟩,by simp[intOf];omega⟩
     rw[←HI.out]
     exact OwnR.moved2 Ho tR ta (Nat.le_refl _) TA
  ·obtain rfl:k=n:=by omega
   have HT:Hid (l.take k=l):=hid (List.take_of_length_le tB)
   have HA:Hid (Apart l):=hid (by have:=hap.out;rwa [HT.out] at this)
   have HE:Hid ((decide (Apart l)&&decide (k≤80))=decide (k≤80)):=hid (by rw[decide_eq_true HA.out];rfl)
   have Hnv:=hid hnv
   clear hnv hlen hcv hsv hsort
   go_wp2_with fail
   refine bodyPost_ret (v:=.tuple #[regV Av nv cv,.bool (decide ((k:Int)≤80))]) (by simp[results,Tryz.results68,go_sem]) rfl ?_
   refine⟨Av,nv,cv,ordL (l.take k),by rw[HE.out,show decide ((k:Int)≤80)=decide (k≤80) from decide_eq_decide.2 tB],hid Hnv.out,?_,hid (fun _=>by rw[HT.out]),exI⟩
   exact OwnR.moved2 Hown.out tR ta ta tB
end Go.Proofs.YtekjdeibnfaehaaGreat
