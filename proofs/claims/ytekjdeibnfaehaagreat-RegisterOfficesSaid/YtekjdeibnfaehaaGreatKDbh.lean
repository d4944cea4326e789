/- Texts of a proof. -/
import Derived.Test.YtekjdeibnfaehaaGreatKDat
set_option linter.unusedSimpArgs false
set_option linter.unusedVariables false
namespace Go.Proofs.YtekjdeibnfaehaaGreat
open Go Go.RowKit
structure Gh where
 l:Nat→List Rec
 k:Nat→Nat
 c:Nat→Int
def firmL(G:Gh)(p:Int):List Rec:=(G.l p.toNat).take (G.k p.toNat)
def Gh.put(G:Gh)(p:Nat)(l:List Rec)(k:Nat)(c:Int):Gh:=⟨upd G.l p l,upd G.k p k,upd G.c p c⟩
structure OffI(G:Gh)(p:Nat)(O:OffD):Prop where
 me:O.me=p
 j:Jour O.d O.m (G.l p) (G.k p) (G.c p)
 kb:∀ i,i<9→knB (O.kn i)=true
 kn:∀ q:Nat,q<9→∀ x∈O.kn q,∃r∈firmL G q,r.ao=x.o∧r.sq=x.s
 ho:∀ r∈G.l p,0≤r.ao∧r.ao<4∧(r.ao=p∨r∈firmL G r.ao)
 ls:∀ r∈G.l p,r.kind=1→r∈firmL G r.ao∧homeI r.ship=r.ao
 lo:∀ a∈G.l p,∀b∈G.l p,a.kind=1→b.kind=1→a=b∨leaseOn a b=false
structure MsgI(G:Gh)(m:MsgD):Prop where
 t0:0≤m.to
 t1:m.to<4
 f0:0≤m.fr
 f1:m.fr<4
 ne:m.fr≠m.to
 a0:0≤m.r.ao
 a1:m.r.ao<4
 h:m.r∈firmL G m.r.ao
 s:m.r∈firmL G m.fr
structure WD where
 off:Nat→OffD
 way:List MsgD
 e:Int
structure WI(n:Nat)(W:WD)(G:Gh):Prop where
 z:∀ q,4≤q→G.l q=[]
 o:∀ p,p<4→OffI G p (W.off p)
 m:∀ m∈W.way,MsgI G m
 u:∃ U:List Rec,U.length≤n∧∀ p,p<4→∀ r∈G.l p,r∈U
theorem next_in{l:List Rec}(hc:checkB l=true){o:Int}(h0:0≤o)(h1:o≤8):nextI l o=nextN l o:=by
 rw[nextI,if_pos hc,if_pos (inB_spec.2 ⟨h0,h1⟩)]
theorem hasR_in{x:List Rec}{r:Rec}(h:r∈x):hasR x r.ao r.sq=true:=List.any_eq_true.2 ⟨r,h,by simp[atB]⟩
theorem nodup_len:∀ {l U:List Rec},l.Nodup→(∀x∈l,x∈U)→l.length≤U.length
 | [],_,_,_=>Nat.zero_le _
 | a::t,U,h,hs=>by
  obtain⟨h1,h2⟩:=List.nodup_cons.1 h
  obtain⟨u,v,rfl⟩:=List.append_of_mem (hs a List.mem_cons_self)
  have ih:=nodup_len (l:=t) (U:=u++v) h2 fun x hx=>by
   have hm:=hs x (List.mem_cons_of_mem _ hx)
   rw[List.mem_append,List.mem_cons] at hm
   rw[List.mem_append]
   rcases hm with hm|hm|hm
   ·exact .inl hm
   ·exact absurd (hm▸hx) h1
   ·exact .inr hm
  simp only[List.length_append,List.length_cons] at *
  omega
def Grows(G G':Gh):Prop:=∀ p:Int,∀r∈firmL G p,r∈firmL G' p
theorem firm_sub{G:Gh}{p:Int}{r:Rec}(h:r∈firmL G p):r∈G.l p.toNat:=List.mem_of_mem_take h
theorem firm_at(G:Gh)(p:Nat):firmL G (p:Int)=(G.l p).take (G.k p):=by simp[firmL]
theorem grows_put{G:Gh}{p:Nat}{l':List Rec}{k':Nat}{c':Int}(hf:∀ r∈(G.l p).take (G.k p),r∈l'.take k'):Grows G (G.put p l' k' c'):=by
 intro q r hr
 unfold firmL Gh.put at *
 simp only[upd]
 by_cases hq:q.toNat=p
 ·rw[if_pos hq,if_pos hq]
  rw[hq] at hr
  exact hf r hr
 ·rw[if_neg hq,if_neg hq]
  exact hr
theorem MsgI.mono{G G':Gh}{m:MsgD}(h:MsgI G m)(g:Grows G G'):MsgI G' m:={h with h:=g _ _ h.h,s:=g _ _ h.s}
theorem OffI.mono{G:Gh}{p q:Nat}{O:OffD}{l':List Rec}{k':Nat}{c':Int}(h:OffI G q O)(hq:q≠p)(g:Grows G (G.put p l' k' c')):OffI (G.put p l' k' c') q O:=by
 have e1:(G.put p l' k' c').l q=G.l q:=upd_ne _ _ hq
 have e2:(G.put p l' k' c').k q=G.k q:=upd_ne _ _ hq
 have e3:(G.put p l' k' c').c q=G.c q:=upd_ne _ _ hq
 refine⟨h.me,by rw[e1,e2,e3];exact h.j,h.kb,fun i hi x hx=> ?_,?_,?_,?_⟩
 ·obtain⟨r,hr,h1⟩:=h.kn i hi x hx
  exact⟨r,g _ _ hr,h1⟩
 ·rw[e1]
  intro r hr
  obtain⟨h1,h2,h3⟩:=h.ho r hr
  exact⟨h1,h2,h3.imp id (g _ _)⟩
 ·rw[e1]
  intro r hr hk
  exact⟨g _ _ (h.ls r hr hk).1,(h.ls r hr hk).2⟩
 ·rw[e1]
  exact h.lo
theorem leaseOn_symm{a b:Rec}(ha:a.kind=1)(hb:b.kind=1):leaseOn a b=leaseOn b a:=by
 unfold leaseOn
 rw[decide_eq_true ha,decide_eq_true hb,Bool.true_and,Bool.true_and,show decide (b.ship=a.ship)=decide (a.ship=b.ship) from decide_eq_decide.2 ⟨Eq.symm,Eq.symm⟩,Bool.and_comm (decide (b.day≤a.til))]
theorem WI.step{n n':Nat}{W:WD}{G:Gh}(h:WI n W G){p:Nat}(hp:p<4){l':List Rec}{k':Nat}{c':Int}{O':OffD}{way':List MsgD}(e:Int)(r0:Rec)(C:Prop)
 (hj:Jour O'.d O'.m l' k' c') (hme:O'.me=p) (hf:∀ r∈(G.l p).take (G.k p),r∈l'.take k') (hkb:∀ i,i<9→knB (O'.kn i)=true)
 (hkn:∀ q:Nat,q<9→∀ x∈O'.kn q,x∈(W.off p).kn q∨∃ r∈firmL G q,r.ao=x.o∧r.sq=x.s)
 (hl:∀ r∈l',r∈G.l p∨r=r0∧C)
 (ha:C→0≤r0.ao∧r0.ao<4∧(r0.ao=p∨r0∈firmL G r0.ao))
 (hb:C→r0.kind=1→(r0∈firmL G r0.ao∨r0.ao=p∧r0∈l'.take k')∧homeI r0.ship=r0.ao)
 (hc:C→r0.kind=1→∀ b∈G.l p,b.kind=1→r0=b∨leaseOn r0 b=false)
 (hn:n≤n') (hu:C→r0∈firmL G r0.ao∨n+1≤n')
 (hw:∀ m∈way',m∈W.way∨MsgI (G.put p l' k' c') m):WI n' ⟨upd W.off p O',way',e⟩ (G.put p l' k' c')∧Grows G (G.put p l' k' c'):=by
 have g:Grows G (G.put p l' k' c'):=grows_put hf
 have e1:(G.put p l' k' c').l p=l':=upd_at _ _ _
 have e2:(G.put p l' k' c').k p=k':=upd_at _ _ _
 have e3:(G.put p l' k' c').c p=c':=upd_at _ _ _
 have I:=h.o p hp
 refine⟨⟨fun q hq=>(upd_ne _ _ tB).trans (h.z q hq),fun q hq=> ?_,fun m hm=> ?_,?_⟩,g⟩
 ·by_cases hqp:q=p
  ·subst hqp
   simp only[upd_at]
   refine⟨hme,by rw[e1,e2,e3];exact hj,hkb,fun i hi x hx=> ?_,?_,?_,?_⟩
   ·rcases hkn i hi x hx with hx|⟨r,hr,hq⟩
    ·obtain⟨r,hr,hq⟩:=I.kn i hi x hx
     exact⟨r,g _ _ hr,hq⟩
    ·exact⟨r,g _ _ hr,hq⟩
   ·rw[e1]
    intro r hr
    rcases hl r hr with hr|⟨rfl,hC⟩
    ·obtain⟨h1,h2,h3⟩:=I.ho r hr
     exact⟨h1,h2,h3.imp id (g _ _)⟩
    ·obtain⟨h1,h2,h3⟩:=ha hC
     exact⟨h1,h2,h3.imp id (g _ _)⟩
   ·rw[e1]
    intro r hr hk
    rcases hl r hr with hr|⟨rfl,hC⟩
    ·exact⟨g _ _ (I.ls r hr hk).1,(I.ls r hr hk).2⟩
    ·obtain⟨h1,h2⟩:=hb hC hk
     refine⟨?_,h2⟩
     rcases h1 with h1|⟨h1,h3⟩
     ·exact g _ _ h1
     ·rw[h1,firm_at,e1,e2];exact h3
   ·rw[e1]
    intro a hA b hB ka kb
    rcases hl a hA with hA|⟨rfl,hC⟩
    ·rcases hl b hB with hB|⟨rfl,hC⟩
     ·exact I.lo a hA b hB ka kb
     ·rcases hc hC kb a hA ka with h1|h1
      ·exact .inl h1.symm
      ·exact .inr ((leaseOn_symm ka kb).trans h1)
    ·rcases hl b hB with hB|⟨rfl,_⟩
     ·exact hc hC ka b hB kb
     ·exact .inl rfl
  ·simp only[upd_ne _ _ hqp]
   exact(h.o q hq).mono hqp g
 ·rcases hw m hm with hm|hm
  ·exact(h.m m hm).mono g
  ·exact hm
 ·obtain⟨U,hU,hin⟩:=h.u
  have hold:∀ q,q<4→∀ r∈(G.put p l' k' c').l q,r∈U∨r=r0∧C:=by
   intro q hq r hr
   by_cases hqp:q=p
   ·subst hqp
    rw[e1] at hr
    exact(hl r hr).imp (hin q hq r) id
   ·rw[show(G.put p l' k' c').l q=G.l q from upd_ne _ _ hqp] at hr
    exact .inl (hin q hq r hr)
  by_cases hC:C
  ·rcases hu hC with h1|h1
   ·refine⟨U,by omega,fun q hq r hr=> ?_⟩
    rcases hold q hq r hr with h2|⟨rfl,_⟩
    ·exact h2
    ·obtain⟨a0,a1,_⟩:=ha hC
     exact hin r.ao.toNat tB r (firm_sub h1)
   ·refine⟨r0::U,by simp only[List.length_cons];omega,fun q hq r hr=> ?_⟩
    rcases hold q hq r hr with h2|⟨rfl,_⟩
    ·exact List.mem_cons_of_mem _ h2
    ·exact List.mem_cons_self
  ·refine⟨U,by omega,fun q hq r hr=> ?_⟩
   rcases hold q hq r hr with h2|⟨_,h3⟩
   ·exact h2
   ·exact absurd h3 hC
section
variable{n:Nat}{W:WD}{G:Gh}{p:Nat}
theorem mem_recs{O:OffD}(h:OffI G p O)(r:Rec):r∈O.m.recs↔r∈G.l p:=by rw[h.j.recs];exact(ordL_perm _).mem_iff
theorem OffI.sorted{O:OffD}(h:OffI G p O):Sorted O.m.recs:=by rw[h.j.recs];exact ordL_sorted h.j.apart
theorem OffI.check{O:OffD}(h:OffI G p O):checkB O.m.recs=true:=(memOk_facts h.j.mem).2.2.2.1
theorem OffI.long{O:OffD}(h:OffI G p O):O.m.recs.length=(G.l p).length:=by rw[h.j.recs,(ordL_perm _).length_eq]
theorem OffI.ok{O:OffD}(h:OffI G p O)(hp:p<4):offOk O=true:=by
 simp only[offOk,Bool.and_eq_true,List.all_eq_true,List.mem_range]
 exact⟨⟨inB_spec.2 (by rw[h.me];omega),h.j.mem⟩,h.kb⟩
theorem OffI.fresh{O:OffD}(h:OffI G p O)(hp:p<4):hasR O.m.recs O.me (nextI O.m.recs O.me)=false:=by
 rw[next_in h.check (by rw[h.me];omega) (by rw[h.me];omega)]
 exact has_next h.sorted _
theorem nowhere{l:List Rec}{r:Rec}(h:hasR l r.ao r.sq=false):r∉l:=fun hr=>by rw[hasR_in hr] at h;cases h
theorem WI.agree(h:WI n W G)(hp:p<4){x y:Rec}(hx:x∈G.l p)(hy:y∈firmL G y.ao)(h1:x.ao=y.ao)(h2:x.sq=y.sq):x=y:=by
 obtain⟨a0,a1,a2⟩:=(h.o p hp).ho x hx
 have hy':=firm_sub hy
 have hq:x.ao.toNat<4:=by omega
 rw[←h1] at hy'
 have hx':x∈G.l x.ao.toNat:=by
  rcases a2 with a2|a2
  ·rw[a2];simpa using hx
  ·exact firm_sub a2
 exact apart_unique (h.o _ hq).j.apart hx' hy' h1 h2
theorem WI.has(h:WI n W G)(hp:p<4){r:Rec}(hr:r∈firmL G r.ao)(hh:hasR (W.off p).m.recs r.ao r.sq=true):r∈(W.off p).m.recs:=by
 obtain⟨x,hx,ha⟩:=List.any_eq_true.1 hh
 simp only[atB,Bool.and_eq_true,decide_eq_true_eq] at ha
 have:=h.agree hp ((mem_recs (h.o p hp) x).1 hx) hr ha.1 ha.2
 rw[←this]
 exact hx
theorem few_of(h:WI n W G)(hp:p<4):(G.l p).length≤n:=by
 obtain⟨U,hU,hin⟩:=h.u
 have hnd:(G.l p).Nodup:=(h.o p hp).j.apart.imp fun hab he=>hab ⟨by rw[he],by rw[he]⟩
 have:=nodup_len hnd (fun r hr=>hin p hp r hr)
 omega
theorem appE_new{d:DriveD}{m:MemD}{l:List Rec}{k:Nat}{c:Int}(h:Jour d m l k c){r:Rec}(hn:hasR m.recs r.ao r.sq=false):appE d m r≠72∧appE d m r≠76∧(appE d m r=0→recOk r=true∧l.length<80):=by
 have hlen:m.recs.length=l.length:=by rw[h.recs,(ordL_perm l).length_eq]
 have hf:=h.few
 rw[appE,if_pos h.mem]
 by_cases hk:recOk r=true
 ·rw[if_pos hk,putE_new (findR_none hn)]
  split
  ·exact⟨by decide,by decide,fun h=>by cases h⟩
  ·exact⟨by decide,by decide,fun _=>⟨hk,by omega⟩⟩
 ·rw[if_neg hk]
  exact⟨by decide,by decide,fun h=>by cases h⟩
theorem WI.note(h:WI n W G)(hp:p<4)(r:Rec):noteE (W.off p) r≠72∧noteE (W.off p) r≠76∧(noteE (W.off p) r=0→∃ G',WI (n+1) ⟨upd W.off p (noteO (W.off p) r),W.way,0⟩ G'∧Grows G G'):=by
 have I:=h.o p hp
 obtain⟨O,hO⟩:∃ O,W.off p=O:=⟨_,rfl⟩
 rw[hO] at I ⊢
 have hfr:hasR O.m.recs (ownR O r).ao (ownR O r).sq=false:=I.fresh hp
 obtain⟨e1,e2,e3⟩:=appE_new I.j hfr
 have hE:noteE O r=if r.kind=1 then 75 else appE O.d O.m (ownR O r):=by rw[noteE,if_pos (I.ok hp)]
 have hne:noteE O r≠72∧noteE O r≠76:=by
  rw[hE]
  split
  ·exact qd
  ·exact⟨e1,e2⟩
 refine⟨hne.1,hne.2,fun h0=> ?_⟩
 rw[noteO,if_pos h0]
 rw[hE] at h0
 by_cases hk:r.kind=1
 ·rw[if_pos hk] at h0;cases h0
 rw[if_neg hk] at h0
 obtain⟨k1,k2⟩:=e3 h0
 obtain⟨_,hJ,_⟩:=I.j.append k1 hfr k2
 have hme:(ownR O r).ao=p:=I.me
 exact⟨_,h.step hp (O':=apdO O (ownR O r)) 0 (ownR O r) True hJ I.me (fun x hx=>by rw[List.take_append_of_le_length I.j.le];exact hx) I.kb (fun q _ x hx=> .inl (by rw[hO];exact hx))
  (fun x hx=>(List.mem_append.1 hx).imp id fun hx=>⟨List.mem_singleton.1 hx,trivial⟩) (fun _=>⟨by omega,by omega,.inl hme⟩) (fun _ hk1=>absurd hk1 hk) (fun _ hk1=>absurd hk1 hk) tB (fun _=> .inr (Nat.le_refl _)) (fun m hm=> .inl hm)⟩
theorem any_leaseOn{l:List Rec}{r:Rec}(h:l.any (leaseOn r)=false):∀ b∈l,leaseOn r b=false:=fun b hb=>by
 cases hq:leaseOn r b with
 | false=>rfl
 | true=>rw[List.any_eq_true.2 ⟨b,hb,hq⟩] at h;cases h
theorem WI.grant(h:WI n W G)(hp:p<4)(s t d u:Int):grantE (W.off p) s t d u≠72∧grantE (W.off p) s t d u≠76∧(grantE (W.off p) s t d u=0→∃ G',WI (n+1) ⟨upd W.off p (grantO (W.off p) s t d u),W.way,0⟩ G'∧Grows G G'):=by
 have I:=h.o p hp
 obtain⟨O,hO⟩:∃ O,W.off p=O:=⟨_,rfl⟩
 rw[hO] at I ⊢
 obtain⟨r,hr⟩:∃ r,leaseR O s t d u=r:=⟨_,rfl⟩
 have hme:r.ao=p:=by rw[←hr];exact I.me
 have hkd:r.kind=1:=by rw[←hr];rfl
 have hfr:hasR O.m.recs r.ao r.sq=false:=by rw[←hr];exact I.fresh hp
 obtain⟨e1,e2,e3⟩:=appE_new I.j hfr
 have hE:grantE O s t d u=if inB s 1 999=true∧inB t 0 8=true then if inB d 0 100000=true∧inB u 0 100000=true then if leasable O r=true then appE O.d O.m r else 75 else 6 else 1:=by rw[grantE,if_pos (I.ok hp),hr]
 have hne:grantE O s t d u≠72∧grantE O s t d u≠76:=by
  rw[hE]
  split
  ·split
   ·split
    ·exact⟨e1,e2⟩
    ·exact qd
   ·exact qd
  ·exact qd
 refine⟨hne.1,hne.2,fun h0=> ?_⟩
 rw[grantO,if_pos h0,hr]
 rw[hE] at h0
 split at h0
 ·split at h0
  ·split at h0
   ·rename_i hls
    simp only[leasable,Bool.and_eq_true,decide_eq_true_eq,Bool.not_eq_true'] at hls
    obtain⟨h1,h2,h3⟩:=hls
    obtain⟨k1,k2⟩:=e3 h0
    obtain⟨_,hJ,_⟩:=I.j.append k1 hfr k2
    have hS:=hJ.sync
    exact⟨_,h.step hp (O':=firmO (apdO O r)) 0 r True hS I.me (fun x hx=>by rw[List.take_length];exact List.mem_append_left _ (List.mem_of_mem_take hx)) I.kb (fun q _ x hx=> .inl (by rw[hO];exact hx))
     (fun x hx=>(List.mem_append.1 hx).imp id fun hx=>⟨List.mem_singleton.1 hx,trivial⟩) (fun _=>⟨by omega,by omega,.inl hme⟩) (fun _ _=>⟨.inr ⟨hme,by rw[List.take_length];exact List.mem_append_right _ (List.mem_singleton.2 rfl)⟩,by rw[h1,I.me,hme]⟩)
     (fun _ _ b hb _=> .inr (any_leaseOn h3 b ((mem_recs I b).2 hb))) tB (fun _=> .inr (Nat.le_refl _)) (fun m hm=> .inl hm)⟩
   ·cases h0
  ·cases h0
 ·cases h0
theorem WI.offer(h:WI n W G)(hp:p<4)(t:Int)(ht0:0≤t)(ht1:t<4):offerE (W.off p) t≠72∧offerE (W.off p) t≠76∧(offerE (W.off p) t=0→∃ G',Grows G G'∧G'.l=G.l∧(∀m∈offerL (W.off p) t,MsgI G' m)∧
 ∀way',(∀m∈way',m∈W.way∨m∈offerL (W.off p) t)→∀ e,WI n ⟨upd W.off p (offerO (W.off p) t),way',e⟩ G'):=by
 have I:=h.o p hp
 have hE:offerE (W.off p) t=if inB t 0 8=true∧t≠(W.off p).me then 0 else 1:=by rw[offerE,if_pos (I.ok hp)]
 have hne:offerE (W.off p) t≠72∧offerE (W.off p) t≠76:=by
  rw[hE]
  split
  ·exact qd
  ·exact qd
 refine⟨hne.1,hne.2,fun h0=> ?_⟩
 have hL:∀ m∈offerL (W.off p) t,m.fr=p∧m.to=t∧m.r∈G.l p∧t≠p:=by
  intro m hm
  rw[offerL,if_pos h0] at hm
  obtain⟨r,hr,rfl⟩:=List.mem_map.1 hm
  refine⟨I.me,rfl,(mem_recs I r).1 (List.mem_filter.1 hr).1,fun he=> ?_⟩
  rw[hE,if_neg (by rw[I.me];exact fun hx=>hx.2 he)] at h0
  cases h0
 have g:Grows G (G.put p (G.l p) (G.l p).length (G.c p)):=grows_put fun x hx=>by rw[List.take_length];exact List.mem_of_mem_take hx
 have hM:∀ m∈offerL (W.off p) t,MsgI (G.put p (G.l p) (G.l p).length (G.c p)) m:=by
  intro m hm
  obtain⟨h1,h2,h3,h4⟩:=hL m hm
  obtain⟨a0,a1,a2⟩:=I.ho m.r h3
  have hs:m.r∈firmL (G.put p (G.l p) (G.l p).length (G.c p)) p:=by
   rw[firm_at]
   simp only[Gh.put,upd_at,List.take_length]
   exact h3
  refine⟨by omega,by omega,by omega,by omega,by rw[h1,h2];exact fun he=>h4 he.symm,a0,a1,?_,by rw[h1];exact hs⟩
  rcases a2 with a2|a2
  ·rw[a2];exact hs
  ·exact g _ _ a2
 have hgl:(G.put p (G.l p) (G.l p).length (G.c p)).l=G.l:=by
  funext q
  simp only[Gh.put,upd]
  split
  ·rename_i hq;rw[hq]
  ·rfl
 refine⟨_,g,hgl,hM,fun way' hw e=>(h.step hp (O':=offerO (W.off p) t) e zeroR False ?_ ?_ ?_ ?_ ?_ (fun r hr=> .inl hr) (fun h=>h.elim) (fun h=>h.elim) (fun h=>h.elim) (Nat.le_refl _) (fun h=>h.elim) (fun m hm=>(hw m hm).imp id (hM m))).1⟩
 ·rw[offerO,if_pos h0];exact I.j.sync
 ·rw[offerO,if_pos h0];exact I.me
 ·intro x hx
  rw[List.take_length];exact List.mem_of_mem_take hx
 ·rw[offerO,if_pos h0];exact I.kb
 ·rw[offerO,if_pos h0];exact fun q _ x hx=> .inl hx
theorem WI.recv(h:WI n W G){m:MsgD}(hm:MsgI G m):recvE (W.off m.to.toNat) m≠72∧recvE (W.off m.to.toNat) m≠76∧(m.ack=false→n<80→recvE (W.off m.to.toNat) m=0)∧(recvE (W.off m.to.toNat) m=0→∃ G',Grows G G'∧(∀x∈recvL (W.off m.to.toNat) m,MsgI G' x)∧(m.ack=false→m.r∈firmL G' m.to)∧(∀q:Nat,q≠m.to.toNat→G'.l q=G.l q)∧(∀x∈G'.l m.to.toNat,x∈G.l m.to.toNat∨m.ack=false∧x=m.r)∧(∀x∈G.l m.to.toNat,x∈G'.l m.to.toNat)∧
 ∀way',(∀x∈way',x∈W.way∨x∈recvL (W.off m.to.toNat) m)→∀ e,WI n ⟨upd W.off m.to.toNat (recvO (W.off m.to.toNat) m),way',e⟩ G'):=by
 obtain⟨p,hp⟩:∃ p,m.to.toNat=p:=⟨_,rfl⟩
 have t0:=hm.t0
 have t1:=hm.t1
 have hp4:p<4:=by omega
 have hto:m.to=p:=by omega
 rw[hp]
 have I:=h.o p hp4
 have f0:=hm.f0
 have f1:=hm.f1
 have hne:=hm.ne
 have hE:recvE (W.off p) m=if m.ack=true then if hasR (W.off p).m.recs m.r.ao m.r.sq=true then 0 else 3 else appE (W.off p).d (W.off p).m m.r:=by
  rw[recvE,if_pos (I.ok hp4),if_pos ⟨by rw[I.me,hto],inB_spec.2 ⟨by omega,by omega⟩,by rw[I.me,←hto];exact hne⟩]
 have hpl:isPlaceB m.r.ao m.r.sq=true:=by
  have hk:=(h.o m.r.ao.toNat qe).j.ok m.r (firm_sub hm.h)
  simp only[recOk,Bool.and_eq_true] at hk
  exact hk.1.1.1.1.1
 have hkb:∀ O:OffD,O.kn=(W.off p).kn→∀ i,i<9→knB ((learnO O m).kn i)=true:=by
  intro O hO i hi
  simp only[learnO,hO,upd]
  split
  ·exact learnL_ok (I.kb _ tB) hpl
  ·exact I.kb i hi
 have hkn:∀ O:OffD,O.kn=(W.off p).kn→∀ q:Nat,q<9→∀ x∈(learnO O m).kn q,x∈(W.off p).kn q∨∃ r∈firmL G q,r.ao=x.o∧r.sq=x.s:=by
  intro O hO q _ x hx
  simp only[learnO,hO,upd] at hx
  split at hx
  ·rename_i he
   rcases learnL_mem.1 hx with hx|rfl
   ·exact .inl (by rw[he];exact hx)
   ·exact .inr ⟨m.r,by rw[he,Int.toNat_of_nonneg f0];exact hm.s,rfl,rfl⟩
  ·exact .inl hx
 by_cases hack:m.ack=true
 ·have hE2:recvE (W.off p) m=if hasR (W.off p).m.recs m.r.ao m.r.sq=true then 0 else 3:=by rw[hE,if_pos hack]
  have hE3:recvE (W.off p) m≠72∧recvE (W.off p) m≠76:=by
   rw[hE2]
   split
   ·exact qd
   ·exact qd
  refine⟨hE3.1,hE3.2,fun hx=>(by rw[hack] at hx;cases hx),fun h0=> ?_⟩
  have hL:recvL (W.off p) m=[]:=by rw[recvL,if_neg qQ]
  have hO:recvO (W.off p) m=learnO (W.off p) m:=by rw[recvO,if_pos h0,if_pos hack]
  have g:Grows G (G.put p (G.l p) (G.k p) (G.c p)):=grows_put fun x hx=>hx
  have e1:(G.put p (G.l p) (G.k p) (G.c p)).l p=G.l p:=upd_at _ _ _
  refine⟨_,g,by rw[hL];exact fun x hx=>absurd hx List.not_mem_nil,fun hx=>(by rw[hack] at hx;cases hx),fun q hq=>upd_ne _ _ hq,fun x hx=> .inl (by rw[e1] at hx;exact hx),fun x hx=>by rw[e1];exact hx,fun way' hw e=> ?_⟩
  rw[hL] at hw
  rw[hO]
  exact(h.step hp4 (O':=learnO (W.off p) m) e zeroR False I.j I.me (fun x hx=>hx) (hkb _ rfl) (hkn _ rfl) (fun r hr=> .inl hr) (fun h=>h.elim) (fun h=>h.elim) (fun h=>h.elim) (Nat.le_refl _) (fun h=>h.elim) (fun x hx=> .inl ((hw x hx).resolve_right List.not_mem_nil))).1
 ·have hack2:m.ack=false:=by simpa using hack
  have hE2:recvE (W.off p) m=appE (W.off p).d (W.off p).m m.r:=by rw[hE,if_neg hack]
  have fin:∀ (l':List Rec),Jour (appD (W.off p).d (W.off p).m m.r) (appM (W.off p).d (W.off p).m m.r) l' (G.k p) (G.c p)→(∀x∈G.l p,x∈l')→(∀x∈l',x∈G.l p∨x=m.r)→m.r∈l'→recvE (W.off p) m=0→∃ G',Grows G G'∧(∀x∈recvL (W.off p) m,MsgI G' x)∧(m.ack=false→m.r∈firmL G' m.to)∧(∀q:Nat,q≠p→G'.l q=G.l q)∧(∀x∈G'.l p,x∈G.l p∨m.ack=false∧x=m.r)∧(∀x∈G.l p,x∈G'.l p)∧
   ∀way',(∀x∈way',x∈W.way∨x∈recvL (W.off p) m)→∀ e,WI n ⟨upd W.off p (recvO (W.off p) m),way',e⟩ G':=by
   intro l' hJ hsub hl' hin h0
   have hS:=hJ.sync
   have hL:recvL (W.off p) m=[⟨(W.off p).me,m.fr,true,m.r⟩]:=by rw[recvL,if_pos ⟨h0,hack2⟩]
   have hO:recvO (W.off p) m=learnO (firmO (apdO (W.off p) m.r)) m:=by rw[recvO,if_pos h0,if_neg hack]
   have g:Grows G (G.put p l' l'.length (G.c p)):=grows_put fun x hx=>by rw[List.take_length];exact hsub x (List.mem_of_mem_take hx)
   have e1:(G.put p l' l'.length (G.c p)).l p=l':=upd_at _ _ _
   have hfm:m.r∈firmL (G.put p l' l'.length (G.c p)) p:=by
    rw[firm_at]
    simp only[Gh.put,upd_at,List.take_length]
    exact hin
   have hM:∀ x∈recvL (W.off p) m,MsgI (G.put p l' l'.length (G.c p)) x:=by
    rw[hL]
    intro x hx
    rw[List.mem_singleton] at hx
    subst hx
    exact⟨f0,f1,by simp only[I.me];omega,by simp only[I.me];omega,by simp only[I.me];rw[←hto];exact fun he=>hne he.symm,hm.a0,hm.a1,g _ _ hm.h,by simp only[I.me];exact hfm⟩
   refine⟨_,g,hM,fun _=>by rw[hto];exact hfm,fun q hq=>upd_ne _ _ hq,fun x hx=>by rw[e1] at hx;exact(hl' x hx).imp id fun hx=>⟨hack2,hx⟩,fun x hx=>by rw[e1];exact hsub x hx,fun way' hw e=> ?_⟩
   rw[hO]
   refine(h.step hp4 (O':=learnO (firmO (apdO (W.off p) m.r)) m) e m.r True hS I.me (fun x hx=>by rw[List.take_length];exact hsub x (List.mem_of_mem_take hx)) (hkb _ rfl) (hkn _ rfl) (fun r hr=>(hl' r hr).imp id fun hr=>⟨hr,trivial⟩)
    (fun _=>⟨hm.a0,hm.a1,.inr hm.h⟩) (fun _ hk=>⟨.inl hm.h,?_⟩) (fun _ hk b hb kb=> ?_) (Nat.le_refl _) (fun _=> .inl hm.h) (fun x hx=>(hw x hx).imp id (hM x))).1
   ·exact((h.o m.r.ao.toNat qe).ls m.r (firm_sub hm.h) hk).2
   ·obtain⟨b1,b2⟩:=I.ls b hb kb
    have ha:=((h.o m.r.ao.toNat qe).ls m.r (firm_sub hm.h) hk).2
    by_cases hsh:b.ship=m.r.ship
    ·have hao:b.ao=m.r.ao:=by rw[←b2,←ha,hsh]
     rw[hao] at b1
     exact(h.o m.r.ao.toNat qe).lo m.r (firm_sub hm.h) b (firm_sub b1) hk kb
    ·exact .inr (by simp[leaseOn,hsh])
  cases hh:hasR (W.off p).m.recs m.r.ao m.r.sq with
  | true=>
   have hin:=h.has hp4 hm.h hh
   obtain⟨a1,a2,a3⟩:=I.j.again hin
   rw[hE2,a1]
   refine⟨by decide,by decide,fun _ _=>rfl,fun _=> ?_⟩
   exact fin (G.l p) (by rw[a2,a3];exact I.j) (fun x hx=>hx) (fun x hx=> .inl hx) ((mem_recs I _).1 hin) (by rw[hE2,a1])
  | false=>
   obtain⟨b1,b2,b3⟩:=appE_new I.j hh
   refine⟨by rw[hE2];exact b1,by rw[hE2];exact b2,fun _ hn=> ?_,fun h0=> ?_⟩
   ·have hk:=(h.o m.r.ao.toNat qe).j.ok m.r (firm_sub hm.h)
    have:=few_of h hp4
    rw[hE2]
    exact(I.j.append hk hh tB).1
   ·obtain⟨k1,k2⟩:=b3 (by rw[←hE2];exact h0)
    obtain⟨_,hJ,_⟩:=I.j.append k1 hh k2
    exact fin _ hJ (fun x hx=>List.mem_append_left _ hx) (fun x hx=>(List.mem_append.1 hx).imp id List.mem_singleton.1) (List.mem_append_right _ (List.mem_singleton.2 rfl)) h0
theorem WI.rest(h:WI n W G)(hp:p<4)(a b:Int):restE (W.off p) a b=0∧∃ G',WI n ⟨upd W.off p (restO (W.off p) a b),W.way,0⟩ G'∧Grows G G':=by
 have I:=h.o p hp
 obtain⟨j,hkj,hjl,he,hr,hJ⟩:=I.j.crash a b
 have h0:restE (W.off p) a b=0:=by rw[restE,if_pos (I.ok hp),he]
 refine⟨h0,_,h.step hp (O':=restO (W.off p) a b) 0 zeroR False (l':=(G.l p).take j) (k':=j) (c':=G.c p) ?_ ?_ ?_ ?_ ?_ (fun r hr=> .inl (List.mem_of_mem_take hr)) (fun h=>h.elim) (fun h=>h.elim) (fun h=>h.elim) (Nat.le_refl _) (fun h=>h.elim) (fun m hm=> .inl hm)⟩
 ·rw[restO,if_pos h0];exact hJ
 ·rw[restO,if_pos h0];exact I.me
 ·intro x hx
  rw[List.take_take,Nat.min_self]
  exact(List.take_subset_take_left _ hkj) hx
 ·rw[restO,if_pos h0];exact fun _ _=>knB_nil
 ·rw[restO,if_pos h0];exact fun q _ x hx=>absurd hx List.not_mem_nil
end
def beginW:WD:=⟨fun p=>newO p,[],0⟩
def noGh:Gh:=⟨fun _=>[],fun _=>0,fun _=>0⟩
theorem WI.begin:WI 0 beginW noGh:=by
 refine⟨fun _ _=>rfl,fun p hp=> ?_,fun m hm=>absurd hm List.not_mem_nil,[],Nat.le_refl _,fun _ _ r hr=>absurd hr List.not_mem_nil⟩
 have hO:beginW.off p=⟨p,newDrive,newMem,fun _=>[]⟩:=by
  show newO p=_
  rw[newO,if_pos (inB_spec.2 ⟨by omega,by omega⟩)]
 rw[hO]
 exact⟨rfl,new_jour,fun _ _=>knB_nil,fun _ _ x hx=>absurd hx List.not_mem_nil,fun r hr=>absurd hr List.not_mem_nil,fun r hr=>absurd hr List.not_mem_nil,fun a hA=>absurd hA List.not_mem_nil⟩
end Go.Proofs.YtekjdeibnfaehaaGreat
set_option linter.unusedSimpArgs false
set_option linter.unusedVariables false
namespace Go.Proofs.YtekjdeibnfaehaaGreat
open Go Go.RowKit
structure MoveD where
 what:Int
 a:Int
 b:Int
 x:RawD
 k0:Int
 k1:Int
def setW(W:WD)(p:Nat)(O:OffD)(way:List MsgD):WD:=⟨upd W.off p O,way,0⟩
def errW(W:WD)(way:List MsgD)(e:Int):WD:=⟨W.off,way,e⟩
def noMsg:MsgD:=⟨0,0,false,zeroR⟩
def msgI(W:WD)(b:Int):Nat:=(b % W.way.length).toNat
def msgW(W:WD)(b:Int):MsgD:=W.way[msgI W b]?.getD noMsg
def wayW(W:WD)(d b:Int):List MsgD:=if d<6∨40<W.way.length then W.way.take (msgI W b)++W.way.drop (msgI W b+1) else W.way
def recvW(W:WD)(x:MsgD)(way:List MsgD):WD:=if recvE (W.off x.to.toNat) x=0 then setW W x.to.toNat (recvO (W.off x.to.toNat) x) (way++recvL (W.off x.to.toNat) x) else errW W way (recvE (W.off x.to.toNat) x)
def restW(W:WD)(p:Nat)(a b:Int):WD:=if restE (W.off p) a b=0 then setW W p (restO (W.off p) a b) W.way else errW W W.way (restE (W.off p) a b)
def offerW(W:WD)(p:Nat)(t:Int):WD:=if offerE (W.off p) t=0 then setW W p (offerO (W.off p) t) (W.way++(offerL (W.off p) t).take 12) else errW W W.way (offerE (W.off p) t)
def grantW(W:WD)(p:Nat)(s t d u:Int):WD:=if grantE (W.off p) s t d u=0 then setW W p (grantO (W.off p) s t d u) W.way else errW W W.way (grantE (W.off p) s t d u)
def noteW(W:WD)(p:Nat)(r:Rec):WD:=if noteE (W.off p) r=0 then setW W p (noteO (W.off p) r) W.way else errW W W.way (noteE (W.off p) r)
def movedW(W:WD)(m:MoveD):WD:=
 if m.what % 12=0 then restW W (m.a % 4).toNat m.k0 m.k1
 else if m.what % 12≤2 then offerW W (m.a % 4).toNat (m.b % 4)
 else if m.what % 12≤7 then if W.way=[] then errW W W.way 0 else if m.what % 12=3 then errW W (wayW W 3 m.b) 0 else recvW W (msgW W m.b) (wayW W (m.what % 12) m.b)
 else if m.what % 12≤9 then grantW W (m.a % 4).toNat (1+m.b % 20) (madeR (W.off (m.a % 4).toNat).m.recs m.x).to (madeR (W.off (m.a % 4).toNat).m.recs m.x).day ((madeR (W.off (m.a % 4).toNat).m.recs m.x).day+m.x.a6 % 12)
 else noteW W (m.a % 4).toNat (madeR (W.off (m.a % 4).toNat).m.recs m.x)
section
variable{n:Nat}{W:WD}{G:Gh}{p:Nat}
theorem WI.way(h:WI n W G){way:List MsgD}(hw:∀ m∈way,m∈W.way)(e:Int):WI n ⟨W.off,way,e⟩ G:=⟨h.z,h.o,fun m hm=>h.m m (hw m hm),h.u⟩
theorem WI.le(h:WI n W G){k:Nat}(hk:n≤k):WI k W G:=by
 obtain⟨U,hU,hin⟩:=h.u
 exact⟨h.z,h.o,h.m,U,by omega,hin⟩
theorem Grows.refl(G:Gh):Grows G G:=fun _ _ h=>h
theorem wayW_sub(W:WD)(d b:Int):∀ m∈wayW W d b,m∈W.way:=by
 intro m hm
 unfold wayW at hm
 split at hm
 ·rcases List.mem_append.1 hm with hm|hm
  ·exact List.mem_of_mem_take hm
  ·exact List.mem_of_mem_drop hm
 ·exact hm
theorem msgI_lt{W:WD}(hw:W.way≠[])(b:Int):msgI W b<W.way.length:=by
 have h0:0<W.way.length:=List.length_pos_iff.2 hw
 have h1:=Int.emod_lt_of_pos b (show(0:Int)<W.way.length by omega)
 have h2:=Int.emod_nonneg b (show(W.way.length:Int)≠0 by omega)
 unfold msgI
 omega
theorem msgW_mem{W:WD}(hw:W.way≠[])(b:Int):msgW W b∈W.way:=by
 rw[msgW,List.getElem?_eq_getElem (msgI_lt hw b)]
 exact List.getElem_mem _
theorem mod4(a:Int):(a % 4).toNat<4:=by omega
theorem WI.moved(h:WI n W G)(m:MoveD):∃ G',WI (n+1) (movedW W m) G'∧Grows G G'∧(movedW W m).e≠72∧(movedW W m).e≠76:=by
 have hp:=mod4 m.a
 unfold movedW
 split
 ·obtain⟨h0,G',h1,h2⟩:=h.rest hp m.k0 m.k1
  rw[restW,if_pos h0]
  exact⟨G',h1.le tB,h2,by simp[setW],by simp[setW]⟩
 split
 ·obtain⟨h1,h2,h3⟩:=h.offer hp (m.b % 4) tB tB
  rw[offerW]
  split
  ·rename_i h0
   obtain⟨G',g,_,hM,hW⟩:=h3 h0
   exact⟨G',(hW _ (fun x hx=>(List.mem_append.1 hx).imp id List.mem_of_mem_take) 0).le tB,g,by simp[setW],by simp[setW]⟩
  ·exact qf
 split
 ·split
  ·exact⟨G,(h.way (fun _ hx=>hx) _).le tB,Grows.refl G,by simp[errW],by simp[errW]⟩
  ·rename_i hw
   split
   ·exact⟨G,(h.way (wayW_sub _ _ _) _).le tB,Grows.refl G,by simp[errW],by simp[errW]⟩
   ·obtain⟨h1,h2,h3,h4⟩:=h.recv (h.m _ (msgW_mem hw m.b))
    rw[recvW]
    split
    ·rename_i h0
     obtain⟨G',g,hM,_,_,_,_,hW⟩:=h4 h0
     exact⟨G',(hW _ (fun x hx=>(List.mem_append.1 hx).imp (wayW_sub _ _ _ x) id) 0).le tB,g,by simp[setW],by simp[setW]⟩
    ·exact⟨G,(h.way (wayW_sub _ _ _) _).le tB,Grows.refl G,h1,h2⟩
 split
 ·obtain⟨h1,h2,h3⟩:=h.grant hp (1+m.b % 20) (madeR (W.off (m.a % 4).toNat).m.recs m.x).to (madeR (W.off (m.a % 4).toNat).m.recs m.x).day ((madeR (W.off (m.a % 4).toNat).m.recs m.x).day+m.x.a6 % 12)
  rw[grantW]
  split
  ·rename_i h0
   obtain⟨G',hW,g⟩:=h3 h0
   exact⟨G',hW,g,by simp[setW],by simp[setW]⟩
  ·exact qf
 ·obtain⟨h1,h2,h3⟩:=h.note hp (madeR (W.off (m.a % 4).toNat).m.recs m.x)
  rw[noteW]
  split
  ·rename_i h0
   obtain⟨G',hW,g⟩:=h3 h0
   exact⟨G',hW,g,by simp[setW],by simp[setW]⟩
  ·exact qf
theorem WI.firm(h:WI n W G){q:Int}(h0:0≤q)(h1:q<4){r:Rec}(hr:r∈firmL G q):r∈(W.off q.toNat).m.recs:=(mem_recs (h.o _ tB) r).2 (firm_sub hr)
end
end Go.Proofs.YtekjdeibnfaehaaGreat
