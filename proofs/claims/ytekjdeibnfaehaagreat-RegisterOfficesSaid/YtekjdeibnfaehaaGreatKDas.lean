/- Texts of a proof. -/
import Derived.Test.YtekjdeibnfaehaaGreatKDad
set_option linter.unusedSimpArgs false
set_option linter.unusedVariables false
namespace Go.Proofs.YtekjdeibnfaehaaGreat
theorem framesL_take_ge(l:List Rec)(h:∀ r∈l,recOk r=true)(k n:Nat):
 ∃j,k≤j∧framesL (bytesR (l.take k)++(bytesR (l.drop k)).take n)=l.take j:=by
 obtain⟨j,hj⟩:=framesL_take (l.drop k) (fun r hr=>h r (List.mem_of_mem_drop hr)) n
 refine⟨k+j,by omega,?_⟩
 rw[framesL_app (fun r hr=>h r (List.mem_of_mem_take hr)),hj,List.take_add]
theorem bytesR_split(l:List Rec)(k:Nat):bytesR l=bytesR (l.take k)++bytesR (l.drop k):=by
 rw[←bytesR_append,List.take_append_drop]
theorem writtenB_split(gen cnt:Int)(l:List Rec)(k:Nat):writtenB gen cnt l=writtenB gen cnt (l.take k)++bytesR (l.drop k):=by
 unfold writtenB
 rw[List.append_assoc,←bytesR_split]
theorem writtenB_take(gen cnt:Int)(l:List Rec)(k n:Nat):(writtenB gen cnt l).take ((writtenB gen cnt (l.take k)).length+n)=writtenB gen cnt (l.take k)++(bytesR (l.drop k)).take n:=by
 rw[writtenB_split gen cnt l k,List.take_length_add_append]
structure Jour(d:DriveD)(m:MemD)(l:List Rec)(k:Nat)(cnt:Int):Prop where
 ok:∀ r∈l,recOk r=true
 apart:Apart l
 few:l.length≤80
 le:k≤l.length
 c0:0≤cnt
 c1:cnt≤k
 file:m.file=0∨m.file=1
 g0:1≤m.gen
 g1:m.gen≤1000000000
 recs:m.recs=ordL l
 this:fileAt d m.file=⟨writtenB m.gen cnt l,(writtenB m.gen cnt (l.take k)).length⟩
 other:fileAt d (1-m.file)=noFile
theorem bytesR_short:∀ (l:List Rec),(∀r∈l,recOk r=true)→(bytesR l).length≤224 * l.length
 | [],_=>Nat.le_refl _
 | r::l,h=>by
  have h1:=recOk_text (h r tE)
  have h2:=bytesR_short l fun x hx=>h x tQ
  rw[bytesR_cons,List.length_append,frameB_length,List.length_cons]
  omega
theorem written_short{l:List Rec}(h:∀ r∈l,recOk r=true)(hl:l.length≤80)(gen cnt:Int):(writtenB gen cnt l).length≤17930:=by
 have:=bytesR_short l h
 rw[writtenB_length];omega
theorem fileOk_written{l:List Rec}(h:∀ r∈l,recOk r=true)(hl:l.length≤80)(gen cnt:Int){f:Int}(h0:0≤f)(h1:f≤(writtenB gen cnt l).length):fileOk ⟨writtenB gen cnt l,f⟩=true:=by
 have:=written_short h hl gen cnt
 exact fileOk_iff.2 ⟨⟨h0,h1⟩,by simp only;omega⟩
theorem fileOk_no:fileOk noFile=true:=by decide
theorem driveOk_at{d:DriveD}{i:Int}(hi:i=0∨i=1):driveOk d=true↔fileOk (fileAt d i)=true∧fileOk (fileAt d (1-i))=true:=by
 rcases hi with rfl|rfl <;> simp[driveOk,fileAt,and_comm]
theorem Jour.long{d:DriveD}{m:MemD}{l:List Rec}{k:Nat}{cnt:Int}(h:Jour d m l k cnt):(writtenB m.gen cnt (l.take k)).length≤(writtenB m.gen cnt l).length:=by
 rw[writtenB_split m.gen cnt l k,List.length_append];omega
theorem Jour.drive{d:DriveD}{m:MemD}{l:List Rec}{k:Nat}{cnt:Int}(h:Jour d m l k cnt):driveOk d=true:=by
 rw[driveOk_at h.file,h.this,h.other]
 exact⟨fileOk_written h.ok h.few _ _ tB (by have:=h.long;omega),fileOk_no⟩
theorem pageOk_written{gen cnt:Int}(h0:1≤gen)(h1:gen≤1000000000){l:List Rec}(h:∀ r∈l,recOk r=true)(c0:0≤cnt)(c1:cnt≤l.length)(hl:l.length≤80)(t:List UInt8):
 pageOk (writtenB gen cnt l++t)=true:=by
 simp only[pageOk,Bool.and_eq_true,decide_eq_true_eq,inB_spec]
 rw[isHead_written,genB_written tB tB,cntB_written gen c0 tB,recsB_written gen cnt h]
 refine⟨⟨rfl,h0,h1⟩,?_⟩
 rw[List.length_append];omega
theorem regOk_intro{l:List Rec}(h:∀ r∈l,recOk r=true)(ha:Apart l)(hl:l.length≤80):regOk l=true:=by
 simp only[regOk,Bool.and_eq_true,decide_eq_true_eq,List.all_eq_true]
 exact⟨⟨hl,h⟩,ha⟩
theorem fileAt_with(d:DriveD){i:Int}(hi:i=0∨i=1)(f:FileD):fileAt (withFile d i f) i=f:=by rcases hi with rfl|rfl <;> rfl
theorem fileAt_with'(d:DriveD){i:Int}(hi:i=0∨i=1)(f:FileD):fileAt (withFile d i f) (1-i)=fileAt d (1-i):=by rcases hi with rfl|rfl <;> rfl
theorem fileAt_none(i:Int):fileAt noDrive i=noFile:=by unfold fileAt;split <;> rfl
theorem open_one{d:DriveD}{i:Int}(hi:i=0∨i=1)(hd:driveOk d=true)(hp:pageOk (fileAt d i).bytes=true)
 (ho:pageOk (fileAt d (1-i)).bytes=false∨genB (fileAt d (1-i)).bytes<genB (fileAt d i).bytes) (hr:regOk (recsB (fileAt d i).bytes)=true):
 openE d=0∧openD d=withFile noDrive i ⟨(fileAt d i).bytes.take (longB (fileAt d i).bytes),longB (fileAt d i).bytes⟩∧openM d=⟨ordL (recsB (fileAt d i).bytes),i,genB (fileAt d i).bytes⟩:=by
 have ha:atI d=i:=by
  rcases hi with rfl|rfl
  ·unfold fileAt at hp ho
   simp only[if_true,show ¬((1:Int)-0=0) from by omega,if_false] at hp ho
   unfold atI
   rw[if_neg,if_pos hp]
   rintro⟨h1,h2⟩
   refine h2 ⟨hp,?_⟩
   rcases ho with ho|ho
   ·rw[ho] at h1;cases h1
   ·omega
  ·unfold fileAt at hp ho
   simp only[show ¬((1:Int)=0) from by omega,show((1:Int)-1=0) from rfl,if_true,if_false] at hp ho
   unfold atI
   rw[if_pos]
   refine⟨hp,?_⟩
   rintro⟨h1,h2⟩
   rcases ho with ho|ho
   ·rw[ho] at h1;cases h1
   ·omega
 have hb:bestB d=(fileAt d i).bytes:=by rw[bestB,ha]
 have he:openE d=0:=by
  rw[openE,if_pos hd,if_pos]
  rw[ha,hb]
  refine⟨by omega,hr⟩
 refine⟨he,?_,?_⟩
 ·rw[openD,if_pos he,ha,hb]
 ·rw[openM,if_pos he,ha,hb]
theorem isHead_of_page{b:List UInt8}(h:pageOk b=true):isHead b=true:=by
 simp only[pageOk,Bool.and_eq_true] at h
 exact h.1.1
theorem crashD_at{d:DriveD}(hd:driveOk d=true){i:Int}(hi:i=0∨i=1)(n m:Int):fileAt (crashD d n m) i=crashF (fileAt d i) (if i=0 then n else m):=by
 rw[crashD,if_pos hd]
 rcases hi with rfl|rfl <;> rfl
theorem one_sub{i:Int}(hi:i=0∨i=1):1-i=0∨1-i=1:=by omega
theorem crashF_no(n:Int):crashF noFile n=noFile:=by
 have:keptI noFile n=0:=by
  unfold keptI noFile
  simp only[List.length_nil]
  omega
 unfold crashF
 rw[this]
 rfl
theorem crashF_ok{f:FileD}(h:fileOk f=true)(n:Int):fileOk (crashF f n)=true:=by
 have h1:=keptI_in h n
 have h2:=fileOk_iff.1 h
 refine fileOk_iff.2 ⟨⟨?_,?_⟩,?_⟩
 ·show 0≤keptI f n;omega
 ·show keptI f n≤_
  unfold crashF
  rw[List.length_take];omega
 ·unfold crashF
  rw[List.length_take];omega
theorem crashD_ok{d:DriveD}(h:driveOk d=true)(n m:Int):driveOk (crashD d n m)=true:=by
 rw[driveOk_at (.inl rfl),crashD_at h (.inl rfl),crashD_at h (one_sub (.inl rfl))]
 have:=(driveOk_at (.inl rfl)).1 h
 exact⟨crashF_ok this.1 _,crashF_ok this.2 _⟩
theorem crash_written{gen cnt:Int}(h0:1≤gen)(h1:gen≤1000000000){l:List Rec}(h:∀ r∈l,recOk r=true)(hl:l.length≤80){k:Nat}(c0:0≤cnt)(c1:cnt≤k)(hk:k≤l.length)(n:Int):
 ∃j t,k≤j∧j≤l.length∧(crashF ⟨writtenB gen cnt l,(writtenB gen cnt (l.take k)).length⟩ n).bytes=writtenB gen cnt (l.take k)++t∧
  recsB (writtenB gen cnt (l.take k)++t)=l.take j∧(writtenB gen cnt (l.take k)++t).take (longB (writtenB gen cnt (l.take k)++t))=writtenB gen cnt (l.take j):=by
 have hf:fileOk ⟨writtenB gen cnt l,(writtenB gen cnt (l.take k)).length⟩=true:=fileOk_written h hl _ _ tB (by rw[writtenB_split gen cnt l k,List.length_append];omega)
 have hkept:=keptI_in hf n
 obtain⟨x,hx⟩:∃ x:Nat,(keptI ⟨writtenB gen cnt l,(writtenB gen cnt (l.take k)).length⟩ n).toNat=(writtenB gen cnt (l.take k)).length+x:=by
  refine⟨(keptI ⟨writtenB gen cnt l,(writtenB gen cnt (l.take k)).length⟩ n).toNat-(writtenB gen cnt (l.take k)).length,?_⟩
  have:=hkept.1
  simp only at this
  omega
 have htk:∀ r∈l.take k,recOk r=true:=fun r hr=>h r (List.mem_of_mem_take hr)
 obtain⟨j,hj,hfr⟩:=framesL_take_ge l h k x
 have hrec:recsB (writtenB gen cnt (l.take k)++(bytesR (l.drop k)).take x)=l.take j:=by
  rw[recsB_written gen cnt htk]
  rw[framesL_app htk] at hfr
  exact hfr
 have hrec':recsB (writtenB gen cnt (l.take k)++(bytesR (l.drop k)).take x)=l.take (min j l.length):=by
  rw[hrec]
  by_cases hjl:j≤l.length
  ·rw[Nat.min_eq_left hjl]
  ·rw[Nat.min_eq_right tB,List.take_of_length_le tB,List.take_length]
 refine⟨min j l.length,(bytesR (l.drop k)).take x,by omega,by omega,?_,hrec',?_⟩
 ·unfold crashF
  simp only
  rw[hx,writtenB_take]
 ·have hw:=written_take (isHead_written gen cnt (l.take k) ((bytesR (l.drop k)).take x))
  rw[genB_written tB tB,cntB_written gen c0 tB,hrec'] at hw
  exact hw.symm
theorem Jour.crash{d:DriveD}{m:MemD}{l:List Rec}{k:Nat}{cnt:Int}(h:Jour d m l k cnt)(n n':Int):
 ∃j,k≤j∧j≤l.length∧openE (crashD d n n')=0∧openM (crashD d n n')=⟨ordL (l.take j),m.file,m.gen⟩∧Jour (openD (crashD d n n')) (openM (crashD d n n')) (l.take j) j cnt:=by
 have hd:=h.drive
 obtain⟨j,t,hkj,hjl,hb,hrec,htake⟩:=crash_written h.g0 h.g1 h.ok h.few h.c0 h.c1 h.le (if m.file=0 then n else n')
 have hat:(fileAt (crashD d n n') m.file).bytes=writtenB m.gen cnt (l.take k)++t:=by rw[crashD_at hd h.file,h.this,hb]
 have hot:(fileAt (crashD d n n') (1-m.file)).bytes=[]:=by rw[crashD_at hd (one_sub h.file),h.other,crashF_no];rfl
 have htk:∀ r∈l.take k,recOk r=true:=fun r hr=>h.ok r (List.mem_of_mem_take hr)
 have htj:∀ r∈l.take j,recOk r=true:=fun r hr=>h.ok r (List.mem_of_mem_take hr)
 have haj:Apart (l.take j):=List.Pairwise.sublist (List.take_sublist _ _) h.apart
 have hfew:=h.few
 have hle:=h.le
 have hc1:=h.c1
 have hg1:=h.g1
 have hg0:=h.g0
 have hpg:pageOk (writtenB m.gen cnt (l.take k)++t)=true:=pageOk_written h.g0 h.g1 htk h.c0 tg tg t
 obtain⟨he,hD,hM⟩:=open_one (d:=crashD d n n') h.file (crashD_ok hd n n') (by rw[hat];exact hpg) (.inl (by rw[hot];rfl)) (by rw[hat,hrec];exact regOk_intro htj haj tg)
 rw[hat,hrec,genB_written tB tB] at hM
 rw[hat,htake] at hD
 have hlong:longB (writtenB m.gen cnt (l.take k)++t)=(writtenB m.gen cnt (l.take j)).length:=by
  unfold longB
  rw[hrec,writtenB_length]
 rw[hlong] at hD
 refine⟨j,hkj,hjl,he,hM,?_⟩
 rw[hM,hD]
 exact {
  ok:=htj,apart:=haj,few:=by rw[List.length_take];omega,le:=by rw[List.length_take];omega,c0:=h.c0,c1:=by omega,file:=h.file,g0:=h.g0,g1:=h.g1,recs:=rfl,
  this:=by
   simp only
   rw[fileAt_with _ h.file,List.take_of_length_le (Nat.le_of_eq (List.length_take_of_le hjl))]
  other:=by
   simp only
   rw[fileAt_with' _ h.file,fileAt_none]}
theorem firmF_at(d:DriveD)(i:Int):fileAt (firmD d) i=firmF (fileAt d i):=by unfold fileAt;split <;> rfl
theorem Jour.sync{d:DriveD}{m:MemD}{l:List Rec}{k:Nat}{cnt:Int}(h:Jour d m l k cnt):Jour (firmD d) m l l.length cnt:=by
 have hc:=h.c1
 have hl:=h.le
 refine {h with le:=Nat.le_refl _,c1:=by omega,this:=?_,other:=?_}
 ·rw[firmF_at,h.this,List.take_length];rfl
 ·rw[firmF_at,h.other];rfl
theorem new_jour:Jour newDrive newMem [] 0 0 where
 ok:=by simp
 apart:=List.Pairwise.nil
 few:=by simp
 le:=Nat.le_refl _
 c0:=Int.le_refl _
 c1:=Int.le_refl _
 file:=.inl rfl
 g0:=Int.le_refl _
 g1:=by decide
 recs:=rfl
 this:=rfl
 other:=rfl
theorem Jour.mem{d:DriveD}{m:MemD}{l:List Rec}{k:Nat}{cnt:Int}(h:Jour d m l k cnt):memOk d m=true:=by
 have hb:(fileAt d m.file).bytes=writtenB m.gen cnt l++[]:=by rw[h.this,List.append_nil]
 have hfew:=h.few
 have hle:=h.le
 have hc1:=h.c1
 have hg1:=h.g1
 have hg0:=h.g0
 have hrec:recsB (writtenB m.gen cnt l++[])=l:=by rw[recsB_written _ _ h.ok,framesL_nil,List.append_nil]
 have hpg:pageOk (writtenB m.gen cnt l++[])=true:=pageOk_written h.g0 h.g1 h.ok h.c0 tB h.few []
 simp only[memOk,Bool.and_eq_true,decide_eq_true_eq,inB_spec,recsEqB_iff]
 rw[hb,hrec,genB_written tB tB]
 refine⟨h.drive,by have:=h.file;omega,by rw[h.other];rfl,hpg,rfl,?_,regOk_intro h.ok h.apart h.few,h.recs.symm⟩
 unfold longB
 rw[hrec,List.append_nil,writtenB_length]
theorem apart_unique:∀ {l:List Rec},Apart l→∀ {x y:Rec},x∈l→y∈l→x.ao=y.ao→x.sq=y.sq→x=y
 | [],_,_,_,hx,_,_,_=>by cases hx
 | a::l,h,x,y,hx,hy,h1,h2=>by
  obtain⟨ha,hl⟩:=List.pairwise_cons.1 h
  rcases List.mem_cons.1 hx with e1|hx1 <;> rcases List.mem_cons.1 hy with e2|hy1
  ·rw[e1,e2]
  ·subst e1;exact absurd ⟨h1,h2⟩ (ha y hy1)
  ·subst e2;exact absurd ⟨h1.symm,h2.symm⟩ (ha x hx1)
  ·exact apart_unique hl hx1 hy1 h1 h2
theorem Jour.append{d:DriveD}{m:MemD}{l:List Rec}{k:Nat}{cnt:Int}(h:Jour d m l k cnt){r:Rec}(hr:recOk r=true)(hn:hasR m.recs r.ao r.sq=false)(hl:l.length<80):
 appE d m r=0∧Jour (appD d m r) (appM d m r) (l++[r]) k cnt∧(appM d m r).recs=insR m.recs r:=by
 have hm:=h.mem
 have hle:=h.le
 have hlen:m.recs.length=l.length:=by rw[h.recs,(ordL_perm l).length_eq]
 have hpe:putE m.recs r=0:=by
  unfold putE
  rw[findR_none hn]
  simp only
  rw[if_neg tB]
 have hpl:putL m.recs r=insR m.recs r:=by
  unfold putL
  rw[findR_none hn]
  simp only
  rw[if_neg tB]
 have he:appE d m r=0:=by rw[appE,if_pos hm,if_pos hr,hpe]
 have hD:appD d m r=addF d m.file (frameB r):=by rw[appD,if_pos he,if_neg (by rw[hn];simp)]
 have hM:appM d m r=⟨insR m.recs r,m.file,m.gen⟩:=by rw[appM,if_pos he,hpl]
 refine⟨he,?_,by rw[hM]⟩
 rw[hD,hM]
 have hb1:bytesR [r]=frameB r:=by simp[bytesR]
 exact {
  ok:=by
   intro x hx
   rcases List.mem_append.1 hx with hx|hx
   ·exact h.ok x hx
   ·rw[List.mem_singleton] at hx;subst hx;exact hr
  apart:=(apart_snoc l r).2 ⟨h.apart,by rw[hasR_perm (ordL_perm l).symm,←h.recs];exact hn⟩
  few:=by simp;omega
  le:=by simp;omega
  c0:=h.c0,c1:=h.c1,file:=h.file,g0:=h.g0,g1:=h.g1
  recs:=by rw[ordL_snoc,h.recs]
  this:=by
   simp only
   rw[addF,fileAt_with _ h.file,h.this,List.take_append_of_le_length hle]
   simp only[writtenB,bytesR_append,hb1,List.append_assoc]
  other:=by
   simp only
   rw[addF,fileAt_with' _ h.file,h.other]}
theorem Jour.again{d:DriveD}{m:MemD}{l:List Rec}{k:Nat}{cnt:Int}(h:Jour d m l k cnt){r:Rec}(hr:r∈m.recs):
 appE d m r=0∧appD d m r=d∧appM d m r=m:=by
 have hm:=h.mem
 have hok:recOk r=true:=h.ok r ((ordL_perm l).mem_iff.1 (h.recs▸hr))
 have hs:Sorted m.recs:=by rw[h.recs];exact ordL_sorted h.apart
 obtain⟨i,hi,hri⟩:=List.getElem_of_mem hr
 have hf:findR m.recs r.ao r.sq=some r:=by
  rw[findR_some hs hi (by simp[atB,hri]),hri]
 have hh:hasR m.recs r.ao r.sq=true:=List.any_eq_true.2 ⟨r,hr,by simp[atB]⟩
 have he:appE d m r=0:=by
  rw[appE,if_pos hm,if_pos hok]
  unfold putE
  rw[hf]
  simp only
  rw[if_pos (recEqB_iff.2 rfl)]
 refine⟨he,?_,?_⟩
 ·rw[appD,if_pos he,if_pos hh]
 ·rw[appM,if_pos he]
  unfold putL
  rw[hf]
  simp only
  rw[if_pos (recEqB_iff.2 rfl)]
end Go.Proofs.YtekjdeibnfaehaaGreat
set_option linter.unusedSimpArgs false
set_option linter.unusedVariables false
namespace Go.Proofs.YtekjdeibnfaehaaGreat
structure RawD where
 a0:Int
 a1:Int
 a2:Int
 a3:Int
 a4:Int
 a5:Int
 a6:Int
 text:ByteArray
def shownC(c:UInt8):UInt8:=UInt8.ofNat (32+c.toNat % 95)
def shownT(t:ByteArray)(n:Nat):ByteArray:=⟨((t.data.toList.take n).map shownC).toArray⟩
def noText:ByteArray:=⟨#[]⟩
def leaseShip(p x:Int):Int:=if p+9 * (x % 2)=0 then 9 else p+9 * (x % 2)
def madeR(l:List Rec)(x:RawD):Rec:=
 if x.a1 % 6=0∧0<nextN l (x.a0 % 4) then⟨x.a0 % 4,nextN l (x.a0 % 4),0,0,0,x.a4 % 60,x.a0 % 4,x.a5 % nextN l (x.a0 % 4),0,0,noText⟩
 else if x.a1 % 6=1 then⟨x.a0 % 4,nextN l (x.a0 % 4),1,leaseShip (x.a0 % 4) x.a2,x.a3 % 60,x.a4 % 60,0,0,x.a5 % 4,x.a3 % 60+x.a6 % 12,noText⟩
 else⟨x.a0 % 4,nextN l (x.a0 % 4),2+x.a1 % 9,1+x.a2 % 20,x.a3 % 60,x.a4 % 60,0,0,0,0,shownT x.text 40⟩
theorem nextN_snoc(l:List Rec)(r:Rec)(o:Int):nextN (l++[r]) o=nextStep o (nextN l o) r:=by simp[nextN,List.foldl_append]
theorem nextN_bound{N:Int}(h0:0≤N)(l:List Rec)(o:Int)(h:∀ r∈l,0≤r.sq∧r.sq<N):0≤nextN l o∧nextN l o≤N:=by
 revert h
 refine foldr_snoc_ind (p:=fun l=>(∀r∈l,0≤r.sq∧r.sq<N)→0≤nextN l o∧nextN l o≤N) ?_ ?_ l
 ·intro _;exact⟨Int.le_refl _,h0⟩
 ·intro l r ih h
  have:=ih fun x hx=>h x tQ
  have:=h r tE
  rw[nextN_snoc,nextStep]
  split <;> omega
theorem nextN_gt{l:List Rec}(hs:Sorted l)(o:Int):∀ r∈l,r.ao=o→r.sq<nextN l o:=by
 revert hs
 refine foldr_snoc_ind (p:=fun l=>Sorted l→∀ r∈l,r.ao=o→r.sq<nextN l o) ?_ ?_ l
 ·intro _ r hr;cases hr
 ·intro l x ih hs r hr ho
  rw[nextN_snoc,nextStep]
  unfold Sorted at hs
  rw[List.pairwise_append] at hs
  rcases List.mem_append.1 hr with hr|hr
  ·split
   ·rename_i hx
    have:=hs.2.2 r hr x tE
    unfold aheadB at this
    rw[ltP_iff] at this
    omega
   ·exact ih hs.1 r hr ho
  ·rw[List.mem_singleton] at hr
   subst hr
   rw[if_pos ho];omega
theorem has_next{l:List Rec}(hs:Sorted l)(o:Int):hasR l o (nextN l o)=false:=by
 rw[hasR,List.any_eq_false]
 intro r hr h
 simp only[atB,Bool.and_eq_true,decide_eq_true_eq] at h
 have:=nextN_gt hs o r hr h.1
 omega
def memEqB(a b:MemD):Bool:=decide (a.file=b.file)&&(decide (a.gen=b.gen)&&recsEqB a.recs b.recs)
theorem memEqB_iff{a b:MemD}:memEqB a b=true↔a=b:=by
 cases a;cases b
 simp only[memEqB,Bool.and_eq_true,decide_eq_true_eq,recsEqB_iff,MemD.mk.injEq]
 constructor
 ·rintro⟨h1,h2,h3⟩;exact⟨h3,h1,h2⟩
 ·rintro⟨h1,h2,h3⟩;exact⟨h2,h3,h1⟩
end Go.Proofs.YtekjdeibnfaehaaGreat
