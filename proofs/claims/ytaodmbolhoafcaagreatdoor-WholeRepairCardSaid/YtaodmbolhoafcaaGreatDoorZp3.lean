/-
  Texts of one proof, joined: part 3. No condition.
-/
import Derived.Test.YtaodmbolhoafcaaGreatDoorZp2
import Derived.WalkKit
import Derived.Laws.BitsAllLaws
import Derived.Laws.BitsLemmas
open List renaming length→E
open Go.RowKit Go.Proofs.Tryz
namespace Go.Proofs.YtaodmbolhoafcaaGreatDoor
set_option linter.unusedVariables false
set_option linter.unusedSimpArgs false
set_option maxRecDepth 20000
variable{B:Nat}{w0:World}{F:aR}{A:bk}{c n g:Nat}{bt:TypeId}{f:Ch->aR}{X:cZ}{Al:bk}{cl:Nat}
theorem kC{P:Prop}(h:P:=by(cases h)):P:=h
theorem jM:type_of% @Nat.pow_succ:= @Nat.pow_succ
theorem w5:type_of% @List.getElem_range:= @List.getElem_range
theorem CH:type_of% @List.getElem_set:= @List.getElem_set
theorem qa:type_of% @List.set_append_right:= @List.set_append_right
def fst(l:al):Nat->Nat
 |0=>0
 |1=>0
 |k+2=>(fst l (k+1)+num l (k+1))*2
theorem fJ(l:al){k:Nat}(h:1<=k):fst l (k+1)=(fst l k+num l k)*2:=by
 obtain⟨j,rfl⟩:∃j,k=j+1:=⟨k-1,aa⟩
 rfl
theorem ad0{l:al}(hl:E l<=300):∀k,fst l k+600<=600*2^k
 |0=>by simp[fst]
 |1=>by simp[fst]
 |k+2=>by
  have ih:=ad0 hl (k+1);have hn:=xK l (k+1);rw[fJ l aa,jM 2 (k+1)];omega
theorem vO{l:al}(hl:E l<=300){k:Nat}(hk:k<=16):fst l k<=39321600:=by
 have h1:=ad0 hl k;have h2:=gJ (show 1<=2 by omega) hk;omega
def place(l:al)(k:Nat)(s:Nat):Nat:=fst l k+num (l.take s) k
def code(l:al)(s:Nat):Int:=if (l.getD s 0).toNat=0 then 0 else IntKind.u16.wrap (place l (l.getD s 0).toNat s:Int)
def gz(l:al):List Int:=(List.range (E l)).map (code l)
@[simp] theorem HN(l:al):E (gz l)=E l:=by simp[gz]
theorem xo(l:al){s:Nat}(h:s<E l):(gz l).getD s 0=code l s:=by
 simp[gz,List.getD,h]
theorem kv{l:al}{s:Nat}(k:Nat)(h:s<E l):num (l.take (s+1)) k=num (l.take s) k+if (l.getD s 0).toNat=k then 1 else 0:=by
 rw[aY h 0,F9]
theorem vh(l:al)(s k:Nat):num (l.take s) k<=num l k:=by
 unfold num;exact List.Sublist.countP_le (wZ s l)
def yW(l:al)(k:Nat):List Int:=(List.range 17).map λj=>if j<=k then (fst l j:Int) else 0
@[simp] theorem amf(l:al)(k:Nat):E (yW l k)=17:=by simp[yW]
theorem adX(l:al){k j:Nat}(h:j<=k)(h2:j<17):(yW l k).getD j 0=(fst l j:Int):=by
 simp[yW,List.getD,h2,h]
theorem adY(l:al):List.replicate 17 (0:Int)=yW l 1:=by
 have h1:fst l 1=0:=rfl;have h0:fst l 0=0:=rfl;have e:yW l 1=(List.range 17).map λ_=>(0:Int):=by
  unfold yW;refine qB λj _=>?_;split
  ·rename_i h;have:j=0∨j=1:=by omega
   rcases this with rfl|rfl
   ·rw[h0];rfl
   ·rw[h1];rfl
  ·rfl
 rw[e];decide
theorem ZU(l:al){k:Nat}:(yW l k).set (k+1) (fst l (k+1):Int)=yW l (k+1):=by
 apply jK
 ·simp
 ·intro i h1 h2;by_cases e:k+1=i
  ·subst e;simp[yW]
  ·have:i<=k↔i<=k+1:=by omega
   simp[yW,e,this]
def wA(l:al)(s:Nat):List Int:=(List.range 17).map λj=>if j=0 then 0 else (place l j s:Int)
@[simp] theorem OM(l:al)(k:Nat):E (wA l k)=17:=by simp[wA]
theorem adZ(l:al){s j:Nat}(h:1<=j)(h2:j<17):(wA l s).getD j 0=(place l j s:Int):=by
 have:¬j=0:=by omega
 simp[wA,List.getD,h2,this]
theorem ZX(l:al):yW l 16=wA l 0:=by
 apply jK
 ·simp
 ·intro i h1 h2;have hi:i<17:=by simpa using h1
  by_cases e:i=0
  ·subst e;rfl
  ·simp[yW,wA,e,place,num,show i<=16 by omega]
theorem ZV{l:al}{s:Nat}(h:s<E l)(h0:(l.getD s 0).toNat=0):wA l s=wA l (s+1):=by
 apply jK
 ·simp
 ·intro i h1 h2;by_cases e:i=0
  ·simp[wA,e]
  ·simp only[wA,qL,w5,e,if_false,place,kv i h];rw[aw aa];rfl
theorem ZW{l:al}{s:Nat}(h:s<E l)(h1:1<=(l.getD s 0).toNat)(h2:(l.getD s 0).toNat<17):(wA l s).set (l.getD s 0).toNat ((place l (l.getD s 0).toNat s:Int)+1)=wA l (s+1):=by
 apply jK
 ·simp
 ·intro i k1 k2;by_cases e:(l.getD s 0).toNat=i
  ·rw[CH,ao e];subst e;have hn:=kv (l:=l) (l.getD s 0).toNat h;rw[ao rfl]at hn;simp only[wA,qL,w5,place,hn];rw[aw aa];omega
  ·rw[CH,aw e];by_cases e0:i=0
   ·simp[wA,e0]
   ·simp only[wA,qL,w5,e0,if_false,place,kv i h];rw[aw e];rfl
theorem Qh{l:al}(hl:E l<=300){k:Nat}(hk:k<=16)(s:Nat):place l k s<=39321900:=by
 have h1:=vO hl hk;have h2:=vh l s k;have h3:=xK l k;unfold place;omega
def Dj(l:al)(s:Nat):List Int:=(gz l).take s++List.replicate (E l-s) 0
@[simp] theorem Qd(l:al){s:Nat}(h:s<=E l):E (Dj l s)=E l:=by simp[Dj];omega
theorem aa7(l:al):Dj l 0=List.replicate (E l) 0:=by simp[Dj]
theorem JV{l:al}{s:Nat}(h:s<E l):(Dj l s).set s (code l s)=Dj l (s+1):=by
 unfold Dj;rw[qa _ _ bT];have e:s-E ((gz l).take s)=0:=by simp;omega
 rw[e,show E l-s=(E l-(s+1))+1 by omega,Bt,List.set_cons_zero,aY (l:=gz l) (k:=s) ng 0,xo l h,bX];rfl
theorem aa6{l:al}{s:Nat}(h:s<E l)(h0:(l.getD s 0).toNat=0):Dj l s=Dj l (s+1):=by
 rw[<-JV h];have:code l s=0:=ao h0;rw[this];apply jK
 ·simp
 ·intro i k1 k2;rw[CH];split
  ·rename_i e;subst e;have k3:s<E ((gz l).take s++List.replicate (E l-s) (0:Int)):=k1;show((gz l).take s++List.replicate (E l-s) (0:Int))[s]'k3=0;rw[List.getElem_append_right bT];simp
  ·rfl
theorem afS(l:al):Dj l (E l)=gz l:=by
 unfold Dj;rw[fC ak];simp
def amd(l:al)(L s j:Nat):Prop:=(l.getD j 0).toNat≠0∧((l.getD j 0).toNat<L∨(l.getD j 0).toNat=L∧j<s)
instance (l:List UInt8)(L s j:Nat):Decidable (amd l L s j):=inferInstanceAs (Decidable (_∧_))
def as2(l:al)(L s:Nat):List Int:=(List.range (E l)).map λj=>if amd l L s j then code l j else 0
@[simp] theorem amC(l:al)(L s:Nat):E (as2 l L s)=E l:=by simp[as2]
theorem aa'{l:al}{L s:Nat}(hs:s<E l)(h:(l.getD s 0).toNat=L):place l L (s+1)=place l L s+1:=by
 unfold place;rw[kv L hs,ao h];omega
theorem Ge{l:al}{L:Nat}(hL:1<=L):place l (L+1) 0=2*place l L (E l):=by
 unfold place;rw[fJ l hL,ki];simp[num];omega
def RC(l:al)(L s next was:Nat)(any:Bool):Prop:=was<=L∧(any=true->(next+1)*2^(L-was)=place l L s)∧(any=false->place l L s=0∧next=0)
theorem RC.start(l:al):RC l 1 0 0 0 false:=⟨aa,(λh=>kC),λ_=>⟨by simp[place,fst,num],rfl⟩⟩
theorem RC.next{l:al}{L next was:Nat}{any:Bool}(h:RC l L (E l) next was any)(hL:1<=L):RC l (L+1) 0 next was any:=by
 obtain⟨h1,h2,h3⟩:=h;refine⟨aa,λh=>?_,λh=>?_⟩
 ·rw[Ge hL,<-h2 h,show L+1-was=(L-was)+1 by omega,jM];rw[<-mT,jL]
 ·rw[Ge hL,(h3 h).1];exact⟨rfl,(h3 h).2⟩
theorem TM{l:al}(h:Good l):qO l<=32768:=by
 have h1:=(E_ h.1).1 h;have h2:=sa l h.1.2;omega
theorem rN{l:al}(h:Good l){k:Nat}(h1:1<=k)(h2:k<=15):fst l k+num l k<=2^k:=by
 have hk:=TM h;have e:=(sa l h.1.2).1;have e1:fst l 1=0:=rfl;have e2:=fJ l (k:=1) aa;have e3:=fJ l (k:=2) aa;have e4:=fJ l (k:=3) aa;have e5:=fJ l (k:=4) aa;have e6:=fJ l (k:=5) aa;have e7:=fJ l (k:=6) aa;have e8:=fJ l (k:=7) aa;have e9:=fJ l (k:=8) aa;have e10:=fJ l (k:=9) aa;have e11:=fJ l (k:=10) aa;have e12:=fJ l (k:=11) aa;have e13:=fJ l (k:=12) aa;have e14:=fJ l (k:=13) aa;have e15:=fJ l (k:=14) aa;have hc:k=1∨k=2∨k=3∨k=4∨k=5∨k=6∨k=7∨k=8∨k=9∨k=10∨k=11∨k=12∨k=13∨k=14∨k=15:=by omega
 rcases hc with h|h|h|h|h|h|h|h|h|h|h|h|h|h|h<;>subst h<;>simp only[Nat.reduceAdd,Nat.reducePow]at*<;>omega
theorem zE{l:al}{s k:Nat}(hs:s<E l)(h:(l.getD s 0).toNat=k):place l k s+1<=fst l k+num l k:=by
 have h1:=aa' hs h;have h2:=vh l (s+1) k;unfold place at*;omega
theorem af6(l:al)(k s:Nat):fst l k<=place l k s:=Nat.le_add_right _ _
theorem WU(l:al){k:Nat}(h:1<=k):∀d,1<=d->(fst l k+num l k)*2^d<=fst l (k+d)
 |0,h=>absurd h aa
 |1,_=>by rw[fJ l h];omega
 |d+2,_=>by
  have ih:=WU l h (d+1) aa;have e:fst l (k+(d+2))=(fst l (k+(d+1))+num l (k+(d+1)))*2:=fJ l (k:=k+(d+1)) aa;rw[e,show d+2=(d+1)+1 from rfl,jM,<-mT];exact ph 2 (jz ih (Nat.le_add_right _ _))
theorem N1{l:al}(hg:Good l){s:Nat}(hs:s<E l)(h0:(l.getD s 0).toNat≠0):code l s=(place l (l.getD s 0).toNat s:Int):=by
 unfold code;rw[aw h0];have hu:=hg.1.2 _ (bj hs 0);have h1:=zE hs rfl;have h2:=rN hg (k:=(l.getD s 0).toNat) aa hu;have h3:=gJ (show 1<=2 by omega) hu;exact am0 aa aa
theorem Sw{l:al}(hg:Good l){s:Nat}(hs:s<E l)(h0:(l.getD s 0).toNat≠0):place l (l.getD s 0).toNat s<32768:=by
 have hu:=hg.1.2 _ (bj hs 0);have h1:=zE hs rfl;have h2:=rN hg (k:=(l.getD s 0).toNat) aa hu;have h3:=gJ (show 1<=2 by omega) hu;omega
section
theorem amp:type_of% @List.Sublist.refl:= @List.Sublist.refl
theorem Pp:type_of% @List.nil_sublist:= @List.nil_sublist
theorem gL:type_of% @List.sublist_append_right:= @List.sublist_append_right
theorem r7:type_of% @List.take_succ_cons:= @List.take_succ_cons
theorem Fw:type_of% @List.drop_succ_cons:= @List.drop_succ_cons
inductive Hd(Q:Prop):Prop where
 |mk (x:Q):Hd Q
theorem Hd.x{Q:Prop}:Hd Q->Q
 |⟨x⟩=>x
theorem aW{c:Ch}{L:aR}{f:Ch->aR}(h:na c L f:=by((repeat (first|exact .hd|apply na.tl));(first|done|fail))):na c L f:=h
theorem aB{B:Nat}{w0:World}{L:aR}{size:Nat}{v:Value}{n:Nat}{xs:cZ}(h:aM B w0 L size v n xs:=by first|(exact aM.own (by repeat (first|exact List.Mem.head _|apply List.Mem.tail)))|((repeat (first|assumption|apply aM.cons));(first|done|fail))):aM B w0 L size v n xs:=h
theorem gD{α:Type}{S L:List α}(h:S.Sublist L:=by((repeat (first|exact amp _|exact Pp _|exact gL _ _|apply List.Sublist.cons_cons|apply List.Sublist.cons));(first|done|fail))):S.Sublist L:=h
theorem cw{xs:cZ}(h:∀u∈xs,u.oneCell'=true:=by first|exact ra _|exact agR _|exact Fp _ _|(simp;(first|done|fail))|(simp[Value.oneCell'];(first|done|fail))|assumption):∀u∈xs,u.oneCell'=true:=h
theorem bp{fr j8:Fr}(h:Sub fr j8:=by((repeat (first|exact trivial|(refine⟨by first|rfl|exact aox (by omega)|exact atj (by omega),?_⟩)));(first|done|fail))):Sub fr j8:=h
def okF(P:Program)(f:FuncId):Bool:=match P.funcs[f]? with|some fn=> !(fn.name== "runtime.NumGoroutine")&&fn.body.isSome|none=>false
theorem afJ{P:Program}{f:FuncId}(h:okF P f=true):aK P f:=by
 unfold okF at h;split at h
 ·rename_i fn hf;rw[Bx]at h;exact aQ hf (by simpa using h.1) h.2
 ·cases h
def asP(P:Program)(t:TypeId):Bool:=match P.underlying t with|some (.slice _)=>true|_=>false
def isStr(P:Program)(t:TypeId):Bool:=match P.underlying t with|some .string=>true|_=>false
def asO(P:Program)(t:TypeId):Bool:=match P.underlying t with|some (.pointer e)=>Nat.beq e (P.pointee t)|_=>false
def isK(P:Program)(t:TypeId)(k:IntKind):Bool:=match P.underlying t with|some (.int k')=>decide (k'=k)|_=>false
def ae5(P:Program)(t:TypeId)(n:Nat):Bool:=match P.underlying t with|some (.slice e)=>(match P.info? e with|some i=>Nat.beq i.size n|none=>false)|_=>false
section
variable{C:Cx}{Q:Exit->Fr->aR->Prop}{fr j8:Fr}{L L':aR}{ops:Array Oper}{l:tx}{op:Op}{ty t:TypeId}{pos:String}{af:Array Edge}{d g o:Nat}{v:Value}{x y:Operand}{A:bk}{n c:Nat}{k:IntKind}{m:Int}
theorem asN(h:isK C.P t k=true):C.P.underlying t=some (.int k):=by
 unfold isK at h;split at h
 ·rename_i hu;rw[hu,oJ h]
 ·cases h
theorem amo(h:asO C.P t=true):C.P.underlying t=some (.pointer (C.P.pointee t)):=by
 unfold asO at h;split at h
 ·rename_i hu;rw[hu,r9 h]
 ·cases h
theorem aoy(h:ae5 C.P t n=true):∃e,C.P.underlying t=some (.slice e)∧(C.P.info? e).map (·.size)=some n:=by
 unfold ae5 at h;split at h
 ·rename_i e hu;refine⟨e,hu,?_⟩;split at h
  ·rename_i i hi;rw[hi,<-r9 h];rfl
  ·cases h
 ·cases h
theorem Z1(h:asP C.P t=true)(he:ev fr x=some (.slice A n c)):gR C fr L (.call {callee:=.builtin .len,args:= #[x],argTypes:= #[t]}) ty (ah (n:Int)):=by
 unfold asP at h;split at h
 ·rename_i e hu;exact pV hu he
 ·cases h
theorem ad6{s:al}(h:isStr C.P t=true)(he:ev fr x=some (.string ⟨s.toArray⟩)):gR C fr L (.call {callee:=.builtin .len,args:= #[x],argTypes:= #[t]}) ty (ah (E s:Int)):=by
 unfold isStr at h;split at h
 ·rename_i hu;exact Zy hu he
 ·cases h
theorem ar2{i:Nat}{xs:cZ}(he:ev fr x=some (.slice A n c))(h2:ev fr y=some (.int k m))(hm:m=(i:Int)){size:Nat}(hb:aM C.B C.w0 L size (.slice A n c) n xs)(hz:ae5 C.P t size=true)(hi:i<n):
  gR C fr L (.indexAddr t x y) ty (.pointer (A.map (·.add (i*size)))):=by
 obtain⟨e,h1,h3⟩:=aoy hz;exact aE h1 h3 he h2 hm hi hb
def aj1(t i:Nat):List (Nat×bf)->Option Nat
 |[]=>none
 |(s,q)::r=>bif Nat.beq s t then q[i]? else aj1 t i r
def zr{α:Type}(t:Nat):List (Nat×α)->Option α
 |[]=>none
 |(s,q)::r=>bif Nat.beq s t then some q else zr t r
def ajZ(t:Nat):bf->Bool
 |[]=>false
 |s::r=>bif Nat.beq s t then true else ajZ t r
def asQ:List (Nat×IntKind):=[(3,.i64),(5,.u8),(57,.u16),(60,.u64),(135,.u32),(192,.u64),(398,.u64)]
def atc:bf:=[3,4,5,9,24,27,28,52,53,57,60,87,88,101,106,135,140,159,176,183,186,213,242,278,290,298,392,398,436]
def apZ:List (Nat×Nat):=[(23,6),(41,5),(62,4),(83,4),(90,2),(161,2),(166,4),(170,3),(195,3),(217,1),(235,3),(272,3),(283,2),(303,16),(350,3),(366,1),(382,256),(397,2),(426,16)]
theorem YQ:apZ.all (λq=>p8 Tryz.prog q.1 q.2)=true:=by kernel_rfl
theorem ajT:asQ.all (λq=>isK Tryz.prog q.1 q.2)=true:=by kernel_rfl
theorem akQ:atc.all (qA Tryz.prog)=true:=by kernel_rfl
theorem zt{α:Type}{p:Nat->α->Bool}{k:α}:∀l:List (Nat×α),l.all (λq=>p q.1 q.2)=true->zr t l=some k->p t k=true
 |[],_,h=>by cases h
 |(s,r)::l,ha,h=>by
  simp only[List.all_cons,Bx]at ha;unfold zr at h;cases hb:Nat.beq s t with
  |true=>
   rw[hb,Ii]at h;injection h with h;rw[<-r9 hb,<-h];exact ha.1
  |false=>rw[hb,cond_false]at h;exact zt l ha.2 h
theorem XA{p:Nat->Bool}:∀l:bf,l.all p=true->ajZ t l=true->p t=true
 |[],_,h=>by cases h
 |s::l,ha,h=>by
  simp only[List.all_cons,Bx]at ha;unfold ajZ at h;cases hb:Nat.beq s t with
  |true=>rw[<-r9 hb];exact ha.1
  |false=>rw[hb,cond_false]at h;exact XA l ha.2 h
theorem ar3{N B:Nat}{w0:World}{bt:TypeId}{cs:cZ}{f:Ch->aR}(h:ajZ t atc=true)(he:ev fr x=some (.pointer (some ⟨g,o,none⟩)))(hm:na (.bG g bt cs) L f)(hv:cs[o]? =some v):gR ⟨Tryz.prog,N,B,w0⟩ fr L (.load t x) ty v:=bQ (XA (p:=qA Tryz.prog) _ akQ h) he hm hv
theorem ad7{N B:Nat}{w0:World}{cs:cZ}{f:Ch->aR}{bt:TypeId}{kk:Nat}(h:zr t apZ=some kk)(he:ev fr x=some (br g))(hm:na (.bG g bt cs) L f)(hk:E cs=kk):gR ⟨Tryz.prog,N,B,w0⟩ fr L (.load t x) ty (.agg cs.toArray):=ED (C:=⟨Tryz.prog,N,B,w0⟩) kk (zt (p:=p8 Tryz.prog) _ YQ h) he hm hk
theorem ad5{s:TypeId}{k':IntKind}(hs:isK C.P s k=true)(ht:isK C.P t k'=true)(he:ev fr x=some (.int k m))(hr:k'.wrap m=m):gR C fr L (.convert s t x) ty (.int k' m):=bm (asN hs) (asN ht) he hr
theorem ajn{N B:Nat}{w0:World}{s:TypeId}{k':IntKind}(ht:zr t asQ=some k')(he:ev fr x=some (.int k m))(hr:k'.wrap m=m)(hs:isK Tryz.prog s k=true):gR ⟨Tryz.prog,N,B,w0⟩ fr L (.convert s t x) ty (.int k' m):=ad5 (C:=⟨Tryz.prog,N,B,w0⟩) hs (zt (p:=isK Tryz.prog) _ ajT ht) he hr
def akh(P:Program)(t:TypeId):bf:=match P.underlying t with
 |some (.struct fs)=>bif fs.toList.all (λfd=>CA P fd.type) then fs.toList.map (·.offset) else []
 |_=>[]
def arR:List (Nat×bf):=[(23,[0,1,2,3,4,5]),(41,[0,1,2,3,4]),(59,[0,1]),(62,[0,1,2,3]),(69,[0,5,11]),(83,[0,1,2,3]),(90,[0,1]),(108,[0,1,2]),(119,[0,6,7]),(154,[0,1,2]),(161,[0,1]),(166,[0,1,2,3]),(170,[0,1,2]),(179,[0,1]),(185,[0,1]),(188,[0,4,6,8,9]),(195,[0,1,2]),(205,[0,1,2,8,9]),(217,[0]),(235,[0,1,2]),(237,[0,1]),(239,[0]),(249,[0,1]),(256,[0,1]),(258,[0,2]),(272,[0,1,2]),(280,[0,3,4,5]),(283,[0,1]),(292,[0,2,3]),(300,[0,1]),(343,[0,1]),(347,[0,2,18,34]),(366,[0]),(369,[0]),(371,[0,1,2]),(379,[0,1,2,3,4]),(397,[0,1]),(405,[0]),(419,[0]),(421,[0,3]),(451,[0,2]),(455,[0,1,2])]
theorem ajc:arR.all (λq=>decide (akh Tryz.prog q.1=q.2))=true:=by kernel_rfl
theorem OC{p:Nat->bf}{i q:Nat}:∀l:List (Nat×bf),l.all (λq=>decide (p q.1=q.2))=true->aj1 t i l=some q->(p t)[i]? =some q
 |[],_,h=>by cases h
 |(s,r)::l,ha,h=>by
  simp only[List.all_cons,Bx]at ha;unfold aj1 at h;cases hb:Nat.beq s t with
  |true=>
   rw[hb,Ii]at h;rw[<-r9 hb,oJ ha.1];exact h
  |false=>rw[hb,cond_false]at h;exact OC l ha.2 h
theorem anR{i q p:Nat}(h:(akh C.P t)[i]? =some q)(he:ev fr x=some (.pointer (some ⟨g,o,none⟩)))(hq:o+q=p):gR C fr L (.fieldAddr t x i) ty (.pointer (some ⟨g,p,none⟩)):=by
 unfold akh at h;split at h
 ·rename_i fs hu;cases hb:fs.toList.all (λfd=>CA C.P fd.type)with
  |false=>rw[hb]at h;cases h
  |true=>
   rw[hb,Ii]at h;obtain⟨hi,Tu⟩:=Bw.1 h;simp only[dX,qL]at hi Tu;have hm:=LU.1 hb _ (oT hi);refine EC (fs:=fs) (fd:=fs.toList[i]) hu ?_ hm he (by rw[Tu];exact hq);simp
 ·cases h
theorem ar0{N B:Nat}{w0:World}{i q p:Nat}(h:aj1 t i arR=some q)(he:ev fr x=some (.pointer (some ⟨g,o,none⟩)))(hq:o+q=p):gR ⟨Tryz.prog,N,B,w0⟩ fr L (.fieldAddr t x i) ty (.pointer (some ⟨g,p,none⟩)):=
 anR (C:=⟨Tryz.prog,N,B,w0⟩) (OC (p:=akh Tryz.prog) _ ajc h) he hq
end
theorem dt{p:Prop}(h:p:=by first
 |(with_reducible apply ek);exact rfl
 |(with_reducible apply mb);exact rfl
 |(with_reducible apply ar0)<;>exact rfl
 |(with_reducible apply K7);exact rfl
 |(with_reducible apply N')<;>exact rfl
 |(with_reducible apply ar3);exact rfl;exact rfl;exact aW;exact rfl
 |(with_reducible apply Z1);kernel_rfl;exact rfl
 |(with_reducible apply ai7)<;>exact rfl
 |(with_reducible apply yL)<;>exact rfl
 |(with_reducible apply ai3)<;>exact rfl
 |(with_reducible apply ai5)<;>exact rfl
 |(with_reducible apply ai6)<;>exact rfl
 |(with_reducible apply ai4)<;>exact rfl
 |(with_reducible apply SA)<;>exact rfl
 |(with_reducible apply SB)<;>exact rfl
 |(with_reducible apply AV)<;>exact rfl
 |(with_reducible apply AU)<;>exact rfl
 |(with_reducible apply bJ);exact rfl;exact rfl;exact bq (by omega) (by omega)
 |(with_reducible apply dC);exact rfl;exact rfl;exact bq (by omega) (by omega)
 |(with_reducible apply eH);exact rfl;exact rfl;exact bq (by omega) (by omega)
 |(with_reducible apply ar2);exact rfl;exact rfl;exact rfl;exact aB;kernel_rfl;omega
 |(with_reducible apply ad7);exact rfl;exact rfl;exact aW;(first|rfl|(simp;omega)|(simp[*];first|done|fail))
 |(with_reducible apply iR);kernel_rfl;exact rfl;exact aB;omega
 |(with_reducible apply K4);kernel_rfl;exact rfl;exact aB;omega
 |(with_reducible apply gX);kernel_rfl;exact rfl;exact aB;omega
 |(with_reducible apply HV);kernel_rfl;exact rfl;exact aB;omega
 |(with_reducible apply ad6);kernel_rfl;exact rfl
 |(with_reducible apply ajn);exact rfl;exact rfl;(first|exact bq (by omega) (by omega)|exact gj (by omega) (by omega)|exact ab' (by omega) (by omega)|exact am0 (by omega) (by omega));kernel_rfl
 |(with_reducible apply Oc);exact amo (by kernel_rfl);exact rfl;exact rfl
 |(with_reducible apply K8);exact amo (by kernel_rfl);exact rfl;exact rfl
 |(with_reducible apply Zz)<;>exact rfl
 |(with_reducible apply I8)<;>exact rfl
 |(with_reducible apply K5)<;>exact rfl
 |exact adu rfl):p:=h
theorem ar7{N B:Nat}{w0:World}{fr:Fr}{L:aR}{ty t bt:TypeId}{x y:Operand}{g kk:Nat}{cs us:cZ}{f:Ch->aR}(h:zr t apZ=some kk)(he:ev fr x=some (br g))(hv:ev fr y=some (.agg us.toArray))(h1:∀u∈us,u.oneCell'=true)(hm:na (.bG g bt cs) L f)(hk:E cs=kk)(hu:E us=kk):
 q8 ⟨Tryz.prog,N,B,w0⟩ fr L (.store t x y) ty (λp L'=>L'=f (.bG g bt us)):=oG (C:=⟨Tryz.prog,N,B,w0⟩) kk (zt (p:=p8 Tryz.prog) _ YQ h) he hv h1 hm hk hu
theorem amg{p:Prop}(h:p:=by first
 |exact HY (by kernel_rfl) rfl rfl aW (by first|omega|(simp;(first|done|fail))|(simp;omega))
 |exact pr (by kernel_rfl) rfl rfl rfl aW (by simp;(first|done|fail))
 |exact ia (by kernel_rfl) rfl rfl rfl aW (by first|omega|(simp;(first|done|fail))|(simp;omega))
 |exact ar7 rfl rfl rfl cw aW (by first|rfl|(simp;omega)|(simp[*];(first|done|fail))) (by first|rfl|(simp;omega)|(simp[*];(first|done|fail)))):p:=h
section
variable{C:Cx}{Q:Exit->Fr->aR->Prop}{fr j8:Fr}{L L' S:aR}{ops:Array Oper}{l:tx}{op:Op}{ty t:TypeId}{pos:String}{af:Array Edge}{d g o:Nat}{v:Value}{x y:Operand}{fuel:Nat}{li:Array Bool}{ar:List Operand}{Dq:Array TypeId}{vs:cZ}{f:FuncId}{gu:Option (Nat×Bool)}{i:Nat}
theorem ai{v:Value}{L1:aR}(he:C9 fr ar=some vs)(h:dU C.P C.B C.w0 f vs L (λr M=>r=v∧M=L1))(k:VL C ops Q l ((d,v)::fr) L1)(hc:aK C.P f:=by exact afJ (by kernel_rfl))(hd:Nat.blt d C.N=true:=by exact rfl):
 VL C ops Q (⟨some d,.call {callee:=.value (.func f),args:=ar.toArray,argTypes:=Dq},ty,pos,af,none⟩::l) fr L:=be hc he h hd λv L' ⟨h1,h2⟩=>by subst h1;subst h2;exact k
theorem ay{α β:Type}{v:α->β->Value}{L1:α->β->aR}(he:C9 fr ar=some vs)(h:dU C.P C.B C.w0 f vs L (λr M=>∃a b,r=v a b∧M=L1 a b))(k:∀a b,VL C ops Q l ((d,v a b)::fr) (L1 a b))(hc:aK C.P f:=by exact afJ (by kernel_rfl))(hd:Nat.blt d C.N=true:=by exact rfl):
 VL C ops Q (⟨some d,.call {callee:=.value (.func f),args:=ar.toArray,argTypes:=Dq},ty,pos,af,none⟩::l) fr L:=be hc he h hd λv L' ⟨a,b,h1,h2⟩=>by subst h1;subst h2;exact k a b
theorem fh{α β γ:Type}{v:α->β->γ->Value}{L1:α->β->γ->aR}(he:C9 fr ar=some vs)(h:dU C.P C.B C.w0 f vs L (λr M=>∃a b e,r=v a b e∧M=L1 a b e))(k:∀a b e,VL C ops Q l ((d,v a b e)::fr) (L1 a b e))(hc:aK C.P f:=by exact afJ (by kernel_rfl))(hd:Nat.blt d C.N=true:=by exact rfl):
 VL C ops Q (⟨some d,.call {callee:=.value (.func f),args:=ar.toArray,argTypes:=Dq},ty,pos,af,none⟩::l) fr L:=be hc he h hd λv L' ⟨a,b,e,h1,h2⟩=>by subst h1;subst h2;exact k a b e
theorem lk{L1:aR}(h:q8 C fr L op ty (λp M=>M=L1))(k:VL C ops Q l fr L1):VL C ops Q (⟨none,op,ty,pos,af,none⟩::l) fr L:=alB h λv L' h1=>by subst h1;exact k
theorem cC{α:Type}{v:α->Value}{L1:α->aR}(h:q8 C fr L op ty (λp M=>∃a,p=v a∧M=L1 a))(k:∀a,VL C ops Q l ((d,v a)::fr) (L1 a))(hd:Nat.blt d C.N=true:=by exact rfl):VL C ops Q (⟨some d,op,ty,pos,af,none⟩::l) fr L:=mj h hd λv L' ⟨a,h1,h2⟩=>by subst h1;subst h2;exact k a
theorem fK{α β:Type}{v:α->β->Value}{L1:α->β->aR}(h:q8 C fr L op ty (λp M=>∃a b,p=v a b∧M=L1 a b))(k:∀a b,VL C ops Q l ((d,v a b)::fr) (L1 a b))(hd:Nat.blt d C.N=true:=by exact rfl):VL C ops Q (⟨some d,op,ty,pos,af,none⟩::l) fr L:=mj h hd λv L' ⟨a,b,h1,h2⟩=>by subst h1;subst h2;exact k a b
theorem bg{cs:cZ}{e:TypeId}(k:∀g,VL C ops Q l ((d,br g)::fr) (.bG g e cs::L))(he:ev fr x=some v:=by exact rfl)(hc:v.cells=cs.toArray:=by exact rfl)(hd:Nat.blt d C.N=true:=by exact rfl):VL C ops Q (⟨some d,.box e x,ty,pos,af,none⟩::l) fr L:=cC (WI he hc) k hd
def am4(P:Program):List (Nat×Value)->Prop
 |[]=>True
 |q::r=>(P.info? q.1).bind (·.zero)=some q.2∧am4 P r
def atB:List (Nat×Value):=[(3,ah 0),(4,.bool false),(9,.string ⟨#[]⟩),(23,.agg #[ah 0,.bool false,ah 0,ah 0,ah 0,ah 0]),(27,.slice none 0 0),(41,.agg #[ah 0,ah 0,ah 0,ah 0,.bool false]),(52,.slice none 0 0),(60,.int .u64 0),(62,.agg #[.int .u64 0,.int .u8 0,.string ⟨#[]⟩,.string ⟨#[]⟩]),(83,.agg #[.slice none 0 0,.slice none 0 0,ah 0,ah 0]),(87,.slice none 0 0),(90,.agg #[.slice none 0 0,.slice none 0 0]),(161,.agg #[.slice none 0 0,.slice none 0 0]),(166,.agg #[ah 0,ah 0,ah 0,ah 0]),(170,.agg #[.int .u8 0,ah 0,ah 0]),(186,.slice none 0 0),(195,.agg #[ah 0,ah 0,ah 0]),(217,.agg #[.slice none 0 0]),(235,.agg #[ah 0,.slice none 0 0,.slice none 0 0]),(239,.agg #[.slice none 0 0,ah 0]),(272,.agg #[ah 0,ah 0,.slice none 0 0]),(350,.agg #[.int .u8 0,.int .u8 0,.int .u8 0]),(366,.agg #[.pointer none]),(382,.agg #[.int .u8 0,.int .u8 0,.int .u8 0,.int .u8 0,.int .u8 0,.int .u8 0,.int .u8 0,.int .u8 0,.int .u8 0,.int .u8 0,.int .u8 0,.int .u8 0,.int .u8 0,.int .u8 0,.int .u8 0,.int .u8 0,.int .u8 0,.int .u8 0,.int .u8 0,.int .u8 0,.int .u8 0,.int .u8 0,.int .u8 0,.int .u8 0,.int .u8 0,.int .u8 0,.int .u8 0,.int .u8 0,.int .u8 0,.int .u8 0,.int .u8 0,.int .u8 0,.int .u8 0,.int .u8 0,.int .u8 0,.int .u8 0,.int .u8 0,.int .u8 0,.int .u8 0,.int .u8 0,.int .u8 0,.int .u8 0,.int .u8 0,.int .u8 0,.int .u8 0,.int .u8 0,.int .u8 0,.int .u8 0,.int .u8 0,.int .u8 0,.int .u8 0,.int .u8 0,.int .u8 0,.int .u8 0,.int .u8 0,.int .u8 0,.int .u8 0,.int .u8 0,.int .u8 0,.int .u8 0,.int .u8 0,.int .u8 0,.int .u8 0,.int .u8 0,.int .u8 0,.int .u8 0,.int .u8 0,.int .u8 0,.int .u8 0,.int .u8 0,.int .u8 0,.int .u8 0,.int .u8 0,.int .u8 0,.int .u8 0,.int .u8 0,.int .u8 0,.int .u8 0,.int .u8 0,.int .u8 0,.int .u8 0,.int .u8 0,.int .u8 0,.int .u8 0,.int .u8 0,.int .u8 0,.int .u8 0,.int .u8 0,.int .u8 0,.int .u8 0,.int .u8 0,.int .u8 0,.int .u8 0,.int .u8 0,.int .u8 0,.int .u8 0,.int .u8 0,.int .u8 0,.int .u8 0,.int .u8 0,.int .u8 0,.int .u8 0,.int .u8 0,.int .u8 0,.int .u8 0,.int .u8 0,.int .u8 0,.int .u8 0,.int .u8 0,.int .u8 0,.int .u8 0,.int .u8 0,.int .u8 0,.int .u8 0,.int .u8 0,.int .u8 0,.int .u8 0,.int .u8 0,.int .u8 0,.int .u8 0,.int .u8 0,.int .u8 0,.int .u8 0,.int .u8 0,.int .u8 0,.int .u8 0,.int .u8 0,.int .u8 0,.int .u8 0,.int .u8 0,.int .u8 0,.int .u8 0,.int .u8 0,.int .u8 0,.int .u8 0,.int .u8 0,.int .u8 0,.int .u8 0,.int .u8 0,.int .u8 0,.int .u8 0,.int .u8 0,.int .u8 0,.int .u8 0,.int .u8 0,.int .u8 0,.int .u8 0,.int .u8 0,.int .u8 0,.int .u8 0,.int .u8 0,.int .u8 0,.int .u8 0,.int .u8 0,.int .u8 0,.int .u8 0,.int .u8 0,.int .u8 0,.int .u8 0,.int .u8 0,.int .u8 0,.int .u8 0,.int .u8 0,.int .u8 0,.int .u8 0,.int .u8 0,.int .u8 0,.int .u8 0,.int .u8 0,.int .u8 0,.int .u8 0,.int .u8 0,.int .u8 0,.int .u8 0,.int .u8 0,.int .u8 0,.int .u8 0,.int .u8 0,.int .u8 0,.int .u8 0,.int .u8 0,.int .u8 0,.int .u8 0,.int .u8 0,.int .u8 0,.int .u8 0,.int .u8 0,.int .u8 0,.int .u8 0,.int .u8 0,.int .u8 0,.int .u8 0,.int .u8 0,.int .u8 0,.int .u8 0,.int .u8 0,.int .u8 0,.int .u8 0,.int .u8 0,.int .u8 0,.int .u8 0,.int .u8 0,.int .u8 0,.int .u8 0,.int .u8 0,.int .u8 0,.int .u8 0,.int .u8 0,.int .u8 0,.int .u8 0,.int .u8 0,.int .u8 0,.int .u8 0,.int .u8 0,.int .u8 0,.int .u8 0,.int .u8 0,.int .u8 0,.int .u8 0,.int .u8 0,.int .u8 0,.int .u8 0,.int .u8 0,.int .u8 0,.int .u8 0,.int .u8 0,.int .u8 0,.int .u8 0,.int .u8 0,.int .u8 0,.int .u8 0,.int .u8 0,.int .u8 0,.int .u8 0,.int .u8 0,.int .u8 0,.int .u8 0,.int .u8 0,.int .u8 0,.int .u8 0,.int .u8 0,.int .u8 0,.int .u8 0,.int .u8 0,.int .u8 0,.int .u8 0,.int .u8 0,.int .u8 0,.int .u8 0,.int .u8 0,.int .u8 0,.int .u8 0,.int .u8 0,.int .u8 0,.int .u8 0,.int .u8 0]),(397,.agg #[.int .u64 0,.bool false]),(398,.int .u64 0),(426,.agg #[ah 0,ah 0,ah 0,ah 0,ah 0,ah 0,ah 0,ah 0,ah 0,ah 0,ah 0,ah 0,ah 0,ah 0,ah 0,ah 0]),(430,.agg #[ah 0,ah 0,ah 0,ah 0,ah 0,ah 0,ah 0,ah 0,ah 0,ah 0,ah 0,ah 0,ah 0,ah 0,ah 0,ah 0,ah 0])]
theorem alI:am4 Tryz.prog atB:=⟨by kernel_rfl,by kernel_rfl,by kernel_rfl,by kernel_rfl,by kernel_rfl,by kernel_rfl,by kernel_rfl,by kernel_rfl,by kernel_rfl,by kernel_rfl,by kernel_rfl,by kernel_rfl,by kernel_rfl,by kernel_rfl,by kernel_rfl,by kernel_rfl,by kernel_rfl,by kernel_rfl,by kernel_rfl,by kernel_rfl,by kernel_rfl,by kernel_rfl,by kernel_rfl,by kernel_rfl,by kernel_rfl,by kernel_rfl,by kernel_rfl,by kernel_rfl,trivial⟩
theorem YT{P:Program}{t:TypeId}{v:Value}:∀l:List (Nat×Value),am4 P l->zr t l=some v->(P.info? t).bind (·.zero)=some v
 |[],_,h=>by cases h
 |(s,r)::l,ha,h=>by
  unfold zr at h;cases hb:Nat.beq s t with
  |true=>
   rw[hb,Ii]at h;injection h with h;rw[<-r9 hb,<-h];exact ha.1
  |false=>rw[hb,cond_false]at h;exact YT l ha.2 h
theorem bh{N B:Nat}{w0:World}{zv:Value}{cs:cZ}{e:TypeId}(k:∀g,VL ⟨Tryz.prog,N,B,w0⟩ ops Q l ((d,br g)::fr) (.bG g e cs::L))(hz:zr e atB=some zv:=by exact rfl)(hc:zv.cells=cs.toArray:=by exact rfl)(hd:Nat.blt d N=true:=by exact rfl):VL ⟨Tryz.prog,N,B,w0⟩ ops Q (⟨some d,.alloc e,ty,pos,af,none⟩::l) fr L:=cC (C:=⟨Tryz.prog,N,B,w0⟩) (Om (YT _ alI hz) hc) k hd
theorem aj{tt:Nat}{cd Hq:Code}{p:Prop}[Decidable p](ht:p->VC C cd Q ((tt,.bool true)::fr) L)(hf:¬p->VC C Hq Q ((tt,.bool false)::fr) L)(hc:look tt fr=some (.bool (decide p)):=by exact rfl):VC C (.cond (.tmp tt) cd Hq) Q fr L:=xY hc ht hf
theorem iH{tt:Nat}{cd Hq:Code}{b:Bool}(ht:b=true->VC C cd Q ((tt,.bool true)::fr) L)(hf:b=false->VC C Hq Q ((tt,.bool false)::fr) L)(hc:look tt fr=some (.bool b):=by exact rfl):VC C (.cond (.tmp tt) cd Hq) Q fr L:=ahQ hc ht hf
theorem dw{tt:Nat}{cd Hq:Code}{p:Prop}[Decidable p](hf:¬p->VC C Hq Q ((tt,.bool false)::fr) L)(hc:look tt fr=some (.bool (decide p)):=by exact rfl)(hp:¬p:=by(intro h;exfalso;omega)):VC C (.cond (.tmp tt) cd Hq) Q fr L:=xY hc (λh=>absurd h hp) hf
theorem Bf{tt:Nat}{cd Hq:Code}{p:Prop}[Decidable p](ht:p->VC C cd Q ((tt,.bool true)::fr) L)(hc:look tt fr=some (.bool (decide p)):=by exact rfl)(hp:¬p->False:=by(intro h;exfalso;omega)):VC C (.cond (.tmp tt) cd Hq) Q fr L:=xY hc ht (λh=>(hp h).elim)
theorem aT{cd:Code}(hs:Sub fr j8)(hp:Wk L L')(k:VC C cd Q j8 L'):VC C cd Q fr L:=B_ _ hs (vy hp k)
theorem cD{j t:Nat}{dd:Nat}{p:Prop}[Decidable p](k1:p->VL C ops Q (⟨some dd,op,ty,pos,af,none⟩::l) ((t,.bool true)::fr) L)(k2:¬p->VL C ops Q l ((dd,undef)::(t,.bool false)::fr) L)(hj:(ops[j]?).bind (·.dst)=some t:=by exact rfl)(ht:look t fr=some (.bool (decide p)):=by exact rfl)(hd:Nat.blt dd C.N=true:=by exact rfl):VL C ops Q (⟨some dd,op,ty,pos,af,some (j,true)⟩::l) fr L:=ab6 hj ht hd k1 k2
theorem Be(h:Gd ops fr gu:=by first|exact .no|exact .yes rfl rfl):Gd ops fr gu:=h
theorem cE(S:aR){id:Nat}{l:tx}(h:VH C l.toArray S Q l.toArray.size (Array.replicate l.toArray.size false) fr L)(hm:C.P.follows .mixedOrders=true:=by kernel_rfl)(hS:S.Sublist L:=by exact gD):VC C (.region id l.toArray true) Q fr L:=ab5 hm hS h
theorem ae(i:Nat)(k:VH C ops S Q fuel (li.setIfInBounds i true) ((d,v)::fr) L)(ho:ops[i]? =some ⟨some d,op,ty,pos,af,none⟩:=by exact rfl)(hs:Region.noSelect ops=true:=by kernel_rfl)(hf:Region.free .any ops li i=true:=by kernel_rfl)(hr:(Region.ready .any ops li).contains i=true:=by kernel_rfl)(h:gR C fr S op ty v:=by exact dt)(hd:Nat.blt d C.N=true:=by exact rfl):VH C ops S Q (fuel+1) li fr L:=YM i ho hs hf hr h hd k
theorem aU(i:Nat)(ho:ops[i]? =some ⟨some d,op,ty,pos,af,none⟩)(h:gR C fr S op ty v)(k:VH C ops S Q fuel (li.setIfInBounds i true) ((d,v)::fr) L)(hs:Region.noSelect ops=true:=by kernel_rfl)(hf:Region.free .any ops li i=true:=by kernel_rfl)(hr:(Region.ready .any ops li).contains i=true:=by kernel_rfl)(hd:Nat.blt d C.N=true:=by exact rfl):VH C ops S Q (fuel+1) li fr L:=YM i ho hs hf hr h hd k
theorem aA(i:Nat)(h:Step C ops S Q fuel li fr L i)(hr:Region.ready .any ops li=[i]:=by kernel_rfl):VH C ops S Q (fuel+1) li fr L:=apT i hr h
theorem ib(i j:Nat)(h1:Step C ops S Q fuel li fr L i)(h2:Step C ops S Q fuel li fr L j)(hr:Region.ready .any ops li=[i,j]:=by kernel_rfl):VH C ops S Q (fuel+1) li fr L:=apU i j hr h1 h2
theorem ar5(k:VH C ops S Q fuel (li.setIfInBounds i true) ((d,v)::fr) L)(ho:ops[i]? =some ⟨some d,op,ty,pos,af,gu⟩:=by exact rfl)(hg:Gd ops fr gu:=by exact Be)(h:gR C fr L op ty v:=by exact dt)(hd:Nat.blt d C.N=true:=by exact rfl)(hS:S.Sublist L:=by exact gD):Step C ops S Q fuel li fr L i:=iL ho hg h hd hS k
theorem ar6{L1:aR}(k:VH C ops S Q fuel (li.setIfInBounds i true) fr L1)(ho:ops[i]? =some ⟨none,op,ty,pos,af,gu⟩:=by exact rfl)(hg:Gd ops fr gu:=by exact Be)(h:q8 C fr L op ty (λp M=>M=L1):=by exact amg)(hS:S.Sublist L1:=by exact gD):Step C ops S Q fuel li fr L i:=kJ ho hg h (λv L' h=>by subst h;exact hS) (λv L' h=>by subst h;exact k)
theorem cX{α:Type}{v:α->Value}{L1:α->aR}(ho:ops[i]? =some ⟨some d,op,ty,pos,af,gu⟩)(h:q8 C fr L op ty (λp M=>∃a,p=v a∧M=L1 a))(k:∀a,VH C ops S Q fuel (li.setIfInBounds i true) ((d,v a)::fr) (L1 a))(hg:Gd ops fr gu:=by exact Be)(hd:Nat.blt d C.N=true:=by exact rfl)(hS:∀a,S.Sublist (L1 a):=by intro _;exact gD):Step C ops S Q fuel li fr L i:=UK ho hg h hd (λv L' ⟨a,h1,h2⟩=>by subst h2;exact hS a) (λv L' ⟨a,h1,h2⟩=>by subst h1;subst h2;exact k a)
theorem fi{α β:Type}{v:α->β->Value}{L1:α->β->aR}(ho:ops[i]? =some ⟨some d,op,ty,pos,af,gu⟩)(h:q8 C fr L op ty (λp M=>∃a b,p=v a b∧M=L1 a b))(k:∀a b,VH C ops S Q fuel (li.setIfInBounds i true) ((d,v a b)::fr) (L1 a b))(hg:Gd ops fr gu:=by exact Be)(hd:Nat.blt d C.N=true:=by exact rfl)(hS:∀a b,S.Sublist (L1 a b):=by intro _ _;exact gD):Step C ops S Q fuel li fr L i:=UK ho hg h hd (λv L' ⟨a,b,h1,h2⟩=>by subst h2;exact hS a b) (λv L' ⟨a,b,h1,h2⟩=>by subst h1;subst h2;exact k a b)
theorem js{L1:aR}(ho:ops[i]? =some ⟨some d,.call {callee:=.value (.func f),args:=ar.toArray,argTypes:=Dq},ty,pos,af,gu⟩)(he:C9 fr ar=some vs)(h:dU C.P C.B C.w0 f vs L (λr M=>r=v∧M=L1))(k:VH C ops S Q fuel (li.setIfInBounds i true) ((d,v)::fr) L1)(hg:Gd ops fr gu:=by exact Be)(hc:aK C.P f:=by exact afJ (by kernel_rfl))(hd:Nat.blt d C.N=true:=by exact rfl)(hS:S.Sublist L1:=by exact gD):Step C ops S Q fuel li fr L i:=gN ho hg hc he h hd (λv L' ⟨h1,h2⟩=>by subst h2;exact hS) (λv L' ⟨h1,h2⟩=>by subst h1;subst h2;exact k)
theorem b8{α β:Type}{v:α->β->Value}{L1:α->β->aR}(ho:ops[i]? =some ⟨some d,.call {callee:=.value (.func f),args:=ar.toArray,argTypes:=Dq},ty,pos,af,gu⟩)(he:C9 fr ar=some vs)(h:dU C.P C.B C.w0 f vs L (λr M=>∃a b,r=v a b∧M=L1 a b))(k:∀a b,VH C ops S Q fuel (li.setIfInBounds i true) ((d,v a b)::fr) (L1 a b))(hg:Gd ops fr gu:=by exact Be)(hc:aK C.P f:=by exact afJ (by kernel_rfl))(hd:Nat.blt d C.N=true:=by exact rfl)(hS:∀a b,S.Sublist (L1 a b):=by intro _ _;exact gD):Step C ops S Q fuel li fr L i:=gN ho hg hc he h hd (λv L' ⟨a,b,h1,h2⟩=>by subst h2;exact hS a b) (λv L' ⟨a,b,h1,h2⟩=>by subst h1;subst h2;exact k a b)
theorem ar1(h:Q .normal fr L)(hr:Region.ready .any ops li=[]:=by kernel_rfl):VH C ops S Q fuel li fr L:=λa w ha hw _=>wpAnyH_done hr (show NoPanic (lift C Q) .normal a w from⟨fr,L,ha,hw,h⟩) _
theorem cP(ks:bf)(h:Q .normal j8 L)(hs:Nf fr ks j8:=by((repeat (first|exact Nf.nil|(apply Nf.cons;exact rfl)));(first|done|fail)))(hr:Region.ready .any ops li=[]:=by kernel_rfl):VH C ops S Q fuel li fr L:=alA j8 hs.sub hr h
theorem bR(n d:Nat)(ks:bf){base:Fr}{l1 l2:tx}(p:Prop)[Decidable p](h1:VL C ops (λe fr L'=>e= .normal∧L'=L∧Sub fr base∧look d fr=some (.bool (decide p))) l1 fr L)(h2:VL C ops Q l2 ((d,.bool (decide p))::base) L)(hs:Nf fr ks base:=by((repeat (first|exact Nf.nil|(apply Nf.cons;exact rfl)));(first|done|fail)))(e1:l.take n=l1:=by simp only[r7,zl];exact rfl)(e2:l.drop n=l2:=by simp only[Fw,rr];exact rfl):VL C ops Q l fr L:=apV n d base p hs.sub (e1▸h1) (e2▸h2)
theorem Dw{QF:Fr->Prop}(n d:Nat)(ks:bf){base:Fr}{l1 l2:tx}(p:Prop)[Decidable p](h1:VQ C ops L (λfr=>Sub fr base∧look d fr=some (.bool (decide p))) l1 fr)(h2:VQ C ops L QF l2 ((d,.bool (decide p))::base))(hs:Nf fr ks base:=by((repeat (first|exact Nf.nil|(apply Nf.cons;exact rfl)));(first|done|fail)))(e1:l.take n=l1:=by simp only[r7,zl];exact rfl)(e2:l.drop n=l2:=by simp only[Fw,rr];exact rfl):VQ C ops L QF l fr:=apY n d base p hs.sub (e1▸h1) (e2▸h2)
theorem aL{base:Fr}{u:Value}(hd:look d fr=some u)(hb:Sub fr base:=by exact bp):VL C ops (λe fr L'=>e= .normal∧L'=L∧Sub fr base∧look d fr=some u) [] fr L:=Vj hb hd
theorem rj{base:Fr}{u:Value}(hd:look d fr=some u)(hb:Sub fr base:=by exact bp):VQ C ops L (λfr=>Sub fr base∧look d fr=some u) [] fr:=Vp hb hd
theorem aue{id:Nat}{l:tx}(h:VQ C l.toArray L (λj8=>Q .normal j8 L) l fr)(hm:C.P.follows .mixedOrders=true:=by kernel_rfl)(hB:Region.lexB .any l.toArray=true:=by kernel_rfl):VC C (.region id l.toArray true) Q fr L:=ab_ hm hB h
theorem ar4{QF:Fr->Prop}(h:QF fr):VQ C ops L QF [] fr:=λa ha=>wpQuiet_nil ⟨fr,ha,h⟩
end
theorem aF{P Q:Prop}(k:Q)(h:Hd Q->P:=by
 intro h;first
 |(with_reducible apply ab);exact dt;exact rfl
 |(with_reducible refine avT ?_)
 |(with_reducible refine abH ?_)
 |(with_reducible refine ahR ?_)
 |(with_reducible refine ab4 ?_)
 |(with_reducible refine apS ?_)
 |(with_reducible refine alz ?_)
 |(with_reducible refine ahP ?_)
 |(with_reducible refine aly ?_)
 |(with_reducible refine ahb ?_)
 |(with_reducible refine abG ?_)
 |(with_reducible refine aam ?_)
 |(with_reducible refine aov ?_)
 |(with_reducible refine asK ?_)
 |(with_reducible refine aaO ?_)
 |(with_reducible refine afj ?_)
 |(with_reducible refine ae6 ?_)
 |(with_reducible refine aax ?_)
 |(with_reducible refine ata ?_)
 |(with_reducible apply Vl);exact rfl;exact rfl
 |(with_reducible apply Vk);exact rfl;exact rfl;exact rfl;exact rfl
 |(with_reducible apply Vm);exact rfl;exact rfl;exact rfl
 |(with_reducible apply ab2);exact rfl
 |(with_reducible apply ab1);exact rfl
 |(with_reducible apply lk);exact amg
 |refine avJ rfl rfl ?_
 |refine avK rfl rfl rfl ?_
 |refine avI rfl ?_
 |refine as9 rfl rfl rfl rfl ?_
 |refine as' rfl rfl rfl rfl rfl ?_
 |(with_reducible refine ajN ?_ ?_);exact rfl
 |(with_reducible refine ar1 ?_)
 |(with_reducible refine aue ?_)
 |(with_reducible apply bL);exact dt;exact rfl
 |(with_reducible refine ar4 ?_)
 |(with_reducible apply Vr);exact rfl;exact rfl
 |(with_reducible apply Vq);exact rfl;exact rfl;exact rfl;exact rfl
 |(with_reducible apply Vs);exact rfl;exact rfl;exact rfl
 |refine ar6 ?_
 |refine ar5 ?_
 exact h.x):P:=h ⟨k⟩
theorem bc{P Q:Prop}(k:Q)(h:Hd Q->P:=by(intro h;(iterate 2 refine aF ?_);exact h.x)):P:=h ⟨k⟩
theorem bE{P Q:Prop}(k:Q)(h:Hd Q->P:=by(intro h;(iterate 3 refine aF ?_);exact h.x)):P:=h ⟨k⟩
theorem b7{P Q:Prop}(k:Q)(h:Hd Q->P:=by(intro h;(iterate 4 refine aF ?_);exact h.x)):P:=h ⟨k⟩
theorem bF{P Q:Prop}(k:Q)(h:Hd Q->P:=by(intro h;(iterate 5 refine aF ?_);exact h.x)):P:=h ⟨k⟩
theorem bB{P Q:Prop}(k:Q)(h:Hd Q->P:=by(intro h;(iterate 6 refine aF ?_);exact h.x)):P:=h ⟨k⟩
theorem bI{P Q:Prop}(k:Q)(h:Hd Q->P:=by(intro h;(iterate 7 refine aF ?_);exact h.x)):P:=h ⟨k⟩
theorem bK{P Q:Prop}(k:Q)(h:Hd Q->P:=by(intro h;(iterate 8 refine aF ?_);exact h.x)):P:=h ⟨k⟩
theorem bO{P Q:Prop}(k:Q)(h:Hd Q->P:=by(intro h;(iterate 9 refine aF ?_);exact h.x)):P:=h ⟨k⟩
theorem bz{P Q:Prop}(k:Q)(h:Hd Q->P:=by(intro h;(iterate 10 refine aF ?_);exact h.x)):P:=h ⟨k⟩
theorem de{P Q:Prop}(k:Q)(h:Hd Q->P:=by(intro h;(iterate 11 refine aF ?_);exact h.x)):P:=h ⟨k⟩
theorem cF{P Q:Prop}(k:Q)(h:Hd Q->P:=by(intro h;(iterate 12 refine aF ?_);exact h.x)):P:=h ⟨k⟩
theorem cY{P Q:Prop}(k:Q)(h:Hd Q->P:=by(intro h;(iterate 13 refine aF ?_);exact h.x)):P:=h ⟨k⟩
theorem ei{P Q:Prop}(k:Q)(h:Hd Q->P:=by(intro h;(iterate 14 refine aF ?_);exact h.x)):P:=h ⟨k⟩
theorem jt{P Q:Prop}(k:Q)(h:Hd Q->P:=by(intro h;(iterate 15 refine aF ?_);exact h.x)):P:=h ⟨k⟩
theorem jG{P Q:Prop}(k:Q)(h:Hd Q->P:=by(intro h;(iterate 16 refine aF ?_);exact h.x)):P:=h ⟨k⟩
theorem Bg{P Q:Prop}(k:Q)(h:Hd Q->P:=by(intro h;(iterate 17 refine aF ?_);exact h.x)):P:=h ⟨k⟩
theorem sR{P Q:Prop}(k:Q)(h:Hd Q->P:=by(intro h;(iterate 18 refine aF ?_);exact h.x)):P:=h ⟨k⟩
theorem Bh{P Q:Prop}(k:Q)(h:Hd Q->P:=by(intro h;(iterate 19 refine aF ?_);exact h.x)):P:=h ⟨k⟩
theorem anT{P Q:Prop}(k:Q)(h:Hd Q->P:=by(intro h;(iterate 20 refine aF ?_);exact h.x)):P:=h ⟨k⟩
theorem H5{P Q:Prop}(k:Q)(h:Hd Q->P:=by(intro h;(iterate 21 refine aF ?_);exact h.x)):P:=h ⟨k⟩
theorem E'{P Q:Prop}(k:Q)(h:Hd Q->P:=by(intro h;(iterate 22 refine aF ?_);exact h.x)):P:=h ⟨k⟩
theorem auf{P Q:Prop}(k:Q)(h:Hd Q->P:=by(intro h;(iterate 23 refine aF ?_);exact h.x)):P:=h ⟨k⟩
theorem aec{P Q:Prop}(k:Q)(h:Hd Q->P:=by(intro h;(iterate 24 refine aF ?_);exact h.x)):P:=h ⟨k⟩
theorem anU{P Q:Prop}(k:Q)(h:Hd Q->P:=by(intro h;(iterate 25 refine aF ?_);exact h.x)):P:=h ⟨k⟩
theorem ajq{P Q:Prop}(k:Q)(h:Hd Q->P:=by(intro h;(iterate 26 refine aF ?_);exact h.x)):P:=h ⟨k⟩
theorem aed{P Q:Prop}(k:Q)(h:Hd Q->P:=by(intro h;(iterate 27 refine aF ?_);exact h.x)):P:=h ⟨k⟩
theorem ar8{P Q:Prop}(k:Q)(h:Hd Q->P:=by(intro h;(iterate 28 refine aF ?_);exact h.x)):P:=h ⟨k⟩
theorem ar9{P Q:Prop}(k:Q)(h:Hd Q->P:=by(intro h;(iterate 29 refine aF ?_);exact h.x)):P:=h ⟨k⟩
theorem aug{P Q:Prop}(k:Q)(h:Hd Q->P:=by(intro h;(iterate 30 refine aF ?_);exact h.x)):P:=h ⟨k⟩
theorem auh{P Q:Prop}(k:Q)(h:Hd Q->P:=by(intro h;(iterate 31 refine aF ?_);exact h.x)):P:=h ⟨k⟩
theorem ar_{P Q:Prop}(k:Q)(h:Hd Q->P:=by(intro h;(iterate 32 refine aF ?_);exact h.x)):P:=h ⟨k⟩
theorem aui{P Q:Prop}(k:Q)(h:Hd Q->P:=by(intro h;(iterate 36 refine aF ?_);exact h.x)):P:=h ⟨k⟩
theorem auj{P Q:Prop}(k:Q)(h:Hd Q->P:=by(intro h;(iterate 38 refine aF ?_);exact h.x)):P:=h ⟨k⟩
abbrev aZ(B:Nat)(w0:World)(f:FuncId)(args:cZ)(L:aR)(R:rF):Prop:=dU Tryz.prog B w0 f args L R
abbrev fo(B:Nat)(w0:World)(L:List Ch)(A:Option Addr)(c:Nat)(l:List UInt8):Prop:=aM B w0 L 1 (.slice A (E l) c) (E l) (bv l)
end
theorem gV{P:Prop}(h:P:=by(first|rfl|(simp;omega)|(simp[*];done))):P:=h
theorem HD{P:Prop}(h:P:=by(first|omega|(simp;done)|(simp;omega))):P:=h
theorem aqR{P:Prop}(h:P:=by(exact dR (by first|omega|(rw[hg];omega)))):P:=h
theorem jN:type_of% @Classical.not_not:= @Classical.not_not
theorem Fit.no{l:al}{k:Nat}(hk:k<E l)(h:¬((l.getD k 0).toNat<=15)):¬Fit l:=λhf=>h (hf.2 _ (bj hk 0))
def HA(l:al):Prop:=∀c∈l,c.toNat<=15
theorem HA.step{l:al}{k:Nat}(h:HA (l.take k))(hk:k<E l)(hs:(l.getD k 0).toNat<=15):HA (l.take (k+1)):=by
 rw[aY hk 0];intro c hc;rcases dz.1 hc with hc|hc
 ·exact h c hc
 ·simp only[me]at hc;rw[hc];exact hs
theorem HA.BI:HA []:=by intro c h;cases h
theorem HA.all{l:al}{k:Nat}(h:HA (l.take k))(hk:¬k<E l):HA l:=by rwa [fC aa]at h
theorem ac_{l:al}{k:Nat}(hk:k<E l)(hc:(l.getD k 0).toNat<16):ints .i64 ((uz (l.take k)).set (l.getD k 0).toNat ((uz (l.take k)).getD (l.getD k 0).toNat 0+1))=ints .i64 (uz (l.take (k+1))):=by
 rw[ac' hc,aY hk 0]
def atL(l:al)(b:List Int)(ok:Bool):Prop:=Few b∧ok=decide (Fit l)∧(ok=true->b=rK l)
theorem adL:Few (List.replicate 16 0):=aiU▸Lh ak
theorem af7{k:Nat}{x:Int}(h:0<=x∧x<=300):0<=x*2^(15-k)∧x*2^(15-k)<=9830400:=by
 have h2:(2:Int)^(15-k)<=2^15:=by
  have:(2:Nat)^(15-k)<=2^15:=gJ aa aa
  exact_mod_cast this
 have h3:(0:Int)<2^(15-k):=Int.pow_pos aa;exact⟨Int.mul_nonneg h.1 aa,by have:=Int.mul_le_mul h.2 h2 aa aa;omega⟩
theorem atf{k:Nat}{x:Int}(hk:k<16)(h:0<=x*2^(15-k)∧x*2^(15-k)<=9830400):IntKind.i64.wrap (x*2^min (15-(k:Int)).toNat IntKind.i64.bits)=x*2^(15-k):=by
 have e:min (15-(k:Int)).toNat IntKind.i64.bits=15-k:=by
  have:(15-(k:Int)).toNat=15-k:=by omega
  rw[this];show min (15-k) 64=15-k;omega
 rw[e];exact bq aa aa
theorem I0(l:al)(hb:fo B w0 F A c l):aZ B w0 317 [.slice A (E l) c] F (λr L=>∃b ok,r= .tuple #[.agg (ints .i64 b).toArray,.bool ok]∧L=F∧atL l b ok):=by
 refine fw func317 27 [0] ?_;refine bc ?_;refine bh λg2=>?_;refine de ?_;refine aj (λh8=>?_) λh8=>?_
 ·refine bO ?_;refine iK rfl rfl ag aW gV rfl (.skip (.refl _)) ?_;refine⟨List.replicate 16 0,false,rfl,rfl,adL,(oq λh=>?_).symm,λh=>kC⟩;have:=h.1;omega
 ·refine de ?_;refine aD (λzf zL zm=>∃(k:Nat),(k<=E l∧HA (l.take k))∧E l-k=zm∧Sub zf [(2,br g2),(10,.slice A (E l) c),(11,ah (E l)),(12,ah k)]∧Wk zL (.bG g2 426 (ints .i64 (uz (l.take k)))::F)) _ ⟨0,⟨bU _,HA.BI⟩,rfl,bp,bw rfl (.refl _)⟩ ?_;rintro _ _ _ ⟨k,⟨hk,hL⟩,rfl,hs,hp⟩;refine aT hs hp ?_;have hu:=(l.getD k 0).toNat_lt;have hf:=Lh (l:=l.take k) bT;have hf1:=hf.1;have hfb:=hf.2 (l.getD k 0).toNat;refine bB ?_;refine aj (λnj=>?_) λnj=>?_
  ·refine sR ?_;refine aj (λiI=>?_) λiI=>?_
   ·refine ei ?_;refine iK rfl rfl ag aW gV rfl (.skip (.refl _)) ?_;refine⟨_,false,rfl,rfl,hf,(oq ?_).symm,λh=>kC⟩;exact Fit.no (k:=k) aa aa
   ·refine b7 ?_;refine ab (aP (i:=(l.getD k 0).toNat) underlying426 ag rfl rfl rfl aa) rfl (ab (fk ag rfl aW HD) rfl (aF ?_));refine ab (aP (i:=(l.getD k 0).toNat) underlying426 ag rfl rfl rfl aa) rfl (bK ?_);refine av ⟨_,aa,k+1,⟨aa,hL.step aa aa⟩,rfl,bp,bw (ac_ aa aa) (.refl _)⟩
  ·refine bI ?_;refine ab (aP (i:=0) underlying426 ag rfl rfl rfl aa) rfl (de ?_);refine iK rfl rfl ag aW gV rfl (.skip (.refl _)) ?_;have hL':=hL.all aa;refine⟨_,true,rfl,rfl,WK hf 0 aa,(oK ⟨aa,hL'⟩).symm,λ_=>?_⟩;rw[fC aa];rfl
theorem Er(b:List Int)(hf:Few b):aZ B w0 318 [.agg (ints .i64 b).toArray] F (λr L=>r= .tuple #[ah (xQ b 16),ah (uA b 16)]∧L=F):=by
 have hb:=hf.1;refine fw func318 24 [0] ?_;refine bc ?_;refine bg λg1=>?_;refine de ?_;refine aD (λzf zL zm=>∃(k:Nat),(1<=k∧k<=16)∧16-k=zm∧Sub zf [(1,br g1),(2,ah (xQ b k)),(3,ah (uA b k)),(4,ah k)]∧Wk zL (.bG g1 426 (ints .i64 b)::F)) _ ⟨1,⟨aa,aa⟩,rfl,bp,.refl _⟩ ?_;rintro _ _ _ ⟨k,⟨yf,hk⟩,rfl,hs,hp⟩;refine aT hs hp ?_;clear hs hp;have hs:=hf.sum k;have hc:=hf.sB k;have lK:=hf.sum (k+1);have Ly:=hf.sB (k+1);have hbk:=hf.2 k;have e1:=abz b yf;have e2:=Zl b yf;have hw2:=af7 (k:=k) hbk;refine bI ?_;refine aj (λh6=>?_) λh6=>?_
 ·refine bK ?_;refine ab (aP underlying426 ag rfl rfl rfl aa) rfl (ab (fk ag rfl aW HD) rfl (bc ?_));refine ab (gk rfl rfl aa (atf aa hw2)) rfl (bI ?_);refine ab (aP underlying426 ag rfl rfl rfl aa) rfl (ab (fk ag rfl aW HD) rfl (bc ?_));refine ve [1,2,3,4] ?_;refine bI ?_;rw[<-e1,<-e2];refine av ⟨_,aa,k+1,⟨aa,aa⟩,rfl,bp,.refl _⟩
 ·refine ei ?_;have aoa:k=16:=by omega
  subst aoa;refine aq (.skip (.refl _)) (aF ?_);exact⟨rfl,rfl⟩
theorem I5(l:al)(hb:fo B w0 F A c l)(hf:Fit l):aZ B w0 317 [.slice A (E l) c] F (λr L=>r= .tuple #[.agg (ints .i64 (rK l)).toArray,.bool true]∧L=F):=
 (I0 l hb).mono λv L ⟨b,ok,h1,h2,h3,h4,h5⟩=>by
  have:ok=true:=h4.trans (oK hf);subst this;rw[h1,h5 rfl];exact⟨rfl,h2⟩
theorem adl(l:al)(hb:fo B w0 F A c l)(hf:¬Fit l):aZ B w0 317 [.slice A (E l) c] F (λr L=>∃b,r= .tuple #[.agg (ints .i64 b).toArray,.bool false]∧L=F∧Few b):=
 (I0 l hb).mono λv L ⟨b,ok,h1,h2,h3,h4,h5⟩=>by
  have:ok=false:=h4.trans (oq hf);subst this;exact⟨b,h1,h2,h3⟩
theorem yz{l:al}(h:Good l):chk l=0:=ao h
theorem Ds{l:al}(h:¬Good l):chk l=7:=aw h
theorem AQ(l:al)(hb:fo B w0 F A c l):aZ B w0 286 [.slice A (E l) c] F (λr L=>r=ah (chk l)∧L=F):=by
 by_cases hf:Fit l
 ·have ye:=OE hf;have hf1:=ye.1;have awc:=ye.sB 16;have hg:=ad8 hf;refine fw func286 36 [0] ?_;refine bK ?_;refine ai rfl (I5 l aB hf) (bE ?_);refine bh λg3=>?_;refine bI ?_;refine ai rfl (Er _ ye) (bz ?_);refine bR 19 35 [] (¬Good l) ?_ ?_
  ·refine bO ?_;refine cD (λrm=>?_) λrm=>?_
   ·refine bI ?_;refine cD (λqy=>?_) λqy=>?_
    ·refine bF ?_;refine aI rfl rfl rfl (λqu=>?_) (λqu=>?_)
     ·refine ab (aP (i:=1) underlying426 ag rfl rfl rfl aa) rfl (aF ?_);refine ab (fk ag rfl aW HD) rfl (bI ?_);exact aL (by exact dG (by first|omega|(rw[hg];omega)))
     ·refine bI ?_;exact aL (by exact dS (by first|omega|(rw[hg];omega)))
    ·refine bO ?_;exact aL aqR
   ·refine jt ?_;exact aL aqR
  ·refine bc ?_;refine aj (λuI=>?_) λuI=>?_
   ·refine bI ?_;refine aq (.skip (.refl _)) (aF ?_);rw[Ds uI];exact⟨rfl,rfl⟩
   ·refine bK ?_;refine aq (.skip (.refl _)) (aF ?_);rw[yz (jN.1 uI)];exact⟨rfl,rfl⟩
 ·have Tc:¬Good l:=λg=>hf g.1;refine fw func286 36 [0] ?_;refine bK ?_;refine be arF rfl (adl l aB hf) rfl ?_;rintro _ _ ⟨b,rfl,cO,ye⟩;obtain rfl:=cO.symm;have hf1:=ye.1;refine bE ?_;refine bh λg3=>?_;refine bI ?_;refine ai rfl (Er _ ye) (ar9 ?_);refine ve [35] ?_;refine bO ?_;refine aq (.skip (.refl _)) (aF ?_);rw[Ds Tc];exact⟨rfl,rfl⟩
section
theorem Pq:type_of% @Nat.lt_of_le_of_lt:= @Nat.lt_of_le_of_lt
theorem iN(n a:Nat)(ha:a<2^n):(BitVec.ofInt n (a:Int)).toNat=a:=by
 rw[BitVec.ofInt_natCast,BitVec.toNat_ofNat];exact jh ha
theorem wrap_u8(a:Nat)(h:a<256):IntKind.u8.wrap (a:Int)=(a:Int):=by
 show(a:Int)%256=a;omega
theorem wrap_u64(a:Nat)(h:a<18446744073709551616):IntKind.u64.wrap (a:Int)=(a:Int):=by
 show(a:Int)%18446744073709551616=a;omega
theorem wrap_i64(a:Int)(h1:-9223372036854775808<=a)(h2:a<9223372036854775808):IntKind.i64.wrap a=a:=by
 rw[IntKind.wrap_i64];omega
section
variable(a b:Nat)
theorem u8_or(ha:a<256)(hb:b<256):bits .or .u8 (a:Int) (b:Int)=((a ||| b:Nat):Int):=by
 have hx:a ||| b<2^8:=Nat.or_lt_two_pow ha hb
 show IntKind.u8.wrap ((BitVec.ofInt 8 (a:Int) ||| BitVec.ofInt 8 (b:Int)).toNat:Int)=_;rw[BitVec.toNat_or,iN 8 a ha,iN 8 b hb,wrap_u8 _ hx]
theorem u64_and(ha:a<18446744073709551616)(hb:b<18446744073709551616):bits .and .u64 (a:Int) (b:Int)=((a &&& b:Nat):Int):=by
 have hx:a &&& b<18446744073709551616:=Pq Nat.and_le_left ha;show IntKind.u64.wrap ((BitVec.ofInt 64 (a:Int) &&& BitVec.ofInt 64 (b:Int)).toNat:Int)=_;rw[BitVec.toNat_and,iN 64 a ha,iN 64 b hb,wrap_u64 _ hx]
theorem u64_or(ha:a<18446744073709551616)(hb:b<18446744073709551616):bits .or .u64 (a:Int) (b:Int)=((a ||| b:Nat):Int):=by
 have hx:a ||| b<2^64:=Nat.or_lt_two_pow ha hb
 show IntKind.u64.wrap ((BitVec.ofInt 64 (a:Int) ||| BitVec.ofInt 64 (b:Int)).toNat:Int)=_;rw[BitVec.toNat_or,iN 64 a ha,iN 64 b hb,wrap_u64 _ hx]
theorem u64_xor(ha:a<18446744073709551616)(hb:b<18446744073709551616):bits .xor .u64 (a:Int) (b:Int)=((a ^^^ b:Nat):Int):=by
 have hx:a ^^^ b<2^64:=Dh ha hb;show IntKind.u64.wrap ((BitVec.ofInt 64 (a:Int) ^^^ BitVec.ofInt 64 (b:Int)).toNat:Int)=_;rw[BitVec.toNat_xor,iN 64 a ha,iN 64 b hb,wrap_u64 _ hx]
theorem ajK(ha:a<9223372036854775808)(hb:b<9223372036854775808):bits .and .i64 (a:Int) (b:Int)=((a &&& b:Nat):Int):=by
 have hx:a &&& b<2^63:=Pm _ aa;show IntKind.i64.wrap ((BitVec.ofInt 64 (a:Int) &&& BitVec.ofInt 64 (b:Int)).toNat:Int)=_;rw[BitVec.toNat_and,iN 64 a aa,iN 64 b aa,wrap_i64]<;>omega
theorem aeT(ha:a<9223372036854775808)(hb:b<9223372036854775808):bits .or .i64 (a:Int) (b:Int)=((a ||| b:Nat):Int):=by
 have hx:a ||| b<2^63:=Nat.or_lt_two_pow aa aa
 show IntKind.i64.wrap ((BitVec.ofInt 64 (a:Int) ||| BitVec.ofInt 64 (b:Int)).toNat:Int)=_;rw[BitVec.toNat_or,iN 64 a aa,iN 64 b aa,wrap_i64]<;>omega
end
theorem afQ(a:Nat)(h:a<256):a ||| 128=128+a%128:=by
 have:∀x:Fin 256,x.val ||| 128=128+x.val%128:=by decide+kernel
 exact this ⟨a,h⟩
end
theorem Pr:type_of% @Nat.two_pow_add_eq_or_of_lt:= @Nat.two_pow_add_eq_or_of_lt
theorem w6:type_of% @Nat.two_pow_pos:= @Nat.two_pow_pos
theorem oj:type_of% @Nat.sub_self:= @Nat.sub_self
theorem qM:type_of% @List.length_singleton:= @List.length_singleton
theorem uT:type_of% @Nat.lt_of_lt_of_le:= @Nat.lt_of_lt_of_le
theorem Fx:type_of% @Nat.and_one_is_mod:= @Nat.and_one_is_mod
theorem CI:type_of% @Nat.div_eq_of_lt:= @Nat.div_eq_of_lt
def im(q:List Bool)(i:Nat):Nat:=(q.getD i false).toNat
theorem sH(q:List Bool)(i:Nat):im q i<=1:=Bool.toNat_le _
def part(q:List Bool)(i:Nat):Nat->Nat
 |0=>0
 |m+1=>2*part q i m+im q (i+m)
theorem qU(q:List Bool)(i:Nat):∀m,part q i m<2^m
 |0=>by simp[part]
 |m+1=>by have:=qU q i m;have:=sH q (i+m);simp only[part,jM];omega
def sh(q:List Bool)(k:Nat):UInt8:=UInt8.ofNat (part q (8*k) 8)
theorem vV(q:List Bool)(k:Nat):(sh q k).toNat=part q (8*k) 8:=by
 have:=qU q (8*k) 8;rw[sh,tX];exact jh this
def octets(q:List Bool)(k:Nat):al:=(List.range k).map (sh q)
theorem nR(q:List Bool)(k:Nat):E (octets q k)=k:=by simp[octets]
theorem vi(q:List Bool)(k:Nat):octets q (k+1)=octets q k++[sh q k]:=by simp[octets,lT]
def packed(q:List Bool):al:=octets q ((E q+7)/8)
theorem dO(q:List Bool):E (packed q)=(E q+7)/8:=nR _ _
theorem tc(q:List Bool){n k:Nat}(h:k<n):(octets q n).getD k 0=sh q k:=by
 simp[octets,ba,h]
theorem NC(q:List Bool)(b:Bool)(i:Nat):im (q++[b]) i=if i=E q then b.toNat else im q i:=by
 unfold im;split
 ·subst i;simp[ba]
 ·simp only[ba,List.getElem?_append];split
  ·rfl
  ·rw[Bv bT,Bv aa]
theorem yq(q:List Bool){i:Nat}(h:E q<=i):im q i=0:=by
 simp[im,ba,h]
theorem BL(q:List Bool)(b:Bool)(i:Nat):∀m,(E q<i∨i+m<=E q)->part (q++[b]) i m=part q i m
 |0,_=>rfl
 |m+1,h=>by
  rw[part,part,BL q b i m aa,NC,aw aa]
theorem JX(q:List Bool)(i:Nat):∀m,E q<=i->part q i m=0
 |0,_=>rfl
 |m+1,h=>by rw[part,JX q i m h,yq q aa]
theorem BM(q:List Bool)(i m:Nat)(h:i+m=E q):∀j,part q i (m+j)=part q i m*2^j
 |0=>by simp
 |j+1=>by
  rw[<-Pk,part,BM q i m h j,yq q aa,jM];rw[jL 2,mT];rfl
theorem afY(q:List Bool)(b:Bool)(i m:Nat)(h:i+m=E q)(j:Nat):part (q++[b]) i (m+1+j)=part q i (m+1+j) ||| b.toNat*2^j:=by
 rw[BM (q++[b]) i (m+1) bT,Pk,BM q i m h,part,BL q b i m aa,NC,ao h,zn 1 j];have hb:=Bool.toNat_le b;have e:part q i m*2^(j+1)=2^(j+1)*part q i m:=jL _ _;rw[e,<-Pr (by rw[jM];have:=w6 j;rcases b with _|_<;>simp<;>omega),kz,jM];congr 1;rw[jL 2 (part q i m),mT,jL 2 (2^j),jL (part q i m)]
theorem afF{q q':List Bool}{k:Nat}(h:part q (8*k) 8=part q' (8*k) 8):sh q k=sh q' k:=by rw[sh,sh,h]
theorem P5(q:List Bool)(b:Bool){n:Nat}(h:8*n<=E q):octets (q++[b]) n=octets q n:=by
 simp only[octets];apply qB;intro k hk;have:=pj.mp hk;exact afF (BL q b _ _ aa)
def room(q:List Bool):al:=octets q (E q/8+1)
theorem CS(q:List Bool):E (room q)=E q/8+1:=nR _ _
theorem Qy{q:List Bool}(h:E q%8=0):packed q++[0]=room q:=by
 rw[packed,room,show(E q+7)/8=E q/8 by omega,vi];congr 2;rw[sh,JX q _ _ aa];rfl
theorem ago{q:List Bool}(h:¬E q%8=0):packed q=room q:=by
 rw[packed,room,show(E q+7)/8=E q/8+1 by omega]
theorem agn(q:List Bool):((room q).getD (E q/8) 0).toNat=part q (8*(E q/8)) 8:=by
 rw[room,tc q aa,vV]
theorem as0{a b:Nat}(ha:a<256)(hb:b<256):IntKind.u8.wrap ((BitVec.ofInt IntKind.u8.bits (a:Int) ||| BitVec.ofInt IntKind.u8.bits (b:Int)).toNat:Int)=((a ||| b:Nat):Int):=u8_or a b ha hb
theorem VJ{a b:Nat}(ha:a<18446744073709551616)(hb:b<18446744073709551616):IntKind.u64.wrap ((BitVec.ofInt IntKind.u64.bits (a:Int) &&& BitVec.ofInt IntKind.u64.bits (b:Int)).toNat:Int)=((a &&& b:Nat):Int):=u64_and a b ha hb
theorem ape{a b:Nat}(ha:a<18446744073709551616)(hb:b<18446744073709551616):IntKind.u64.wrap ((BitVec.ofInt IntKind.u64.bits (a:Int) ||| BitVec.ofInt IntKind.u64.bits (b:Int)).toNat:Int)=((a ||| b:Nat):Int):=u64_or a b ha hb
theorem afW(q:List Bool)(b:Bool):part q (8*(E q/8)) 8 ||| b.toNat*2^(7-E q%8)=part (q++[b]) (8*(E q/8)) 8:=by
 have:=afY q b (8*(E q/8)) (E q%8) aa (7-E q%8);rw[show E q%8+1+(7-E q%8)=8 by omega]at this;exact this.symm
theorem GA(q:List Bool)(b:Bool):(room q).set (E q/8) (sh (q++[b]) (E q/8))=packed (q++[b]):=by
 rw[packed,room,vi,qa _ _ (by rw[nR];omega),nR,oj,aX,qM,
  show(E q+1+7)/8=E q/8+1 by omega,vi,P5 q b aa]
 rfl
theorem amG{b:Bool}{m:Nat}(h:m<8):IntKind.u8.wrap ((b.toNat:Int)*2^min (7-(m:Int)).toNat IntKind.u8.bits)=((b.toNat*2^(7-m):Nat):Int):=by
 have:∀(b:Bool) (m:Fin 8),IntKind.u8.wrap ((b.toNat:Int)*2^min (7-((m:Nat):Int)).toNat IntKind.u8.bits)=((b.toNat*2^(7-m.val):Nat):Int):=by decide+kernel
 exact this b ⟨m,h⟩
theorem ate{b:Bool}{m:Nat}:b.toNat*2^(7-m)<256:=by
 have:2^(7-m)<=2^7:=gJ aa aa;rcases b with _|_<;>simp<;>omega
theorem Q3(n:Nat):(n:Int).tmod 8=((n%8:Nat):Int):=by rw[Int.tmod_eq_emod_of_nonneg aa];omega
theorem akC{n:Nat}(h:n<=9000000000000000000):IntKind.i64.wrap ((n:Int).tdiv 8)=((n/8:Nat):Int):=by
 have:(n:Int).tdiv 8=((n/8:Nat):Int):=(Int.ofNat_tdiv n 8).symm;rw[this];exact bq aa aa
theorem afR(q:List Bool)(b:Bool):IntKind.u8.wrap ((BitVec.ofInt IntKind.u8.bits ((((room q).getD (E q/8) 0).toNat:Nat):Int) ||| BitVec.ofInt IntKind.u8.bits ((b.toNat*2^(7-E q%8):Nat):Int)).toNat:Int)=((sh (q++[b]) (E q/8)).toNat:Int):=by
 rw[as0 (r' _) ate,agn,afW,vV]
theorem qm(q:List Bool)(i m:Nat):∀j,part q i (m+j)/2^j=part q i m
 |0=>by simp
 |j+1=>by
  have:=sH q (i+(m+j));rw[<-Pk,part,jM,jL (2^j),<-Nat.div_div_eq_div_mul,show(2*part q i (m+j)+im q (i+(m+j)))/2=part q i (m+j) by omega];exact qm q i m j
theorem Up(q:List Bool){i:Nat}(h:i<E q):((packed q).getD (i/8) 0).toNat=part q (8*(i/8)) 8:=by
 rw[packed,tc q aa,vV]
theorem apw{x m:Nat}(hm:m<8):(x:Int).fdiv (2^min (7-(m:Int)).toNat IntKind.u8.bits)=((x/2^(7-m):Nat):Int):=by
 have e:min (7-(m:Int)).toNat IntKind.u8.bits=7-m:=by
  show min _ 8=_;omega
 rw[e,wW _ (Int.le_of_lt (Int.pow_pos aa))];rw[Int.natCast_ediv,Int.natCast_pow];rfl
theorem apv(l:al)(i j:Nat):(l.getD i 0).toNat/2^j<18446744073709551616:=Pq (rY _ _) (uT (r' _) aa)
theorem aiv(q:List Bool){i:Nat}(h:i<E q):IntKind.u64.wrap ((BitVec.ofInt IntKind.u64.bits ((((packed q).getD (i/8) 0).toNat/2^(7-i%8):Nat):Int) &&& BitVec.ofInt IntKind.u64.bits 1).toNat:Int)=(im q i:Int):=by
 have hl:((packed q).getD (i/8) 0).toNat/2^(7-i%8)<18446744073709551616:=Pq (rY _ _) (uT (r' _) aa);have:=VJ (b:=1) hl aa;rw[show((1:Nat):Int)=1 from rfl]at this;rw[this,Up q h,Fx];have e:=qm q (8*(i/8)) (i%8+1) (7-i%8);rw[show i%8+1+(7-i%8)=8 by omega]at e;rw[e,part,show 8*(i/8)+i%8=i by omega];have:=sH q i;omega
theorem aiY{x m:Nat}(hx:x<2^m)(hm:m<64):IntKind.u64.wrap ((x:Int)*2^min (1:Int).toNat IntKind.u64.bits)=((2*x:Nat):Int):=by
 have h:x<2^63:=uT hx (gJ aa aa);have e:min (1:Int).toNat IntKind.u64.bits=1:=by decide
 rw[e,gj aa aa];omega
theorem apd{x m b:Nat}(hx:x<2^m)(hm:m<64)(hb:b<=1):IntKind.u64.wrap ((BitVec.ofInt IntKind.u64.bits ((2*x:Nat):Int) ||| BitVec.ofInt IntKind.u64.bits (b:Int)).toNat:Int)=((2*x+b:Nat):Int):=by
 have h:x<2^63:=uT hx (gJ aa aa);rw[ape aa aa];have:=Pr (i:=1) (b:=b) aa x;rw[Nat.pow_one]at this;rw[<-this]
def hi(v n m:Nat):List Bool:=(List.range m).map λj=>v.testBit (n-1-j)
theorem dT(v n m:Nat):E (hi v n m)=m:=by simp[hi]
theorem ajE(v n m:Nat):hi v n (m+1)=hi v n m++[v.testBit (n-1-m)]:=by simp[hi,lT]
theorem ajF(v n:Nat):hi v n 0=[]:=rfl
theorem Sd(v i:Nat):v/2^i%2=(v.testBit i).toNat:=by rw[Nat.toNat_testBit]
theorem Yg(v i:Nat)(hv:v<18446744073709551616):IntKind.u64.wrap ((BitVec.ofInt IntKind.u64.bits ((v/2^i:Nat):Int) &&& BitVec.ofInt IntKind.u64.bits 1).toNat:Int)=((v.testBit i).toNat:Int):=by
 have hl:v/2^i<18446744073709551616:=Pq (rY _ _) hv;have:=VJ (b:=1) hl aa;rw[show((1:Nat):Int)=1 from rfl]at this;rw[this,Fx,Sd]
theorem GK(v:Nat){x:Int}{e:Nat}(hx:x=e)(he:e<=64):(v:Int).fdiv (2^min x.toNat IntKind.u64.bits)=((v/2^e:Nat):Int):=by
 subst hx;have e:min (e:Int).toNat IntKind.u64.bits=e:=by
  show min _ 64=_;omega
 rw[e,wW _ (Int.le_of_lt (Int.pow_pos aa))];rw[Int.natCast_ediv,Int.natCast_pow];rfl
def aqb(v:Nat)(n:Int):Prop:=0<=n∧n<=64∧v<2^n.toNat
instance (v:Nat)(n:Int):Decidable (aqb v n):=inferInstanceAs (Decidable (_∧_))
theorem Qm{v n:Nat}(h:¬((v/2^n:Nat):Int)=0):¬v<2^n:=λhv=>h (by rw[CI hv];rfl)
def un(n:Nat):List Bool:=List.replicate n false++[true]
theorem pG(n:Nat):E (un n)=n+1:=by simp[un]
theorem Gy(n:Nat):List.replicate (n+1) false=List.replicate n false++[false]:=List.replicate_succ' ..
def lo(v m:Nat):List Bool:=(List.range m).map v.testBit
theorem aqP{P:Prop}(h:P:=by(rw[show(packed q).length+1=E (room q) by omega];rfl)):P:=h
theorem IH{P:Prop}(h:P:=by(rw[ago (by omega)])):P:=h
theorem uw{P:Prop}(h:P:=by(rintro _ _ rfl;exact gD)):P:=h
theorem VK{P:Prop}(h:P:=by(rw[<-GA q b];simp)):P:=h
theorem Sm(l:al)(k:Nat)(u:UInt8):(bv l).set k (.int .u8 u.toNat)=bv (l.set k u):=by simp[bv,LR]
theorem Sl(l:al):E (bv l)=E l:=by simp[bv]
theorem acs(q:List Bool)(b:Bool)(hq:E q<=8000000):
  aZ B w0 212 [br g,.int .u64 b.toNat] (.bG g bt [.slice A (E (packed q)) c,ah (E q)]:: .own 5 1 A (E (packed q)) c (bv (packed q))::F)
   (λr L=>r= .tuple #[]∧∃A' c',L= .bG g bt [.slice A' (E (packed (q++[b]))) c',ah (E (q++[b]))]:: .own 5 1 A' (E (packed (q++[b]))) c' (bv (packed (q++[b])))::F):=by
 have mP:=dO q;have hrl:=CS q;have pB:=Bool.toNat_le b;refine fw func212 48 [0,1] ?_;refine dY (λzf zL=>∃(A':bk) (c':Nat),Sub zf [(0,br g),(1,.int .u64 b.toNat)]∧Wk zL (.bG g bt [.slice A' (E (room q)) c',ah (E q)]:: .own 5 1 A' (E (room q)) c' (bv (room q))::F)) ?_ ?_
 ·refine bB ?_;refine ab (l8 rfl rfl aa (Q3 _)) rfl (bE ?_);refine aj (λh9=>?_) λh9=>?_
  ·refine bB ?_;refine dL cB rfl rfl rfl rfl rfl (λ_=>rfl) aW aa aa ?_;intro _ YW c16;refine b7 ?_;exact bC ⟨YW,c16,bp,bw aqP (az aa (by rw[<-Qy aa];simp[bv]) (.refl _))⟩
  ·refine aF ?_;exact bC ⟨A,c,bp,bw IH (az IH IH (.refl _))⟩
 ·rintro _ _ ⟨A',c',hs,hp⟩;refine aT hs hp (aF ?_);refine jQ (A:=A') (n:=E (room q)) (xs:=bv (room q)) (.tail _ (.head _)) aa ?_;intro ad hA;subst hA;refine cE (.bG g bt [.slice (some ad) (E (room q)) c',ah (E q)]::F) ?_;refine ae 0 ?_;refine ae 1 ?_;refine ae 2 ?_;refine ae 3 ?_;refine ae 4 ?_;refine ae 5 ?_;refine ae 6 ?_;refine ae 7 ?_;refine aU 8 rfl (mJ rfl rfl aa (akC aa)) (aU 9 rfl (aO (size:=1) (i:=E q/8) underlying27 ag rfl rfl rfl aa) (ae 11 ?_));refine ae 12 ?_;refine ae 13 ?_;refine ae 14 ?_;refine ae 15 ?_;refine ae 16 ?_;refine aU 17 rfl (l8 rfl rfl aa (Q3 _)) (ae 18 ?_);refine aU 19 rfl (gk rfl rfl aa (amG aa)) (aA 10 (aF ?_));refine aU 20 rfl (uC rfl rfl (afR q b)) (aU 21 rfl (aO (size:=1) (i:=E q/8) underlying27 ag rfl rfl rfl aa) (aA 22 (kJ rfl .no (ia ag rfl rfl rfl aW (by rw[Sl];omega)) uw ?_)));rintro _ _ rfl;refine cP [0] ?_;refine cF ?_;refine aq (L':=.bG g bt [.slice (some ad) (E (packed (q++[b]))) c',ah (E (q++[b]))]:: .own 5 1 (some ad) (E (packed (q++[b]))) c' (bv (packed (q++[b])))::F) (bw VK (az VK (by rw[cH,Sm,GA]) (.refl _))) (aF ?_);exact⟨rfl,_,c',rfl⟩
theorem alN(q:List Bool)(i:Nat)(hi:i<E q)(hq:E q<=8000000000)(rest:cZ)(l:al)(hl:packed q=l)(hn:n=E l)(hs:na (.bG g bt (.slice A n c::rest)) F f)(hb:aM B w0 F 1 (.slice A n c) n (bv l)):
  aZ B w0 339 [br g,ah i] F
   (λr L=>r= .int .u64 (im q i)∧L=F):=by
 subst hn;subst hl;have mP:=dO q;refine fw func339 19 [0,1] ?_;refine bz ?_;refine ab (bQ ag rfl hs rfl) rfl (aF ?_);refine ab (mJ rfl rfl aa (akC aa)) rfl (ab (aE (i:=i/8) underlying27 ag rfl rfl rfl aa aB) rfl (bc ?_));refine ab (l8 rfl rfl aa (Q3 _)) rfl (aF ?_);refine ab (dv rfl rfl aa (apw aa)) rfl (ab (bm underlying5 underlying60 rfl (wrap_u64 _ (apv _ _ _))) rfl (ab (kE rfl rfl (aiv q hi)) rfl (aF ?_)));refine ve [4] ?_;refine bE ?_;exact⟨rfl,rfl⟩
theorem Ga(q:List Bool)(p m:Nat)(hp:p<=E q)(hm:m<=64)(hq:E q<=8000000000)(rest:cZ)(l:al)(hl:packed q=l)(hn:n=E l)(hs:na (.bG g bt (.slice A n c::ah (E q)::rest)) F f)(hb:aM B w0 F 1 (.slice A n c) n (bv l)):
  aZ B w0 340 [br g,ah p,ah m] F
   (λr L=>r= .int .u64 (part q p m)∧L=F):=by
 refine fw func340 31 [0,1,2] ?_;refine sR ?_;refine aD (λzf zL zm=>∃(k:Nat),(k<=m)∧m-k=zm∧Sub zf [(0,br g),(1,ah p),(2,ah m),(7,.int .u64 (part q p k)),(8,ah (p+k:Nat))]∧Wk zL (F)) _ ⟨0,bU _,rfl,bp,.refl _⟩ ?_;rintro _ _ _ ⟨k,hk,rfl,hs,hp⟩;refine aT hs hp ?_;clear hs hp;have fN:=qU q p k;have an4:=sH q (p+k);have hps:part q p (k+1)=2*part q p k+im q (p+k):=rfl;refine bz ?_;refine aj (λku=>?_) λku=>?_
 ·refine bI ?_;refine ab (gk rfl rfl aa (aiY fN aa)) rfl (bO ?_);refine ab (bQ ag rfl hs rfl) rfl (ab (yL (m:=(p+k:Nat)) rfl rfl) rfl (bc ?_));refine aj (λoB=>?_) λoB=>?_
  ·refine b7 ?_;refine ai rfl (alN q (p+k) aa hq _ l hl hn hs hb) (ab (uC rfl rfl (apd fN aa an4)) rfl (aF ?_));refine ve [0,1,2,7,8] ?_;refine bI ?_;refine av ⟨_,aa,k+1,aa,rfl,bp,.refl _⟩
  ·have h0:=yq q (i:=p+k) aa;refine bI ?_;refine ve [0,1,2,7,8] ?_;refine av ⟨_,aa,k+1,aa,rfl,bp,.refl _⟩
 ·refine cY ?_;have hk':k=m:=by omega
  subst hk';exact⟨rfl,rfl⟩
theorem kg:type_of% @Lib.hid:= @Lib.hid
set_option maxHeartbeats 1000000 in
theorem aiR{B:Nat}{v:Value}{n:Nat}{l:al}(w:World)(h:Rd w B 1 v n (bv l))(hn:n<=1099511627776):
  Calls Tryz.prog 36 #[v] w λe w'=>∃v',e= .returned v'∧w'.ownsRow w.heap.size 5 1 v' n (bv l)∧Below w.heap.size w w':=by
 have h':=h;obtain⟨A,c,rfl,hc,hl,hr⟩:=h;have aok:=λw=>Lib.run_eql_slice_nil (P:=Tryz.prog) w 27 5 A n c 0 0 underlying27;rcases A with _|ad
 ·have h0:n=0:=by
   rcases xF n with h0|h0
   ·exact h0
   ·obtain⟨ad,h,_⟩:=hr h0;cases h
  subst h0;have hl0:l=[]:=mS wM;subst hl0;clear hr hl h'
  go_enter func36,Tryz.ntmps36
  go_wp2
  go_ret
  exact⟨_,rfl,World.ownsRow_nil _ _ _ _,Ij _ _⟩
 ·have nZ:n<=c:=hc;have mO:(w.alloc (.cells #[] 5)).ownsRow w.heap.size 5 1 (.slice (some ⟨w.heap.size,0,none⟩) 0 0) 0 []:=⟨rfl,.inr ⟨_,0,#[],rfl,gC _,FD w _,gC _,Cl,rfl,rfl⟩⟩
  have hr':Rd (w.alloc (.cells #[] 5)) B 1 (.slice (some ad) n c) n (bv l):=by
   obtain⟨A,c',hv,h2,h3,h4⟩:=h';refine⟨A,c',hv,h2,h3,λhn=>?_⟩;obtain⟨ad',e,hb,fL⟩:=h4 hn;refine⟨ad',e,hb,λj u hu=>?_⟩;have:=fL j u hu;rw[World.cell?_alloc_lt w _ _ (World.block_lt_of_cell? w _ this)];exact this
  have H1:=kg mO;have H2:=kg hr';clear hr hl h' mO hr'
  go_enter func36,Tryz.ntmps36
  have hb0:Below w.heap.size w (w.alloc (.cells #[] 5)):=(Ij _ _).alloc (gC _) _;have DE:w.heap.size<=(w.alloc (.cells #[] 5)).heap.size:=hb0.size;have H3:=kg hb0;have H4:=kg DE;clear hb0 DE
  go_wp2_with (at_builtin;refine Vu cB rfl (.tmp 5) (.tmp 6) rfl rfl H1.out rfl H2.out (ra _) H3.out (gC _) H4.out aa aa ?_;intro v2 w2 JB pB Js)
  go_ret
  have e0:0+n=n:=by omega
  rw[e0,mW]at JB;exact⟨v2,rfl,JB,pB⟩
theorem mG{B:Nat}{w0:World}{F:aR}{A:bk}{n c:Nat}(l:al)(hb:aM B w0 F 1 (.slice A n c) n (bv l))(hn:n<=1099511627776):
  aZ B w0 36 [.slice A n c] F (λr L=>∃A' c',r= .slice A' n c'∧L= .own 5 1 A' n c' (bv l)::F):=
 dU.BK λw hw=>aiR w (hb w hw) hn
theorem aqu{P:Prop}(h:P:=by(exact dG (by first|(exact⟨λh=>Qm h hp,False.elim⟩)|omega|(simp at jU;done)))):P:=h
theorem aip{P:Prop}(h:P:=by(exact dS (by first|(exact⟨λh=>Qm h hp,False.elim⟩)|omega|(simp at jU;done)))):P:=h
theorem IJ{P:Prop}(h:P:=by(rw[ajF,gl])):P:=h
theorem aqX{P:Prop}(h:P:=by(rintro _ _ ⟨rfl,VA,c41,rfl⟩;exact gD)):P:=h
theorem IK{P:Prop}(h:P:=by(rw[ajE,bX])):P:=h
theorem ap1(q:List Bool)(b:Bool)(hq:E q<=8000000):
  aZ B w0 212 [br g,.int .u64 b.toNat] (.bG g bt (.slice A (E (packed q)) c::ah (E q)::X):: .own 5 1 A (E (packed q)) c (bv (packed q))::F)
   (λr L=>r= .tuple #[]∧∃A' c',L= .bG g bt (.slice A' (E (packed (q++[b]))) c'::ah (E (q++[b]))::X):: .own 5 1 A' (E (packed (q++[b]))) c' (bv (packed (q++[b])))::F):=by
 have mP:=dO q;have hrl:=CS q;have pB:=Bool.toNat_le b;refine fw func212 48 [0,1] ?_;refine dY (λzf zL=>∃(A':bk) (c':Nat),Sub zf [(0,br g),(1,.int .u64 b.toNat)]∧Wk zL (.bG g bt (.slice A' (E (room q)) c'::ah (E q)::X):: .own 5 1 A' (E (room q)) c' (bv (room q))::F)) ?_ ?_
 ·refine bB ?_;refine ab (l8 rfl rfl aa (Q3 _)) rfl (bE ?_);refine aj (λh9=>?_) λh9=>?_
  ·refine bB ?_;refine dL cB rfl rfl rfl rfl rfl (λ_=>rfl) aW aa aa ?_;intro _ YW c16;refine b7 ?_;exact bC ⟨YW,c16,bp,bw aqP (az aa (by rw[<-Qy aa];simp[bv]) (.refl _))⟩
  ·refine aF ?_;exact bC ⟨A,c,bp,bw IH (az IH IH (.refl _))⟩
 ·rintro _ _ ⟨A',c',hs,hp⟩;refine aT hs hp (aF ?_);refine jQ (A:=A') (n:=E (room q)) (xs:=bv (room q)) (.tail _ (.head _)) aa ?_;intro ad hA;subst hA;refine cE (.bG g bt (.slice (some ad) (E (room q)) c'::ah (E q)::X)::F) ?_;refine ae 0 ?_;refine ae 1 ?_;refine ae 2 ?_;refine ae 3 ?_;refine ae 4 ?_;refine ae 5 ?_;refine ae 6 ?_;refine ae 7 ?_;refine aU 8 rfl (mJ rfl rfl aa (akC aa)) (aU 9 rfl (aO (size:=1) (i:=E q/8) underlying27 ag rfl rfl rfl aa) (ae 11 ?_));refine ae 12 ?_;refine ae 13 ?_;refine ae 14 ?_;refine ae 15 ?_;refine ae 16 ?_;refine aU 17 rfl (l8 rfl rfl aa (Q3 _)) (ae 18 ?_);refine aU 19 rfl (gk rfl rfl aa (amG aa)) (aA 10 (aF ?_));refine aU 20 rfl (uC rfl rfl (afR q b)) (aU 21 rfl (aO (size:=1) (i:=E q/8) underlying27 ag rfl rfl rfl aa) (aA 22 (kJ rfl .no (ia ag rfl rfl rfl aW (by rw[Sl];omega)) uw ?_)));rintro _ _ rfl;refine cP [0] ?_;refine cF ?_;refine aq (L':=.bG g bt (.slice (some ad) (E (packed (q++[b]))) c'::ah (E (q++[b]))::X):: .own 5 1 (some ad) (E (packed (q++[b]))) c' (bv (packed (q++[b])))::F) (bw VK (az VK (by rw[cH,Sm,GA]) (.refl _))) (aF ?_);exact⟨rfl,_,c',rfl⟩
abbrev Wx(X:cZ)(g:Nat)(bt:TypeId)(A:bk)(c:Nat)(q:List Bool)(F:aR):aR:=.bG g bt (.slice A (E (packed q)) c::ah (E q)::X):: .own 5 1 A (E (packed q)) c (bv (packed q))::F
theorem Cc(q:List Bool)(v:Nat)(hv:v<18446744073709551616)(n:Nat)(hn:n<=64)(hp:v<2^n)(hq:E q<=7000000):
  aZ B w0 153 [br g,.int .u64 v,ah n] (Wx X g bt A c q F)
   (λr L=>r=ah 0∧∃A' c',L=Wx X g bt A' c' (q++hi v n n) F):=by
 refine fw func153 42 [0,1,2] ?_;refine bK ?_;refine bR 20 27 [0,1,2] (False) ?_ ?_
 ·refine bO ?_;refine aI rfl rfl rfl (λku=>?_) (λku=>?_)
  ·refine bF ?_;refine aI rfl rfl rfl (λiC=>?_) (λiC=>?_)
   ·refine bF ?_;refine cD (λmx=>?_) λmx=>?_
    ·refine b7 ?_;refine ab (dv rfl rfl aa (GK v (e:=n) rfl aa)) rfl (bF ?_);exact aL aqu
    ·refine bB ?_;exact aL (by rfl)
   ·refine bK ?_;exact aL aip
  ·refine cF ?_;exact aL aip
 ·refine bc ?_;refine dw λkG=>?_;refine de ?_;refine aD (λzf zL zm=>∃(m:Nat) (A':bk) (c':Nat),(m<=n)∧n-m=zm∧Sub zf [(0,br g),(1,.int .u64 v),(7,ah ((n:Int)-m-1))]∧Wk zL (Wx X g bt A' c' (q++hi v n m) F)) _ ⟨0,A,c,bU _,rfl,bp,bw IJ (az IJ IJ (.refl _))⟩ ?_;rintro _ _ _ ⟨m,A',c',hm,rfl,hs,hp⟩;refine aT hs hp ?_;clear hs hp;have xB:E (q++hi v n m)=E q+m:=by rw[aX,dT]
  refine bI ?_;refine aj (λC_=>?_) λC_=>?_
  ·refine b7 ?_;refine cE F ?_;refine ae 0 ?_;refine ae 1 ?_;refine ae 2 ?_;refine ae 3 ?_;refine ae 4 ?_;refine aU 5 rfl (dv rfl rfl aa (GK v (e:=n-1-m) aa aa)) (aU 6 rfl (kE rfl rfl (Yg v _ hv)) (aA 7 (gN rfl .no Wm rfl (ap1 (q++hi v n m) (v.testBit (n-1-m)) aa) rfl aqX ?_)));rintro _ _ ⟨rfl,VA,c41,cO⟩;obtain rfl:=cO.symm;refine bK ?_;refine av ⟨_,aa,m+1,VA,c41,aa,rfl,bp,bw IK (az IK IK (.refl _))⟩
  ·refine cF ?_;have hm':m=n:=by omega
   subst hm';exact⟨rfl,A',c',rfl⟩
theorem ah3(q:List Bool)(hq:E q<=8000000):aZ B w0 155 [br g] (Wx X g bt A c q F) (λr L=>∃A' c',r= .slice A' (E (packed q)) c'∧L= .own 5 1 A' (E (packed q)) c' (bv (packed q))::Wx X g bt A c q F):=by
 have mP:=dO q;refine fw func155 11 [0] ?_;refine E' ?_;refine ay rfl (mG (packed q) aB aa) λwJ Ej=>bF ?_;exact⟨wJ,Ej,rfl,rfl⟩
theorem Zb{P:Prop}(h:P:=by(exact dG (by first|omega|(exact⟨λh=>by omega,λh=>by omega⟩)))):P:=h
theorem aqD{P:Prop}(h:P:=by(exact dR (by first|omega|(exact⟨λh=>by omega,λh=>by omega⟩)))):P:=h
theorem ac2{l:al}(hg:Good l)(hb:fo B w0 F Al cl l):aZ B w0 286 [.slice Al (E l) cl] F (λr L=>r=ah 0∧L=F):=by
 have h:=AQ l hb;rw[yz hg]at h;exact h
def cz(l:al):Nat->Nat->Nat
 |_,0=>0
 |i,f+1=>if i<E l∧(l.getD i 0).toNat=0 then cz l (i+1) f+1 else 0
theorem ado(l:al):∀f i,cz l i f<=f
 |0,i=>gC _
 |f+1,i=>by
  rw[cz];split
  ·have:=ado l f (i+1);omega
  ·omega
theorem amc(l:al):∀f i,i<=E l->i+cz l i f<=E l
 |0,i,h=>h
 |f+1,i,h=>by
  rw[cz];split
  ·have:=amc l f (i+1) aa;omega
  ·omega
theorem arM{l:al}{i m:Nat}(hm:m<63)(h1:i+m<E l)(h2:(l.getD (i+m) 0).toNat=0)(h:cz l i 63=m+cz l (i+m) (63-m)):cz l i 63=(m+1)+cz l (i+(m+1)) (63-(m+1)):=by
 rw[h,show 63-m=(63-(m+1))+1 by omega,cz,ao ⟨h1,h2⟩,show i+m+1=i+(m+1) by omega];omega
theorem anA{l:al}{i m:Nat}(hn:¬(m<63∧i+m<E l∧(l.getD (i+m) 0).toNat=0))(h:cz l i 63=m+cz l (i+m) (63-m)):cz l i 63=m:=by
 rw[h];by_cases hm:m<63
 ·rw[show 63-m=(63-(m+1))+1 by omega,cz,aw (λh=>hn ⟨hm,h.1,h.2⟩)];rfl
 ·rw[show 63-m=0 by omega];rfl
def iA(l:al)(i:Nat):List Bool:=
 if h:i<E l then if (l.getD i 0).toNat=0 then hi 0 4 4++(hi (cz l (i+1) 63) 6 6++iA l (i+1+cz l (i+1) 63)) else hi (l.getD i 0).toNat 4 4++iA l (i+1) else []
termination_by (E l)-i
theorem yO{l:al}{i:Nat}(h:¬i<E l):iA l i=[]:=by rw[iA,dif_neg h]
theorem EU{l:al}{i:Nat}(h:i<E l)(h0:¬(l.getD i 0).toNat=0):iA l i=hi (l.getD i 0).toNat 4 4++iA l (i+1):=by
 conv=>lhs;rw[iA,dif_pos h,aw h0]
theorem EV{l:al}{i m:Nat}(h:i<E l)(h0:(l.getD i 0).toNat=0)(hm:cz l (i+1) 63=m):iA l i=hi 0 4 4++(hi m 6 6++iA l (i+1+m)):=by
 subst hm
 conv=>lhs;rw[iA,dif_pos h,ao h0]
theorem run_eq{q q' Q:List Bool}{l:al}{i m:Nat}(hq:q'++iA l i=Q)(h:i<E l)(h0:(l.getD i 0).toNat=0)(hm:cz l (i+1) 63=m):q'++hi 0 4 4++hi m 6 6++iA l (i+1+m)=Q:=by
 rw[<-hq,EV h h0 hm];simp[bX]
theorem apa{q' Q:List Bool}{l:al}{i:Nat}(hq:q'++iA l i=Q)(h:i<E l)(h0:¬(l.getD i 0).toNat=0):q'++hi (l.getD i 0).toNat 4 4++iA l (i+1)=Q:=by
 rw[<-hq,EU h h0];simp[bX]
theorem Zm(l:al)(q:List Bool)(hb:fo B w0 F Al cl l)(hg:Good l)(hq:E q<=1000000):
  aZ B w0 247 [br g,.slice Al (E l) cl] (Wx X g bt A c q F) (λr L=>r=ah 0∧∃A' c',L=Wx X g bt A' c' (q++iA l 0) F):=by
 have hf:=hg.1;have hf1:=hf.1;refine fw func247 64 [0,1] ?_;refine Bh ?_;refine ai rfl (ac2 hg aB) (bO ?_);refine dw λnj=>?_;refine bO ?_;refine aD (λzf zL zm=>∃(i:Nat) (q':List Bool) (A':bk) (c':Nat),(i<=E l∧E q'<=1000000+10*i∧q'++iA l i=q++iA l 0)∧E l-i=zm∧Sub zf [(0,br g),(1,.slice Al (E l) cl),(6,ah i)]∧Wk zL (Wx X g bt A' c' q' F)) _ ⟨0,q,A,c,⟨bU _,aa,rfl⟩,rfl,bp,.refl _⟩ ?_;rintro _ _ _ ⟨i,q',A',c',⟨hik,hql,heq⟩,rfl,hs,hp⟩;refine aT hs hp (bO ?_);refine aj (λiC=>?_) λiC=>?_
 ·have hu:=hf.2 _ (bj (k:=i) aa 0);have uh:=ado l 63 (i+1);refine cY ?_;refine aj (λmB=>?_) λmB=>?_
  ·refine bK ?_;refine be Es rfl (Cc q' (l.getD i 0).toNat aa 4 aa aa aa) rfl ?_;rintro _ _ ⟨rfl,RW,c30,cO⟩;obtain rfl:=cO.symm;refine bI ?_;refine ve [0,1,6] ?_;refine b7 ?_;refine av ⟨_,aa,i+1,q'++hi (l.getD i 0).toNat 4 4,RW,c30,⟨aa,by rw[aX,dT];omega,apa heq aa aa⟩,rfl,bp,.refl _⟩
  ·refine bO ?_;refine aD (λzf zL zm=>∃(m:Nat),(m<=63∧i+1+m<=E l∧cz l (i+1) 63=m+cz l (i+1+m) (63-m))∧63-m=zm∧Sub zf [(0,br g),(1,.slice Al (E l) cl),(6,ah i),(7,ah (m+1:Nat))]∧Wk zL (Wx X g bt A' c' q' F)) _ ⟨0,⟨aa,aa,ak⟩,rfl,bp,.refl _⟩ ?_;rintro _ _ _ ⟨m,⟨asx,hmi,hcz⟩,rfl,hs,hp⟩;refine aT hs hp (bE ?_);refine bR 19 51 [0,1,6,7] (m<63∧i+1+m<E l∧(l.getD (i+1+m) 0).toNat=0) ?_ ?_
   ·refine bE ?_;refine cD (λuI=>?_) λuI=>?_
    ·refine cY ?_;refine cD (λZ4=>?_) λZ4=>?_
     ·refine bK ?_;refine ab (aE (i:=i+1+m) underlying27 ag rfl rfl aa aa aB) rfl (bF ?_);exact aL Zb
     ·refine bI ?_;exact aL aqD
    ·refine jt ?_;exact aL aqD
   ·refine bc ?_;refine aj (λh51=>?_) λh51=>?_
    ·refine bO ?_;refine av ⟨_,aa,m+1,⟨aa,aa,arM aa aa aa hcz⟩,rfl,bp,.refl _⟩
    ·have hce:=anA h51 hcz;refine bK ?_;refine be Es rfl (Cc q' 0 aa 4 aa aa aa) rfl ?_;rintro _ _ ⟨rfl,A55,c55,cO⟩;obtain rfl:=cO.symm;refine bI ?_;refine ab (bm underlying3 underlying60 rfl ((gj aa aa).trans (show _=((m:Nat):Int) by omega))) rfl (be Es rfl (Cc (q'++hi 0 4 4) m aa 6 aa aa (by rw[aX,dT];omega)) rfl ?_);rintro _ _ ⟨rfl,A60,c60,cO⟩;obtain rfl:=cO.symm;refine bO ?_;refine av ⟨_,aa,i+1+m,q'++hi 0 4 4++hi m 6 6,A60,c60,⟨aa,by rw[aX,aX,dT,dT];omega,run_eq (q:=q) heq aa aa hce⟩,rfl,bp,.refl _⟩
 ·refine de ?_;have auS:q'=q++iA l 0:=by rw[<-heq,yO aa,gl]
  subst auS;refine aF ?_;exact⟨rfl,A',c',rfl⟩
theorem yP(l:al):∀n i,E l-i<=n->E (iA l i)<=10*n
 |0,i,h=>by rw[yO aa];simp
 |n+1,i,h=>by
  by_cases RQ:i<E l
  ·by_cases h0:(l.getD i 0).toNat=0
   ·rw[EV RQ h0 rfl,aX,aX,dT,dT];have:=yP l n (i+1+cz l (i+1) 63) aa;omega
   ·rw[EU RQ h0,aX,dT];have:=yP l n (i+1) aa;omega
  ·rw[yO RQ];simp
def gA(l:al):List Bool:=(List.range (8*E l)).map λi=>(l.getD (i/8) 0).toNat.testBit (7-i%8)
theorem dW(l:al):E (gA l)=8*E l:=by simp[gA]
theorem zV(l:al){i:Nat}(h:i<8*E l):im (gA l) i=(l.getD (i/8) 0).toNat/2^(7-i%8)%2:=by
 rw[Sd,im,gA];congr 1;simp[ba,h]
theorem Rn(l:al){k:Nat}(h:k<E l):∀m,m<=8->part (gA l) (8*k) m=(l.getD k 0).toNat/2^(8-m)
 |0,_=>by
  have:=r' (l.getD k 0);rw[part];exact(CI aa).symm
 |m+1,hm=>by
  rw[part,Rn l h m aa,zV l aa,show(8*k+m)/8=k by omega,show 7-(8*k+m)%8=7-m by omega,show 8-m=(7-m)+1 by omega,show 8-(m+1)=7-m by omega,jM,<-Nat.div_div_eq_div_mul];omega
theorem qs(l:al):packed (gA l)=l:=by
 apply jK
 ·rw[dO,dW];omega
 ·intro k h1 h2;have hk:k<E l:=h2;have e:(packed (gA l)).getD k 0=l.getD k 0:=by
   rw[packed,tc _ (by rw[dW];omega),sh,Rn l hk 8 aa];simp
  rwa [ba,fc h1,ba,fc h2]at e
def GI(q:List Bool):Nat->Nat->Nat
 |i,0=>i
 |i,f+1=>if im q i=1 then i else GI q (i+1) f
def Z(q:List Bool)(p:Nat):Nat:=GI q p (E q-p)
theorem ah8{q:List Bool}{k:Nat}(h:im q k=1)(hk:k<E q):Z q k=k:=by
 rw[Z,show E q-k=(E q-(k+1))+1 by omega,GI,ao h]
theorem MM{q:List Bool}{k:Nat}(h:¬im q k=1)(hk:k<E q):Z q k=Z q (k+1):=by
 rw[Z,show E q-k=(E q-(k+1))+1 by omega,GI,aw h];rfl
theorem YU{q:List Bool}{k:Nat}(hk:E q<=k):Z q k=k:=by
 rw[Z,show E q-k=0 by omega];rfl
theorem ap7(q:List Bool):∀f i,i<=GI q i f
 |0,i=>gC _
 |f+1,i=>by
  rw[GI];split
  ·exact gC _
  ·have:=ap7 q f (i+1);omega
theorem atC(q:List Bool):∀f i,GI q i f<=i+f
 |0,i=>gC _
 |f+1,i=>by
  rw[GI];split
  ·omega
  ·have:=atC q f (i+1);omega
theorem am2(q:List Bool)(p:Nat):p<=Z q p:=ap7 q _ p
theorem atG(q:List Bool){p:Nat}(h:p<=E q):Z q p<=E q:=by have:=atC q (E q-p) p;unfold Z;omega
theorem XS(q:List Bool):∀m i,part q i (m+1)=im q i*2^m+part q (i+1) m
 |0,i=>by simp[part]
 |m+1,i=>by
  rw[part,XS q m i,part,show i+(m+1)=i+1+m by omega,jM];have:im q i*(2^m*2)=2*(im q i*2^m):=by rw[<-mT,jL]
  omega
theorem JW(q:List Bool):∀f i,part q i f=0↔GI q i f=i+f
 |0,i=>by simp[part,GI]
 |f+1,i=>by
  rw[XS,GI];have hb:=sH q i;split
  ·rename_i h;rw[h];have:=w6 f;omega
  ·rename_i h;have h0:im q i=0:=by omega
   rw[h0,qC,lV,JW q f (i+1)];omega
theorem akt(q:List Bool){p:Nat}(h:p<=E q):part q p (E q-p)=0↔Z q p=E q:=by
 rw[JW,Z,show p+(E q-p)=E q by omega]
def skE(q:List Bool)(p:Nat)(n:Int):Int:=if n<0 then 13 else if (E q:Int)<p+n then 1 else 0
def skP(q:List Bool)(p:Nat)(n:Int):Nat:=if n<0 then p else if (E q:Int)<p+n then p else p+n.toNat
def sS(q:List Bool)(p:Nat)(n:Int):Int:=if n<0∨64<n then 13 else if (E q:Int)<p+n then 1 else 0
def pA(q:List Bool)(p:Nat)(n:Int):Nat:=if n<0∨64<n then 0 else if (E q:Int)<p+n then 0 else part q p n.toNat
def i_(q:List Bool)(p:Nat)(n:Int):Nat:=if n<0∨64<n then p else if (E q:Int)<p+n then p else p+n.toNat
def pkV(q:List Bool)(p:Nat)(n:Int):Nat:=if n<0∨64<n then 0 else part q p n.toNat
def pkN(q:List Bool)(p:Nat)(n:Int):Int:=if n<0∨64<n then 0 else min n (E q-p)
def unV(q:List Bool)(p:Nat):Int:=if Z q p<E q then Z q p-p else 0
def unR(q:List Bool)(p:Nat):Int:=if Z q p<E q then 0 else 1
def unP(q:List Bool)(p:Nat):Nat:=if Z q p<E q then Z q p+1 else p
def paE(q:List Bool)(p:Nat):Int:=if (E q:Int)-p<8∧Z q p=E q then 0 else 2
theorem rl{q:List Bool}{p:Nat}(n:Int)(h:p<=E q):i_ q p n<=E q:=by
 unfold i_;split;· exact h
 split<;>omega
section
open Classical in
noncomputable def fin(acc:al)(p:Nat):al×Int×Nat:=if Good acc then (acc,0,p) else ([],7,p)
noncomputable def mh(q:List Bool)(N:Nat):Nat->Nat->al->Bool->al×Int×Nat
 |0,p,acc,s=>fin acc p
 |f+1,p,acc,s=>
  if N<=E acc then fin acc p
  else if¬sS q p 4=0 then ([],sS q p 4,i_ q p 4)
  else if¬pA q p 4=0 then mh q N f (i_ q p 4) (acc++[UInt8.ofNat (pA q p 4)]) false
  else if¬sS q (i_ q p 4) 6=0 then ([],sS q (i_ q p 4) 6,i_ q (i_ q p 4) 6)
  else if s=true∨N<=E acc+pA q (i_ q p 4) 6 then ([],7,i_ q (i_ q p 4) 6)
  else mh q N f (i_ q (i_ q p 4) 6) (acc++List.replicate (pA q (i_ q p 4) 6+1) 0) (decide (((pA q (i_ q p 4) 6:Nat):Int)+1<64))
noncomputable def rD(q:List Bool)(p:Nat)(n:Int):al×Int×Nat:=if n<0∨300<n then ([],13,p) else mh q n.toNat n.toNat p [] false
section
variable{q:List Bool}{N f p:Nat}{acc:al}{s:Bool}{R:al×Int×Nat}
theorem X2(h:mh q N f p acc s=R)(hl:N<=E acc):R=fin acc p:=by
 subst h;cases f with
 |zero=>rfl
 |succ f=>rw[mh,ao hl]
theorem age(h:mh q N f p acc s=R)(hf:N<=E acc+f)(hl:E acc<N):∃f',f=f'+1∧N<=E acc+f'+1∧mh q N (f'+1) p acc s=R:=by
 cases f with
 |zero=>omega
 |succ f=>exact⟨f,rfl,aa,h⟩
theorem akF(h:mh q N (f+1) p acc s=R)(hl:E acc<N)(he:¬sS q p 4=0):R=([],sS q p 4,i_ q p 4):=by
 rw[<-h,mh,aw aa,ao he]
theorem X3(h:mh q N (f+1) p acc s=R)(hl:E acc<N)(he:sS q p 4=0)(hv:¬pA q p 4=0):mh q N f (i_ q p 4) (acc++[UInt8.ofNat (pA q p 4)]) false=R:=by
 rw[<-h];conv=>rhs;rw[mh,aw aa,aw aa,ao hv]
theorem agc(h:mh q N (f+1) p acc s=R)(hl:E acc<N)(he:sS q p 4=0)(hv:pA q p 4=0)(he2:¬sS q (i_ q p 4) 6=0):R=([],sS q (i_ q p 4) 6,i_ q (i_ q p 4) 6):=by
 rw[<-h,mh,aw aa,aw aa,aw aa,ao he2]
theorem agd(h:mh q N (f+1) p acc s=R)(hl:E acc<N)(he:sS q p 4=0)(hv:pA q p 4=0)(he2:sS q (i_ q p 4) 6=0)(hs:s=true∨N<=E acc+pA q (i_ q p 4) 6):R=([],7,i_ q (i_ q p 4) 6):=by
 rw[<-h,mh,aw aa,aw aa,aw aa,aw aa,ao hs]
theorem X4(h:mh q N (f+1) p acc s=R)(hl:E acc<N)(he:sS q p 4=0)(hv:pA q p 4=0)(he2:sS q (i_ q p 4) 6=0)(hs:¬(s=true∨N<=E acc+pA q (i_ q p 4) 6)):mh q N f (i_ q (i_ q p 4) 6) (acc++List.replicate (pA q (i_ q p 4) 6+1) 0) (decide (((pA q (i_ q p 4) 6:Nat):Int)+1<64))=R:=by
 rw[<-h];conv=>rhs;rw[mh,aw aa,aw aa,aw aa,aw aa,aw hs]
theorem Bi(q:List Bool)(p:Nat){n:Nat}(hn:n<=64):pA q p n<2^n:=by
 unfold pA;split
 ·exact w6 n
 ·split
  ·exact w6 n
  ·exact qU q p n
theorem aq1{v:Nat}(hv:v<256)(l:al):bv l++[Value.int .u8 (v:Int)]=bv (l++[UInt8.ofNat v]):=by
 have:(UInt8.ofNat v).toNat=v:=by rw[tX];exact jh hv
 simp[bv,this]
theorem acW(l:al)(m:Nat):bv l++List.replicate m (Value.int .u8 0)=bv (l++List.replicate m 0):=by
 simp[bv]
theorem anH(h:chk acc=0):fin acc p=(acc,0,p):=by
 unfold fin;by_cases hg:Good acc
 ·rw[ao hg]
 ·rw[Ds hg]at h;omega
theorem anG(h:¬chk acc=0):fin acc p=([],7,p)∧chk acc=7:=by
 unfold fin;by_cases hg:Good acc
 ·exact absurd (yz hg) h
 ·exact⟨aw hg,Ds hg⟩
end
theorem adN{q:List Bool}{acc:al}{p:Nat}(h:p<=E q):(fin acc p).2.2<=E q:=by
 unfold fin;split<;>exact h
theorem Uw(q:List Bool)(N:Nat):∀f p acc s,p<=E q->(mh q N f p acc s).2.2<=E q
 |0,p,acc,s,h=>adN h
 |f+1,p,acc,s,h=>by
  have h4:=rl (q:=q) (p:=p) 4 h;have h6:=rl (q:=q) (p:=i_ q p 4) 6 h4;rw[mh];split
  ·exact adN h
  ·split
   ·exact h4
   ·split
    ·exact Uw q N f _ _ _ h4
    ·split
     ·exact h6
     ·split
      ·exact h6
      ·exact Uw q N f _ _ _ h6
theorem Gs{q:List Bool}{p:Nat}(n:Int)(h:p<=E q):(rD q p n).2.2<=E q:=by
 unfold rD;split
 ·exact h
 ·exact Uw q _ _ _ _ _ h
end
theorem aqL{P:Prop}(h:P:=by(rw[show p+1+i=p+(i+1) by omega];exact h0 _ (by omega))):P:=h
theorem JK:type_of% @List.getElem?_replicate:= @List.getElem?_replicate
theorem nx{q r:List Bool}{i:Nat}(h:i<E q):im (q++r) i=im q i:=by
 simp[im,ba,List.getElem?_append,h]
theorem kO(q r:List Bool)(i:Nat):im (q++r) (E q+i)=im r i:=by
 simp[im,ba,List.getElem?_append,show¬E q+i<E q by omega]
theorem aeE(v n:Nat){j:Nat}(h:j<n):im (hi v n n) j=v/2^(n-1-j)%2:=by
 rw[Sd];simp[im,hi,ba,h]
theorem Me(q r:List Bool)(v n:Nat)(hv:v<2^n):∀m,m<=n->part (q++(hi v n n++r)) (E q) m=v/2^(n-m)
 |0,_=>by rw[part,TL,CI hv]
 |m+1,h=>by
  rw[part,Me q r v n hv m aa,kO,nx (by rw[dT];omega),aeE v n aa,show n-m=(n-1-m)+1 by omega,show n-(m+1)=n-1-m by omega,jM,<-Nat.div_div_eq_div_mul];omega
theorem Gb(q r:List Bool)(v n:Nat)(hv:v<2^n):part (q++(hi v n n++r)) (E q) n=v:=by
 rw[Me q r v n hv n (gC _),oj,Nat.pow_zero,Nat.div_one]
theorem am1(Q:List Bool):∀m p,(∀i,i<m->im Q (p+i)=0)->im Q (p+m)=1->p+m<E Q->Z Q p=p+m
 |0,p,_,h1,hl=>ah8 h1 hl
 |m+1,p,h0,h1,hl=>by
  have:=h0 0 aa;rw[MM (by rw[sX]at this;omega) aa,am1 Q m (p+1) (λi hi=>aqL) (by rw[show p+1+m=p+(m+1) by omega];exact h1) aa];omega
theorem apP(n:Nat){j:Nat}(h:j<n):im (un n) j=0:=by
 rw[un,nx ng];simp[im,ba,h]
theorem alw(n:Nat):im (un n) n=1:=by
 have:=kO (List.replicate n false) [true] 0;rw[za,sX]at this;rw[un,this];rfl
theorem avV(q r:List Bool)(n:Nat):Z (q++(un n++r)) (E q)=E q+n:=by
 refine am1 _ n _ (λi hi=>?_) ?_ ?_
 ·rw[kO,nx (by rw[pG];omega),apP n hi]
 ·rw[kO,nx (by rw[pG];omega),alw]
 ·simp[pG];omega
theorem ah9(Q:List Bool):∀m p,p+m=E Q->(∀i,i<m->im Q (p+i)=0)->Z Q p=E Q
 |0,p,h,_=>by rw[YU aa];omega
 |m+1,p,h,h0=>by
  have:=h0 0 aa;rw[MM (by rw[sX]at this;omega) aa];exact ah9 Q m (p+1) aa (λi hi=>aqL)
def pad(q:List Bool):List Bool:=List.replicate (8*((E q+7)/8)-E q) false
theorem xM(q:List Bool):E (pad q)=8*((E q+7)/8)-E q:=by simp[pad]
theorem toNat_inj{a b:Bool}(h:a.toNat=b.toNat):a=b:=by cases a<;>cases b<;>simp_all
theorem yX{q:List Bool}{i:Nat}(h:i<E q):im q i=(q[i]).toNat:=by simp[im,ba,h]
theorem rA(q:List Bool):gA (packed q)=q++pad q:=by
 apply jK
 ·rw[dW,dO,aX,xM];omega
 ·intro i h1 h2;apply toNat_inj;rw[<-yX h1,<-yX h2];have hl:i<8*E (packed q):=by rw[dW]at h1;exact h1
  have hl':=hl;rw[dO]at hl';have hp:((packed q).getD (i/8) 0).toNat=part q (8*(i/8)) 8:=by rw[packed,tc q aa,vV]
  rw[zV _ hl,hp];have e:=qm q (8*(i/8)) (i%8+1) (7-i%8);rw[show i%8+1+(7-i%8)=8 by omega]at e;rw[e,part,show 8*(i/8)+i%8=i by omega];have hb:=sH q i;by_cases hq:i<E q
  ·rw[nx hq];omega
  ·rw[yq q aa];have:=kO q (pad q) (i-E q);rw[show E q+(i-E q)=i by omega]at this;rw[this,im];have hz:(pad q).getD (i-E q) false=false:=by
    rw[pad,ba,JK];split<;>rfl
   rw[hz];simp
theorem atD(q:List Bool):Z (q++pad q) (E q)=E (q++pad q):=by
 refine ah9 _ (E (pad q)) _ ak (λi hi=>?_);rw[kO,im];have hz:(pad q).getD i false=false:=by
  rw[pad,ba,JK];split<;>rfl
 rw[hz];rfl
abbrev BO:=UInt8×Nat×Int
def enc(x:BO):List Bool:=if x.1.toNat%2=0 then hi x.2.1 x.2.2.toNat x.2.2.toNat else un x.2.2.toNat
def acc(x:BO):Prop:=if x.1.toNat%2=0 then aqb x.2.1 x.2.2 else 0<=x.2.2∧x.2.2<=300
theorem Wy(l:al):∀f i j,j<cz l i f->(l.getD (i+j) 0).toNat=0
 |0,i,j,h=>by simp[cz]at h
 |f+1,i,j,h=>by
  rw[cz]at h;split at h
  ·rename_i h0;cases j with
   |zero=>exact h0.2
   |succ j=>
    have:=Wy l f (i+1) j aa
    rwa [show i+1+j=i+(j+1) by omega]at this
  ·omega
theorem Ww(l:al):∀f i,cz l i f<f->i+cz l i f<E l->¬(l.getD (i+cz l i f) 0).toNat=0
 |0,i,h,_=>by omega
 |f+1,i,h,h2=>by
  rw[cz]at h h2⊢;split at h
  ·rename_i h0;rw[ao h0]at h2⊢;have:=Ww l f (i+1) aa aa
   rwa [show i+1+cz l (i+1) f=i+(cz l (i+1) f+1) by omega]at this
  ·rename_i h0;rw[aw h0]at h2⊢;intro hz;exact h0 ⟨aa,by simpa using hz⟩
theorem QU(l:al)(i:Nat):∀m,i+m<=E l->(∀j,j<m->(l.getD (i+j) 0).toNat=0)->l.take (i+m)=l.take i++List.replicate m 0
 |0,_,_=>by simp
 |m+1,h,hz=>by
  have h0:l.getD (i+m) 0=0:=by
   have:=hz m aa;exact mR.1 (by simpa using this)
  rw[<-Pk,aY aa 0,QU l i m aa (λj hj=>hz j aa),h0,List.replicate_succ',bX]
theorem got(q pre r:List Bool)(v:Nat){n:Nat}(hn:n<=64)(hv:v<2^n)(hq:q=pre++(hi v n n++r)):sS q (E pre) n=0∧pA q (E pre) n=v∧i_ q (E pre) n=E (pre++hi v n n):=by
 have hl:E pre+n<=E q:=by rw[hq];simp[dT]
 have hp:=Gb pre r v n hv;rw[<-hq]at hp;unfold sS pA i_;rw[aw aa,aw aa,aw aa,aw aa,aw aa,aw aa,oo,hp];exact⟨rfl,rfl,by simp[dT]⟩
theorem back(l:al)(hg:Good l)(r:List Bool):∀n i f (pre:List Bool) s q,E l-i<=n->i<=E l->q=pre++(iA l i++r)->E l<=i+f->(s=true->i<E l->¬(l.getD i 0).toNat=0)->
  mh q (E l) f (E pre) (l.take i) s=(l,0,E (pre++iA l i)):=by
 intro n;induction n with
 |zero=>
  intro i f pre s q h1 h2 hq hf hs;have he:i=E l:=by omega
  subst he;have:=X2 (q:=q) (N:=E l) (f:=f) (p:=E pre) (acc:=l.take (E l)) (s:=s) rfl ak;rw[this,ki,fin,ao hg,yO aa,gl]
 |succ n ih=>
  intro i f pre s q h1 h2 hq hf hs;by_cases hil:i<E l
  ·obtain⟨f',rfl⟩:∃f',f=f'+1:=⟨f-1,aa⟩
   have fN:E (l.take i)<E l:=by rw[eY];omega
   have hu:=hg.1.2 _ (bj (k:=i) hil 0);by_cases h0:(l.getD i 0).toNat=0
   ·obtain⟨m,hm⟩:∃m,cz l (i+1) 63=m:=⟨_,rfl⟩
    have asx:=ado l 63 (i+1);have hmi:=amc l 63 (i+1) aa;have tH:=Ww l 63 (i+1);have hzz:=Wy l 63 (i+1);rw[hm]at asx hmi tH hzz;have hen:=EV hil h0 hm;rw[hen,bX,bX]at hq;obtain⟨a1,a2,a3⟩:=got q pre _ 0 (n:=4) aa aa hq;have Tu:q=(pre++hi 0 4 4)++(hi m 6 6++(iA l (i+1+m)++r)):=by rw[hq,bX]
    obtain⟨b1,b2,b3⟩:=got q (pre++hi 0 4 4) _ m (n:=6) aa aa Tu;have a1':sS q (E pre) 4=0:=a1;have a2':pA q (E pre) 4=0:=a2;have a3':i_ q (E pre) 4=E (pre++hi 0 4 4):=a3;have b1':sS q (E (pre++hi 0 4 4)) 6=0:=b1;have b2':pA q (E (pre++hi 0 4 4)) 6=m:=b2;have b3':i_ q (E (pre++hi 0 4 4)) 6=E (pre++hi 0 4 4++hi m 6 6):=b3;have hsf:¬(s=true∨E l<=E (l.take i)+pA q (i_ q (E pre) 4) 6):=by
     rw[a3',b2',eY];rintro(h|h)
     ·exact hs h hil h0
     ·omega
    have tU:=X4 (q:=q) (N:=E l) (f:=f') (p:=E pre) (acc:=l.take i) (s:=s) rfl fN a1' a2' (by rw[a3'];exact b1') hsf;rw[<-tU,a3',b2',b3'];have uN:l.take i++List.replicate (m+1) 0=l.take (i+1+m):=by
     rw[show i+1+m=i+(m+1) by omega,QU l i (m+1) aa (λj hj=>?_)];cases j with
     |zero=>exact h0
     |succ j=>rw[show i+(j+1)=i+1+j by omega];exact hzz j aa
    rw[uN];have hq3:q=(pre++hi 0 4 4++hi m 6 6)++(iA l (i+1+m)++r):=by rw[Tu];simp[bX]
    have:=ih (i+1+m) f' (pre++hi 0 4 4++hi m 6 6) (decide (((m:Nat):Int)+1<64)) q aa aa hq3 aa (λhd hl=>tH (by have:=oJ hd;omega) hl);rw[this,hen];simp[bX]
   ·have hen:=EU hil h0;rw[hen,bX]at hq;obtain⟨a1,a2,a3⟩:=got q pre _ (l.getD i 0).toNat (n:=4) aa aa hq;have a1':sS q (E pre) 4=0:=a1;have a2':pA q (E pre) 4=(l.getD i 0).toNat:=a2;have a3':i_ q (E pre) 4=E (pre++hi (l.getD i 0).toNat 4 4):=a3;have tU:=X3 (q:=q) (N:=E l) (f:=f') (p:=E pre) (acc:=l.take i) (s:=s) rfl fN a1' (by rw[a2'];exact h0);rw[<-tU,a2',a3'];have uN:l.take i++[UInt8.ofNat (l.getD i 0).toNat]=l.take (i+1):=by
     rw[aY hil 0,UInt8.ofNat_toNat]
    rw[uN];have hq3:q=(pre++hi (l.getD i 0).toNat 4 4)++(iA l (i+1)++r):=by rw[hq];simp[bX]
    have:=ih (i+1) f' (pre++hi (l.getD i 0).toNat 4 4) false q aa aa hq3 aa (λh=>kC);rw[this,hen];simp[bX]
  ·exact ih i f pre s q aa h2 hq hf hs
theorem dh{P:Prop}(h:P:=by(simp only;omega)):P:=h
theorem Fy:type_of% @List.filter_append:= @List.filter_append
theorem Ps:type_of% @Nat.le_div_iff_mul_le:= @Nat.le_div_iff_mul_le
def jE(l:al)(s k:Nat):bf:=(List.range s).filter λi=>(l.getD i 0).toNat==k
def lN(l:al)(k:Nat):bf:=jE l (E l) k
theorem nM(l:al)(s k:Nat):jE l (s+1) k=jE l s k++(if (l.getD s 0).toNat=k then [s] else []):=by
 unfold jE;rw[lT,Fy];congr 1;rw[uQ,List.filter_nil];by_cases h:(l.getD s 0).toNat=k
 ·rw[ao h,ao ng]
 ·rw[aw h,aw ng]
theorem wk(l:al)(k:Nat):∀s,s<=E l->E (jE l s k)=num (l.take s) k
 |0,_=>by simp[jE,num]
 |s+1,h=>by
  rw[nM,aX,wk l k s aa,kv k aa];split<;>simp
theorem GS(l:al)(k:Nat):E (lN l k)=num l k:=by
 unfold lN;rw[wk l k _ (gC _),ki]
theorem GU(l:al)(k s:Nat):∀d,∃r,jE l (s+d) k=jE l s k++r
 |0=>⟨[],ak⟩
 |d+1=>by
  obtain⟨r,hr⟩:=GU l k s d;exact⟨_,by rw[<-Pk,nM,hr,bX]⟩
theorem UN{l:al}{s k:Nat}(hs:s<E l)(h:(l.getD s 0).toNat=k):(lN l k).getD (num (l.take s) k) 0=s:=by
 obtain⟨r,hr⟩:=GU l k (s+1) (E l-(s+1));rw[show s+1+(E l-(s+1))=E l by omega]at hr;unfold lN;have hl:=wk l k s aa;rw[hr,nM,ao h,<-hl];simp[ba]
theorem ag1{l:al}{s k i:Nat}(h:i∈jE l s k):i<s∧(l.getD i 0).toNat=k:=by
 unfold jE at h;obtain⟨h1,h2⟩:=CE.1 h;exact⟨pj.1 h1,pK⟩
def pf(l:al)(k:Nat):Nat:=if num l k=0 then 0 else fst l k
def oe(l:al)(x k:Nat):Option Nat:=if pf l k<=x∧x<pf l k+num l k then some ((lN l k).getD (x-pf l k) 0) else none
def wT(l:al)(x k:Nat):Nat->Nat->Bool
 |0,_=>false
 |f+1,j=>if 15<j then false else if 0<num l j∧x*2^(j-k)<pf l j+num l j∧pf l j<x*2^(j-k)+2^(j-k) then true else wT l x k f (j+1)
def ael(l:al)(x k:Nat):Bool:=wT l x k 15 (k+1)
def og(l:al)(q:List Bool)(p n:Nat):Nat->Nat->Option (Nat×Nat)
 |0,_=>none
 |f+1,k=>if n<k then none else match oe l (part q p k) k with
  |some s=>some (s,k)
  |none=>og l q p n f (k+1)
def there(q:List Bool)(p:Nat):Nat:=min 15 (E q-p)
def fM(l:al)(q:List Bool)(p:Nat):Int×Int×Nat:=
 match og l q p (there q p) 15 1 with
 |some (s,k)=>(s,0,p+k)
 |none=>(-1,if there q p<15∧ael l (part q p (there q p)) (there q p)=true then 1 else 7,p)
def hw(l:al)(s:Nat):List Bool:=hi (place l (l.getD s 0).toNat s) (l.getD s 0).toNat (l.getD s 0).toNat
theorem nE(l:al)(s:Nat):E (hw l s)=(l.getD s 0).toNat:=dT _ _ _
theorem aex{l:al}{x k s:Nat}(h:oe l x k=some s):s<E l∧(l.getD s 0).toNat=k:=by
 unfold oe at h;split at h
 ·rename_i hc;injection h with h;have hl:=GS l k;have hm:(lN l k).getD (x-pf l k) 0∈lN l k:=bj aa 0;rw[h]at hm;exact ag1 hm
 ·cases h
theorem OZ{l:al}{q:List Bool}{p n s k:Nat}:∀(f j:Nat),og l q p n f j=some (s,k)->j<=k∧k<=n∧oe l (part q p k) k=some s
 |0,j,h=>by cases h
 |f+1,j,h=>by
  unfold og at h;split at h
  ·cases h
  ·split at h
   ·rename_i s' Au;injection h with h;injection h with h1 h2;subst h1;subst h2;exact⟨gC _,aa,Au⟩
   ·obtain⟨h1,h2,h3⟩:=OZ f (j+1) h;exact⟨aa,h2,h3⟩
theorem vR(l:al)(q:List Bool){p:Nat}(hp:p<=E q):p<=(fM l q p).2.2∧(fM l q p).2.2<=E q∧((fM l q p).2.1=0->∃s:Nat,(fM l q p).1=s∧s<E l∧p<(fM l q p).2.2)∧0<=(fM l q p).2.1∧(fM l q p).2.1<=7:=by
 unfold fM;split
 ·rename_i s k h;obtain⟨h1,h2,h3⟩:=OZ _ _ h;have h4:=(aex h3).1;unfold there at h2;exact⟨dh,dh,λ_=>⟨s,rfl,h4,dh⟩,dh,dh⟩
 ·refine⟨gC _,hp,λh=>?_,?_,?_⟩
  ·simp only at h;split at h<;>omega
  ·simp only;split<;>omega
  ·simp only;split<;>omega
theorem Jt{l:al}{q:List Bool}{p n s k:Nat}(hk:k<=n)(hf:oe l (part q p k) k=some s)(hn:∀j,1<=j->j<k->oe l (part q p j) j=none):∀(f j:Nat),1<=j->j<=k->k-j<f->og l q p n f j=some (s,k)
 |0,j,_,_,h=>by omega
 |f+1,j,h1,h2,h3=>by
  unfold og;rw[aw aa];by_cases e:j=k
  ·subst e;rw[hf]
  ·rw[hn j h1 aa];exact Jt hk hf hn f (j+1) aa aa aa
theorem y7{l:al}(hg:Good l){s:Nat}(hs:s<E l)(h0:(l.getD s 0).toNat≠0)(pre r:List Bool){q:List Bool}(hq:q=pre++(hw l s++r)):
  fM l q (E pre)=((s:Int),0,E (pre++hw l s)):=by
 obtain⟨k,hk⟩:=cK ((l.getD s 0).toNat);have aah:k<=15:=by rw[hk];exact hg.1.2 _ (bj hs 0)
 have hw1:hw l s=hi (place l k s) k k:=by unfold hw;rw[<-hk]
 have mP:=zE hs hk.symm;have hpg:=af6 l k s;have hb:=rN hg (k:=k) aa aah;have au_:¬num l k=0:=by
  unfold place at mP hpg;omega
 rw[hw1]at hq;have rS:∀j,j<=k->part q (E pre) j=place l k s/2^(k-j):=λj hj=>by rw[hq];exact Me pre r _ k aa j hj
 have avl:=UN hs hk.symm;have hfk:oe l (part q (E pre) k) k=some s:=by
  have e1:part q (E pre) k=place l k s:=by rw[rS k (gC _),oj,Nat.pow_zero,Nat.div_one]
  have e2:pf l k=fst l k:=aw au_;unfold oe;rw[e1,e2,ao ⟨hpg,aa⟩,show place l k s-fst l k=num (l.take s) k by unfold place;omega,avl]
 have hfj:∀j,1<=j->j<k->oe l (part q (E pre) j) j=none:=λj h1 h2=>by
  unfold oe;refine aw λhc=>?_;rw[rS j aa]at hc;by_cases hz:num l j=0
  ·omega
  ·have e2:pf l j=fst l j:=aw hz;rw[e2]at hc;have ajB:=WU l h1 (k-j) aa;rw[show j+(k-j)=k by omega]at ajB;have:=(Ps (w6 (k-j))).2 (jz ajB hpg);omega
 have hlen:E pre+k<=E q:=by rw[hq];simp[dT]
 have:=Jt (n:=there q (E pre)) (by unfold there;omega) hfk hfj 15 1 (gC _) aa aa;unfold fM;rw[this,hw1,aX,dT]
end Go.Proofs.YtaodmbolhoafcaaGreatDoor
