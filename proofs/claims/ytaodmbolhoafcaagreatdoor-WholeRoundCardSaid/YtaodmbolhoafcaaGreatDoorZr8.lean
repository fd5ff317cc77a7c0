/-
  Texts of one proof, joined: part 8. No condition.
-/
import Derived.Test.YtaodmbolhoafcaaGreatDoorZr7
import Derived.DeepKeys4
import Derived.WideKeyArr
open Go.RowKit Go.Proofs.Tryz
namespace Go.Proofs.YtaodmbolhoafcaaGreatDoor
set_option linter.unusedVariables false
set_option linter.unusedSimpArgs false
set_option maxRecDepth 20000
variable{B:Nat}{w0:World}{F L M:aR}{A A2 A3:bj}{n c c2 c3 g:Nat}{l b:al}{es:List MapEntry}{cl:Nat}{most:Int}
section
theorem IK:type_of% @List.perm_append_comm:= @List.perm_append_comm
def fK(k:Nat)(m:al)(i j:Nat):UInt8:=m.getD (i*k+j) 0
def jh(k:Nat)(m:al)(i:Nat):al:=(m.drop (i*k)).take k
def oD(k:Nat)(m:al)(i:Nat)(r:al):al:=m.take (i*k)++(r++m.drop (i*k+k))
theorem fO{n k i:Nat}(h:i<n):i*k+k≤n*k:=by
 have:=oC k (show i+1≤n by omega);rw[mD,rm]at this;exact this
theorem eY{n k i:Nat}{m:al}(hm:m.length=n*k)(hi:i<n):(jh k m i).length=k:=by
 have:=fO (k:=k) hi;unfold jh;rw[eV,iN];omega
theorem lr{k j:Nat}(m:al)(i:Nat)(hj:j<k):(jh k m i).getD j 0=fK k m i j:=by
 unfold jh fK;simp only[bk];rw[VB hj,k_7]
theorem rz{n k i:Nat}{m r:al}(hm:m.length=n*k)(hi:i<n)(hr:r.length=k):(oD k m i r).length=n*k:=by
 have:=fO (k:=k) hi;unfold oD;simp only[aX,eV,iN];omega
theorem xE{n k i i' j:Nat}{m r:al}(hm:m.length=n*k)(hi:i<n)(Qh:i'<n)(hj:j<k)(hr:r.length=k):fK k (oD k m i r) i' j=if i'=i then r.getD j 0 else fK k m i' j:=by
 have h1:=fO (k:=k) hi;have h2:=fO (k:=k) Qh;unfold fK oD;simp only[bk];by_cases h:i'=i
 ·subst h;rw[aq rfl,sT bO,z' bO];congr 2;simp;omega
 ·rw[aw h];by_cases h3:i'<i
  ·have h4:=fO (k:=k) h3;rw[z' bO,VB aa]
  ·have h4:=fO (k:=k) (show i<i' by omega);rw[sT bO,sT bO,k_7];congr 2;simp;omega
def pG(k:Nat)(m:al)(a i:Nat):al:=oD k (oD k m a (jh k m i)) i (jh k m a)
def jW(k:Nat)(m:al)(a:Nat)(c:UInt8):al:=oD k m a ((jh k m a).map (gm c))
def qZ(s:al)(c:UInt8)(b:al):al:=List.zipWith (fun x y=>x ^^^ gm c y) s b
def rv(k:Nat)(m:al)(q:Nat)(c:UInt8)(a:Nat):al:=oD k m q (qZ (jh k m q) c (jh k m a))
section
variable{n k a i q r j:Nat}{m:al}{c:UInt8}
theorem oR(hm:m.length=n*k)(ha:a<n)(hi:i<n):(pG k m a i).length=n*k:=rz (rz hm ha (eY hm hi)) hi (eY hm ha)
theorem mY(hm:m.length=n*k)(ha:a<n):(jW k m a c).length=n*k:=rz hm ha (by rw[eM];exact eY hm ha)
theorem q7{s b:al}(h:s.length=b.length):(qZ s c b).length=s.length:=by unfold qZ;rw[List.length_zipWith];omega
theorem ry(hm:m.length=n*k)(ha:a<n)(hq:q<n):(rv k m q c a).length=n*k:=
 rz hm hq (by rw[q7 (by rw[eY hm hq,eY hm ha])];exact eY hm hq)
theorem pd(hm:m.length=n*k)(ha:a<n)(hi:i<n)(hr:r<n)(hj:j<k):fK k (pG k m a i) r j=if r=i then fK k m a j else if r=a then fK k m i j else fK k m r j:=by
 unfold pG;rw[xE (rz hm ha (eY hm hi)) hi hr hj (eY hm ha),xE hm ha hr hj (eY hm hi),lr _ _ hj,lr _ _ hj]
theorem qT(hm:m.length=n*k)(ha:a<n)(hr:r<n)(hj:j<k):fK k (jW k m a c) r j=if r=a then gm c (fK k m a j) else fK k m r j:=by
 unfold jW;rw[xE hm ha hr hj (by rw[eM];exact eY hm ha)];have hl:=eY hm ha;split
 ·rw[←lr m a hj];simp only[bk,jt];rw[fo aa];rfl
 ·rfl
theorem Nt{s b:al}{j:Nat}(h1:j<s.length)(h2:j<b.length):(qZ s c b).getD j 0=s.getD j 0 ^^^ gm c (b.getD j 0):=by
 unfold qZ;simp only[bk,List.getElem?_zipWith];rw[fo h1,fo h2];rfl
theorem rX(hm:m.length=n*k)(ha:a<n)(hq:q<n)(hr:r<n)(hj:j<k):fK k (rv k m q c a) r j=if r=q then fK k m q j ^^^ gm c (fK k m a j) else fK k m r j:=by
 have h1:=eY hm ha;have h2:=eY hm hq;unfold rv;rw[xE hm hq hr hj (by rw[q7 aa];exact h2),Nt aa aa,lr _ _ hj,lr _ _ hj]
end
def vJ(k:Nat)(m:al)(Lz:Nat):Nat→Nat→Nat
 |0,i=>i
 |f+1,i=>if fK k m i Lz=0 then vJ k m Lz f (i+1) else i
def kq(n a:Nat):Nat→Nat→al×al→al×al
 |0,_,p=>p
 |f+1,q,p=>kq n a f (q+1) (if q≠a∧fK n p.1 q a≠0 then (rv n p.1 q (fK n p.1 q a) a,rv n p.2 q (fK n p.1 q a) a) else p)
def wG(n a:Nat)(p:al×al):Nat:=vJ n p.1 a (n-a) a
def JO(n a:Nat)(p:al×al):al×al:=(pG n p.1 a (wG n a p),pG n p.2 a (wG n a p))
def anr(n a:Nat)(p:al×al):al×al:=(jW n p.1 a (kJ (fK n p.1 a a)),jW n p.2 a (kJ (fK n p.1 a a)))
def QS(n a:Nat)(p:al×al):al×al:=kq n a n 0 (anr n a (JO n a p))
def rY(n a:Nat)(p:al×al):Bool×al×al:=if wG n a p=n then (false,p) else (true,QS n a p)
def Ei(n:Nat):Nat→Nat→al×al→Option (al×al)
 |0,_,p=>some p
 |f+1,i,p=>if (rY n i p).1=true then Ei n f (i+1) (rY n i p).2 else none
def qn(r k:Nat)(f:Nat→Nat→UInt8):al:=(List.range r).flatMap fun i=>(List.range k).map fun j=>f i j
def NO(n:Nat):al:=qn n n fun i j=>if i=j then 1 else 0
def ahY(n:Nat)(m:al):Option (al):=(Ei n n 0 (m,NO n)).map (·.2)
theorem jg(r k:Nat)(f:Nat→Nat→UInt8):(qn r k f).length=r*k:=by
 unfold qn;induction r with
 |zero=>simp
 |succ r ih=>rw[lk,ud,aX,ih,mD];simp
theorem EE(r k:Nat)(f:Nat→Nat→UInt8):qn (r+1) k f=qn r k f++(List.range k).map fun j=>f r j:=by
 unfold qn;rw[lk,ud];simp
theorem De{r k:Nat}{f:Nat→Nat→UInt8}{i j:Nat}(hi:i<r)(hj:j<k):fK k (qn r k f) i j=f i j:=by
 induction r with
 |zero=>omega
 |succ r ih=>
  rw[EE];unfold fK;rw[bk];by_cases h:i<r
  ·have h1:=fO (k:=k) h;rw[z' (by rw[jg];omega),←bk];exact ih h
  ·obtain rfl:i=r:=by omega
   rw[sT (by rw[jg];omega),jg,show i*k+j-i*k=j by omega];simp[hj]
def L3(n:Nat)(m' m:al):Prop:=∀r,r<n→∃(α β:UInt8) (p q:Nat),p<n∧q<n∧∀j,j<n→fK n m' r j=gm α (fK n m p j) ^^^ gm β (fK n m q j)
def Jt(n:Nat)(m' m b' b:al):Prop:=∀r,r<n→∃(α β:UInt8) (p q:Nat),p<n∧q<n∧(∀j,j<n→fK n m' r j=gm α (fK n m p j) ^^^ gm β (fK n m q j))∧∀j,j<n→fK n b' r j=gm α (fK n b p j) ^^^ gm β (fK n b q j)
def Ker(n:Nat)(m:al):Prop:=∀v:Nat→UInt8,(∀i,i<n→xs n (fun t=>gm (fK n m i t) (v t))=0)→∀j,j<n→v j=0
theorem L3.ker{n:Nat}{m m':al}(h:L3 n m m')(hk:Ker n m):Ker n m':=fun v hv=>hk v fun i hi=>by
 obtain⟨α,β,p,q,hp,hq,e⟩:=h i hi;have e2:xs n (fun t=>gm (fK n m i t) (v t))=xs n fun t=>gm α (gm (fK n m' p t) (v t)) ^^^ gm β (gm (fK n m' q t) (v t)):=pR fun t ht=>by
  rw[e t ht,D0,jI,jI]
 rw[e2,Lo,F_,F_,hv p hp,hv q hq,jJ,jJ];rfl
structure Gi(n a:Nat)(m0:al)(p:al×al):Prop where
 lm:p.1.length=n*n
 lb:p.2.length=n*n
 left:∀i,i<n→∀j,j<n→xs n (fun t=>gm (fK n p.2 i t) (fK n m0 t j))=fK n p.1 i j
 ker:Ker n p.1
 uc:∀i,i<n→∀j,j<a→fK n p.1 i j=if i=j then 1 else 0
theorem Am{n:Nat}{m0 m b m' b':al}(h:Jt n m' m b' b)(hl:∀i,i<n→∀j,j<n→xs n (fun t=>gm (fK n b i t) (fK n m0 t j))=fK n m i j):
  ∀i,i<n→∀j,j<n→xs n (fun t=>gm (fK n b' i t) (fK n m0 t j))=fK n m' i j:=fun i hi j hj=>by
 obtain⟨α,β,p,q,hp,hq,e1,e2⟩:=h i hi;have e3:xs n (fun t=>gm (fK n b' i t) (fK n m0 t j))=xs n fun t=>gm α (gm (fK n b p t) (fK n m0 t j)) ^^^ gm β (gm (fK n b q t) (fK n m0 t j)):=pR fun t ht=>by
  rw[e2 t ht,D0,jI,jI]
 rw[e3,Lo,F_,F_,hl p hp j hj,hl q hq j hj,e1 j hj]
theorem akP{n a i r:Nat}(ha:a<n)(hi:i<n)(hr:r<n):(if r=i then a else if r=a then i else r)<n:=by
 split
 ·exact ha
 ·split<;>assumption
theorem ai8{n a i:Nat}{m:al}(hm:m.length=n*n)(ha:a<n)(hi:i<n):L3 n m (pG n m a i):=fun r hr=>by
 refine⟨1,0,if r=i then a else if r=a then i else r,r,akP ha hi hr,hr,fun j hj=>?_⟩;rw[jz,iT,fj];by_cases h1:r=i
 ·subst h1;rw[aq rfl,pd hm ha hi ha hj];by_cases h2:a=r
  ·subst h2;rw[aq rfl]
  ·rw[aw h2,aq rfl]
 ·rw[aw h1];by_cases h2:r=a
  ·subst h2;rw[aq rfl,pd hm ha hi hi hj,aq rfl]
  ·rw[aw h2,pd hm ha hi hr hj,aw h1,aw h2]
theorem ae6{n a i:Nat}{m b:al}(hm:m.length=n*n)(hb:b.length=n*n)(ha:a<n)(hi:i<n):Jt n (pG n m a i) m (pG n b a i) b:=fun r hr=>by
 refine⟨1,0,if r=i then a else if r=a then i else r,r,akP ha hi hr,hr,fun j hj=>?_,fun j hj=>?_⟩
 ·rw[jz,iT,fj,pd hm ha hi hr hj];split
  ·rfl
  ·split<;>rfl
 ·rw[jz,iT,fj,pd hb ha hi hr hj];split
  ·rfl
  ·split<;>rfl
theorem aeO{n a:Nat}{m:al}{c:UInt8}(hm:m.length=n*n)(ha:a<n)(hc:c≠0):L3 n m (jW n m a c):=fun r hr=>by
 refine⟨if r=a then kJ c else 1,0,r,r,hr,hr,fun j hj=>?_⟩;rw[iT,fj,qT hm ha hr hj];split
 ·rename_i h;subst h;rw[←jI,DZ hc,jz]
 ·rw[jz]
theorem ZR{n a:Nat}{m b:al}{c:UInt8}(hm:m.length=n*n)(hb:b.length=n*n)(ha:a<n):Jt n (jW n m a c) m (jW n b a c) b:=fun r hr=>by
 refine⟨if r=a then c else 1,0,r,r,hr,hr,fun j hj=>?_,fun j hj=>?_⟩
 ·rw[iT,fj,qT hm ha hr hj];split
  ·rename_i h;subst h;rfl
  ·rw[jz]
 ·rw[iT,fj,qT hb ha hr hj];split
  ·rename_i h;subst h;rfl
  ·rw[jz]
theorem ak9{n a q:Nat}{m:al}{c:UInt8}(hm:m.length=n*n)(ha:a<n)(hq:q<n)(r':q≠a):L3 n m (rv n m q c a):=fun r hr=>by
 refine⟨1,if r=q then c else 0,r,a,hr,ha,fun j hj=>?_⟩;rw[jz,rX hm ha hq hr hj,rX hm ha hq ha hj,aw (Ne.symm r')];split
 ·rename_i h;subst h;rw[sX,iC,fj]
 ·rw[iT,fj]
theorem agr{n a q:Nat}{m b:al}{c:UInt8}(hm:m.length=n*n)(hb:b.length=n*n)(ha:a<n)(hq:q<n):Jt n (rv n m q c a) m (rv n b q c a) b:=fun r hr=>by
 refine⟨1,if r=q then c else 0,r,a,hr,ha,fun j hj=>?_,fun j hj=>?_⟩
 ·rw[jz,rX hm ha hq hr hj];split
  ·rename_i h;subst h;rfl
  ·rw[iT,fj]
 ·rw[jz,rX hb ha hq hr hj];split
  ·rename_i h;subst h;rfl
  ·rw[iT,fj]
theorem rC(k:Nat)(m:al)(Lz:Nat):∀(f i:Nat),i≤vJ k m Lz f i∧vJ k m Lz f i≤i+f∧(vJ k m Lz f i<i+f→fK k m (vJ k m Lz f i) Lz≠0)∧∀r,i≤r→r<vJ k m Lz f i→fK k m r Lz=0
 |0,i=>⟨gj _,gj _,fun h=>absurd h (by show¬i<i+0;omega),fun r h1 h2=>absurd h2 (by show¬r<i;omega)⟩
 |f+1,i=>by
  rw[vJ];split
  ·rename_i h;obtain⟨h1,h2,h3,h4⟩:=rC k m Lz f (i+1);refine⟨aa,aa,fun h'=>h3 aa,fun r hr vZ=>?_⟩;by_cases e:r=i
   ·rw[e];exact h
   ·exact h4 r aa vZ
  ·rename_i h;exact⟨gj _,aa,fun _=>h,fun r h1 h2=>absurd h2 aa⟩
theorem DK{n a:Nat}{m0:al}(ha:a<n):∀(f q:Nat) (p:al×al),q+f=n→Gi n a m0 p→fK n p.1 a a=1→(∀r,r<q→r≠a→fK n p.1 r a=0)→Gi n (a+1) m0 (kq n a f q p)
 |0,q,p,hq,g,h1,hz=>by
  refine⟨g.lm,g.lb,g.left,g.ker,fun i hi j hj=>?_⟩;by_cases e:j=a
  ·subst e;by_cases e2:i=j
   ·subst e2;rw[aq rfl];exact h1
   ·rw[aw e2];exact hz i aa e2
  ·exact g.uc i hi j aa
 |f+1,q,p,hq,g,h1,hz=>by
  rw[kq];split
  ·rename_i h;obtain⟨r',hc⟩:=h;have hqn:q<n:=by omega
   have Ca:∀j,j<a→fK n p.1 a j=0:=fun j hj=>by rw[g.uc a ha j hj,aw aa]
   refine DK ha f (q+1) _ aa ⟨ry g.lm ha hqn,ry g.lb ha hqn,Am (agr g.lm g.lb ha hqn) g.left,(ak9 g.lm ha hqn r').ker g.ker,fun i hi j hj=>?_⟩ ?_ ?_
   ·show fK n (rv n p.1 q _ a) i j=_;rw[rX g.lm ha hqn hi aa];split
    ·rename_i e;subst e;rw[Ca j hj,jJ,fj];exact g.uc i hi j hj
    ·exact g.uc i hi j hj
   ·show fK n (rv n p.1 q _ a) a a=_;rw[rX g.lm ha hqn ha ha,aw (Ne.symm r')];exact h1
   ·intro r hr hra;show fK n (rv n p.1 q _ a) r a=_;rw[rX g.lm ha hqn aa ha];split
    ·rename_i e;subst e;rw[h1,Vc,iC]
    ·exact hz r aa hra
  ·rename_i h;refine DK ha f (q+1) p aa g h1 fun r hr hra=>?_;by_cases e:r=q
   ·subst e;exact bF fun k=>h ⟨hra,k⟩
   ·exact hz r aa hra
theorem Ux{n a:Nat}{m0:al}{p:al×al}(ha:a<n)(g:Gi n a m0 p):wG n a p<n:=by
 obtain⟨h1,h2,h3,h4⟩:=rC n p.1 a (n-a) a;refine bF fun hn=>?_;have hI:wG n a p=n:=by unfold wG at hn⊢;omega
 have hz:∀r,a≤r→r<n→fK n p.1 r a=0:=fun r hr vZ=>h4 r hr (by unfold wG at hI;omega);have:=g.ker (fun t=>if t=a then 1 else if t<a then fK n p.1 t a else 0) (fun i hi=>?_) a ha
 ·simp at this
 ·by_cases hia:i<a
  ·have e:xs n (fun t=>gm (fK n p.1 i t) (if t=a then 1 else if t<a then fK n p.1 t a else 0))=xs n fun t=>(if t=i then fK n p.1 i a else 0) ^^^ (if t=a then fK n p.1 i a else 0):=pR fun t ht=>by
    by_cases e1:t=a
    ·subst e1;rw[aq rfl,aw aa,aq rfl,Vc,vw]
    ·rw[aw e1,aw e1,fj];by_cases e2:t<a
     ·rw[aq e2,g.uc i hi t e2];by_cases e3:i=t
      ·subst e3;rw[aq rfl,aq rfl,jz]
      ·rw[aw e3,aw (Ne.symm e3),iT]
     ·rw[aw e2,aw aa,jJ]
   rw[e,Lo,Ga i hi (fun t _ h=>aw h),Ga a ha (fun t _ h=>aw h),aq rfl,aq rfl,iC]
  ·refine Lp fun t ht=>?_;by_cases e1:t=a
   ·subst e1;rw[hz i aa hi,iT]
   ·rw[aw e1];by_cases e2:t<a
    ·rw[g.uc i hi t e2,aw aa,iT]
    ·rw[aw e2,jJ]
theorem ag2{n a:Nat}{m0:al}{p:al×al}(ha:a<n)(g:Gi n a m0 p):Gi n (a+1) m0 (QS n a p):=by
 have hI:=Ux ha g;obtain⟨h1,h2,h3,h4⟩:=rC n p.1 a (n-a) a;have hIa:a≤wG n a p:=h1;have hc:fK n p.1 (wG n a p) a≠0:=h3 (by unfold wG at hI;omega);have g1:Gi n a m0 (JO n a p):=by
  refine⟨oR g.lm ha hI,oR g.lb ha hI,Am (ae6 g.lm g.lb ha hI) g.left,(ai8 g.lm ha hI).ker g.ker,fun i hi j hj=>?_⟩;show fK n (pG n p.1 a _) i j=_;rw[pd g.lm ha hI hi aa];split
  ·rename_i e;rw[g.uc a ha j hj,aw aa,aw aa]
  ·split
   ·rename_i e;rw[g.uc _ hI j hj,aw aa,aw aa]
   ·exact g.uc i hi j hj
 have RB:fK n (JO n a p).1 a a≠0:=by
  show fK n (pG n p.1 a _) a a≠0;rw[pd g.lm ha hI ha ha];split
  ·rename_i e;rw[←e]at hc;exact hc
  ·rw[aq rfl];exact hc
 have g2:Gi n a m0 (anr n a (JO n a p)):=by
  refine⟨mY g1.lm ha,mY g1.lb ha,Am (ZR g1.lm g1.lb ha) g1.left,(aeO g1.lm ha (Kd RB)).ker g1.ker,fun i hi j hj=>?_⟩;show fK n (jW n (JO n a p).1 a _) i j=_;rw[qT g1.lm ha hi aa];split
  ·rename_i e;rw[e,g1.uc a ha j hj,aw aa,jJ]
  ·exact g1.uc i hi j hj
 refine DK ha n 0 _ aa g2 ?_ (fun r hr=>aa);show fK n (jW n (JO n a p).1 a _) a a=_;rw[qT g1.lm ha ha ha,aq rfl,DZ RB]
theorem Vz{n:Nat}{m0:al}:∀(f i:Nat) (p:al×al),i+f=n→Gi n i m0 p→∃q,Ei n f i p=some q∧Gi n n m0 q
 |0,i,p,h,g=>⟨p,rfl,by(have:i=n:=aa;rw[←this];rw[←this]at g;exact g)⟩
 |f+1,i,p,h,g=>by
  have hI:=Ux aa g;obtain⟨q,h1,h2⟩:=Vz f (i+1) (QS n i p) aa (ag2 aa g);refine⟨q,?_,h2⟩;have e:rY n i p=(true,QS n i p):=by unfold rY;rw[aw aa]
  rw[Ei,e,aq rfl];exact h1
theorem amy{n:Nat}{m:al}(hm:m.length=n*n)(hk:Ker n m):∃b,ahY n m=some b∧b.length=n*n∧∀i,i<n→∀j,j<n→xs n (fun t=>gm (fK n b i t) (fK n m t j))=if i=j then 1 else 0:=by
 have g0:Gi n 0 m (m,NO n):=by
  refine⟨hm,jg n n _,fun i hi j hj=>?_,hk,fun i hi j hj=>aa⟩;have e:xs n (fun t=>gm (fK n (NO n) i t) (fK n m t j))=xs n fun t=>if t=i then fK n m i j else 0:=pR fun t ht=>by
   unfold NO;rw[De hi ht];by_cases e:i=t
   ·subst e;rw[aq rfl,aq rfl,jz]
   ·rw[aw e,aw (Ne.symm e),iT]
  show xs n (fun t=>gm (fK n (NO n) i t) (fK n m t j))=_;rw[e,Ga i hi fun t _ h=>aw h,aq rfl]
 obtain⟨q,h1,h2⟩:=Vz n 0 _ aa g0;refine⟨q.2,by unfold ahY;rw[h1];rfl,h2.lb,fun i hi j hj=>?_⟩;rw[h2.left i hi j hj,h2.uc i hi j hj]
def Gz(k m:Nat):al:=qn m k fun i j=>kJ (UInt8.ofNat ((k+i) ^^^ j))
def lL(k m:Nat):al:=NO k++Gz k m
def lu(k:Nat)(m:al)(at_:bc):al:=at_.flatMap (jh k m)
theorem Mz(k m:Nat):(Gz k m).length=m*k:=jg ..
theorem Vs(n:Nat):(NO n).length=n*n:=jg ..
theorem sB(k m:Nat):(lL k m).length=(k+m)*k:=by unfold lL NO Gz;rw[aX,jg,jg,mD]
theorem SD{a b:Nat}(ha:a<256)(hb:b<256):UInt8.ofNat (a ^^^ b)=UInt8.ofNat a ^^^ UInt8.ofNat b:=nZ (by
 rw[UInt8.toNat_xor,oi,oi,oi,jc (show a<2^8 from ha),jc (show b<2^8 from hb),jc (show a ^^^ b<2^8 from vu ha hb)])
theorem HJ{k m a t:Nat}(Gj:k+m≤255)(ha:a<k+m)(ht:t<k):fK k (lL k m) a t=if a<k then (if a=t then 1 else 0) else kJ (UInt8.ofNat a ^^^ UInt8.ofNat t):=by
 have hle:a*k+k≤(k+m)*k:=fO ha;split
 ·rename_i h;have h1:=fO (k:=k) h;have:fK k (lL k m) a t=fK k (NO k) a t:=by
   unfold fK lL;rw[bk,bk,z' (by unfold NO;rw[jg];omega)]
  rw[this];unfold NO;rw[De h ht]
 ·rename_i h;obtain⟨i,rfl⟩:∃i,a=k+i:=⟨a-k,aa⟩
  have:fK k (lL k m) (k+i) t=fK k (Gz k m) i t:=by
   have hm:(k+i)*k=k*k+i*k:=mD ..;unfold fK lL;rw[bk,bk,sT (by unfold NO;rw[jg];omega)];unfold NO;rw[jg];congr 2;omega
  rw[this];unfold Gz;rw[De aa ht,SD aa aa]
theorem EU{n k:Nat}{m:al}(hm:m.length=n*k):∀{l:bc},(∀a,a∈l→a<n)→(lu k m l).length=l.length*k
 |[],_=>by simp[lu]
 |a::l,h=>by
  have:=EU hm (l:=l) fun x hx=>h x oe;unfold lu at this⊢;rw[jM,aX,this,eY hm (h a ak),eh,mD];omega
theorem MB{n k:Nat}{m:al}(hm:m.length=n*k):∀{l:bc} {i j:Nat},(∀a,a∈l→a<n)→i<l.length→j<k→fK k (lu k m l) i j=fK k m (l.getD i 0) j
 |[],i,j,_,hi,_=>by simp at hi
 |a::l,i,j,h,hi,hj=>by
  have hr:=eY hm (h a ak);have e:lu k m (a::l)=jh k m a++lu k m l:=by unfold lu;rw[jM]
  cases i with
  |zero=>
   rw[e];have:fK k (jh k m a++lu k m l) 0 j=(jh k m a).getD j 0:=by
    unfold fK;rw[bk,bk,sc,mC,z' aa]
   rw[this,lr _ _ hj];rfl
  |succ i=>
   have ih:=MB hm (l:=l) (i:=i) (j:=j) (fun x hx=>h x oe) C3 hj;rw[e];have:fK k (jh k m a++lu k m l) (i+1) j=fK k (lu k m l) i j:=by
    unfold fK;rw[bk,bk,sT (by rw[hr,mD];omega)];congr 2;rw[hr,mD];omega
   rw[this,ih];rfl
theorem IP(f:Nat→UInt8)(p:Nat→Bool):∀l:bc,ls l f=ls (l.filter p) f ^^^ ls (l.filter fun x=> !p x) f
 |[]=>(iC 0).symm
 |j::l=>by
  rw[ls,IP f p l,ua,ua];cases p j with
  |true=>simp only[if_true,Bool.not_true,Bool.false_eq_true,if_false];rw[ls,sX]
  |false=>simp only[Bool.false_eq_true,if_false,Bool.not_false,if_true];rw[ls,←sX,←sX,UInt8.xor_comm (f j)]
theorem ak1(f:Nat→UInt8):∀n,xs n f=ls (List.range n) f
 |0=>rfl
 |n+1=>by
  rw[xs,ak1 f n,lk,ah' (IK (l₁:=List.range n) (l₂:=[n])),UInt8.xor_comm];rfl
theorem DS(l:bc)(p:Nat→Bool):(l.filter p).length+(l.filter fun x=> !p x).length=l.length:=by
 induction l with
 |nil=>rfl
 |cons x l ih=>rw[ua,ua];cases p x<;>simp<;>omega
theorem aei{k m:Nat}(Gj:k+m≤255){l:bc}(hl:l.length=k)(hn:l.Nodup)(fP:∀a,a∈l→a<k+m):Ker k (lu k (lL k m) l):=by
 intro v hv;have Ca:∀a,a∈l→xs k (fun t=>gm (fK k (lL k m) a t) (v t))=0:=fun a ha=>by
  obtain⟨i,hi,e⟩:=j8 ha;have:=hv i aa;rw[←this];refine pR fun t ht=>?_;rw[MB (sB k m) fP aa ht];congr 2;rw[bk,fo hi,e];rfl
 have aqi:∀a,a∈l→a<k→v a=0:=fun a ha hak=>by
  have:=Ca a ha;rw[pR (g:=fun t=>if t=a then v a else 0) fun t ht=>by
   rw[HJ Gj (fP a ha) ht,aq hak];by_cases e:a=t
   ·subst e;rw[aq rfl,aq rfl,jz]
   ·rw[aw e,aw (Ne.symm e),iT],Ga a hak (fun t _ h=>aw h),aq rfl]at this
  exact this
 obtain⟨J,hJ⟩:=cR ((List.range k).filter fun x=> !decide (x∈l));obtain⟨X,hX⟩:=cR (l.filter fun x=> !decide (x<k));have hp:((List.range k).filter fun x=>decide (x∈l)).Perm (l.filter fun x=>decide (x<k)):=by
  refine(List.perm_ext_iff_of_nodup (List.nodup_range.filter _) (hn.filter _)).2 fun a=>?_;simp only[BE,ky,N6];exact And.comm
 have hJl:J.length=X.length:=by
  have h1:=DS (List.range k) fun x=>decide (x∈l);have h2:=DS l fun x=>decide (x<k);have h3:=hp.length_eq;rw[wm]at h1;rw[hJ,hX];omega
 have hJm:∀j,j∈J↔j<k∧j∉l:=fun j=>by rw[hJ];simp
 have hXm:∀a,a∈X↔a∈l∧k≤a:=fun a=>by rw[hX];simp
 have inj:∀i j:Nat,i<256→j<256→UInt8.ofNat i=UInt8.ofNat j→i=j:=fun i j hi hj e=>by
  have:=dC UInt8.toNat e;rw[oi,oi,jc (show i<2^8 from hi),jc (show j<2^8 from hj)]at this;exact this
 have mA:=Br J.length J X v UInt8.ofNat UInt8.ofNat rfl aa (hJ▸List.nodup_range.filter _) (hX▸hn.filter _)
  (fun i j hi hj e=>inj i j (by have:=((hJm i).1 hi).1;omega) (by have:=((hJm j).1 hj).1;omega) e)
  (fun i j hi hj e=>inj i j (by have:=fP i ((hXm i).1 hi).1;omega) (by have:=fP j ((hXm j).1 hj).1;omega) e)
  (fun i j hi hj e=>by
   have h1:=((hXm i).1 hi).2;have h2:=((hJm j).1 hj).1;have:=inj i j (by have:=fP i ((hXm i).1 hi).1;omega) aa e;omega)
  (fun a ha=>by
   obtain⟨h1,h2⟩:=(hXm a).1 ha;have:=Ca a h1;rw[ak1,IP _ fun x=>decide (x∈l),KF (J:=(List.range k).filter fun x=>decide (x∈l)) (fun t ht=>by
    simp only[BE,ky,N6]at ht;rw[aqi t ht.2 ht.1,jJ]),vw,←hJ]at this
   rw[←this];refine yz fun t ht=>?_;rw[HJ Gj (fP a h1) ((hJm t).1 ht).1,aw aa,iS])
 intro j hj;by_cases h:j∈l
 ·exact aqi j h hj
 ·exact mA j ((hJm j).2 ⟨hj,h⟩)
end
theorem kA:type_of% @Nat.add_one_mul:= @Nat.add_one_mul
def Lb(n:Nat)(row:al)(data:eH):al:=(row.zip data).foldl (fun s p=>if p.1=0 then s else qZ s p.1 p.2) (List.replicate n 0)
def WX(r k:Nat)(cells:al)(data:eH)(n:Nat):eH:=(List.range r).map fun i=>Lb n (jh k cells i) data
def Is(l:eH):Nat:=(l.headD []).length
def par(m:Nat)(data:eH):eH:=WX m data.length (Gz data.length m) data (Is data)
def rS(l:eH):Prop:=∀b∈l,b.length=Is l
instance (l:List (List UInt8)):Decidable (rS l):=inferInstanceAs (Decidable (∀b∈l,b.length=Is l))
def dG(k:Nat)(good:List Bool):bc:=((List.range good.length).filter fun i=>good.getD i false).take k
def iw(k:Nat)(parts:eH)(good:List Bool):eH:=(dG k good).map (parts.getD · [])
def adH(k m:Nat)(good:List Bool):al:=(ahY k (lu k (lL k m) (dG k good))).getD []
def oq(k m:Nat)(parts:eH)(good:List Bool):eH:=
 if (dG k good).getD (k-1) 0≠k-1 then WX k k (adH k m good) (iw k parts good) (Is (iw k parts good)) else iw k parts good
def qp(k m:Nat)(parts:eH)(good:List Bool):eH×Int:=
 if¬rS (iw (k+m) parts good) then ([],13) else if (iw (k+m) parts good).length<k then ([],12)
 else (oq k m parts good++par m (oq k m parts good),0)
theorem vU{n:Nat}:∀(l:List (UInt8×al)) (s:al),s.length=n→(∀p∈l,p.2.length=n)→(l.foldl (fun s p=>if p.1=0 then s else qZ s p.1 p.2) s).length=n
 |[],s,h,_=>h
 |p::r,s,h,hl=>by
  rw[List.foldl_cons];refine vU r _ ?_ fun q hq=>hl q (by simp[hq]);split
  ·exact h
  ·rw[q7 (by rw[h,hl p ak])];exact h
theorem afD{n:Nat}{row:al}{data:eH}(h:∀b∈data,b.length=n):(Lb n row data).length=n:=
 vU _ _ ak fun p hp=>h _ (List.of_mem_zip hp).2
theorem pO(r k:Nat)(cells:al)(data:eH)(n:Nat):(WX r k cells data n).length=r:=by simp[WX]
theorem FK{r k n:Nat}{cells:al}{data:eH}(h:∀b∈data,b.length=n):∀b∈WX r k cells data n,b.length=n:=fun b hb=>by
 obtain⟨i,_,rfl⟩:=pS.1 hb;exact afD h
theorem tU{l:eH}{n:Nat}(h:∀b∈l,b.length=n)(h0:0<l.length):Is l=n:=by
 cases l with
 |nil=>simp at h0
 |cons x r=>exact h x ak
theorem mZ(m:Nat)(data:eH):(par m data).length=m:=pO ..
theorem yH{m n:Nat}{data:eH}(h0:0<data.length)(h:∀b∈data,b.length=n):∀b∈par m data,b.length=n:=by
 unfold par;rw[tU h h0];exact FK h
theorem zE{k:Nat}{good:List Bool}:∀i∈dG k good,i<good.length∧good.getD i false=true:=fun i hi=>by
 have:=lW hi;simpa using this
theorem xY(k:Nat)(good:List Bool):(dG k good).Nodup:=(List.nodup_range.filter _).sublist (Ky _ _)
def my(c:Nat):Nat→al→eH
 |0,_=>[]
 |p+1,x=>x.take c::my c p (x.drop c)
def lJ(k ch n:Nat):Nat:=(n+k*ch-1)/(k*ch)
def jk(k m ch n:Nat):Nat:=lJ k ch n*((k+m)*(ch+4))
def zg(k m ch n:Nat):Int:=if 8388608<n then 13 else if 16777216<jk k m ch n then 6 else 0
def Ci(k m ch:Nat)(x:al):eH:=my ch k x++par m (my ch k x)
def Ha(k m ch:Nat)(x:al):al:=(Ci k m ch x).flatMap cY
def ug(k m ch:Nat):Nat→al→al
 |0,_=>[]
 |f+1,x=>Ha k m ch (x.take (k*ch))++ug k m ch f (x.drop (k*ch))
def sj(k ch:Nat)(b:al):al:=b++List.replicate (lJ k ch b.length*(k*ch)-b.length) 0
def p7(k m ch:Nat)(b:al):al×Int:=if zg k m ch b.length≠0 then ([],zg k m ch b.length) else (ug k m ch (lJ k ch b.length) (sj k ch b),0)
def rdP(k m ch:Nat)(s:al):eH:=(my (ch+4) (k+m) s).map fun c=>(aK c).1
def OW(k m ch:Nat)(s:al):List Bool:=(my (ch+4) (k+m) s).map fun c=>decide ((aK c).2=0)
def dO(at_:Nat)(good:List Bool):bc:=((List.range good.length).filter fun i=> !good.getD i false).map (at_+ ·)
def BS(k m ch:Nat)(s:al):eH×Int:=qp k m (rdP k m ch s) (OW k m ch s)
def xe(k m ch:Nat)(s:al):Prop:=∃i,i<(BS k m ch s).1.length∧(OW k m ch s).getD i false=true∧(BS k m ch s).1.getD i []≠(rdP k m ch s).getD i []
noncomputable def LQ(k m ch:Nat)(s:al):Int:=by
 classical
 exact if (BS k m ch s).2≠0 then (BS k m ch s).2 else if xe k m ch s then 2 else 0
noncomputable def tq(k m ch:Nat):Nat→al→al→bc→Nat→al×bc×Int
 |0,_,out,bad,_=>(out,bad,0)
 |f+1,s,out,bad,at_=>
  if LQ k m ch (s.take ((k+m)*(ch+4)))≠0 then ([],[],LQ k m ch (s.take ((k+m)*(ch+4))))
  else tq k m ch f (s.drop ((k+m)*(ch+4))) (out++((BS k m ch (s.take ((k+m)*(ch+4)))).1.take k).flatten) (bad++dO at_ (OW k m ch (s.take ((k+m)*(ch+4))))) (at_+(k+m))
noncomputable def oF(k m ch n:Nat)(s:al):al×bc×Int:=tq k m ch (lJ k ch n) s [] [] 0
noncomputable def jX(k m ch n:Nat)(s:al):al×bc×Int:=
 if zg k m ch n≠0 then ([],[],zg k m ch n) else if s.length<jk k m ch n then ([],[],1) else if jk k m ch n<s.length then ([],[],2)
 else if (oF k m ch n s).2.2≠0 then ([],[],(oF k m ch n s).2.2)
 else if∃x∈(oF k m ch n s).1.drop n,x≠0 then ([],[],2) else ((oF k m ch n s).1.take n,(oF k m ch n s).2.1,0)
theorem kl(c:Nat):∀(p:Nat) (x:al),(my c p x).length=p
 |0,_=>rfl
 |p+1,x=>by rw[my,eh,kl c p]
theorem qU(c:Nat):∀(p:Nat) (x:al),x.length=p*c→∀b∈my c p x,b.length=c
 |0,_,_=>by simp[my]
 |p+1,x,h=>by
  rw[mD,rm]at h;rw[my];intro b hb;rcases fm.1 hb with rfl|hb
  ·rw[eV];omega
  ·exact qU c p _ kR b hb
theorem HQ(c:Nat):∀(p:Nat) (x:al),x.length=p*c→(my c p x).flatten=x
 |0,x,h=>by rw[sc]at h;rw[VF.1 h];rfl
 |p+1,x,h=>by
  rw[mD,rm]at h;rw[my,wo,HQ c p _ kR,jO]
theorem xH(c:Nat):∀(l:eH),(∀b∈l,b.length=c)→∀r,my c l.length (l.flatten++r)=l
 |[],_,_=>rfl
 |b::l,h,r=>by
  have hb:=h b ak;rw[eh,my,wo,bV,pz hb,qk hb,xH c l (fun x hx=>h x oe) r]
theorem Sv{k m n:Nat}{parts:eH}{good:List Bool}(hk:0<k)(h:∀b∈iw k parts good,b.length=n)(hl:(dG k good).length=k):(oq k m parts good).length=k∧∀b∈oq k m parts good,b.length=n:=by
 have hp:(iw k parts good).length=k:=by unfold iw;rw[eM];exact hl
 unfold oq;split
 ·rw[tU h aa];exact⟨pO ..,FK h⟩
 ·exact⟨hp,h⟩
theorem AN{n:Nat}{p:Nat→Bool}(h:∀i,i<n→p i=true):(List.range n).filter p=List.range n:=List.filter_eq_self.2 fun i hi=>h i (ky.1 hi)
theorem pE(l:eH):(List.range l.length).map (l.getD · [])=l:=by
 apply p6
 ·simp
 ·intro i h1 h2;simp at h1;simp[h1]
theorem Hf(l:eH){k:Nat}(h:k≤l.length):(List.range k).map (l.getD · [])=l.take k:=by
 conv=>rhs;rw[←pE l,←pw,List.take_range]
 rw[zd h]
theorem adI{k m n:Nat}{data:eH}(hk:0<k)(hd:data.length=k)(he:∀b∈data,b.length=n):
  qp k m (data++par m data) (List.replicate (k+m) true)=(data++par m data,0):=by
 have hlen:(data++par m data).length=k+m:=by rw[aX,mZ,hd]
 have mA:∀b∈data++par m data,b.length=n:=fun b hb=>by
  rcases dy.1 hb with hb|hb
  ·exact he b hb
  ·exact yH aa he b hb
 have hf:∀j,j≤k+m→dG j (List.replicate (k+m) true)=List.range j:=fun j hj=>by
  unfold dG;rw[yf,AN fun i hi=>by simp[hi],List.take_range,zd hj]
 have hP:∀j,j≤k+m→iw j (data++par m data) (List.replicate (k+m) true)=(data++par m data).take j:=fun j hj=>by
  unfold iw;rw[hf j hj,Hf _ aa]
 have hD:oq k m (data++par m data) (List.replicate (k+m) true)=data:=by
  unfold oq;rw[hf k aa,hP k aa,pz hd,aw];simp[show k-1<k by omega]
 unfold qp;rw[hP (k+m) aa,fD aa,aw,aw aa,hD];intro h;exact h fun b hb=>by rw[mA b hb,tU mA aa]
theorem uI(k m ch:Nat)(x:al):(Ci k m ch x).length=k+m:=by unfold Ci;rw[aX,mZ,kl]
theorem AW{k m ch:Nat}{x:al}(hk:0<k)(h:x.length=k*ch):∀b∈Ci k m ch x,b.length=ch:=fun b hb=>by
 rcases dy.1 hb with hb|hb
 ·exact qU ch k x h b hb
 ·exact yH (by rw[kl];exact hk) (qU ch k x h) b hb
theorem sJ{c:Nat}:∀l:eH,(∀b∈l,b.length=c)→(l.flatMap cY).length=l.length*(c+4)
 |[],_=>by simp
 |b::l,h=>by
  rw[jM,aX,sJ l (fun x hx=>h x oe),du,h b ak,eh,mD];omega
theorem Fu{k m ch:Nat}{x:al}(hk:0<k)(h:x.length=k*ch):(Ha k m ch x).length=(k+m)*(ch+4):=by
 unfold Ha;rw[sJ _ (AW hk h),uI]
theorem HU{k m ch:Nat}{x:al}(hk:0<k)(h:x.length=k*ch):my (ch+4) (k+m) (Ha k m ch x)=(Ci k m ch x).map cY:=by
 have h1:=xH (ch+4) ((Ci k m ch x).map cY) (fun b hb=>by
  obtain⟨p,hp,rfl⟩:=pS.1 hb;rw[du,AW hk h p hp]) []
 rw[eM,uI,gk,←List.flatMap_def]at h1;exact h1
theorem Wm{k m ch:Nat}{x:al}(hk:0<k)(h:x.length=k*ch):rdP k m ch (Ha k m ch x)=Ci k m ch x:=by
 unfold rdP;rw[HU hk h,vF]
 conv=>rhs;rw[←List.map_id (Ci k m ch x)]
 exact sa fun p _=>by simp[jw]
theorem Wl{k m ch:Nat}{x:al}(hk:0<k)(h:x.length=k*ch):OW k m ch (Ha k m ch x)=List.replicate (k+m) true:=by
 unfold OW;rw[HU hk h,vF];refine List.eq_replicate_iff.2 ⟨by rw[eM,uI],fun b hb=>?_⟩;obtain⟨p,_,rfl⟩:=pS.1 hb;simp[jw]
theorem K6{k m ch:Nat}{x:al}(hk:0<k)(h:x.length=k*ch):BS k m ch (Ha k m ch x)=(Ci k m ch x,0):=by
 unfold BS;rw[Wm hk h,Wl hk h];exact adI hk (kl ch k x) (qU ch k x h)
theorem aiN{k m ch:Nat}{x:al}(hk:0<k)(h:x.length=k*ch):LQ k m ch (Ha k m ch x)=0:=by
 unfold LQ;rw[K6 hk h,aw ak,aw];rintro⟨i,_,_,h3⟩;rw[K6 hk h,Wm hk h]at h3;exact h3 rfl
theorem ZJ(a n:Nat):dO a (List.replicate n true)=[]:=by
 unfold dO;rw[List.filter_eq_nil_iff.2,G1];intro i hi;simp at hi;simp[hi]
theorem O6{k m ch:Nat}(hk:0<k):∀(f:Nat) (x out:al) (bad:bc) (a:Nat),x.length=f*(k*ch)→tq k m ch f (ug k m ch f x) out bad a=(out++x,bad,0)
 |0,x,out,bad,a,h=>by
  rw[sc]at h;rw[VF.1 h,tq,gk]
 |f+1,x,out,bad,a,h=>by
  rw[mD,rm]at h;have h1:(x.take (k*ch)).length=k*ch:=by rw[eV];omega
  have h2:=Fu (m:=m) hk h1;rw[ug,tq,pz h2,qk h2,aiN hk h1,aw ak,K6 hk h1,Wl hk h1,ZJ,gk];simp only;rw[O6 hk f _ _ _ _ kR];have:((Ci k m ch (x.take (k*ch))).take k).flatten=x.take (k*ch):=by
   unfold Ci;rw[pz (kl _ _ _),HQ _ _ _ h1]
  rw[this,bV,jO]
theorem yr{k m ch:Nat}(hk:0<k):∀(f:Nat) (x:al),x.length=f*(k*ch)→(ug k m ch f x).length=f*((k+m)*(ch+4))
 |0,x,h=>by simp[ug]
 |f+1,x,h=>by
  rw[mD,rm]at h;have h1:(x.take (k*ch)).length=k*ch:=by rw[eV];omega
  rw[ug,aX,Fu hk h1,yr hk f _ kR,kA f];omega
theorem CO{k ch n:Nat}(h:0<k*ch):n≤lJ k ch n*(k*ch):=by
 unfold lJ;have:=Nat.div_add_mod (n+k*ch-1) (k*ch);have h2:=sS (n+k*ch-1) h;rw[nG]at this;omega
theorem uA{k ch:Nat}(h:0<k*ch)(b:al):(sj k ch b).length=lJ k ch b.length*(k*ch):=by
 have:=CO (n:=b.length) h;unfold sj;rw[aX,yf];omega
theorem adp{k m ch:Nat}(hk:0<k)(hc:0<ch){b:al}(h:(p7 k m ch b).2=0):jX k m ch b.length (p7 k m ch b).1=(b,[],0):=by
 have hkc:0<k*ch:=N' hk hc;unfold p7 at h⊢;split at h
 ·rename_i h1;exact absurd h h1
 ·rename_i h1;rw[aw h1];have hl:=yr (k:=k) (m:=m) (ch:=ch) hk _ _ (uA hkc b);have hr:oF k m ch b.length (ug k m ch (lJ k ch b.length) (sj k ch b))=(sj k ch b,[],0):=by
   unfold oF;rw[O6 hk _ _ _ _ _ (uA hkc b),nU]
  unfold jX;rw[aw h1,aw (by simp only;rw[hl];unfold jk;omega),aw (by simp only;rw[hl];unfold jk;omega),hr,aw ak,aw]
  ·simp only;unfold sj;rw[pz rfl]
  ·rintro⟨x,hx,h0⟩;simp only at hx;unfold sj at hx;rw[qk rfl]at hx;exact h0 (List.eq_of_mem_replicate hx)
def wq(o:aO)(n:Nat):al:=
 (dY++[3])++([fL o.2.1,UInt8.ofNat o.2.2.1.toNat,UInt8.ofNat o.2.2.2.1.toNat,UInt8.ofNat o.2.2.2.2.1.toNat]++(fI o.2.2.2.2.2.toNat 2++(fI o.1.toNat 2++fI n 4)))
def jo(o:aO)(n:Nat):al:=cY (wq o n)
def ij(o:aO)(b:al):al×Int:=p7 o.2.2.2.1.toNat o.2.2.2.2.1.toNat o.2.2.2.2.2.toNat b
def lf(o:aO)(b:al):al:=jo o b.length++((ij o b).1++jo o b.length)
def tv(o:aO)(L:List aH):al×Int:=
 if cm 3 o≠0 then ([],cm 3 o) else if (fY o L).2≠0 then ([],(fY o L).2) else if (ij o (dx o L)).2≠0 then ([],(ij o (dx o L)).2) else (lf o (dx o L),0)
def zq(c:al):Prop:=(aK c).2=0∧(marked c).2=0∧(marked c).1=3
instance (c:List UInt8):Decidable (zq c):=inferInstanceAs (Decidable (_∧_∧_))
def ek(b:al):al×Int:=
 if b.length<42 then ([],1) else if zq (b.take 21) then (b.take 21,0) else if zq (b.drop (b.length-21)) then (b.drop (b.length-21),0) else ([],5)
def CB(c:al):Cs:=⟨c.drop 5,0,0⟩
def k9(c:al):Cs:=(CB c).eJ
def jK(c:al):Cs:=(k9 c).eJ
def wS(c:al):Cs:=(jK c).eJ
def LI(c:al):Cs:=(wS c).eJ
def hs5(c:al):Cs:=(LI c).kZ 2
def hs6(c:al):Cs:=(hs5 c).kZ 2
def D6(c:al):UInt8:=(CB c).byte
def hO(c:al):aO:=((((hs5 c).fixed 2:Nat):Int),decide ((D6 c).toNat=1),((k9 c).byte.toNat:Int),((jK c).byte.toNat:Int),((wS c).byte.toNat:Int),(((LI c).fixed 2:Nat):Int))
def hN(c:al):Nat:=(hs6 c).fixed 4
def hE(c:al):Int:=if 1<(D6 c).toNat then 2 else cm 3 (hO c)
noncomputable def Bv(b:al):al×bc×Int:=jX (hO (ek b).1).2.2.2.1.toNat (hO (ek b).1).2.2.2.2.1.toNat (hO (ek b).1).2.2.2.2.2.toNat (hN (ek b).1) ((b.take (b.length-21)).drop 21)
def Ki(b:al):Nat:=if b.take 21=b.drop (b.length-21) then 0 else 1
noncomputable def dI(b:al):aO×al×Nat×Int:=
 if (ek b).2≠0 then (ib,[],0,(ek b).2) else if hE (ek b).1≠0 then (ib,[],0,hE (ek b).1)
 else if (Bv b).2.2≠0 then (ib,[],0,(Bv b).2.2) else (hO (ek b).1,(Bv b).1,(Bv b).2.1.length+Ki b,0)
noncomputable def ik(b:al):aO×iv×Nat×Int:=
 if (dI b).2.2.2≠0 then (ib,.nil,0,(dI b).2.2.2)
 else if (ej (dI b).1 (dI b).2.1).2≠0 then (ib,.nil,0,(ej (dI b).1 (dI b).2.1).2)
 else ((dI b).1,(ej (dI b).1 (dI b).2.1).1,(dI b).2.2.1,0)
noncomputable def lg(b:al):aO×List aH×Nat×Nat×Int:=
 if (ik b).2.2.2≠0 then (ib,[],0,0,(ik b).2.2.2) else if (jn (ik b).2.1).2≠0 then (ib,[],0,0,(jn (ik b).2.1).2)
 else ((ik b).1,(jn (ik b).2.1).1,(ik b).2.1.ns.length,(ik b).2.2.1,0)
theorem lR{o:aO}(ho:cm 3 o=0):ji 3 o∧cm 2 (o2 o)=0:=by
 have fJ:ji 3 o:=by
  unfold cm at ho;rw[aq (.inr (.inr rfl))]at ho;exact bF fun h=>by rw[aw h]at ho;simp at ho
 refine⟨fJ,?_⟩;obtain⟨h1,_,h3,_,_⟩:=fJ;unfold cm;rw[aq (.inr (.inl rfl)),aq];exact⟨h1,fun h=>absurd h aa,fun _=>h3 (.inl rfl),fun _=>⟨rfl,rfl,rfl⟩,fun h=>absurd h aa⟩
theorem Cs.zF{s:Cs}{x k:Nat}{r:al}(h0:s.e=0)(h1:1≤k)(h8:k≤8)(hx:x<2^(8*k))(hr:s.rest=fI x k++r):s.fixed k=x∧nQ s (s.kZ k) (fI x k):=by
 obtain⟨a,d⟩:=Cs.mo (n:=(k:Nat)) h0 ak hr;unfold Cs.fixed Cs.kZ;rw[aw aa,aw aa,a,Ew];exact⟨jc hx,d⟩
theorem si{x:Nat}(h:x<256):(UInt8.ofNat x).toNat=x:=by rw[oi];exact jc h
theorem FI(o:aO)(n:Nat):(jo o n).length=21:=by
 unfold jo wq;rw[du];simp[dY]
theorem afv(o:aO)(n:Nat):zq (jo o n):=by
 have hmk:marked (jo o n)=(3,0):=by
  have:=lQ (v:=3) C1 (([fL o.2.1,UInt8.ofNat o.2.2.1.toNat,UInt8.ofNat o.2.2.2.1.toNat,UInt8.ofNat o.2.2.2.2.1.toNat]++(fI o.2.2.2.2.2.toNat 2++(fI o.1.toNat 2++fI n 4)))++mn (pV 0 (wq o n)));rw[←this];congr 1
 refine⟨?_,by rw[hmk],by rw[hmk]⟩;unfold jo;rw[jw]
theorem aab{o:aO}{n:Nat}(ho:cm 3 o=0)(hn:n<4294967296):hE (jo o n)=0∧hO (jo o n)=o∧hN (jo o n)=n:=by
 obtain⟨fJ,_⟩:=lR ho;obtain⟨⟨m1,m2⟩,m3,m4,_,_⟩:=fJ;obtain⟨⟨k1,k2⟩,⟨k3,k4⟩,⟨k5,k6⟩⟩:=m3 rfl;obtain⟨m5,m6⟩:=m4 (.inl rfl);obtain⟨x,hx⟩:=cR ((jo o n).drop 5);have r0:(CB (jo o n)).rest=fL o.2.1::(UInt8.ofNat o.2.2.1.toNat::(UInt8.ofNat o.2.2.2.1.toNat::(UInt8.ofNat o.2.2.2.2.1.toNat::(fI o.2.2.2.2.2.toNat 2++(fI o.1.toNat 2++(fI n 4++mn (pV 0 (wq o n)))))))):=by
  unfold CB Cs.rest jo cY wq;simp[dY]
 obtain⟨n1,d1⟩:=Cs.l7 (s:=CB (jo o n)) rfl r0;have r1:(k9 (jo o n)).rest=_:=d1.cF (p:=[fL o.2.1]) r0;obtain⟨n2,d2⟩:=Cs.l7 (s:=k9 (jo o n)) d1.e1 r1;have r2:(jK (jo o n)).rest=_:=d2.cF (p:=[UInt8.ofNat o.2.2.1.toNat]) r1;obtain⟨n3,d3⟩:=Cs.l7 (s:=jK (jo o n)) d2.e1 r2;have r3:(wS (jo o n)).rest=_:=d3.cF (p:=[UInt8.ofNat o.2.2.2.1.toNat]) r2;obtain⟨n4,d4⟩:=Cs.l7 (s:=wS (jo o n)) d3.e1 r3;have r4:(LI (jo o n)).rest=_:=d4.cF (p:=[UInt8.ofNat o.2.2.2.2.1.toNat]) r3;obtain⟨n5,d5⟩:=Cs.zF (s:=LI (jo o n)) (k:=2) d4.e1 aa aa aa r4;have r5:(hs5 (jo o n)).rest=_:=d5.cF r4;obtain⟨n6,d6⟩:=Cs.zF (s:=hs5 (jo o n)) (k:=2) d5.e1 aa aa aa r5;have r6:(hs6 (jo o n)).rest=_:=d6.cF r5;obtain⟨n7,d7⟩:=Cs.zF (s:=hs6 (jo o n)) (k:=4) d6.e1 aa aa aa r6;have ePl:D6 (jo o n)=fL o.2.1:=n1;have lZ:(fL o.2.1).toNat≤1∧(decide ((fL o.2.1).toNat=1)=o.2.1):=by cases o.2.1<;>exact⟨aA,aA⟩
 have eO:hO (jo o n)=o:=by
  unfold hO;rw[ePl,lZ.2,n2,n3,n4,si aa,si aa,si aa];rw[show(LI (jo o n)).fixed 2=_ from n5,show(hs5 (jo o n)).fixed 2=_ from n6];obtain⟨a,b,c,d,e,f⟩:=o;simp only at m1 m2 m5 m6 k1 k2 k3 k4 k5 k6⊢;rw[Er aa,Er aa,Er aa,Er aa,Er aa]
 refine⟨?_,eO,n7⟩;unfold hE;rw[ePl,aw aa,eO,ho]
theorem AZ{o:aO}{b:al}(ho:cm 3 o=0)(hl:(ij o b).2=0):dI (lf o b)=(o,b,0,0):=by
 have hlen:b.length≤8388608:=by
  refine bF fun h=>?_;have:(ij o b).2=13:=by
   unfold ij p7 zg;rw[aq (show 8388608<b.length by omega),aq aA]
  omega
 obtain⟨fJ,_⟩:=lR ho;obtain⟨_,m3,_⟩:=fJ;obtain⟨⟨k1,k2⟩,⟨k3,k4⟩,⟨k5,k6⟩⟩:=m3 rfl;obtain⟨e1,e2,e3⟩:=aab (n:=b.length) ho aa;have hH:=FI o b.length;obtain⟨H,hHd⟩:=cR (jo o b.length);obtain⟨l,Gk⟩:=cR ((ij o b).1);have hA:lf o b=H++(l++H):=by unfold lf;rw[←hHd,←Gk]
 rw[←hHd]at hH e1 e2 e3;have hAl:(lf o b).length=42+l.length:=by rw[hA];simp only[aX];omega
 have RB:(lf o b).take 21=H:=by rw[hA];exact pz hH
 have hc2:(lf o b).drop ((lf o b).length-21)=H:=by rw[hAl,hA,←bV];exact qk tG
 have RQ:((lf o b).take ((lf o b).length-21)).drop 21=l:=by
  rw[hAl,hA,←bV,pz tG];exact qk hH
 have ap9:ek (lf o b)=(H,0):=by
  unfold ek;rw[aw aa,RB,aq (by rw[hHd];exact afv _ _)]
 have tY:Bv (lf o b)=(b,[],0):=by
  unfold Bv;rw[ap9,RQ];simp only;rw[e2,e3,Gk];exact adp aa aa hl
 have hd:Ki (lf o b)=0:=by unfold Ki;rw[RB,hc2,aq rfl]
 unfold dI;rw[ap9];simp only;rw[aw ak,e1,aw ak,tY,aw ak,e2,hd];rfl
theorem Ts{o:aO}{L:List aH}(ho:cm 3 o=0)(hc:cO L=0)(hx:∀x∈L,x.1<18446744073709551616)(hw:dF L≤1048576)(hl:(ij o (dx o L)).2=0):
  lg (lf o (dx o L))=(o,L,(dR o false L).length,0,0):=by
 have hlen:(dx o L).length≤8388608:=by
  refine bF fun h=>?_;have:(ij o (dx o L)).2=13:=by
   unfold ij p7 zg;rw[aq (show 8388608<(dx o L).length by omega),aq aA]
  omega
 obtain⟨x,h1,h2,h3⟩:=HF (o:=o) (lR ho).2 hc hx hw hlen;have hM:=AZ ho hl;have hO:ik (lf o (dx o L))=(o,x,0,0):=by
  unfold ik;rw[hM];simp only;rw[aw ak,h1];simp
 unfold lg;rw[hO];simp only;rw[aw ak,h3,aw ak,h2]
def ou(o:aO):al:=(dY++[2])++(aS o.1.toNat++(fL o.2.1::aS o.2.2.1.toNat))
def sr(o:aO):al:=cY (ou o)
def p8(o:aO)(L:List aH):al:=sr o++dx o L
def vL(o:aO)(L:List aH):al×Int:=if cm 2 o≠0 then ([],cm 2 o) else if (fY o L).2≠0 then ([],(fY o L).2) else (p8 o L,0)
def th1(b:al):Cs:=Cs.b_ ⟨b,0,0⟩ 5
def th2(b:al):Cs:=(th1 b).bX 32768
def Z_(b:al):UInt8:=(th2 b).byte
def WU(b:al):Cs:=if 1<(Z_ b).toNat then (th2 b).eJ.failed 2 else (th2 b).eJ
def th4(b:al):Cs:=(WU b).bX 64
def BU(b:al):Cs:=(th4 b).b_ 4
def BV(b:al):aO:=(((th1 b).int 32768:Nat),decide ((Z_ b).toNat=1),((WU b).int 64:Nat),0,0,0)
def rO(b:al):Nat×Int:=
 if (BU b).e≠0 then (0,(BU b).e) else if (aK (b.take (BU b).at_)).2≠0 then (0,(aK (b.take (BU b).at_)).2) else ((BU b).at_,cm 2 (BV b))
def iu(b:al):aO×iv×Int:=
 if (marked b).2≠0 then (ib,.nil,(marked b).2) else if (marked b).1≠2 then (ib,.nil,4)
 else if (rO b).2≠0 then (ib,.nil,(rO b).2)
 else if (ej (BV b) (b.drop (rO b).1)).2≠0 then (ib,.nil,(ej (BV b) (b.drop (rO b).1)).2)
 else (BV b,(ej (BV b) (b.drop (rO b).1)).1,0)
noncomputable def mq(b:al):aO×List aH×Nat×Int:=
 if (iu b).2.2≠0 then (ib,[],0,(iu b).2.2) else if (jn (iu b).2.1).2≠0 then (ib,[],0,(jn (iu b).2.1).2)
 else ((iu b).1,(jn (iu b).2.1).1,(iu b).2.1.ns.length,0)
theorem CJ{o:aO}(ho:cm 2 o=0):ji 2 o∧o2 o=o:=by
 have fJ:ji 2 o:=by
  unfold cm at ho;rw[aq (.inr (.inl rfl))]at ho;exact bF fun h=>by rw[aw h]at ho;simp at ho
 refine⟨fJ,?_⟩;obtain⟨_,_,_,m5,_⟩:=fJ;obtain⟨k1,k2,k3⟩:=m5 aa;obtain⟨a,b,c,d,e,f⟩:=o;simp only at k1 k2 k3;subst k1;subst k2;subst k3;rfl
theorem afP{o:aO}{L:List aH}(ho:cm 2 o=0)(hc:cO L=0)(hx:∀x∈L,x.1<18446744073709551616)(hw:dF L≤1048576)(hlen:(dx o L).length≤8388608):
  mq (p8 o L)=(o,L,(dR o false L).length,0):=by
 obtain⟨fJ,he⟩:=CJ ho;obtain⟨⟨m1,m2⟩,_,m4,_,_⟩:=fJ;obtain⟨m5,m6⟩:=m4 (.inr rfl);obtain⟨x,h1,h2,h3⟩:=HF (o:=o) (by rw[he];exact ho) hc hx hw hlen;obtain⟨b,hb⟩:=cR (p8 o L);have hmk:marked b=(2,0):=by
  have:=lQ (v:=2) C1 ((aS o.1.toNat++(fL o.2.1::aS o.2.2.1.toNat))++(mn (pV 0 (ou o))++dx o L));rw[←this,hb];congr 1;unfold p8 sr cY ou;show _=(dY++[2])++_;simp[bV]
 have r0:Cs.rest ⟨b,0,0⟩=(dY++[2])++(aS o.1.toNat++(fL o.2.1::(aS o.2.2.1.toNat++(mn (pV 0 (ou o))++dx o L)))):=by
  unfold Cs.rest;rw[tg,hb];unfold p8 sr cY ou;simp[bV]
 obtain⟨_,d1⟩:=Cs.mo (n:=5) rfl rfl r0;have r1:=d1.cF r0;obtain⟨n2,d2⟩:=Cs.iE (m:=32768) d1.e1 aa aa r1;have r2:=d2.cF r1;obtain⟨n3,d3⟩:=Cs.l7 d2.e1 r2;have r3:=d3.cF (p:=[fL o.2.1]) r2;obtain⟨n4,d4⟩:=Cs.iE (m:=64) d3.e1 aa aa r3;have r4:=d4.cF r3;obtain⟨_,d5⟩:=Cs.mo (n:=4) d4.e1 rfl r4;have lZ:(fL o.2.1).toNat≤1∧(decide ((fL o.2.1).toNat=1)=o.2.1):=by cases o.2.1<;>exact⟨aA,aA⟩
 have e2:th2 b=(Cs.b_ ⟨b,0,0⟩ 5).bX 32768:=rfl;have ePl:Z_ b=fL o.2.1:=by unfold Z_;rw[e2];exact n3
 have e3:WU b=((Cs.b_ ⟨b,0,0⟩ 5).bX 32768).eJ:=by unfold WU;rw[ePl,aw aa,e2]
 have e4:th4 b=(((Cs.b_ ⟨b,0,0⟩ 5).bX 32768).eJ).bX 64:=by unfold th4;rw[e3]
 have eO:BV b=o:=by
  unfold BV;rw[show th1 b=Cs.b_ ⟨b,0,0⟩ 5 from rfl,n2,ePl,lZ.2,e3,n4]
  conv=>rhs;rw[←he]
  unfold o2;congr 1
  ·omega
  ·congr 1;congr 1;omega
 have mA:=(((d1.trans d2).trans d3).trans d4).trans d5;have Vm:((dY++[2]:al)++aS o.1.toNat++[fL o.2.1]++aS o.2.2.1.toNat++mn (pV 0 (ou o)))=sr o:=by unfold sr cY ou;simp[bV]
 have e5:BU b=⟨b,(sr o).length,0⟩:=by
  unfold BU;rw[e4,mA.eq,Vm];simp
 have hbt:b.take (sr o).length=sr o:=by rw[hb];exact pz rfl
 have Qd:b.drop (sr o).length=dx o L:=by rw[hb];exact qk rfl
 have hcut:aK (sr o)=(ou o,0):=jw _;have eE:rO b=((sr o).length,0):=by
  unfold rO;rw[e5];simp only;rw[hbt,hcut,aw ak,aw ak,eO,ho]
 have eOp:iu b=(o,x,0):=by
  unfold iu;rw[hmk];simp only;rw[aw ak,aw ak,eE];simp only;rw[aw ak,Qd,eO,h1];simp
 unfold mq;rw[←hb,eOp];simp only;rw[aw ak,h3,aw ak,h2]
theorem aor{P:Prop}(h:P:=by(first|exact fun h=>absurd h.1 (by omega)|exact⟨fun h=>⟨by omega,h⟩,fun h=>h.2⟩)):P:=h
theorem aok{P:Prop}(h:P:=by(exact eT (by first|exact fun h=>absurd h.1 (by omega)|exact⟨fun h=>⟨by omega,h⟩,fun h=>h.2⟩))):P:=h
theorem nO(x lo hi:Int):a_ B w0 115 [ah x,ah lo,ah hi] F (fun r L=>r= .bool (decide (F7 x lo hi))∧L=F):=by
 refine fw func115 15 [0,1,2] ?_;refine bD ?_;refine bR 8 14 [] (F7 x lo hi) ?_ ?_
 ·refine b8 ?_;refine ct (fun jB=>?_) fun jB=>?_
  ·refine bB ?_;exact aM (by exact dU aor)
  ·refine bH ?_;exact aM aok
 ·refine bI ?_;exact⟨rfl,rfl⟩
theorem Z0(o:aO):a_ B w0 116 [.agg (aO.cells o).toArray] F (fun r L=>r= .bool (decide (K8 o))∧L=F):=by
 obtain⟨bl,pl,bu,da,pa,ch⟩:=o;refine cB func116 19 rfl rfl rfl [(0,.agg #[ah bl,.bool pl,ah bu,ah da,ah pa,ah ch])] ⟨⟨rfl,rfl⟩,trivial⟩ ?_;refine be ?_;refine bf fun g1=>?_;refine bD ?_;refine ai rfl (nO da 1 255) ?_;refine aE ?_;refine ct (fun h6=>?_) fun h6=>?_
 ·have hwd:1≤da∧da≤255:=h6;refine bz ?_;refine ai rfl (nO pa 0 (255-da)) ?_;refine be ?_;refine ct (fun jC=>?_) fun jC=>?_
  ·refine b8 ?_;refine ai rfl (nO ch 1 4096) ?_;refine be ?_;refine ve [2] ?_;refine be ?_;refine ao (L':=F) (.skip (.refl _)) ?_;refine aE ?_;exact⟨dC Value.bool (z_.2 ⟨fun h=>⟨h6,jC,h⟩,fun h=>h.2.2⟩),rfl⟩
  ·refine b8 ?_;refine ve [2] ?_;refine be ?_;refine ao (L':=F) (.skip (.refl _)) ?_;refine aE ?_;exact⟨dC Value.bool (nD (fun h=>jC h.2.1)).symm,rfl⟩
 ·refine cD ?_;refine ve [2] ?_;refine be ?_;refine ao (L':=F) (.skip (.refl _)) ?_;refine aE ?_;exact⟨dC Value.bool (nD (fun h=>h6 h.1)).symm,rfl⟩
theorem uq(hb:fq B w0 F A c l)(hl:l.length≤1099511627776):
  a_ B w0 107 [.slice A l.length c] F (fun r L=>r= .tuple #[ah (marked l).1,ah (marked l).2]∧L=F):=by
 refine dP.zk hb fun oA _=>?_;refine fw func107 29 [0] ?_;refine D3 ?_;refine aj (fun h5=>?_) fun h5=>?_
 ·have e:marked l=(0,1):=aq aa;rw[e];refine bz ?_;exact⟨rfl,rfl⟩
 ·have h4:4<l.length:=by omega
  have tz:=(l.getD 4 0).toNat_lt;have zb:=hb.js (k:=4) aa;have Yz:(bv l).take (4*1)=bv (l.take 4):=by simp[bv,pw]
  rw[Yz]at zb;have hv1:(bv l)[4*1]? =some (.int .u8 ((l.getD 4 0).toNat:Int)):=by simp[bv,List.getD,fo h4]
  refine b8 ?_;refine ae (bZ (i:=4) (size:=1) underlying27 ag rfl rfl rfl aa) rfl ?_;refine ae (pg underlying27 underlying5 underlying9 rfl aB) rfl ?_;refine b8 ?_;refine aj (fun jB=>?_) fun jB=>?_
  ·have e:marked l=(0,3):=by unfold marked;rw[aw aa,aq (fun h=>jB (by rw[h];rfl))]
   rw[e];refine bz ?_;exact⟨rfl,rfl⟩
  ·have jB:l.take 4=dY:=j0.1 jB;refine b8 ?_;refine ae (aG (i:=4) (size:=1) underlying27 ag rfl rfl rfl aa aB) rfl ?_;refine ae (au ag rfl aB aa hv1) rfl ?_;refine aE ?_;refine ai rfl (nO ((l.getD 4 0).toNat:Int) 1 3) ?_;refine be ?_;refine ve [0,4,16] ?_;refine aE ?_;refine aj (fun kH=>?_) fun kH=>?_
   ·have e:marked l=(0,4):=by unfold marked;rw[aw aa,aw (fun h=>h jB),aq kH]
    rw[e];refine bz ?_;exact⟨rfl,rfl⟩
   ·have e:marked l=(((l.getD 4 0).toNat:Int),0):=by unfold marked;rw[aw aa,aw (fun h=>h jB),aw kH]
    rw[e];refine bD ?_;refine ae (aG (i:=4) (size:=1) underlying27 ag rfl rfl rfl aa aB) rfl ?_;refine ae (au ag rfl aB aa hv1) rfl ?_;refine bD ?_;exact⟨rfl,rfl⟩
section
section
variable{C:Cx}{fr:Fr}{L:aR}{x y:Operand}{f:Ch→aR}{t e ty:TypeId}{k:IntKind}{m n:Int}{v:Value}
theorem uo(z:Array Value):∀(nn:Nat),(madeCells z (nn*z.size)).toList=(List.replicate nn z.toList).flatten
 |0=>by simp[madeCells]
 |nn+1=>by
  have ih:=uo z nn;rw[List.replicate_succ',List.flatten_append,←ih];simp only[wo,List.flatten_nil,gk];apply p6
  ·simp[madeCells,j9]
  ·intro i h1 h2;simp only[madeCells,Array.toList_map,Array.toList_range,Eu,G4];by_cases hi:i<nn*z.size
   ·rw[List.getElem_append_left (by simpa[madeCells]using hi)];simp
   ·have hz:i<(nn+1)*z.size:=by simpa[madeCells]using h1
    rw[j9]at hz;rw[List.getElem_append_right bO];obtain⟨j,rfl⟩:∃j,i=nn*z.size+j:=⟨i-nn*z.size,aa⟩
    have hj:j<z.size:=by omega
    simp only[eM,wm,yi,nG nn,Nat.mul_add_mod,jc hj];simp[getElem!_pos,hj]
theorem Ib{size bytes:Nat}{zv:Value}(T:sF C.P t e size bytes zv){k':IntKind}{nn cc:Nat}(he:ev fr x=some (.int k m))(hm:m=(nn:Int))(hy:ev fr y=some (.int k' n))(hn:n=(cc:Int))(hle:nn≤cc)(jV:bytes*cc≤281474976710656)(Ir:cc≤281474976710656):
  qz C fr L (.makeSlice t x y) ty (fun p L'=>∃A,p= .slice A nn cc∧L'= .own e size A nn cc (List.replicate nn zv.cells.toList).flatten::L):=fun a w ha hw d pos af gg=>by
 subst hm;subst hn;obtain⟨i,hi,hz,jb,D7⟩:=T.hi;have hr:=run_make (P:=C.P) w t e i zv T.ht hi hz k k' (nn:Int) (cc:Int) aa aa (by rw[D7,←z8];omega) aa;simp only[nC,jb]at hr;have hzs:=T.hz;have lZ:∀q:Nat,((List.replicate q zv.cells.toList).flatten).length=q*size:=fun q=>by
  rw[List.length_flatten,List.map_replicate,List.sum_replicate_nat,Kw,hzs]
 refine⟨.slice (some ⟨w.heap.size,0,none⟩) nn cc,w.alloc (.cells (madeCells zv.cells (cc*size)) e),_,.inl (by simp[execOp,ha.tmp he,ha.tmp hy,hr]),⟨some ⟨w.heap.size,0,none⟩,rfl,rfl⟩,hw.gL (Kv w _ none) ⟨lZ nn,hle,?_⟩ ?_⟩
 ·by_cases qO:cc=0
  ·exact .inl qO
  ·refine .inr ⟨_,_,rfl,hw.base,Es w _,Bk,by simp[madeCells],?_⟩;rw[←hzs,uo];obtain⟨d,rfl⟩:∃d,cc=nn+d:=⟨cc-nn,aa⟩
   have e2:(List.replicate (nn+d) zv.cells.toList).flatten=(List.replicate nn zv.cells.toList).flatten++(List.replicate d zv.cells.toList).flatten:=by
    rw[←List.flatten_append,←List.replicate_append_replicate]
   rw[e2];exact pz (by rw[lZ,hzs])
 ·by_cases qO:cc=0
  ·left;simp[Ch.fp,qO]
  ·right;exact⟨w.heap.size,Hv,gj _⟩
theorem aeR{α:Type}{L us:List α}{j kk N:Nat}(hj:j+kk≤N)(hk:us.length=kk)(hN:N≤L.length):(L.take j++us++L.drop (j+kk)).take N=(L.take N).take j++us++(L.take N).drop (j+kk):=by
 have hl:(L.take j).length=j:=by rw[eV];omega
 rw[bV,Oe,hl,fD aa,Oe,hk,fD (by omega:us.length≤N-j),IE,zd aa,R9,←bV,show N-j-kk=N-(j+kk) by omega]
theorem DJ{size nn c j:Nat}{A:bj}{xs us:cV}(kk:Nat)(hs:pt C.P t kk=true)(he:ev fr x=some (.pointer (A.map (·.add j))))(hv:ev fr y=some (.agg us.toArray))(h1:∀u∈us,u.oneCell'=true)(hk:us.length=kk)(hm:mx (.own e size A nn c xs) L f)(hj:j+kk≤xs.length)(h0:0<kk):
  qz C fr L (.store t x y) ty (fun p L'=>L'=f (.own e size A nn c (xs.take j++us++xs.drop (j+kk)))):=fun a w ha hw d pos af gg=>by
 obtain⟨q1,q2,q3⟩:=hw.all _ hm.mem;have qO:¬c=0:=fun h=>by
  have:nn=0:=by omega
  subst this;rw[sc]at q1;omega
 obtain⟨g,cur,rfl,k1,k2,k3,k4,k5⟩:=q3.resolve_left qO;have GO:(⟨g,0,none⟩:Addr).add j=⟨g,j,none⟩:=by rw[zY,mC]
 have tz:xs.length≤cur.size:=by
  have:=dC List.length k5;rw[eV,Kw]at this;omega
 have hr:=run_storeCells_at (P:=C.P) g j e us 0 cur w k2 aa h1;have jb:(C.P.info? t).map (·.size)=some kk:=by
  have h:=hs;unfold pt at h;rw[z7]at h;have h2:=h.2;rw[beq_iff_eq]at h2;exact h2
 obtain⟨i,hi,hii⟩:∃i,C.P.info? t=some i∧i.size=kk:=by
  cases hq:C.P.info? t with
  |none=>rw[hq]at jb;cases jb
  |some i=>rw[hq]at jb;exact⟨i,rfl,by simpa using jb⟩
 have tc:(storeVar t ⟨g,j,none⟩ (.agg us.toArray)).run C.P w= .ok () (w.setRow g (cur.toList.take (j+0)++us++cur.toList.drop (j+0+us.length)).toArray):=by
  simp[storeVar,sizeOf,typeInfo,hi,hii,Value.cells,hk,hr]
 refine⟨undef,w.setRow g (cur.toList.take (j+0)++us++cur.toList.drop (j+0+us.length)).toArray,_,.inr ⟨?_,rfl⟩,rfl,?_⟩
 ·have he':ev fr x=some (.pointer (some ⟨g,j,none⟩)):=by rw[he];simp[GO]
  simp[execOp,Instr.storeAt,Instr.sureAddr,ha.tmp he',ha.tmp hv,tc]
 ·have Qf:(Ch.own e size (some ⟨g,0,none⟩) nn c xs).fp=some g:=by simp[Ch.fp,qO]
  refine hw.Qn hm ?_ (fun _=>⟨?_,q2,.inr ⟨g,_,rfl,k1,N9 w g cur _ e _ k2,k3,?_,?_⟩⟩) (.inr (.inl rfl))
  ·rw[Qf];exact⟨rfl,rfl,rfl,ak,fun k _ hk=>N_ w g k _ (fun e=>hk xA)⟩
  ·simp only[aX,eV,iN];omega
  ·simp only[wW,aX,eV,iN,Kw];rw[←k4];omega
  ·have e2:=aeR (L:=cur.toList) (us:=us) (j:=j) (kk:=kk) (N:=nn*size) aa hk (by rw[Kw];omega);rw[k5]at e2;simp only[tf,hk];exact e2
end
theorem so{xs us:cV}{j n:Nat}(h:(xs.drop j).take n=us):∀(q:Nat) (u:Value),us[q]? =some u→xs[j+q]? =some u:=by
 subst h;intro q u hu;rw[G0]at hu;split at hu
 ·rwa [k_7]at hu
 ·cases hu
end
section
section
variable{fr:Fr}{L L':aR}{g:Nat}{bt:TypeId}{cs:cV}{f:Ch→aR}
theorem qw{P:Program}{fn:Func}{R:qR}{q u s kk:Nat}{ty:TypeId}(hr:fn.results= #[.cell q ty,.tmp u,.tmp s])(hq:look q fr=some (bq g))(hs:pt P ty kk=true)(hm:mx (.bE g bt cs) L f)(hk:cs.length=kk){v x:Value}(hu:look u fr=some v)(hx:look s fr=some x)(RZ:Wk L L')(h:R (.tuple #[.agg cs.toArray,v,x]) L'):Cn P fn R .ret fr L:=fun B w0 a w ha hw=>by
 subst hk;refine⟨_,L',?_,h,RZ.sl hw⟩;have hl:=kF (P:=P) (w:=w) (p:=⟨g,0,none⟩) hs (fun j u hj=>aa9);simp[results,hr,ha.at_ _ _ hq,ha.at_ _ _ hu,ha.at_ _ _ hx,asAddr,hl]
theorem nk{P:Program}{fn:Func}{R:qR}{q u s t kk:Nat}{ty:TypeId}(hr:fn.results= #[.cell q ty,.tmp u,.tmp s,.tmp t])(hq:look q fr=some (bq g))(hs:pt P ty kk=true)(hm:mx (.bE g bt cs) L f)(hk:cs.length=kk){v x y:Value}(hu:look u fr=some v)(hx:look s fr=some x)(hy:look t fr=some y)(RZ:Wk L L')(h:R (.tuple #[.agg cs.toArray,v,x,y]) L'):Cn P fn R .ret fr L:=fun B w0 a w ha hw=>by
 subst hk;refine⟨_,L',?_,h,RZ.sl hw⟩;have hl:=kF (P:=P) (w:=w) (p:=⟨g,0,none⟩) hs (fun j u hj=>aa9);simp[results,hr,ha.at_ _ _ hq,ha.at_ _ _ hu,ha.at_ _ _ hx,ha.at_ _ _ hy,asAddr,hl]
theorem KU{P:Program}{fn:Func}{R:qR}{q u s t r kk:Nat}{ty:TypeId}(hr:fn.results= #[.cell q ty,.tmp u,.tmp s,.tmp t,.tmp r])(hq:look q fr=some (bq g))(hs:pt P ty kk=true)(hm:mx (.bE g bt cs) L f)(hk:cs.length=kk){v x y z:Value}(hu:look u fr=some v)(hx:look s fr=some x)(hy:look t fr=some y)(hz:look r fr=some z)(RZ:Wk L L')(h:R (.tuple #[.agg cs.toArray,v,x,y,z]) L'):Cn P fn R .ret fr L:=fun B w0 a w ha hw=>by
 subst hk;refine⟨_,L',?_,h,RZ.sl hw⟩;have hl:=kF (P:=P) (w:=w) (p:=⟨g,0,none⟩) hs (fun j u hj=>aa9);simp[results,hr,ha.at_ _ _ hq,ha.at_ _ _ hu,ha.at_ _ _ hx,ha.at_ _ _ hy,ha.at_ _ _ hz,asAddr,hl]
theorem J3{C:Cx}{fr:Fr}{L:aR}{x y:Operand}{t ty e:TypeId}{size bytes:Nat}{zv:Value}(T:sF C.P t e size bytes zv){A:bj}{n c:Nat}{xs:cV}(he:ev fr x=some (.slice A n c))(hx:aL C.B C.w0 L size (.slice A n c) n xs)(h0:0<n){yv:Value}{m:Nat}{news:cV}(hy:ev fr y=some yv)(hb:aL C.B C.w0 L size yv m news)(h1:∀u∈news,u.oneCell'=true)(NB:c<n+m)(jV:(n+m)*bytes≤140737488355328)(Ir:n+m≤140737488355328):
  qz C fr L (.call {callee:=.builtin .append,args:= #[x,y],argTypes:= #[t,t]}) ty (fun p L'=>∃A' c',p= .slice A' (n+m) c'∧L'= .own e size A' (n+m) c' (xs++news)::L):=fun a w ha hw d pos af gg=>by
 obtain⟨i,hi,hz,jb,D7⟩:=T.hi;subst jb D7;obtain⟨X0,c0,e0,hnc,k1,hrx⟩:=hx w hw;injection e0 with e1 e2 e3;subst e1;subst e3;obtain⟨a0,ea,hab,holds⟩:=hrx h0;subst ea;obtain⟨X,cx,rfl,hmc,hl,tY⟩:=hb w hw;have hm0:0<m:=by omega
 obtain⟨ad,eX,_,D9⟩:=tY hm0;subst eX;have ami:n+m≤maxLen:=by unfold maxLen;omega
 have hlen:(xs++news).length=(n+m)*i.size:=by rw[aX,k1,hl,mD]
 have wN:=grownCap_ge w (n+m) c e;have hr:=run_append_grow (P:=C.P) w t ty e i zv T.ht hi hz a0 n c xs k1 holds ad m cx news hl D9 aa aa (growslice_fits aa jV);have big:wv (w.drew.alloc (.cells (xs.toArray++news.toArray++Builtin.zeroCells zv.cells (grownCap w (n+m) c e-(n+m))) e)) C.B e i.size (some ⟨w.heap.size,0,none⟩) (n+m) (grownCap w (n+m) c e) (xs++news):=by
  refine⟨hlen,wN,.inr ⟨w.heap.size,_,rfl,hw.base,Es w.drew _,grownCap_le_maxLen w (n+m) c e ami,?_,?_⟩⟩
  ·simp only[Array.size_append,wW,size_zeroCells,T.hz,k1,hl,←mD];congr 1;omega
  ·simp only[Array.toList_append,bV];rw[←bV,←hlen];exact yo
 refine⟨_,_,_,.inl ?_,⟨_,_,rfl,rfl⟩,hw.gL ?_ big ?_⟩
 ·simp[execOp,resolve,invoke,builtin,ha.tmp he,ha.tmp hy,hr]
 ·exact⟨rfl,rfl,rfl,ak,fun k hk _=>heap_alloc_old w.drew _ hk⟩
 ·right;have:¬grownCap w (n+m) c e=0:=by omega
  exact⟨_,by simp[Ch.fp,this],gj _⟩
theorem pk{C:Cx}{x y:Operand}{t ty:TypeId}{o:Nat}{us:cV}(kk:Nat)(hs:pt C.P t kk=true)(he:ev fr x=some (.pointer (some ⟨g,o,none⟩)))(hv:ev fr y=some (.agg us.toArray))(h1:∀u∈us,u.oneCell'=true)(hm:mx (.bE g bt cs) L f)(hk:us.length=kk)(ho:o+kk≤cs.length):
  qz C fr L (.store t x y) ty (fun p L'=>L'=f (.bE g bt (cs.take o++us++cs.drop (o+kk)))):=fun a w ha hw d pos af gg=>by
 have hb:=(hw.all _ hm.mem).2;have hr:=run_storeCells_at (P:=C.P) g o bt us 0 cs.toArray w hb bO h1;have jb:(C.P.info? t).map (·.size)=some kk:=by
  have h:=hs;unfold pt at h;rw[z7]at h;have h2:=h.2;rw[beq_iff_eq]at h2;exact h2
 obtain⟨i,hi,hii⟩:∃i,C.P.info? t=some i∧i.size=kk:=by
  cases hq:C.P.info? t with
  |none=>rw[hq]at jb;cases jb
  |some i=>rw[hq]at jb;exact⟨i,rfl,by simpa using jb⟩
 simp only[tf]at hr;have tc:(storeVar t ⟨g,o,none⟩ (.agg us.toArray)).run C.P w= .ok () (w.setRow g (cs.take o++us++cs.drop (o+us.length)).toArray):=by
  simp[storeVar,sizeOf,typeInfo,hi,hii,Value.cells,hk,hr]
 rw[←hk];refine⟨undef,w.setRow g (cs.take o++us++cs.drop (o+us.length)).toArray,_,.inr ⟨?_,rfl⟩,rfl,?_⟩
 ·simp[execOp,Instr.storeAt,Instr.sureAddr,ha.tmp he,ha.tmp hv,tc]
 ·refine hw.Qn hm ?_ (fun⟨q1,q2⟩=>⟨q1,?_⟩) (.inr (.inl rfl))
  ·exact⟨rfl,rfl,rfl,ak,fun k _ hk=>N_ w g k _ (fun e=>hk C4)⟩
  ·exact N9 w g cs.toArray _ bt _ q2
end
end
section
theorem tH{P:Prop}(h:P:=by(assumption)):P:=h
theorem SK(x y:aO)(w:World):(Op.equalIn 10000 23 (.agg (aO.cells x).toArray) (.agg (aO.cells y).toArray)).run Tryz.prog w= .ok (decide (x=y)) w:=by
 have p0:=fun(z:aO) w=>gV (P:=Tryz.prog) (t:=3) (xs:=(aO.cells z).toArray) (off:=0) (v:=ah z.1) ag rfl w;have p1:=fun(z:aO) w=>gV (P:=Tryz.prog) (t:=4) (xs:=(aO.cells z).toArray) (off:=1) (v:=.bool z.2.1) ag rfl w;have p2:=fun(z:aO) w=>gV (P:=Tryz.prog) (t:=3) (xs:=(aO.cells z).toArray) (off:=2) (v:=ah z.2.2.1) ag rfl w;have p3:=fun(z:aO) w=>gV (P:=Tryz.prog) (t:=3) (xs:=(aO.cells z).toArray) (off:=3) (v:=ah z.2.2.2.1) ag rfl w;have p4:=fun(z:aO) w=>gV (P:=Tryz.prog) (t:=3) (xs:=(aO.cells z).toArray) (off:=4) (v:=ah z.2.2.2.2.1) ag rfl w;have p5:=fun(z:aO) w=>gV (P:=Tryz.prog) (t:=3) (xs:=(aO.cells z).toArray) (off:=5) (v:=ah z.2.2.2.2.2) ag rfl w;have q0:=fun(a b:Int) w=>run_equalIn_int (P:=Tryz.prog) w 9998 3 .i64 .i64 a b underlying3;have q1:=fun(a b:Bool) w=>run_equalIn_bool' (P:=Tryz.prog) w 9998 4 a b underlying4;rw[run_equalIn_agg w 9999 _ _ _ ag ag];simp only[Program.fieldsOf,underlying23];simp[Op.eqFields,p0,p1,p2,p3,p4,p5];rw[q0];obtain⟨a,b,s,f,t,u⟩:=x;obtain⟨a',b',s',f',t',u'⟩:=y;by_cases h0:a=a'
 ·have e0:(a==a')=true:=by simp[h0]
  simp only[e0,vE];rw[q1];by_cases h1:b=b'
  ·have e1:(b==b')=true:=by simp[h1]
   simp only[e1,vE];rw[q0];by_cases h2:s=s'
   ·have e2:(s==s')=true:=by simp[h2]
    simp only[e2,vE];rw[q0];by_cases h3:f=f'
    ·have e3:(f==f')=true:=by simp[h3]
     simp only[e3,vE];rw[q0];by_cases h4:t=t'
     ·have e4:(t==t')=true:=by simp[h4]
      simp only[e4,vE];rw[q0];by_cases h5:u=u'
      ·simp[h0,h1,h2,h3,h4,h5]
      ·have h':(u==u')=false:=by rw[qi];exact h5
       simp[h5,h']
     ·have h':(t==t')=false:=by rw[qi];exact h4
      simp[h4,h']
    ·have h':(f==f')=false:=by rw[qi];exact h3
     simp[h3,h']
   ·have h':(s==s')=false:=by rw[qi];exact h2
    simp[h2,h']
  ·have h':(b==b')=false:=by rw[qi];exact h1
   simp[h1,h']
 ·have h':(a==a')=false:=by rw[qi];exact h0
  simp[h0,h']
section
variable{C:Cx}{fr:Fr}{L:aR}{x y:Operand}{ty yt:TypeId}{p q:aO}
theorem qb(hP:C.P=Tryz.prog)(p q:aO)(h1:ev fr x=some (.agg (aO.cells p).toArray))(h2:ev fr y=some (.agg (aO.cells q).toArray)):gI C fr L (.binOp .eql 23 x y yt) ty (.bool (decide (p=q))):=fun a w ha hw d pos af g=>by
 have he:(eqGuard .eql 23 x y (.agg (aO.cells p).toArray) (.agg (aO.cells q).toArray)).run C.P w= .ok () w:=by rw[hP];exact run_eqGuard_agg w .eql _ x y _ _ ag
 have e1:(binOp .eql 23 (.agg (aO.cells p).toArray) (.agg (aO.cells q).toArray)).run C.P w= .ok (.bool (decide (p=q))) w:=by
  rw[hP,run_eql_struct,SK];simp
 simp only[execOp,ha.tmp h1,ha.tmp h2,N3,he,e1,vE,Kt]
end
theorem uz{v:Int}{o:aO}(h:v=1∨v=2∨v=3)(h2:¬ji v o):cm v o=9:=by unfold cm;rw[aq h,aw h2]
theorem SJ{v:Int}{o:aO}(h:v=1∨v=2∨v=3)(h2:ji v o):cm v o=0:=by unfold cm;rw[aq h,aq h2]
theorem anb{v:Int}{o:aO}(h:¬(v=1∨v=2∨v=3)):cm v o=4:=by unfold cm;rw[aw h]
theorem kC(v:Int)(o:aO):a_ B w0 61 [ah v,.agg (aO.cells o).toArray] F (fun r L=>r=ah (cm v o)∧L=F):=by
 obtain⟨bl,pl,bu,da,pa,ch⟩:=o;refine cB func61 45 rfl rfl rfl [(0,ah v),(1,.agg #[ah bl,.bool pl,ah bu,ah da,ah pa,ah ch])] ⟨⟨rfl,rfl⟩,⟨rfl,rfl⟩,trivial⟩ ?_;refine be ?_;refine bf fun g3=>?_;refine bD ?_;refine ai rfl (nO bl 16 32768) ?_;refine bB ?_;refine bg fun g6=>?_;refine ahy ?_;refine aj (fun mF=>?_) fun mF=>?_
 ·refine bP ?_;refine ct (fun sL=>?_) fun sL=>?_
  ·refine be ?_;refine ai rfl (Z0 (bl,pl,bu,da,pa,ch)) ?_;refine dm ?_;refine ve [3,5,6] ?_;refine bB ?_;refine ct (fun ku=>?_) fun ku=>?_
   ·refine b8 ?_;refine ai rfl (nO bu 1 64) ?_;refine dX ?_;refine ct (fun GM=>?_) fun GM=>?_
    ·refine bz ?_;refine ae (br [(0,_),(1,_)] [ah 0,.bool false,ah 0,ah 0,ah 0,ah 0] [0,1] [_,_,_,_,_,_] rfl rfl ag) rfl ?_;refine aE ?_;refine ae (qb rfl (bl,pl,0,0,0,0) (bl,pl,0,0,0,0) rfl rfl) rfl ?_;refine be ?_;refine ve [5] ?_;refine bz ?_;refine ae (jx rfl) rfl ?_;refine be ?_;refine h_ (fun tS=>?_) fun tS=>?_
     ·refine bD ?_;refine ao (.skip (.skip (.refl _))) ?_;refine aE ?_
      (exfalso;simp at tS;done)
     ·refine bM ?_;refine ao (.skip (.skip (.refl _))) ?_;refine aE ?_
      (refine⟨dC (Value.int .i64) (SJ aa ⟨tH,fun _=>by assumption,fun _=>by assumption,fun h=>absurd mF h,fun h=>aa⟩).symm,rfl⟩;done)
    ·refine bM ?_;refine ve [5] ?_;refine GL ?_;refine ao (.skip (.skip (.refl _))) ?_;refine aE ?_;exact⟨dC (Value.int .i64) (uz aa (fun h=>GM (h.2.2.1 (.inl mF)))).symm,rfl⟩
   ·refine alZ ?_;refine ve [5] ?_;refine GL ?_;refine ao (.skip (.skip (.refl _))) ?_;refine aE ?_;exact⟨dC (Value.int .i64) (uz aa (fun h=>ku (h.2.1 mF))).symm,rfl⟩
  ·refine cD ?_;refine ve [3,5,6] ?_;refine apV ?_;refine ve [5] ?_;refine GL ?_;refine ao (.skip (.skip (.refl _))) ?_;refine aE ?_;exact⟨dC (Value.int .i64) (uz aa (fun h=>sL h.1)).symm,rfl⟩
 ·refine bP ?_;refine aj (fun jC=>?_) fun jC=>?_
  ·refine dm ?_;refine ct (fun ku=>?_) fun ku=>?_
   ·refine b8 ?_;refine ai rfl (nO bu 1 64) ?_;refine be ?_;refine ve [3,5,6] ?_;refine dm ?_;refine ct (fun GM=>?_) fun GM=>?_
    ·refine bz ?_;refine ae (br [(0,_),(1,_)] [ah 0,.bool false,ah 0,ah 0,ah 0,ah 0] [0,1] [_,_,_,_,_,_] rfl rfl ag) rfl ?_;refine aE ?_;refine ae (qb rfl (bl,pl,0,da,pa,ch) (bl,pl,0,0,0,0) rfl rfl) rfl ?_;refine c_ ?_;refine ae (jx rfl) rfl ?_;refine be ?_;refine h_ (fun tS=>?_) fun tS=>?_
     ·refine bH ?_;refine ve [4] ?_;refine bH ?_;refine ao (.skip (.skip (.refl _))) ?_;refine aE ?_
      (refine⟨dC (Value.int .i64) (uz aa (fun h=>?_)).symm,rfl⟩;have k:=h.2.2.2.1 aa;simp only at k;simp[k.1,k.2.1,k.2.2]at tS;done)
     ·refine bI ?_;refine ve [4] ?_;refine be ?_;refine ao (.skip (.skip (.refl _))) ?_;refine aE ?_
      (simp at tS;exact⟨dC (Value.int .i64) (SJ aa ⟨tH,fun h=>by omega,fun _=>by assumption,fun _=>tS,fun h=>aa⟩).symm,rfl⟩)
    ·refine ahy ?_;refine ve [4] ?_;refine bH ?_;refine ao (.skip (.skip (.refl _))) ?_;refine aE ?_;exact⟨dC (Value.int .i64) (uz aa (fun h=>GM (h.2.2.1 (.inr jC)))).symm,rfl⟩
   ·refine b8 ?_;refine ve [3,5,6] ?_;refine arW ?_;refine ve [4] ?_;refine bH ?_;refine ao (.skip (.skip (.refl _))) ?_;refine aE ?_;exact⟨dC (Value.int .i64) (uz aa (fun h=>ku h.1)).symm,rfl⟩
  ·refine bM ?_;refine aj (fun kH=>?_) fun kH=>?_
   ·refine cD ?_;refine ct (fun GM=>?_) fun GM=>?_
    ·refine bz ?_;refine ae (br [(0,_),(1,_)] [ah 0,.bool false,ah 0,ah 0,ah 0,ah 0] [0,1] [_,_,_,_,_,_] rfl rfl ag) rfl ?_;refine aE ?_;refine ae (qb rfl (bl,pl,bu,da,pa,ch) (bl,pl,0,0,0,0) rfl rfl) rfl ?_;refine be ?_;refine ve [5] ?_;refine bz ?_;refine ae (jx rfl) rfl ?_;refine be ?_;refine h_ (fun tS=>?_) fun tS=>?_
     ·refine bD ?_;refine ao (.skip (.skip (.refl _))) ?_;refine aE ?_
      (refine⟨dC (Value.int .i64) (uz aa (fun h=>?_)).symm,rfl⟩;have k:=h.2.2.2.1 aa;have k2:=h.2.2.2.2 aa;simp only at k k2;simp[k.1,k.2.1,k.2.2,k2]at tS;done)
     ·refine bM ?_;refine ao (.skip (.skip (.refl _))) ?_;refine aE ?_
      (simp at tS;exact⟨dC (Value.int .i64) (SJ aa ⟨tH,fun h=>by omega,fun h=>by omega,fun _=>tS.2,fun _=>tS.1⟩).symm,rfl⟩)
    ·refine bM ?_;refine ve [5] ?_;refine GL ?_;refine ao (.skip (.skip (.refl _))) ?_;refine aE ?_;exact⟨dC (Value.int .i64) (uz aa (fun h=>GM h.1)).symm,rfl⟩
   ·refine i_ ?_;refine ve [4] ?_;refine bI ?_;refine ao (.skip (.skip (.refl _))) ?_;refine aE ?_;exact⟨dC (Value.int .i64) (anb aa).symm,rfl⟩
end
theorem L9{P:Prop}(h:P:=by(simp[Value.oneCell'])):P:=h
theorem alN(p:Bool):a_ B w0 64 [.bool p] F (fun r L=>r= .int .u8 ((if p then (1:UInt8) else 0).toNat:Int)∧L=F):=by
 refine fw func64 4 [0] ?_;refine dm ?_;refine h_ (fun h3=>?_) fun h3=>?_
 ·refine bM ?_;exact⟨by rw[h3];rfl,rfl⟩
 ·refine bP ?_;exact⟨by rw[h3];rfl,rfl⟩
theorem Sq(v:Int):a_ B w0 62 [ah v] F (fun r L=>∃A' c',r= .tuple #[.slice A' (qo v).1.length c',ah (qo v).2]∧L= .own 5 1 A' (qo v).1.length c' (bv (qo v).1)::F):=by
 refine fw func62 13 [0] ?_;refine bz ?_;refine ai rfl (nO v 1 3) ?_;refine bH ?_;refine aj (fun h6=>?_) fun h6=>?_
 ·have e:qo v=([],4):=by unfold qo;rw[aw h6]
  refine bM ?_;refine aC 5 1 none ?_;refine aE ?_;rw[e];exact⟨none,0,rfl,rfl⟩
 ·have hw:=bF h6;have hv:v=1∨v=2∨v=3:=by have:=hw.1;have:=hw.2;omega
  have e:qo v=([70,73,82,75,UInt8.ofNat v.toNat],0):=by unfold qo;rw[aq hw];rfl
  have hvv:((UInt8.ofNat v.toNat).toNat:Int)=v:=by rcases hv with rfl|rfl|rfl<;>rfl
  refine b8 ?_;refine cH (aF cN [_,_,_,_] rfl rfl cA aa aa) fun A7=>?_;refine lK (J5 underlying27 underlying5 rfl aV aa) rfl ?_;rintro _ _ ⟨g8,cur,kk,rfl,hA8,asF,asq,tz,rfl⟩;subst hA8;refine aE ?_;refine ae (bw underlying3 underlying5 rfl (r:=v) (by rcases hv with rfl|rfl|rfl<;>rfl)) rfl ?_;refine cH (aF cN [_] rfl rfl cA aa aa) fun tE=>?_;refine gw (J3 cN rfl (aL.obj (.tail _ (List.Mem.head _)) asF asq tz) aa rfl (aL.own (.head _)) L9 aa aa aa) fun P5 c12=>?_;refine bI ?_;refine ao (.cons (.skip (.skip (.refl _)))) ?_;refine aE ?_;rw[e];refine⟨P5,c12,rfl,?_⟩;simp[bv];omega
section
open Go.RowKit Go.WideMaps
abbrev K3:=UInt8×UInt8×UInt8
def Gl(k:K3):Value:=.agg #[.int .u8 (k.1.toNat:Int),.int .u8 (k.2.1.toNat:Int),.int .u8 (k.2.2.toNat:Int)]
theorem ahZ{a b:K3}(h:Gl a=Gl b):a=b:=by
 obtain⟨a1,a2,a3⟩:=a;obtain⟨b1,b2,b3⟩:=b;simp only[Gl,Value.agg.injEq,Array.mk.injEq,List.cons.injEq,Value.int.injEq,true_and,and_true,Int.natCast_inj]at h;obtain⟨h1,h2,h3⟩:=h;rw[qh.1 h1,qh.1 h2,qh.1 h3]
theorem Y0{P:Program}{k e:TypeId}{q:IntKind}(A:ArrKey P k e 3)(he:P.underlying e=some (.int q))(jb:∃m,P.types.size=m+1){a b c:Int}(wa:(Lit.int q a).wf=true)(wb:(Lit.int q b).wf=true)(wc:(Lit.int q c).wf=true):
  keyOf P k (.agg #[.int q a,.int q b,.int q c])=some (.string (keyBytes [.int q a,.int q b,.int q c])):=by
 have hkt:=A.keyType jb;obtain⟨m,hm⟩:=jb;unfold keyOf;simp only[A.hu];rw[aq (by simp[hkt,Value.formed,A.hu,A.size]),hm];unfold Program.keyLits;simp only[A.hu,Value.cells];rw[aq (by rw[A.size];rfl),show List.range 3=[0,1,2] from rfl,List.mapM_cons,List.mapM_cons,List.mapM_cons,List.mapM_nil];simp[A.one,Program.keyLits,he,wa,wb,wc]
theorem wf_u8(c:UInt8):(Lit.int .u8 (c.toNat:Int)).wf=true:=by
 have:=c.toNat_lt;have h:∀n:Fin 256,(Lit.int .u8 ((n:Nat):Int)).wf=true:=by decide+kernel
 exact h ⟨c.toNat,aa⟩
structure aaO(P:Program)(t k e:TypeId):Prop where
 um:P.underlying t=some (.map k e)
 A:ArrKey P k 5 3
 he:P.underlying 5=some (.int .u8)
 sz:∃m,P.types.size=m+1
 z:∀w,(zeroValue e).run P w= .ok (ah 0) w
theorem aaO.key{P:Program}{t k e:TypeId}(T:aaO P t k e)(x:K3):∃l,keyOf P k (Gl x)=some l:=⟨_,Y0 T.A T.he T.sz (wf_u8 _) (wf_u8 _) (wf_u8 _)⟩
structure Gr(es:List MapEntry)(b:al)(m:Nat):Prop where
 ent:∀x∈es,∃(k:K3) (p:Nat),x.key=Gl k∧x.val=ah (p:Int)∧eS b k m=some p
 all:∀(k:K3) (p:Nat),eS b k m=some p→∃x∈es,x.key=Gl k
 nd:es.Pairwise fun x y=>x.key≠y.key
theorem Gr.nil(b:al):Gr [] b 0:=⟨fun x h=>absurd h ak,fun k p h=>absurd h (by simp[eS]),List.Pairwise.nil⟩
theorem Gr.skip{es:List MapEntry}{b:al}{m:Nat}(h:Gr es b m)(hm:b.length<m+3):Gr es b (m+1):=by
 have e:∀k,eS b k (m+1)=eS b k m:=fun k=>by rw[eS,aw aa]
 refine⟨fun x hx=>?_,fun k p hk=>h.all k p (by rw[←e];exact hk),h.nd⟩;obtain⟨k,p,h1,h2,h3⟩:=h.ent x hx;exact⟨k,p,h1,h2,by rw[e];exact h3⟩
abbrev lkp(o:Option Nat):Value:=.tuple #[ah ((o.getD 0:Nat):Int),.bool o.isSome]
section
variable{C:Cx}{fr:Fr}{L:aR}{x y z:Operand}{f:Ch→aR}{t k e ty:TypeId}{g:Nat}{es:List MapEntry}{cl m:Nat}{b:al}{s:K3}
theorem X6(b:al):qz C fr L (.makeMap t none) ty (fun p L'=>∃g es cl,p= .map (some g)∧Gr es b 0∧L'= .obj g (.map es.toArray cl)::L):=fun a w ha hw d pos af gg=>
 ⟨.map (some w.heap.size),w.alloc (.map #[] 0),.obj w.heap.size (.map #[] 0)::L,.inl (by simp[execOp,run_makeMap_plain]),⟨w.heap.size,[],0,rfl,Gr.nil b,rfl⟩,
  hw.gL (Kv w _ none) ⟨hw.base,(MapKept.heap_alloc w (.map #[] 0)).1⟩ (.inr ⟨_,rfl,gj _⟩)⟩
theorem H6(T:aaO C.P t k e)(hm:ev fr x=some (.map (some g)))(hx:ev fr y=some (Gl s))(hs:mx (.obj g (.map es.toArray cl)) L f)(hk:Gr es b m):
  gI C fr L (.lookup t x y true) ty (lkp (eS b s m)):=fun a w ha hw d pos af gg=>by
 have hb:w.heap[g]? =some (.map es.toArray cl):=(hw.all _ hs.mem).2;obtain⟨l,hl⟩:=T.key s;have hc:∀em,(Instr.checkKey em 10000 k (Gl s)).run C.P w= .ok () w:=fun em=>T.A.law.check w em hl;have hf:=T.A.law.find w hl es fun en hen=>by
  obtain⟨k',p,h1,_,_⟩:=hk.ent en hen;rw[h1];exact T.key k'
 rcases hf with⟨hf,NL⟩|⟨j,en,hf,hj,wQ⟩
 ·have hn:eS b s m=none:=by
   cases hh:eS b s m with
   |none=>rfl
   |some p=>
    obtain⟨en,hen,hke⟩:=hk.all s p hh;exact absurd hke (NL en hen)
  rw[hn];simp[execOp,ha.tmp hm,ha.tmp hx,Instr.lookup,iQ T.um,BK hb,hc,hf,T.z,Result.andThen,lkp]
 ·obtain⟨k',p,h1,h2,h3⟩:=hk.ent en (List.mem_of_getElem? hj);have RN:k'=s:=ahZ (h1.symm.trans wQ);subst RN;rw[h3];simp[execOp,ha.tmp hm,ha.tmp hx,Instr.lookup,iQ T.um,BK hb,hc,hf,Result.andThen,h2,lkp]
theorem Gr.put{es:List MapEntry}{b:al}{m j:Nat}{en:MapEntry}(h:Gr es b m)(hm:m+3≤b.length)(hj:es[j]? =some en)(hk:en.key=Gl (iF b m)):Gr (es.modify j fun e=>{e with key:=Gl (iF b m),val:=ah (m:Int)}) b (m+1):=by
 have hjl:j<es.length:=(z6.1 hj).1;have hje:es[j]=en:=(z6.1 hj).2;have hnd:=rk.1 h.nd;have wQ:∀i (hi:i<es.length),((es.modify j fun e=>{e with key:=Gl (iF b m),val:=ah (m:Int)})[i]'C3).key=es[i].key:=fun i hi=>by
  rw[List.getElem_modify];split
  ·rename_i e;subst e;rw[hje,hk]
  ·rfl
 refine⟨fun x hx=>?_,fun k p hp=>?_,?_⟩
 ·obtain⟨i,hi,rfl⟩:=j8 hx;have Qh:i<es.length:=by simpa using hi
  rw[List.getElem_modify];by_cases e:j=i
  ·rw[aq e];exact⟨iF b m,m,rfl,rfl,by rw[eS,aq ⟨hm,rfl⟩]⟩
  ·rw[aw e];obtain⟨k,p,h1,h2,h3⟩:=h.ent es[i] (t_ Qh);refine⟨k,p,h1,h2,?_⟩;rw[eS,aw ?_];exact h3;rintro⟨_,Kk⟩;have r':es[j].key≠es[i].key:=by
    rcases Nat.lt_or_gt_of_ne e with q|q
    ·exact hnd j i hjl Qh q
    ·exact fun e2=>hnd i j Qh hjl q e2.symm
   exact r' (by rw[hje,hk,h1,Kk])
 ·rw[eS]at hp;by_cases hc:m+3≤b.length∧iF b m=k
  ·refine⟨(es.modify j fun e=>{e with key:=Gl (iF b m),val:=ah (m:Int)})[j]'(by simpa using hjl),t_ _,?_⟩;rw[wQ j hjl,hje,hk,hc.2]
  ·rw[aw hc]at hp;obtain⟨x,hx,YM⟩:=h.all k p hp;obtain⟨i,hi,rfl⟩:=j8 hx;exact⟨(es.modify j fun e=>{e with key:=Gl (iF b m),val:=ah (m:Int)})[i]'C3,t_ _,by rw[wQ i hi];exact YM⟩
 ·refine rk.2 fun i i2 hi hi2 fP=>?_;have h1:i<es.length:=by simpa using hi
  have h2:i2<es.length:=by simpa using hi2
  rw[wQ i h1,wQ i2 h2];exact hnd i i2 h1 h2 fP
theorem Gr.add{es:List MapEntry}{b:al}{m n:Nat}(h:Gr es b m)(hm:m+3≤b.length)(NL:∀e∈es,e.key≠Gl (iF b m)):Gr (es++[{key:=Gl (iF b m),val:=ah (m:Int),born:=n}]) b (m+1):=by
 refine⟨fun x hx=>?_,fun k p hp=>?_,?_⟩
 ·rcases dy.1 hx with hx|hx
  ·obtain⟨k,p,h1,h2,h3⟩:=h.ent x hx;refine⟨k,p,h1,h2,?_⟩;rw[eS,aw ?_];exact h3;rintro⟨_,Kk⟩;exact NL x hx (by rw[h1,Kk])
  ·rw[lE.1 hx];exact⟨iF b m,m,rfl,rfl,by rw[eS,aq ⟨hm,rfl⟩]⟩
 ·rw[eS]at hp;by_cases hc:m+3≤b.length∧iF b m=k
  ·exact⟨_,nB _ (lE.2 rfl),by rw[hc.2]⟩
  ·rw[aw hc]at hp;obtain⟨x,hx,YM⟩:=h.all k p hp;exact⟨x,j_ _ hx,YM⟩
 ·refine sW.2 ⟨h.nd,VA _ _,fun x hx y hy=>?_⟩;rw[lE.1 hy];exact NL x hx
theorem M9(T:aaO C.P t k e)(hm:ev fr x=some (.map (some g)))(hx:ev fr y=some (Gl (iF b m)))(hv:ev fr z=some (ah (m:Int)))(hs:mx (.obj g (.map es.toArray cl)) L f)(hk:Gr es b m)(hb3:m+3≤b.length):
  qz C fr L (.mapUpdate t x y z) ty (fun p L'=>∃es' cl',Gr es' b (m+1)∧L'=f (.obj g (.map es'.toArray cl'))):=fun a w ha hw d pos af gg=>by
 have hb:w.heap[g]? =some (.map es.toArray cl):=(hw.all _ hs.mem).2;obtain⟨l,hl⟩:=T.key (iF b m);have hc:∀em,(Instr.checkKey em 10000 k (Gl (iF b m))).run C.P w= .ok () w:=fun em=>T.A.law.check w em hl;have hf:=T.A.law.find w hl es fun en hen=>by
  obtain⟨k',p,h1,_,_⟩:=hk.ent en hen;rw[h1];exact T.key k'
 have fP:=(k_3.1 hb).1;have nP:∀o,SL C.B C.w0 (f (.obj g o)) {w with heap:=w.heap.setIfInBounds g o}:=fun o=>
  hw.Qn hs ⟨rfl,rfl,rfl,ak,fun j _ hj=>by
   have:g≠j:=fun e=>hj C4;simp[this]⟩ (fun h=>⟨h.1,by simp[fP]⟩) (.inr (.inl rfl))
 rcases hf with⟨hf,NL⟩|⟨j,en,hf,hj,wQ⟩
 ·refine⟨undef,_,_,.inr ⟨?_,rfl⟩,⟨es++[{key:=Gl (iF b m),val:=ah (m:Int),born:=cl}],cl+1,hk.add hb3 NL,rfl⟩,nP _⟩;simp[execOp,ha.tmp hm,ha.tmp hx,ha.tmp hv,Instr.mapUpdate,iQ T.um,BK hb,hc,hf,MapKept.run_setObj_map _ hb,Result.andThen]
 ·have hky:=T.A.law.stays w hl;have Kk:((es.toArray[j]?).map (·.key)).getD (Gl (iF b m))=Gl (iF b m):=by
   rw[List.getElem?_toArray,hj];exact wQ
  refine⟨undef,_,_,.inr ⟨?_,rfl⟩,⟨es.modify j fun e=>{e with key:=Gl (iF b m),val:=ah (m:Int)},cl,hk.put hb3 hj wQ,rfl⟩,nP _⟩;simp only[execOp,ha.tmp hm,ha.tmp hx,ha.tmp hv,Instr.mapUpdate];simp[iQ T.um,BK hb,hc,hf,Result.andThen];simp at Kk;simp[Kk,hky,MapKept.run_setObj_map _ hb]
end
theorem k3T:aaO Tryz.prog 298 350 3:=⟨ag,⟨ag,ag,ag,ag⟩,ag,⟨Tryz.prog.types.size-1,ag⟩,fun w=>ag⟩
end
def bN.cells(t:bN):cV:=[.int .u8 (t.1.toNat:Int),ah t.2.1,ah t.2.2]
theorem adG(t:bN):a_ B w0 281 [.agg (bN.cells t).toArray] F (fun r L=>r= .bool (decide (fa t))∧L=F):=by
 obtain⟨x,n,d⟩:=t;have hx:x=0↔((x.toNat:Nat):Int)=0:=⟨fun h=>by rw[h];rfl,fun h=>qh.1 (show x.toNat=(0:UInt8).toNat from by have e:(0:UInt8).toNat=0:=rfl;omega)⟩
 have hp:¬n=0→(fa (x,n,d)↔((x.toNat:Nat):Int)=0∧3≤n∧n≤257∧1≤d∧d≤4095):=fun h=>by unfold fa;rw[aw h];exact and_congr hx Iff.rfl
 have hz:n=0→(fa (x,n,d)↔d=0):=fun h=>by unfold fa;rw[aq h]
 refine cB func281 32 rfl rfl rfl [(0,.agg #[.int .u8 (x.toNat:Int),ah n,ah d])] ⟨⟨rfl,rfl⟩,trivial⟩ ?_;refine be ?_;refine bf fun g1=>?_;refine dm ?_;refine aj (fun h5=>?_) fun h5=>?_
 ·refine bz ?_;refine ao (L':=F) (.skip (.refl _)) ?_;refine aE ?_;exact⟨dC Value.bool (z_.2 (hz h5).symm),rfl⟩
 ·refine b8 ?_;refine bR 23 31 [] (((x.toNat:Nat):Int)=0∧3≤n∧n≤257∧1≤d∧d≤4095) ?_ ?_
  ·refine b8 ?_;refine ct (fun mF=>?_) fun mF=>?_
   ·refine bD ?_;refine ct (fun iy=>?_) fun iy=>?_
    ·refine bD ?_;refine ct (fun pX=>?_) fun pX=>?_
     ·refine bD ?_;refine ct (fun ku=>?_) fun ku=>?_
      ·refine bB ?_;exact aM oY
      ·refine bH ?_;exact aM wz
     ·refine bM ?_;exact aM wz
    ·refine c_ ?_;exact aM wz
   ·refine tQ ?_;exact aM wz
  ·refine b8 ?_;refine ao (L':=F) (.skip (.refl _)) ?_;refine aE ?_;exact⟨dC Value.bool (z_.2 (hp h5).symm),rfl⟩
section
variable{gm:Nat}
theorem aoM{P:Prop}(h:P:=by(rintro _ _ ⟨es6,cl6,hk6,rfl⟩;exact gF)):P:=h
theorem aod{P:Prop}(h:P:=by(exact eT (by first|exact fun h=>absurd h.1 (by omega)|exact fun h=>absurd h.2.1 (by omega)|exact⟨fun h=>⟨by omega,by omega,Lg.1 h⟩,fun h=>Lg.2 h.2.2⟩))):P:=h
theorem b_0{P:Prop}(h:P:=by(first|rfl|exact eU (by first|exact(fun⟨x,hx,_⟩=>by rw[LJ.V0 q9]at hx;cases hx)|exact(fun⟨x,hx,_⟩=>by rw[LJ.V3 (by omega)]at hx;cases hx)|exact(fun⟨y,hy,R0,_⟩=>by injection hy with hy;omega)|exact⟨fun h=>⟨x,rfl,by omega,by omega⟩,fun⟨y,hy,R0,hy3⟩=>by omega⟩)|exact eT (by first|exact(fun⟨x,hx,_⟩=>by rw[LJ.V0 q9]at hx;cases hx)|exact(fun⟨x,hx,_⟩=>by rw[LJ.V3 (by omega)]at hx;cases hx)|exact(fun⟨y,hy,R0,_⟩=>by injection hy with hy;omega)|exact⟨fun h=>⟨x,rfl,by omega,by omega⟩,fun⟨y,hy,R0,hy3⟩=>by omega⟩)|exact dU (by first|exact(fun⟨x,hx,_⟩=>by rw[LJ.V0 q9]at hx;cases hx)|exact(fun⟨x,hx,_⟩=>by rw[LJ.V3 (by omega)]at hx;cases hx)|exact(fun⟨y,hy,R0,_⟩=>by injection hy with hy;omega)|exact⟨fun h=>⟨x,rfl,by omega,by omega⟩,fun⟨y,hy,R0,hy3⟩=>by omega⟩)|exact oG (by first|exact(fun⟨x,hx,_⟩=>by rw[LJ.V0 q9]at hx;cases hx)|exact(fun⟨x,hx,_⟩=>by rw[LJ.V3 (by omega)]at hx;cases hx)|exact(fun⟨y,hy,R0,_⟩=>by injection hy with hy;omega)|exact⟨fun h=>⟨x,rfl,by omega,by omega⟩,fun⟨y,hy,R0,hy3⟩=>by omega⟩))):P:=h
theorem Da{k:Nat}(h:k<b.length):(bv b)[k*1]? =some (.int .u8 ((b.getD k 0).toNat:Int)):=by
 rw[cE];simp[bv,List.getD,fo h]
def uC(b:al)(p:Nat):Int:=if p+3≤b.length then (match eS b (iF b p) p with|some q=>(q:Int)|none=>-1) else-1
def qu(b:al)(m:Nat):List Int:=(List.range m).map (uC b)
@[simp] theorem an3(b:al)(m:Nat):(qu b m).length=m:=by simp[qu]
theorem w7(b:al)(m:Nat):qu b (m+1)=qu b m++[uC b m]:=by simp[qu,lk]
theorem I1{b:al}{m p:Nat}(h:p<m):(ints .i64 (qu b m))[p*1]? =some (ah (uC b p)):=by
 rw[cE];simp[ints,qu,h]
theorem ael{m:Nat}(h:¬m+3≤b.length):ints .i64 (qu b m)++[Value.int .i64 (-1)]=ints .i64 (qu b (m+1)):=by
 rw[w7];simp[ints,uC,h]
theorem ZG{m:Nat}(h:m+3≤b.length)(hn:eS b (iF b m) m=none):ints .i64 (qu b m)++[Value.int .i64 (-1)]=ints .i64 (qu b (m+1)):=by
 rw[w7];simp[ints,uC,hn]
theorem ZH{m p:Nat}(h:m+3≤b.length)(hp:eS b (iF b m) m=some p):(ints .i64 (qu b m)++[Value.int .i64 (-1)]).set (m*1) (ah (((eS b (iF b m) m).getD 0:Nat):Int))=ints .i64 (qu b (m+1)):=by
 rw[w7,cE,wX _ _ ak,hp];simp[ints,uC,h,hp]
abbrev Ck(g gm:Nat)(es:List MapEntry)(cl:Nat)(A:bj)(c:Nat)(b:al)(m:Nat)(F:aR):aR:=
 .bE g 300 [.map (some gm),.slice A m c]:: .own 3 1 A m c (ints .i64 (qu b m)):: .obj gm (.map es.toArray cl)::F
theorem akq{at_:Nat}(hb:fq B w0 F A c b)(h:at_+3≤b.length)(hl:b.length≤1000000):
  a_ B w0 250 [.slice A b.length c,ah at_] F (fun r L=>r=Gl (iF b at_)∧L=F):=by
 refine dP.zk hb fun oA _=>?_;refine fw func250 20 [0,1] ?_;refine be ?_;refine bg fun g4=>?_;refine bH ?_;refine cC F ?_;refine ab 0 ?_;refine ab 1 ?_;refine ab 2 ?_;refine aW 3 rfl (au ag rfl aB aa (Da aa)) ?_;refine ab 4 ?_;refine ab 5 ?_;refine ab 6 ?_;refine aW 7 rfl (aG (i:=at_+1) underlying27 ag rfl rfl aa aa aB) ?_;refine aW 8 rfl (au ag rfl aB aa (Da aa)) ?_;refine ab 9 ?_;refine ab 10 ?_;refine ab 11 ?_;refine aW 12 rfl (aG (i:=at_+2) underlying27 ag rfl rfl aa aa aB) ?_;refine aW 13 rfl (au ag rfl aB aa (Da aa)) ?_;refine aW 14 rfl (eG [(0,_),(1,_),(2,_)] [_,_,_] rfl rfl ag) ?_;refine az 15 ?_;refine aE ?_;refine cP [4] ?_;refine be ?_;refine I8 rfl rfl ag aV gD (.skip (.refl _)) ?_;exact⟨rfl,rfl⟩
theorem an'{at_:Nat}(hb:fq B w0 F A2 c2 b)(hk:Gr es b at_)(GQ:at_<b.length)(hl:b.length≤1000000):
  a_ B w0 207 [bq g,.slice A2 b.length c2,ah at_] (Ck g gm es cl A c b at_ F)
   (fun r L=>∃es' cl' A' c',r= .tuple #[]∧Gr es' b (at_+1)∧L=Ck g gm es' cl' A' c' b (at_+1) F):=by
 refine fw func207 49 [0,1,2] ?_;refine bD ?_;refine dK fM rfl rfl rfl rfl rfl (fun _=>rfl) aV aa aa ?_;intro _ Bg JL;refine i_ ?_;refine aj (fun pX=>?_) fun pX=>?_
 ·refine be ?_;refine ao (L':=Ck g gm es cl Bg JL b (at_+1) F) (bp rfl (ax rfl (ael aa) (.refl _))) ?_;refine aE ?_;exact⟨es,cl,Bg,JL,rfl,hk.skip aa,rfl⟩
 ·refine bB ?_;refine ai rfl (akq aB aa hl) ?_;refine bg fun g6=>?_;refine aE ?_;refine ve [0,2,6] ?_;refine bP ?_;refine bU (H6 k3T rfl rfl aV hk) rfl ?_;refine cD ?_;refine h_ (fun tR=>?_) fun tR=>?_
  ·obtain⟨p,hp⟩:=Option.isSome_iff_exists.1 tR;have hpa:=lq hp;refine bP ?_;refine ve [0,2,6] ?_;refine aE ?_;refine cC (.bE g6 350 [.int .u8 ((b.getD at_ 0).toNat:Int),.int .u8 ((b.getD (at_+1) 0).toNat:Int),.int .u8 ((b.getD (at_+2) 0).toNat:Int)]:: .bE g 300 [.map (some gm),.slice Bg (at_+1) JL]::F) ?_;refine ab 0 ?_;refine ab 1 ?_;refine ab 2 ?_;refine ab 3 ?_;refine ab 4 ?_;refine ab 5 ?_;refine az 6 ?_;refine kO rfl .no (M9 k3T rfl rfl rfl aV hk aa) aoM ?_;rintro _ _ ⟨es6,cl6,hk6,rfl⟩;refine be ?_;refine ao (L':=Ck g gm es6 cl6 Bg JL b (at_+1) F) (.trans ((gl (gl (gl (.skip (.refl _)))))) (bp rfl (ax rfl (ZH aa hp) (.refl _)))) ?_;refine aE ?_;exact⟨es6,cl6,Bg,JL,rfl,hk6,rfl⟩
  ·refine be ?_;refine cC (.bE g6 350 [.int .u8 ((b.getD at_ 0).toNat:Int),.int .u8 ((b.getD (at_+1) 0).toNat:Int),.int .u8 ((b.getD (at_+2) 0).toNat:Int)]:: .bE g 300 [.map (some gm),.slice Bg (at_+1) JL]::F) ?_;refine ab 0 ?_;refine ab 1 ?_;refine ab 2 ?_;refine ab 3 ?_;refine ab 4 ?_;refine ab 5 ?_;refine az 6 ?_;refine kO rfl .no (M9 k3T rfl rfl rfl aV hk aa) aoM ?_;rintro _ _ ⟨es6,cl6,hk6,rfl⟩;refine cP [] ?_;refine aE ?_;refine ao (L':=Ck g gm es6 cl6 Bg JL b (at_+1) F) (.trans ((gl (gl (gl (.skip (.refl _)))))) (bp rfl (ax rfl (ZG aa (by simpa using tR)) (.refl _)))) ?_;refine aE ?_;exact⟨es6,cl6,Bg,JL,rfl,hk6,rfl⟩
theorem Lg{x y:UInt8}:((x.toNat:Nat):Int)=(y.toNat:Int)↔x=y:=⟨fun h=>qh.1 aa,fun h=>by rw[h]⟩
theorem Xn{p a n:Nat}(hn:n<257)(h:a+n<b.length)(he:b.getD (p+n) 0=b.getD (a+n) 0):mM b p a (257-n) n=mM b p a (257-(n+1)) (n+1):=by
 rw[show 257-n=(257-(n+1))+1 by omega,mM,aq ⟨hn,h,he⟩]
theorem Qv{p a n:Nat}(hn:n≤257)(h:¬(n<257∧a+n<b.length∧b.getD (p+n) 0=b.getD (a+n) 0)):mM b p a (257-n) n=n:=by
 by_cases e:n=257
 ·subst e;rfl
 ·rw[show 257-n=(257-(n+1))+1 by omega,mM,aw h]
theorem agt{p a:Nat}(hb:fq B w0 F A c b)(hp:p<a)(ha:a<b.length)(hl:b.length≤1000000):
  a_ B w0 251 [.slice A b.length c,ah p,ah a] F (fun r L=>r=ah (oV b p a)∧L=F):=by
 refine fw func251 36 [0,1,2] ?_;refine cD ?_;refine aD (fun zf zL zm=>∃(n:Nat),(n≤257∧mM b p a (257-n) n=oV b p a)∧257-n=zm∧Sub zf [(0,.slice A b.length c),(1,ah p),(2,ah a),(7,ah n)]∧Wk zL (F)) _ ⟨0,⟨bS _,rfl⟩,rfl,bm,.refl _⟩ ?_;rintro _ _ _ ⟨n,⟨hn,hN⟩,rfl,hs,hp⟩;refine aU hs hp ?_;clear hs hp;refine bH ?_;refine Cw 25 32 [0,1,2,7] (n<257∧a+n<b.length∧b.getD (p+n) 0=b.getD (a+n) 0) ?_ ?_
 ·refine bH ?_;refine m_ rfl rfl rfl (fun jB=>?_) (fun jB=>?_)
  ·refine c_ ?_;refine m_ rfl rfl rfl (fun iU=>?_) (fun iU=>?_)
   ·refine bM ?_;refine bU (aG (i:=p+n) underlying27 ag rfl rfl aa aa aB) rfl ?_;refine aE ?_;refine bU (au ag rfl aB aa (Da aa)) rfl ?_;refine bP ?_;refine bU (aG (i:=a+n) underlying27 ag rfl rfl aa aa aB) rfl ?_;refine aE ?_;refine bU (au ag rfl aB aa (Da aa)) rfl ?_;refine bH ?_;exact qD (by exact dU (by first|exact fun h=>absurd h.1 (by omega)|exact fun h=>absurd h.2.1 (by omega)|exact⟨fun h=>⟨by omega,by omega,Lg.1 h⟩,fun h=>Lg.2 h.2.2⟩))
   ·refine c_ ?_;exact qD aod
  ·refine GL ?_;exact qD aod
 ·refine be ?_;refine aj (fun Bu=>?_) fun Bu=>?_
  ·refine bP ?_;refine av ⟨_,aa,n+1,⟨aa,by rw[←Xn Bu.1 Bu.2.1 Bu.2.2];exact hN⟩,rfl,bm,.refl _⟩
  ·have hNe:oV b p a=n:=by rw[←hN];exact Qv hn Bu
   refine c_ ?_;exact⟨by rw[hNe],rfl⟩
theorem Zd{a f n d:Nat}{p:Option Nat}(h:¬(∃x,p=some x∧a-x≤4095∧n<257)):sY b a f p n d=(n,d):=by
 cases f with
 |zero=>rfl
 |succ f=>
  cases p with
  |none=>rfl
  |some x=>rw[sY,aw fun hc=>h ⟨x,rfl,hc⟩]
def anc(o:Option Nat):Int:=match o with|some x=>(x:Int)|none=>-1
theorem ZF{x:Nat}(h:x+3≤b.length):uC b x=anc (eS b (iF b x) x):=by
 unfold uC anc;rw[aq h]
theorem yq{k:K3}:∀{m p:Nat},eS b k m=some p→p+3≤b.length
 |0,p,h=>by cases h
 |m+1,p,h=>by
  unfold eS at h;split at h
  ·rename_i hc;injection h with h;omega
  ·exact yq h
def Sk(b:al)(a:Nat)(o:Option Nat)(q:Int):Prop:=((eS b (iF b a) a).isSome=true∧q=anc o)∨((eS b (iF b a) a).isSome=false∧o=none)
theorem Sk.start{a:Nat}:Sk b a (eS b (iF b a) a) (((eS b (iF b a) a).getD 0:Nat):Int):=by
 unfold Sk;cases eS b (iF b a) a with
 |none=>exact .inr ⟨rfl,rfl⟩
 |some x=>exact .inl ⟨rfl,rfl⟩
theorem Sk.get{a:Nat}{o:Option Nat}{q:Int}(h:Sk b a o q)(h1:(eS b (iF b a) a).isSome=true)(h2:q≠-1):∃x:Nat,o=some x∧q=x:=by
 rcases h with⟨_,h⟩|⟨h,_⟩
 ·cases o with
  |none=>exact absurd h h2
  |some x=>exact⟨x,rfl,h⟩
 ·rw[h]at h1;cases h1
theorem Sk.V0{a:Nat}{o:Option Nat}{q:Int}(h:Sk b a o q)(h1:(eS b (iF b a) a).isSome=false):o=none:=by
 rcases h with⟨h,_⟩|⟨_,h⟩
 ·rw[h]at h1;cases h1
 ·exact h
theorem Sk.V3{a:Nat}{o:Option Nat}{q:Int}(h:Sk b a o q)(h1:q=-1):o=none:=by
 rcases h with⟨_,h⟩|⟨_,h⟩
 ·cases o with
  |none=>rfl
  |some x=>
   have:q=(x:Int):=h;omega
 ·exact h
theorem Sk.aq0{a x:Nat}{o:Option Nat}{q:Int}(h:Sk b a o q)(h1:o=some x)(h2:x+3≤b.length):Sk b a (eS b (iF b x) x) (uC b x):=by
 rcases h with⟨h,_⟩|⟨_,h⟩
 ·exact .inl ⟨h,ZF h2⟩
 ·rw[h]at h1;cases h1
theorem Sk.val{a x:Nat}{q:Int}(h:Sk b a (some x) q):q=x:=by
 rcases h with⟨_,h⟩|⟨_,h⟩
 ·exact h
 ·cases h
theorem adz{a f n d x:Nat}(h:a-x≤4095∧n<257):sY b a (f+1) (some x) n d=sY b a f (eS b (iF b x) x) (if n<oV b x a then oV b x a else n) (if n<oV b x a then a-x else d):=by
 rw[sY,aq h];split<;>rfl
theorem Ze{a:Nat}(hb:fq B w0 F A2 c2 b)(hk:Gr es b a)(ha:a<b.length)(hl:b.length≤1000000):
  a_ B w0 206 [bq g,.slice A2 b.length c2,ah a] (Ck g gm es cl A c b a F)
   (fun r L=>r= .tuple #[ah (dD b a).1,ah (dD b a).2]∧L=Ck g gm es cl A c b a F):=by
 have ahI:b.length<a+3→dD b a=(0,0):=fun h=>by rw[dD,aq h]
 refine fw func206 62 [0,1,2] ?_;refine jU ?_;refine aj (fun kS=>?_) fun kS=>?_
 ·refine bP ?_;exact⟨by rw[ahI aa];rfl,rfl⟩
 ·have hlg:dD b a=sY b a a (eS b (iF b a) a) 0 0:=by rw[dD,aw aa]
  refine bz ?_;refine jE ape rfl (akq aB aa hl) wA rfl ?_;refine bU (H6 k3T rfl rfl aV hk) rfl ?_;refine bP ?_;refine aD (fun zf zL zm=>∃(o:Option Nat) (q:Int) (f n d:Nat),((∀x,o=some x→x<f)∧(∀x,o=some x→x+3≤b.length∧x<a)∧Sk b a o q∧sY b a f o n d=dD b a∧n≤257∧d≤a)∧f=zm∧Sub zf [(0,bq g),(1,.slice A2 b.length c2),(2,ah a),(6,ah n),(7,ah d),(8,ah q),(9,.bool (eS b (iF b a) a).isSome)]∧Wk zL (Ck g gm es cl A c b a F)) _ ⟨eS b (iF b a) a,(((eS b (iF b a) a).getD 0:Nat):Int),a,0,0,⟨fun x h=>lq h,fun x h=>⟨yq h,lq h⟩,Sk.start,hlg.symm,bS _,bS _⟩,rfl,bm,.refl _⟩ ?_;rintro _ _ _ ⟨o,q,f,n,d,⟨hof,hox,LJ,Qi,hn,hd⟩,rfl,hs,hp⟩;refine aU hs hp ?_;clear hs hp;refine bH ?_;refine bR 15 41 [0,1,2,6,7,8,9] (∃x,o=some x∧a-x≤4095∧n<257) ?_ ?_
  ·refine be ?_;refine nN rfl rfl rfl (fun q9=>?_) (fun q9=>?_)
   ·refine bI ?_;refine ct (fun Bu=>?_) fun Bu=>?_
    ·obtain⟨x,rfl,rfl⟩:=LJ.get q9 Bu;obtain⟨hx3,hx4⟩:=hox x rfl;refine bP ?_;refine ct (fun Gh=>?_) fun Gh=>?_
     ·refine b8 ?_;exact aM b_0
     ·refine be ?_;exact aM b_0
    ·refine bM ?_;exact aM b_0
   ·refine cD ?_;exact aM b_0
  ·refine be ?_;refine aj (fun GN=>?_) fun GN=>?_
   ·obtain⟨x,rfl,LK,hx2⟩:=GN;obtain⟨hx3,hx4⟩:=hox x rfl;have hxf:=hof x rfl;obtain⟨f',rfl⟩:∃f',f=f'+1:=⟨f-1,aa⟩
    obtain rfl:=LJ.val;have GP:=Ho b x a;have wO:=adz (b:=b) (a:=a) (f:=f') (d:=d) (x:=x) ⟨LK,hx2⟩;rw[Qi]at wO;refine bP ?_;refine ai rfl (agt aB hx4 ha hl) ?_;refine bz ?_;refine aj (fun Rt=>?_) fun Rt=>?_
    ·refine jU ?_;refine ae (au ag rfl aB aa (I1 aa)) rfl ?_;refine aE ?_;refine ve [0,1,2,6,7,8,9] ?_;refine aE ?_;refine av ⟨_,aa,eS b (iF b x) x,uC b x,f',oV b x a,a-x,⟨fun y hy=>by have:=lq hy;omega,fun y hy=>⟨yq hy,by have:=lq hy;omega⟩,LJ.aq0 rfl hx3,by rw[aq aa,aq aa]at wO;exact wO.symm,GP,aa⟩,rfl,bm,.refl _⟩
    ·refine bP ?_;refine ae (au ag rfl aB aa (I1 aa)) rfl ?_;refine aE ?_;refine ve [0,1,2,6,7,8,9] ?_;refine aE ?_;refine av ⟨_,aa,eS b (iF b x) x,uC b x,f',n,d,⟨fun y hy=>by have:=lq hy;omega,fun y hy=>⟨yq hy,by have:=lq hy;omega⟩,LJ.aq0 rfl hx3,by rw[aw aa,aw aa]at wO;exact wO.symm,hn,hd⟩,rfl,bm,.refl _⟩
   ·have hle:=Zd (b:=b) (a:=a) (f:=f) (d:=d) GN;rw[Qi]at hle;rw[hle];refine i_ ?_;exact⟨rfl,rfl⟩
def kV(l:List bN):cV:=l.flatMap bN.cells
theorem Jk(l:List bN)(t:bN):kV (l++[t])=kV l++bN.cells t:=by simp[kV]
theorem Yc{a f:Nat}(h:a<b.length)(h3:¬3≤(dD b a).1):findF b (f+1) a=(b.getD a 0,0,0)::findF b f (a+1):=by
 rw[findF,aq h,aw h3]
theorem Nm{a f:Nat}(h:a<b.length)(h3:3≤(dD b a).1):findF b (f+1) a=(0,((dD b a).1:Int),((dD b a).2:Int))::findF b f (a+(dD b a).1):=by
 rw[findF,aq h,aq h3]
theorem Yb{a f:Nat}(h:¬a<b.length):findF b f a=[]:=by
 cases f with
 |zero=>rfl
 |succ f=>rw[findF,aw h]
theorem Sg{a:Nat}(h:3≤(dD b a).1):a+(dD b a).1≤b.length∧(dD b a).1≤257∧(dD b a).2≤4095:=by
 obtain⟨h1,h2⟩:=pD b a;obtain⟨k1,k2,k3,k4⟩:=h2 aa;have:=(k4 ((dD b a).1-1) aa).1;exact⟨aa,h1,k3⟩
theorem alL(hb:fq B w0 F A2 c2 b)(hl:b.length≤1000000):
  a_ B w0 145 [.slice A2 b.length c2] F
   (fun r L=>∃A' c',r= .slice A' (jr b).length c'∧L= .own 170 3 A' (jr b).length c' (kV (jr b))::F):=by
 refine fw func145 50 [0] ?_;refine bD ?_;refine lK (X6 b) rfl ?_;rintro _ _ ⟨gm,es0,cl0,rfl,CA,rfl⟩;refine ae (br [(0,_)] [.map none,.slice none 0 0] [0] [_,_] rfl rfl ag) rfl ?_;refine bf fun Io=>?_;refine b8 ?_;refine aY 3 1 none ?_;refine bB ?_;refine aY 170 3 none ?_;refine bI ?_;refine aD (fun zf zL zm=>∃(a f:Nat) (acc:List bN) (es:List MapEntry) (cl:Nat) (A3:bj) (c3:Nat) (A4:bj) (c4:Nat),(a≤b.length∧b.length-a≤f∧acc++findF b f a=jr b∧Gr es b a∧acc.length≤a)∧f=zm∧Sub zf [(0,.slice A2 b.length c2),(3,bq Io),(4,.slice A4 acc.length c4),(5,ah a)]∧Wk zL (.own 170 3 A4 acc.length c4 (kV acc)::Ck Io gm es cl A3 c3 b a F)) _ ⟨0,b.length,[],es0,cl0,none,0,none,0,⟨bS _,aa,rfl,CA,gj _⟩,rfl,bm,.trans ((ef (gl (ef (ef (.refl _)))))) (ax rfl rfl (bp rfl (ax rfl rfl (.refl _))))⟩ ?_;rintro _ _ _ ⟨a,f,acc,es,cl,A3,c3,A4,c4,⟨ha,hf,mz,hk,GP⟩,rfl,hs,hp⟩;refine aU hs hp ?_;clear hs hp;refine bP ?_;refine aj (fun kH=>?_) fun kH=>?_
 ·obtain⟨f',rfl⟩:∃f',f=f'+1:=⟨f-1,aa⟩
  refine bM ?_;refine ae (au ag rfl aB aa (Da aa)) rfl ?_;refine ae (br [(0,_)] [.int .u8 0,ah 0,ah 0] [0] [_,_,_] rfl rfl ag) rfl ?_;refine bg fun g6=>?_;refine bM ?_;refine d_ (fun zf zL=>∃(tl:UInt8) (tn td:Int) (st:Nat),(1≤st∧a+st≤b.length∧findF b (f'+1) a=(tl,tn,td)::findF b f' (a+st))∧Sub zf [(0,.slice A2 b.length c2),(3,bq Io),(4,.slice A4 acc.length c4),(5,ah a),(6,bq g6),(7,ah st)]∧Wk zL (.bE g6 170 [.int .u8 (tl.toNat:Int),ah tn,ah td]:: .own 170 3 A4 acc.length c4 (kV acc)::Ck Io gm es cl A3 c3 b a F)) ?_ ?_
  ·refine bI ?_;refine ai rfl ((Ze (g:=Io) aB hk aa hl).perm ((BN (BN (BN (fT (fT (.refl _)))))))) ?_;refine dm ?_;refine ve [0,3,4,5,6,7,8,9,30] ?_;refine aE ?_;refine aj (fun y'=>?_) fun y'=>?_
   ·have apX:3≤(dD b a).1:=by omega
    obtain⟨tA,rN,LG⟩:=Sg apX;refine b8 ?_;refine ae (br [(1,_),(2,_)] [.int .u8 0,ah 0,ah 0] [1,2] [_,_,_] rfl rfl ag) rfl ?_;refine bD ?_;exact bC ⟨0,((dD b a).1:Int),((dD b a).2:Int),(dD b a).1,⟨aa,tA,Nm aa apX⟩,bm,(tD (tD (ef (ef (ef (.refl _))))))⟩
   ·refine aE ?_;exact bC ⟨b.getD a 0,0,0,1,⟨aa,aa,Yc aa aa⟩,bm,(tD (tD (ef (ef (ef (.refl _))))))⟩
  ·rintro _ _ ⟨tl,tn,td,st,⟨ac3,ac4,hft⟩,hs,hp⟩;refine aU hs hp ?_;clear hs hp;refine b8 ?_;refine rJ akL rfl rfl rfl aa cA rfl rfl rfl (fun _=>rfl) aV aa aa ?_;intro _ LU P8;refine bz ?_;refine aD (fun zf zL zm=>∃(m:Nat) (es2:List MapEntry) (cl2:Nat) (A5:bj) (c5:Nat),(m≤st∧Gr es2 b (a+m))∧st-m=zm∧Sub zf [(0,.slice A2 b.length c2),(3,bq Io),(4,.slice LU (acc.length+1) P8),(5,ah (a+m:Nat)),(39,ah st),(40,ah m)]∧Wk zL (.own 170 3 LU (acc.length+1) P8 (kV acc++[.int .u8 (tl.toNat:Int),ah tn,ah td])::Ck Io gm es2 cl2 A5 c5 b (a+m) F)) _ ⟨0,es,cl,A3,c3,⟨bS _,hk⟩,rfl,bm,(gl (gl (gl (gl (.skip (.refl _))))))⟩ ?_;rintro _ _ _ ⟨m,es2,cl2,A5,c5,⟨hm,Iw⟩,rfl,hs,hp⟩;refine aU hs hp ?_;clear hs hp;refine bB ?_;refine aj (fun GN=>?_) fun GN=>?_
   ·refine bP ?_;refine ba ao4 rfl ((an' (g:=Io) aB Iw aa hl).perm ((l0 (l0 (l0 (fT (.refl _))))))) rfl ?_;rintro _ _ ⟨arP,arG,A45,c45,rfl,aqe,cJ⟩;obtain rfl:=cJ.symm;refine c_ ?_;refine av ⟨_,aa,m+1,arP,arG,A45,c45,⟨aa,aqe⟩,rfl,bm,(tD (ef (ef (ef (.refl _)))))⟩
   ·obtain rfl:m=st:=by omega
    have wR:(acc++[(tl,tn,td)]).length=acc.length+1:=by simp
    refine bI ?_;refine av ⟨_,aa,a+m,f',acc++[(tl,tn,td)],es2,cl2,A5,c5,LU,P8,⟨aa,aa,by rw[←mz,hft];simp[bV],Iw,aa⟩,rfl,bm,ax aa (by rw[Jk];rfl) (.refl _)⟩
 ·have xn:=Yb (b:=b) (a:=a) (f:=f) aa;rw[xn,gk]at mz;subst mz;refine cD ?_;refine ao (L':=.own 170 3 A4 (jr b).length c4 (kV (jr b))::F) ((ef (.skip (.skip (.skip (.refl _)))))) ?_;refine aE ?_;exact⟨A4,c4,rfl,rfl⟩
end
section
variable{gm:Nat}{l:List bN}
def Jh(l:List bN)(k:Nat):bN:=l.getD k (0,0,0)
theorem FM{k:Nat}(h:k<l.length):((kV l).drop (k*3)).take 3=bN.cells (Jh l k):=by
 induction l generalizing k with
 |nil=>simp at h
 |cons t r ih=>
  cases k with
  |zero=>simp[kV,bN.cells,Jh]
  |succ k=>
   have:=ih (k:=k) nu;have e:kV (t::r)=bN.cells t++kV r:=by simp[kV]
   rw[e,j9,sQ (k*3) 3,List.drop_append,mj (by simp[bN.cells]),nU];simpa[bN.cells,Jh]using this
theorem IY(most:Int){out:al}{t:bN}{r:List bN}(h:¬fa t):ic most out (t::r)=([],7):=by rw[ic,aq h]
theorem IZ(most:Int){out:al}{t:bN}{r:List bN}(h:fa t)(h2:(out.length:Int)<t.2.2):ic most out (t::r)=([],8):=by rw[ic,aw (fun k=>k h),aq h2]
theorem EY(most:Int){out:al}{t:bN}{r:List bN}(h:fa t)(h2:¬(out.length:Int)<t.2.2)(h3:most-out.length<max 1 t.2.1):ic most out (t::r)=([],6):=by rw[ic,aw (fun k=>k h),aw h2,aq h3]
theorem I0(most:Int){out:al}{t:bN}{r:List bN}(h:fa t)(h2:¬(out.length:Int)<t.2.2)(h3:¬most-out.length<max 1 t.2.1)(h4:t.2.1=0):ic most out (t::r)=ic most (out++[t.1]) r:=by
 rw[ic,aw (fun k=>k h),aw h2,aw h3,aq h4]
theorem EW(most:Int){out:al}{t:bN}{r:List bN}(h:fa t)(h2:¬(out.length:Int)<t.2.2)(h3:¬most-out.length<max 1 t.2.1)(h4:¬t.2.1=0):ic most out (t::r)=ic most (lN t.2.2.toNat t.2.1.toNat out) r:=by
 rw[ic,aw (fun k=>k h),aw h2,aw h3,aw h4]
theorem Dq(d:Nat):∀(n:Nat) (out:al),lN d (n+1) out=lN d n out++[(lN d n out).getD ((lN d n out).length-d) 0]
 |0,out=>rfl
 |n+1,out=>by rw[lN,Dq d n,lN]
theorem EG{tl:UInt8}{tn td:Int}(h:fa (tl,tn,td))(h0:¬tn=0):tl=0∧3≤tn∧tn≤257∧1≤td∧td≤4095:=by
 unfold fa at h
 rwa [aw h0]at h
def WV(l:List bN):Prop:=∀t∈l,(-9223372036854775808≤t.2.1∧t.2.1≤9223372036854775807)∧-9223372036854775808≤t.2.2∧t.2.2≤9223372036854775807
theorem anj(hb:aL B w0 F 3 (.slice A l.length c) l.length (kV l))(hl:l.length≤1000000)(hm1:-9223372036854775808≤most)(vC:most≤1000000)(kT:WV l):
  a_ B w0 328 [.slice A l.length c,ah most] F
   (fun r L=>∃A' c',r= .tuple #[.slice A' (kE l most).1.length c',ah (kE l most).2]∧L= .own 5 1 A' (kE l most).1.length c' (bv (kE l most).1)::F):=by
 refine fw func328 62 [0,1] ?_;refine c_ ?_;refine aj (fun jB=>?_) fun jB=>?_
 ·have e:kE l most=([],13):=aq aa;rw[e];refine bM ?_;refine aC 5 1 none ?_;refine aE ?_;exact⟨none,0,rfl,rfl⟩
 ·have mG:kE l most=ic most [] l:=aw aa;refine bH ?_;refine aY 5 1 none ?_;refine c_ ?_;refine aD (fun zf zL zm=>∃(k:Nat) (out:al) (A6:bj) (c6:Nat),(k≤l.length∧ic most out (l.drop k)=kE l most∧(out.length:Int)≤most)∧l.length-k=zm∧Sub zf [(1,ah most),(6,.slice A6 out.length c6),(11,.slice A l.length c),(12,ah l.length),(13,ah k)]∧Wk zL (.own 5 1 A6 out.length c6 (bv out)::F)) _ ⟨0,[],none,0,⟨bS _,mG.symm,bO⟩,rfl,bm,.refl _⟩ ?_;rintro _ _ _ ⟨k,out,A6,c6,⟨hk,xp,Kl⟩,rfl,hs,hp⟩;refine aU hs hp ?_;clear hs hp;refine bB ?_;refine aj (fun jC=>?_) fun jC=>?_
  ·obtain⟨⟨tl,tn,td⟩,ht⟩:∃t,t=Jh l k:=⟨_,rfl⟩
   have hd:l.drop k=(tl,tn,td)::l.drop (k+1):=by rw[ht];exact dw aa _
   have htv:=FM (l:=l) (k:=k) aa;rw[←ht]at htv;rw[hd]at xp;obtain⟨⟨ho1,ho2⟩,ho3,ho4⟩:=kT (tl,tn,td) (by rw[ht];exact bh aa _);have ho1:-9223372036854775808≤tn:=ho1;have ho2:tn≤9223372036854775807:=ho2;have ho3:-9223372036854775808≤td:=ho3;have ho4:td≤9223372036854775807:=ho4;refine bD ?_;refine ae (dg 3 ag rfl aB aa [.int .u8 (tl.toNat:Int),ah tn,ah td] (so htv) rfl) rfl ?_;refine bg fun g8=>?_;refine bM ?_;refine ai rfl (adG (tl,tn,td)) ?_;refine b8 ?_;refine aj (fun iy=>?_) fun iy=>?_
   ·have ar4:¬fa (tl,tn,td):=iy;rw[IY most ar4]at xp;rw[←xp];refine dX ?_;refine aC 5 1 none ?_;refine ao (L':=.own 5 1 none 0 0 []::F) ((ef (.skip (.skip (.refl _))))) ?_;refine aE ?_;exact⟨none,0,rfl,rfl⟩
   ·have fJ:fa (tl,tn,td):=j0.1 iy;refine bz ?_;refine aj (fun lV=>?_) fun lV=>?_
    ·rw[IZ most fJ lV]at xp;rw[←xp];refine b8 ?_;refine ve [4,5] ?_;refine bP ?_;refine aC 5 1 none ?_;refine ao (L':=.own 5 1 none 0 0 []::F) ((ef (.skip (.skip (.refl _))))) ?_;refine aE ?_;exact⟨none,0,rfl,rfl⟩
    ·refine b8 ?_;refine ae (JW rfl rfl) rfl ?_;refine bB ?_;refine ve [1,6,8,11,12,13,27] ?_;refine aE ?_;refine aj (fun ku=>?_) fun ku=>?_
     ·rw[EY most fJ lV ku]at xp;rw[←xp];refine dX ?_;refine aC 5 1 none ?_;refine ao (L':=.own 5 1 none 0 0 []::F) ((ef (.skip (.skip (.refl _))))) ?_;refine aE ?_;exact⟨none,0,rfl,rfl⟩
     ·refine dm ?_;refine aj (fun Gh=>?_) fun Gh=>?_
      ·rw[I0 most fJ lV ku Gh]at xp;have wR:(out++[tl]).length=out.length+1:=by simp
       refine bI ?_;refine dK cN rfl rfl rfl rfl rfl (fun _=>rfl) aV aa aa ?_;intro _ Lu c43;refine dm ?_;refine av ⟨_,aa,k+1,out++[tl],Lu,c43,⟨aa,xp,by rw[aX];simp;omega⟩,rfl,bm,.skip (ax ak Bm (.refl _))⟩
      ·rw[EW most fJ lV ku Gh]at xp;obtain⟨u5,vZ,hr3,hr4,hr5⟩:=EG fJ Gh;refine bz ?_;refine aD (fun zf zL zm=>∃(m:Nat) (A7:bj) (c7:Nat),((m:Int)≤tn)∧tn.toNat-m=zm∧Sub zf [(1,ah most),(6,.slice A7 (lN td.toNat m out).length c7),(8,bq g8),(11,.slice A l.length c),(12,ah l.length),(13,ah k),(45,ah tn),(46,ah m)]∧Wk zL (.bE g8 170 [.int .u8 (tl.toNat:Int),ah tn,ah td]:: .own 5 1 A7 (lN td.toNat m out).length c7 (bv (lN td.toNat m out))::F)) _ ⟨0,A6,c6,aa,rfl,bm,.refl _⟩ ?_;rintro _ _ _ ⟨m,A7,c7,hm,rfl,hs,hp⟩;refine aU hs hp ?_;clear hs hp;refine bB ?_;refine aj (fun LD=>?_) fun LD=>?_
       ·have tz:=oH td.toNat m out;have tT:=Dq td.toNat m out;have hcm:=oH td.toNat (m+1) out;refine cD ?_;refine ae (aG (i:=(lN td.toNat m out).length-td.toNat) underlying27 ag rfl rfl aa aa aB) rfl ?_;refine ae (au ag rfl aB aa (Da (k:=(lN td.toNat m out).length-td.toNat) aa)) rfl ?_;refine dK cN rfl rfl rfl rfl rfl (fun _=>rfl) aV aa aa ?_;intro _ A58 c58;refine bM ?_;refine av ⟨_,aa,m+1,A58,c58,aa,rfl,bm,bp rfl (ax aa (by rw[tT];simp[bv]) (.refl _))⟩
       ·obtain rfl:tn=m:=by omega
        have tz:=oH td.toNat m out;rw[nC]at xp;refine bz ?_;refine av ⟨_,aa,k+1,lN td.toNat m out,A7,c7,⟨aa,xp,aa⟩,rfl,bm,.skip (.refl _)⟩
  ·rw[mj aa,ic]at xp;rw[←xp];refine dX ?_;exact⟨A6,c6,rfl,rfl⟩
end
theorem N7:type_of% @List.singleton_append:= @List.singleton_append
def Z4(D:bc)(i j:Nat):bc:=(D.set i (D.getD j 0)).set j (D.getD i 0)
theorem ai7(D:bc)(i j:Nat):(Z4 D i j).length=D.length:=by simp[Z4]
theorem tO(P:bc)(x:Nat)(Q:bc):(P++x::Q).getD P.length 0=x:=by simp[bk]
theorem Pe(P:bc)(x y:Nat)(Q:bc):(P++x::Q).set P.length y=P++y::Q:=by simp
theorem S_(P:bc)(x:Nat)(M:bc)(y:Nat)(Q:bc){i j:Nat}(hi:i=P.length)(hj:j=P.length+1+M.length):Z4 (P++x::(M++y::Q)) i j=P++y::(M++x::Q):=by
 subst hi;subst hj;have e:P++x::(M++y::Q)=(P++x::M)++y::Q:=by simp
 have e2:P++y::(M++y::Q)=(P++y::M)++y::Q:=by simp
 have hl:P.length+1+M.length=(P++x::M).length:=by simp;omega
 have rN:P.length+1+M.length=(P++y::M).length:=by simp;omega
 unfold Z4;rw[tO];have h1:(P++x::(M++y::Q)).getD (P.length+1+M.length) 0=y:=by rw[e,hl,tO]
 rw[h1,Pe,e2,rN,Pe];simp
theorem ae5(D:bc){i j:Nat}(h:i≠j):Z4 D i j=Z4 D j i:=by
 unfold Z4;rw[List.set_comm _ _ h]
theorem anF(P:bc)(x:Nat)(M:bc)(y:Nat)(Q:bc){i j:Nat}(hi:i=P.length)(hj:j=P.length+1+M.length):Z4 (P++x::(M++y::Q)) j i=P++y::(M++x::Q):=by
 rw[ae5 _ aa,S_ P x M y Q hi hj]
def Z5(D:bc)(a b:Nat):Nat→bc
 |0=>D
 |i+1=>Z4 (Z5 D a b i) (a+i) (b+i)
theorem WL(D:bc)(a b:Nat):∀i,(Z5 D a b i).length=D.length
 |0=>rfl
 |i+1=>by rw[Z5,ai7,WL D a b i]
theorem WK(P X M Y Q:bc){a b:Nat}(ha:a=P.length)(hb:b=P.length+X.length+M.length)(hl:X.length=Y.length):∀i,i≤X.length→Z5 (P++(X++(M++(Y++Q)))) a b i=P++(Y.take i++(X.drop i++(M++(X.take i++(Y.drop i++Q)))))
 |0,_=>by simp[Z5]
 |i+1,h=>by
  rw[Z5,WK P X M Y Q ha hb hl i aa,dw (l:=X) aa 0,dw (l:=Y) (k:=i) aa 0,aZ (l:=X) aa 0,aZ (l:=Y) (k:=i) aa 0];have hyl:(Y.take i).length=i:=by rw[eV];omega
  have Ql:(X.take i).length=i:=by rw[eV];omega
  have:=S_ (P++Y.take i) (X.getD i 0) (X.drop (i+1)++(M++X.take i)) (Y.getD i 0) (Y.drop (i+1)++Q) (i:=a+i) (j:=b+i) (by rw[aX,hyl,ha]) (by simp only[aX,iN,hyl,Ql];omega);simp only[bV,nE,nU,N7]at this⊢;exact this
theorem K9(P X M Y Q:bc){a b n:Nat}(ha:a=P.length)(hb:b=P.length+X.length+M.length)(hl:X.length=Y.length)(hn:n=X.length):Z5 (P++(X++(M++(Y++Q)))) a b n=P++(Y++(M++(X++Q))):=by
 rw[WK P X M Y Q ha hb hl n aa,fD aa,mj aa,fD aa,mj aa];simp
theorem fW{o:Nat→Nat}{l:bc}{x:Nat}:x∈cW o l↔x∈l:=(gE o l).mem_iff
theorem gX(o:Nat→Nat)(l:bc):(cW o l).length=l.length:=(gE o l).length_eq
abbrev Ri(l:bc):Prop:=l.Pairwise (· < ·)
theorem Ri.nd{l:bc}(h:Ri l):l.Nodup:=h.imp fun h=>by omega
theorem tx.pI{o:Nat→Nat}{a l:bc}(h:tx o a)(hl:l.Nodup)(hm:∀x,x∈a↔x∈l):a=cW o l:=
 tx.ext h (lx o hl) fun x=>(hm x).trans fW.symm
theorem adi{o:Nat→Nat}{S:bc}{x k:Nat}(hs:tx o S)(h1:∀y∈S.take k,tB o y x)(h2:∀y∈S.drop k,tB o x y):tx o (S.take k++x::S.drop k):=by
 refine sW.2 ⟨hs.sublist (Ky k S),kB.2 ⟨h2,hs.sublist (List.drop_sublist k S)⟩,fun y hy z hz=>?_⟩;rcases fm.1 hz with e|e
 ·subst e;exact h1 y hy
 ·exact rs (h1 y hy) (h2 z e)
theorem WI{o:Nat→Nat}{S:bc}(hs:tx o S){k:Nat}(hk:k<S.length){x:Nat}(h:tB o (S.getD k 0) x):∀y∈S.take (k+1),tB o y x:=fun y hy=>by
 obtain⟨i,hi,rfl⟩:=j8 hy;rw[eV]at hi;rw[Ep];rw[bk,fo hk,vG]at h;by_cases e:i=k
 ·subst e;exact h
 ·exact rs (rk.1 hs i k aa hk aa) h
theorem amw{o:Nat→Nat}{R:bc}{x k:Nat}(hr:Ri (R++[x]))(h1:∀y∈(cW o R).take k,tB o y x)(h2:∀y∈(cW o R).drop k,tB o x y):(cW o R).take k++x::(cW o R).drop k=cW o (R++[x]):=by
 have hn:R.Nodup:=(hr.sublist (vH R [x])).imp fun h=>by omega
 refine tx.pI (adi (lx o hn) h1 h2) hr.nd fun y=>?_;have e:y∈cW o R↔y∈(cW o R).take k∨y∈(cW o R).drop k:=by
  conv=>lhs;rw[←jO k (cW o R)]
  exact dy
 rw[dy,fm,dy,lE,←fW (o:=o) (l:=R),e];constructor
 ·rintro(h|h|h)
  ·exact .inl (.inl h)
  ·exact .inr h
  ·exact .inl (.inr h)
 ·rintro((h|h)|h)
  ·exact .inl h
  ·exact .inr (.inr h)
  ·exact .inr (.inl h)
def wC(o:Nat→Nat)(bs:Nat):Nat→bc→bc
 |0,R=>cW o R
 |f+1,R=>if R.length≤bs then cW o R else cW o (R.take bs)++wC o bs f (R.drop bs)
theorem Hz(o:Nat→Nat){bs:Nat}(hb:1≤bs):∀(f g:Nat) (R:bc),R.length≤f→R.length≤g→wC o bs f R=wC o bs g R
 |0,0,R,_,_=>rfl
 |0,g+1,R,h,_=>by rw[wC,wC,aq aa]
 |f+1,0,R,_,h=>by rw[wC,wC,aq aa]
 |f+1,g+1,R,h1,h2=>by
  rw[wC,wC];split
  ·rfl
  ·rw[Hz o hb f g (R.drop bs) kR kR]
def wB(o:Nat→Nat)(bs:Nat)(R:bc):bc:=wC o bs R.length R
theorem mS{o:Nat→Nat}{bs:Nat}{R:bc}(h:R.length≤bs):wB o bs R=cW o R:=by
 unfold wB;cases e:R.length with
 |zero=>rfl
 |succ f=>rw[wC,aq h]
theorem qS{o:Nat→Nat}{bs:Nat}{R:bc}(hb:1≤bs)(h:bs≤R.length):wB o bs R=cW o (R.take bs)++wB o bs (R.drop bs):=by
 by_cases e:R.length=bs
 ·rw[mS aa,fD aa,mj aa];simp[wB,wC,cW]
 ·conv=>lhs;rw[wB,show R.length=(R.length-1)+1 by omega]
  rw[wC,aw aa,wB];congr 1;exact Hz o hb _ _ _ kR aa
theorem Mn(o:Nat→Nat)(bs:Nat):∀(f:Nat) (R:bc),(wC o bs f R).length=R.length
 |0,R=>gX o R
 |f+1,R=>by
  rw[wC];split
  ·exact gX o R
  ·rw[aX,gX,Mn o bs f,eV,iN];omega
theorem abe(o:Nat→Nat)(bs:Nat)(R:bc):(wB o bs R).length=R.length:=Mn o bs _ R
theorem Pm{o:Nat→Nat}{c1 c2:bc}(h:(c1++c2).Nodup):cW o (cW o c1++cW o c2)=cW o (c1++c2):=by
 have hn:(cW o c1++cW o c2).Nodup:=((List.Perm.append (gE o c1) (gE o c2)).nodup_iff).2 h;refine tx.pI (lx o hn) h fun x=>?_;rw[fW,dy,dy,fW,fW]
theorem al4{o:Nat→Nat}{U1 U2 V1 V2:bc}(hn:((U1++U2)++(V1++V2)).Nodup)(h:∀x∈U1++V1,∀y∈U2++V2,tB o x y):cW o (U1++V1)++cW o (U2++V2)=cW o ((U1++U2)++(V1++V2)):=by
 have hp:((U1++U2)++(V1++V2)).Perm ((U1++V1)++(U2++V2)):=by
  rw[bV,bV];refine List.Perm.append_left U1 ?_;rw[←bV,←bV];exact List.Perm.append_right V2 IK
 have tW:=hp.nodup_iff.1 hn;obtain⟨n1,n2,_⟩:=List.nodup_append.1 tW;refine tx.pI (sW.2 ⟨lx o n1,lx o n2,fun x hx y hy=>h x (fW.1 hx) y (fW.1 hy)⟩) hn fun x=>?_;rw[dy,fW,fW,←dy];exact hp.symm.mem_iff
theorem Pk{o:Nat→Nat}{l:bc}(h:tx o l)(hn:l.Nodup):cW o l=l:=(tx.pI h hn fun _=>Iff.rfl).symm
end Go.Proofs.YtaodmbolhoafcaaGreatDoor
