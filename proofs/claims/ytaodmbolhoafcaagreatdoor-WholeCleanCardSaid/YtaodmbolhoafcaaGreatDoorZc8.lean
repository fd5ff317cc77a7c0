/-
  Texts of one proof, joined: part 8. No condition.
-/
import Derived.Test.YtaodmbolhoafcaaGreatDoorZc7
import Derived.DeepKeys4
import Derived.WideKeyArr
open Go.RowKit Go.Proofs.Tryz
namespace Go.Proofs.YtaodmbolhoafcaaGreatDoor
set_option linter.unusedVariables false
set_option linter.unusedSimpArgs false
set_option maxRecDepth 20000
variable{B:Nat}{w0:World}{F L M:aP}{A A2 A3:bj}{n c c2 c3 g:Nat}{l b:al}{es:List MapEntry}{cl:Nat}{most:Int}
section
theorem IE:type_of% @List.perm_append_comm:= @List.perm_append_comm
def fH(k:Nat)(m:al)(i j:Nat):UInt8:=m.getD (i*k+j) 0
def jf(k:Nat)(m:al)(i:Nat):al:=(m.drop (i*k)).take k
def oy(k:Nat)(m:al)(i:Nat)(r:al):al:=m.take (i*k)++(r++m.drop (i*k+k))
theorem fM{n k i:Nat}(h:i<n):i*k+k≤n*k:=by
 have:=ow k (show i+1≤n by omega);rw[mH,rh]at this;exact this
theorem eW{n k i:Nat}{m:al}(hm:m.length=n*k)(hi:i<n):(jf k m i).length=k:=by
 have:=fM (k:=k) hi;unfold jf;rw[eS,iG];omega
theorem lq{k j:Nat}(m:al)(i:Nat)(hj:j<k):(jf k m i).getD j 0=fH k m i j:=by
 unfold jf fH;simp only[bk];rw[Vp hj,k_7]
theorem rr{n k i:Nat}{m r:al}(hm:m.length=n*k)(hi:i<n)(hr:r.length=k):(oy k m i r).length=n*k:=by
 have:=fM (k:=k) hi;unfold oy;simp only[aY,eS,iG];omega
theorem xy{n k i i' j:Nat}{m r:al}(hm:m.length=n*k)(hi:i<n)(P6:i'<n)(hj:j<k)(hr:r.length=k):fH k (oy k m i r) i' j=if i'=i then r.getD j 0 else fH k m i' j:=by
 have h1:=fM (k:=k) hi;have h2:=fM (k:=k) P6;unfold fH oy;simp only[bk];by_cases h:i'=i
 ·subst h;rw[ao rfl,sO bR,z8 bR];congr 2;simp;omega
 ·rw[aw h];by_cases h3:i'<i
  ·have h4:=fM (k:=k) h3;rw[z8 bR,Vp aa]
  ·have h4:=fM (k:=k) (show i<i' by omega);rw[sO bR,sO bR,k_7];congr 2;simp;omega
def pA(k:Nat)(m:al)(a i:Nat):al:=oy k (oy k m a (jf k m i)) i (jf k m a)
def jV(k:Nat)(m:al)(a:Nat)(c:UInt8):al:=oy k m a ((jf k m a).map (gm c))
def qR(s:al)(c:UInt8)(b:al):al:=List.zipWith (fun x y=>x ^^^ gm c y) s b
def rp(k:Nat)(m:al)(q:Nat)(c:UInt8)(a:Nat):al:=oy k m q (qR (jf k m q) c (jf k m a))
section
variable{n k a i q r j:Nat}{m:al}{c:UInt8}
theorem oJ(hm:m.length=n*k)(ha:a<n)(hi:i<n):(pA k m a i).length=n*k:=rr (rr hm ha (eW hm hi)) hi (eW hm ha)
theorem mZ(hm:m.length=n*k)(ha:a<n):(jV k m a c).length=n*k:=rr hm ha (by rw[eK];exact eW hm ha)
theorem qS{s b:al}(h:s.length=b.length):(qR s c b).length=s.length:=by unfold qR;rw[List.length_zipWith];omega
theorem rq(hm:m.length=n*k)(ha:a<n)(hq:q<n):(rp k m q c a).length=n*k:=
 rr hm hq (by rw[qS (by rw[eW hm hq,eW hm ha])];exact eW hm hq)
theorem oW(hm:m.length=n*k)(ha:a<n)(hi:i<n)(hr:r<n)(hj:j<k):fH k (pA k m a i) r j=if r=i then fH k m a j else if r=a then fH k m i j else fH k m r j:=by
 unfold pA;rw[xy (rr hm ha (eW hm hi)) hi hr hj (eW hm ha),xy hm ha hr hj (eW hm hi),lq _ _ hj,lq _ _ hj]
theorem qL(hm:m.length=n*k)(ha:a<n)(hr:r<n)(hj:j<k):fH k (jV k m a c) r j=if r=a then gm c (fH k m a j) else fH k m r j:=by
 unfold jV;rw[xy hm ha hr hj (by rw[eK];exact eW hm ha)];have hl:=eW hm ha;split
 ·rw[←lq m a hj];simp only[bk,jr];rw[fm aa];rfl
 ·rfl
theorem Nk{s b:al}{j:Nat}(h1:j<s.length)(h2:j<b.length):(qR s c b).getD j 0=s.getD j 0 ^^^ gm c (b.getD j 0):=by
 unfold qR;simp only[bk,List.getElem?_zipWith];rw[fm h1,fm h2];rfl
theorem rS(hm:m.length=n*k)(ha:a<n)(hq:q<n)(hr:r<n)(hj:j<k):fH k (rp k m q c a) r j=if r=q then fH k m q j ^^^ gm c (fH k m a j) else fH k m r j:=by
 have h1:=eW hm ha;have h2:=eW hm hq;unfold rp;rw[xy hm hq hr hj (by rw[qS aa];exact h2),Nk aa aa,lq _ _ hj,lq _ _ hj]
end
def vE(k:Nat)(m:al)(Lt:Nat):Nat→Nat→Nat
 |0,i=>i
 |f+1,i=>if fH k m i Lt=0 then vE k m Lt f (i+1) else i
def ku(n a:Nat):Nat→Nat→al×al→al×al
 |0,_,p=>p
 |f+1,q,p=>ku n a f (q+1) (if q≠a∧fH n p.1 q a≠0 then (rp n p.1 q (fH n p.1 q a) a,rp n p.2 q (fH n p.1 q a) a) else p)
def wA(n a:Nat)(p:al×al):Nat:=vE n p.1 a (n-a) a
def JL(n a:Nat)(p:al×al):al×al:=(pA n p.1 a (wA n a p),pA n p.2 a (wA n a p))
def ane(n a:Nat)(p:al×al):al×al:=(jV n p.1 a (kI (fH n p.1 a a)),jV n p.2 a (kI (fH n p.1 a a)))
def QC(n a:Nat)(p:al×al):al×al:=ku n a n 0 (ane n a (JL n a p))
def rT(n a:Nat)(p:al×al):Bool×al×al:=if wA n a p=n then (false,p) else (true,QC n a p)
def Ej(n:Nat):Nat→Nat→al×al→Option (al×al)
 |0,_,p=>some p
 |f+1,i,p=>if (rT n i p).1=true then Ej n f (i+1) (rT n i p).2 else none
def qe(r k:Nat)(f:Nat→Nat→UInt8):al:=(List.range r).flatMap fun i=>(List.range k).map fun j=>f i j
def NG(n:Nat):al:=qe n n fun i j=>if i=j then 1 else 0
def ahH(n:Nat)(m:al):Option (al):=(Ej n n 0 (m,NG n)).map (·.2)
theorem je(r k:Nat)(f:Nat→Nat→UInt8):(qe r k f).length=r*k:=by
 unfold qe;induction r with
 |zero=>simp
 |succ r ih=>rw[lj,ua,aY,ih,mH];simp
theorem EE(r k:Nat)(f:Nat→Nat→UInt8):qe (r+1) k f=qe r k f++(List.range k).map fun j=>f r j:=by
 unfold qe;rw[lj,ua];simp
theorem Dg{r k:Nat}{f:Nat→Nat→UInt8}{i j:Nat}(hi:i<r)(hj:j<k):fH k (qe r k f) i j=f i j:=by
 induction r with
 |zero=>omega
 |succ r ih=>
  rw[EE];unfold fH;rw[bk];by_cases h:i<r
  ·have h1:=fM (k:=k) h;rw[z8 (by rw[je];omega),←bk];exact ih h
  ·obtain rfl:i=r:=by omega
   rw[sO (by rw[je];omega),je,show i*k+j-i*k=j by omega];simp[hj]
def LR(n:Nat)(m' m:al):Prop:=∀r,r<n→∃(α β:UInt8) (p q:Nat),p<n∧q<n∧∀j,j<n→fH n m' r j=gm α (fH n m p j) ^^^ gm β (fH n m q j)
def Jo(n:Nat)(m' m b' b:al):Prop:=∀r,r<n→∃(α β:UInt8) (p q:Nat),p<n∧q<n∧(∀j,j<n→fH n m' r j=gm α (fH n m p j) ^^^ gm β (fH n m q j))∧∀j,j<n→fH n b' r j=gm α (fH n b p j) ^^^ gm β (fH n b q j)
def Ker(n:Nat)(m:al):Prop:=∀v:Nat→UInt8,(∀i,i<n→xs n (fun t=>gm (fH n m i t) (v t))=0)→∀j,j<n→v j=0
theorem LR.ker{n:Nat}{m m':al}(h:LR n m m')(hk:Ker n m):Ker n m':=fun v hv=>hk v fun i hi=>by
 obtain⟨α,β,p,q,hp,hq,e⟩:=h i hi;have e2:xs n (fun t=>gm (fH n m i t) (v t))=xs n fun t=>gm α (gm (fH n m' p t) (v t)) ^^^ gm β (gm (fH n m' q t) (v t)):=pL fun t ht=>by
  rw[e t ht,D3,jD,jD]
 rw[e2,Lj,F3,F3,hv p hp,hv q hq,jE,jE];rfl
structure Gi(n a:Nat)(m0:al)(p:al×al):Prop where
 lm:p.1.length=n*n
 lb:p.2.length=n*n
 left:∀i,i<n→∀j,j<n→xs n (fun t=>gm (fH n p.2 i t) (fH n m0 t j))=fH n p.1 i j
 ker:Ker n p.1
 uc:∀i,i<n→∀j,j<a→fH n p.1 i j=if i=j then 1 else 0
theorem Ah{n:Nat}{m0 m b m' b':al}(h:Jo n m' m b' b)(hl:∀i,i<n→∀j,j<n→xs n (fun t=>gm (fH n b i t) (fH n m0 t j))=fH n m i j):
  ∀i,i<n→∀j,j<n→xs n (fun t=>gm (fH n b' i t) (fH n m0 t j))=fH n m' i j:=fun i hi j hj=>by
 obtain⟨α,β,p,q,hp,hq,e1,e2⟩:=h i hi;have e3:xs n (fun t=>gm (fH n b' i t) (fH n m0 t j))=xs n fun t=>gm α (gm (fH n b p t) (fH n m0 t j)) ^^^ gm β (gm (fH n b q t) (fH n m0 t j)):=pL fun t ht=>by
  rw[e2 t ht,D3,jD,jD]
 rw[e3,Lj,F3,F3,hl p hp j hj,hl q hq j hj,e1 j hj]
theorem akx{n a i r:Nat}(ha:a<n)(hi:i<n)(hr:r<n):(if r=i then a else if r=a then i else r)<n:=by
 split
 ·exact ha
 ·split<;>assumption
theorem aiS{n a i:Nat}{m:al}(hm:m.length=n*n)(ha:a<n)(hi:i<n):LR n m (pA n m a i):=fun r hr=>by
 refine⟨1,0,if r=i then a else if r=a then i else r,r,akx ha hi hr,hr,fun j hj=>?_⟩;rw[jw,iS,fi];by_cases h1:r=i
 ·subst h1;rw[ao rfl,oW hm ha hi ha hj];by_cases h2:a=r
  ·subst h2;rw[ao rfl]
  ·rw[aw h2,ao rfl]
 ·rw[aw h1];by_cases h2:r=a
  ·subst h2;rw[ao rfl,oW hm ha hi hi hj,ao rfl]
  ·rw[aw h2,oW hm ha hi hr hj,aw h1,aw h2]
theorem aeR{n a i:Nat}{m b:al}(hm:m.length=n*n)(hb:b.length=n*n)(ha:a<n)(hi:i<n):Jo n (pA n m a i) m (pA n b a i) b:=fun r hr=>by
 refine⟨1,0,if r=i then a else if r=a then i else r,r,akx ha hi hr,hr,fun j hj=>?_,fun j hj=>?_⟩
 ·rw[jw,iS,fi,oW hm ha hi hr hj];split
  ·rfl
  ·split<;>rfl
 ·rw[jw,iS,fi,oW hb ha hi hr hj];split
  ·rfl
  ·split<;>rfl
theorem aez{n a:Nat}{m:al}{c:UInt8}(hm:m.length=n*n)(ha:a<n)(hc:c≠0):LR n m (jV n m a c):=fun r hr=>by
 refine⟨if r=a then kI c else 1,0,r,r,hr,hr,fun j hj=>?_⟩;rw[iS,fi,qL hm ha hr hj];split
 ·rename_i h;subst h;rw[←jD,D1 hc,jw]
 ·rw[jw]
theorem ZF{n a:Nat}{m b:al}{c:UInt8}(hm:m.length=n*n)(hb:b.length=n*n)(ha:a<n):Jo n (jV n m a c) m (jV n b a c) b:=fun r hr=>by
 refine⟨if r=a then c else 1,0,r,r,hr,hr,fun j hj=>?_,fun j hj=>?_⟩
 ·rw[iS,fi,qL hm ha hr hj];split
  ·rename_i h;subst h;rfl
  ·rw[jw]
 ·rw[iS,fi,qL hb ha hr hj];split
  ·rename_i h;subst h;rfl
  ·rw[jw]
theorem akR{n a q:Nat}{m:al}{c:UInt8}(hm:m.length=n*n)(ha:a<n)(hq:q<n)(r8:q≠a):LR n m (rp n m q c a):=fun r hr=>by
 refine⟨1,if r=q then c else 0,r,a,hr,ha,fun j hj=>?_⟩;rw[jw,rS hm ha hq hr hj,rS hm ha hq ha hj,aw (Ne.symm r8)];split
 ·rename_i h;subst h;rw[sQ,iz,fi]
 ·rw[iS,fi]
theorem agc{n a q:Nat}{m b:al}{c:UInt8}(hm:m.length=n*n)(hb:b.length=n*n)(ha:a<n)(hq:q<n):Jo n (rp n m q c a) m (rp n b q c a) b:=fun r hr=>by
 refine⟨1,if r=q then c else 0,r,a,hr,ha,fun j hj=>?_,fun j hj=>?_⟩
 ·rw[jw,rS hm ha hq hr hj];split
  ·rename_i h;subst h;rfl
  ·rw[iS,fi]
 ·rw[jw,rS hb ha hq hr hj];split
  ·rename_i h;subst h;rfl
  ·rw[iS,fi]
theorem rv(k:Nat)(m:al)(Lt:Nat):∀(f i:Nat),i≤vE k m Lt f i∧vE k m Lt f i≤i+f∧(vE k m Lt f i<i+f→fH k m (vE k m Lt f i) Lt≠0)∧∀r,i≤r→r<vE k m Lt f i→fH k m r Lt=0
 |0,i=>⟨gj _,gj _,fun h=>absurd h (by show¬i<i+0;omega),fun r h1 h2=>absurd h2 (by show¬r<i;omega)⟩
 |f+1,i=>by
  rw[vE];split
  ·rename_i h;obtain⟨h1,h2,h3,h4⟩:=rv k m Lt f (i+1);refine⟨aa,aa,fun h'=>h3 aa,fun r hr xm=>?_⟩;by_cases e:r=i
   ·rw[e];exact h
   ·exact h4 r aa xm
  ·rename_i h;exact⟨gj _,aa,fun _=>h,fun r h1 h2=>absurd h2 aa⟩
theorem DM{n a:Nat}{m0:al}(ha:a<n):∀(f q:Nat) (p:al×al),q+f=n→Gi n a m0 p→fH n p.1 a a=1→(∀r,r<q→r≠a→fH n p.1 r a=0)→Gi n (a+1) m0 (ku n a f q p)
 |0,q,p,hq,g,h1,hz=>by
  refine⟨g.lm,g.lb,g.left,g.ker,fun i hi j hj=>?_⟩;by_cases e:j=a
  ·subst e;by_cases e2:i=j
   ·subst e2;rw[ao rfl];exact h1
   ·rw[aw e2];exact hz i aa e2
  ·exact g.uc i hi j aa
 |f+1,q,p,hq,g,h1,hz=>by
  rw[ku];split
  ·rename_i h;obtain⟨r8,hc⟩:=h;have hqn:q<n:=by omega
   have Cc:∀j,j<a→fH n p.1 a j=0:=fun j hj=>by rw[g.uc a ha j hj,aw aa]
   refine DM ha f (q+1) _ aa ⟨rq g.lm ha hqn,rq g.lb ha hqn,Ah (agc g.lm g.lb ha hqn) g.left,(akR g.lm ha hqn r8).ker g.ker,fun i hi j hj=>?_⟩ ?_ ?_
   ·show fH n (rp n p.1 q _ a) i j=_;rw[rS g.lm ha hqn hi aa];split
    ·rename_i e;subst e;rw[Cc j hj,jE,fi];exact g.uc i hi j hj
    ·exact g.uc i hi j hj
   ·show fH n (rp n p.1 q _ a) a a=_;rw[rS g.lm ha hqn ha ha,aw (Ne.symm r8)];exact h1
   ·intro r hr hra;show fH n (rp n p.1 q _ a) r a=_;rw[rS g.lm ha hqn aa ha];split
    ·rename_i e;subst e;rw[h1,UZ,iz]
    ·exact hz r aa hra
  ·rename_i h;refine DM ha f (q+1) p aa g h1 fun r hr hra=>?_;by_cases e:r=q
   ·subst e;exact bH fun k=>h ⟨hra,k⟩
   ·exact hz r aa hra
theorem Ui{n a:Nat}{m0:al}{p:al×al}(ha:a<n)(g:Gi n a m0 p):wA n a p<n:=by
 obtain⟨h1,h2,h3,h4⟩:=rv n p.1 a (n-a) a;refine bH fun hn=>?_;have hI:wA n a p=n:=by unfold wA at hn⊢;omega
 have hz:∀r,a≤r→r<n→fH n p.1 r a=0:=fun r hr xm=>h4 r hr (by unfold wA at hI;omega);have:=g.ker (fun t=>if t=a then 1 else if t<a then fH n p.1 t a else 0) (fun i hi=>?_) a ha
 ·simp at this
 ·by_cases hia:i<a
  ·have e:xs n (fun t=>gm (fH n p.1 i t) (if t=a then 1 else if t<a then fH n p.1 t a else 0))=xs n fun t=>(if t=i then fH n p.1 i a else 0) ^^^ (if t=a then fH n p.1 i a else 0):=pL fun t ht=>by
    by_cases e1:t=a
    ·subst e1;rw[ao rfl,aw aa,ao rfl,UZ,vr]
    ·rw[aw e1,aw e1,fi];by_cases e2:t<a
     ·rw[ao e2,g.uc i hi t e2];by_cases e3:i=t
      ·subst e3;rw[ao rfl,ao rfl,jw]
      ·rw[aw e3,aw (Ne.symm e3),iS]
     ·rw[aw e2,aw aa,jE]
   rw[e,Lj,F4 i hi (fun t _ h=>aw h),F4 a ha (fun t _ h=>aw h),ao rfl,ao rfl,iz]
  ·refine Ll fun t ht=>?_;by_cases e1:t=a
   ·subst e1;rw[hz i aa hi,iS]
   ·rw[aw e1];by_cases e2:t<a
    ·rw[g.uc i hi t e2,aw aa,iS]
    ·rw[aw e2,jE]
theorem agP{n a:Nat}{m0:al}{p:al×al}(ha:a<n)(g:Gi n a m0 p):Gi n (a+1) m0 (QC n a p):=by
 have hI:=Ui ha g;obtain⟨h1,h2,h3,h4⟩:=rv n p.1 a (n-a) a;have hIa:a≤wA n a p:=h1;have hc:fH n p.1 (wA n a p) a≠0:=h3 (by unfold wA at hI;omega);have g1:Gi n a m0 (JL n a p):=by
  refine⟨oJ g.lm ha hI,oJ g.lb ha hI,Ah (aeR g.lm g.lb ha hI) g.left,(aiS g.lm ha hI).ker g.ker,fun i hi j hj=>?_⟩;show fH n (pA n p.1 a _) i j=_;rw[oW g.lm ha hI hi aa];split
  ·rename_i e;rw[g.uc a ha j hj,aw aa,aw aa]
  ·split
   ·rename_i e;rw[g.uc _ hI j hj,aw aa,aw aa]
   ·exact g.uc i hi j hj
 have Nr:fH n (JL n a p).1 a a≠0:=by
  show fH n (pA n p.1 a _) a a≠0;rw[oW g.lm ha hI ha ha];split
  ·rename_i e;rw[←e]at hc;exact hc
  ·rw[ao rfl];exact hc
 have g2:Gi n a m0 (ane n a (JL n a p)):=by
  refine⟨mZ g1.lm ha,mZ g1.lb ha,Ah (ZF g1.lm g1.lb ha) g1.left,(aez g1.lm ha (Kb Nr)).ker g1.ker,fun i hi j hj=>?_⟩;show fH n (jV n (JL n a p).1 a _) i j=_;rw[qL g1.lm ha hi aa];split
  ·rename_i e;rw[e,g1.uc a ha j hj,aw aa,jE]
  ·exact g1.uc i hi j hj
 refine DM ha n 0 _ aa g2 ?_ (fun r hr=>aa);show fH n (jV n (JL n a p).1 a _) a a=_;rw[qL g1.lm ha ha ha,ao rfl,D1 Nr]
theorem Vn{n:Nat}{m0:al}:∀(f i:Nat) (p:al×al),i+f=n→Gi n i m0 p→∃q,Ej n f i p=some q∧Gi n n m0 q
 |0,i,p,h,g=>⟨p,rfl,by(have:i=n:=aa;rw[←this];rw[←this]at g;exact g)⟩
 |f+1,i,p,h,g=>by
  have hI:=Ui aa g;obtain⟨q,h1,h2⟩:=Vn f (i+1) (QC n i p) aa (agP aa g);refine⟨q,?_,h2⟩;have e:rT n i p=(true,QC n i p):=by unfold rT;rw[aw aa]
  rw[Ej,e,ao rfl];exact h1
theorem amf{n:Nat}{m:al}(hm:m.length=n*n)(hk:Ker n m):∃b,ahH n m=some b∧b.length=n*n∧∀i,i<n→∀j,j<n→xs n (fun t=>gm (fH n b i t) (fH n m t j))=if i=j then 1 else 0:=by
 have g0:Gi n 0 m (m,NG n):=by
  refine⟨hm,je n n _,fun i hi j hj=>?_,hk,fun i hi j hj=>aa⟩;have e:xs n (fun t=>gm (fH n (NG n) i t) (fH n m t j))=xs n fun t=>if t=i then fH n m i j else 0:=pL fun t ht=>by
   unfold NG;rw[Dg hi ht];by_cases e:i=t
   ·subst e;rw[ao rfl,ao rfl,jw]
   ·rw[aw e,aw (Ne.symm e),iS]
  show xs n (fun t=>gm (fH n (NG n) i t) (fH n m t j))=_;rw[e,F4 i hi fun t _ h=>aw h,ao rfl]
 obtain⟨q,h1,h2⟩:=Vn n 0 _ aa g0;refine⟨q.2,by unfold ahH;rw[h1];rfl,h2.lb,fun i hi j hj=>?_⟩;rw[h2.left i hi j hj,h2.uc i hi j hj]
def Gs(k m:Nat):al:=qe m k fun i j=>kI (UInt8.ofNat ((k+i) ^^^ j))
def lM(k m:Nat):al:=NG k++Gs k m
def lr(k:Nat)(m:al)(at_:bf):al:=at_.flatMap (jf k m)
theorem Mt(k m:Nat):(Gs k m).length=m*k:=je ..
theorem Vg(n:Nat):(NG n).length=n*n:=je ..
theorem sv(k m:Nat):(lM k m).length=(k+m)*k:=by unfold lM NG Gs;rw[aY,je,je,mH]
theorem Si{a b:Nat}(ha:a<256)(hb:b<256):UInt8.ofNat (a ^^^ b)=UInt8.ofNat a ^^^ UInt8.ofNat b:=nZ (by
 rw[UInt8.toNat_xor,od,od,od,ja (show a<2^8 from ha),ja (show b<2^8 from hb),ja (show a ^^^ b<2^8 from vp ha hb)])
theorem HB{k m a t:Nat}(Gb:k+m≤255)(ha:a<k+m)(ht:t<k):fH k (lM k m) a t=if a<k then (if a=t then 1 else 0) else kI (UInt8.ofNat a ^^^ UInt8.ofNat t):=by
 have hle:a*k+k≤(k+m)*k:=fM ha;split
 ·rename_i h;have h1:=fM (k:=k) h;have:fH k (lM k m) a t=fH k (NG k) a t:=by
   unfold fH lM;rw[bk,bk,z8 (by unfold NG;rw[je];omega)]
  rw[this];unfold NG;rw[Dg h ht]
 ·rename_i h;obtain⟨i,rfl⟩:∃i,a=k+i:=⟨a-k,aa⟩
  have:fH k (lM k m) (k+i) t=fH k (Gs k m) i t:=by
   have hm:(k+i)*k=k*k+i*k:=mH ..;unfold fH lM;rw[bk,bk,sO (by unfold NG;rw[je];omega)];unfold NG;rw[je];congr 2;omega
  rw[this];unfold Gs;rw[Dg aa ht,Si aa aa]
theorem EU{n k:Nat}{m:al}(hm:m.length=n*k):∀{l:bf},(∀a,a∈l→a<n)→(lr k m l).length=l.length*k
 |[],_=>by simp[lr]
 |a::l,h=>by
  have:=EU hm (l:=l) fun x hx=>h x oa;unfold lr at this⊢;rw[jJ,aY,this,eW hm (h a ak),ef,mH];omega
theorem Mv{n k:Nat}{m:al}(hm:m.length=n*k):∀{l:bf} {i j:Nat},(∀a,a∈l→a<n)→i<l.length→j<k→fH k (lr k m l) i j=fH k m (l.getD i 0) j
 |[],i,j,_,hi,_=>by simp at hi
 |a::l,i,j,h,hi,hj=>by
  have hr:=eW hm (h a ak);have e:lr k m (a::l)=jf k m a++lr k m l:=by unfold lr;rw[jJ]
  cases i with
  |zero=>
   rw[e];have:fH k (jf k m a++lr k m l) 0 j=(jf k m a).getD j 0:=by
    unfold fH;rw[bk,bk,r',mq,z8 aa]
   rw[this,lq _ _ hj];rfl
  |succ i=>
   have ih:=Mv hm (l:=l) (i:=i) (j:=j) (fun x hx=>h x oa) C5 hj;rw[e];have:fH k (jf k m a++lr k m l) (i+1) j=fH k (lr k m l) i j:=by
    unfold fH;rw[bk,bk,sO (by rw[hr,mH];omega)];congr 2;rw[hr,mH];omega
   rw[this,ih];rfl
theorem II(f:Nat→UInt8)(p:Nat→Bool):∀l:bf,ls l f=ls (l.filter p) f ^^^ ls (l.filter fun x=> !p x) f
 |[]=>(iz 0).symm
 |j::l=>by
  rw[ls,II f p l,tZ,tZ];cases p j with
  |true=>simp only[if_true,Bool.not_true,Bool.false_eq_true,if_false];rw[ls,sQ]
  |false=>simp only[Bool.false_eq_true,if_false,Bool.not_false,if_true];rw[ls,←sQ,←sQ,UInt8.xor_comm (f j)]
theorem akJ(f:Nat→UInt8):∀n,xs n f=ls (List.range n) f
 |0=>rfl
 |n+1=>by
  rw[xs,akJ f n,lj,ahU (IE (l₁:=List.range n) (l₂:=[n])),UInt8.xor_comm];rfl
theorem DU(l:bf)(p:Nat→Bool):(l.filter p).length+(l.filter fun x=> !p x).length=l.length:=by
 induction l with
 |nil=>rfl
 |cons x l ih=>rw[tZ,tZ];cases p x<;>simp<;>omega
theorem ad6{k m:Nat}(Gb:k+m≤255){l:bf}(hl:l.length=k)(hn:l.Nodup)(fE:∀a,a∈l→a<k+m):Ker k (lr k (lM k m) l):=by
 intro v hv;have Cc:∀a,a∈l→xs k (fun t=>gm (fH k (lM k m) a t) (v t))=0:=fun a ha=>by
  obtain⟨i,hi,e⟩:=jZ ha;have:=hv i aa;rw[←this];refine pL fun t ht=>?_;rw[Mv (sv k m) fE aa ht];congr 2;rw[bk,fm hi,e];rfl
 have aqd:∀a,a∈l→a<k→v a=0:=fun a ha hak=>by
  have:=Cc a ha;rw[pL (g:=fun t=>if t=a then v a else 0) fun t ht=>by
   rw[HB Gb (fE a ha) ht,ao hak];by_cases e:a=t
   ·subst e;rw[ao rfl,ao rfl,jw]
   ·rw[aw e,aw (Ne.symm e),iS],F4 a hak (fun t _ h=>aw h),ao rfl]at this
  exact this
 obtain⟨J,hJ⟩:=cN ((List.range k).filter fun x=> !decide (x∈l));obtain⟨X,hX⟩:=cN (l.filter fun x=> !decide (x<k));have hp:((List.range k).filter fun x=>decide (x∈l)).Perm (l.filter fun x=>decide (x<k)):=by
  refine(List.perm_ext_iff_of_nodup (List.nodup_range.filter _) (hn.filter _)).2 fun a=>?_;simp only[BE,kz,NW];exact And.comm
 have hJl:J.length=X.length:=by
  have h1:=DU (List.range k) fun x=>decide (x∈l);have h2:=DU l fun x=>decide (x<k);have h3:=hp.length_eq;rw[vZ]at h1;rw[hJ,hX];omega
 have hJm:∀j,j∈J↔j<k∧j∉l:=fun j=>by rw[hJ];simp
 have hXm:∀a,a∈X↔a∈l∧k≤a:=fun a=>by rw[hX];simp
 have inj:∀i j:Nat,i<256→j<256→UInt8.ofNat i=UInt8.ofNat j→i=j:=fun i j hi hj e=>by
  have:=ek UInt8.toNat e;rw[od,od,ja (show i<2^8 from hi),ja (show j<2^8 from hj)]at this;exact this
 have mF:=Bs J.length J X v UInt8.ofNat UInt8.ofNat rfl aa (hJ▸List.nodup_range.filter _) (hX▸hn.filter _)
  (fun i j hi hj e=>inj i j (by have:=((hJm i).1 hi).1;omega) (by have:=((hJm j).1 hj).1;omega) e)
  (fun i j hi hj e=>inj i j (by have:=fE i ((hXm i).1 hi).1;omega) (by have:=fE j ((hXm j).1 hj).1;omega) e)
  (fun i j hi hj e=>by
   have h1:=((hXm i).1 hi).2;have h2:=((hJm j).1 hj).1;have:=inj i j (by have:=fE i ((hXm i).1 hi).1;omega) aa e;omega)
  (fun a ha=>by
   obtain⟨h1,h2⟩:=(hXm a).1 ha;have:=Cc a h1;rw[akJ,II _ fun x=>decide (x∈l),KC (J:=(List.range k).filter fun x=>decide (x∈l)) (fun t ht=>by
    simp only[BE,kz,NW]at ht;rw[aqd t ht.2 ht.1,jE]),vr,←hJ]at this
   rw[←this];refine yo fun t ht=>?_;rw[HB Gb (fE a h1) ((hJm t).1 ht).1,aw aa,iR])
 intro j hj;by_cases h:j∈l
 ·exact aqd j h hj
 ·exact mF j ((hJm j).2 ⟨hj,h⟩)
end
theorem kB:type_of% @Nat.add_one_mul:= @Nat.add_one_mul
def K8(n:Nat)(row:al)(data:eH):al:=(row.zip data).foldl (fun s p=>if p.1=0 then s else qR s p.1 p.2) (List.replicate n 0)
def WL(r k:Nat)(cells:al)(data:eH)(n:Nat):eH:=(List.range r).map fun i=>K8 n (jf k cells i) data
def Ik(l:eH):Nat:=(l.headD []).length
def par(m:Nat)(data:eH):eH:=WL m data.length (Gs data.length m) data (Ik data)
def rO(l:eH):Prop:=∀b∈l,b.length=Ik l
instance (l:List (List UInt8)):Decidable (rO l):=inferInstanceAs (Decidable (∀b∈l,b.length=Ik l))
def dF(k:Nat)(good:List Bool):bf:=((List.range good.length).filter fun i=>good.getD i false).take k
def iu(k:Nat)(parts:eH)(good:List Bool):eH:=(dF k good).map (parts.getD · [])
def adu(k m:Nat)(good:List Bool):al:=(ahH k (lr k (lM k m) (dF k good))).getD []
def oi(k m:Nat)(parts:eH)(good:List Bool):eH:=
 if (dF k good).getD (k-1) 0≠k-1 then WL k k (adu k m good) (iu k parts good) (Ik (iu k parts good)) else iu k parts good
def qg(k m:Nat)(parts:eH)(good:List Bool):eH×Int:=
 if¬rO (iu (k+m) parts good) then ([],13) else if (iu (k+m) parts good).length<k then ([],12)
 else (oi k m parts good++par m (oi k m parts good),0)
theorem vN{n:Nat}:∀(l:List (UInt8×al)) (s:al),s.length=n→(∀p∈l,p.2.length=n)→(l.foldl (fun s p=>if p.1=0 then s else qR s p.1 p.2) s).length=n
 |[],s,h,_=>h
 |p::r,s,h,hl=>by
  rw[List.foldl_cons];refine vN r _ ?_ fun q hq=>hl q (by simp[hq]);split
  ·exact h
  ·rw[qS (by rw[h,hl p ak])];exact h
theorem afo{n:Nat}{row:al}{data:eH}(h:∀b∈data,b.length=n):(K8 n row data).length=n:=
 vN _ _ ak fun p hp=>h _ (List.of_mem_zip hp).2
theorem pI(r k:Nat)(cells:al)(data:eH)(n:Nat):(WL r k cells data n).length=r:=by simp[WL]
theorem FJ{r k n:Nat}{cells:al}{data:eH}(h:∀b∈data,b.length=n):∀b∈WL r k cells data n,b.length=n:=fun b hb=>by
 obtain⟨i,_,rfl⟩:=pM.1 hb;exact afo h
theorem tS{l:eH}{n:Nat}(h:∀b∈l,b.length=n)(h0:0<l.length):Ik l=n:=by
 cases l with
 |nil=>simp at h0
 |cons x r=>exact h x ak
theorem m7(m:Nat)(data:eH):(par m data).length=m:=pI ..
theorem yA{m n:Nat}{data:eH}(h0:0<data.length)(h:∀b∈data,b.length=n):∀b∈par m data,b.length=n:=by
 unfold par;rw[tS h h0];exact FJ h
theorem zB{k:Nat}{good:List Bool}:∀i∈dF k good,i<good.length∧good.getD i false=true:=fun i hi=>by
 have:=lX hi;simpa using this
theorem xR(k:Nat)(good:List Bool):(dF k good).Nodup:=(List.nodup_range.filter _).sublist (Kv _ _)
def mD(c:Nat):Nat→al→eH
 |0,_=>[]
 |p+1,x=>x.take c::mD c p (x.drop c)
def lK(k ch n:Nat):Nat:=(n+k*ch-1)/(k*ch)
def jh(k m ch n:Nat):Nat:=lK k ch n*((k+m)*(ch+4))
def zc(k m ch n:Nat):Int:=if 8388608<n then 13 else if 16777216<jh k m ch n then 6 else 0
def Cl(k m ch:Nat)(x:al):eH:=mD ch k x++par m (mD ch k x)
def G5(k m ch:Nat)(x:al):al:=(Cl k m ch x).flatMap cX
def ue(k m ch:Nat):Nat→al→al
 |0,_=>[]
 |f+1,x=>G5 k m ch (x.take (k*ch))++ue k m ch f (x.drop (k*ch))
def sg(k ch:Nat)(b:al):al:=b++List.replicate (lK k ch b.length*(k*ch)-b.length) 0
def pW(k m ch:Nat)(b:al):al×Int:=if zc k m ch b.length≠0 then ([],zc k m ch b.length) else (ue k m ch (lK k ch b.length) (sg k ch b),0)
def rdP(k m ch:Nat)(s:al):eH:=(mD (ch+4) (k+m) s).map fun c=>(aI c).1
def ON(k m ch:Nat)(s:al):List Bool:=(mD (ch+4) (k+m) s).map fun c=>decide ((aI c).2=0)
def dP(at_:Nat)(good:List Bool):bf:=((List.range good.length).filter fun i=> !good.getD i false).map (at_+ ·)
def BS(k m ch:Nat)(s:al):eH×Int:=qg k m (rdP k m ch s) (ON k m ch s)
def w8(k m ch:Nat)(s:al):Prop:=∃i,i<(BS k m ch s).1.length∧(ON k m ch s).getD i false=true∧(BS k m ch s).1.getD i []≠(rdP k m ch s).getD i []
noncomputable def LJ(k m ch:Nat)(s:al):Int:=by
 classical
 exact if (BS k m ch s).2≠0 then (BS k m ch s).2 else if w8 k m ch s then 2 else 0
noncomputable def th(k m ch:Nat):Nat→al→al→bf→Nat→al×bf×Int
 |0,_,out,bad,_=>(out,bad,0)
 |f+1,s,out,bad,at_=>
  if LJ k m ch (s.take ((k+m)*(ch+4)))≠0 then ([],[],LJ k m ch (s.take ((k+m)*(ch+4))))
  else th k m ch f (s.drop ((k+m)*(ch+4))) (out++((BS k m ch (s.take ((k+m)*(ch+4)))).1.take k).flatten) (bad++dP at_ (ON k m ch (s.take ((k+m)*(ch+4))))) (at_+(k+m))
noncomputable def oA(k m ch n:Nat)(s:al):al×bf×Int:=th k m ch (lK k ch n) s [] [] 0
noncomputable def jW(k m ch n:Nat)(s:al):al×bf×Int:=
 if zc k m ch n≠0 then ([],[],zc k m ch n) else if s.length<jh k m ch n then ([],[],1) else if jh k m ch n<s.length then ([],[],2)
 else if (oA k m ch n s).2.2≠0 then ([],[],(oA k m ch n s).2.2)
 else if∃x∈(oA k m ch n s).1.drop n,x≠0 then ([],[],2) else ((oA k m ch n s).1.take n,(oA k m ch n s).2.1,0)
theorem kp(c:Nat):∀(p:Nat) (x:al),(mD c p x).length=p
 |0,_=>rfl
 |p+1,x=>by rw[mD,ef,kp c p]
theorem qM(c:Nat):∀(p:Nat) (x:al),x.length=p*c→∀b∈mD c p x,b.length=c
 |0,_,_=>by simp[mD]
 |p+1,x,h=>by
  rw[mH,rh]at h;rw[mD];intro b hb;rcases fk.1 hb with rfl|hb
  ·rw[eS];omega
  ·exact qM c p _ kQ b hb
theorem HF(c:Nat):∀(p:Nat) (x:al),x.length=p*c→(mD c p x).flatten=x
 |0,x,h=>by rw[r']at h;rw[Vs.1 h];rfl
 |p+1,x,h=>by
  rw[mH,rh]at h;rw[mD,v_,HF c p _ kQ,jK]
theorem xB(c:Nat):∀(l:eH),(∀b∈l,b.length=c)→∀r,mD c l.length (l.flatten++r)=l
 |[],_,_=>rfl
 |b::l,h,r=>by
  have hb:=h b ak;rw[ef,mD,v_,bV,po hb,qb hb,xB c l (fun x hx=>h x oa) r]
theorem R_{k m n:Nat}{parts:eH}{good:List Bool}(hk:0<k)(h:∀b∈iu k parts good,b.length=n)(hl:(dF k good).length=k):(oi k m parts good).length=k∧∀b∈oi k m parts good,b.length=n:=by
 have hp:(iu k parts good).length=k:=by unfold iu;rw[eK];exact hl
 unfold oi;split
 ·rw[tS h aa];exact⟨pI ..,FJ h⟩
 ·exact⟨hp,h⟩
theorem AM{n:Nat}{p:Nat→Bool}(h:∀i,i<n→p i=true):(List.range n).filter p=List.range n:=List.filter_eq_self.2 fun i hi=>h i (kz.1 hi)
theorem pw(l:eH):(List.range l.length).map (l.getD · [])=l:=by
 apply pV
 ·simp
 ·intro i h1 h2;simp at h1;simp[h1]
theorem G8(l:eH){k:Nat}(h:k≤l.length):(List.range k).map (l.getD · [])=l.take k:=by
 conv=>rhs;rw[←pw l,←pn,List.take_range]
 rw[za h]
theorem adv{k m n:Nat}{data:eH}(hk:0<k)(hd:data.length=k)(he:∀b∈data,b.length=n):
  qg k m (data++par m data) (List.replicate (k+m) true)=(data++par m data,0):=by
 have hlen:(data++par m data).length=k+m:=by rw[aY,m7,hd]
 have mF:∀b∈data++par m data,b.length=n:=fun b hb=>by
  rcases dz.1 hb with hb|hb
  ·exact he b hb
  ·exact yA aa he b hb
 have hf:∀j,j≤k+m→dF j (List.replicate (k+m) true)=List.range j:=fun j hj=>by
  unfold dF;rw[x_,AM fun i hi=>by simp[hi],List.take_range,za hj]
 have hP:∀j,j≤k+m→iu j (data++par m data) (List.replicate (k+m) true)=(data++par m data).take j:=fun j hj=>by
  unfold iu;rw[hf j hj,G8 _ aa]
 have hD:oi k m (data++par m data) (List.replicate (k+m) true)=data:=by
  unfold oi;rw[hf k aa,hP k aa,po hd,aw];simp[show k-1<k by omega]
 unfold qg;rw[hP (k+m) aa,fL aa,aw,aw aa,hD];intro h;exact h fun b hb=>by rw[mF b hb,tS mF aa]
theorem uF(k m ch:Nat)(x:al):(Cl k m ch x).length=k+m:=by unfold Cl;rw[aY,m7,kp]
theorem AX{k m ch:Nat}{x:al}(hk:0<k)(h:x.length=k*ch):∀b∈Cl k m ch x,b.length=ch:=fun b hb=>by
 rcases dz.1 hb with hb|hb
 ·exact qM ch k x h b hb
 ·exact yA (by rw[kp];exact hk) (qM ch k x h) b hb
theorem sF{c:Nat}:∀l:eH,(∀b∈l,b.length=c)→(l.flatMap cX).length=l.length*(c+4)
 |[],_=>by simp
 |b::l,h=>by
  rw[jJ,aY,sF l (fun x hx=>h x oa),du,h b ak,ef,mH];omega
theorem Fs{k m ch:Nat}{x:al}(hk:0<k)(h:x.length=k*ch):(G5 k m ch x).length=(k+m)*(ch+4):=by
 unfold G5;rw[sF _ (AX hk h),uF]
theorem HH{k m ch:Nat}{x:al}(hk:0<k)(h:x.length=k*ch):mD (ch+4) (k+m) (G5 k m ch x)=(Cl k m ch x).map cX:=by
 have h1:=xB (ch+4) ((Cl k m ch x).map cX) (fun b hb=>by
  obtain⟨p,hp,rfl⟩:=pM.1 hb;rw[du,AX hk h p hp]) []
 rw[eK,uF,gk,←List.flatMap_def]at h1;exact h1
theorem V'{k m ch:Nat}{x:al}(hk:0<k)(h:x.length=k*ch):rdP k m ch (G5 k m ch x)=Cl k m ch x:=by
 unfold rdP;rw[HH hk h,vA]
 conv=>rhs;rw[←List.map_id (Cl k m ch x)]
 exact r9 fun p _=>by simp[ju]
theorem V_{k m ch:Nat}{x:al}(hk:0<k)(h:x.length=k*ch):ON k m ch (G5 k m ch x)=List.replicate (k+m) true:=by
 unfold ON;rw[HH hk h,vA];refine List.eq_replicate_iff.2 ⟨by rw[eK,uF],fun b hb=>?_⟩;obtain⟨p,_,rfl⟩:=pM.1 hb;simp[ju]
theorem K0{k m ch:Nat}{x:al}(hk:0<k)(h:x.length=k*ch):BS k m ch (G5 k m ch x)=(Cl k m ch x,0):=by
 unfold BS;rw[V' hk h,V_ hk h];exact adv hk (kp ch k x) (qM ch k x h)
theorem aiw{k m ch:Nat}{x:al}(hk:0<k)(h:x.length=k*ch):LJ k m ch (G5 k m ch x)=0:=by
 unfold LJ;rw[K0 hk h,aw ak,aw];rintro⟨i,_,_,h3⟩;rw[K0 hk h,V' hk h]at h3;exact h3 rfl
theorem Zy(a n:Nat):dP a (List.replicate n true)=[]:=by
 unfold dP;rw[List.filter_eq_nil_iff.2,GU];intro i hi;simp at hi;simp[hi]
theorem OR{k m ch:Nat}(hk:0<k):∀(f:Nat) (x out:al) (bad:bf) (a:Nat),x.length=f*(k*ch)→th k m ch f (ue k m ch f x) out bad a=(out++x,bad,0)
 |0,x,out,bad,a,h=>by
  rw[r']at h;rw[Vs.1 h,th,gk]
 |f+1,x,out,bad,a,h=>by
  rw[mH,rh]at h;have h1:(x.take (k*ch)).length=k*ch:=by rw[eS];omega
  have h2:=Fs (m:=m) hk h1;rw[ue,th,po h2,qb h2,aiw hk h1,aw ak,K0 hk h1,V_ hk h1,Zy,gk];simp only;rw[OR hk f _ _ _ _ kQ];have:((Cl k m ch (x.take (k*ch))).take k).flatten=x.take (k*ch):=by
   unfold Cl;rw[po (kp _ _ _),HF _ _ _ h1]
  rw[this,bV,jK]
theorem yi{k m ch:Nat}(hk:0<k):∀(f:Nat) (x:al),x.length=f*(k*ch)→(ue k m ch f x).length=f*((k+m)*(ch+4))
 |0,x,h=>by simp[ue]
 |f+1,x,h=>by
  rw[mH,rh]at h;have h1:(x.take (k*ch)).length=k*ch:=by rw[eS];omega
  rw[ue,aY,Fs hk h1,yi hk f _ kQ,kB f];omega
theorem CQ{k ch n:Nat}(h:0<k*ch):n≤lK k ch n*(k*ch):=by
 unfold lK;have:=Nat.div_add_mod (n+k*ch-1) (k*ch);have h2:=sN (n+k*ch-1) h;rw[nE]at this;omega
theorem uy{k ch:Nat}(h:0<k*ch)(b:al):(sg k ch b).length=lK k ch b.length*(k*ch):=by
 have:=CQ (n:=b.length) h;unfold sg;rw[aY,x_];omega
theorem ada{k m ch:Nat}(hk:0<k)(hc:0<ch){b:al}(h:(pW k m ch b).2=0):jW k m ch b.length (pW k m ch b).1=(b,[],0):=by
 have hkc:0<k*ch:=N3 hk hc;unfold pW at h⊢;split at h
 ·rename_i h1;exact absurd h h1
 ·rename_i h1;rw[aw h1];have hl:=yi (k:=k) (m:=m) (ch:=ch) hk _ _ (uy hkc b);have hr:oA k m ch b.length (ue k m ch (lK k ch b.length) (sg k ch b))=(sg k ch b,[],0):=by
   unfold oA;rw[OR hk _ _ _ _ _ (uy hkc b),nA]
  unfold jW;rw[aw h1,aw (by simp only;rw[hl];unfold jh;omega),aw (by simp only;rw[hl];unfold jh;omega),hr,aw ak,aw]
  ·simp only;unfold sg;rw[po rfl]
  ·rintro⟨x,hx,h0⟩;simp only at hx;unfold sg at hx;rw[qb rfl]at hx;exact h0 (List.eq_of_mem_replicate hx)
def we(o:aR)(n:Nat):al:=
 (dY++[3])++([fI o.2.1,UInt8.ofNat o.2.2.1.toNat,UInt8.ofNat o.2.2.2.1.toNat,UInt8.ofNat o.2.2.2.2.1.toNat]++(fF o.2.2.2.2.2.toNat 2++(fF o.1.toNat 2++fF n 4)))
def jm(o:aR)(n:Nat):al:=cX (we o n)
def ic(o:aR)(b:al):al×Int:=pW o.2.2.2.1.toNat o.2.2.2.2.1.toNat o.2.2.2.2.2.toNat b
def la(o:aR)(b:al):al:=jm o b.length++((ic o b).1++jm o b.length)
def tp(o:aR)(L:List aK):al×Int:=
 if cB 3 o≠0 then ([],cB 3 o) else if (fX o L).2≠0 then ([],(fX o L).2) else if (ic o (dy o L)).2≠0 then ([],(ic o (dy o L)).2) else (la o (dy o L),0)
def zn(c:al):Prop:=(aI c).2=0∧(marked c).2=0∧(marked c).1=3
instance (c:List UInt8):Decidable (zn c):=inferInstanceAs (Decidable (_∧_∧_))
def ej(b:al):al×Int:=
 if b.length<42 then ([],1) else if zn (b.take 21) then (b.take 21,0) else if zn (b.drop (b.length-21)) then (b.drop (b.length-21),0) else ([],5)
def CC(c:al):Cs:=⟨c.drop 5,0,0⟩
def kY(c:al):Cs:=(CC c).eJ
def jH(c:al):Cs:=(kY c).eJ
def wN(c:al):Cs:=(jH c).eJ
def LB(c:al):Cs:=(wN c).eJ
def hs5(c:al):Cs:=(LB c).kX 2
def hs6(c:al):Cs:=(hs5 c).kX 2
def D6(c:al):UInt8:=(CC c).byte
def hO(c:al):aR:=((((hs5 c).fixed 2:Nat):Int),decide ((D6 c).toNat=1),((kY c).byte.toNat:Int),((jH c).byte.toNat:Int),((wN c).byte.toNat:Int),(((LB c).fixed 2:Nat):Int))
def hN(c:al):Nat:=(hs6 c).fixed 4
def hE(c:al):Int:=if 1<(D6 c).toNat then 2 else cB 3 (hO c)
noncomputable def Bx(b:al):al×bf×Int:=jW (hO (ej b).1).2.2.2.1.toNat (hO (ej b).1).2.2.2.2.1.toNat (hO (ej b).1).2.2.2.2.2.toNat (hN (ej b).1) ((b.take (b.length-21)).drop 21)
def Kg(b:al):Nat:=if b.take 21=b.drop (b.length-21) then 0 else 1
noncomputable def dH(b:al):aR×al×Nat×Int:=
 if (ej b).2≠0 then (gR,[],0,(ej b).2) else if hE (ej b).1≠0 then (gR,[],0,hE (ej b).1)
 else if (Bx b).2.2≠0 then (gR,[],0,(Bx b).2.2) else (hO (ej b).1,(Bx b).1,(Bx b).2.1.length+Kg b,0)
noncomputable def ig(b:al):aR×ir×Nat×Int:=
 if (dH b).2.2.2≠0 then (gR,.nil,0,(dH b).2.2.2)
 else if (ei (dH b).1 (dH b).2.1).2≠0 then (gR,.nil,0,(ei (dH b).1 (dH b).2.1).2)
 else ((dH b).1,(ei (dH b).1 (dH b).2.1).1,(dH b).2.2.1,0)
noncomputable def ld(b:al):aR×List aK×Nat×Nat×Int:=
 if (ig b).2.2.2≠0 then (gR,[],0,0,(ig b).2.2.2) else if (jl (ig b).2.1).2≠0 then (gR,[],0,0,(jl (ig b).2.1).2)
 else ((ig b).1,(jl (ig b).2.1).1,(ig b).2.1.ns.length,(ig b).2.2.1,0)
theorem lT{o:aR}(ho:cB 3 o=0):nV 3 o∧cB 2 (o2 o)=0:=by
 have fG:nV 3 o:=by
  unfold cB at ho;rw[ao (.inr (.inr rfl))]at ho;exact bH fun h=>by rw[aw h]at ho;simp at ho
 refine⟨fG,?_⟩;obtain⟨h1,_,h3,_,_⟩:=fG;unfold cB;rw[ao (.inr (.inl rfl)),ao];exact⟨h1,fun h=>absurd h aa,fun _=>h3 (.inl rfl),fun _=>⟨rfl,rfl,rfl⟩,fun h=>absurd h aa⟩
theorem Cs.zC{s:Cs}{x k:Nat}{r:al}(h0:s.e=0)(h1:1≤k)(h8:k≤8)(hx:x<2^(8*k))(hr:s.rest=fF x k++r):s.fixed k=x∧nO s (s.kX k) (fF x k):=by
 obtain⟨a,d⟩:=Cs.mv (n:=(k:Nat)) h0 ak hr;unfold Cs.fixed Cs.kX;rw[aw aa,aw aa,a,Ex];exact⟨ja hx,d⟩
theorem sf{x:Nat}(h:x<256):(UInt8.ofNat x).toNat=x:=by rw[od];exact ja h
theorem FH(o:aR)(n:Nat):(jm o n).length=21:=by
 unfold jm we;rw[du];simp[dY]
theorem afg(o:aR)(n:Nat):zn (jm o n):=by
 have hmk:marked (jm o n)=(3,0):=by
  have:=lS (v:=3) C3 (([fI o.2.1,UInt8.ofNat o.2.2.1.toNat,UInt8.ofNat o.2.2.2.1.toNat,UInt8.ofNat o.2.2.2.2.1.toNat]++(fF o.2.2.2.2.2.toNat 2++(fF o.1.toNat 2++fF n 4)))++mu (pP 0 (we o n)));rw[←this];congr 1
 refine⟨?_,by rw[hmk],by rw[hmk]⟩;unfold jm;rw[ju]
theorem Z1{o:aR}{n:Nat}(ho:cB 3 o=0)(hn:n<4294967296):hE (jm o n)=0∧hO (jm o n)=o∧hN (jm o n)=n:=by
 obtain⟨fG,_⟩:=lT ho;obtain⟨⟨m1,m2⟩,m3,m4,_,_⟩:=fG;obtain⟨⟨k1,k2⟩,⟨k3,k4⟩,⟨k5,k6⟩⟩:=m3 rfl;obtain⟨m5,m6⟩:=m4 (.inl rfl);obtain⟨x,hx⟩:=cN ((jm o n).drop 5);have r0:(CC (jm o n)).rest=fI o.2.1::(UInt8.ofNat o.2.2.1.toNat::(UInt8.ofNat o.2.2.2.1.toNat::(UInt8.ofNat o.2.2.2.2.1.toNat::(fF o.2.2.2.2.2.toNat 2++(fF o.1.toNat 2++(fF n 4++mu (pP 0 (we o n)))))))):=by
  unfold CC Cs.rest jm cX we;simp[dY]
 obtain⟨n1,d1⟩:=Cs.l8 (s:=CC (jm o n)) rfl r0;have r1:(kY (jm o n)).rest=_:=d1.cH (p:=[fI o.2.1]) r0;obtain⟨n2,d2⟩:=Cs.l8 (s:=kY (jm o n)) d1.e1 r1;have r2:(jH (jm o n)).rest=_:=d2.cH (p:=[UInt8.ofNat o.2.2.1.toNat]) r1;obtain⟨n3,d3⟩:=Cs.l8 (s:=jH (jm o n)) d2.e1 r2;have r3:(wN (jm o n)).rest=_:=d3.cH (p:=[UInt8.ofNat o.2.2.2.1.toNat]) r2;obtain⟨n4,d4⟩:=Cs.l8 (s:=wN (jm o n)) d3.e1 r3;have r4:(LB (jm o n)).rest=_:=d4.cH (p:=[UInt8.ofNat o.2.2.2.2.1.toNat]) r3;obtain⟨n5,d5⟩:=Cs.zC (s:=LB (jm o n)) (k:=2) d4.e1 aa aa aa r4;have r5:(hs5 (jm o n)).rest=_:=d5.cH r4;obtain⟨n6,d6⟩:=Cs.zC (s:=hs5 (jm o n)) (k:=2) d5.e1 aa aa aa r5;have r6:(hs6 (jm o n)).rest=_:=d6.cH r5;obtain⟨n7,d7⟩:=Cs.zC (s:=hs6 (jm o n)) (k:=4) d6.e1 aa aa aa r6;have ePl:D6 (jm o n)=fI o.2.1:=n1;have l0:(fI o.2.1).toNat≤1∧(decide ((fI o.2.1).toNat=1)=o.2.1):=by cases o.2.1<;>exact⟨aA,aA⟩
 have eO:hO (jm o n)=o:=by
  unfold hO;rw[ePl,l0.2,n2,n3,n4,sf aa,sf aa,sf aa];rw[show(LB (jm o n)).fixed 2=_ from n5,show(hs5 (jm o n)).fixed 2=_ from n6];obtain⟨a,b,c,d,e,f⟩:=o;simp only at m1 m2 m5 m6 k1 k2 k3 k4 k5 k6⊢;rw[IB aa,IB aa,IB aa,IB aa,IB aa]
 refine⟨?_,eO,n7⟩;unfold hE;rw[ePl,aw aa,eO,ho]
theorem A_{o:aR}{b:al}(ho:cB 3 o=0)(hl:(ic o b).2=0):dH (la o b)=(o,b,0,0):=by
 have hlen:b.length≤8388608:=by
  refine bH fun h=>?_;have:(ic o b).2=13:=by
   unfold ic pW zc;rw[ao (show 8388608<b.length by omega),ao aA]
  omega
 obtain⟨fG,_⟩:=lT ho;obtain⟨_,m3,_⟩:=fG;obtain⟨⟨k1,k2⟩,⟨k3,k4⟩,⟨k5,k6⟩⟩:=m3 rfl;obtain⟨e1,e2,e3⟩:=Z1 (n:=b.length) ho aa;have hH:=FH o b.length;obtain⟨H,hHd⟩:=cN (jm o b.length);obtain⟨l,Gc⟩:=cN ((ic o b).1);have hA:la o b=H++(l++H):=by unfold la;rw[←hHd,←Gc]
 rw[←hHd]at hH e1 e2 e3;have hAl:(la o b).length=42+l.length:=by rw[hA];simp only[aY];omega
 have Nr:(la o b).take 21=H:=by rw[hA];exact po hH
 have hc2:(la o b).drop ((la o b).length-21)=H:=by rw[hAl,hA,←bV];exact qb tF
 have Ru:((la o b).take ((la o b).length-21)).drop 21=l:=by
  rw[hAl,hA,←bV,po tF];exact qb hH
 have ap4:ej (la o b)=(H,0):=by
  unfold ej;rw[aw aa,Nr,ao (by rw[hHd];exact afg _ _)]
 have tW:Bx (la o b)=(b,[],0):=by
  unfold Bx;rw[ap4,Ru];simp only;rw[e2,e3,Gc];exact ada aa aa hl
 have hd:Kg (la o b)=0:=by unfold Kg;rw[Nr,hc2,ao rfl]
 unfold dH;rw[ap4];simp only;rw[aw ak,e1,aw ak,tW,aw ak,e2,hd];rfl
theorem S_{o:aR}{L:List aK}(ho:cB 3 o=0)(hc:cO L=0)(hx:∀x∈L,x.1<18446744073709551616)(hw:dU L≤1048576)(hl:(ic o (dy o L)).2=0):
  ld (la o (dy o L))=(o,L,(dR o false L).length,0,0):=by
 have hlen:(dy o L).length≤8388608:=by
  refine bH fun h=>?_;have:(ic o (dy o L)).2=13:=by
   unfold ic pW zc;rw[ao (show 8388608<(dy o L).length by omega),ao aA]
  omega
 obtain⟨x,h1,h2,h3⟩:=Hz (o:=o) (lT ho).2 hc hx hw hlen;have hM:=A_ ho hl;have hO:ig (la o (dy o L))=(o,x,0,0):=by
  unfold ig;rw[hM];simp only;rw[aw ak,h1];simp
 unfold ld;rw[hO];simp only;rw[aw ak,h3,aw ak,h2]
def om(o:aR):al:=(dY++[2])++(aS o.1.toNat++(fI o.2.1::aS o.2.2.1.toNat))
def so(o:aR):al:=cX (om o)
def pX(o:aR)(L:List aK):al:=so o++dy o L
def vG(o:aR)(L:List aK):al×Int:=if cB 2 o≠0 then ([],cB 2 o) else if (fX o L).2≠0 then ([],(fX o L).2) else (pX o L,0)
def th1(b:al):Cs:=Cs.b_ ⟨b,0,0⟩ 5
def th2(b:al):Cs:=(th1 b).bX 32768
def ZY(b:al):UInt8:=(th2 b).byte
def WI(b:al):Cs:=if 1<(ZY b).toNat then (th2 b).eJ.failed 2 else (th2 b).eJ
def th4(b:al):Cs:=(WI b).bX 64
def BU(b:al):Cs:=(th4 b).b_ 4
def BV(b:al):aR:=(((th1 b).int 32768:Nat),decide ((ZY b).toNat=1),((WI b).int 64:Nat),0,0,0)
def rL(b:al):Nat×Int:=
 if (BU b).e≠0 then (0,(BU b).e) else if (aI (b.take (BU b).at_)).2≠0 then (0,(aI (b.take (BU b).at_)).2) else ((BU b).at_,cB 2 (BV b))
def iq(b:al):aR×ir×Int:=
 if (marked b).2≠0 then (gR,.nil,(marked b).2) else if (marked b).1≠2 then (gR,.nil,4)
 else if (rL b).2≠0 then (gR,.nil,(rL b).2)
 else if (ei (BV b) (b.drop (rL b).1)).2≠0 then (gR,.nil,(ei (BV b) (b.drop (rL b).1)).2)
 else (BV b,(ei (BV b) (b.drop (rL b).1)).1,0)
noncomputable def mw(b:al):aR×List aK×Nat×Int:=
 if (iq b).2.2≠0 then (gR,[],0,(iq b).2.2) else if (jl (iq b).2.1).2≠0 then (gR,[],0,(jl (iq b).2.1).2)
 else ((iq b).1,(jl (iq b).2.1).1,(iq b).2.1.ns.length,0)
theorem CK{o:aR}(ho:cB 2 o=0):nV 2 o∧o2 o=o:=by
 have fG:nV 2 o:=by
  unfold cB at ho;rw[ao (.inr (.inl rfl))]at ho;exact bH fun h=>by rw[aw h]at ho;simp at ho
 refine⟨fG,?_⟩;obtain⟨_,_,_,m5,_⟩:=fG;obtain⟨k1,k2,k3⟩:=m5 aa;obtain⟨a,b,c,d,e,f⟩:=o;simp only at k1 k2 k3;subst k1;subst k2;subst k3;rfl
theorem afA{o:aR}{L:List aK}(ho:cB 2 o=0)(hc:cO L=0)(hx:∀x∈L,x.1<18446744073709551616)(hw:dU L≤1048576)(hlen:(dy o L).length≤8388608):
  mw (pX o L)=(o,L,(dR o false L).length,0):=by
 obtain⟨fG,he⟩:=CK ho;obtain⟨⟨m1,m2⟩,_,m4,_,_⟩:=fG;obtain⟨m5,m6⟩:=m4 (.inr rfl);obtain⟨x,h1,h2,h3⟩:=Hz (o:=o) (by rw[he];exact ho) hc hx hw hlen;obtain⟨b,hb⟩:=cN (pX o L);have hmk:marked b=(2,0):=by
  have:=lS (v:=2) C3 ((aS o.1.toNat++(fI o.2.1::aS o.2.2.1.toNat))++(mu (pP 0 (om o))++dy o L));rw[←this,hb];congr 1;unfold pX so cX om;show _=(dY++[2])++_;simp[bV]
 have r0:Cs.rest ⟨b,0,0⟩=(dY++[2])++(aS o.1.toNat++(fI o.2.1::(aS o.2.2.1.toNat++(mu (pP 0 (om o))++dy o L)))):=by
  unfold Cs.rest;rw[tb,hb];unfold pX so cX om;simp[bV]
 obtain⟨_,d1⟩:=Cs.mv (n:=5) rfl rfl r0;have r1:=d1.cH r0;obtain⟨n2,d2⟩:=Cs.iB (m:=32768) d1.e1 aa aa r1;have r2:=d2.cH r1;obtain⟨n3,d3⟩:=Cs.l8 d2.e1 r2;have r3:=d3.cH (p:=[fI o.2.1]) r2;obtain⟨n4,d4⟩:=Cs.iB (m:=64) d3.e1 aa aa r3;have r4:=d4.cH r3;obtain⟨_,d5⟩:=Cs.mv (n:=4) d4.e1 rfl r4;have l0:(fI o.2.1).toNat≤1∧(decide ((fI o.2.1).toNat=1)=o.2.1):=by cases o.2.1<;>exact⟨aA,aA⟩
 have e2:th2 b=(Cs.b_ ⟨b,0,0⟩ 5).bX 32768:=rfl;have ePl:ZY b=fI o.2.1:=by unfold ZY;rw[e2];exact n3
 have e3:WI b=((Cs.b_ ⟨b,0,0⟩ 5).bX 32768).eJ:=by unfold WI;rw[ePl,aw aa,e2]
 have e4:th4 b=(((Cs.b_ ⟨b,0,0⟩ 5).bX 32768).eJ).bX 64:=by unfold th4;rw[e3]
 have eO:BV b=o:=by
  unfold BV;rw[show th1 b=Cs.b_ ⟨b,0,0⟩ 5 from rfl,n2,ePl,l0.2,e3,n4]
  conv=>rhs;rw[←he]
  unfold o2;congr 1
  ·omega
  ·congr 1;congr 1;omega
 have mF:=(((d1.trans d2).trans d3).trans d4).trans d5;have U':((dY++[2]:al)++aS o.1.toNat++[fI o.2.1]++aS o.2.2.1.toNat++mu (pP 0 (om o)))=so o:=by unfold so cX om;simp[bV]
 have e5:BU b=⟨b,(so o).length,0⟩:=by
  unfold BU;rw[e4,mF.eq,U'];simp
 have hbt:b.take (so o).length=so o:=by rw[hb];exact po rfl
 have PZ:b.drop (so o).length=dy o L:=by rw[hb];exact qb rfl
 have hcut:aI (so o)=(om o,0):=ju _;have eE:rL b=((so o).length,0):=by
  unfold rL;rw[e5];simp only;rw[hbt,hcut,aw ak,aw ak,eO,ho]
 have eOp:iq b=(o,x,0):=by
  unfold iq;rw[hmk];simp only;rw[aw ak,aw ak,eE];simp only;rw[aw ak,PZ,eO,h1];simp
 unfold mw;rw[←hb,eOp];simp only;rw[aw ak,h3,aw ak,h2]
theorem aog{P:Prop}(h:P:=by(first|exact fun h=>absurd h.1 (by omega)|exact⟨fun h=>⟨by omega,h⟩,fun h=>h.2⟩)):P:=h
theorem an_{P:Prop}(h:P:=by(exact eU (by first|exact fun h=>absurd h.1 (by omega)|exact⟨fun h=>⟨by omega,h⟩,fun h=>h.2⟩))):P:=h
theorem nL(x lo hi:Int):a_ B w0 115 [ah x,ah lo,ah hi] F (fun r L=>r= .bool (decide (PI x lo hi))∧L=F):=by
 refine fw func115 15 [0,1,2] ?_;refine bL ?_;refine bW 8 14 [] (PI x lo hi) ?_ ?_
 ·refine b8 ?_;refine cP (fun jF=>?_) fun jF=>?_
  ·refine bz ?_;exact aQ (by exact dN aog)
  ·refine bF ?_;exact aQ an_
 ·refine bG ?_;exact⟨rfl,rfl⟩
theorem ZO(o:aR):a_ B w0 116 [.agg (aR.cells o).toArray] F (fun r L=>r= .bool (decide (anr o))∧L=F):=by
 obtain⟨bl,pl,bu,da,pa,ch⟩:=o;refine ct func116 19 rfl rfl rfl [(0,.agg #[ah bl,.bool pl,ah bu,ah da,ah pa,ah ch])] ⟨⟨rfl,rfl⟩,trivial⟩ ?_;refine be ?_;refine bh fun g1=>?_;refine bL ?_;refine ai rfl (nL da 1 255) ?_;refine aF ?_;refine cP (fun h6=>?_) fun h6=>?_
 ·have hwd:1≤da∧da≤255:=h6;refine bA ?_;refine ai rfl (nL pa 0 (255-da)) ?_;refine be ?_;refine cP (fun kg=>?_) fun kg=>?_
  ·refine b8 ?_;refine ai rfl (nL ch 1 4096) ?_;refine be ?_;refine ve [2] ?_;refine be ?_;refine aq (L':=F) (.skip (.refl _)) ?_;refine aF ?_;exact⟨ek Value.bool (z7.2 ⟨fun h=>⟨h6,kg,h⟩,fun h=>h.2.2⟩),rfl⟩
  ·refine b8 ?_;refine ve [2] ?_;refine be ?_;refine aq (L':=F) (.skip (.refl _)) ?_;refine aF ?_;exact⟨ek Value.bool (nT (fun h=>kg h.2.1)).symm,rfl⟩
 ·refine cJ ?_;refine ve [2] ?_;refine be ?_;refine aq (L':=F) (.skip (.refl _)) ?_;refine aF ?_;exact⟨ek Value.bool (nT (fun h=>h6 h.1)).symm,rfl⟩
theorem uk(hb:eM B w0 F A c l)(hl:l.length≤1099511627776):
  a_ B w0 107 [.slice A l.length c] F (fun r L=>r= .tuple #[ah (marked l).1,ah (marked l).2]∧L=F):=by
 refine dL.xf hb fun mh _=>?_;refine fw func107 29 [0] ?_;refine GC ?_;refine aj (fun h5=>?_) fun h5=>?_
 ·have e:marked l=(0,1):=ao aa;rw[e];refine bA ?_;exact⟨rfl,rfl⟩
 ·have h4:4<l.length:=by omega
  have r7:=(l.getD 4 0).toNat_lt;have wJ:=hb.iZ (k:=4) aa;have Ym:(bv l).take (4*1)=bv (l.take 4):=by simp[bv,pn]
  rw[Ym]at wJ;have hv1:(bv l)[4*1]? =some (.int .u8 ((l.getD 4 0).toNat:Int)):=by simp[bv,List.getD,fm h4]
  refine b8 ?_;refine ab (bN (i:=4) (size:=1) underlying27 ag rfl rfl rfl aa) rfl ?_;refine ab (oZ underlying27 underlying5 underlying9 rfl aB) rfl ?_;refine b8 ?_;refine aj (fun jF=>?_) fun jF=>?_
  ·have e:marked l=(0,3):=by unfold marked;rw[aw aa,ao (fun h=>jF (by rw[h];rfl))]
   rw[e];refine bA ?_;exact⟨rfl,rfl⟩
  ·have jF:l.take 4=dY:=kR.1 jF;refine b8 ?_;refine ab (aC (i:=4) (size:=1) underlying27 ag rfl rfl rfl aa aB) rfl ?_;refine ab (au ag rfl aB aa hv1) rfl ?_;refine aF ?_;refine ai rfl (nL ((l.getD 4 0).toNat:Int) 1 3) ?_;refine be ?_;refine ve [0,4,16] ?_;refine aF ?_;refine aj (fun kh=>?_) fun kh=>?_
   ·have e:marked l=(0,4):=by unfold marked;rw[aw aa,aw (fun h=>h jF),ao kh]
    rw[e];refine bA ?_;exact⟨rfl,rfl⟩
   ·have e:marked l=(((l.getD 4 0).toNat:Int),0):=by unfold marked;rw[aw aa,aw (fun h=>h jF),aw kh]
    rw[e];refine bL ?_;refine ab (aC (i:=4) (size:=1) underlying27 ag rfl rfl rfl aa aB) rfl ?_;refine ab (au ag rfl aB aa hv1) rfl ?_;refine bL ?_;exact⟨rfl,rfl⟩
section
section
variable{C:Cx}{fr:Fr}{L:aP}{x y:Operand}{f:Ch→aP}{t e ty:TypeId}{k:IntKind}{m n:Int}{v:Value}
theorem uj(z:Array Value):∀(nn:Nat),(madeCells z (nn*z.size)).toList=(List.replicate nn z.toList).flatten
 |0=>by simp[madeCells]
 |nn+1=>by
  have ih:=uj z nn;rw[List.replicate_succ',List.flatten_append,←ih];simp only[v_,List.flatten_nil,gk];apply pV
  ·simp[madeCells,j0]
  ·intro i h1 h2;simp only[madeCells,Array.toList_map,Array.toList_range,Ev,GX];by_cases hi:i<nn*z.size
   ·rw[List.getElem_append_left (by simpa[madeCells]using hi)];simp
   ·have hz:i<(nn+1)*z.size:=by simpa[madeCells]using h1
    rw[j0]at hz;rw[List.getElem_append_right bR];obtain⟨j,rfl⟩:∃j,i=nn*z.size+j:=⟨i-nn*z.size,aa⟩
    have hj:j<z.size:=by omega
    simp only[eK,vZ,yb,nE nn,Nat.mul_add_mod,ja hj];simp[getElem!_pos,hj]
theorem H7{size bytes:Nat}{zv:Value}(T:sC C.P t e size bytes zv){k':IntKind}{nn cc:Nat}(he:ev fr x=some (.int k m))(hm:m=(nn:Int))(hy:ev fr y=some (.int k' n))(hn:n=(cc:Int))(hle:nn≤cc)(jT:bytes*cc≤281474976710656)(GF:cc≤281474976710656):
  qp C fr L (.makeSlice t x y) ty (fun p L'=>∃A,p= .slice A nn cc∧L'= .own e size A nn cc (List.replicate nn zv.cells.toList).flatten::L):=fun a w ha hw d pos af gg=>by
 subst hm;subst hn;obtain⟨i,hi,hz,i_,D8⟩:=T.hi;have hr:=run_make (P:=C.P) w t e i zv T.ht hi hz k k' (nn:Int) (cc:Int) aa aa (by rw[D8,←z6];omega) aa;simp only[nB,i_]at hr;have hzs:=T.hz;have l0:∀q:Nat,((List.replicate q zv.cells.toList).flatten).length=q*size:=fun q=>by
  rw[List.length_flatten,List.map_replicate,List.sum_replicate_nat,N1,hzs]
 refine⟨.slice (some ⟨w.heap.size,0,none⟩) nn cc,w.alloc (.cells (madeCells zv.cells (cc*size)) e),_,.inl (by simp[execOp,ha.tmp he,ha.tmp hy,hr]),⟨some ⟨w.heap.size,0,none⟩,rfl,rfl⟩,hw.gL (Kt w _ none) ⟨l0 nn,hle,?_⟩ ?_⟩
 ·by_cases qF:cc=0
  ·exact .inl qF
  ·refine .inr ⟨_,_,rfl,hw.base,Es w _,Bl,by simp[madeCells],?_⟩;rw[←hzs,uj];obtain⟨d,rfl⟩:∃d,cc=nn+d:=⟨cc-nn,aa⟩
   have e2:(List.replicate (nn+d) zv.cells.toList).flatten=(List.replicate nn zv.cells.toList).flatten++(List.replicate d zv.cells.toList).flatten:=by
    rw[←List.flatten_append,←List.replicate_append_replicate]
   rw[e2];exact po (by rw[l0,hzs])
 ·by_cases qF:cc=0
  ·left;simp[Ch.fp,qF]
  ·right;exact⟨w.heap.size,Hp,gj _⟩
theorem aeC{α:Type}{L us:List α}{j kk N:Nat}(hj:j+kk≤N)(hk:us.length=kk)(hN:N≤L.length):(L.take j++us++L.drop (j+kk)).take N=(L.take N).take j++us++(L.take N).drop (j+kk):=by
 have hl:(L.take j).length=j:=by rw[eS];omega
 rw[bV,N7,hl,fL aa,N7,hk,fL (by omega:us.length≤N-j),Ix,za aa,RP,←bV,show N-j-kk=N-(j+kk) by omega]
theorem DL{size nn c j:Nat}{A:bj}{xs us:cV}(kk:Nat)(hs:pj C.P t kk=true)(he:ev fr x=some (.pointer (A.map (·.add j))))(hv:ev fr y=some (.agg us.toArray))(h1:∀u∈us,u.oneCell'=true)(hk:us.length=kk)(hm:mC (.own e size A nn c xs) L f)(hj:j+kk≤xs.length)(h0:0<kk):
  qp C fr L (.store t x y) ty (fun p L'=>L'=f (.own e size A nn c (xs.take j++us++xs.drop (j+kk)))):=fun a w ha hw d pos af gg=>by
 obtain⟨q1,q2,q3⟩:=hw.all _ hm.mem;have qF:¬c=0:=fun h=>by
  have:nn=0:=by omega
  subst this;rw[r']at q1;omega
 obtain⟨g,cur,rfl,k1,k2,k3,k4,k5⟩:=q3.resolve_left qF;have GH:(⟨g,0,none⟩:Addr).add j=⟨g,j,none⟩:=by rw[zW,mq]
 have r7:xs.length≤cur.size:=by
  have:=ek List.length k5;rw[eS,N1]at this;omega
 have hr:=run_storeCells_at (P:=C.P) g j e us 0 cur w k2 aa h1;have i_:(C.P.info? t).map (·.size)=some kk:=by
  have h:=hs;unfold pj at h;rw[zZ]at h;have h2:=h.2;rw[beq_iff_eq]at h2;exact h2
 obtain⟨i,hi,hii⟩:∃i,C.P.info? t=some i∧i.size=kk:=by
  cases hq:C.P.info? t with
  |none=>rw[hq]at i_;cases i_
  |some i=>rw[hq]at i_;exact⟨i,rfl,by simpa using i_⟩
 have s7:(storeVar t ⟨g,j,none⟩ (.agg us.toArray)).run C.P w= .ok () (w.setRow g (cur.toList.take (j+0)++us++cur.toList.drop (j+0+us.length)).toArray):=by
  simp[storeVar,sizeOf,typeInfo,hi,hii,Value.cells,hk,hr]
 refine⟨undef,w.setRow g (cur.toList.take (j+0)++us++cur.toList.drop (j+0+us.length)).toArray,_,.inr ⟨?_,rfl⟩,rfl,?_⟩
 ·have he':ev fr x=some (.pointer (some ⟨g,j,none⟩)):=by rw[he];simp[GH]
  simp[execOp,Instr.storeAt,Instr.sureAddr,ha.tmp he',ha.tmp hv,s7]
 ·have P4:(Ch.own e size (some ⟨g,0,none⟩) nn c xs).fp=some g:=by simp[Ch.fp,qF]
  refine hw.Qb hm ?_ (fun _=>⟨?_,q2,.inr ⟨g,_,rfl,k1,N0 w g cur _ e _ k2,k3,?_,?_⟩⟩) (.inr (.inl rfl))
  ·rw[P4];exact⟨rfl,rfl,rfl,ak,fun k _ hk=>N2 w g k _ (fun e=>hk xq)⟩
  ·simp only[aY,eS,iG];omega
  ·simp only[wR,aY,eS,iG,N1];rw[←k4];omega
  ·have e2:=aeC (L:=cur.toList) (us:=us) (j:=j) (kk:=kk) (N:=nn*size) aa hk (by rw[N1];omega);rw[k5]at e2;simp only[ta,hk];exact e2
end
theorem sk{xs us:cV}{j n:Nat}(h:(xs.drop j).take n=us):∀(q:Nat) (u:Value),us[q]? =some u→xs[j+q]? =some u:=by
 subst h;intro q u hu;rw[GR]at hu;split at hu
 ·rwa [k_7]at hu
 ·cases hu
end
section
section
variable{fr:Fr}{L L':aP}{g:Nat}{bt:TypeId}{cs:cV}{f:Ch→aP}
theorem ql{P:Program}{fn:Func}{R:qI}{q u s kk:Nat}{ty:TypeId}(hr:fn.results= #[.cell q ty,.tmp u,.tmp s])(hq:look q fr=some (br g))(hs:pj P ty kk=true)(hm:mC (.bD g bt cs) L f)(hk:cs.length=kk){v x:Value}(hu:look u fr=some v)(hx:look s fr=some x)(Yy:Wk L L')(h:R (.tuple #[.agg cs.toArray,v,x]) L'):Cp P fn R .ret fr L:=fun B w0 a w ha hw=>by
 subst hk;refine⟨_,L',?_,h,Yy.sl hw⟩;have hl:=kG (P:=P) (w:=w) (p:=⟨g,0,none⟩) hs (fun j u hj=>aaZ);simp[results,hr,ha.at_ _ _ hq,ha.at_ _ _ hu,ha.at_ _ _ hx,asAddr,hl]
theorem nk{P:Program}{fn:Func}{R:qI}{q u s t kk:Nat}{ty:TypeId}(hr:fn.results= #[.cell q ty,.tmp u,.tmp s,.tmp t])(hq:look q fr=some (br g))(hs:pj P ty kk=true)(hm:mC (.bD g bt cs) L f)(hk:cs.length=kk){v x y:Value}(hu:look u fr=some v)(hx:look s fr=some x)(hy:look t fr=some y)(Yy:Wk L L')(h:R (.tuple #[.agg cs.toArray,v,x,y]) L'):Cp P fn R .ret fr L:=fun B w0 a w ha hw=>by
 subst hk;refine⟨_,L',?_,h,Yy.sl hw⟩;have hl:=kG (P:=P) (w:=w) (p:=⟨g,0,none⟩) hs (fun j u hj=>aaZ);simp[results,hr,ha.at_ _ _ hq,ha.at_ _ _ hu,ha.at_ _ _ hx,ha.at_ _ _ hy,asAddr,hl]
theorem KQ{P:Program}{fn:Func}{R:qI}{q u s t r kk:Nat}{ty:TypeId}(hr:fn.results= #[.cell q ty,.tmp u,.tmp s,.tmp t,.tmp r])(hq:look q fr=some (br g))(hs:pj P ty kk=true)(hm:mC (.bD g bt cs) L f)(hk:cs.length=kk){v x y z:Value}(hu:look u fr=some v)(hx:look s fr=some x)(hy:look t fr=some y)(hz:look r fr=some z)(Yy:Wk L L')(h:R (.tuple #[.agg cs.toArray,v,x,y,z]) L'):Cp P fn R .ret fr L:=fun B w0 a w ha hw=>by
 subst hk;refine⟨_,L',?_,h,Yy.sl hw⟩;have hl:=kG (P:=P) (w:=w) (p:=⟨g,0,none⟩) hs (fun j u hj=>aaZ);simp[results,hr,ha.at_ _ _ hq,ha.at_ _ _ hu,ha.at_ _ _ hx,ha.at_ _ _ hy,ha.at_ _ _ hz,asAddr,hl]
theorem J1{C:Cx}{fr:Fr}{L:aP}{x y:Operand}{t ty e:TypeId}{size bytes:Nat}{zv:Value}(T:sC C.P t e size bytes zv){A:bj}{n c:Nat}{xs:cV}(he:ev fr x=some (.slice A n c))(hx:aJ C.B C.w0 L size (.slice A n c) n xs)(h0:0<n){yv:Value}{m:Nat}{news:cV}(hy:ev fr y=some yv)(hb:aJ C.B C.w0 L size yv m news)(h1:∀u∈news,u.oneCell'=true)(Nt:c<n+m)(jT:(n+m)*bytes≤140737488355328)(GF:n+m≤140737488355328):
  qp C fr L (.call {callee:=.builtin .append,args:= #[x,y],argTypes:= #[t,t]}) ty (fun p L'=>∃A' c',p= .slice A' (n+m) c'∧L'= .own e size A' (n+m) c' (xs++news)::L):=fun a w ha hw d pos af gg=>by
 obtain⟨i,hi,hz,i_,D8⟩:=T.hi;subst i_ D8;obtain⟨X0,c0,e0,hnc,k1,hrx⟩:=hx w hw;injection e0 with e1 e2 e3;subst e1;subst e3;obtain⟨a0,ea,hab,holds⟩:=hrx h0;subst ea;obtain⟨X,cx,rfl,hmc,hl,tW⟩:=hb w hw;have hm0:0<m:=by omega
 obtain⟨ad,eX,_,D_⟩:=tW hm0;subst eX;have al1:n+m≤maxLen:=by unfold maxLen;omega
 have hlen:(xs++news).length=(n+m)*i.size:=by rw[aY,k1,hl,mH]
 have wH:=grownCap_ge w (n+m) c e;have hr:=run_append_grow (P:=C.P) w t ty e i zv T.ht hi hz a0 n c xs k1 holds ad m cx news hl D_ aa aa (growslice_fits aa jT);have big:wk (w.drew.alloc (.cells (xs.toArray++news.toArray++Builtin.zeroCells zv.cells (grownCap w (n+m) c e-(n+m))) e)) C.B e i.size (some ⟨w.heap.size,0,none⟩) (n+m) (grownCap w (n+m) c e) (xs++news):=by
  refine⟨hlen,wH,.inr ⟨w.heap.size,_,rfl,hw.base,Es w.drew _,grownCap_le_maxLen w (n+m) c e al1,?_,?_⟩⟩
  ·simp only[Array.size_append,wR,size_zeroCells,T.hz,k1,hl,←mH];congr 1;omega
  ·simp only[Array.toList_append,bV];rw[←bV,←hlen];exact yf
 refine⟨_,_,_,.inl ?_,⟨_,_,rfl,rfl⟩,hw.gL ?_ big ?_⟩
 ·simp[execOp,resolve,invoke,builtin,ha.tmp he,ha.tmp hy,hr]
 ·exact⟨rfl,rfl,rfl,ak,fun k hk _=>heap_alloc_old w.drew _ hk⟩
 ·right;have:¬grownCap w (n+m) c e=0:=by omega
  exact⟨_,by simp[Ch.fp,this],gj _⟩
theorem pd{C:Cx}{x y:Operand}{t ty:TypeId}{o:Nat}{us:cV}(kk:Nat)(hs:pj C.P t kk=true)(he:ev fr x=some (.pointer (some ⟨g,o,none⟩)))(hv:ev fr y=some (.agg us.toArray))(h1:∀u∈us,u.oneCell'=true)(hm:mC (.bD g bt cs) L f)(hk:us.length=kk)(ho:o+kk≤cs.length):
  qp C fr L (.store t x y) ty (fun p L'=>L'=f (.bD g bt (cs.take o++us++cs.drop (o+kk)))):=fun a w ha hw d pos af gg=>by
 have hb:=(hw.all _ hm.mem).2;have hr:=run_storeCells_at (P:=C.P) g o bt us 0 cs.toArray w hb bR h1;have i_:(C.P.info? t).map (·.size)=some kk:=by
  have h:=hs;unfold pj at h;rw[zZ]at h;have h2:=h.2;rw[beq_iff_eq]at h2;exact h2
 obtain⟨i,hi,hii⟩:∃i,C.P.info? t=some i∧i.size=kk:=by
  cases hq:C.P.info? t with
  |none=>rw[hq]at i_;cases i_
  |some i=>rw[hq]at i_;exact⟨i,rfl,by simpa using i_⟩
 simp only[ta]at hr;have s7:(storeVar t ⟨g,o,none⟩ (.agg us.toArray)).run C.P w= .ok () (w.setRow g (cs.take o++us++cs.drop (o+us.length)).toArray):=by
  simp[storeVar,sizeOf,typeInfo,hi,hii,Value.cells,hk,hr]
 rw[←hk];refine⟨undef,w.setRow g (cs.take o++us++cs.drop (o+us.length)).toArray,_,.inr ⟨?_,rfl⟩,rfl,?_⟩
 ·simp[execOp,Instr.storeAt,Instr.sureAddr,ha.tmp he,ha.tmp hv,s7]
 ·refine hw.Qb hm ?_ (fun⟨q1,q2⟩=>⟨q1,?_⟩) (.inr (.inl rfl))
  ·exact⟨rfl,rfl,rfl,ak,fun k _ hk=>N2 w g k _ (fun e=>hk C6)⟩
  ·exact N0 w g cs.toArray _ bt _ q2
end
end
section
theorem Ss(x y:aR)(w:World):(Op.equalIn 10000 23 (.agg (aR.cells x).toArray) (.agg (aR.cells y).toArray)).run Tryz.prog w= .ok (decide (x=y)) w:=by
 have p0:=fun(z:aR) w=>gh (P:=Tryz.prog) (t:=3) (xs:=(aR.cells z).toArray) (off:=0) (v:=ah z.1) ag rfl w;have p1:=fun(z:aR) w=>gh (P:=Tryz.prog) (t:=4) (xs:=(aR.cells z).toArray) (off:=1) (v:=.bool z.2.1) ag rfl w;have p2:=fun(z:aR) w=>gh (P:=Tryz.prog) (t:=3) (xs:=(aR.cells z).toArray) (off:=2) (v:=ah z.2.2.1) ag rfl w;have p3:=fun(z:aR) w=>gh (P:=Tryz.prog) (t:=3) (xs:=(aR.cells z).toArray) (off:=3) (v:=ah z.2.2.2.1) ag rfl w;have p4:=fun(z:aR) w=>gh (P:=Tryz.prog) (t:=3) (xs:=(aR.cells z).toArray) (off:=4) (v:=ah z.2.2.2.2.1) ag rfl w;have p5:=fun(z:aR) w=>gh (P:=Tryz.prog) (t:=3) (xs:=(aR.cells z).toArray) (off:=5) (v:=ah z.2.2.2.2.2) ag rfl w;have q0:=fun(a b:Int) w=>run_equalIn_int (P:=Tryz.prog) w 9998 3 .i64 .i64 a b underlying3;have q1:=fun(a b:Bool) w=>run_equalIn_bool' (P:=Tryz.prog) w 9998 4 a b underlying4;rw[run_equalIn_agg w 9999 _ _ _ ag ag];simp only[Program.fieldsOf,underlying23];simp[Op.eqFields,p0,p1,p2,p3,p4,p5];rw[q0];obtain⟨a,b,s,f,t,u⟩:=x;obtain⟨a',b',s',f',t',u'⟩:=y;by_cases h0:a=a'
 ·have e0:(a==a')=true:=by simp[h0]
  simp only[e0,s_];rw[q1];by_cases h1:b=b'
  ·have e1:(b==b')=true:=by simp[h1]
   simp only[e1,s_];rw[q0];by_cases h2:s=s'
   ·have e2:(s==s')=true:=by simp[h2]
    simp only[e2,s_];rw[q0];by_cases h3:f=f'
    ·have e3:(f==f')=true:=by simp[h3]
     simp only[e3,s_];rw[q0];by_cases h4:t=t'
     ·have e4:(t==t')=true:=by simp[h4]
      simp only[e4,s_];rw[q0];by_cases h5:u=u'
      ·simp[h0,h1,h2,h3,h4,h5]
      ·have h':(u==u')=false:=by rw[re];exact h5
       simp[h5,h']
     ·have h':(t==t')=false:=by rw[re];exact h4
      simp[h4,h']
    ·have h':(f==f')=false:=by rw[re];exact h3
     simp[h3,h']
   ·have h':(s==s')=false:=by rw[re];exact h2
    simp[h2,h']
  ·have h':(b==b')=false:=by rw[re];exact h1
   simp[h1,h']
 ·have h':(a==a')=false:=by rw[re];exact h0
  simp[h0,h']
section
variable{C:Cx}{fr:Fr}{L:aP}{x y:Operand}{ty yt:TypeId}{p q:aR}
theorem tJ(hP:C.P=Tryz.prog)(p q:aR)(h1:ev fr x=some (.agg (aR.cells p).toArray))(h2:ev fr y=some (.agg (aR.cells q).toArray)):gI C fr L (.binOp .eql 23 x y yt) ty (.bool (decide (p=q))):=fun a w ha hw d pos af g=>by
 have he:(eqGuard .eql 23 x y (.agg (aR.cells p).toArray) (.agg (aR.cells q).toArray)).run C.P w= .ok () w:=by rw[hP];exact run_eqGuard_agg w .eql _ x y _ _ ag
 have e1:(binOp .eql 23 (.agg (aR.cells p).toArray) (.agg (aR.cells q).toArray)).run C.P w= .ok (.bool (decide (p=q))) w:=by
  rw[hP,run_eql_struct,Ss];simp
 simp only[execOp,ha.tmp h1,ha.tmp h2,Kr,he,e1,s_,GS]
end
theorem ux{v:Int}{o:aR}(h:v=1∨v=2∨v=3)(h2:¬nV v o):cB v o=9:=by unfold cB;rw[ao h,aw h2]
theorem Sr{v:Int}{o:aR}(h:v=1∨v=2∨v=3)(h2:nV v o):cB v o=0:=by unfold cB;rw[ao h,ao h2]
theorem amU{v:Int}{o:aR}(h:¬(v=1∨v=2∨v=3)):cB v o=4:=by unfold cB;rw[aw h]
theorem kD(v:Int)(o:aR):a_ B w0 61 [ah v,.agg (aR.cells o).toArray] F (fun r L=>r=ah (cB v o)∧L=F):=by
 obtain⟨bl,pl,bu,da,pa,ch⟩:=o;refine ct func61 45 rfl rfl rfl [(0,ah v),(1,.agg #[ah bl,.bool pl,ah bu,ah da,ah pa,ah ch])] ⟨⟨rfl,rfl⟩,⟨rfl,rfl⟩,trivial⟩ ?_;refine be ?_;refine bh fun g3=>?_;refine bL ?_;refine ai rfl (nL bl 16 32768) ?_;refine bz ?_;refine bc fun g6=>?_;refine ahh ?_;refine aj (fun mA=>?_) fun mA=>?_
 ·refine bQ ?_;refine cP (fun pR=>?_) fun pR=>?_
  ·refine be ?_;refine ai rfl (ZO (bl,pl,bu,da,pa,ch)) ?_;refine cY ?_;refine ve [3,5,6] ?_;refine bz ?_;refine cP (fun ka=>?_) fun ka=>?_
   ·refine b8 ?_;refine ai rfl (nL bu 1 64) ?_;refine dQ ?_;refine cP (fun GD=>?_) fun GD=>?_
    ·refine bA ?_;refine ab (bw [(0,_),(1,_)] [ah 0,.bool false,ah 0,ah 0,ah 0,ah 0] [0,1] [_,_,_,_,_,_] rfl rfl ag) rfl ?_;refine aF ?_;refine ab (tJ rfl (bl,pl,0,0,0,0) (bl,pl,0,0,0,0) rfl rfl) rfl ?_;refine be ?_;refine ve [5] ?_;refine bA ?_;refine ab (iQ rfl) rfl ?_;refine be ?_;refine gD (fun tQ=>?_) fun tQ=>?_
     ·refine bL ?_;refine aq (.skip (.skip (.refl _))) ?_;refine aF ?_
      (exfalso;simp at tQ;done)
     ·refine bJ ?_;refine aq (.skip (.skip (.refl _))) ?_;refine aF ?_
      (refine⟨ek (Value.int .i64) (Sr aa ⟨(by assumption),fun _=>by assumption,fun _=>by assumption,fun h=>absurd mA h,fun h=>aa⟩).symm,rfl⟩;done)
    ·refine bJ ?_;refine ve [5] ?_;refine Ke ?_;refine aq (.skip (.skip (.refl _))) ?_;refine aF ?_;exact⟨ek (Value.int .i64) (ux aa (fun h=>GD (h.2.2.1 (.inl mA)))).symm,rfl⟩
   ·refine alE ?_;refine ve [5] ?_;refine Ke ?_;refine aq (.skip (.skip (.refl _))) ?_;refine aF ?_;exact⟨ek (Value.int .i64) (ux aa (fun h=>ka (h.2.1 mA))).symm,rfl⟩
  ·refine cJ ?_;refine ve [3,5,6] ?_;refine apQ ?_;refine ve [5] ?_;refine Ke ?_;refine aq (.skip (.skip (.refl _))) ?_;refine aF ?_;exact⟨ek (Value.int .i64) (ux aa (fun h=>pR h.1)).symm,rfl⟩
 ·refine bQ ?_;refine aj (fun kg=>?_) fun kg=>?_
  ·refine cY ?_;refine cP (fun ka=>?_) fun ka=>?_
   ·refine b8 ?_;refine ai rfl (nL bu 1 64) ?_;refine be ?_;refine ve [3,5,6] ?_;refine cY ?_;refine cP (fun GD=>?_) fun GD=>?_
    ·refine bA ?_;refine ab (bw [(0,_),(1,_)] [ah 0,.bool false,ah 0,ah 0,ah 0,ah 0] [0,1] [_,_,_,_,_,_] rfl rfl ag) rfl ?_;refine aF ?_;refine ab (tJ rfl (bl,pl,0,da,pa,ch) (bl,pl,0,0,0,0) rfl rfl) rfl ?_;refine de ?_;refine ab (iQ rfl) rfl ?_;refine be ?_;refine gD (fun tQ=>?_) fun tQ=>?_
     ·refine bF ?_;refine ve [4] ?_;refine bF ?_;refine aq (.skip (.skip (.refl _))) ?_;refine aF ?_
      (refine⟨ek (Value.int .i64) (ux aa (fun h=>?_)).symm,rfl⟩;have k:=h.2.2.2.1 aa;simp only at k;simp[k.1,k.2.1,k.2.2]at tQ;done)
     ·refine bG ?_;refine ve [4] ?_;refine be ?_;refine aq (.skip (.skip (.refl _))) ?_;refine aF ?_
      (simp at tQ;exact⟨ek (Value.int .i64) (Sr aa ⟨(by assumption),fun h=>by omega,fun _=>by assumption,fun _=>tQ,fun h=>aa⟩).symm,rfl⟩)
    ·refine ahh ?_;refine ve [4] ?_;refine bF ?_;refine aq (.skip (.skip (.refl _))) ?_;refine aF ?_;exact⟨ek (Value.int .i64) (ux aa (fun h=>GD (h.2.2.1 (.inr kg)))).symm,rfl⟩
   ·refine b8 ?_;refine ve [3,5,6] ?_;refine arS ?_;refine ve [4] ?_;refine bF ?_;refine aq (.skip (.skip (.refl _))) ?_;refine aF ?_;exact⟨ek (Value.int .i64) (ux aa (fun h=>ka h.1)).symm,rfl⟩
  ·refine bJ ?_;refine aj (fun kh=>?_) fun kh=>?_
   ·refine cJ ?_;refine cP (fun GD=>?_) fun GD=>?_
    ·refine bA ?_;refine ab (bw [(0,_),(1,_)] [ah 0,.bool false,ah 0,ah 0,ah 0,ah 0] [0,1] [_,_,_,_,_,_] rfl rfl ag) rfl ?_;refine aF ?_;refine ab (tJ rfl (bl,pl,bu,da,pa,ch) (bl,pl,0,0,0,0) rfl rfl) rfl ?_;refine be ?_;refine ve [5] ?_;refine bA ?_;refine ab (iQ rfl) rfl ?_;refine be ?_;refine gD (fun tQ=>?_) fun tQ=>?_
     ·refine bL ?_;refine aq (.skip (.skip (.refl _))) ?_;refine aF ?_
      (refine⟨ek (Value.int .i64) (ux aa (fun h=>?_)).symm,rfl⟩;have k:=h.2.2.2.1 aa;have k2:=h.2.2.2.2 aa;simp only at k k2;simp[k.1,k.2.1,k.2.2,k2]at tQ;done)
     ·refine bJ ?_;refine aq (.skip (.skip (.refl _))) ?_;refine aF ?_
      (simp at tQ;exact⟨ek (Value.int .i64) (Sr aa ⟨(by assumption),fun h=>by omega,fun h=>by omega,fun _=>tQ.2,fun _=>tQ.1⟩).symm,rfl⟩)
    ·refine bJ ?_;refine ve [5] ?_;refine Ke ?_;refine aq (.skip (.skip (.refl _))) ?_;refine aF ?_;exact⟨ek (Value.int .i64) (ux aa (fun h=>GD h.1)).symm,rfl⟩
   ·refine jy ?_;refine ve [4] ?_;refine bG ?_;refine aq (.skip (.skip (.refl _))) ?_;refine aF ?_;exact⟨ek (Value.int .i64) (amU aa).symm,rfl⟩
end
theorem L4{P:Prop}(h:P:=by(simp[Value.oneCell'])):P:=h
theorem alu(p:Bool):a_ B w0 64 [.bool p] F (fun r L=>r= .int .u8 ((if p then (1:UInt8) else 0).toNat:Int)∧L=F):=by
 refine fw func64 4 [0] ?_;refine cY ?_;refine gD (fun h3=>?_) fun h3=>?_
 ·refine bJ ?_;exact⟨by rw[h3];rfl,rfl⟩
 ·refine bQ ?_;exact⟨by rw[h3];rfl,rfl⟩
theorem R5(v:Int):a_ B w0 62 [ah v] F (fun r L=>∃A' c',r= .tuple #[.slice A' (qf v).1.length c',ah (qf v).2]∧L= .own 5 1 A' (qf v).1.length c' (bv (qf v).1)::F):=by
 refine fw func62 13 [0] ?_;refine bA ?_;refine ai rfl (nL v 1 3) ?_;refine bF ?_;refine aj (fun h6=>?_) fun h6=>?_
 ·have e:qf v=([],4):=by unfold qf;rw[aw h6]
  refine bJ ?_;refine aD 5 1 none ?_;refine aF ?_;rw[e];exact⟨none,0,rfl,rfl⟩
 ·have hw:=bH h6;have hv:v=1∨v=2∨v=3:=by have:=hw.1;have:=hw.2;omega
  have e:qf v=([70,73,82,75,UInt8.ofNat v.toNat],0):=by unfold qf;rw[ao hw];rfl
  have hvv:((UInt8.ofNat v.toNat).toNat:Int)=v:=by rcases hv with rfl|rfl|rfl<;>rfl
  refine b8 ?_;refine cC (aG cD [_,_,_,_] rfl rfl cw aa aa) fun A7=>?_;refine lL (J3 underlying27 underlying5 rfl aV aa) rfl ?_;rintro _ _ ⟨g8,cur,kk,rfl,hA8,asB,asm,r7,rfl⟩;subst hA8;refine aF ?_;refine ab (bm underlying3 underlying5 rfl (r:=v) (by rcases hv with rfl|rfl|rfl<;>rfl)) rfl ?_;refine cC (aG cD [_] rfl rfl cw aa aa) fun tz=>?_;refine fN (J1 cD rfl (aJ.obj (.tail _ (List.Mem.head _)) asB asm r7) aa rfl (aJ.own (.head _)) L4 aa aa aa) fun PN c12=>?_;refine bG ?_;refine aq (.cons (.skip (.skip (.refl _)))) ?_;refine aF ?_;rw[e];refine⟨PN,c12,rfl,?_⟩;simp[bv];omega
section
open Go.RowKit Go.WideMaps
abbrev K3:=UInt8×UInt8×UInt8
def Ge(k:K3):Value:=.agg #[.int .u8 (k.1.toNat:Int),.int .u8 (k.2.1.toNat:Int),.int .u8 (k.2.2.toNat:Int)]
theorem ahI{a b:K3}(h:Ge a=Ge b):a=b:=by
 obtain⟨a1,a2,a3⟩:=a;obtain⟨b1,b2,b3⟩:=b;simp only[Ge,Value.agg.injEq,Array.mk.injEq,List.cons.injEq,Value.int.injEq,true_and,and_true,Int.natCast_inj]at h;obtain⟨h1,h2,h3⟩:=h;rw[ra.1 h1,ra.1 h2,ra.1 h3]
theorem YP{P:Program}{k e:TypeId}{q:IntKind}(A:ArrKey P k e 3)(he:P.underlying e=some (.int q))(i_:∃m,P.types.size=m+1){a b c:Int}(wa:(Lit.int q a).wf=true)(wb:(Lit.int q b).wf=true)(wc:(Lit.int q c).wf=true):
  keyOf P k (.agg #[.int q a,.int q b,.int q c])=some (.string (keyBytes [.int q a,.int q b,.int q c])):=by
 have hkt:=A.keyType i_;obtain⟨m,hm⟩:=i_;unfold keyOf;simp only[A.hu];rw[ao (by simp[hkt,Value.formed,A.hu,A.size]),hm];unfold Program.keyLits;simp only[A.hu,Value.cells];rw[ao (by rw[A.size];rfl),show List.range 3=[0,1,2] from rfl,List.mapM_cons,List.mapM_cons,List.mapM_cons,List.mapM_nil];simp[A.one,Program.keyLits,he,wa,wb,wc]
theorem wf_u8(c:UInt8):(Lit.int .u8 (c.toNat:Int)).wf=true:=by
 have:=c.toNat_lt;have h:∀n:Fin 256,(Lit.int .u8 ((n:Nat):Int)).wf=true:=by decide+kernel
 exact h ⟨c.toNat,aa⟩
structure aaD(P:Program)(t k e:TypeId):Prop where
 um:P.underlying t=some (.map k e)
 A:ArrKey P k 5 3
 he:P.underlying 5=some (.int .u8)
 sz:∃m,P.types.size=m+1
 z:∀w,(zeroValue e).run P w= .ok (ah 0) w
theorem aaD.key{P:Program}{t k e:TypeId}(T:aaD P t k e)(x:K3):∃l,keyOf P k (Ge x)=some l:=⟨_,YP T.A T.he T.sz (wf_u8 _) (wf_u8 _) (wf_u8 _)⟩
structure Gj(es:List MapEntry)(b:al)(m:Nat):Prop where
 ent:∀x∈es,∃(k:K3) (p:Nat),x.key=Ge k∧x.val=ah (p:Int)∧eT b k m=some p
 all:∀(k:K3) (p:Nat),eT b k m=some p→∃x∈es,x.key=Ge k
 nd:es.Pairwise fun x y=>x.key≠y.key
theorem Gj.nil(b:al):Gj [] b 0:=⟨fun x h=>absurd h ak,fun k p h=>absurd h (by simp[eT]),List.Pairwise.nil⟩
theorem Gj.skip{es:List MapEntry}{b:al}{m:Nat}(h:Gj es b m)(hm:b.length<m+3):Gj es b (m+1):=by
 have e:∀k,eT b k (m+1)=eT b k m:=fun k=>by rw[eT,aw aa]
 refine⟨fun x hx=>?_,fun k p hk=>h.all k p (by rw[←e];exact hk),h.nd⟩;obtain⟨k,p,h1,h2,h3⟩:=h.ent x hx;exact⟨k,p,h1,h2,by rw[e];exact h3⟩
abbrev lkp(o:Option Nat):Value:=.tuple #[ah ((o.getD 0:Nat):Int),.bool o.isSome]
section
variable{C:Cx}{fr:Fr}{L:aP}{x y z:Operand}{f:Ch→aP}{t k e ty:TypeId}{g:Nat}{es:List MapEntry}{cl m:Nat}{b:al}{s:K3}
theorem XS(b:al):qp C fr L (.makeMap t none) ty (fun p L'=>∃g es cl,p= .map (some g)∧Gj es b 0∧L'= .obj g (.map es.toArray cl)::L):=fun a w ha hw d pos af gg=>
 ⟨.map (some w.heap.size),w.alloc (.map #[] 0),.obj w.heap.size (.map #[] 0)::L,.inl (by simp[execOp,run_makeMap_plain]),⟨w.heap.size,[],0,rfl,Gj.nil b,rfl⟩,
  hw.gL (Kt w _ none) ⟨hw.base,(MapKept.heap_alloc w (.map #[] 0)).1⟩ (.inr ⟨_,rfl,gj _⟩)⟩
theorem HV(T:aaD C.P t k e)(hm:ev fr x=some (.map (some g)))(hx:ev fr y=some (Ge s))(hs:mC (.obj g (.map es.toArray cl)) L f)(hk:Gj es b m):
  gI C fr L (.lookup t x y true) ty (lkp (eT b s m)):=fun a w ha hw d pos af gg=>by
 have hb:w.heap[g]? =some (.map es.toArray cl):=(hw.all _ hs.mem).2;obtain⟨l,hl⟩:=T.key s;have hc:∀em,(Instr.checkKey em 10000 k (Ge s)).run C.P w= .ok () w:=fun em=>T.A.law.check w em hl;have hf:=T.A.law.find w hl es fun en hen=>by
  obtain⟨k',p,h1,_,_⟩:=hk.ent en hen;rw[h1];exact T.key k'
 rcases hf with⟨hf,NC⟩|⟨j,en,hf,hj,wK⟩
 ·have hn:eT b s m=none:=by
   cases hh:eT b s m with
   |none=>rfl
   |some p=>
    obtain⟨en,hen,hke⟩:=hk.all s p hh;exact absurd hke (NC en hen)
  rw[hn];simp[execOp,ha.tmp hm,ha.tmp hx,Instr.lookup,iO T.um,BK hb,hc,hf,T.z,Result.andThen,lkp]
 ·obtain⟨k',p,h1,h2,h3⟩:=hk.ent en (List.mem_of_getElem? hj);have Rq:k'=s:=ahI (h1.symm.trans wK);subst Rq;rw[h3];simp[execOp,ha.tmp hm,ha.tmp hx,Instr.lookup,iO T.um,BK hb,hc,hf,Result.andThen,h2,lkp]
theorem Gj.put{es:List MapEntry}{b:al}{m j:Nat}{en:MapEntry}(h:Gj es b m)(hm:m+3≤b.length)(hj:es[j]? =some en)(hk:en.key=Ge (iC b m)):Gj (es.modify j fun e=>{e with key:=Ge (iC b m),val:=ah (m:Int)}) b (m+1):=by
 have hjl:j<es.length:=(zY.1 hj).1;have hje:es[j]=en:=(zY.1 hj).2;have hnd:=rb.1 h.nd;have wK:∀i (hi:i<es.length),((es.modify j fun e=>{e with key:=Ge (iC b m),val:=ah (m:Int)})[i]'C5).key=es[i].key:=fun i hi=>by
  rw[List.getElem_modify];split
  ·rename_i e;subst e;rw[hje,hk]
  ·rfl
 refine⟨fun x hx=>?_,fun k p hp=>?_,?_⟩
 ·obtain⟨i,hi,rfl⟩:=jZ hx;have P6:i<es.length:=by simpa using hi
  rw[List.getElem_modify];by_cases e:j=i
  ·rw[ao e];exact⟨iC b m,m,rfl,rfl,by rw[eT,ao ⟨hm,rfl⟩]⟩
  ·rw[aw e];obtain⟨k,p,h1,h2,h3⟩:=h.ent es[i] (tY P6);refine⟨k,p,h1,h2,?_⟩;rw[eT,aw ?_];exact h3;rintro⟨_,Ki⟩;have r8:es[j].key≠es[i].key:=by
    rcases Nat.lt_or_gt_of_ne e with q|q
    ·exact hnd j i hjl P6 q
    ·exact fun e2=>hnd i j P6 hjl q e2.symm
   exact r8 (by rw[hje,hk,h1,Ki])
 ·rw[eT]at hp;by_cases hc:m+3≤b.length∧iC b m=k
  ·refine⟨(es.modify j fun e=>{e with key:=Ge (iC b m),val:=ah (m:Int)})[j]'(by simpa using hjl),tY _,?_⟩;rw[wK j hjl,hje,hk,hc.2]
  ·rw[aw hc]at hp;obtain⟨x,hx,YA⟩:=h.all k p hp;obtain⟨i,hi,rfl⟩:=jZ hx;exact⟨(es.modify j fun e=>{e with key:=Ge (iC b m),val:=ah (m:Int)})[i]'C5,tY _,by rw[wK i hi];exact YA⟩
 ·refine rb.2 fun i i2 hi hi2 fE=>?_;have h1:i<es.length:=by simpa using hi
  have h2:i2<es.length:=by simpa using hi2
  rw[wK i h1,wK i2 h2];exact hnd i i2 h1 h2 fE
theorem Gj.add{es:List MapEntry}{b:al}{m n:Nat}(h:Gj es b m)(hm:m+3≤b.length)(NC:∀e∈es,e.key≠Ge (iC b m)):Gj (es++[{key:=Ge (iC b m),val:=ah (m:Int),born:=n}]) b (m+1):=by
 refine⟨fun x hx=>?_,fun k p hp=>?_,?_⟩
 ·rcases dz.1 hx with hx|hx
  ·obtain⟨k,p,h1,h2,h3⟩:=h.ent x hx;refine⟨k,p,h1,h2,?_⟩;rw[eT,aw ?_];exact h3;rintro⟨_,Ki⟩;exact NC x hx (by rw[h1,Ki])
  ·rw[lF.1 hx];exact⟨iC b m,m,rfl,rfl,by rw[eT,ao ⟨hm,rfl⟩]⟩
 ·rw[eT]at hp;by_cases hc:m+3≤b.length∧iC b m=k
  ·exact⟨_,ny _ (lF.2 rfl),by rw[hc.2]⟩
  ·rw[aw hc]at hp;obtain⟨x,hx,YA⟩:=h.all k p hp;exact⟨x,j8 _ hx,YA⟩
 ·refine sP.2 ⟨h.nd,Vo _ _,fun x hx y hy=>?_⟩;rw[lF.1 hy];exact NC x hx
theorem MZ(T:aaD C.P t k e)(hm:ev fr x=some (.map (some g)))(hx:ev fr y=some (Ge (iC b m)))(hv:ev fr z=some (ah (m:Int)))(hs:mC (.obj g (.map es.toArray cl)) L f)(hk:Gj es b m)(hb3:m+3≤b.length):
  qp C fr L (.mapUpdate t x y z) ty (fun p L'=>∃es' cl',Gj es' b (m+1)∧L'=f (.obj g (.map es'.toArray cl'))):=fun a w ha hw d pos af gg=>by
 have hb:w.heap[g]? =some (.map es.toArray cl):=(hw.all _ hs.mem).2;obtain⟨l,hl⟩:=T.key (iC b m);have hc:∀em,(Instr.checkKey em 10000 k (Ge (iC b m))).run C.P w= .ok () w:=fun em=>T.A.law.check w em hl;have hf:=T.A.law.find w hl es fun en hen=>by
  obtain⟨k',p,h1,_,_⟩:=hk.ent en hen;rw[h1];exact T.key k'
 have fE:=(k_3.1 hb).1;have nN:∀o,SL C.B C.w0 (f (.obj g o)) {w with heap:=w.heap.setIfInBounds g o}:=fun o=>
  hw.Qb hs ⟨rfl,rfl,rfl,ak,fun j _ hj=>by
   have:g≠j:=fun e=>hj C6;simp[this]⟩ (fun h=>⟨h.1,by simp[fE]⟩) (.inr (.inl rfl))
 rcases hf with⟨hf,NC⟩|⟨j,en,hf,hj,wK⟩
 ·refine⟨undef,_,_,.inr ⟨?_,rfl⟩,⟨es++[{key:=Ge (iC b m),val:=ah (m:Int),born:=cl}],cl+1,hk.add hb3 NC,rfl⟩,nN _⟩;simp[execOp,ha.tmp hm,ha.tmp hx,ha.tmp hv,Instr.mapUpdate,iO T.um,BK hb,hc,hf,MapKept.run_setObj_map _ hb,Result.andThen]
 ·have hky:=T.A.law.stays w hl;have Ki:((es.toArray[j]?).map (·.key)).getD (Ge (iC b m))=Ge (iC b m):=by
   rw[List.getElem?_toArray,hj];exact wK
  refine⟨undef,_,_,.inr ⟨?_,rfl⟩,⟨es.modify j fun e=>{e with key:=Ge (iC b m),val:=ah (m:Int)},cl,hk.put hb3 hj wK,rfl⟩,nN _⟩;simp only[execOp,ha.tmp hm,ha.tmp hx,ha.tmp hv,Instr.mapUpdate];simp[iO T.um,BK hb,hc,hf,Result.andThen];simp at Ki;simp[Ki,hky,MapKept.run_setObj_map _ hb]
end
theorem k3T:aaD Tryz.prog 298 350 3:=⟨ag,⟨ag,ag,ag,ag⟩,ag,⟨Tryz.prog.types.size-1,ag⟩,fun w=>ag⟩
end
def bO.cells(t:bO):cV:=[.int .u8 (t.1.toNat:Int),ah t.2.1,ah t.2.2]
theorem adt(t:bO):a_ B w0 281 [.agg (bO.cells t).toArray] F (fun r L=>r= .bool (decide (e_ t))∧L=F):=by
 obtain⟨x,n,d⟩:=t;have hx:x=0↔((x.toNat:Nat):Int)=0:=⟨fun h=>by rw[h];rfl,fun h=>ra.1 (show x.toNat=(0:UInt8).toNat from by have e:(0:UInt8).toNat=0:=rfl;omega)⟩
 have hp:¬n=0→(e_ (x,n,d)↔((x.toNat:Nat):Int)=0∧3≤n∧n≤257∧1≤d∧d≤4095):=fun h=>by unfold e_;rw[aw h];exact and_congr hx Iff.rfl
 have hz:n=0→(e_ (x,n,d)↔d=0):=fun h=>by unfold e_;rw[ao h]
 refine ct func281 32 rfl rfl rfl [(0,.agg #[.int .u8 (x.toNat:Int),ah n,ah d])] ⟨⟨rfl,rfl⟩,trivial⟩ ?_;refine be ?_;refine bh fun g1=>?_;refine cY ?_;refine aj (fun h5=>?_) fun h5=>?_
 ·refine bA ?_;refine aq (L':=F) (.skip (.refl _)) ?_;refine aF ?_;exact⟨ek Value.bool (z7.2 (hz h5).symm),rfl⟩
 ·refine b8 ?_;refine bW 23 31 [] (((x.toNat:Nat):Int)=0∧3≤n∧n≤257∧1≤d∧d≤4095) ?_ ?_
  ·refine b8 ?_;refine cP (fun mA=>?_) fun mA=>?_
   ·refine bL ?_;refine cP (fun iF=>?_) fun iF=>?_
    ·refine bL ?_;refine cP (fun rJ=>?_) fun rJ=>?_
     ·refine bL ?_;refine cP (fun ka=>?_) fun ka=>?_
      ·refine bz ?_;exact aQ oS
      ·refine bF ?_;exact aQ wu
     ·refine bJ ?_;exact aQ wu
    ·refine de ?_;exact aQ wu
   ·refine tP ?_;exact aQ wu
  ·refine b8 ?_;refine aq (L':=F) (.skip (.refl _)) ?_;refine aF ?_;exact⟨ek Value.bool (z7.2 (hp h5).symm),rfl⟩
section
variable{gm:Nat}
theorem aoE{P:Prop}(h:P:=by(rintro _ _ ⟨es6,cl6,hk6,rfl⟩;exact gF)):P:=h
theorem an3{P:Prop}(h:P:=by(exact eU (by first|exact fun h=>absurd h.1 (by omega)|exact fun h=>absurd h.2.1 (by omega)|exact⟨fun h=>⟨by omega,by omega,Lb.1 h⟩,fun h=>Lb.2 h.2.2⟩))):P:=h
theorem b_0{P:Prop}(h:P:=by(first|rfl|exact eF (by first|exact(fun⟨x,hx,_⟩=>by rw[LC.VJ qx]at hx;cases hx)|exact(fun⟨x,hx,_⟩=>by rw[LC.VK (by omega)]at hx;cases hx)|exact(fun⟨y,hy,RF,_⟩=>by injection hy with hy;omega)|exact⟨fun h=>⟨x,rfl,by omega,by omega⟩,fun⟨y,hy,RF,hy3⟩=>by omega⟩)|exact eU (by first|exact(fun⟨x,hx,_⟩=>by rw[LC.VJ qx]at hx;cases hx)|exact(fun⟨x,hx,_⟩=>by rw[LC.VK (by omega)]at hx;cases hx)|exact(fun⟨y,hy,RF,_⟩=>by injection hy with hy;omega)|exact⟨fun h=>⟨x,rfl,by omega,by omega⟩,fun⟨y,hy,RF,hy3⟩=>by omega⟩)|exact dN (by first|exact(fun⟨x,hx,_⟩=>by rw[LC.VJ qx]at hx;cases hx)|exact(fun⟨x,hx,_⟩=>by rw[LC.VK (by omega)]at hx;cases hx)|exact(fun⟨y,hy,RF,_⟩=>by injection hy with hy;omega)|exact⟨fun h=>⟨x,rfl,by omega,by omega⟩,fun⟨y,hy,RF,hy3⟩=>by omega⟩)|exact qK (by first|exact(fun⟨x,hx,_⟩=>by rw[LC.VJ qx]at hx;cases hx)|exact(fun⟨x,hx,_⟩=>by rw[LC.VK (by omega)]at hx;cases hx)|exact(fun⟨y,hy,RF,_⟩=>by injection hy with hy;omega)|exact⟨fun h=>⟨x,rfl,by omega,by omega⟩,fun⟨y,hy,RF,hy3⟩=>by omega⟩))):P:=h
theorem De{k:Nat}(h:k<b.length):(bv b)[k*1]? =some (.int .u8 ((b.getD k 0).toNat:Int)):=by
 rw[cE];simp[bv,List.getD,fm h]
def uA(b:al)(p:Nat):Int:=if p+3≤b.length then (match eT b (iC b p) p with|some q=>(q:Int)|none=>-1) else-1
def qk(b:al)(m:Nat):List Int:=(List.range m).map (uA b)
@[simp] theorem anR(b:al)(m:Nat):(qk b m).length=m:=by simp[qk]
theorem wY(b:al)(m:Nat):qk b (m+1)=qk b m++[uA b m]:=by simp[qk,lj]
theorem IV{b:al}{m p:Nat}(h:p<m):(ints .i64 (qk b m))[p*1]? =some (ah (uA b p)):=by
 rw[cE];simp[ints,qk,h]
theorem ad9{m:Nat}(h:¬m+3≤b.length):ints .i64 (qk b m)++[Value.int .i64 (-1)]=ints .i64 (qk b (m+1)):=by
 rw[wY];simp[ints,uA,h]
theorem Zv{m:Nat}(h:m+3≤b.length)(hn:eT b (iC b m) m=none):ints .i64 (qk b m)++[Value.int .i64 (-1)]=ints .i64 (qk b (m+1)):=by
 rw[wY];simp[ints,uA,hn]
theorem Zw{m p:Nat}(h:m+3≤b.length)(hp:eT b (iC b m) m=some p):(ints .i64 (qk b m)++[Value.int .i64 (-1)]).set (m*1) (ah (((eT b (iC b m) m).getD 0:Nat):Int))=ints .i64 (qk b (m+1)):=by
 rw[wY,cE,wS _ _ ak,hp];simp[ints,uA,h,hp]
abbrev Ck(g gm:Nat)(es:List MapEntry)(cl:Nat)(A:bj)(c:Nat)(b:al)(m:Nat)(F:aP):aP:=
 .bD g 300 [.map (some gm),.slice A m c]:: .own 3 1 A m c (ints .i64 (qk b m)):: .obj gm (.map es.toArray cl)::F
theorem aj_{at_:Nat}(hb:eM B w0 F A c b)(h:at_+3≤b.length)(hl:b.length≤1000000):
  a_ B w0 250 [.slice A b.length c,ah at_] F (fun r L=>r=Ge (iC b at_)∧L=F):=by
 refine dL.xf hb fun mh _=>?_;refine fw func250 20 [0,1] ?_;refine be ?_;refine bc fun g4=>?_;refine bF ?_;refine cF F ?_;refine ae 0 ?_;refine ae 1 ?_;refine ae 2 ?_;refine aW 3 rfl (au ag rfl aB aa (De aa)) ?_;refine ae 4 ?_;refine ae 5 ?_;refine ae 6 ?_;refine aW 7 rfl (aC (i:=at_+1) underlying27 ag rfl rfl aa aa aB) ?_;refine aW 8 rfl (au ag rfl aB aa (De aa)) ?_;refine ae 9 ?_;refine ae 10 ?_;refine ae 11 ?_;refine aW 12 rfl (aC (i:=at_+2) underlying27 ag rfl rfl aa aa aB) ?_;refine aW 13 rfl (au ag rfl aB aa (De aa)) ?_;refine aW 14 rfl (eG [(0,_),(1,_),(2,_)] [_,_,_] rfl rfl ag) ?_;refine az 15 ?_;refine aF ?_;refine cQ [4] ?_;refine be ?_;refine I2 rfl rfl ag aV gC (.skip (.refl _)) ?_;exact⟨rfl,rfl⟩
theorem anZ{at_:Nat}(hb:eM B w0 F A2 c2 b)(hk:Gj es b at_)(GI:at_<b.length)(hl:b.length≤1000000):
  a_ B w0 207 [br g,.slice A2 b.length c2,ah at_] (Ck g gm es cl A c b at_ F)
   (fun r L=>∃es' cl' A' c',r= .tuple #[]∧Gj es' b (at_+1)∧L=Ck g gm es' cl' A' c' b (at_+1) F):=by
 refine fw func207 49 [0,1,2] ?_;refine bL ?_;refine dE fJ rfl rfl rfl rfl rfl (fun _=>rfl) aV aa aa ?_;intro _ Bh JH;refine jy ?_;refine aj (fun rJ=>?_) fun rJ=>?_
 ·refine be ?_;refine aq (L':=Ck g gm es cl Bh JH b (at_+1) F) (bq rfl (ax rfl (ad9 aa) (.refl _))) ?_;refine aF ?_;exact⟨es,cl,Bh,JH,rfl,hk.skip aa,rfl⟩
 ·refine bz ?_;refine ai rfl (aj_ aB aa hl) ?_;refine bc fun g6=>?_;refine aF ?_;refine ve [0,2,6] ?_;refine bQ ?_;refine b7 (HV k3T rfl rfl aV hk) rfl ?_;refine cJ ?_;refine gD (fun qV=>?_) fun qV=>?_
  ·obtain⟨p,hp⟩:=Option.isSome_iff_exists.1 qV;have hpa:=ll hp;refine bQ ?_;refine ve [0,2,6] ?_;refine aF ?_;refine cF (.bD g6 350 [.int .u8 ((b.getD at_ 0).toNat:Int),.int .u8 ((b.getD (at_+1) 0).toNat:Int),.int .u8 ((b.getD (at_+2) 0).toNat:Int)]:: .bD g 300 [.map (some gm),.slice Bh (at_+1) JH]::F) ?_;refine ae 0 ?_;refine ae 1 ?_;refine ae 2 ?_;refine ae 3 ?_;refine ae 4 ?_;refine ae 5 ?_;refine az 6 ?_;refine kN rfl .no (MZ k3T rfl rfl rfl aV hk aa) aoE ?_;rintro _ _ ⟨es6,cl6,hk6,rfl⟩;refine be ?_;refine aq (L':=Ck g gm es6 cl6 Bh JH b (at_+1) F) (.trans ((gl (gl (gl (.skip (.refl _)))))) (bq rfl (ax rfl (Zw aa hp) (.refl _)))) ?_;refine aF ?_;exact⟨es6,cl6,Bh,JH,rfl,hk6,rfl⟩
  ·refine be ?_;refine cF (.bD g6 350 [.int .u8 ((b.getD at_ 0).toNat:Int),.int .u8 ((b.getD (at_+1) 0).toNat:Int),.int .u8 ((b.getD (at_+2) 0).toNat:Int)]:: .bD g 300 [.map (some gm),.slice Bh (at_+1) JH]::F) ?_;refine ae 0 ?_;refine ae 1 ?_;refine ae 2 ?_;refine ae 3 ?_;refine ae 4 ?_;refine ae 5 ?_;refine az 6 ?_;refine kN rfl .no (MZ k3T rfl rfl rfl aV hk aa) aoE ?_;rintro _ _ ⟨es6,cl6,hk6,rfl⟩;refine cQ [] ?_;refine aF ?_;refine aq (L':=Ck g gm es6 cl6 Bh JH b (at_+1) F) (.trans ((gl (gl (gl (.skip (.refl _)))))) (bq rfl (ax rfl (Zv aa (by simpa using qV)) (.refl _)))) ?_;refine aF ?_;exact⟨es6,cl6,Bh,JH,rfl,hk6,rfl⟩
theorem Lb{x y:UInt8}:((x.toNat:Nat):Int)=(y.toNat:Int)↔x=y:=⟨fun h=>ra.1 aa,fun h=>by rw[h]⟩
theorem Xd{p a n:Nat}(hn:n<257)(h:a+n<b.length)(he:b.getD (p+n) 0=b.getD (a+n) 0):mO b p a (257-n) n=mO b p a (257-(n+1)) (n+1):=by
 rw[show 257-n=(257-(n+1))+1 by omega,mO,ao ⟨hn,h,he⟩]
theorem Qi{p a n:Nat}(hn:n≤257)(h:¬(n<257∧a+n<b.length∧b.getD (p+n) 0=b.getD (a+n) 0)):mO b p a (257-n) n=n:=by
 by_cases e:n=257
 ·subst e;rfl
 ·rw[show 257-n=(257-(n+1))+1 by omega,mO,aw h]
theorem age{p a:Nat}(hb:eM B w0 F A c b)(hp:p<a)(ha:a<b.length)(hl:b.length≤1000000):
  a_ B w0 251 [.slice A b.length c,ah p,ah a] F (fun r L=>r=ah (oP b p a)∧L=F):=by
 refine fw func251 36 [0,1,2] ?_;refine cJ ?_;refine aE (fun zf zL zm=>∃(n:Nat),(n≤257∧mO b p a (257-n) n=oP b p a)∧257-n=zm∧Sub zf [(0,.slice A b.length c),(1,ah p),(2,ah a),(7,ah n)]∧Wk zL (F)) _ ⟨0,⟨bT _,rfl⟩,rfl,bp,.refl _⟩ ?_;rintro _ _ _ ⟨n,⟨hn,hN⟩,rfl,hs,hp⟩;refine aU hs hp ?_;clear hs hp;refine bF ?_;refine xW 25 32 [0,1,2,7] (n<257∧a+n<b.length∧b.getD (p+n) 0=b.getD (a+n) 0) ?_ ?_
 ·refine bF ?_;refine jR rfl rfl rfl (fun jF=>?_) (fun jF=>?_)
  ·refine de ?_;refine jR rfl rfl rfl (fun jk=>?_) (fun jk=>?_)
   ·refine bJ ?_;refine b7 (aC (i:=p+n) underlying27 ag rfl rfl aa aa aB) rfl ?_;refine aF ?_;refine b7 (au ag rfl aB aa (De aa)) rfl ?_;refine bQ ?_;refine b7 (aC (i:=a+n) underlying27 ag rfl rfl aa aa aB) rfl ?_;refine aF ?_;refine b7 (au ag rfl aB aa (De aa)) rfl ?_;refine bF ?_;exact nS (by exact dN (by first|exact fun h=>absurd h.1 (by omega)|exact fun h=>absurd h.2.1 (by omega)|exact⟨fun h=>⟨by omega,by omega,Lb.1 h⟩,fun h=>Lb.2 h.2.2⟩))
   ·refine de ?_;exact nS an3
  ·refine Ke ?_;exact nS an3
 ·refine be ?_;refine aj (fun Bw=>?_) fun Bw=>?_
  ·refine bQ ?_;refine av ⟨_,aa,n+1,⟨aa,by rw[←Xd Bw.1 Bw.2.1 Bw.2.2];exact hN⟩,rfl,bp,.refl _⟩
  ·have hNe:oP b p a=n:=by rw[←hN];exact Qi hn Bw
   refine de ?_;exact⟨by rw[hNe],rfl⟩
theorem Y3{a f n d:Nat}{p:Option Nat}(h:¬(∃x,p=some x∧a-x≤4095∧n<257)):sR b a f p n d=(n,d):=by
 cases f with
 |zero=>rfl
 |succ f=>
  cases p with
  |none=>rfl
  |some x=>rw[sR,aw fun hc=>h ⟨x,rfl,hc⟩]
def amV(o:Option Nat):Int:=match o with|some x=>(x:Int)|none=>-1
theorem Zu{x:Nat}(h:x+3≤b.length):uA b x=amV (eT b (iC b x) x):=by
 unfold uA amV;rw[ao h]
theorem yh{k:K3}:∀{m p:Nat},eT b k m=some p→p+3≤b.length
 |0,p,h=>by cases h
 |m+1,p,h=>by
  unfold eT at h;split at h
  ·rename_i hc;injection h with h;omega
  ·exact yh h
def Sk(b:al)(a:Nat)(o:Option Nat)(q:Int):Prop:=((eT b (iC b a) a).isSome=true∧q=amV o)∨((eT b (iC b a) a).isSome=false∧o=none)
theorem Sk.start{a:Nat}:Sk b a (eT b (iC b a) a) (((eT b (iC b a) a).getD 0:Nat):Int):=by
 unfold Sk;cases eT b (iC b a) a with
 |none=>exact .inr ⟨rfl,rfl⟩
 |some x=>exact .inl ⟨rfl,rfl⟩
theorem Sk.get{a:Nat}{o:Option Nat}{q:Int}(h:Sk b a o q)(h1:(eT b (iC b a) a).isSome=true)(h2:q≠-1):∃x:Nat,o=some x∧q=x:=by
 rcases h with⟨_,h⟩|⟨h,_⟩
 ·cases o with
  |none=>exact absurd h h2
  |some x=>exact⟨x,rfl,h⟩
 ·rw[h]at h1;cases h1
theorem Sk.VJ{a:Nat}{o:Option Nat}{q:Int}(h:Sk b a o q)(h1:(eT b (iC b a) a).isSome=false):o=none:=by
 rcases h with⟨h,_⟩|⟨_,h⟩
 ·rw[h]at h1;cases h1
 ·exact h
theorem Sk.VK{a:Nat}{o:Option Nat}{q:Int}(h:Sk b a o q)(h1:q=-1):o=none:=by
 rcases h with⟨_,h⟩|⟨_,h⟩
 ·cases o with
  |none=>rfl
  |some x=>
   have:q=(x:Int):=h;omega
 ·exact h
theorem Sk.aqW{a x:Nat}{o:Option Nat}{q:Int}(h:Sk b a o q)(h1:o=some x)(h2:x+3≤b.length):Sk b a (eT b (iC b x) x) (uA b x):=by
 rcases h with⟨h,_⟩|⟨_,h⟩
 ·exact .inl ⟨h,Zu h2⟩
 ·rw[h]at h1;cases h1
theorem Sk.val{a x:Nat}{q:Int}(h:Sk b a (some x) q):q=x:=by
 rcases h with⟨_,h⟩|⟨_,h⟩
 ·exact h
 ·cases h
theorem adm{a f n d x:Nat}(h:a-x≤4095∧n<257):sR b a (f+1) (some x) n d=sR b a f (eT b (iC b x) x) (if n<oP b x a then oP b x a else n) (if n<oP b x a then a-x else d):=by
 rw[sR,ao h];split<;>rfl
theorem Y4{a:Nat}(hb:eM B w0 F A2 c2 b)(hk:Gj es b a)(ha:a<b.length)(hl:b.length≤1000000):
  a_ B w0 206 [br g,.slice A2 b.length c2,ah a] (Ck g gm es cl A c b a F)
   (fun r L=>r= .tuple #[ah (dC b a).1,ah (dC b a).2]∧L=Ck g gm es cl A c b a F):=by
 have ahr:b.length<a+3→dC b a=(0,0):=fun h=>by rw[dC,ao h]
 refine fw func206 62 [0,1,2] ?_;refine jS ?_;refine aj (fun jG=>?_) fun jG=>?_
 ·refine bQ ?_;exact⟨by rw[ahr aa];rfl,rfl⟩
 ·have hlg:dC b a=sR b a a (eT b (iC b a) a) 0 0:=by rw[dC,aw aa]
  refine bA ?_;refine iU apa rfl (aj_ aB aa hl) vv rfl ?_;refine b7 (HV k3T rfl rfl aV hk) rfl ?_;refine bQ ?_;refine aE (fun zf zL zm=>∃(o:Option Nat) (q:Int) (f n d:Nat),((∀x,o=some x→x<f)∧(∀x,o=some x→x+3≤b.length∧x<a)∧Sk b a o q∧sR b a f o n d=dC b a∧n≤257∧d≤a)∧f=zm∧Sub zf [(0,br g),(1,.slice A2 b.length c2),(2,ah a),(6,ah n),(7,ah d),(8,ah q),(9,.bool (eT b (iC b a) a).isSome)]∧Wk zL (Ck g gm es cl A c b a F)) _ ⟨eT b (iC b a) a,(((eT b (iC b a) a).getD 0:Nat):Int),a,0,0,⟨fun x h=>ll h,fun x h=>⟨yh h,ll h⟩,Sk.start,hlg.symm,bT _,bT _⟩,rfl,bp,.refl _⟩ ?_;rintro _ _ _ ⟨o,q,f,n,d,⟨hof,hox,LC,P7,hn,hd⟩,rfl,hs,hp⟩;refine aU hs hp ?_;clear hs hp;refine bF ?_;refine bW 15 41 [0,1,2,6,7,8,9] (∃x,o=some x∧a-x≤4095∧n<257) ?_ ?_
  ·refine be ?_;refine my rfl rfl rfl (fun qx=>?_) (fun qx=>?_)
   ·refine bG ?_;refine cP (fun Bw=>?_) fun Bw=>?_
    ·obtain⟨x,rfl,rfl⟩:=LC.get qx Bw;obtain⟨hx3,hx4⟩:=hox x rfl;refine bQ ?_;refine cP (fun Cz=>?_) fun Cz=>?_
     ·refine b8 ?_;exact aQ b_0
     ·refine be ?_;exact aQ b_0
    ·refine bJ ?_;exact aQ b_0
   ·refine cJ ?_;exact aQ b_0
  ·refine be ?_;refine aj (fun zM=>?_) fun zM=>?_
   ·obtain⟨x,rfl,LD,hx2⟩:=zM;obtain⟨hx3,hx4⟩:=hox x rfl;have hxf:=hof x rfl;obtain⟨f',rfl⟩:∃f',f=f'+1:=⟨f-1,aa⟩
    obtain rfl:=LC.val;have Ga:=Hh b x a;have wI:=adm (b:=b) (a:=a) (f:=f') (d:=d) (x:=x) ⟨LD,hx2⟩;rw[P7]at wI;refine bQ ?_;refine ai rfl (age aB hx4 ha hl) ?_;refine bA ?_;refine aj (fun Q_=>?_) fun Q_=>?_
    ·refine jS ?_;refine ab (au ag rfl aB aa (IV aa)) rfl ?_;refine aF ?_;refine ve [0,1,2,6,7,8,9] ?_;refine aF ?_;refine av ⟨_,aa,eT b (iC b x) x,uA b x,f',oP b x a,a-x,⟨fun y hy=>by have:=ll hy;omega,fun y hy=>⟨yh hy,by have:=ll hy;omega⟩,LC.aqW rfl hx3,by rw[ao aa,ao aa]at wI;exact wI.symm,Ga,aa⟩,rfl,bp,.refl _⟩
    ·refine bQ ?_;refine ab (au ag rfl aB aa (IV aa)) rfl ?_;refine aF ?_;refine ve [0,1,2,6,7,8,9] ?_;refine aF ?_;refine av ⟨_,aa,eT b (iC b x) x,uA b x,f',n,d,⟨fun y hy=>by have:=ll hy;omega,fun y hy=>⟨yh hy,by have:=ll hy;omega⟩,LC.aqW rfl hx3,by rw[aw aa,aw aa]at wI;exact wI.symm,hn,hd⟩,rfl,bp,.refl _⟩
   ·have hle:=Y3 (b:=b) (a:=a) (f:=f) (d:=d) zM;rw[P7]at hle;rw[hle];refine jy ?_;exact⟨rfl,rfl⟩
def kT(l:List bO):cV:=l.flatMap bO.cells
theorem Jf(l:List bO)(t:bO):kT (l++[t])=kT l++bO.cells t:=by simp[kT]
theorem XZ{a f:Nat}(h:a<b.length)(h3:¬3≤(dC b a).1):findF b (f+1) a=(b.getD a 0,0,0)::findF b f (a+1):=by
 rw[findF,ao h,aw h3]
theorem Nc{a f:Nat}(h:a<b.length)(h3:3≤(dC b a).1):findF b (f+1) a=(0,((dC b a).1:Int),((dC b a).2:Int))::findF b f (a+(dC b a).1):=by
 rw[findF,ao h,ao h3]
theorem XY{a f:Nat}(h:¬a<b.length):findF b f a=[]:=by
 cases f with
 |zero=>rfl
 |succ f=>rw[findF,aw h]
theorem RX{a:Nat}(h:3≤(dC b a).1):a+(dC b a).1≤b.length∧(dC b a).1≤257∧(dC b a).2≤4095:=by
 obtain⟨h1,h2⟩:=pv b a;obtain⟨k1,k2,k3,k4⟩:=h2 aa;have:=(k4 ((dC b a).1-1) aa).1;exact⟨aa,h1,k3⟩
theorem alr(hb:eM B w0 F A2 c2 b)(hl:b.length≤1000000):
  a_ B w0 145 [.slice A2 b.length c2] F
   (fun r L=>∃A' c',r= .slice A' (jq b).length c'∧L= .own 170 3 A' (jq b).length c' (kT (jq b))::F):=by
 refine fw func145 50 [0] ?_;refine bL ?_;refine lL (XS b) rfl ?_;rintro _ _ ⟨gm,es0,cl0,rfl,CB,rfl⟩;refine ab (bw [(0,_)] [.map none,.slice none 0 0] [0] [_,_] rfl rfl ag) rfl ?_;refine bh fun Ih=>?_;refine b8 ?_;refine aZ 3 1 none ?_;refine bz ?_;refine aZ 170 3 none ?_;refine bG ?_;refine aE (fun zf zL zm=>∃(a f:Nat) (acc:List bO) (es:List MapEntry) (cl:Nat) (A3:bj) (c3:Nat) (A4:bj) (c4:Nat),(a≤b.length∧b.length-a≤f∧acc++findF b f a=jq b∧Gj es b a∧acc.length≤a)∧f=zm∧Sub zf [(0,.slice A2 b.length c2),(3,br Ih),(4,.slice A4 acc.length c4),(5,ah a)]∧Wk zL (.own 170 3 A4 acc.length c4 (kT acc)::Ck Ih gm es cl A3 c3 b a F)) _ ⟨0,b.length,[],es0,cl0,none,0,none,0,⟨bT _,aa,rfl,CB,gj _⟩,rfl,bp,.trans ((ed (gl (ed (ed (.refl _)))))) (ax rfl rfl (bq rfl (ax rfl rfl (.refl _))))⟩ ?_;rintro _ _ _ ⟨a,f,acc,es,cl,A3,c3,A4,c4,⟨ha,hf,mE,hk,Ga⟩,rfl,hs,hp⟩;refine aU hs hp ?_;clear hs hp;refine bQ ?_;refine aj (fun kh=>?_) fun kh=>?_
 ·obtain⟨f',rfl⟩:∃f',f=f'+1:=⟨f-1,aa⟩
  refine bJ ?_;refine ab (au ag rfl aB aa (De aa)) rfl ?_;refine ab (bw [(0,_)] [.int .u8 0,ah 0,ah 0] [0] [_,_,_] rfl rfl ag) rfl ?_;refine bc fun g6=>?_;refine bJ ?_;refine d_ (fun zf zL=>∃(tl:UInt8) (tn td:Int) (st:Nat),(1≤st∧a+st≤b.length∧findF b (f'+1) a=(tl,tn,td)::findF b f' (a+st))∧Sub zf [(0,.slice A2 b.length c2),(3,br Ih),(4,.slice A4 acc.length c4),(5,ah a),(6,br g6),(7,ah st)]∧Wk zL (.bD g6 170 [.int .u8 (tl.toNat:Int),ah tn,ah td]:: .own 170 3 A4 acc.length c4 (kT acc)::Ck Ih gm es cl A3 c3 b a F)) ?_ ?_
  ·refine bG ?_;refine ai rfl ((Y4 (g:=Ih) aB hk aa hl).perm ((BN (BN (BN (fR (fR (.refl _)))))))) ?_;refine cY ?_;refine ve [0,3,4,5,6,7,8,9,30] ?_;refine aF ?_;refine aj (fun Bv=>?_) fun Bv=>?_
   ·have apS:3≤(dC b a).1:=by omega
    obtain⟨tu,rK,Lz⟩:=RX apS;refine b8 ?_;refine ab (bw [(1,_),(2,_)] [.int .u8 0,ah 0,ah 0] [1,2] [_,_,_] rfl rfl ag) rfl ?_;refine bL ?_;exact bC ⟨0,((dC b a).1:Int),((dC b a).2:Int),(dC b a).1,⟨aa,tu,Nc aa apS⟩,bp,(tx (tx (ed (ed (ed (.refl _))))))⟩
   ·refine aF ?_;exact bC ⟨b.getD a 0,0,0,1,⟨aa,aa,XZ aa aa⟩,bp,(tx (tx (ed (ed (ed (.refl _))))))⟩
  ·rintro _ _ ⟨tl,tn,td,st,⟨acQ,acR,hft⟩,hs,hp⟩;refine aU hs hp ?_;clear hs hp;refine b8 ?_;refine rE akt rfl rfl rfl aa cw rfl rfl rfl (fun _=>rfl) aV aa aa ?_;intro _ LN PR;refine bA ?_;refine aE (fun zf zL zm=>∃(m:Nat) (es2:List MapEntry) (cl2:Nat) (A5:bj) (c5:Nat),(m≤st∧Gj es2 b (a+m))∧st-m=zm∧Sub zf [(0,.slice A2 b.length c2),(3,br Ih),(4,.slice LN (acc.length+1) PR),(5,ah (a+m:Nat)),(39,ah st),(40,ah m)]∧Wk zL (.own 170 3 LN (acc.length+1) PR (kT acc++[.int .u8 (tl.toNat:Int),ah tn,ah td])::Ck Ih gm es2 cl2 A5 c5 b (a+m) F)) _ ⟨0,es,cl,A3,c3,⟨bT _,hk⟩,rfl,bp,(gl (gl (gl (gl (.skip (.refl _))))))⟩ ?_;rintro _ _ _ ⟨m,es2,cl2,A5,c5,⟨hm,Ip⟩,rfl,hs,hp⟩;refine aU hs hp ?_;clear hs hp;refine bz ?_;refine aj (fun zM=>?_) fun zM=>?_
   ·refine bQ ?_;refine aX aoZ rfl ((anZ (g:=Ih) aB Ip aa hl).perm ((l6 (l6 (l6 (fR (.refl _))))))) rfl ?_;rintro _ _ ⟨arM,arC,A45,c45,rfl,ap',cA⟩;obtain rfl:=cA.symm;refine de ?_;refine av ⟨_,aa,m+1,arM,arC,A45,c45,⟨aa,ap'⟩,rfl,bp,(tx (ed (ed (ed (.refl _)))))⟩
   ·obtain rfl:m=st:=by omega
    have wL:(acc++[(tl,tn,td)]).length=acc.length+1:=by simp
    refine bG ?_;refine av ⟨_,aa,a+m,f',acc++[(tl,tn,td)],es2,cl2,A5,c5,LN,PR,⟨aa,aa,by rw[←mE,hft];simp[bV],Ip,aa⟩,rfl,bp,ax aa (by rw[Jf];rfl) (.refl _)⟩
 ·have xj:=XY (b:=b) (a:=a) (f:=f) aa;rw[xj,gk]at mE;subst mE;refine cJ ?_;refine aq (L':=.own 170 3 A4 (jq b).length c4 (kT (jq b))::F) ((ed (.skip (.skip (.skip (.refl _)))))) ?_;refine aF ?_;exact⟨A4,c4,rfl,rfl⟩
end
section
variable{gm:Nat}{l:List bO}
def Jc(l:List bO)(k:Nat):bO:=l.getD k (0,0,0)
theorem FL{k:Nat}(h:k<l.length):((kT l).drop (k*3)).take 3=bO.cells (Jc l k):=by
 induction l generalizing k with
 |nil=>simp at h
 |cons t r ih=>
  cases k with
  |zero=>simp[kT,bO.cells,Jc]
  |succ k=>
   have:=ih (k:=k) nr;have e:kT (t::r)=bO.cells t++kT r:=by simp[kT]
   rw[e,j0,sL (k*3) 3,List.drop_append,mn (by simp[bO.cells]),nA];simpa[bO.cells,Jc]using this
theorem IS(most:Int){out:al}{t:bO}{r:List bO}(h:¬e_ t):ia most out (t::r)=([],7):=by rw[ia,ao h]
theorem IT(most:Int){out:al}{t:bO}{r:List bO}(h:e_ t)(h2:(out.length:Int)<t.2.2):ia most out (t::r)=([],8):=by rw[ia,aw (fun k=>k h),ao h2]
theorem EY(most:Int){out:al}{t:bO}{r:List bO}(h:e_ t)(h2:¬(out.length:Int)<t.2.2)(h3:most-out.length<max 1 t.2.1):ia most out (t::r)=([],6):=by rw[ia,aw (fun k=>k h),aw h2,ao h3]
theorem IU(most:Int){out:al}{t:bO}{r:List bO}(h:e_ t)(h2:¬(out.length:Int)<t.2.2)(h3:¬most-out.length<max 1 t.2.1)(h4:t.2.1=0):ia most out (t::r)=ia most (out++[t.1]) r:=by
 rw[ia,aw (fun k=>k h),aw h2,aw h3,ao h4]
theorem EW(most:Int){out:al}{t:bO}{r:List bO}(h:e_ t)(h2:¬(out.length:Int)<t.2.2)(h3:¬most-out.length<max 1 t.2.1)(h4:¬t.2.1=0):ia most out (t::r)=ia most (lO t.2.2.toNat t.2.1.toNat out) r:=by
 rw[ia,aw (fun k=>k h),aw h2,aw h3,aw h4]
theorem Ds(d:Nat):∀(n:Nat) (out:al),lO d (n+1) out=lO d n out++[(lO d n out).getD ((lO d n out).length-d) 0]
 |0,out=>rfl
 |n+1,out=>by rw[lO,Ds d n,lO]
theorem EG{tl:UInt8}{tn td:Int}(h:e_ (tl,tn,td))(h0:¬tn=0):tl=0∧3≤tn∧tn≤257∧1≤td∧td≤4095:=by
 unfold e_ at h
 rwa [aw h0]at h
def WJ(l:List bO):Prop:=∀t∈l,(-9223372036854775808≤t.2.1∧t.2.1≤9223372036854775807)∧-9223372036854775808≤t.2.2∧t.2.2≤9223372036854775807
theorem am1(hb:aJ B w0 F 3 (.slice A l.length c) l.length (kT l))(hl:l.length≤1000000)(hm1:-9223372036854775808≤most)(wM:most≤1000000)(lf:WJ l):
  a_ B w0 328 [.slice A l.length c,ah most] F
   (fun r L=>∃A' c',r= .tuple #[.slice A' (kF l most).1.length c',ah (kF l most).2]∧L= .own 5 1 A' (kF l most).1.length c' (bv (kF l most).1)::F):=by
 refine fw func328 62 [0,1] ?_;refine de ?_;refine aj (fun jF=>?_) fun jF=>?_
 ·have e:kF l most=([],13):=ao aa;rw[e];refine bJ ?_;refine aD 5 1 none ?_;refine aF ?_;exact⟨none,0,rfl,rfl⟩
 ·have mJ:kF l most=ia most [] l:=aw aa;refine bF ?_;refine aZ 5 1 none ?_;refine de ?_;refine aE (fun zf zL zm=>∃(k:Nat) (out:al) (A6:bj) (c6:Nat),(k≤l.length∧ia most out (l.drop k)=kF l most∧(out.length:Int)≤most)∧l.length-k=zm∧Sub zf [(1,ah most),(6,.slice A6 out.length c6),(11,.slice A l.length c),(12,ah l.length),(13,ah k)]∧Wk zL (.own 5 1 A6 out.length c6 (bv out)::F)) _ ⟨0,[],none,0,⟨bT _,mJ.symm,bR⟩,rfl,bp,.refl _⟩ ?_;rintro _ _ _ ⟨k,out,A6,c6,⟨hk,xl,Kj⟩,rfl,hs,hp⟩;refine aU hs hp ?_;clear hs hp;refine bz ?_;refine aj (fun kg=>?_) fun kg=>?_
  ·obtain⟨⟨tl,tn,td⟩,ht⟩:∃t,t=Jc l k:=⟨_,rfl⟩
   have hd:l.drop k=(tl,tn,td)::l.drop (k+1):=by rw[ht];exact dx aa _
   have htv:=FL (l:=l) (k:=k) aa;rw[←ht]at htv;rw[hd]at xl;obtain⟨⟨ho1,ho2⟩,ho3,ho4⟩:=lf (tl,tn,td) (by rw[ht];exact bg aa _);have ho1:-9223372036854775808≤tn:=ho1;have ho2:tn≤9223372036854775807:=ho2;have ho3:-9223372036854775808≤td:=ho3;have ho4:td≤9223372036854775807:=ho4;refine bL ?_;refine ab (dI 3 ag rfl aB aa [.int .u8 (tl.toNat:Int),ah tn,ah td] (sk htv) rfl) rfl ?_;refine bc fun g8=>?_;refine bJ ?_;refine ai rfl (adt (tl,tn,td)) ?_;refine b8 ?_;refine aj (fun iF=>?_) fun iF=>?_
   ·have ar0:¬e_ (tl,tn,td):=iF;rw[IS most ar0]at xl;rw[←xl];refine dQ ?_;refine aD 5 1 none ?_;refine aq (L':=.own 5 1 none 0 0 []::F) ((ed (.skip (.skip (.refl _))))) ?_;refine aF ?_;exact⟨none,0,rfl,rfl⟩
   ·have fG:e_ (tl,tn,td):=kR.1 iF;refine bA ?_;refine aj (fun lW=>?_) fun lW=>?_
    ·rw[IT most fG lW]at xl;rw[←xl];refine b8 ?_;refine ve [4,5] ?_;refine bQ ?_;refine aD 5 1 none ?_;refine aq (L':=.own 5 1 none 0 0 []::F) ((ed (.skip (.skip (.refl _))))) ?_;refine aF ?_;exact⟨none,0,rfl,rfl⟩
    ·refine b8 ?_;refine ab (JU rfl rfl) rfl ?_;refine bz ?_;refine ve [1,6,8,11,12,13,27] ?_;refine aF ?_;refine aj (fun ka=>?_) fun ka=>?_
     ·rw[EY most fG lW ka]at xl;rw[←xl];refine dQ ?_;refine aD 5 1 none ?_;refine aq (L':=.own 5 1 none 0 0 []::F) ((ed (.skip (.skip (.refl _))))) ?_;refine aF ?_;exact⟨none,0,rfl,rfl⟩
     ·refine cY ?_;refine aj (fun Cz=>?_) fun Cz=>?_
      ·rw[IU most fG lW ka Cz]at xl;have wL:(out++[tl]).length=out.length+1:=by simp
       refine bG ?_;refine dE cD rfl rfl rfl rfl rfl (fun _=>rfl) aV aa aa ?_;intro _ Lp c43;refine cY ?_;refine av ⟨_,aa,k+1,out++[tl],Lp,c43,⟨aa,xl,by rw[aY];simp;omega⟩,rfl,bp,.skip (ax ak Bn (.refl _))⟩
      ·rw[EW most fG lW ka Cz]at xl;obtain⟨uZ,xm,hr3,hr4,hr5⟩:=EG fG Cz;refine bA ?_;refine aE (fun zf zL zm=>∃(m:Nat) (A7:bj) (c7:Nat),((m:Int)≤tn)∧tn.toNat-m=zm∧Sub zf [(1,ah most),(6,.slice A7 (lO td.toNat m out).length c7),(8,br g8),(11,.slice A l.length c),(12,ah l.length),(13,ah k),(45,ah tn),(46,ah m)]∧Wk zL (.bD g8 170 [.int .u8 (tl.toNat:Int),ah tn,ah td]:: .own 5 1 A7 (lO td.toNat m out).length c7 (bv (lO td.toNat m out))::F)) _ ⟨0,A6,c6,aa,rfl,bp,.refl _⟩ ?_;rintro _ _ _ ⟨m,A7,c7,hm,rfl,hs,hp⟩;refine aU hs hp ?_;clear hs hp;refine bz ?_;refine aj (fun U3=>?_) fun U3=>?_
       ·have r7:=oB td.toNat m out;have tR:=Ds td.toNat m out;have hcm:=oB td.toNat (m+1) out;refine cJ ?_;refine ab (aC (i:=(lO td.toNat m out).length-td.toNat) underlying27 ag rfl rfl aa aa aB) rfl ?_;refine ab (au ag rfl aB aa (De (k:=(lO td.toNat m out).length-td.toNat) aa)) rfl ?_;refine dE cD rfl rfl rfl rfl rfl (fun _=>rfl) aV aa aa ?_;intro _ A58 c58;refine bJ ?_;refine av ⟨_,aa,m+1,A58,c58,aa,rfl,bp,bq rfl (ax aa (by rw[tR];simp[bv]) (.refl _))⟩
       ·obtain rfl:tn=m:=by omega
        have r7:=oB td.toNat m out;rw[nB]at xl;refine bA ?_;refine av ⟨_,aa,k+1,lO td.toNat m out,A7,c7,⟨aa,xl,aa⟩,rfl,bp,.skip (.refl _)⟩
  ·rw[mn aa,ia]at xl;rw[←xl];refine dQ ?_;exact⟨A6,c6,rfl,rfl⟩
end
theorem NY:type_of% @List.singleton_append:= @List.singleton_append
def ZS(D:bf)(i j:Nat):bf:=(D.set i (D.getD j 0)).set j (D.getD i 0)
theorem aiR(D:bf)(i j:Nat):(ZS D i j).length=D.length:=by simp[ZS]
theorem tN(P:bf)(x:Nat)(Q:bf):(P++x::Q).getD P.length 0=x:=by simp[bk]
theorem O2(P:bf)(x y:Nat)(Q:bf):(P++x::Q).set P.length y=P++y::Q:=by simp
theorem SQ(P:bf)(x:Nat)(M:bf)(y:Nat)(Q:bf){i j:Nat}(hi:i=P.length)(hj:j=P.length+1+M.length):ZS (P++x::(M++y::Q)) i j=P++y::(M++x::Q):=by
 subst hi;subst hj;have e:P++x::(M++y::Q)=(P++x::M)++y::Q:=by simp
 have e2:P++y::(M++y::Q)=(P++y::M)++y::Q:=by simp
 have hl:P.length+1+M.length=(P++x::M).length:=by simp;omega
 have rK:P.length+1+M.length=(P++y::M).length:=by simp;omega
 unfold ZS;rw[tN];have h1:(P++x::(M++y::Q)).getD (P.length+1+M.length) 0=y:=by rw[e,hl,tN]
 rw[h1,O2,e2,rK,O2];simp
theorem aeQ(D:bf){i j:Nat}(h:i≠j):ZS D i j=ZS D j i:=by
 unfold ZS;rw[List.set_comm _ _ h]
theorem ans(P:bf)(x:Nat)(M:bf)(y:Nat)(Q:bf){i j:Nat}(hi:i=P.length)(hj:j=P.length+1+M.length):ZS (P++x::(M++y::Q)) j i=P++y::(M++x::Q):=by
 rw[aeQ _ aa,SQ P x M y Q hi hj]
def ZT(D:bf)(a b:Nat):Nat→bf
 |0=>D
 |i+1=>ZS (ZT D a b i) (a+i) (b+i)
theorem Wy(D:bf)(a b:Nat):∀i,(ZT D a b i).length=D.length
 |0=>rfl
 |i+1=>by rw[ZT,aiR,Wy D a b i]
theorem Ww(P X M Y Q:bf){a b:Nat}(ha:a=P.length)(hb:b=P.length+X.length+M.length)(hl:X.length=Y.length):∀i,i≤X.length→ZT (P++(X++(M++(Y++Q)))) a b i=P++(Y.take i++(X.drop i++(M++(X.take i++(Y.drop i++Q)))))
 |0,_=>by simp[ZT]
 |i+1,h=>by
  rw[ZT,Ww P X M Y Q ha hb hl i aa,dx (l:=X) aa 0,dx (l:=Y) (k:=i) aa 0,ba (l:=X) aa 0,ba (l:=Y) (k:=i) aa 0];have hyl:(Y.take i).length=i:=by rw[eS];omega
  have P_:(X.take i).length=i:=by rw[eS];omega
  have:=SQ (P++Y.take i) (X.getD i 0) (X.drop (i+1)++(M++X.take i)) (Y.getD i 0) (Y.drop (i+1)++Q) (i:=a+i) (j:=b+i) (by rw[aY,hyl,ha]) (by simp only[aY,iG,hyl,P_];omega);simp only[bV,nC,nA,NY]at this⊢;exact this
theorem K5(P X M Y Q:bf){a b n:Nat}(ha:a=P.length)(hb:b=P.length+X.length+M.length)(hl:X.length=Y.length)(hn:n=X.length):ZT (P++(X++(M++(Y++Q)))) a b n=P++(Y++(M++(X++Q))):=by
 rw[Ww P X M Y Q ha hb hl n aa,fL aa,mn aa,fL aa,mn aa];simp
theorem fV{o:Nat→Nat}{l:bf}{x:Nat}:x∈cU o l↔x∈l:=(gE o l).mem_iff
theorem gX(o:Nat→Nat)(l:bf):(cU o l).length=l.length:=(gE o l).length_eq
abbrev Ri(l:bf):Prop:=l.Pairwise (· < ·)
theorem Ri.nd{l:bf}(h:Ri l):l.Nodup:=h.imp fun h=>by omega
theorem tr.pC{o:Nat→Nat}{a l:bf}(h:tr o a)(hl:l.Nodup)(hm:∀x,x∈a↔x∈l):a=cU o l:=
 tr.ext h (lu o hl) fun x=>(hm x).trans fV.symm
theorem ac5{o:Nat→Nat}{S:bf}{x k:Nat}(hs:tr o S)(h1:∀y∈S.take k,tv o y x)(h2:∀y∈S.drop k,tv o x y):tr o (S.take k++x::S.drop k):=by
 refine sP.2 ⟨hs.sublist (Kv k S),kC.2 ⟨h2,hs.sublist (List.drop_sublist k S)⟩,fun y hy z hz=>?_⟩;rcases fk.1 hz with e|e
 ·subst e;exact h1 y hy
 ·exact rm (h1 y hy) (h2 z e)
theorem Wu{o:Nat→Nat}{S:bf}(hs:tr o S){k:Nat}(hk:k<S.length){x:Nat}(h:tv o (S.getD k 0) x):∀y∈S.take (k+1),tv o y x:=fun y hy=>by
 obtain⟨i,hi,rfl⟩:=jZ hy;rw[eS]at hi;rw[Er];rw[bk,fm hk,vB]at h;by_cases e:i=k
 ·subst e;exact h
 ·exact rm (rb.1 hs i k aa hk aa) h
theorem amd{o:Nat→Nat}{R:bf}{x k:Nat}(hr:Ri (R++[x]))(h1:∀y∈(cU o R).take k,tv o y x)(h2:∀y∈(cU o R).drop k,tv o x y):(cU o R).take k++x::(cU o R).drop k=cU o (R++[x]):=by
 have hn:R.Nodup:=(hr.sublist (vC R [x])).imp fun h=>by omega
 refine tr.pC (ac5 (lu o hn) h1 h2) hr.nd fun y=>?_;have e:y∈cU o R↔y∈(cU o R).take k∨y∈(cU o R).drop k:=by
  conv=>lhs;rw[←jK k (cU o R)]
  exact dz
 rw[dz,fk,dz,lF,←fV (o:=o) (l:=R),e];constructor
 ·rintro(h|h|h)
  ·exact .inl (.inl h)
  ·exact .inr h
  ·exact .inl (.inr h)
 ·rintro((h|h)|h)
  ·exact .inl h
  ·exact .inr (.inr h)
  ·exact .inr (.inl h)
def wx(o:Nat→Nat)(bs:Nat):Nat→bf→bf
 |0,R=>cU o R
 |f+1,R=>if R.length≤bs then cU o R else cU o (R.take bs)++wx o bs f (R.drop bs)
theorem Hu(o:Nat→Nat){bs:Nat}(hb:1≤bs):∀(f g:Nat) (R:bf),R.length≤f→R.length≤g→wx o bs f R=wx o bs g R
 |0,0,R,_,_=>rfl
 |0,g+1,R,h,_=>by rw[wx,wx,ao aa]
 |f+1,0,R,_,h=>by rw[wx,wx,ao aa]
 |f+1,g+1,R,h1,h2=>by
  rw[wx,wx];split
  ·rfl
  ·rw[Hu o hb f g (R.drop bs) kQ kQ]
def wv(o:Nat→Nat)(bs:Nat)(R:bf):bf:=wx o bs R.length R
theorem mT{o:Nat→Nat}{bs:Nat}{R:bf}(h:R.length≤bs):wv o bs R=cU o R:=by
 unfold wv;cases e:R.length with
 |zero=>rfl
 |succ f=>rw[wx,ao h]
theorem qJ{o:Nat→Nat}{bs:Nat}{R:bf}(hb:1≤bs)(h:bs≤R.length):wv o bs R=cU o (R.take bs)++wv o bs (R.drop bs):=by
 by_cases e:R.length=bs
 ·rw[mT aa,fL aa,mn aa];simp[wv,wx,cU]
 ·conv=>lhs;rw[wv,show R.length=(R.length-1)+1 by omega]
  rw[wx,aw aa,wv];congr 1;exact Hu o hb _ _ _ kQ aa
theorem Mi(o:Nat→Nat)(bs:Nat):∀(f:Nat) (R:bf),(wx o bs f R).length=R.length
 |0,R=>gX o R
 |f+1,R=>by
  rw[wx];split
  ·exact gX o R
  ·rw[aY,gX,Mi o bs f,eS,iG];omega
theorem aa5(o:Nat→Nat)(bs:Nat)(R:bf):(wv o bs R).length=R.length:=Mi o bs _ R
theorem O8{o:Nat→Nat}{c1 c2:bf}(h:(c1++c2).Nodup):cU o (cU o c1++cU o c2)=cU o (c1++c2):=by
 have hn:(cU o c1++cU o c2).Nodup:=((List.Perm.append (gE o c1) (gE o c2)).nodup_iff).2 h;refine tr.pC (lu o hn) h fun x=>?_;rw[fV,dz,dz,fV,fV]
theorem alJ{o:Nat→Nat}{U1 U2 V1 V2:bf}(hn:((U1++U2)++(V1++V2)).Nodup)(h:∀x∈U1++V1,∀y∈U2++V2,tv o x y):cU o (U1++V1)++cU o (U2++V2)=cU o ((U1++U2)++(V1++V2)):=by
 have hp:((U1++U2)++(V1++V2)).Perm ((U1++V1)++(U2++V2)):=by
  rw[bV,bV];refine List.Perm.append_left U1 ?_;rw[←bV,←bV];exact List.Perm.append_right V2 IE
 have tU:=hp.nodup_iff.1 hn;obtain⟨n1,n2,_⟩:=List.nodup_append.1 tU;refine tr.pC (sP.2 ⟨lu o n1,lu o n2,fun x hx y hy=>h x (fV.1 hx) y (fV.1 hy)⟩) hn fun x=>?_;rw[dz,fV,fV,←dz];exact hp.symm.mem_iff
theorem O7{o:Nat→Nat}{l:bf}(h:tr o l)(hn:l.Nodup):cU o l=l:=(tr.pC h hn fun _=>Iff.rfl).symm
end Go.Proofs.YtaodmbolhoafcaaGreatDoor
