/-
  Texts of one proof, joined: part 8. No condition.
-/
import Derived.Test.YtaodmbolhoafcaaGreatDoorZo7
import Derived.DeepKeys4
import Derived.WideKeyArr
open Go.RowKit Go.Proofs.Tryz
namespace Go.Proofs.YtaodmbolhoafcaaGreatDoor
set_option linter.unusedVariables false
set_option linter.unusedSimpArgs false
set_option maxRecDepth 20000
variable{B:Nat}{w0:World}{F L M:aQ}{A A2 A3:bj}{n c c2 c3 g:Nat}{l b:al}{es:List MapEntry}{cl:Nat}{most:Int}
section
theorem IG:type_of% @List.perm_append_comm:= @List.perm_append_comm
def fH(k:Nat)(m:al)(i j:Nat):UInt8:=m.getD (i*k+j) 0
def je(k:Nat)(m:al)(i:Nat):al:=(m.drop (i*k)).take k
def oB(k:Nat)(m:al)(i:Nat)(r:al):al:=m.take (i*k)++(r++m.drop (i*k+k))
theorem fL{n k i:Nat}(h:i<n):i*k+k≤n*k:=by
 have:=oA k (show i+1≤n by omega);rw[mL,rl]at this;exact this
theorem eW{n k i:Nat}{m:al}(hm:m.length=n*k)(hi:i<n):(je k m i).length=k:=by
 have:=fL (k:=k) hi;unfold je;rw[eS,iG];omega
theorem ly{k j:Nat}(m:al)(i:Nat)(hj:j<k):(je k m i).getD j 0=fH k m i j:=by
 unfold je fH;simp only[bk];rw[Vz hj,k_7]
theorem ry{n k i:Nat}{m r:al}(hm:m.length=n*k)(hi:i<n)(hr:r.length=k):(oB k m i r).length=n*k:=by
 have:=fL (k:=k) hi;unfold oB;simp only[aY,eS,iG];omega
theorem xD{n k i i' j:Nat}{m r:al}(hm:m.length=n*k)(hi:i<n)(P9:i'<n)(hj:j<k)(hr:r.length=k):fH k (oB k m i r) i' j=if i'=i then r.getD j 0 else fH k m i' j:=by
 have h1:=fL (k:=k) hi;have h2:=fL (k:=k) P9;unfold fH oB;simp only[bk];by_cases h:i'=i
 ·subst h;rw[ao rfl,sY bR,z7 bR];congr 2;simp;omega
 ·rw[aw h];by_cases h3:i'<i
  ·have h4:=fL (k:=k) h3;rw[z7 bR,Vz aa]
  ·have h4:=fL (k:=k) (show i<i' by omega);rw[sY bR,sY bR,k_7];congr 2;simp;omega
def pE(k:Nat)(m:al)(a i:Nat):al:=oB k (oB k m a (je k m i)) i (je k m a)
def jU(k:Nat)(m:al)(a:Nat)(c:UInt8):al:=oB k m a ((je k m a).map (gm c))
def qY(s:al)(c:UInt8)(b:al):al:=List.zipWith (fun x y=>x ^^^ gm c y) s b
def ru(k:Nat)(m:al)(q:Nat)(c:UInt8)(a:Nat):al:=oB k m q (qY (je k m q) c (je k m a))
section
variable{n k a i q r j:Nat}{m:al}{c:UInt8}
theorem oO(hm:m.length=n*k)(ha:a<n)(hi:i<n):(pE k m a i).length=n*k:=ry (ry hm ha (eW hm hi)) hi (eW hm ha)
theorem na(hm:m.length=n*k)(ha:a<n):(jU k m a c).length=n*k:=ry hm ha (by rw[eK];exact eW hm ha)
theorem qZ{s b:al}(h:s.length=b.length):(qY s c b).length=s.length:=by unfold qY;rw[List.length_zipWith];omega
theorem rv(hm:m.length=n*k)(ha:a<n)(hq:q<n):(ru k m q c a).length=n*k:=
 ry hm hq (by rw[qZ (by rw[eW hm hq,eW hm ha])];exact eW hm hq)
theorem oZ(hm:m.length=n*k)(ha:a<n)(hi:i<n)(hr:r<n)(hj:j<k):fH k (pE k m a i) r j=if r=i then fH k m a j else if r=a then fH k m i j else fH k m r j:=by
 unfold pE;rw[xD (ry hm ha (eW hm hi)) hi hr hj (eW hm ha),xD hm ha hr hj (eW hm hi),ly _ _ hj,ly _ _ hj]
theorem qR(hm:m.length=n*k)(ha:a<n)(hr:r<n)(hj:j<k):fH k (jU k m a c) r j=if r=a then gm c (fH k m a j) else fH k m r j:=by
 unfold jU;rw[xD hm ha hr hj (by rw[eK];exact eW hm ha)];have hl:=eW hm ha;split
 ·rw[←ly m a hj];simp only[bk,jq];rw[fm aa];rfl
 ·rfl
theorem Nl{s b:al}{j:Nat}(h1:j<s.length)(h2:j<b.length):(qY s c b).getD j 0=s.getD j 0 ^^^ gm c (b.getD j 0):=by
 unfold qY;simp only[bk,List.getElem?_zipWith];rw[fm h1,fm h2];rfl
theorem rW(hm:m.length=n*k)(ha:a<n)(hq:q<n)(hr:r<n)(hj:j<k):fH k (ru k m q c a) r j=if r=q then fH k m q j ^^^ gm c (fH k m a j) else fH k m r j:=by
 have h1:=eW hm ha;have h2:=eW hm hq;unfold ru;rw[xD hm hq hr hj (by rw[qZ aa];exact h2),Nl aa aa,ly _ _ hj,ly _ _ hj]
end
def vL(k:Nat)(m:al)(Lv:Nat):Nat→Nat→Nat
 |0,i=>i
 |f+1,i=>if fH k m i Lv=0 then vL k m Lv f (i+1) else i
def kx(n a:Nat):Nat→Nat→al×al→al×al
 |0,_,p=>p
 |f+1,q,p=>kx n a f (q+1) (if q≠a∧fH n p.1 q a≠0 then (ru n p.1 q (fH n p.1 q a) a,ru n p.2 q (fH n p.1 q a) a) else p)
def wG(n a:Nat)(p:al×al):Nat:=vL n p.1 a (n-a) a
def JO(n a:Nat)(p:al×al):al×al:=(pE n p.1 a (wG n a p),pE n p.2 a (wG n a p))
def anv(n a:Nat)(p:al×al):al×al:=(jU n p.1 a (kM (fH n p.1 a a)),jU n p.2 a (kM (fH n p.1 a a)))
def QI(n a:Nat)(p:al×al):al×al:=kx n a n 0 (anv n a (JO n a p))
def rX(n a:Nat)(p:al×al):Bool×al×al:=if wG n a p=n then (false,p) else (true,QI n a p)
def Em(n:Nat):Nat→Nat→al×al→Option (al×al)
 |0,_,p=>some p
 |f+1,i,p=>if (rX n i p).1=true then Em n f (i+1) (rX n i p).2 else none
def ql(r k:Nat)(f:Nat→Nat→UInt8):al:=(List.range r).flatMap fun i=>(List.range k).map fun j=>f i j
def NH(n:Nat):al:=ql n n fun i j=>if i=j then 1 else 0
def ahT(n:Nat)(m:al):Option (al):=(Em n n 0 (m,NH n)).map (·.2)
theorem jd(r k:Nat)(f:Nat→Nat→UInt8):(ql r k f).length=r*k:=by
 unfold ql;induction r with
 |zero=>simp
 |succ r ih=>rw[lq,uf,aY,ih,mL];simp
theorem EG(r k:Nat)(f:Nat→Nat→UInt8):ql (r+1) k f=ql r k f++(List.range k).map fun j=>f r j:=by
 unfold ql;rw[lq,uf];simp
theorem Dj{r k:Nat}{f:Nat→Nat→UInt8}{i j:Nat}(hi:i<r)(hj:j<k):fH k (ql r k f) i j=f i j:=by
 induction r with
 |zero=>omega
 |succ r ih=>
  rw[EG];unfold fH;rw[bk];by_cases h:i<r
  ·have h1:=fL (k:=k) h;rw[z7 (by rw[jd];omega),←bk];exact ih h
  ·obtain rfl:i=r:=by omega
   rw[sY (by rw[jd];omega),jd,show i*k+j-i*k=j by omega];simp[hj]
def LU(n:Nat)(m' m:al):Prop:=∀r,r<n→∃(α β:UInt8) (p q:Nat),p<n∧q<n∧∀j,j<n→fH n m' r j=gm α (fH n m p j) ^^^ gm β (fH n m q j)
def Jr(n:Nat)(m' m b' b:al):Prop:=∀r,r<n→∃(α β:UInt8) (p q:Nat),p<n∧q<n∧(∀j,j<n→fH n m' r j=gm α (fH n m p j) ^^^ gm β (fH n m q j))∧∀j,j<n→fH n b' r j=gm α (fH n b p j) ^^^ gm β (fH n b q j)
def Ker(n:Nat)(m:al):Prop:=∀v:Nat→UInt8,(∀i,i<n→xs n (fun t=>gm (fH n m i t) (v t))=0)→∀j,j<n→v j=0
theorem LU.ker{n:Nat}{m m':al}(h:LU n m m')(hk:Ker n m):Ker n m':=fun v hv=>hk v fun i hi=>by
 obtain⟨α,β,p,q,hp,hq,e⟩:=h i hi;have e2:xs n (fun t=>gm (fH n m i t) (v t))=xs n fun t=>gm α (gm (fH n m' p t) (v t)) ^^^ gm β (gm (fH n m' q t) (v t)):=pP fun t ht=>by
  rw[e t ht,D6,jD,jD]
 rw[e2,Lm,F5,F5,hv p hp,hv q hq,jE,jE];rfl
structure Gi(n a:Nat)(m0:al)(p:al×al):Prop where
 lm:p.1.length=n*n
 lb:p.2.length=n*n
 left:∀i,i<n→∀j,j<n→xs n (fun t=>gm (fH n p.2 i t) (fH n m0 t j))=fH n p.1 i j
 ker:Ker n p.1
 uc:∀i,i<n→∀j,j<a→fH n p.1 i j=if i=j then 1 else 0
theorem z'{n:Nat}{m0 m b m' b':al}(h:Jr n m' m b' b)(hl:∀i,i<n→∀j,j<n→xs n (fun t=>gm (fH n b i t) (fH n m0 t j))=fH n m i j):
  ∀i,i<n→∀j,j<n→xs n (fun t=>gm (fH n b' i t) (fH n m0 t j))=fH n m' i j:=fun i hi j hj=>by
 obtain⟨α,β,p,q,hp,hq,e1,e2⟩:=h i hi;have e3:xs n (fun t=>gm (fH n b' i t) (fH n m0 t j))=xs n fun t=>gm α (gm (fH n b p t) (fH n m0 t j)) ^^^ gm β (gm (fH n b q t) (fH n m0 t j)):=pP fun t ht=>by
  rw[e2 t ht,D6,jD,jD]
 rw[e3,Lm,F5,F5,hl p hp j hj,hl q hq j hj,e1 j hj]
theorem akO{n a i r:Nat}(ha:a<n)(hi:i<n)(hr:r<n):(if r=i then a else if r=a then i else r)<n:=by
 split
 ·exact ha
 ·split<;>assumption
theorem ai5{n a i:Nat}{m:al}(hm:m.length=n*n)(ha:a<n)(hi:i<n):LU n m (pE n m a i):=fun r hr=>by
 refine⟨1,0,if r=i then a else if r=a then i else r,r,akO ha hi hr,hr,fun j hj=>?_⟩;rw[jv,iT,fi];by_cases h1:r=i
 ·subst h1;rw[ao rfl,oZ hm ha hi ha hj];by_cases h2:a=r
  ·subst h2;rw[ao rfl]
  ·rw[aw h2,ao rfl]
 ·rw[aw h1];by_cases h2:r=a
  ·subst h2;rw[ao rfl,oZ hm ha hi hi hj,ao rfl]
  ·rw[aw h2,oZ hm ha hi hr hj,aw h1,aw h2]
theorem ae7{n a i:Nat}{m b:al}(hm:m.length=n*n)(hb:b.length=n*n)(ha:a<n)(hi:i<n):Jr n (pE n m a i) m (pE n b a i) b:=fun r hr=>by
 refine⟨1,0,if r=i then a else if r=a then i else r,r,akO ha hi hr,hr,fun j hj=>?_,fun j hj=>?_⟩
 ·rw[jv,iT,fi,oZ hm ha hi hr hj];split
  ·rfl
  ·split<;>rfl
 ·rw[jv,iT,fi,oZ hb ha hi hr hj];split
  ·rfl
  ·split<;>rfl
theorem aeP{n a:Nat}{m:al}{c:UInt8}(hm:m.length=n*n)(ha:a<n)(hc:c≠0):LU n m (jU n m a c):=fun r hr=>by
 refine⟨if r=a then kM c else 1,0,r,r,hr,hr,fun j hj=>?_⟩;rw[iT,fi,qR hm ha hr hj];split
 ·rename_i h;subst h;rw[←jD,D5 hc,jv]
 ·rw[jv]
theorem ZS{n a:Nat}{m b:al}{c:UInt8}(hm:m.length=n*n)(hb:b.length=n*n)(ha:a<n):Jr n (jU n m a c) m (jU n b a c) b:=fun r hr=>by
 refine⟨if r=a then c else 1,0,r,r,hr,hr,fun j hj=>?_,fun j hj=>?_⟩
 ·rw[iT,fi,qR hm ha hr hj];split
  ·rename_i h;subst h;rfl
  ·rw[jv]
 ·rw[iT,fi,qR hb ha hr hj];split
  ·rename_i h;subst h;rfl
  ·rw[jv]
theorem ak8{n a q:Nat}{m:al}{c:UInt8}(hm:m.length=n*n)(ha:a<n)(hq:q<n)(sa:q≠a):LU n m (ru n m q c a):=fun r hr=>by
 refine⟨1,if r=q then c else 0,r,a,hr,ha,fun j hj=>?_⟩;rw[jv,rW hm ha hq hr hj,rW hm ha hq ha hj,aw (Ne.symm sa)];split
 ·rename_i h;subst h;rw[s6,iz,fi]
 ·rw[iT,fi]
theorem agq{n a q:Nat}{m b:al}{c:UInt8}(hm:m.length=n*n)(hb:b.length=n*n)(ha:a<n)(hq:q<n):Jr n (ru n m q c a) m (ru n b q c a) b:=fun r hr=>by
 refine⟨1,if r=q then c else 0,r,a,hr,ha,fun j hj=>?_,fun j hj=>?_⟩
 ·rw[jv,rW hm ha hq hr hj];split
  ·rename_i h;subst h;rfl
  ·rw[iT,fi]
 ·rw[jv,rW hb ha hq hr hj];split
  ·rename_i h;subst h;rfl
  ·rw[iT,fi]
theorem rB(k:Nat)(m:al)(Lv:Nat):∀(f i:Nat),i≤vL k m Lv f i∧vL k m Lv f i≤i+f∧(vL k m Lv f i<i+f→fH k m (vL k m Lv f i) Lv≠0)∧∀r,i≤r→r<vL k m Lv f i→fH k m r Lv=0
 |0,i=>⟨gi _,gi _,fun h=>absurd h (by show¬i<i+0;omega),fun r h1 h2=>absurd h2 (by show¬r<i;omega)⟩
 |f+1,i=>by
  rw[vL];split
  ·rename_i h;obtain⟨h1,h2,h3,h4⟩:=rB k m Lv f (i+1);refine⟨aa,aa,fun h'=>h3 aa,fun r hr vF=>?_⟩;by_cases e:r=i
   ·rw[e];exact h
   ·exact h4 r aa vF
  ·rename_i h;exact⟨gi _,aa,fun _=>h,fun r h1 h2=>absurd h2 aa⟩
theorem DO{n a:Nat}{m0:al}(ha:a<n):∀(f q:Nat) (p:al×al),q+f=n→Gi n a m0 p→fH n p.1 a a=1→(∀r,r<q→r≠a→fH n p.1 r a=0)→Gi n (a+1) m0 (kx n a f q p)
 |0,q,p,hq,g,h1,hz=>by
  refine⟨g.lm,g.lb,g.left,g.ker,fun i hi j hj=>?_⟩;by_cases e:j=a
  ·subst e;by_cases e2:i=j
   ·subst e2;rw[ao rfl];exact h1
   ·rw[aw e2];exact hz i aa e2
  ·exact g.uc i hi j aa
 |f+1,q,p,hq,g,h1,hz=>by
  rw[kx];split
  ·rename_i h;obtain⟨sa,hc⟩:=h;have hqn:q<n:=by omega
   have Cc:∀j,j<a→fH n p.1 a j=0:=fun j hj=>by rw[g.uc a ha j hj,aw aa]
   refine DO ha f (q+1) _ aa ⟨rv g.lm ha hqn,rv g.lb ha hqn,z' (agq g.lm g.lb ha hqn) g.left,(ak8 g.lm ha hqn sa).ker g.ker,fun i hi j hj=>?_⟩ ?_ ?_
   ·show fH n (ru n p.1 q _ a) i j=_;rw[rW g.lm ha hqn hi aa];split
    ·rename_i e;subst e;rw[Cc j hj,jE,fi];exact g.uc i hi j hj
    ·exact g.uc i hi j hj
   ·show fH n (ru n p.1 q _ a) a a=_;rw[rW g.lm ha hqn ha ha,aw (Ne.symm sa)];exact h1
   ·intro r hr hra;show fH n (ru n p.1 q _ a) r a=_;rw[rW g.lm ha hqn aa ha];split
    ·rename_i e;subst e;rw[h1,U9,iz]
    ·exact hz r aa hra
  ·rename_i h;refine DO ha f (q+1) p aa g h1 fun r hr hra=>?_;by_cases e:r=q
   ·subst e;exact bH fun k=>h ⟨hra,k⟩
   ·exact hz r aa hra
theorem Uq{n a:Nat}{m0:al}{p:al×al}(ha:a<n)(g:Gi n a m0 p):wG n a p<n:=by
 obtain⟨h1,h2,h3,h4⟩:=rB n p.1 a (n-a) a;refine bH fun hn=>?_;have hI:wG n a p=n:=by unfold wG at hn⊢;omega
 have hz:∀r,a≤r→r<n→fH n p.1 r a=0:=fun r hr vF=>h4 r hr (by unfold wG at hI;omega);have:=g.ker (fun t=>if t=a then 1 else if t<a then fH n p.1 t a else 0) (fun i hi=>?_) a ha
 ·simp at this
 ·by_cases hia:i<a
  ·have e:xs n (fun t=>gm (fH n p.1 i t) (if t=a then 1 else if t<a then fH n p.1 t a else 0))=xs n fun t=>(if t=i then fH n p.1 i a else 0) ^^^ (if t=a then fH n p.1 i a else 0):=pP fun t ht=>by
    by_cases e1:t=a
    ·subst e1;rw[ao rfl,aw aa,ao rfl,U9,vy]
    ·rw[aw e1,aw e1,fi];by_cases e2:t<a
     ·rw[ao e2,g.uc i hi t e2];by_cases e3:i=t
      ·subst e3;rw[ao rfl,ao rfl,jv]
      ·rw[aw e3,aw (Ne.symm e3),iT]
     ·rw[aw e2,aw aa,jE]
   rw[e,Lm,F6 i hi (fun t _ h=>aw h),F6 a ha (fun t _ h=>aw h),ao rfl,ao rfl,iz]
  ·refine Ln fun t ht=>?_;by_cases e1:t=a
   ·subst e1;rw[hz i aa hi,iT]
   ·rw[aw e1];by_cases e2:t<a
    ·rw[g.uc i hi t e2,aw aa,iT]
    ·rw[aw e2,jE]
theorem ag2{n a:Nat}{m0:al}{p:al×al}(ha:a<n)(g:Gi n a m0 p):Gi n (a+1) m0 (QI n a p):=by
 have hI:=Uq ha g;obtain⟨h1,h2,h3,h4⟩:=rB n p.1 a (n-a) a;have hIa:a≤wG n a p:=h1;have hc:fH n p.1 (wG n a p) a≠0:=h3 (by unfold wG at hI;omega);have g1:Gi n a m0 (JO n a p):=by
  refine⟨oO g.lm ha hI,oO g.lb ha hI,z' (ae7 g.lm g.lb ha hI) g.left,(ai5 g.lm ha hI).ker g.ker,fun i hi j hj=>?_⟩;show fH n (pE n p.1 a _) i j=_;rw[oZ g.lm ha hI hi aa];split
  ·rename_i e;rw[g.uc a ha j hj,aw aa,aw aa]
  ·split
   ·rename_i e;rw[g.uc _ hI j hj,aw aa,aw aa]
   ·exact g.uc i hi j hj
 have P6:fH n (JO n a p).1 a a≠0:=by
  show fH n (pE n p.1 a _) a a≠0;rw[oZ g.lm ha hI ha ha];split
  ·rename_i e;rw[←e]at hc;exact hc
  ·rw[ao rfl];exact hc
 have g2:Gi n a m0 (anv n a (JO n a p)):=by
  refine⟨na g1.lm ha,na g1.lb ha,z' (ZS g1.lm g1.lb ha) g1.left,(aeP g1.lm ha (Kd P6)).ker g1.ker,fun i hi j hj=>?_⟩;show fH n (jU n (JO n a p).1 a _) i j=_;rw[qR g1.lm ha hi aa];split
  ·rename_i e;rw[e,g1.uc a ha j hj,aw aa,jE]
  ·exact g1.uc i hi j hj
 refine DO ha n 0 _ aa g2 ?_ (fun r hr=>aa);show fH n (jU n (JO n a p).1 a _) a a=_;rw[qR g1.lm ha ha ha,ao rfl,D5 P6]
theorem Vx{n:Nat}{m0:al}:∀(f i:Nat) (p:al×al),i+f=n→Gi n i m0 p→∃q,Em n f i p=some q∧Gi n n m0 q
 |0,i,p,h,g=>⟨p,rfl,by(have:i=n:=aa;rw[←this];rw[←this]at g;exact g)⟩
 |f+1,i,p,h,g=>by
  have hI:=Uq aa g;obtain⟨q,h1,h2⟩:=Vx f (i+1) (QI n i p) aa (ag2 aa g);refine⟨q,?_,h2⟩;have e:rX n i p=(true,QI n i p):=by unfold rX;rw[aw aa]
  rw[Em,e,ao rfl];exact h1
theorem amw{n:Nat}{m:al}(hm:m.length=n*n)(hk:Ker n m):∃b,ahT n m=some b∧b.length=n*n∧∀i,i<n→∀j,j<n→xs n (fun t=>gm (fH n b i t) (fH n m t j))=if i=j then 1 else 0:=by
 have g0:Gi n 0 m (m,NH n):=by
  refine⟨hm,jd n n _,fun i hi j hj=>?_,hk,fun i hi j hj=>aa⟩;have e:xs n (fun t=>gm (fH n (NH n) i t) (fH n m t j))=xs n fun t=>if t=i then fH n m i j else 0:=pP fun t ht=>by
   unfold NH;rw[Dj hi ht];by_cases e:i=t
   ·subst e;rw[ao rfl,ao rfl,jv]
   ·rw[aw e,aw (Ne.symm e),iT]
  show xs n (fun t=>gm (fH n (NH n) i t) (fH n m t j))=_;rw[e,F6 i hi fun t _ h=>aw h,ao rfl]
 obtain⟨q,h1,h2⟩:=Vx n 0 _ aa g0;refine⟨q.2,by unfold ahT;rw[h1];rfl,h2.lb,fun i hi j hj=>?_⟩;rw[h2.left i hi j hj,h2.uc i hi j hj]
def Gt(k m:Nat):al:=ql m k fun i j=>kM (UInt8.ofNat ((k+i) ^^^ j))
def lP(k m:Nat):al:=NH k++Gt k m
def lz(k:Nat)(m:al)(at_:bf):al:=at_.flatMap (je k m)
theorem Mv(k m:Nat):(Gt k m).length=m*k:=jd ..
theorem Vq(n:Nat):(NH n).length=n*n:=jd ..
theorem sF(k m:Nat):(lP k m).length=(k+m)*k:=by unfold lP NH Gt;rw[aY,jd,jd,mL]
theorem Ss{a b:Nat}(ha:a<256)(hb:b<256):UInt8.ofNat (a ^^^ b)=UInt8.ofNat a ^^^ UInt8.ofNat b:=ob (by
 rw[UInt8.toNat_xor,oi,oi,oi,i_ (show a<2^8 from ha),i_ (show b<2^8 from hb),i_ (show a ^^^ b<2^8 from vw ha hb)])
theorem HC{k m a t:Nat}(Gc:k+m≤255)(ha:a<k+m)(ht:t<k):fH k (lP k m) a t=if a<k then (if a=t then 1 else 0) else kM (UInt8.ofNat a ^^^ UInt8.ofNat t):=by
 have hle:a*k+k≤(k+m)*k:=fL ha;split
 ·rename_i h;have h1:=fL (k:=k) h;have:fH k (lP k m) a t=fH k (NH k) a t:=by
   unfold fH lP;rw[bk,bk,z7 (by unfold NH;rw[jd];omega)]
  rw[this];unfold NH;rw[Dj h ht]
 ·rename_i h;obtain⟨i,rfl⟩:∃i,a=k+i:=⟨a-k,aa⟩
  have:fH k (lP k m) (k+i) t=fH k (Gt k m) i t:=by
   have hm:(k+i)*k=k*k+i*k:=mL ..;unfold fH lP;rw[bk,bk,sY (by unfold NH;rw[jd];omega)];unfold NH;rw[jd];congr 2;omega
  rw[this];unfold Gt;rw[Dj aa ht,Ss aa aa]
theorem EW{n k:Nat}{m:al}(hm:m.length=n*k):∀{l:bf},(∀a,a∈l→a<n)→(lz k m l).length=l.length*k
 |[],_=>by simp[lz]
 |a::l,h=>by
  have:=EW hm (l:=l) fun x hx=>h x oe;unfold lz at this⊢;rw[jI,aY,this,eW hm (h a ak),ef,mL];omega
theorem Mx{n k:Nat}{m:al}(hm:m.length=n*k):∀{l:bf} {i j:Nat},(∀a,a∈l→a<n)→i<l.length→j<k→fH k (lz k m l) i j=fH k m (l.getD i 0) j
 |[],i,j,_,hi,_=>by simp at hi
 |a::l,i,j,h,hi,hj=>by
  have hr:=eW hm (h a ak);have e:lz k m (a::l)=je k m a++lz k m l:=by unfold lz;rw[jI]
  cases i with
  |zero=>
   rw[e];have:fH k (je k m a++lz k m l) 0 j=(je k m a).getD j 0:=by
    unfold fH;rw[bk,bk,se,mw,z7 aa]
   rw[this,ly _ _ hj];rfl
  |succ i=>
   have ih:=Mx hm (l:=l) (i:=i) (j:=j) (fun x hx=>h x oe) C8 hj;rw[e];have:fH k (je k m a++lz k m l) (i+1) j=fH k (lz k m l) i j:=by
    unfold fH;rw[bk,bk,sY (by rw[hr,mL];omega)];congr 2;rw[hr,mL];omega
   rw[this,ih];rfl
theorem IK(f:Nat→UInt8)(p:Nat→Bool):∀l:bf,ls l f=ls (l.filter p) f ^^^ ls (l.filter fun x=> !p x) f
 |[]=>(iz 0).symm
 |j::l=>by
  rw[ls,IK f p l,ud,ud];cases p j with
  |true=>simp only[if_true,Bool.not_true,Bool.false_eq_true,if_false];rw[ls,s6]
  |false=>simp only[Bool.false_eq_true,if_false,Bool.not_false,if_true];rw[ls,←s6,←s6,UInt8.xor_comm (f j)]
theorem ak0(f:Nat→UInt8):∀n,xs n f=ls (List.range n) f
 |0=>rfl
 |n+1=>by
  rw[xs,ak0 f n,lq,ah6 (IG (l₁:=List.range n) (l₂:=[n])),UInt8.xor_comm];rfl
theorem DW(l:bf)(p:Nat→Bool):(l.filter p).length+(l.filter fun x=> !p x).length=l.length:=by
 induction l with
 |nil=>rfl
 |cons x l ih=>rw[ud,ud];cases p x<;>simp<;>omega
theorem aek{k m:Nat}(Gc:k+m≤255){l:bf}(hl:l.length=k)(hn:l.Nodup)(fN:∀a,a∈l→a<k+m):Ker k (lz k (lP k m) l):=by
 intro v hv;have Cc:∀a,a∈l→xs k (fun t=>gm (fH k (lP k m) a t) (v t))=0:=fun a ha=>by
  obtain⟨i,hi,e⟩:=j0 ha;have:=hv i aa;rw[←this];refine pP fun t ht=>?_;rw[Mx (sF k m) fN aa ht];congr 2;rw[bk,fm hi,e];rfl
 have aqs:∀a,a∈l→a<k→v a=0:=fun a ha hak=>by
  have:=Cc a ha;rw[pP (g:=fun t=>if t=a then v a else 0) fun t ht=>by
   rw[HC Gc (fN a ha) ht,ao hak];by_cases e:a=t
   ·subst e;rw[ao rfl,ao rfl,jv]
   ·rw[aw e,aw (Ne.symm e),iT],F6 a hak (fun t _ h=>aw h),ao rfl]at this
  exact this
 obtain⟨J,hJ⟩:=cK ((List.range k).filter fun x=> !decide (x∈l));obtain⟨X,hX⟩:=cK (l.filter fun x=> !decide (x<k));have hp:((List.range k).filter fun x=>decide (x∈l)).Perm (l.filter fun x=>decide (x<k)):=by
  refine(List.perm_ext_iff_of_nodup (List.nodup_range.filter _) (hn.filter _)).2 fun a=>?_;simp only[BC,kB,NY];exact And.comm
 have hJl:J.length=X.length:=by
  have h1:=DW (List.range k) fun x=>decide (x∈l);have h2:=DW l fun x=>decide (x<k);have h3:=hp.length_eq;rw[wk]at h1;rw[hJ,hX];omega
 have hJm:∀j,j∈J↔j<k∧j∉l:=fun j=>by rw[hJ];simp
 have hXm:∀a,a∈X↔a∈l∧k≤a:=fun a=>by rw[hX];simp
 have inj:∀i j:Nat,i<256→j<256→UInt8.ofNat i=UInt8.ofNat j→i=j:=fun i j hi hj e=>by
  have:=dB UInt8.toNat e;rw[oi,oi,i_ (show i<2^8 from hi),i_ (show j<2^8 from hj)]at this;exact this
 have mJ:=Bq J.length J X v UInt8.ofNat UInt8.ofNat rfl aa (hJ▸List.nodup_range.filter _) (hX▸hn.filter _)
  (fun i j hi hj e=>inj i j (by have:=((hJm i).1 hi).1;omega) (by have:=((hJm j).1 hj).1;omega) e)
  (fun i j hi hj e=>inj i j (by have:=fN i ((hXm i).1 hi).1;omega) (by have:=fN j ((hXm j).1 hj).1;omega) e)
  (fun i j hi hj e=>by
   have h1:=((hXm i).1 hi).2;have h2:=((hJm j).1 hj).1;have:=inj i j (by have:=fN i ((hXm i).1 hi).1;omega) aa e;omega)
  (fun a ha=>by
   obtain⟨h1,h2⟩:=(hXm a).1 ha;have:=Cc a h1;rw[ak0,IK _ fun x=>decide (x∈l),KE (J:=(List.range k).filter fun x=>decide (x∈l)) (fun t ht=>by
    simp only[BC,kB,NY]at ht;rw[aqs t ht.2 ht.1,jE]),vy,←hJ]at this
   rw[←this];refine yw fun t ht=>?_;rw[HC Gc (fN a h1) ((hJm t).1 ht).1,aw aa,iS])
 intro j hj;by_cases h:j∈l
 ·exact aqs j h hj
 ·exact mJ j ((hJm j).2 ⟨hj,h⟩)
end
theorem kD:type_of% @Nat.add_one_mul:= @Nat.add_one_mul
def K_(n:Nat)(row:al)(data:eH):al:=(row.zip data).foldl (fun s p=>if p.1=0 then s else qY s p.1 p.2) (List.replicate n 0)
def WY(r k:Nat)(cells:al)(data:eH)(n:Nat):eH:=(List.range r).map fun i=>K_ n (je k cells i) data
def Im(l:eH):Nat:=(l.headD []).length
def par(m:Nat)(data:eH):eH:=WY m data.length (Gt data.length m) data (Im data)
def rS(l:eH):Prop:=∀b∈l,b.length=Im l
instance (l:List (List UInt8)):Decidable (rS l):=inferInstanceAs (Decidable (∀b∈l,b.length=Im l))
def dG(k:Nat)(good:List Bool):bf:=((List.range good.length).filter fun i=>good.getD i false).take k
def iu(k:Nat)(parts:eH)(good:List Bool):eH:=(dG k good).map (parts.getD · [])
def adJ(k m:Nat)(good:List Bool):al:=(ahT k (lz k (lP k m) (dG k good))).getD []
def oq(k m:Nat)(parts:eH)(good:List Bool):eH:=
 if (dG k good).getD (k-1) 0≠k-1 then WY k k (adJ k m good) (iu k parts good) (Im (iu k parts good)) else iu k parts good
def qn(k m:Nat)(parts:eH)(good:List Bool):eH×Int:=
 if¬rS (iu (k+m) parts good) then ([],13) else if (iu (k+m) parts good).length<k then ([],12)
 else (oq k m parts good++par m (oq k m parts good),0)
theorem vT{n:Nat}:∀(l:List (UInt8×al)) (s:al),s.length=n→(∀p∈l,p.2.length=n)→(l.foldl (fun s p=>if p.1=0 then s else qY s p.1 p.2) s).length=n
 |[],s,h,_=>h
 |p::r,s,h,hl=>by
  rw[List.foldl_cons];refine vT r _ ?_ fun q hq=>hl q (by simp[hq]);split
  ·exact h
  ·rw[qZ (by rw[h,hl p ak])];exact h
theorem afE{n:Nat}{row:al}{data:eH}(h:∀b∈data,b.length=n):(K_ n row data).length=n:=
 vT _ _ ak fun p hp=>h _ (List.of_mem_zip hp).2
theorem pM(r k:Nat)(cells:al)(data:eH)(n:Nat):(WY r k cells data n).length=r:=by simp[WY]
theorem FL{r k n:Nat}{cells:al}{data:eH}(h:∀b∈data,b.length=n):∀b∈WY r k cells data n,b.length=n:=fun b hb=>by
 obtain⟨i,_,rfl⟩:=pQ.1 hb;exact afE h
theorem tW{l:eH}{n:Nat}(h:∀b∈l,b.length=n)(h0:0<l.length):Im l=n:=by
 cases l with
 |nil=>simp at h0
 |cons x r=>exact h x ak
theorem nc(m:Nat)(data:eH):(par m data).length=m:=pM ..
theorem yF{m n:Nat}{data:eH}(h0:0<data.length)(h:∀b∈data,b.length=n):∀b∈par m data,b.length=n:=by
 unfold par;rw[tW h h0];exact FL h
theorem zC{k:Nat}{good:List Bool}:∀i∈dG k good,i<good.length∧good.getD i false=true:=fun i hi=>by
 have:=l6 hi;simpa using this
theorem xW(k:Nat)(good:List Bool):(dG k good).Nodup:=(List.nodup_range.filter _).sublist (Kx _ _)
def mH(c:Nat):Nat→al→eH
 |0,_=>[]
 |p+1,x=>x.take c::mH c p (x.drop c)
def lN(k ch n:Nat):Nat:=(n+k*ch-1)/(k*ch)
def jg(k m ch n:Nat):Nat:=lN k ch n*((k+m)*(ch+4))
def zd(k m ch n:Nat):Int:=if 8388608<n then 13 else if 16777216<jg k m ch n then 6 else 0
def Cl(k m ch:Nat)(x:al):eH:=mH ch k x++par m (mH ch k x)
def G6(k m ch:Nat)(x:al):al:=(Cl k m ch x).flatMap cX
def uj(k m ch:Nat):Nat→al→al
 |0,_=>[]
 |f+1,x=>G6 k m ch (x.take (k*ch))++uj k m ch f (x.drop (k*ch))
def sn(k ch:Nat)(b:al):al:=b++List.replicate (lN k ch b.length*(k*ch)-b.length) 0
def p6(k m ch:Nat)(b:al):al×Int:=if zd k m ch b.length≠0 then ([],zd k m ch b.length) else (uj k m ch (lN k ch b.length) (sn k ch b),0)
def rdP(k m ch:Nat)(s:al):eH:=(mH (ch+4) (k+m) s).map fun c=>(aJ c).1
def OP(k m ch:Nat)(s:al):List Bool:=(mH (ch+4) (k+m) s).map fun c=>decide ((aJ c).2=0)
def dP(at_:Nat)(good:List Bool):bf:=((List.range good.length).filter fun i=> !good.getD i false).map (at_+ ·)
def BR(k m ch:Nat)(s:al):eH×Int:=qn k m (rdP k m ch s) (OP k m ch s)
def xd(k m ch:Nat)(s:al):Prop:=∃i,i<(BR k m ch s).1.length∧(OP k m ch s).getD i false=true∧(BR k m ch s).1.getD i []≠(rdP k m ch s).getD i []
noncomputable def LM(k m ch:Nat)(s:al):Int:=by
 classical
 exact if (BR k m ch s).2≠0 then (BR k m ch s).2 else if xd k m ch s then 2 else 0
noncomputable def tv(k m ch:Nat):Nat→al→al→bf→Nat→al×bf×Int
 |0,_,out,bad,_=>(out,bad,0)
 |f+1,s,out,bad,at_=>
  if LM k m ch (s.take ((k+m)*(ch+4)))≠0 then ([],[],LM k m ch (s.take ((k+m)*(ch+4))))
  else tv k m ch f (s.drop ((k+m)*(ch+4))) (out++((BR k m ch (s.take ((k+m)*(ch+4)))).1.take k).flatten) (bad++dP at_ (OP k m ch (s.take ((k+m)*(ch+4))))) (at_+(k+m))
noncomputable def oD(k m ch n:Nat)(s:al):al×bf×Int:=tv k m ch (lN k ch n) s [] [] 0
noncomputable def jV(k m ch n:Nat)(s:al):al×bf×Int:=
 if zd k m ch n≠0 then ([],[],zd k m ch n) else if s.length<jg k m ch n then ([],[],1) else if jg k m ch n<s.length then ([],[],2)
 else if (oD k m ch n s).2.2≠0 then ([],[],(oD k m ch n s).2.2)
 else if∃x∈(oD k m ch n s).1.drop n,x≠0 then ([],[],2) else ((oD k m ch n s).1.take n,(oD k m ch n s).2.1,0)
theorem kr(c:Nat):∀(p:Nat) (x:al),(mH c p x).length=p
 |0,_=>rfl
 |p+1,x=>by rw[mH,ef,kr c p]
theorem qT(c:Nat):∀(p:Nat) (x:al),x.length=p*c→∀b∈mH c p x,b.length=c
 |0,_,_=>by simp[mH]
 |p+1,x,h=>by
  rw[mL,rl]at h;rw[mH];intro b hb;rcases fk.1 hb with rfl|hb
  ·rw[eS];omega
  ·exact qT c p _ kU b hb
theorem HH(c:Nat):∀(p:Nat) (x:al),x.length=p*c→(mH c p x).flatten=x
 |0,x,h=>by rw[se]at h;rw[VD.1 h];rfl
 |p+1,x,h=>by
  rw[mL,rl]at h;rw[mH,wm,HH c p _ kU,jJ]
theorem xG(c:Nat):∀(l:eH),(∀b∈l,b.length=c)→∀r,mH c l.length (l.flatten++r)=l
 |[],_,_=>rfl
 |b::l,h,r=>by
  have hb:=h b ak;rw[ef,mH,wm,bV,pv hb,qi hb,xG c l (fun x hx=>h x oe) r]
theorem Sh{k m n:Nat}{parts:eH}{good:List Bool}(hk:0<k)(h:∀b∈iu k parts good,b.length=n)(hl:(dG k good).length=k):(oq k m parts good).length=k∧∀b∈oq k m parts good,b.length=n:=by
 have hp:(iu k parts good).length=k:=by unfold iu;rw[eK];exact hl
 unfold oq;split
 ·rw[tW h aa];exact⟨pM ..,FL h⟩
 ·exact⟨hp,h⟩
theorem AK{n:Nat}{p:Nat→Bool}(h:∀i,i<n→p i=true):(List.range n).filter p=List.range n:=List.filter_eq_self.2 fun i hi=>h i (kB.1 hi)
theorem pC(l:eH):(List.range l.length).map (l.getD · [])=l:=by
 apply pZ
 ·simp
 ·intro i h1 h2;simp at h1;simp[h1]
theorem G9(l:eH){k:Nat}(h:k≤l.length):(List.range k).map (l.getD · [])=l.take k:=by
 conv=>rhs;rw[←pC l,←pt,List.take_range]
 rw[zb h]
theorem adK{k m n:Nat}{data:eH}(hk:0<k)(hd:data.length=k)(he:∀b∈data,b.length=n):
  qn k m (data++par m data) (List.replicate (k+m) true)=(data++par m data,0):=by
 have hlen:(data++par m data).length=k+m:=by rw[aY,nc,hd]
 have mJ:∀b∈data++par m data,b.length=n:=fun b hb=>by
  rcases dz.1 hb with hb|hb
  ·exact he b hb
  ·exact yF aa he b hb
 have hf:∀j,j≤k+m→dG j (List.replicate (k+m) true)=List.range j:=fun j hj=>by
  unfold dG;rw[yd,AK fun i hi=>by simp[hi],List.take_range,zb hj]
 have hP:∀j,j≤k+m→iu j (data++par m data) (List.replicate (k+m) true)=(data++par m data).take j:=fun j hj=>by
  unfold iu;rw[hf j hj,G9 _ aa]
 have hD:oq k m (data++par m data) (List.replicate (k+m) true)=data:=by
  unfold oq;rw[hf k aa,hP k aa,pv hd,aw];simp[show k-1<k by omega]
 unfold qn;rw[hP (k+m) aa,fA aa,aw,aw aa,hD];intro h;exact h fun b hb=>by rw[mJ b hb,tW mJ aa]
theorem uK(k m ch:Nat)(x:al):(Cl k m ch x).length=k+m:=by unfold Cl;rw[aY,nc,kr]
theorem AV{k m ch:Nat}{x:al}(hk:0<k)(h:x.length=k*ch):∀b∈Cl k m ch x,b.length=ch:=fun b hb=>by
 rcases dz.1 hb with hb|hb
 ·exact qT ch k x h b hb
 ·exact yF (by rw[kr];exact hk) (qT ch k x h) b hb
theorem sN{c:Nat}:∀l:eH,(∀b∈l,b.length=c)→(l.flatMap cX).length=l.length*(c+4)
 |[],_=>by simp
 |b::l,h=>by
  rw[jI,aY,sN l (fun x hx=>h x oe),du,h b ak,ef,mL];omega
theorem Fv{k m ch:Nat}{x:al}(hk:0<k)(h:x.length=k*ch):(G6 k m ch x).length=(k+m)*(ch+4):=by
 unfold G6;rw[sN _ (AV hk h),uK]
theorem HI{k m ch:Nat}{x:al}(hk:0<k)(h:x.length=k*ch):mH (ch+4) (k+m) (G6 k m ch x)=(Cl k m ch x).map cX:=by
 have h1:=xG (ch+4) ((Cl k m ch x).map cX) (fun b hb=>by
  obtain⟨p,hp,rfl⟩:=pQ.1 hb;rw[du,AV hk h p hp]) []
 rw[eK,uK,gj,←List.flatMap_def]at h1;exact h1
theorem Wl{k m ch:Nat}{x:al}(hk:0<k)(h:x.length=k*ch):rdP k m ch (G6 k m ch x)=Cl k m ch x:=by
 unfold rdP;rw[HI hk h,vH]
 conv=>rhs;rw[←List.map_id (Cl k m ch x)]
 exact sb fun p _=>by simp[jt]
theorem Wj{k m ch:Nat}{x:al}(hk:0<k)(h:x.length=k*ch):OP k m ch (G6 k m ch x)=List.replicate (k+m) true:=by
 unfold OP;rw[HI hk h,vH];refine List.eq_replicate_iff.2 ⟨by rw[eK,uK],fun b hb=>?_⟩;obtain⟨p,_,rfl⟩:=pQ.1 hb;simp[jt]
theorem K5{k m ch:Nat}{x:al}(hk:0<k)(h:x.length=k*ch):BR k m ch (G6 k m ch x)=(Cl k m ch x,0):=by
 unfold BR;rw[Wl hk h,Wj hk h];exact adK hk (kr ch k x) (qT ch k x h)
theorem aiJ{k m ch:Nat}{x:al}(hk:0<k)(h:x.length=k*ch):LM k m ch (G6 k m ch x)=0:=by
 unfold LM;rw[K5 hk h,aw ak,aw];rintro⟨i,_,_,h3⟩;rw[K5 hk h,Wl hk h]at h3;exact h3 rfl
theorem ZL(a n:Nat):dP a (List.replicate n true)=[]:=by
 unfold dP;rw[List.filter_eq_nil_iff.2,GV];intro i hi;simp at hi;simp[hi]
theorem OT{k m ch:Nat}(hk:0<k):∀(f:Nat) (x out:al) (bad:bf) (a:Nat),x.length=f*(k*ch)→tv k m ch f (uj k m ch f x) out bad a=(out++x,bad,0)
 |0,x,out,bad,a,h=>by
  rw[se]at h;rw[VD.1 h,tv,gj]
 |f+1,x,out,bad,a,h=>by
  rw[mL,rl]at h;have h1:(x.take (k*ch)).length=k*ch:=by rw[eS];omega
  have h2:=Fv (m:=m) hk h1;rw[uj,tv,pv h2,qi h2,aiJ hk h1,aw ak,K5 hk h1,Wj hk h1,ZL,gj];simp only;rw[OT hk f _ _ _ _ kU];have:((Cl k m ch (x.take (k*ch))).take k).flatten=x.take (k*ch):=by
   unfold Cl;rw[pv (kr _ _ _),HH _ _ _ h1]
  rw[this,bV,jJ]
theorem yo{k m ch:Nat}(hk:0<k):∀(f:Nat) (x:al),x.length=f*(k*ch)→(uj k m ch f x).length=f*((k+m)*(ch+4))
 |0,x,h=>by simp[uj]
 |f+1,x,h=>by
  rw[mL,rl]at h;have h1:(x.take (k*ch)).length=k*ch:=by rw[eS];omega
  rw[uj,aY,Fv hk h1,yo hk f _ kU,kD f];omega
theorem CR{k ch n:Nat}(h:0<k*ch):n≤lN k ch n*(k*ch):=by
 unfold lN;have:=Nat.div_add_mod (n+k*ch-1) (k*ch);have h2:=sX (n+k*ch-1) h;rw[nL]at this;omega
theorem uD{k ch:Nat}(h:0<k*ch)(b:al):(sn k ch b).length=lN k ch b.length*(k*ch):=by
 have:=CR (n:=b.length) h;unfold sn;rw[aY,yd];omega
theorem adr{k m ch:Nat}(hk:0<k)(hc:0<ch){b:al}(h:(p6 k m ch b).2=0):jV k m ch b.length (p6 k m ch b).1=(b,[],0):=by
 have hkc:0<k*ch:=N4 hk hc;unfold p6 at h⊢;split at h
 ·rename_i h1;exact absurd h h1
 ·rename_i h1;rw[aw h1];have hl:=yo (k:=k) (m:=m) (ch:=ch) hk _ _ (uD hkc b);have hr:oD k m ch b.length (uj k m ch (lN k ch b.length) (sn k ch b))=(sn k ch b,[],0):=by
   unfold oD;rw[OT hk _ _ _ _ _ (uD hkc b),nG]
  unfold jV;rw[aw h1,aw (by simp only;rw[hl];unfold jg;omega),aw (by simp only;rw[hl];unfold jg;omega),hr,aw ak,aw]
  ·simp only;unfold sn;rw[pv rfl]
  ·rintro⟨x,hx,h0⟩;simp only at hx;unfold sn at hx;rw[qi rfl]at hx;exact h0 (List.eq_of_mem_replicate hx)
def wo(o:aR)(n:Nat):al:=
 (dY++[3])++([fI o.2.1,UInt8.ofNat o.2.2.1.toNat,UInt8.ofNat o.2.2.2.1.toNat,UInt8.ofNat o.2.2.2.2.1.toNat]++(fF o.2.2.2.2.2.toNat 2++(fF o.1.toNat 2++fF n 4)))
def jm(o:aR)(n:Nat):al:=cX (wo o n)
def ic(o:aR)(b:al):al×Int:=p6 o.2.2.2.1.toNat o.2.2.2.2.1.toNat o.2.2.2.2.2.toNat b
def lg(o:aR)(b:al):al:=jm o b.length++((ic o b).1++jm o b.length)
def sA(o:aR)(L:List aI):al×Int:=
 if cB 3 o≠0 then ([],cB 3 o) else if (fX o L).2≠0 then ([],(fX o L).2) else if (ic o (dy o L)).2≠0 then ([],(ic o (dy o L)).2) else (lg o (dy o L),0)
def zo(c:al):Prop:=(aJ c).2=0∧(marked c).2=0∧(marked c).1=3
instance (c:List UInt8):Decidable (zo c):=inferInstanceAs (Decidable (_∧_∧_))
def ek(b:al):al×Int:=
 if b.length<42 then ([],1) else if zo (b.take 21) then (b.take 21,0) else if zo (b.drop (b.length-21)) then (b.drop (b.length-21),0) else ([],5)
def CD(c:al):Cs:=⟨c.drop 5,0,0⟩
def k_(c:al):Cs:=(CD c).eJ
def jF(c:al):Cs:=(k_ c).eJ
def wS(c:al):Cs:=(jF c).eJ
def LD(c:al):Cs:=(wS c).eJ
def hs5(c:al):Cs:=(LD c).k9 2
def hs6(c:al):Cs:=(hs5 c).k9 2
def D9(c:al):UInt8:=(CD c).byte
def hO(c:al):aR:=((((hs5 c).fixed 2:Nat):Int),decide ((D9 c).toNat=1),((k_ c).byte.toNat:Int),((jF c).byte.toNat:Int),((wS c).byte.toNat:Int),(((LD c).fixed 2:Nat):Int))
def hN(c:al):Nat:=(hs6 c).fixed 4
def hE(c:al):Int:=if 1<(D9 c).toNat then 2 else cB 3 (hO c)
noncomputable def Bw(b:al):al×bf×Int:=jV (hO (ek b).1).2.2.2.1.toNat (hO (ek b).1).2.2.2.2.1.toNat (hO (ek b).1).2.2.2.2.2.toNat (hN (ek b).1) ((b.take (b.length-21)).drop 21)
def Ki(b:al):Nat:=if b.take 21=b.drop (b.length-21) then 0 else 1
noncomputable def dI(b:al):aR×al×Nat×Int:=
 if (ek b).2≠0 then (h_,[],0,(ek b).2) else if hE (ek b).1≠0 then (h_,[],0,hE (ek b).1)
 else if (Bw b).2.2≠0 then (h_,[],0,(Bw b).2.2) else (hO (ek b).1,(Bw b).1,(Bw b).2.1.length+Ki b,0)
noncomputable def ig(b:al):aR×ir×Nat×Int:=
 if (dI b).2.2.2≠0 then (h_,.nil,0,(dI b).2.2.2)
 else if (ei (dI b).1 (dI b).2.1).2≠0 then (h_,.nil,0,(ei (dI b).1 (dI b).2.1).2)
 else ((dI b).1,(ei (dI b).1 (dI b).2.1).1,(dI b).2.2.1,0)
noncomputable def lh(b:al):aR×List aI×Nat×Nat×Int:=
 if (ig b).2.2.2≠0 then (h_,[],0,0,(ig b).2.2.2) else if (jl (ig b).2.1).2≠0 then (h_,[],0,0,(jl (ig b).2.1).2)
 else ((ig b).1,(jl (ig b).2.1).1,(ig b).2.1.ns.length,(ig b).2.2.1,0)
theorem lW{o:aR}(ho:cB 3 o=0):nZ 3 o∧cB 2 (o2 o)=0:=by
 have fG:nZ 3 o:=by
  unfold cB at ho;rw[ao (.inr (.inr rfl))]at ho;exact bH fun h=>by rw[aw h]at ho;simp at ho
 refine⟨fG,?_⟩;obtain⟨h1,_,h3,_,_⟩:=fG;unfold cB;rw[ao (.inr (.inl rfl)),ao];exact⟨h1,fun h=>absurd h aa,fun _=>h3 (.inl rfl),fun _=>⟨rfl,rfl,rfl⟩,fun h=>absurd h aa⟩
theorem Cs.zD{s:Cs}{x k:Nat}{r:al}(h0:s.e=0)(h1:1≤k)(h8:k≤8)(hx:x<2^(8*k))(hr:s.rest=fF x k++r):s.fixed k=x∧nT s (s.k9 k) (fF x k):=by
 obtain⟨a,d⟩:=Cs.mz (n:=(k:Nat)) h0 ak hr;unfold Cs.fixed Cs.k9;rw[aw aa,aw aa,a,Ez];exact⟨i_ hx,d⟩
theorem sk{x:Nat}(h:x<256):(UInt8.ofNat x).toNat=x:=by rw[oi];exact i_ h
theorem FJ(o:aR)(n:Nat):(jm o n).length=21:=by
 unfold jm wo;rw[du];simp[dY]
theorem afw(o:aR)(n:Nat):zo (jm o n):=by
 have hmk:marked (jm o n)=(3,0):=by
  have:=lV (v:=3) C6 (([fI o.2.1,UInt8.ofNat o.2.2.1.toNat,UInt8.ofNat o.2.2.2.1.toNat,UInt8.ofNat o.2.2.2.2.1.toNat]++(fF o.2.2.2.2.2.toNat 2++(fF o.1.toNat 2++fF n 4)))++my (pT 0 (wo o n)));rw[←this];congr 1
 refine⟨?_,by rw[hmk],by rw[hmk]⟩;unfold jm;rw[jt]
theorem aac{o:aR}{n:Nat}(ho:cB 3 o=0)(hn:n<4294967296):hE (jm o n)=0∧hO (jm o n)=o∧hN (jm o n)=n:=by
 obtain⟨fG,_⟩:=lW ho;obtain⟨⟨m1,m2⟩,m3,m4,_,_⟩:=fG;obtain⟨⟨k1,k2⟩,⟨k3,k4⟩,⟨k5,k6⟩⟩:=m3 rfl;obtain⟨m5,m6⟩:=m4 (.inl rfl);obtain⟨x,hx⟩:=cK ((jm o n).drop 5);have r0:(CD (jm o n)).rest=fI o.2.1::(UInt8.ofNat o.2.2.1.toNat::(UInt8.ofNat o.2.2.2.1.toNat::(UInt8.ofNat o.2.2.2.2.1.toNat::(fF o.2.2.2.2.2.toNat 2++(fF o.1.toNat 2++(fF n 4++my (pT 0 (wo o n)))))))):=by
  unfold CD Cs.rest jm cX wo;simp[dY]
 obtain⟨n1,d1⟩:=Cs.mb (s:=CD (jm o n)) rfl r0;have r1:(k_ (jm o n)).rest=_:=d1.cI (p:=[fI o.2.1]) r0;obtain⟨n2,d2⟩:=Cs.mb (s:=k_ (jm o n)) d1.e1 r1;have r2:(jF (jm o n)).rest=_:=d2.cI (p:=[UInt8.ofNat o.2.2.1.toNat]) r1;obtain⟨n3,d3⟩:=Cs.mb (s:=jF (jm o n)) d2.e1 r2;have r3:(wS (jm o n)).rest=_:=d3.cI (p:=[UInt8.ofNat o.2.2.2.1.toNat]) r2;obtain⟨n4,d4⟩:=Cs.mb (s:=wS (jm o n)) d3.e1 r3;have r4:(LD (jm o n)).rest=_:=d4.cI (p:=[UInt8.ofNat o.2.2.2.2.1.toNat]) r3;obtain⟨n5,d5⟩:=Cs.zD (s:=LD (jm o n)) (k:=2) d4.e1 aa aa aa r4;have r5:(hs5 (jm o n)).rest=_:=d5.cI r4;obtain⟨n6,d6⟩:=Cs.zD (s:=hs5 (jm o n)) (k:=2) d5.e1 aa aa aa r5;have r6:(hs6 (jm o n)).rest=_:=d6.cI r5;obtain⟨n7,d7⟩:=Cs.zD (s:=hs6 (jm o n)) (k:=4) d6.e1 aa aa aa r6;have ePl:D9 (jm o n)=fI o.2.1:=n1;have l9:(fI o.2.1).toNat≤1∧(decide ((fI o.2.1).toNat=1)=o.2.1):=by cases o.2.1<;>exact⟨aB,aB⟩
 have eO:hO (jm o n)=o:=by
  unfold hO;rw[ePl,l9.2,n2,n3,n4,sk aa,sk aa,sk aa];rw[show(LD (jm o n)).fixed 2=_ from n5,show(hs5 (jm o n)).fixed 2=_ from n6];obtain⟨a,b,c,d,e,f⟩:=o;simp only at m1 m2 m5 m6 k1 k2 k3 k4 k5 k6⊢;rw[ID aa,ID aa,ID aa,ID aa,ID aa]
 refine⟨?_,eO,n7⟩;unfold hE;rw[ePl,aw aa,eO,ho]
theorem AY{o:aR}{b:al}(ho:cB 3 o=0)(hl:(ic o b).2=0):dI (lg o b)=(o,b,0,0):=by
 have hlen:b.length≤8388608:=by
  refine bH fun h=>?_;have:(ic o b).2=13:=by
   unfold ic p6 zd;rw[ao (show 8388608<b.length by omega),ao aB]
  omega
 obtain⟨fG,_⟩:=lW ho;obtain⟨_,m3,_⟩:=fG;obtain⟨⟨k1,k2⟩,⟨k3,k4⟩,⟨k5,k6⟩⟩:=m3 rfl;obtain⟨e1,e2,e3⟩:=aac (n:=b.length) ho aa;have hH:=FJ o b.length;obtain⟨H,hHd⟩:=cK (jm o b.length);obtain⟨l,Ge⟩:=cK ((ic o b).1);have hA:lg o b=H++(l++H):=by unfold lg;rw[←hHd,←Ge]
 rw[←hHd]at hH e1 e2 e3;have hAl:(lg o b).length=42+l.length:=by rw[hA];simp only[aY];omega
 have P6:(lg o b).take 21=H:=by rw[hA];exact pv hH
 have hc2:(lg o b).drop ((lg o b).length-21)=H:=by rw[hAl,hA,←bV];exact qi tJ
 have RD:((lg o b).take ((lg o b).length-21)).drop 21=l:=by
  rw[hAl,hA,←bV,pv tJ];exact qi hH
 have aqi:ek (lg o b)=(H,0):=by
  unfold ek;rw[aw aa,P6,ao (by rw[hHd];exact afw _ _)]
 have t_:Bw (lg o b)=(b,[],0):=by
  unfold Bw;rw[aqi,RD];simp only;rw[e2,e3,Ge];exact adr aa aa hl
 have hd:Ki (lg o b)=0:=by unfold Ki;rw[P6,hc2,ao rfl]
 unfold dI;rw[aqi];simp only;rw[aw ak,e1,aw ak,t_,aw ak,e2,hd];rfl
theorem Th{o:aR}{L:List aI}(ho:cB 3 o=0)(hc:cP L=0)(hx:∀x∈L,x.1<18446744073709551616)(hw:dU L≤1048576)(hl:(ic o (dy o L)).2=0):
  lh (lg o (dy o L))=(o,L,(dR o false L).length,0,0):=by
 have hlen:(dy o L).length≤8388608:=by
  refine bH fun h=>?_;have:(ic o (dy o L)).2=13:=by
   unfold ic p6 zd;rw[ao (show 8388608<(dy o L).length by omega),ao aB]
  omega
 obtain⟨x,h1,h2,h3⟩:=HA (o:=o) (lW ho).2 hc hx hw hlen;have hM:=AY ho hl;have hO:ig (lg o (dy o L))=(o,x,0,0):=by
  unfold ig;rw[hM];simp only;rw[aw ak,h1];simp
 unfold lh;rw[hO];simp only;rw[aw ak,h3,aw ak,h2]
def ou(o:aR):al:=(dY++[2])++(aS o.1.toNat++(fI o.2.1::aS o.2.2.1.toNat))
def sB(o:aR):al:=cX (ou o)
def p7(o:aR)(L:List aI):al:=sB o++dy o L
def uM(o:aR)(L:List aI):al×Int:=if cB 2 o≠0 then ([],cB 2 o) else if (fX o L).2≠0 then ([],(fX o L).2) else (p7 o L,0)
def th1(b:al):Cs:=Cs.b_ ⟨b,0,0⟩ 5
def th2(b:al):Cs:=(th1 b).bW 32768
def Z'(b:al):UInt8:=(th2 b).byte
def WU(b:al):Cs:=if 1<(Z' b).toNat then (th2 b).eJ.failed 2 else (th2 b).eJ
def th4(b:al):Cs:=(WU b).bW 64
def BT(b:al):Cs:=(th4 b).b_ 4
def BU(b:al):aR:=(((th1 b).int 32768:Nat),decide ((Z' b).toNat=1),((WU b).int 64:Nat),0,0,0)
def rP(b:al):Nat×Int:=
 if (BT b).e≠0 then (0,(BT b).e) else if (aJ (b.take (BT b).at_)).2≠0 then (0,(aJ (b.take (BT b).at_)).2) else ((BT b).at_,cB 2 (BU b))
def iq(b:al):aR×ir×Int:=
 if (marked b).2≠0 then (h_,.nil,(marked b).2) else if (marked b).1≠2 then (h_,.nil,4)
 else if (rP b).2≠0 then (h_,.nil,(rP b).2)
 else if (ei (BU b) (b.drop (rP b).1)).2≠0 then (h_,.nil,(ei (BU b) (b.drop (rP b).1)).2)
 else (BU b,(ei (BU b) (b.drop (rP b).1)).1,0)
noncomputable def mA(b:al):aR×List aI×Nat×Int:=
 if (iq b).2.2≠0 then (h_,[],0,(iq b).2.2) else if (jl (iq b).2.1).2≠0 then (h_,[],0,(jl (iq b).2.1).2)
 else ((iq b).1,(jl (iq b).2.1).1,(iq b).2.1.ns.length,0)
theorem CL{o:aR}(ho:cB 2 o=0):nZ 2 o∧o2 o=o:=by
 have fG:nZ 2 o:=by
  unfold cB at ho;rw[ao (.inr (.inl rfl))]at ho;exact bH fun h=>by rw[aw h]at ho;simp at ho
 refine⟨fG,?_⟩;obtain⟨_,_,_,m5,_⟩:=fG;obtain⟨k1,k2,k3⟩:=m5 aa;obtain⟨a,b,c,d,e,f⟩:=o;simp only at k1 k2 k3;subst k1;subst k2;subst k3;rfl
theorem afQ{o:aR}{L:List aI}(ho:cB 2 o=0)(hc:cP L=0)(hx:∀x∈L,x.1<18446744073709551616)(hw:dU L≤1048576)(hlen:(dy o L).length≤8388608):
  mA (p7 o L)=(o,L,(dR o false L).length,0):=by
 obtain⟨fG,he⟩:=CL ho;obtain⟨⟨m1,m2⟩,_,m4,_,_⟩:=fG;obtain⟨m5,m6⟩:=m4 (.inr rfl);obtain⟨x,h1,h2,h3⟩:=HA (o:=o) (by rw[he];exact ho) hc hx hw hlen;obtain⟨b,hb⟩:=cK (p7 o L);have hmk:marked b=(2,0):=by
  have:=lV (v:=2) C6 ((aS o.1.toNat++(fI o.2.1::aS o.2.2.1.toNat))++(my (pT 0 (ou o))++dy o L));rw[←this,hb];congr 1;unfold p7 sB cX ou;show _=(dY++[2])++_;simp[bV]
 have r0:Cs.rest ⟨b,0,0⟩=(dY++[2])++(aS o.1.toNat++(fI o.2.1::(aS o.2.2.1.toNat++(my (pT 0 (ou o))++dy o L)))):=by
  unfold Cs.rest;rw[tp,hb];unfold p7 sB cX ou;simp[bV]
 obtain⟨_,d1⟩:=Cs.mz (n:=5) rfl rfl r0;have r1:=d1.cI r0;obtain⟨n2,d2⟩:=Cs.iB (m:=32768) d1.e1 aa aa r1;have r2:=d2.cI r1;obtain⟨n3,d3⟩:=Cs.mb d2.e1 r2;have r3:=d3.cI (p:=[fI o.2.1]) r2;obtain⟨n4,d4⟩:=Cs.iB (m:=64) d3.e1 aa aa r3;have r4:=d4.cI r3;obtain⟨_,d5⟩:=Cs.mz (n:=4) d4.e1 rfl r4;have l9:(fI o.2.1).toNat≤1∧(decide ((fI o.2.1).toNat=1)=o.2.1):=by cases o.2.1<;>exact⟨aB,aB⟩
 have e2:th2 b=(Cs.b_ ⟨b,0,0⟩ 5).bW 32768:=rfl;have ePl:Z' b=fI o.2.1:=by unfold Z';rw[e2];exact n3
 have e3:WU b=((Cs.b_ ⟨b,0,0⟩ 5).bW 32768).eJ:=by unfold WU;rw[ePl,aw aa,e2]
 have e4:th4 b=(((Cs.b_ ⟨b,0,0⟩ 5).bW 32768).eJ).bW 64:=by unfold th4;rw[e3]
 have eO:BU b=o:=by
  unfold BU;rw[show th1 b=Cs.b_ ⟨b,0,0⟩ 5 from rfl,n2,ePl,l9.2,e3,n4]
  conv=>rhs;rw[←he]
  unfold o2;congr 1
  ·omega
  ·congr 1;congr 1;omega
 have mJ:=(((d1.trans d2).trans d3).trans d4).trans d5;have Vi:((dY++[2]:al)++aS o.1.toNat++[fI o.2.1]++aS o.2.2.1.toNat++my (pT 0 (ou o)))=sB o:=by unfold sB cX ou;simp[bV]
 have e5:BT b=⟨b,(sB o).length,0⟩:=by
  unfold BT;rw[e4,mJ.eq,Vi];simp
 have hbt:b.take (sB o).length=sB o:=by rw[hb];exact pv rfl
 have P4:b.drop (sB o).length=dy o L:=by rw[hb];exact qi rfl
 have hcut:aJ (sB o)=(ou o,0):=jt _;have eE:rP b=((sB o).length,0):=by
  unfold rP;rw[e5];simp only;rw[hbt,hcut,aw ak,aw ak,eO,ho]
 have eOp:iq b=(o,x,0):=by
  unfold iq;rw[hmk];simp only;rw[aw ak,aw ak,eE];simp only;rw[aw ak,P4,eO,h1];simp
 unfold mA;rw[←hb,eOp];simp only;rw[aw ak,h3,aw ak,h2]
theorem aox{P:Prop}(h:P:=by(first|exact fun h=>absurd h.1 (by omega)|exact⟨fun h=>⟨by omega,h⟩,fun h=>h.2⟩)):P:=h
theorem aoq{P:Prop}(h:P:=by(exact eU (by first|exact fun h=>absurd h.1 (by omega)|exact⟨fun h=>⟨by omega,h⟩,fun h=>h.2⟩))):P:=h
theorem nR(x lo hi:Int):a_ B w0 115 [ah x,ah lo,ah hi] F (fun r L=>r= .bool (decide (PL x lo hi))∧L=F):=by
 refine fw func115 15 [0,1,2] ?_;refine bK ?_;refine bU 8 14 [] (PL x lo hi) ?_ ?_
 ·refine b8 ?_;refine cM (fun jx=>?_) fun jx=>?_
  ·refine bz ?_;exact aP (by exact dN aox)
  ·refine bA ?_;exact aP aoq
 ·refine bG ?_;exact⟨rfl,rfl⟩
theorem Z1(o:aR):a_ B w0 116 [.agg (aR.cells o).toArray] F (fun r L=>r= .bool (decide (anJ o))∧L=F):=by
 obtain⟨bl,pl,bu,da,pa,ch⟩:=o;refine cm func116 19 rfl rfl rfl [(0,.agg #[ah bl,.bool pl,ah bu,ah da,ah pa,ah ch])] ⟨⟨rfl,rfl⟩,trivial⟩ ?_;refine be ?_;refine bh fun g1=>?_;refine bK ?_;refine ai rfl (nR da 1 255) ?_;refine aF ?_;refine cM (fun h6=>?_) fun h6=>?_
 ·have hwd:1≤da∧da≤255:=h6;refine bB ?_;refine ai rfl (nR pa 0 (255-da)) ?_;refine be ?_;refine cM (fun jZ=>?_) fun jZ=>?_
  ·refine b8 ?_;refine ai rfl (nR ch 1 4096) ?_;refine be ?_;refine ve [2] ?_;refine be ?_;refine aq (L':=F) (.skip (.refl _)) ?_;refine aF ?_;exact⟨dB Value.bool (sc.2 ⟨fun h=>⟨h6,jZ,h⟩,fun h=>h.2.2⟩),rfl⟩
  ·refine b8 ?_;refine ve [2] ?_;refine be ?_;refine aq (L':=F) (.skip (.refl _)) ?_;refine aF ?_;exact⟨dB Value.bool (lu (fun h=>jZ h.2.1)).symm,rfl⟩
 ·refine cH ?_;refine ve [2] ?_;refine be ?_;refine aq (L':=F) (.skip (.refl _)) ?_;refine aF ?_;exact⟨dB Value.bool (lu (fun h=>h6 h.1)).symm,rfl⟩
theorem uv(hb:eM B w0 F A c l)(hl:l.length≤1099511627776):
  a_ B w0 107 [.slice A l.length c] F (fun r L=>r= .tuple #[ah (marked l).1,ah (marked l).2]∧L=F):=by
 refine dL.xk hb fun mm _=>?_;refine fw func107 29 [0] ?_;refine GD ?_;refine aj (fun h5=>?_) fun h5=>?_
 ·have e:marked l=(0,1):=ao aa;rw[e];refine bB ?_;exact⟨rfl,rfl⟩
 ·have h4:4<l.length:=by omega
  have tB:=(l.getD 4 0).toNat_lt;have wP:=hb.iY (k:=4) aa;have Yz:(bv l).take (4*1)=bv (l.take 4):=by simp[bv,pt]
  rw[Yz]at wP;have hv1:(bv l)[4*1]? =some (.int .u8 ((l.getD 4 0).toNat:Int)):=by simp[bv,List.getD,fm h4]
  refine b8 ?_;refine ab (bN (i:=4) (size:=1) underlying27 ag rfl rfl rfl aa) rfl ?_;refine ab (pe underlying27 underlying5 underlying9 rfl aA) rfl ?_;refine b8 ?_;refine aj (fun jx=>?_) fun jx=>?_
  ·have e:marked l=(0,3):=by unfold marked;rw[aw aa,ao (fun h=>jx (by rw[h];rfl))]
   rw[e];refine bB ?_;exact⟨rfl,rfl⟩
  ·have jx:l.take 4=dY:=jG.1 jx;refine b8 ?_;refine ab (aC (i:=4) (size:=1) underlying27 ag rfl rfl rfl aa aA) rfl ?_;refine ab (au ag rfl aA aa hv1) rfl ?_;refine aF ?_;refine ai rfl (nR ((l.getD 4 0).toNat:Int) 1 3) ?_;refine be ?_;refine ve [0,4,16] ?_;refine aF ?_;refine aj (fun ki=>?_) fun ki=>?_
   ·have e:marked l=(0,4):=by unfold marked;rw[aw aa,aw (fun h=>h jx),ao ki]
    rw[e];refine bB ?_;exact⟨rfl,rfl⟩
   ·have e:marked l=(((l.getD 4 0).toNat:Int),0):=by unfold marked;rw[aw aa,aw (fun h=>h jx),aw ki]
    rw[e];refine bK ?_;refine ab (aC (i:=4) (size:=1) underlying27 ag rfl rfl rfl aa aA) rfl ?_;refine ab (au ag rfl aA aa hv1) rfl ?_;refine bK ?_;exact⟨rfl,rfl⟩
section
section
variable{C:Cx}{fr:Fr}{L:aQ}{x y:Operand}{f:Ch→aQ}{t e ty:TypeId}{k:IntKind}{m n:Int}{v:Value}
theorem uu(z:Array Value):∀(nn:Nat),(madeCells z (nn*z.size)).toList=(List.replicate nn z.toList).flatten
 |0=>by simp[madeCells]
 |nn+1=>by
  have ih:=uu z nn;rw[List.replicate_succ',List.flatten_append,←ih];simp only[wm,List.flatten_nil,gj];apply pZ
  ·simp[madeCells,j8]
  ·intro i h1 h2;simp only[madeCells,Array.toList_map,Array.toList_range,Ex,GY];by_cases hi:i<nn*z.size
   ·rw[List.getElem_append_left (by simpa[madeCells]using hi)];simp
   ·have hz:i<(nn+1)*z.size:=by simpa[madeCells]using h1
    rw[j8]at hz;rw[List.getElem_append_right bR];obtain⟨j,rfl⟩:∃j,i=nn*z.size+j:=⟨i-nn*z.size,aa⟩
    have hj:j<z.size:=by omega
    simp only[eK,wk,yg,nL nn,Nat.mul_add_mod,i_ hj];simp[getElem!_pos,hj]
theorem H9{size bytes:Nat}{zv:Value}(T:sJ C.P t e size bytes zv){k':IntKind}{nn cc:Nat}(he:ev fr x=some (.int k m))(hm:m=(nn:Int))(hy:ev fr y=some (.int k' n))(hn:n=(cc:Int))(hle:nn≤cc)(jR:bytes*cc≤281474976710656)(Lz:cc≤281474976710656):
  qx C fr L (.makeSlice t x y) ty (fun p L'=>∃A,p= .slice A nn cc∧L'= .own e size A nn cc (List.replicate nn zv.cells.toList).flatten::L):=fun a w ha hw d pos af gg=>by
 subst hm;subst hn;obtain⟨i,hi,hz,iZ,Ea⟩:=T.hi;have hr:=run_make (P:=C.P) w t e i zv T.ht hi hz k k' (nn:Int) (cc:Int) aa aa (by rw[Ea,←z6];omega) aa;simp only[nH,iZ]at hr;have hzs:=T.hz;have l9:∀q:Nat,((List.replicate q zv.cells.toList).flatten).length=q*size:=fun q=>by
  rw[List.length_flatten,List.map_replicate,List.sum_replicate_nat,N2,hzs]
 refine⟨.slice (some ⟨w.heap.size,0,none⟩) nn cc,w.alloc (.cells (madeCells zv.cells (cc*size)) e),_,.inl (by simp[execOp,ha.tmp he,ha.tmp hy,hr]),⟨some ⟨w.heap.size,0,none⟩,rfl,rfl⟩,hw.gI (Kv w _ none) ⟨l9 nn,hle,?_⟩ ?_⟩
 ·by_cases qM:cc=0
  ·exact .inl qM
  ·refine .inr ⟨_,_,rfl,hw.base,Ev w _,Bj,by simp[madeCells],?_⟩;rw[←hzs,uu];obtain⟨d,rfl⟩:∃d,cc=nn+d:=⟨cc-nn,aa⟩
   have e2:(List.replicate (nn+d) zv.cells.toList).flatten=(List.replicate nn zv.cells.toList).flatten++(List.replicate d zv.cells.toList).flatten:=by
    rw[←List.flatten_append,←List.replicate_append_replicate]
   rw[e2];exact pv (by rw[l9,hzs])
 ·by_cases qM:cc=0
  ·left;simp[Ch.fp,qM]
  ·right;exact⟨w.heap.size,Hq,gi _⟩
theorem aeS{α:Type}{L us:List α}{j kk N:Nat}(hj:j+kk≤N)(hk:us.length=kk)(hN:N≤L.length):(L.take j++us++L.drop (j+kk)).take N=(L.take N).take j++us++(L.take N).drop (j+kk):=by
 have hl:(L.take j).length=j:=by rw[eS];omega
 rw[bV,N8,hl,fA aa,N8,hk,fA (by omega:us.length≤N-j),Iz,zb aa,RW,←bV,show N-j-kk=N-(j+kk) by omega]
theorem DN{size nn c j:Nat}{A:bj}{xs us:cV}(kk:Nat)(hs:pq C.P t kk=true)(he:ev fr x=some (.pointer (A.map (·.add j))))(hv:ev fr y=some (.agg us.toArray))(h1:∀u∈us,u.oneCell'=true)(hk:us.length=kk)(hm:mG (.own e size A nn c xs) L f)(hj:j+kk≤xs.length)(h0:0<kk):
  qx C fr L (.store t x y) ty (fun p L'=>L'=f (.own e size A nn c (xs.take j++us++xs.drop (j+kk)))):=fun a w ha hw d pos af gg=>by
 obtain⟨q1,q2,q3⟩:=hw.all _ hm.mem;have qM:¬c=0:=fun h=>by
  have:nn=0:=by omega
  subst this;rw[se]at q1;omega
 obtain⟨g,cur,rfl,k1,k2,k3,k4,k5⟩:=q3.resolve_left qM;have GI:(⟨g,0,none⟩:Addr).add j=⟨g,j,none⟩:=by rw[zV,mw]
 have tB:xs.length≤cur.size:=by
  have:=dB List.length k5;rw[eS,N2]at this;omega
 have hr:=run_storeCells_at (P:=C.P) g j e us 0 cur w k2 aa h1;have iZ:(C.P.info? t).map (·.size)=some kk:=by
  have h:=hs;unfold pq at h;rw[zZ]at h;have h2:=h.2;rw[beq_iff_eq]at h2;exact h2
 obtain⟨i,hi,hii⟩:∃i,C.P.info? t=some i∧i.size=kk:=by
  cases hq:C.P.info? t with
  |none=>rw[hq]at iZ;cases iZ
  |some i=>rw[hq]at iZ;exact⟨i,rfl,by simpa using iZ⟩
 have th:(storeVar t ⟨g,j,none⟩ (.agg us.toArray)).run C.P w= .ok () (w.setRow g (cur.toList.take (j+0)++us++cur.toList.drop (j+0+us.length)).toArray):=by
  simp[storeVar,sizeOf,typeInfo,hi,hii,Value.cells,hk,hr]
 refine⟨undef,w.setRow g (cur.toList.take (j+0)++us++cur.toList.drop (j+0+us.length)).toArray,_,.inr ⟨?_,rfl⟩,rfl,?_⟩
 ·have he':ev fr x=some (.pointer (some ⟨g,j,none⟩)):=by rw[he];simp[GI]
  simp[execOp,Instr.storeAt,Instr.sureAddr,ha.tmp he',ha.tmp hv,th]
 ·have P7:(Ch.own e size (some ⟨g,0,none⟩) nn c xs).fp=some g:=by simp[Ch.fp,qM]
  refine hw.Qe hm ?_ (fun _=>⟨?_,q2,.inr ⟨g,_,rfl,k1,N1 w g cur _ e _ k2,k3,?_,?_⟩⟩) (.inr (.inl rfl))
  ·rw[P7];exact⟨rfl,rfl,rfl,ak,fun k _ hk=>N3 w g k _ (fun e=>hk xz)⟩
  ·simp only[aY,eS,iG];omega
  ·simp only[wW,aY,eS,iG,N2];rw[←k4];omega
  ·have e2:=aeS (L:=cur.toList) (us:=us) (j:=j) (kk:=kk) (N:=nn*size) aa hk (by rw[N2];omega);rw[k5]at e2;simp only[tk,hk];exact e2
end
theorem sr{xs us:cV}{j n:Nat}(h:(xs.drop j).take n=us):∀(q:Nat) (u:Value),us[q]? =some u→xs[j+q]? =some u:=by
 subst h;intro q u hu;rw[GS]at hu;split at hu
 ·rwa [k_7]at hu
 ·cases hu
end
section
section
variable{fr:Fr}{L L':aQ}{g:Nat}{bt:TypeId}{cs:cV}{f:Ch→aQ}
theorem qt{P:Program}{fn:Func}{R:qP}{q u s kk:Nat}{ty:TypeId}(hr:fn.results= #[.cell q ty,.tmp u,.tmp s])(hq:look q fr=some (br g))(hs:pq P ty kk=true)(hm:mG (.bE g bt cs) L f)(hk:cs.length=kk){v x:Value}(hu:look u fr=some v)(hx:look s fr=some x)(YL:Wk L L')(h:R (.tuple #[.agg cs.toArray,v,x]) L'):Cp P fn R .ret fr L:=fun B w0 a w ha hw=>by
 subst hk;refine⟨_,L',?_,h,YL.sl hw⟩;have hl:=kI (P:=P) (w:=w) (p:=⟨g,0,none⟩) hs (fun j u hj=>abb);simp[results,hr,ha.at_ _ _ hq,ha.at_ _ _ hu,ha.at_ _ _ hx,asAddr,hl]
theorem nv{P:Program}{fn:Func}{R:qP}{q u s t kk:Nat}{ty:TypeId}(hr:fn.results= #[.cell q ty,.tmp u,.tmp s,.tmp t])(hq:look q fr=some (br g))(hs:pq P ty kk=true)(hm:mG (.bE g bt cs) L f)(hk:cs.length=kk){v x y:Value}(hu:look u fr=some v)(hx:look s fr=some x)(hy:look t fr=some y)(YL:Wk L L')(h:R (.tuple #[.agg cs.toArray,v,x,y]) L'):Cp P fn R .ret fr L:=fun B w0 a w ha hw=>by
 subst hk;refine⟨_,L',?_,h,YL.sl hw⟩;have hl:=kI (P:=P) (w:=w) (p:=⟨g,0,none⟩) hs (fun j u hj=>abb);simp[results,hr,ha.at_ _ _ hq,ha.at_ _ _ hu,ha.at_ _ _ hx,ha.at_ _ _ hy,asAddr,hl]
theorem KS{P:Program}{fn:Func}{R:qP}{q u s t r kk:Nat}{ty:TypeId}(hr:fn.results= #[.cell q ty,.tmp u,.tmp s,.tmp t,.tmp r])(hq:look q fr=some (br g))(hs:pq P ty kk=true)(hm:mG (.bE g bt cs) L f)(hk:cs.length=kk){v x y z:Value}(hu:look u fr=some v)(hx:look s fr=some x)(hy:look t fr=some y)(hz:look r fr=some z)(YL:Wk L L')(h:R (.tuple #[.agg cs.toArray,v,x,y,z]) L'):Cp P fn R .ret fr L:=fun B w0 a w ha hw=>by
 subst hk;refine⟨_,L',?_,h,YL.sl hw⟩;have hl:=kI (P:=P) (w:=w) (p:=⟨g,0,none⟩) hs (fun j u hj=>abb);simp[results,hr,ha.at_ _ _ hq,ha.at_ _ _ hu,ha.at_ _ _ hx,ha.at_ _ _ hy,ha.at_ _ _ hz,asAddr,hl]
theorem J3{C:Cx}{fr:Fr}{L:aQ}{x y:Operand}{t ty e:TypeId}{size bytes:Nat}{zv:Value}(T:sJ C.P t e size bytes zv){A:bj}{n c:Nat}{xs:cV}(he:ev fr x=some (.slice A n c))(hx:aK C.B C.w0 L size (.slice A n c) n xs)(h0:0<n){yv:Value}{m:Nat}{news:cV}(hy:ev fr y=some yv)(hb:aK C.B C.w0 L size yv m news)(h1:∀u∈news,u.oneCell'=true)(Nu:c<n+m)(jR:(n+m)*bytes≤140737488355328)(Lz:n+m≤140737488355328):
  qx C fr L (.call {callee:=.builtin .append,args:= #[x,y],argTypes:= #[t,t]}) ty (fun p L'=>∃A' c',p= .slice A' (n+m) c'∧L'= .own e size A' (n+m) c' (xs++news)::L):=fun a w ha hw d pos af gg=>by
 obtain⟨i,hi,hz,iZ,Ea⟩:=T.hi;subst iZ Ea;obtain⟨X0,c0,e0,hnc,k1,hrx⟩:=hx w hw;injection e0 with e1 e2 e3;subst e1;subst e3;obtain⟨a0,ea,hab,holds⟩:=hrx h0;subst ea;obtain⟨X,cx,rfl,hmc,hl,t_⟩:=hb w hw;have hm0:0<m:=by omega
 obtain⟨ad,eX,_,Ec⟩:=t_ hm0;subst eX;have amf:n+m≤maxLen:=by unfold maxLen;omega
 have hlen:(xs++news).length=(n+m)*i.size:=by rw[aY,k1,hl,mL]
 have wN:=grownCap_ge w (n+m) c e;have hr:=run_append_grow (P:=C.P) w t ty e i zv T.ht hi hz a0 n c xs k1 holds ad m cx news hl Ec aa aa (growslice_fits aa jR);have big:wy (w.drew.alloc (.cells (xs.toArray++news.toArray++Builtin.zeroCells zv.cells (grownCap w (n+m) c e-(n+m))) e)) C.B e i.size (some ⟨w.heap.size,0,none⟩) (n+m) (grownCap w (n+m) c e) (xs++news):=by
  refine⟨hlen,wN,.inr ⟨w.heap.size,_,rfl,hw.base,Ev w.drew _,grownCap_le_maxLen w (n+m) c e amf,?_,?_⟩⟩
  ·simp only[Array.size_append,wW,size_zeroCells,T.hz,k1,hl,←mL];congr 1;omega
  ·simp only[Array.toList_append,bV];rw[←bV,←hlen];exact yk
 refine⟨_,_,_,.inl ?_,⟨_,_,rfl,rfl⟩,hw.gI ?_ big ?_⟩
 ·simp[execOp,resolve,invoke,builtin,ha.tmp he,ha.tmp hy,hr]
 ·exact⟨rfl,rfl,rfl,ak,fun k hk _=>heap_alloc_old w.drew _ hk⟩
 ·right;have:¬grownCap w (n+m) c e=0:=by omega
  exact⟨_,by simp[Ch.fp,this],gi _⟩
theorem ph{C:Cx}{x y:Operand}{t ty:TypeId}{o:Nat}{us:cV}(kk:Nat)(hs:pq C.P t kk=true)(he:ev fr x=some (.pointer (some ⟨g,o,none⟩)))(hv:ev fr y=some (.agg us.toArray))(h1:∀u∈us,u.oneCell'=true)(hm:mG (.bE g bt cs) L f)(hk:us.length=kk)(ho:o+kk≤cs.length):
  qx C fr L (.store t x y) ty (fun p L'=>L'=f (.bE g bt (cs.take o++us++cs.drop (o+kk)))):=fun a w ha hw d pos af gg=>by
 have hb:=(hw.all _ hm.mem).2;have hr:=run_storeCells_at (P:=C.P) g o bt us 0 cs.toArray w hb bR h1;have iZ:(C.P.info? t).map (·.size)=some kk:=by
  have h:=hs;unfold pq at h;rw[zZ]at h;have h2:=h.2;rw[beq_iff_eq]at h2;exact h2
 obtain⟨i,hi,hii⟩:∃i,C.P.info? t=some i∧i.size=kk:=by
  cases hq:C.P.info? t with
  |none=>rw[hq]at iZ;cases iZ
  |some i=>rw[hq]at iZ;exact⟨i,rfl,by simpa using iZ⟩
 simp only[tk]at hr;have th:(storeVar t ⟨g,o,none⟩ (.agg us.toArray)).run C.P w= .ok () (w.setRow g (cs.take o++us++cs.drop (o+us.length)).toArray):=by
  simp[storeVar,sizeOf,typeInfo,hi,hii,Value.cells,hk,hr]
 rw[←hk];refine⟨undef,w.setRow g (cs.take o++us++cs.drop (o+us.length)).toArray,_,.inr ⟨?_,rfl⟩,rfl,?_⟩
 ·simp[execOp,Instr.storeAt,Instr.sureAddr,ha.tmp he,ha.tmp hv,th]
 ·refine hw.Qe hm ?_ (fun⟨q1,q2⟩=>⟨q1,?_⟩) (.inr (.inl rfl))
  ·exact⟨rfl,rfl,rfl,ak,fun k _ hk=>N3 w g k _ (fun e=>hk C9)⟩
  ·exact N1 w g cs.toArray _ bt _ q2
end
end
section
theorem oU{P:Prop}(h:P:=by(assumption)):P:=h
theorem Sz(x y:aR)(w:World):(Op.equalIn 10000 23 (.agg (aR.cells x).toArray) (.agg (aR.cells y).toArray)).run Tryz.prog w= .ok (decide (x=y)) w:=by
 have p0:=fun(z:aR) w=>gT (P:=Tryz.prog) (t:=3) (xs:=(aR.cells z).toArray) (off:=0) (v:=ah z.1) ag rfl w;have p1:=fun(z:aR) w=>gT (P:=Tryz.prog) (t:=4) (xs:=(aR.cells z).toArray) (off:=1) (v:=.bool z.2.1) ag rfl w;have p2:=fun(z:aR) w=>gT (P:=Tryz.prog) (t:=3) (xs:=(aR.cells z).toArray) (off:=2) (v:=ah z.2.2.1) ag rfl w;have p3:=fun(z:aR) w=>gT (P:=Tryz.prog) (t:=3) (xs:=(aR.cells z).toArray) (off:=3) (v:=ah z.2.2.2.1) ag rfl w;have p4:=fun(z:aR) w=>gT (P:=Tryz.prog) (t:=3) (xs:=(aR.cells z).toArray) (off:=4) (v:=ah z.2.2.2.2.1) ag rfl w;have p5:=fun(z:aR) w=>gT (P:=Tryz.prog) (t:=3) (xs:=(aR.cells z).toArray) (off:=5) (v:=ah z.2.2.2.2.2) ag rfl w;have q0:=fun(a b:Int) w=>run_equalIn_int (P:=Tryz.prog) w 9998 3 .i64 .i64 a b underlying3;have q1:=fun(a b:Bool) w=>run_equalIn_bool' (P:=Tryz.prog) w 9998 4 a b underlying4;rw[run_equalIn_agg w 9999 _ _ _ ag ag];simp only[Program.fieldsOf,underlying23];simp[Op.eqFields,p0,p1,p2,p3,p4,p5];rw[q0];obtain⟨a,b,s,f,t,u⟩:=x;obtain⟨a',b',s',f',t',u'⟩:=y;by_cases h0:a=a'
 ·have e0:(a==a')=true:=by simp[h0]
  simp only[e0,ug];rw[q1];by_cases h1:b=b'
  ·have e1:(b==b')=true:=by simp[h1]
   simp only[e1,ug];rw[q0];by_cases h2:s=s'
   ·have e2:(s==s')=true:=by simp[h2]
    simp only[e2,ug];rw[q0];by_cases h3:f=f'
    ·have e3:(f==f')=true:=by simp[h3]
     simp only[e3,ug];rw[q0];by_cases h4:t=t'
     ·have e4:(t==t')=true:=by simp[h4]
      simp only[e4,ug];rw[q0];by_cases h5:u=u'
      ·simp[h0,h1,h2,h3,h4,h5]
      ·have h':(u==u')=false:=by rw[qg];exact h5
       simp[h5,h']
     ·have h':(t==t')=false:=by rw[qg];exact h4
      simp[h4,h']
    ·have h':(f==f')=false:=by rw[qg];exact h3
     simp[h3,h']
   ·have h':(s==s')=false:=by rw[qg];exact h2
    simp[h2,h']
  ·have h':(b==b')=false:=by rw[qg];exact h1
   simp[h1,h']
 ·have h':(a==a')=false:=by rw[qg];exact h0
  simp[h0,h']
section
variable{C:Cx}{fr:Fr}{L:aQ}{x y:Operand}{ty yt:TypeId}{p q:aR}
theorem qa(hP:C.P=Tryz.prog)(p q:aR)(h1:ev fr x=some (.agg (aR.cells p).toArray))(h2:ev fr y=some (.agg (aR.cells q).toArray)):gF C fr L (.binOp .eql 23 x y yt) ty (.bool (decide (p=q))):=fun a w ha hw d pos af g=>by
 have he:(eqGuard .eql 23 x y (.agg (aR.cells p).toArray) (.agg (aR.cells q).toArray)).run C.P w= .ok () w:=by rw[hP];exact run_eqGuard_agg w .eql _ x y _ _ ag
 have e1:(binOp .eql 23 (.agg (aR.cells p).toArray) (.agg (aR.cells q).toArray)).run C.P w= .ok (.bool (decide (p=q))) w:=by
  rw[hP,run_eql_struct,Sz];simp
 simp only[execOp,ha.tmp h1,ha.tmp h2,Kt,he,e1,ug,GU]
end
theorem uC{v:Int}{o:aR}(h:v=1∨v=2∨v=3)(h2:¬nZ v o):cB v o=9:=by unfold cB;rw[ao h,aw h2]
theorem Sy{v:Int}{o:aR}(h:v=1∨v=2∨v=3)(h2:nZ v o):cB v o=0:=by unfold cB;rw[ao h,ao h2]
theorem am'{v:Int}{o:aR}(h:¬(v=1∨v=2∨v=3)):cB v o=4:=by unfold cB;rw[aw h]
theorem kF(v:Int)(o:aR):a_ B w0 61 [ah v,.agg (aR.cells o).toArray] F (fun r L=>r=ah (cB v o)∧L=F):=by
 obtain⟨bl,pl,bu,da,pa,ch⟩:=o;refine cm func61 45 rfl rfl rfl [(0,ah v),(1,.agg #[ah bl,.bool pl,ah bu,ah da,ah pa,ah ch])] ⟨⟨rfl,rfl⟩,⟨rfl,rfl⟩,trivial⟩ ?_;refine be ?_;refine bh fun g3=>?_;refine bK ?_;refine ai rfl (nR bl 16 32768) ?_;refine bz ?_;refine bc fun g6=>?_;refine ahu ?_;refine aj (fun mD=>?_) fun mD=>?_
 ·refine bO ?_;refine cM (fun pV=>?_) fun pV=>?_
  ·refine be ?_;refine ai rfl (Z1 (bl,pl,bu,da,pa,ch)) ?_;refine cZ ?_;refine ve [3,5,6] ?_;refine bz ?_;refine cM (fun kg=>?_) fun kg=>?_
   ·refine b8 ?_;refine ai rfl (nR bu 1 64) ?_;refine dQ ?_;refine cM (fun GF=>?_) fun GF=>?_
    ·refine bB ?_;refine ab (bw [(0,_),(1,_)] [ah 0,.bool false,ah 0,ah 0,ah 0,ah 0] [0,1] [_,_,_,_,_,_] rfl rfl ag) rfl ?_;refine aF ?_;refine ab (qa rfl (bl,pl,0,0,0,0) (bl,pl,0,0,0,0) rfl rfl) rfl ?_;refine be ?_;refine ve [5] ?_;refine bB ?_;refine ab (iR rfl) rfl ?_;refine be ?_;refine gZ (fun tU=>?_) fun tU=>?_
     ·refine bK ?_;refine aq (.skip (.skip (.refl _))) ?_;refine aF ?_
      (exfalso;simp at tU;done)
     ·refine bI ?_;refine aq (.skip (.skip (.refl _))) ?_;refine aF ?_
      (refine⟨dB (Value.int .i64) (Sy aa ⟨oU,fun _=>by assumption,fun _=>by assumption,fun h=>absurd mD h,fun h=>aa⟩).symm,rfl⟩;done)
    ·refine bI ?_;refine ve [5] ?_;refine Kg ?_;refine aq (.skip (.skip (.refl _))) ?_;refine aF ?_;exact⟨dB (Value.int .i64) (uC aa (fun h=>GF (h.2.2.1 (.inl mD)))).symm,rfl⟩
   ·refine alW ?_;refine ve [5] ?_;refine Kg ?_;refine aq (.skip (.skip (.refl _))) ?_;refine aF ?_;exact⟨dB (Value.int .i64) (uC aa (fun h=>kg (h.2.1 mD))).symm,rfl⟩
  ·refine cH ?_;refine ve [3,5,6] ?_;refine ap6 ?_;refine ve [5] ?_;refine Kg ?_;refine aq (.skip (.skip (.refl _))) ?_;refine aF ?_;exact⟨dB (Value.int .i64) (uC aa (fun h=>pV h.1)).symm,rfl⟩
 ·refine bO ?_;refine aj (fun jZ=>?_) fun jZ=>?_
  ·refine cZ ?_;refine cM (fun kg=>?_) fun kg=>?_
   ·refine b8 ?_;refine ai rfl (nR bu 1 64) ?_;refine be ?_;refine ve [3,5,6] ?_;refine cZ ?_;refine cM (fun GF=>?_) fun GF=>?_
    ·refine bB ?_;refine ab (bw [(0,_),(1,_)] [ah 0,.bool false,ah 0,ah 0,ah 0,ah 0] [0,1] [_,_,_,_,_,_] rfl rfl ag) rfl ?_;refine aF ?_;refine ab (qa rfl (bl,pl,0,da,pa,ch) (bl,pl,0,0,0,0) rfl rfl) rfl ?_;refine dc ?_;refine ab (iR rfl) rfl ?_;refine be ?_;refine gZ (fun tU=>?_) fun tU=>?_
     ·refine bA ?_;refine ve [4] ?_;refine bA ?_;refine aq (.skip (.skip (.refl _))) ?_;refine aF ?_
      (refine⟨dB (Value.int .i64) (uC aa (fun h=>?_)).symm,rfl⟩;have k:=h.2.2.2.1 aa;simp only at k;simp[k.1,k.2.1,k.2.2]at tU;done)
     ·refine bG ?_;refine ve [4] ?_;refine be ?_;refine aq (.skip (.skip (.refl _))) ?_;refine aF ?_
      (simp at tU;exact⟨dB (Value.int .i64) (Sy aa ⟨oU,fun h=>by omega,fun _=>by assumption,fun _=>tU,fun h=>aa⟩).symm,rfl⟩)
    ·refine ahu ?_;refine ve [4] ?_;refine bA ?_;refine aq (.skip (.skip (.refl _))) ?_;refine aF ?_;exact⟨dB (Value.int .i64) (uC aa (fun h=>GF (h.2.2.1 (.inr jZ)))).symm,rfl⟩
   ·refine b8 ?_;refine ve [3,5,6] ?_;refine ar3 ?_;refine ve [4] ?_;refine bA ?_;refine aq (.skip (.skip (.refl _))) ?_;refine aF ?_;exact⟨dB (Value.int .i64) (uC aa (fun h=>kg h.1)).symm,rfl⟩
  ·refine bI ?_;refine aj (fun ki=>?_) fun ki=>?_
   ·refine cH ?_;refine cM (fun GF=>?_) fun GF=>?_
    ·refine bB ?_;refine ab (bw [(0,_),(1,_)] [ah 0,.bool false,ah 0,ah 0,ah 0,ah 0] [0,1] [_,_,_,_,_,_] rfl rfl ag) rfl ?_;refine aF ?_;refine ab (qa rfl (bl,pl,bu,da,pa,ch) (bl,pl,0,0,0,0) rfl rfl) rfl ?_;refine be ?_;refine ve [5] ?_;refine bB ?_;refine ab (iR rfl) rfl ?_;refine be ?_;refine gZ (fun tU=>?_) fun tU=>?_
     ·refine bK ?_;refine aq (.skip (.skip (.refl _))) ?_;refine aF ?_
      (refine⟨dB (Value.int .i64) (uC aa (fun h=>?_)).symm,rfl⟩;have k:=h.2.2.2.1 aa;have k2:=h.2.2.2.2 aa;simp only at k k2;simp[k.1,k.2.1,k.2.2,k2]at tU;done)
     ·refine bI ?_;refine aq (.skip (.skip (.refl _))) ?_;refine aF ?_
      (simp at tU;exact⟨dB (Value.int .i64) (Sy aa ⟨oU,fun h=>by omega,fun h=>by omega,fun _=>tU.2,fun _=>tU.1⟩).symm,rfl⟩)
    ·refine bI ?_;refine ve [5] ?_;refine Kg ?_;refine aq (.skip (.skip (.refl _))) ?_;refine aF ?_;exact⟨dB (Value.int .i64) (uC aa (fun h=>GF h.1)).symm,rfl⟩
   ·refine jk ?_;refine ve [4] ?_;refine bG ?_;refine aq (.skip (.skip (.refl _))) ?_;refine aF ?_;exact⟨dB (Value.int .i64) (am' aa).symm,rfl⟩
end
theorem L5{P:Prop}(h:P:=by(simp[Value.oneCell'])):P:=h
theorem alK(p:Bool):a_ B w0 64 [.bool p] F (fun r L=>r= .int .u8 ((if p then (1:UInt8) else 0).toNat:Int)∧L=F):=by
 refine fw func64 4 [0] ?_;refine cZ ?_;refine gZ (fun h3=>?_) fun h3=>?_
 ·refine bI ?_;exact⟨by rw[h3];rfl,rfl⟩
 ·refine bO ?_;exact⟨by rw[h3];rfl,rfl⟩
theorem Sb(v:Int):a_ B w0 62 [ah v] F (fun r L=>∃A' c',r= .tuple #[.slice A' (qm v).1.length c',ah (qm v).2]∧L= .own 5 1 A' (qm v).1.length c' (bv (qm v).1)::F):=by
 refine fw func62 13 [0] ?_;refine bB ?_;refine ai rfl (nR v 1 3) ?_;refine bA ?_;refine aj (fun h6=>?_) fun h6=>?_
 ·have e:qm v=([],4):=by unfold qm;rw[aw h6]
  refine bI ?_;refine aD 5 1 none ?_;refine aF ?_;rw[e];exact⟨none,0,rfl,rfl⟩
 ·have hw:=bH h6;have hv:v=1∨v=2∨v=3:=by have:=hw.1;have:=hw.2;omega
  have e:qm v=([70,73,82,75,UInt8.ofNat v.toNat],0):=by unfold qm;rw[ao hw];rfl
  have hvv:((UInt8.ofNat v.toNat).toNat:Int)=v:=by rcases hv with rfl|rfl|rfl<;>rfl
  refine b8 ?_;refine cC (aG cD [_,_,_,_] rfl rfl cw aa aa) fun A7=>?_;refine lO (J5 underlying27 underlying5 rfl aV aa) rfl ?_;rintro _ _ ⟨g8,cur,kk,rfl,hA8,asN,asy,tB,rfl⟩;subst hA8;refine aF ?_;refine ab (bm underlying3 underlying5 rfl (r:=v) (by rcases hv with rfl|rfl|rfl<;>rfl)) rfl ?_;refine cC (aG cD [_] rfl rfl cw aa aa) fun tG=>?_;refine fM (J3 cD rfl (aK.obj (.tail _ (List.Mem.head _)) asN asy tB) aa rfl (aK.own (.head _)) L5 aa aa aa) fun PR c12=>?_;refine bG ?_;refine aq (.cons (.skip (.skip (.refl _)))) ?_;refine aF ?_;rw[e];refine⟨PR,c12,rfl,?_⟩;simp[bv];omega
section
open Go.RowKit Go.WideMaps
abbrev K3:=UInt8×UInt8×UInt8
def Gf(k:K3):Value:=.agg #[.int .u8 (k.1.toNat:Int),.int .u8 (k.2.1.toNat:Int),.int .u8 (k.2.2.toNat:Int)]
theorem ahU{a b:K3}(h:Gf a=Gf b):a=b:=by
 obtain⟨a1,a2,a3⟩:=a;obtain⟨b1,b2,b3⟩:=b;simp only[Gf,Value.agg.injEq,Array.mk.injEq,List.cons.injEq,Value.int.injEq,true_and,and_true,Int.natCast_inj]at h;obtain⟨h1,h2,h3⟩:=h;rw[qf.1 h1,qf.1 h2,qf.1 h3]
theorem Y4{P:Program}{k e:TypeId}{q:IntKind}(A:ArrKey P k e 3)(he:P.underlying e=some (.int q))(iZ:∃m,P.types.size=m+1){a b c:Int}(wa:(Lit.int q a).wf=true)(wb:(Lit.int q b).wf=true)(wc:(Lit.int q c).wf=true):
  keyOf P k (.agg #[.int q a,.int q b,.int q c])=some (.string (keyBytes [.int q a,.int q b,.int q c])):=by
 have hkt:=A.keyType iZ;obtain⟨m,hm⟩:=iZ;unfold keyOf;simp only[A.hu];rw[ao (by simp[hkt,Value.formed,A.hu,A.size]),hm];unfold Program.keyLits;simp only[A.hu,Value.cells];rw[ao (by rw[A.size];rfl),show List.range 3=[0,1,2] from rfl,List.mapM_cons,List.mapM_cons,List.mapM_cons,List.mapM_nil];simp[A.one,Program.keyLits,he,wa,wb,wc]
theorem wf_u8(c:UInt8):(Lit.int .u8 (c.toNat:Int)).wf=true:=by
 have:=c.toNat_lt;have h:∀n:Fin 256,(Lit.int .u8 ((n:Nat):Int)).wf=true:=by decide+kernel
 exact h ⟨c.toNat,aa⟩
structure aaP(P:Program)(t k e:TypeId):Prop where
 um:P.underlying t=some (.map k e)
 A:ArrKey P k 5 3
 he:P.underlying 5=some (.int .u8)
 sz:∃m,P.types.size=m+1
 z:∀w,(zeroValue e).run P w= .ok (ah 0) w
theorem aaP.key{P:Program}{t k e:TypeId}(T:aaP P t k e)(x:K3):∃l,keyOf P k (Gf x)=some l:=⟨_,Y4 T.A T.he T.sz (wf_u8 _) (wf_u8 _) (wf_u8 _)⟩
structure Gk(es:List MapEntry)(b:al)(m:Nat):Prop where
 ent:∀x∈es,∃(k:K3) (p:Nat),x.key=Gf k∧x.val=ah (p:Int)∧eT b k m=some p
 all:∀(k:K3) (p:Nat),eT b k m=some p→∃x∈es,x.key=Gf k
 nd:es.Pairwise fun x y=>x.key≠y.key
theorem Gk.nil(b:al):Gk [] b 0:=⟨fun x h=>absurd h ak,fun k p h=>absurd h (by simp[eT]),List.Pairwise.nil⟩
theorem Gk.skip{es:List MapEntry}{b:al}{m:Nat}(h:Gk es b m)(hm:b.length<m+3):Gk es b (m+1):=by
 have e:∀k,eT b k (m+1)=eT b k m:=fun k=>by rw[eT,aw aa]
 refine⟨fun x hx=>?_,fun k p hk=>h.all k p (by rw[←e];exact hk),h.nd⟩;obtain⟨k,p,h1,h2,h3⟩:=h.ent x hx;exact⟨k,p,h1,h2,by rw[e];exact h3⟩
abbrev lkp(o:Option Nat):Value:=.tuple #[ah ((o.getD 0:Nat):Int),.bool o.isSome]
section
variable{C:Cx}{fr:Fr}{L:aQ}{x y z:Operand}{f:Ch→aQ}{t k e ty:TypeId}{g:Nat}{es:List MapEntry}{cl m:Nat}{b:al}{s:K3}
theorem X7(b:al):qx C fr L (.makeMap t none) ty (fun p L'=>∃g es cl,p= .map (some g)∧Gk es b 0∧L'= .obj g (.map es.toArray cl)::L):=fun a w ha hw d pos af gg=>
 ⟨.map (some w.heap.size),w.alloc (.map #[] 0),.obj w.heap.size (.map #[] 0)::L,.inl (by simp[execOp,run_makeMap_plain]),⟨w.heap.size,[],0,rfl,Gk.nil b,rfl⟩,
  hw.gI (Kv w _ none) ⟨hw.base,(MapKept.heap_alloc w (.map #[] 0)).1⟩ (.inr ⟨_,rfl,gi _⟩)⟩
theorem HX(T:aaP C.P t k e)(hm:ev fr x=some (.map (some g)))(hx:ev fr y=some (Gf s))(hs:mG (.obj g (.map es.toArray cl)) L f)(hk:Gk es b m):
  gF C fr L (.lookup t x y true) ty (lkp (eT b s m)):=fun a w ha hw d pos af gg=>by
 have hb:w.heap[g]? =some (.map es.toArray cl):=(hw.all _ hs.mem).2;obtain⟨l,hl⟩:=T.key s;have hc:∀em,(Instr.checkKey em 10000 k (Gf s)).run C.P w= .ok () w:=fun em=>T.A.law.check w em hl;have hf:=T.A.law.find w hl es fun en hen=>by
  obtain⟨k',p,h1,_,_⟩:=hk.ent en hen;rw[h1];exact T.key k'
 rcases hf with⟨hf,ND⟩|⟨j,en,hf,hj,wQ⟩
 ·have hn:eT b s m=none:=by
   cases hh:eT b s m with
   |none=>rfl
   |some p=>
    obtain⟨en,hen,hke⟩:=hk.all s p hh;exact absurd hke (ND en hen)
  rw[hn];simp[execOp,ha.tmp hm,ha.tmp hx,Instr.lookup,iP T.um,BJ hb,hc,hf,T.z,Result.andThen,lkp]
 ·obtain⟨k',p,h1,h2,h3⟩:=hk.ent en (List.mem_of_getElem? hj);have Rx:k'=s:=ahU (h1.symm.trans wQ);subst Rx;rw[h3];simp[execOp,ha.tmp hm,ha.tmp hx,Instr.lookup,iP T.um,BJ hb,hc,hf,Result.andThen,h2,lkp]
theorem Gk.put{es:List MapEntry}{b:al}{m j:Nat}{en:MapEntry}(h:Gk es b m)(hm:m+3≤b.length)(hj:es[j]? =some en)(hk:en.key=Gf (iC b m)):Gk (es.modify j fun e=>{e with key:=Gf (iC b m),val:=ah (m:Int)}) b (m+1):=by
 have hjl:j<es.length:=(zY.1 hj).1;have hje:es[j]=en:=(zY.1 hj).2;have hnd:=rj.1 h.nd;have wQ:∀i (hi:i<es.length),((es.modify j fun e=>{e with key:=Gf (iC b m),val:=ah (m:Int)})[i]'C8).key=es[i].key:=fun i hi=>by
  rw[List.getElem_modify];split
  ·rename_i e;subst e;rw[hje,hk]
  ·rfl
 refine⟨fun x hx=>?_,fun k p hp=>?_,?_⟩
 ·obtain⟨i,hi,rfl⟩:=j0 hx;have P9:i<es.length:=by simpa using hi
  rw[List.getElem_modify];by_cases e:j=i
  ·rw[ao e];exact⟨iC b m,m,rfl,rfl,by rw[eT,ao ⟨hm,rfl⟩]⟩
  ·rw[aw e];obtain⟨k,p,h1,h2,h3⟩:=h.ent es[i] (ub P9);refine⟨k,p,h1,h2,?_⟩;rw[eT,aw ?_];exact h3;rintro⟨_,Kk⟩;have sa:es[j].key≠es[i].key:=by
    rcases Nat.lt_or_gt_of_ne e with q|q
    ·exact hnd j i hjl P9 q
    ·exact fun e2=>hnd i j P9 hjl q e2.symm
   exact sa (by rw[hje,hk,h1,Kk])
 ·rw[eT]at hp;by_cases hc:m+3≤b.length∧iC b m=k
  ·refine⟨(es.modify j fun e=>{e with key:=Gf (iC b m),val:=ah (m:Int)})[j]'(by simpa using hjl),ub _,?_⟩;rw[wQ j hjl,hje,hk,hc.2]
  ·rw[aw hc]at hp;obtain⟨x,hx,YN⟩:=h.all k p hp;obtain⟨i,hi,rfl⟩:=j0 hx;exact⟨(es.modify j fun e=>{e with key:=Gf (iC b m),val:=ah (m:Int)})[i]'C8,ub _,by rw[wQ i hi];exact YN⟩
 ·refine rj.2 fun i i2 hi hi2 fN=>?_;have h1:i<es.length:=by simpa using hi
  have h2:i2<es.length:=by simpa using hi2
  rw[wQ i h1,wQ i2 h2];exact hnd i i2 h1 h2 fN
theorem Gk.add{es:List MapEntry}{b:al}{m n:Nat}(h:Gk es b m)(hm:m+3≤b.length)(ND:∀e∈es,e.key≠Gf (iC b m)):Gk (es++[{key:=Gf (iC b m),val:=ah (m:Int),born:=n}]) b (m+1):=by
 refine⟨fun x hx=>?_,fun k p hp=>?_,?_⟩
 ·rcases dz.1 hx with hx|hx
  ·obtain⟨k,p,h1,h2,h3⟩:=h.ent x hx;refine⟨k,p,h1,h2,?_⟩;rw[eT,aw ?_];exact h3;rintro⟨_,Kk⟩;exact ND x hx (by rw[h1,Kk])
  ·rw[lJ.1 hx];exact⟨iC b m,m,rfl,rfl,by rw[eT,ao ⟨hm,rfl⟩]⟩
 ·rw[eT]at hp;by_cases hc:m+3≤b.length∧iC b m=k
  ·exact⟨_,nF _ (lJ.2 rfl),by rw[hc.2]⟩
  ·rw[aw hc]at hp;obtain⟨x,hx,YN⟩:=h.all k p hp;exact⟨x,j9 _ hx,YN⟩
 ·refine sZ.2 ⟨h.nd,Vy _ _,fun x hx y hy=>?_⟩;rw[lJ.1 hy];exact ND x hx
theorem M0(T:aaP C.P t k e)(hm:ev fr x=some (.map (some g)))(hx:ev fr y=some (Gf (iC b m)))(hv:ev fr z=some (ah (m:Int)))(hs:mG (.obj g (.map es.toArray cl)) L f)(hk:Gk es b m)(hb3:m+3≤b.length):
  qx C fr L (.mapUpdate t x y z) ty (fun p L'=>∃es' cl',Gk es' b (m+1)∧L'=f (.obj g (.map es'.toArray cl'))):=fun a w ha hw d pos af gg=>by
 have hb:w.heap[g]? =some (.map es.toArray cl):=(hw.all _ hs.mem).2;obtain⟨l,hl⟩:=T.key (iC b m);have hc:∀em,(Instr.checkKey em 10000 k (Gf (iC b m))).run C.P w= .ok () w:=fun em=>T.A.law.check w em hl;have hf:=T.A.law.find w hl es fun en hen=>by
  obtain⟨k',p,h1,_,_⟩:=hk.ent en hen;rw[h1];exact T.key k'
 have fN:=(k_3.1 hb).1;have nS:∀o,SL C.B C.w0 (f (.obj g o)) {w with heap:=w.heap.setIfInBounds g o}:=fun o=>
  hw.Qe hs ⟨rfl,rfl,rfl,ak,fun j _ hj=>by
   have:g≠j:=fun e=>hj C9;simp[this]⟩ (fun h=>⟨h.1,by simp[fN]⟩) (.inr (.inl rfl))
 rcases hf with⟨hf,ND⟩|⟨j,en,hf,hj,wQ⟩
 ·refine⟨undef,_,_,.inr ⟨?_,rfl⟩,⟨es++[{key:=Gf (iC b m),val:=ah (m:Int),born:=cl}],cl+1,hk.add hb3 ND,rfl⟩,nS _⟩;simp[execOp,ha.tmp hm,ha.tmp hx,ha.tmp hv,Instr.mapUpdate,iP T.um,BJ hb,hc,hf,MapKept.run_setObj_map _ hb,Result.andThen]
 ·have hky:=T.A.law.stays w hl;have Kk:((es.toArray[j]?).map (·.key)).getD (Gf (iC b m))=Gf (iC b m):=by
   rw[List.getElem?_toArray,hj];exact wQ
  refine⟨undef,_,_,.inr ⟨?_,rfl⟩,⟨es.modify j fun e=>{e with key:=Gf (iC b m),val:=ah (m:Int)},cl,hk.put hb3 hj wQ,rfl⟩,nS _⟩;simp only[execOp,ha.tmp hm,ha.tmp hx,ha.tmp hv,Instr.mapUpdate];simp[iP T.um,BJ hb,hc,hf,Result.andThen];simp at Kk;simp[Kk,hky,MapKept.run_setObj_map _ hb]
end
theorem k3T:aaP Tryz.prog 298 350 3:=⟨ag,⟨ag,ag,ag,ag⟩,ag,⟨Tryz.prog.types.size-1,ag⟩,fun w=>ag⟩
end
def bP.cells(t:bP):cV:=[.int .u8 (t.1.toNat:Int),ah t.2.1,ah t.2.2]
theorem adI(t:bP):a_ B w0 281 [.agg (bP.cells t).toArray] F (fun r L=>r= .bool (decide (e_ t))∧L=F):=by
 obtain⟨x,n,d⟩:=t;have hx:x=0↔((x.toNat:Nat):Int)=0:=⟨fun h=>by rw[h];rfl,fun h=>qf.1 (show x.toNat=(0:UInt8).toNat from by have e:(0:UInt8).toNat=0:=rfl;omega)⟩
 have hp:¬n=0→(e_ (x,n,d)↔((x.toNat:Nat):Int)=0∧3≤n∧n≤257∧1≤d∧d≤4095):=fun h=>by unfold e_;rw[aw h];exact and_congr hx Iff.rfl
 have hz:n=0→(e_ (x,n,d)↔d=0):=fun h=>by unfold e_;rw[ao h]
 refine cm func281 32 rfl rfl rfl [(0,.agg #[.int .u8 (x.toNat:Int),ah n,ah d])] ⟨⟨rfl,rfl⟩,trivial⟩ ?_;refine be ?_;refine bh fun g1=>?_;refine cZ ?_;refine aj (fun h5=>?_) fun h5=>?_
 ·refine bB ?_;refine aq (L':=F) (.skip (.refl _)) ?_;refine aF ?_;exact⟨dB Value.bool (sc.2 (hz h5).symm),rfl⟩
 ·refine b8 ?_;refine bU 23 31 [] (((x.toNat:Nat):Int)=0∧3≤n∧n≤257∧1≤d∧d≤4095) ?_ ?_
  ·refine b8 ?_;refine cM (fun mD=>?_) fun mD=>?_
   ·refine bK ?_;refine cM (fun iF=>?_) fun iF=>?_
    ·refine bK ?_;refine cM (fun rN=>?_) fun rN=>?_
     ·refine bK ?_;refine cM (fun kg=>?_) fun kg=>?_
      ·refine bz ?_;exact aP oV
      ·refine bA ?_;exact aP wA
     ·refine bI ?_;exact aP wA
    ·refine dc ?_;exact aP wA
   ·refine tS ?_;exact aP wA
  ·refine b8 ?_;refine aq (L':=F) (.skip (.refl _)) ?_;refine aF ?_;exact⟨dB Value.bool (sc.2 (hp h5).symm),rfl⟩
section
variable{gm:Nat}
theorem aoU{P:Prop}(h:P:=by(rintro _ _ ⟨es6,cl6,hk6,rfl⟩;exact gD)):P:=h
theorem aoj{P:Prop}(h:P:=by(exact eU (by first|exact fun h=>absurd h.1 (by omega)|exact fun h=>absurd h.2.1 (by omega)|exact⟨fun h=>⟨by omega,by omega,Le.1 h⟩,fun h=>Le.2 h.2.2⟩))):P:=h
theorem b_0{P:Prop}(h:P:=by(first|rfl|exact ej (by first|exact(fun⟨x,hx,_⟩=>by rw[LF.VY qF]at hx;cases hx)|exact(fun⟨x,hx,_⟩=>by rw[LF.VZ (by omega)]at hx;cases hx)|exact(fun⟨y,hy,RP,_⟩=>by injection hy with hy;omega)|exact⟨fun h=>⟨x,rfl,by omega,by omega⟩,fun⟨y,hy,RP,hy3⟩=>by omega⟩)|exact eU (by first|exact(fun⟨x,hx,_⟩=>by rw[LF.VY qF]at hx;cases hx)|exact(fun⟨x,hx,_⟩=>by rw[LF.VZ (by omega)]at hx;cases hx)|exact(fun⟨y,hy,RP,_⟩=>by injection hy with hy;omega)|exact⟨fun h=>⟨x,rfl,by omega,by omega⟩,fun⟨y,hy,RP,hy3⟩=>by omega⟩)|exact dN (by first|exact(fun⟨x,hx,_⟩=>by rw[LF.VY qF]at hx;cases hx)|exact(fun⟨x,hx,_⟩=>by rw[LF.VZ (by omega)]at hx;cases hx)|exact(fun⟨y,hy,RP,_⟩=>by injection hy with hy;omega)|exact⟨fun h=>⟨x,rfl,by omega,by omega⟩,fun⟨y,hy,RP,hy3⟩=>by omega⟩)|exact oE (by first|exact(fun⟨x,hx,_⟩=>by rw[LF.VY qF]at hx;cases hx)|exact(fun⟨x,hx,_⟩=>by rw[LF.VZ (by omega)]at hx;cases hx)|exact(fun⟨y,hy,RP,_⟩=>by injection hy with hy;omega)|exact⟨fun h=>⟨x,rfl,by omega,by omega⟩,fun⟨y,hy,RP,hy3⟩=>by omega⟩))):P:=h
theorem Dh{k:Nat}(h:k<b.length):(bv b)[k*1]? =some (.int .u8 ((b.getD k 0).toNat:Int)):=by
 rw[cE];simp[bv,List.getD,fm h]
def uF(b:al)(p:Nat):Int:=if p+3≤b.length then (match eT b (iC b p) p with|some q=>(q:Int)|none=>-1) else-1
def qs(b:al)(m:Nat):List Int:=(List.range m).map (uF b)
@[simp] theorem an9(b:al)(m:Nat):(qs b m).length=m:=by simp[qs]
theorem w6(b:al)(m:Nat):qs b (m+1)=qs b m++[uF b m]:=by simp[qs,lq]
theorem IX{b:al}{m p:Nat}(h:p<m):(ints .i64 (qs b m))[p*1]? =some (ah (uF b p)):=by
 rw[cE];simp[ints,qs,h]
theorem aen{m:Nat}(h:¬m+3≤b.length):ints .i64 (qs b m)++[Value.int .i64 (-1)]=ints .i64 (qs b (m+1)):=by
 rw[w6];simp[ints,uF,h]
theorem ZI{m:Nat}(h:m+3≤b.length)(hn:eT b (iC b m) m=none):ints .i64 (qs b m)++[Value.int .i64 (-1)]=ints .i64 (qs b (m+1)):=by
 rw[w6];simp[ints,uF,hn]
theorem ZJ{m p:Nat}(h:m+3≤b.length)(hp:eT b (iC b m) m=some p):(ints .i64 (qs b m)++[Value.int .i64 (-1)]).set (m*1) (ah (((eT b (iC b m) m).getD 0:Nat):Int))=ints .i64 (qs b (m+1)):=by
 rw[w6,cE,wX _ _ ak,hp];simp[ints,uF,h,hp]
abbrev Ck(g gm:Nat)(es:List MapEntry)(cl:Nat)(A:bj)(c:Nat)(b:al)(m:Nat)(F:aQ):aQ:=
 .bE g 300 [.map (some gm),.slice A m c]:: .own 3 1 A m c (ints .i64 (qs b m)):: .obj gm (.map es.toArray cl)::F
theorem akp{at_:Nat}(hb:eM B w0 F A c b)(h:at_+3≤b.length)(hl:b.length≤1000000):
  a_ B w0 250 [.slice A b.length c,ah at_] F (fun r L=>r=Gf (iC b at_)∧L=F):=by
 refine dL.xk hb fun mm _=>?_;refine fw func250 20 [0,1] ?_;refine be ?_;refine bc fun g4=>?_;refine bA ?_;refine cF F ?_;refine ae 0 ?_;refine ae 1 ?_;refine ae 2 ?_;refine aW 3 rfl (au ag rfl aA aa (Dh aa)) ?_;refine ae 4 ?_;refine ae 5 ?_;refine ae 6 ?_;refine aW 7 rfl (aC (i:=at_+1) underlying27 ag rfl rfl aa aa aA) ?_;refine aW 8 rfl (au ag rfl aA aa (Dh aa)) ?_;refine ae 9 ?_;refine ae 10 ?_;refine ae 11 ?_;refine aW 12 rfl (aC (i:=at_+2) underlying27 ag rfl rfl aa aa aA) ?_;refine aW 13 rfl (au ag rfl aA aa (Dh aa)) ?_;refine aW 14 rfl (eG [(0,_),(1,_),(2,_)] [_,_,_] rfl rfl ag) ?_;refine az 15 ?_;refine aF ?_;refine cQ [4] ?_;refine be ?_;refine I4 rfl rfl ag aV gA (.skip (.refl _)) ?_;exact⟨rfl,rfl⟩
theorem aof{at_:Nat}(hb:eM B w0 F A2 c2 b)(hk:Gk es b at_)(GJ:at_<b.length)(hl:b.length≤1000000):
  a_ B w0 207 [br g,.slice A2 b.length c2,ah at_] (Ck g gm es cl A c b at_ F)
   (fun r L=>∃es' cl' A' c',r= .tuple #[]∧Gk es' b (at_+1)∧L=Ck g gm es' cl' A' c' b (at_+1) F):=by
 refine fw func207 49 [0,1,2] ?_;refine bK ?_;refine dF fJ rfl rfl rfl rfl rfl (fun _=>rfl) aV aa aa ?_;intro _ Bf JK;refine jk ?_;refine aj (fun rN=>?_) fun rN=>?_
 ·refine be ?_;refine aq (L':=Ck g gm es cl Bf JK b (at_+1) F) (bq rfl (ax rfl (aen aa) (.refl _))) ?_;refine aF ?_;exact⟨es,cl,Bf,JK,rfl,hk.skip aa,rfl⟩
 ·refine bz ?_;refine ai rfl (akp aA aa hl) ?_;refine bc fun g6=>?_;refine aF ?_;refine ve [0,2,6] ?_;refine bO ?_;refine bZ (HX k3T rfl rfl aV hk) rfl ?_;refine cH ?_;refine gZ (fun tT=>?_) fun tT=>?_
  ·obtain⟨p,hp⟩:=Option.isSome_iff_exists.1 tT;have hpa:=lx hp;refine bO ?_;refine ve [0,2,6] ?_;refine aF ?_;refine cF (.bE g6 350 [.int .u8 ((b.getD at_ 0).toNat:Int),.int .u8 ((b.getD (at_+1) 0).toNat:Int),.int .u8 ((b.getD (at_+2) 0).toNat:Int)]:: .bE g 300 [.map (some gm),.slice Bf (at_+1) JK]::F) ?_;refine ae 0 ?_;refine ae 1 ?_;refine ae 2 ?_;refine ae 3 ?_;refine ae 4 ?_;refine ae 5 ?_;refine az 6 ?_;refine kR rfl .no (M0 k3T rfl rfl rfl aV hk aa) aoU ?_;rintro _ _ ⟨es6,cl6,hk6,rfl⟩;refine be ?_;refine aq (L':=Ck g gm es6 cl6 Bf JK b (at_+1) F) (.trans ((gk (gk (gk (.skip (.refl _)))))) (bq rfl (ax rfl (ZJ aa hp) (.refl _)))) ?_;refine aF ?_;exact⟨es6,cl6,Bf,JK,rfl,hk6,rfl⟩
  ·refine be ?_;refine cF (.bE g6 350 [.int .u8 ((b.getD at_ 0).toNat:Int),.int .u8 ((b.getD (at_+1) 0).toNat:Int),.int .u8 ((b.getD (at_+2) 0).toNat:Int)]:: .bE g 300 [.map (some gm),.slice Bf (at_+1) JK]::F) ?_;refine ae 0 ?_;refine ae 1 ?_;refine ae 2 ?_;refine ae 3 ?_;refine ae 4 ?_;refine ae 5 ?_;refine az 6 ?_;refine kR rfl .no (M0 k3T rfl rfl rfl aV hk aa) aoU ?_;rintro _ _ ⟨es6,cl6,hk6,rfl⟩;refine cQ [] ?_;refine aF ?_;refine aq (L':=Ck g gm es6 cl6 Bf JK b (at_+1) F) (.trans ((gk (gk (gk (.skip (.refl _)))))) (bq rfl (ax rfl (ZI aa (by simpa using tT)) (.refl _)))) ?_;refine aF ?_;exact⟨es6,cl6,Bf,JK,rfl,hk6,rfl⟩
theorem Le{x y:UInt8}:((x.toNat:Nat):Int)=(y.toNat:Int)↔x=y:=⟨fun h=>qf.1 aa,fun h=>by rw[h]⟩
theorem Xp{p a n:Nat}(hn:n<257)(h:a+n<b.length)(he:b.getD (p+n) 0=b.getD (a+n) 0):mS b p a (257-n) n=mS b p a (257-(n+1)) (n+1):=by
 rw[show 257-n=(257-(n+1))+1 by omega,mS,ao ⟨hn,h,he⟩]
theorem Qm{p a n:Nat}(hn:n≤257)(h:¬(n<257∧a+n<b.length∧b.getD (p+n) 0=b.getD (a+n) 0)):mS b p a (257-n) n=n:=by
 by_cases e:n=257
 ·subst e;rfl
 ·rw[show 257-n=(257-(n+1))+1 by omega,mS,aw h]
theorem ags{p a:Nat}(hb:eM B w0 F A c b)(hp:p<a)(ha:a<b.length)(hl:b.length≤1000000):
  a_ B w0 251 [.slice A b.length c,ah p,ah a] F (fun r L=>r=ah (oR b p a)∧L=F):=by
 refine fw func251 36 [0,1,2] ?_;refine cH ?_;refine aE (fun zf zL zm=>∃(n:Nat),(n≤257∧mS b p a (257-n) n=oR b p a)∧257-n=zm∧Sub zf [(0,.slice A b.length c),(1,ah p),(2,ah a),(7,ah n)]∧Wk zL (F)) _ ⟨0,⟨bS _,rfl⟩,rfl,bp,.refl _⟩ ?_;rintro _ _ _ ⟨n,⟨hn,hN⟩,rfl,hs,hp⟩;refine aU hs hp ?_;clear hs hp;refine bA ?_;refine Cy 25 32 [0,1,2,7] (n<257∧a+n<b.length∧b.getD (p+n) 0=b.getD (a+n) 0) ?_ ?_
 ·refine bA ?_;refine nk rfl rfl rfl (fun jx=>?_) (fun jx=>?_)
  ·refine dc ?_;refine nk rfl rfl rfl (fun jj=>?_) (fun jj=>?_)
   ·refine bI ?_;refine bZ (aC (i:=p+n) underlying27 ag rfl rfl aa aa aA) rfl ?_;refine aF ?_;refine bZ (au ag rfl aA aa (Dh aa)) rfl ?_;refine bO ?_;refine bZ (aC (i:=a+n) underlying27 ag rfl rfl aa aa aA) rfl ?_;refine aF ?_;refine bZ (au ag rfl aA aa (Dh aa)) rfl ?_;refine bA ?_;exact qC (by exact dN (by first|exact fun h=>absurd h.1 (by omega)|exact fun h=>absurd h.2.1 (by omega)|exact⟨fun h=>⟨by omega,by omega,Le.1 h⟩,fun h=>Le.2 h.2.2⟩))
   ·refine dc ?_;exact qC aoj
  ·refine Kg ?_;exact qC aoj
 ·refine be ?_;refine aj (fun Bv=>?_) fun Bv=>?_
  ·refine bO ?_;refine av ⟨_,aa,n+1,⟨aa,by rw[←Xp Bv.1 Bv.2.1 Bv.2.2];exact hN⟩,rfl,bp,.refl _⟩
  ·have hNe:oR b p a=n:=by rw[←hN];exact Qm hn Bv
   refine dc ?_;exact⟨by rw[hNe],rfl⟩
theorem Zf{a f n d:Nat}{p:Option Nat}(h:¬(∃x,p=some x∧a-x≤4095∧n<257)):s7 b a f p n d=(n,d):=by
 cases f with
 |zero=>rfl
 |succ f=>
  cases p with
  |none=>rfl
  |some x=>rw[s7,aw fun hc=>h ⟨x,rfl,hc⟩]
def ana(o:Option Nat):Int:=match o with|some x=>(x:Int)|none=>-1
theorem ZH{x:Nat}(h:x+3≤b.length):uF b x=ana (eT b (iC b x) x):=by
 unfold uF ana;rw[ao h]
theorem yn{k:K3}:∀{m p:Nat},eT b k m=some p→p+3≤b.length
 |0,p,h=>by cases h
 |m+1,p,h=>by
  unfold eT at h;split at h
  ·rename_i hc;injection h with h;omega
  ·exact yn h
def Sk(b:al)(a:Nat)(o:Option Nat)(q:Int):Prop:=((eT b (iC b a) a).isSome=true∧q=ana o)∨((eT b (iC b a) a).isSome=false∧o=none)
theorem Sk.start{a:Nat}:Sk b a (eT b (iC b a) a) (((eT b (iC b a) a).getD 0:Nat):Int):=by
 unfold Sk;cases eT b (iC b a) a with
 |none=>exact .inr ⟨rfl,rfl⟩
 |some x=>exact .inl ⟨rfl,rfl⟩
theorem Sk.get{a:Nat}{o:Option Nat}{q:Int}(h:Sk b a o q)(h1:(eT b (iC b a) a).isSome=true)(h2:q≠-1):∃x:Nat,o=some x∧q=x:=by
 rcases h with⟨_,h⟩|⟨h,_⟩
 ·cases o with
  |none=>exact absurd h h2
  |some x=>exact⟨x,rfl,h⟩
 ·rw[h]at h1;cases h1
theorem Sk.VY{a:Nat}{o:Option Nat}{q:Int}(h:Sk b a o q)(h1:(eT b (iC b a) a).isSome=false):o=none:=by
 rcases h with⟨h,_⟩|⟨_,h⟩
 ·rw[h]at h1;cases h1
 ·exact h
theorem Sk.VZ{a:Nat}{o:Option Nat}{q:Int}(h:Sk b a o q)(h1:q=-1):o=none:=by
 rcases h with⟨_,h⟩|⟨_,h⟩
 ·cases o with
  |none=>rfl
  |some x=>
   have:q=(x:Int):=h;omega
 ·exact h
theorem Sk.aq8{a x:Nat}{o:Option Nat}{q:Int}(h:Sk b a o q)(h1:o=some x)(h2:x+3≤b.length):Sk b a (eT b (iC b x) x) (uF b x):=by
 rcases h with⟨h,_⟩|⟨_,h⟩
 ·exact .inl ⟨h,ZH h2⟩
 ·rw[h]at h1;cases h1
theorem Sk.val{a x:Nat}{q:Int}(h:Sk b a (some x) q):q=x:=by
 rcases h with⟨_,h⟩|⟨_,h⟩
 ·exact h
 ·cases h
theorem adB{a f n d x:Nat}(h:a-x≤4095∧n<257):s7 b a (f+1) (some x) n d=s7 b a f (eT b (iC b x) x) (if n<oR b x a then oR b x a else n) (if n<oR b x a then a-x else d):=by
 rw[s7,ao h];split<;>rfl
theorem Zg{a:Nat}(hb:eM B w0 F A2 c2 b)(hk:Gk es b a)(ha:a<b.length)(hl:b.length≤1000000):
  a_ B w0 206 [br g,.slice A2 b.length c2,ah a] (Ck g gm es cl A c b a F)
   (fun r L=>r= .tuple #[ah (dD b a).1,ah (dD b a).2]∧L=Ck g gm es cl A c b a F):=by
 have ahE:b.length<a+3→dD b a=(0,0):=fun h=>by rw[dD,ao h]
 refine fw func206 62 [0,1,2] ?_;refine jQ ?_;refine aj (fun kL=>?_) fun kL=>?_
 ·refine bO ?_;exact⟨by rw[ahE aa];rfl,rfl⟩
 ·have hlg:dD b a=s7 b a a (eT b (iC b a) a) 0 0:=by rw[dD,aw aa]
  refine bB ?_;refine jz apr rfl (akp aA aa hl) wB rfl ?_;refine bZ (HX k3T rfl rfl aV hk) rfl ?_;refine bO ?_;refine aE (fun zf zL zm=>∃(o:Option Nat) (q:Int) (f n d:Nat),((∀x,o=some x→x<f)∧(∀x,o=some x→x+3≤b.length∧x<a)∧Sk b a o q∧s7 b a f o n d=dD b a∧n≤257∧d≤a)∧f=zm∧Sub zf [(0,br g),(1,.slice A2 b.length c2),(2,ah a),(6,ah n),(7,ah d),(8,ah q),(9,.bool (eT b (iC b a) a).isSome)]∧Wk zL (Ck g gm es cl A c b a F)) _ ⟨eT b (iC b a) a,(((eT b (iC b a) a).getD 0:Nat):Int),a,0,0,⟨fun x h=>lx h,fun x h=>⟨yn h,lx h⟩,Sk.start,hlg.symm,bS _,bS _⟩,rfl,bp,.refl _⟩ ?_;rintro _ _ _ ⟨o,q,f,n,d,⟨hof,hox,LF,P_,hn,hd⟩,rfl,hs,hp⟩;refine aU hs hp ?_;clear hs hp;refine bA ?_;refine bU 15 41 [0,1,2,6,7,8,9] (∃x,o=some x∧a-x≤4095∧n<257) ?_ ?_
  ·refine be ?_;refine kK rfl rfl rfl (fun qF=>?_) (fun qF=>?_)
   ·refine bG ?_;refine cM (fun Bv=>?_) fun Bv=>?_
    ·obtain⟨x,rfl,rfl⟩:=LF.get qF Bv;obtain⟨hx3,hx4⟩:=hox x rfl;refine bO ?_;refine cM (fun CA=>?_) fun CA=>?_
     ·refine b8 ?_;exact aP b_0
     ·refine be ?_;exact aP b_0
    ·refine bI ?_;exact aP b_0
   ·refine cH ?_;exact aP b_0
  ·refine be ?_;refine aj (fun GH=>?_) fun GH=>?_
   ·obtain⟨x,rfl,LG,hx2⟩:=GH;obtain⟨hx3,hx4⟩:=hox x rfl;have hxf:=hof x rfl;obtain⟨f',rfl⟩:∃f',f=f'+1:=⟨f-1,aa⟩
    obtain rfl:=LF.val;have D_:=Hi b x a;have wO:=adB (b:=b) (a:=a) (f:=f') (d:=d) (x:=x) ⟨LG,hx2⟩;rw[P_]at wO;refine bO ?_;refine ai rfl (ags aA hx4 ha hl) ?_;refine bB ?_;refine aj (fun Np=>?_) fun Np=>?_
    ·refine jQ ?_;refine ab (au ag rfl aA aa (IX aa)) rfl ?_;refine aF ?_;refine ve [0,1,2,6,7,8,9] ?_;refine aF ?_;refine av ⟨_,aa,eT b (iC b x) x,uF b x,f',oR b x a,a-x,⟨fun y hy=>by have:=lx hy;omega,fun y hy=>⟨yn hy,by have:=lx hy;omega⟩,LF.aq8 rfl hx3,by rw[ao aa,ao aa]at wO;exact wO.symm,D_,aa⟩,rfl,bp,.refl _⟩
    ·refine bO ?_;refine ab (au ag rfl aA aa (IX aa)) rfl ?_;refine aF ?_;refine ve [0,1,2,6,7,8,9] ?_;refine aF ?_;refine av ⟨_,aa,eT b (iC b x) x,uF b x,f',n,d,⟨fun y hy=>by have:=lx hy;omega,fun y hy=>⟨yn hy,by have:=lx hy;omega⟩,LF.aq8 rfl hx3,by rw[aw aa,aw aa]at wO;exact wO.symm,hn,hd⟩,rfl,bp,.refl _⟩
   ·have hle:=Zf (b:=b) (a:=a) (f:=f) (d:=d) GH;rw[P_]at hle;rw[hle];refine jk ?_;exact⟨rfl,rfl⟩
def kW(l:List bP):cV:=l.flatMap bP.cells
theorem Jh(l:List bP)(t:bP):kW (l++[t])=kW l++bP.cells t:=by simp[kW]
theorem Yd{a f:Nat}(h:a<b.length)(h3:¬3≤(dD b a).1):findF b (f+1) a=(b.getD a 0,0,0)::findF b f (a+1):=by
 rw[findF,ao h,aw h3]
theorem Nd{a f:Nat}(h:a<b.length)(h3:3≤(dD b a).1):findF b (f+1) a=(0,((dD b a).1:Int),((dD b a).2:Int))::findF b f (a+(dD b a).1):=by
 rw[findF,ao h,ao h3]
theorem Yc{a f:Nat}(h:¬a<b.length):findF b f a=[]:=by
 cases f with
 |zero=>rfl
 |succ f=>rw[findF,aw h]
theorem R5{a:Nat}(h:3≤(dD b a).1):a+(dD b a).1≤b.length∧(dD b a).1≤257∧(dD b a).2≤4095:=by
 obtain⟨h1,h2⟩:=pB b a;obtain⟨k1,k2,k3,k4⟩:=h2 aa;have:=(k4 ((dD b a).1-1) aa).1;exact⟨aa,h1,k3⟩
theorem alI(hb:eM B w0 F A2 c2 b)(hl:b.length≤1000000):
  a_ B w0 145 [.slice A2 b.length c2] F
   (fun r L=>∃A' c',r= .slice A' (jo b).length c'∧L= .own 170 3 A' (jo b).length c' (kW (jo b))::F):=by
 refine fw func145 50 [0] ?_;refine bK ?_;refine lO (X7 b) rfl ?_;rintro _ _ ⟨gm,es0,cl0,rfl,CC,rfl⟩;refine ab (bw [(0,_)] [.map none,.slice none 0 0] [0] [_,_] rfl rfl ag) rfl ?_;refine bh fun Ij=>?_;refine b8 ?_;refine aZ 3 1 none ?_;refine bz ?_;refine aZ 170 3 none ?_;refine bG ?_;refine aE (fun zf zL zm=>∃(a f:Nat) (acc:List bP) (es:List MapEntry) (cl:Nat) (A3:bj) (c3:Nat) (A4:bj) (c4:Nat),(a≤b.length∧b.length-a≤f∧acc++findF b f a=jo b∧Gk es b a∧acc.length≤a)∧f=zm∧Sub zf [(0,.slice A2 b.length c2),(3,br Ij),(4,.slice A4 acc.length c4),(5,ah a)]∧Wk zL (.own 170 3 A4 acc.length c4 (kW acc)::Ck Ij gm es cl A3 c3 b a F)) _ ⟨0,b.length,[],es0,cl0,none,0,none,0,⟨bS _,aa,rfl,CC,gi _⟩,rfl,bp,.trans ((ed (gk (ed (ed (.refl _)))))) (ax rfl rfl (bq rfl (ax rfl rfl (.refl _))))⟩ ?_;rintro _ _ _ ⟨a,f,acc,es,cl,A3,c3,A4,c4,⟨ha,hf,mI,hk,D_⟩,rfl,hs,hp⟩;refine aU hs hp ?_;clear hs hp;refine bO ?_;refine aj (fun ki=>?_) fun ki=>?_
 ·obtain⟨f',rfl⟩:∃f',f=f'+1:=⟨f-1,aa⟩
  refine bI ?_;refine ab (au ag rfl aA aa (Dh aa)) rfl ?_;refine ab (bw [(0,_)] [.int .u8 0,ah 0,ah 0] [0] [_,_,_] rfl rfl ag) rfl ?_;refine bc fun g6=>?_;refine bI ?_;refine d_ (fun zf zL=>∃(tl:UInt8) (tn td:Int) (st:Nat),(1≤st∧a+st≤b.length∧findF b (f'+1) a=(tl,tn,td)::findF b f' (a+st))∧Sub zf [(0,.slice A2 b.length c2),(3,br Ij),(4,.slice A4 acc.length c4),(5,ah a),(6,br g6),(7,ah st)]∧Wk zL (.bE g6 170 [.int .u8 (tl.toNat:Int),ah tn,ah td]:: .own 170 3 A4 acc.length c4 (kW acc)::Ck Ij gm es cl A3 c3 b a F)) ?_ ?_
  ·refine bG ?_;refine ai rfl ((Zg (g:=Ij) aA hk aa hl).perm ((BM (BM (BM (fR (fR (.refl _)))))))) ?_;refine cZ ?_;refine ve [0,3,4,5,6,7,8,9,30] ?_;refine aF ?_;refine aj (fun Bu=>?_) fun Bu=>?_
   ·have ap8:3≤(dD b a).1:=by omega
    obtain⟨tC,rO,LB⟩:=R5 ap8;refine b8 ?_;refine ab (bw [(1,_),(2,_)] [.int .u8 0,ah 0,ah 0] [1,2] [_,_,_] rfl rfl ag) rfl ?_;refine bK ?_;exact bD ⟨0,((dD b a).1:Int),((dD b a).2:Int),(dD b a).1,⟨aa,tC,Nd aa ap8⟩,bp,(tF (tF (ed (ed (ed (.refl _))))))⟩
   ·refine aF ?_;exact bD ⟨b.getD a 0,0,0,1,⟨aa,aa,Yd aa aa⟩,bp,(tF (tF (ed (ed (ed (.refl _))))))⟩
  ·rintro _ _ ⟨tl,tn,td,st,⟨ac5,ac6,hft⟩,hs,hp⟩;refine aU hs hp ?_;clear hs hp;refine b8 ?_;refine rI akK rfl rfl rfl aa cw rfl rfl rfl (fun _=>rfl) aV aa aa ?_;intro _ LP PU;refine bB ?_;refine aE (fun zf zL zm=>∃(m:Nat) (es2:List MapEntry) (cl2:Nat) (A5:bj) (c5:Nat),(m≤st∧Gk es2 b (a+m))∧st-m=zm∧Sub zf [(0,.slice A2 b.length c2),(3,br Ij),(4,.slice LP (acc.length+1) PU),(5,ah (a+m:Nat)),(39,ah st),(40,ah m)]∧Wk zL (.own 170 3 LP (acc.length+1) PU (kW acc++[.int .u8 (tl.toNat:Int),ah tn,ah td])::Ck Ij gm es2 cl2 A5 c5 b (a+m) F)) _ ⟨0,es,cl,A3,c3,⟨bS _,hk⟩,rfl,bp,(gk (gk (gk (gk (.skip (.refl _))))))⟩ ?_;rintro _ _ _ ⟨m,es2,cl2,A5,c5,⟨hm,Ir⟩,rfl,hs,hp⟩;refine aU hs hp ?_;clear hs hp;refine bz ?_;refine aj (fun GH=>?_) fun GH=>?_
   ·refine bO ?_;refine aX apd rfl ((aof (g:=Ij) aA Ir aa hl).perm ((l_ (l_ (l_ (fR (.refl _))))))) rfl ?_;rintro _ _ ⟨arX,arO,A45,c45,rfl,aqo,cA⟩;obtain rfl:=cA.symm;refine dc ?_;refine av ⟨_,aa,m+1,arX,arO,A45,c45,⟨aa,aqo⟩,rfl,bp,(tF (ed (ed (ed (.refl _)))))⟩
   ·obtain rfl:m=st:=by omega
    have wR:(acc++[(tl,tn,td)]).length=acc.length+1:=by simp
    refine bG ?_;refine av ⟨_,aa,a+m,f',acc++[(tl,tn,td)],es2,cl2,A5,c5,LP,PU,⟨aa,aa,by rw[←mI,hft];simp[bV],Ir,aa⟩,rfl,bp,ax aa (by rw[Jh];rfl) (.refl _)⟩
 ·have xo:=Yc (b:=b) (a:=a) (f:=f) aa;rw[xo,gj]at mI;subst mI;refine cH ?_;refine aq (L':=.own 170 3 A4 (jo b).length c4 (kW (jo b))::F) ((ed (.skip (.skip (.skip (.refl _)))))) ?_;refine aF ?_;exact⟨A4,c4,rfl,rfl⟩
end
section
variable{gm:Nat}{l:List bP}
def Je(l:List bP)(k:Nat):bP:=l.getD k (0,0,0)
theorem FN{k:Nat}(h:k<l.length):((kW l).drop (k*3)).take 3=bP.cells (Je l k):=by
 induction l generalizing k with
 |nil=>simp at h
 |cons t r ih=>
  cases k with
  |zero=>simp[kW,bP.cells,Je]
  |succ k=>
   have:=ih (k:=k) ny;have e:kW (t::r)=bP.cells t++kW r:=by simp[kW]
   rw[e,j8,sT (k*3) 3,List.drop_append,mu (by simp[bP.cells]),nG];simpa[bP.cells,Je]using this
theorem IU(most:Int){out:al}{t:bP}{r:List bP}(h:¬e_ t):ia most out (t::r)=([],7):=by rw[ia,ao h]
theorem IV(most:Int){out:al}{t:bP}{r:List bP}(h:e_ t)(h2:(out.length:Int)<t.2.2):ia most out (t::r)=([],8):=by rw[ia,aw (fun k=>k h),ao h2]
theorem E0(most:Int){out:al}{t:bP}{r:List bP}(h:e_ t)(h2:¬(out.length:Int)<t.2.2)(h3:most-out.length<max 1 t.2.1):ia most out (t::r)=([],6):=by rw[ia,aw (fun k=>k h),aw h2,ao h3]
theorem IW(most:Int){out:al}{t:bP}{r:List bP}(h:e_ t)(h2:¬(out.length:Int)<t.2.2)(h3:¬most-out.length<max 1 t.2.1)(h4:t.2.1=0):ia most out (t::r)=ia most (out++[t.1]) r:=by
 rw[ia,aw (fun k=>k h),aw h2,aw h3,ao h4]
theorem EY(most:Int){out:al}{t:bP}{r:List bP}(h:e_ t)(h2:¬(out.length:Int)<t.2.2)(h3:¬most-out.length<max 1 t.2.1)(h4:¬t.2.1=0):ia most out (t::r)=ia most (lR t.2.2.toNat t.2.1.toNat out) r:=by
 rw[ia,aw (fun k=>k h),aw h2,aw h3,aw h4]
theorem Du(d:Nat):∀(n:Nat) (out:al),lR d (n+1) out=lR d n out++[(lR d n out).getD ((lR d n out).length-d) 0]
 |0,out=>rfl
 |n+1,out=>by rw[lR,Du d n,lR]
theorem EI{tl:UInt8}{tn td:Int}(h:e_ (tl,tn,td))(h0:¬tn=0):tl=0∧3≤tn∧tn≤257∧1≤td∧td≤4095:=by
 unfold e_ at h
 rwa [aw h0]at h
def WW(l:List bP):Prop:=∀t∈l,(-9223372036854775808≤t.2.1∧t.2.1≤9223372036854775807)∧-9223372036854775808≤t.2.2∧t.2.2≤9223372036854775807
theorem anh(hb:aK B w0 F 3 (.slice A l.length c) l.length (kW l))(hl:l.length≤1000000)(Vj:-9223372036854775808≤most)(vE:most≤1000000)(lj:WW l):
  a_ B w0 328 [.slice A l.length c,ah most] F
   (fun r L=>∃A' c',r= .tuple #[.slice A' (kH l most).1.length c',ah (kH l most).2]∧L= .own 5 1 A' (kH l most).1.length c' (bv (kH l most).1)::F):=by
 refine fw func328 62 [0,1] ?_;refine dc ?_;refine aj (fun jx=>?_) fun jx=>?_
 ·have e:kH l most=([],13):=ao aa;rw[e];refine bI ?_;refine aD 5 1 none ?_;refine aF ?_;exact⟨none,0,rfl,rfl⟩
 ·have mN:kH l most=ia most [] l:=aw aa;refine bA ?_;refine aZ 5 1 none ?_;refine dc ?_;refine aE (fun zf zL zm=>∃(k:Nat) (out:al) (A6:bj) (c6:Nat),(k≤l.length∧ia most out (l.drop k)=kH l most∧(out.length:Int)≤most)∧l.length-k=zm∧Sub zf [(1,ah most),(6,.slice A6 out.length c6),(11,.slice A l.length c),(12,ah l.length),(13,ah k)]∧Wk zL (.own 5 1 A6 out.length c6 (bv out)::F)) _ ⟨0,[],none,0,⟨bS _,mN.symm,bR⟩,rfl,bp,.refl _⟩ ?_;rintro _ _ _ ⟨k,out,A6,c6,⟨hk,xq,Kl⟩,rfl,hs,hp⟩;refine aU hs hp ?_;clear hs hp;refine bz ?_;refine aj (fun jZ=>?_) fun jZ=>?_
  ·obtain⟨⟨tl,tn,td⟩,ht⟩:∃t,t=Je l k:=⟨_,rfl⟩
   have hd:l.drop k=(tl,tn,td)::l.drop (k+1):=by rw[ht];exact dx aa _
   have htv:=FN (l:=l) (k:=k) aa;rw[←ht]at htv;rw[hd]at xq;obtain⟨⟨ho1,ho2⟩,ho3,ho4⟩:=lj (tl,tn,td) (by rw[ht];exact bg aa _);have ho1:-9223372036854775808≤tn:=ho1;have ho2:tn≤9223372036854775807:=ho2;have ho3:-9223372036854775808≤td:=ho3;have ho4:td≤9223372036854775807:=ho4;refine bK ?_;refine ab (di 3 ag rfl aA aa [.int .u8 (tl.toNat:Int),ah tn,ah td] (sr htv) rfl) rfl ?_;refine bc fun g8=>?_;refine bI ?_;refine ai rfl (adI (tl,tn,td)) ?_;refine b8 ?_;refine aj (fun iF=>?_) fun iF=>?_
   ·have ar':¬e_ (tl,tn,td):=iF;rw[IU most ar']at xq;rw[←xq];refine dQ ?_;refine aD 5 1 none ?_;refine aq (L':=.own 5 1 none 0 0 []::F) ((ed (.skip (.skip (.refl _))))) ?_;refine aF ?_;exact⟨none,0,rfl,rfl⟩
   ·have fG:e_ (tl,tn,td):=jG.1 iF;refine bB ?_;refine aj (fun l0=>?_) fun l0=>?_
    ·rw[IV most fG l0]at xq;rw[←xq];refine b8 ?_;refine ve [4,5] ?_;refine bO ?_;refine aD 5 1 none ?_;refine aq (L':=.own 5 1 none 0 0 []::F) ((ed (.skip (.skip (.refl _))))) ?_;refine aF ?_;exact⟨none,0,rfl,rfl⟩
    ·refine b8 ?_;refine ab (JW rfl rfl) rfl ?_;refine bz ?_;refine ve [1,6,8,11,12,13,27] ?_;refine aF ?_;refine aj (fun kg=>?_) fun kg=>?_
     ·rw[E0 most fG l0 kg]at xq;rw[←xq];refine dQ ?_;refine aD 5 1 none ?_;refine aq (L':=.own 5 1 none 0 0 []::F) ((ed (.skip (.skip (.refl _))))) ?_;refine aF ?_;exact⟨none,0,rfl,rfl⟩
     ·refine cZ ?_;refine aj (fun CA=>?_) fun CA=>?_
      ·rw[IW most fG l0 kg CA]at xq;have wR:(out++[tl]).length=out.length+1:=by simp
       refine bG ?_;refine dF cD rfl rfl rfl rfl rfl (fun _=>rfl) aV aa aa ?_;intro _ Lr c43;refine cZ ?_;refine av ⟨_,aa,k+1,out++[tl],Lr,c43,⟨aa,xq,by rw[aY];simp;omega⟩,rfl,bp,.skip (ax ak Bl (.refl _))⟩
      ·rw[EY most fG l0 kg CA]at xq;obtain⟨tg,vF,hr3,hr4,hr5⟩:=EI fG CA;refine bB ?_;refine aE (fun zf zL zm=>∃(m:Nat) (A7:bj) (c7:Nat),((m:Int)≤tn)∧tn.toNat-m=zm∧Sub zf [(1,ah most),(6,.slice A7 (lR td.toNat m out).length c7),(8,br g8),(11,.slice A l.length c),(12,ah l.length),(13,ah k),(45,ah tn),(46,ah m)]∧Wk zL (.bE g8 170 [.int .u8 (tl.toNat:Int),ah tn,ah td]:: .own 5 1 A7 (lR td.toNat m out).length c7 (bv (lR td.toNat m out))::F)) _ ⟨0,A6,c6,aa,rfl,bp,.refl _⟩ ?_;rintro _ _ _ ⟨m,A7,c7,hm,rfl,hs,hp⟩;refine aU hs hp ?_;clear hs hp;refine bz ?_;refine aj (fun Va=>?_) fun Va=>?_
       ·have tB:=oF td.toNat m out;have tV:=Du td.toNat m out;have hcm:=oF td.toNat (m+1) out;refine cH ?_;refine ab (aC (i:=(lR td.toNat m out).length-td.toNat) underlying27 ag rfl rfl aa aa aA) rfl ?_;refine ab (au ag rfl aA aa (Dh (k:=(lR td.toNat m out).length-td.toNat) aa)) rfl ?_;refine dF cD rfl rfl rfl rfl rfl (fun _=>rfl) aV aa aa ?_;intro _ A58 c58;refine bI ?_;refine av ⟨_,aa,m+1,A58,c58,aa,rfl,bp,bq rfl (ax aa (by rw[tV];simp[bv]) (.refl _))⟩
       ·obtain rfl:tn=m:=by omega
        have tB:=oF td.toNat m out;rw[nH]at xq;refine bB ?_;refine av ⟨_,aa,k+1,lR td.toNat m out,A7,c7,⟨aa,xq,aa⟩,rfl,bp,.skip (.refl _)⟩
  ·rw[mu aa,ia]at xq;rw[←xq];refine dQ ?_;exact⟨A6,c6,rfl,rfl⟩
end
theorem NZ:type_of% @List.singleton_append:= @List.singleton_append
def Z5(D:bf)(i j:Nat):bf:=(D.set i (D.getD j 0)).set j (D.getD i 0)
theorem ai4(D:bf)(i j:Nat):(Z5 D i j).length=D.length:=by simp[Z5]
theorem tQ(P:bf)(x:Nat)(Q:bf):(P++x::Q).getD P.length 0=x:=by simp[bk]
theorem O4(P:bf)(x y:Nat)(Q:bf):(P++x::Q).set P.length y=P++y::Q:=by simp
theorem SZ(P:bf)(x:Nat)(M:bf)(y:Nat)(Q:bf){i j:Nat}(hi:i=P.length)(hj:j=P.length+1+M.length):Z5 (P++x::(M++y::Q)) i j=P++y::(M++x::Q):=by
 subst hi;subst hj;have e:P++x::(M++y::Q)=(P++x::M)++y::Q:=by simp
 have e2:P++y::(M++y::Q)=(P++y::M)++y::Q:=by simp
 have hl:P.length+1+M.length=(P++x::M).length:=by simp;omega
 have rO:P.length+1+M.length=(P++y::M).length:=by simp;omega
 unfold Z5;rw[tQ];have h1:(P++x::(M++y::Q)).getD (P.length+1+M.length) 0=y:=by rw[e,hl,tQ]
 rw[h1,O4,e2,rO,O4];simp
theorem ae6(D:bf){i j:Nat}(h:i≠j):Z5 D i j=Z5 D j i:=by
 unfold Z5;rw[List.set_comm _ _ h]
theorem anK(P:bf)(x:Nat)(M:bf)(y:Nat)(Q:bf){i j:Nat}(hi:i=P.length)(hj:j=P.length+1+M.length):Z5 (P++x::(M++y::Q)) j i=P++y::(M++x::Q):=by
 rw[ae6 _ aa,SZ P x M y Q hi hj]
def Z6(D:bf)(a b:Nat):Nat→bf
 |0=>D
 |i+1=>Z5 (Z6 D a b i) (a+i) (b+i)
theorem WK(D:bf)(a b:Nat):∀i,(Z6 D a b i).length=D.length
 |0=>rfl
 |i+1=>by rw[Z6,ai4,WK D a b i]
theorem WJ(P X M Y Q:bf){a b:Nat}(ha:a=P.length)(hb:b=P.length+X.length+M.length)(hl:X.length=Y.length):∀i,i≤X.length→Z6 (P++(X++(M++(Y++Q)))) a b i=P++(Y.take i++(X.drop i++(M++(X.take i++(Y.drop i++Q)))))
 |0,_=>by simp[Z6]
 |i+1,h=>by
  rw[Z6,WJ P X M Y Q ha hb hl i aa,dx (l:=X) aa 0,dx (l:=Y) (k:=i) aa 0,ba (l:=X) aa 0,ba (l:=Y) (k:=i) aa 0];have hyl:(Y.take i).length=i:=by rw[eS];omega
  have Qc:(X.take i).length=i:=by rw[eS];omega
  have:=SZ (P++Y.take i) (X.getD i 0) (X.drop (i+1)++(M++X.take i)) (Y.getD i 0) (Y.drop (i+1)++Q) (i:=a+i) (j:=b+i) (by rw[aY,hyl,ha]) (by simp only[aY,iG,hyl,Qc];omega);simp only[bV,nI,nG,NZ]at this⊢;exact this
theorem K7(P X M Y Q:bf){a b n:Nat}(ha:a=P.length)(hb:b=P.length+X.length+M.length)(hl:X.length=Y.length)(hn:n=X.length):Z6 (P++(X++(M++(Y++Q)))) a b n=P++(Y++(M++(X++Q))):=by
 rw[WJ P X M Y Q ha hb hl n aa,fA aa,mu aa,fA aa,mu aa];simp
theorem fV{o:Nat→Nat}{l:bf}{x:Nat}:x∈cU o l↔x∈l:=(gC o l).mem_iff
theorem gV(o:Nat→Nat)(l:bf):(cU o l).length=l.length:=(gC o l).length_eq
abbrev Ri(l:bf):Prop:=l.Pairwise (· < ·)
theorem Ri.nd{l:bf}(h:Ri l):l.Nodup:=h.imp fun h=>by omega
theorem tA.pG{o:Nat→Nat}{a l:bf}(h:tA o a)(hl:l.Nodup)(hm:∀x,x∈a↔x∈l):a=cU o l:=
 tA.ext h (lA o hl) fun x=>(hm x).trans fV.symm
theorem adk{o:Nat→Nat}{S:bf}{x k:Nat}(hs:tA o S)(h1:∀y∈S.take k,tD o y x)(h2:∀y∈S.drop k,tD o x y):tA o (S.take k++x::S.drop k):=by
 refine sZ.2 ⟨hs.sublist (Kx k S),kE.2 ⟨h2,hs.sublist (List.drop_sublist k S)⟩,fun y hy z hz=>?_⟩;rcases fk.1 hz with e|e
 ·subst e;exact h1 y hy
 ·exact rr (h1 y hy) (h2 z e)
theorem WH{o:Nat→Nat}{S:bf}(hs:tA o S){k:Nat}(hk:k<S.length){x:Nat}(h:tD o (S.getD k 0) x):∀y∈S.take (k+1),tD o y x:=fun y hy=>by
 obtain⟨i,hi,rfl⟩:=j0 hy;rw[eS]at hi;rw[Eu];rw[bk,fm hk,vI]at h;by_cases e:i=k
 ·subst e;exact h
 ·exact rr (rj.1 hs i k aa hk aa) h
theorem amu{o:Nat→Nat}{R:bf}{x k:Nat}(hr:Ri (R++[x]))(h1:∀y∈(cU o R).take k,tD o y x)(h2:∀y∈(cU o R).drop k,tD o x y):(cU o R).take k++x::(cU o R).drop k=cU o (R++[x]):=by
 have hn:R.Nodup:=(hr.sublist (vJ R [x])).imp fun h=>by omega
 refine tA.pG (adk (lA o hn) h1 h2) hr.nd fun y=>?_;have e:y∈cU o R↔y∈(cU o R).take k∨y∈(cU o R).drop k:=by
  conv=>lhs;rw[←jJ k (cU o R)]
  exact dz
 rw[dz,fk,dz,lJ,←fV (o:=o) (l:=R),e];constructor
 ·rintro(h|h|h)
  ·exact .inl (.inl h)
  ·exact .inr h
  ·exact .inl (.inr h)
 ·rintro((h|h)|h)
  ·exact .inl h
  ·exact .inr (.inr h)
  ·exact .inr (.inl h)
def wD(o:Nat→Nat)(bs:Nat):Nat→bf→bf
 |0,R=>cU o R
 |f+1,R=>if R.length≤bs then cU o R else cU o (R.take bs)++wD o bs f (R.drop bs)
theorem Hv(o:Nat→Nat){bs:Nat}(hb:1≤bs):∀(f g:Nat) (R:bf),R.length≤f→R.length≤g→wD o bs f R=wD o bs g R
 |0,0,R,_,_=>rfl
 |0,g+1,R,h,_=>by rw[wD,wD,ao aa]
 |f+1,0,R,_,h=>by rw[wD,wD,ao aa]
 |f+1,g+1,R,h1,h2=>by
  rw[wD,wD];split
  ·rfl
  ·rw[Hv o hb f g (R.drop bs) kU kU]
def wC(o:Nat→Nat)(bs:Nat)(R:bf):bf:=wD o bs R.length R
theorem mX{o:Nat→Nat}{bs:Nat}{R:bf}(h:R.length≤bs):wC o bs R=cU o R:=by
 unfold wC;cases e:R.length with
 |zero=>rfl
 |succ f=>rw[wD,ao h]
theorem qQ{o:Nat→Nat}{bs:Nat}{R:bf}(hb:1≤bs)(h:bs≤R.length):wC o bs R=cU o (R.take bs)++wC o bs (R.drop bs):=by
 by_cases e:R.length=bs
 ·rw[mX aa,fA aa,mu aa];simp[wC,wD,cU]
 ·conv=>lhs;rw[wC,show R.length=(R.length-1)+1 by omega]
  rw[wD,aw aa,wC];congr 1;exact Hv o hb _ _ _ kU aa
theorem Mj(o:Nat→Nat)(bs:Nat):∀(f:Nat) (R:bf),(wD o bs f R).length=R.length
 |0,R=>gV o R
 |f+1,R=>by
  rw[wD];split
  ·exact gV o R
  ·rw[aY,gV,Mj o bs f,eS,iG];omega
theorem abh(o:Nat→Nat)(bs:Nat)(R:bf):(wC o bs R).length=R.length:=Mj o bs _ R
theorem O_{o:Nat→Nat}{c1 c2:bf}(h:(c1++c2).Nodup):cU o (cU o c1++cU o c2)=cU o (c1++c2):=by
 have hn:(cU o c1++cU o c2).Nodup:=((List.Perm.append (gC o c1) (gC o c2)).nodup_iff).2 h;refine tA.pG (lA o hn) h fun x=>?_;rw[fV,dz,dz,fV,fV]
theorem al1{o:Nat→Nat}{U1 U2 V1 V2:bf}(hn:((U1++U2)++(V1++V2)).Nodup)(h:∀x∈U1++V1,∀y∈U2++V2,tD o x y):cU o (U1++V1)++cU o (U2++V2)=cU o ((U1++U2)++(V1++V2)):=by
 have hp:((U1++U2)++(V1++V2)).Perm ((U1++V1)++(U2++V2)):=by
  rw[bV,bV];refine List.Perm.append_left U1 ?_;rw[←bV,←bV];exact List.Perm.append_right V2 IG
 have tY:=hp.nodup_iff.1 hn;obtain⟨n1,n2,_⟩:=List.nodup_append.1 tY;refine tA.pG (sZ.2 ⟨lA o n1,lA o n2,fun x hx y hy=>h x (fV.1 hx) y (fV.1 hy)⟩) hn fun x=>?_;rw[dz,fV,fV,←dz];exact hp.symm.mem_iff
theorem O9{o:Nat→Nat}{l:bf}(h:tA o l)(hn:l.Nodup):cU o l=l:=(tA.pG h hn fun _=>Iff.rfl).symm
end Go.Proofs.YtaodmbolhoafcaaGreatDoor
