/-
  Texts of one proof, joined: part 9. No condition.
-/
import Derived.Test.YtaodmbolhoafcaaGreatDoorZp8
open List renaming length→E
open Go.RowKit Go.Proofs.Tryz
namespace Go.Proofs.YtaodmbolhoafcaaGreatDoor
set_option linter.unusedVariables false
set_option linter.unusedSimpArgs false
set_option maxRecDepth 20000
variable{B:Nat}{w0:World}{F:aR}{A Ao:bk}{n c co g N:Nat}{o:Nat->Nat}{D l:bf}{A1 A2:bk}{c1 c2:Nat}{L:aR}{g2:Nat}{q:List Bool}{X:cZ}{bt:TypeId}
theorem Py:type_of% @List.singleton_append:= @List.singleton_append
def swN(D:bf)(i j:Nat):bf:=(D.set i (D.getD j 0)).set j (D.getD i 0)
theorem ak2(D:bf)(i j:Nat):E (swN D i j)=E D:=by simp[swN]
theorem uG(P:bf)(x:Nat)(Q:bf):(P++x::Q).getD (E P) 0=x:=by simp[ba]
theorem QD(P:bf)(x y:Nat)(Q:bf):(P++x::Q).set (E P) y=P++y::Q:=by simp
theorem UL(P:bf)(x:Nat)(M:bf)(y:Nat)(Q:bf){i j:Nat}(hi:i=E P)(hj:j=E P+1+E M):swN (P++x::(M++y::Q)) i j=P++y::(M++x::Q):=by
 subst hi;subst hj;have e:P++x::(M++y::Q)=(P++x::M)++y::Q:=by simp
 have e2:P++y::(M++y::Q)=(P++y::M)++y::Q:=by simp
 have hl:E P+1+E M=E (P++x::M):=by simp;omega
 have rR:E P+1+E M=E (P++y::M):=by simp;omega
 unfold swN;rw[uG];have h1:(P++x::(M++y::Q)).getD (E P+1+E M) 0=y:=by rw[e,hl,uG]
 rw[h1,QD,e2,rR,QD];simp
theorem agU(D:bf){i j:Nat}(h:i≠j):swN D i j=swN D j i:=by
 unfold swN;rw[List.set_comm _ _ h]
theorem apE(P:bf)(x:Nat)(M:bf)(y:Nat)(Q:bf){i j:Nat}(hi:i=E P)(hj:j=E P+1+E M):swN (P++x::(M++y::Q)) j i=P++y::(M++x::Q):=by
 rw[agU _ aa,UL P x M y Q hi hj]
def swR(D:bf)(a b:Nat):Nat->bf
 |0=>D
 |i+1=>swN (swR D a b i) (a+i) (b+i)
theorem Yp(D:bf)(a b:Nat):∀i,E (swR D a b i)=E D
 |0=>rfl
 |i+1=>by rw[swR,ak2,Yp D a b i]
theorem Yo(P X M Y Q:bf){a b:Nat}(ha:a=E P)(hb:b=E P+E X+E M)(hl:E X=E Y):∀i,i<=E X->swR (P++(X++(M++(Y++Q)))) a b i=P++(Y.take i++(X.drop i++(M++(X.take i++(Y.drop i++Q)))))
 |0,_=>by simp[swR]
 |i+1,h=>by
  rw[swR,Yo P X M Y Q ha hb hl i aa,dD (l:=X) aa 0,dD (l:=Y) (k:=i) aa 0,aY (l:=X) aa 0,aY (l:=Y) (k:=i) aa 0];have hyl:E (Y.take i)=i:=by rw[eY];omega
  have LC:E (X.take i)=i:=by rw[eY];omega
  have:=UL (P++Y.take i) (X.getD i 0) (X.drop (i+1)++(M++X.take i)) (Y.getD i 0) (Y.drop (i+1)++Q) (i:=a+i) (j:=b+i) (by rw[aX,hyl,ha]) (by simp only[aX,iG,hyl,LC];omega);simp only[bX,mX,mW,Py]at this⊢;exact this
theorem Mx(P X M Y Q:bf){a b n:Nat}(ha:a=E P)(hb:b=E P+E X+E M)(hl:E X=E Y)(hn:n=E X):swR (P++(X++(M++(Y++Q)))) a b n=P++(Y++(M++(X++Q))):=by
 rw[Yo P X M Y Q ha hb hl n aa,fC aa,mU aa,fC aa,mU aa];simp
theorem ga{o:Nat->Nat}{l:bf}{x:Nat}:x∈dc o l↔x∈l:=(gO o l).mem_iff
theorem ij(o:Nat->Nat)(l:bf):E (dc o l)=E l:=(gO o l).length_eq
abbrev Ri(l:bf):Prop:=l.Pairwise (· < ·)
theorem Ri.nd{l:bf}(h:Ri l):l.Nodup:=h.imp λh=>by omega
theorem uf.qj{o:Nat->Nat}{a l:bf}(h:uf o a)(hl:l.Nodup)(hm:∀x,x∈a↔x∈l):a=dc o l:=
 uf.ext h (l0 o hl) λx=>(hm x).trans ga.symm
theorem ae2{o:Nat->Nat}{S:bf}{x k:Nat}(hs:uf o S)(h1:∀y∈S.take k,uo o y x)(h2:∀y∈S.drop k,uo o x y):uf o (S.take k++x::S.drop k):=by
 refine tK.2 ⟨hs.sublist (wZ k S),ky.2 ⟨h2,hs.sublist (List.drop_sublist k S)⟩,λy hy z hz=>?_⟩;rcases fj.1 hz with e|e
 ·subst e;exact h1 y hy
 ·exact sc (h1 y hy) (h2 z e)
theorem Ym{o:Nat->Nat}{S:bf}(hs:uf o S){k:Nat}(hk:k<E S){x:Nat}(h:uo o (S.getD k 0) x):∀y∈S.take (k+1),uo o y x:=λy hy=>by
 obtain⟨i,hi,rfl⟩:=ke hy;rw[eY]at hi;rw[FA];rw[ba,fc hk,uX]at h;by_cases e:i=k
 ·subst e;exact h
 ·exact sc (qK.1 hs i k aa hk aa) h
theorem aow{o:Nat->Nat}{R:bf}{x k:Nat}(hr:Ri (R++[x]))(h1:∀y∈(dc o R).take k,uo o y x)(h2:∀y∈(dc o R).drop k,uo o x y):(dc o R).take k++x::(dc o R).drop k=dc o (R++[x]):=by
 have hn:R.Nodup:=(hr.sublist (wD R [x])).imp λh=>by omega
 refine uf.qj (ae2 (l0 o hn) h1 h2) hr.nd λy=>?_;have e:y∈dc o R↔y∈(dc o R).take k∨y∈(dc o R).drop k:=by
  conv=>lhs;rw[<-jd k (dc o R)]
  exact dz
 rw[dz,fj,dz,me,<-ga (o:=o) (l:=R),e];constructor
 ·rintro(h|h|h)
  ·exact .inl (.inl h)
  ·exact .inr h
  ·exact .inl (.inr h)
 ·rintro((h|h)|h)
  ·exact .inl h
  ·exact .inr (.inr h)
  ·exact .inr (.inl h)
def xj(o:Nat->Nat)(bs:Nat):Nat->bf->bf
 |0,R=>dc o R
 |f+1,R=>if E R<=bs then dc o R else dc o (R.take bs)++xj o bs f (R.drop bs)
theorem IS(o:Nat->Nat){bs:Nat}(hb:1<=bs):∀(f g:Nat) (R:bf),E R<=f->E R<=g->xj o bs f R=xj o bs g R
 |0,0,R,_,_=>rfl
 |0,g+1,R,h,_=>by rw[xj,xj,ao aa]
 |f+1,0,R,_,h=>by rw[xj,xj,ao aa]
 |f+1,g+1,R,h1,h2=>by
  rw[xj,xj];split
  ·rfl
  ·rw[IS o hb f g (R.drop bs) ly ly]
def xi(o:Nat->Nat)(bs:Nat)(R:bf):bf:=xj o bs (E R) R
theorem nB{o:Nat->Nat}{bs:Nat}{R:bf}(h:E R<=bs):xi o bs R=dc o R:=by
 unfold xi;cases e:E R with
 |zero=>rfl
 |succ f=>rw[xj,ao h]
theorem rH{o:Nat->Nat}{bs:Nat}{R:bf}(hb:1<=bs)(h:bs<=E R):xi o bs R=dc o (R.take bs)++xi o bs (R.drop bs):=by
 by_cases e:E R=bs
 ·rw[nB aa,fC aa,mU aa];simp[xi,xj,dc]
 ·conv=>lhs;rw[xi,show E R=(E R-1)+1 by omega]
  rw[xj,aw aa,xi];congr 1;exact IS o hb _ _ _ ly aa
theorem NH(o:Nat->Nat)(bs:Nat):∀(f:Nat) (R:bf),E (xj o bs f R)=E R
 |0,R=>ij o R
 |f+1,R=>by
  rw[xj];split
  ·exact ij o R
  ·rw[aX,ij,NH o bs f,eY,iG];omega
theorem acT(o:Nat->Nat)(bs:Nat)(R:bf):E (xi o bs R)=E R:=NH o bs _ R
theorem QK{o:Nat->Nat}{c1 c2:bf}(h:(c1++c2).Nodup):dc o (dc o c1++dc o c2)=dc o (c1++c2):=by
 have hn:(dc o c1++dc o c2).Nodup:=((List.Perm.append (gO o c1) (gO o c2)).nodup_iff).2 h;refine uf.qj (l0 o hn) h λx=>?_;rw[ga,dz,dz,ga,ga]
theorem an1{o:Nat->Nat}{U1 U2 V1 V2:bf}(hn:((U1++U2)++(V1++V2)).Nodup)(h:∀x∈U1++V1,∀y∈U2++V2,uo o x y):dc o (U1++V1)++dc o (U2++V2)=dc o ((U1++U2)++(V1++V2)):=by
 have hp:((U1++U2)++(V1++V2)).Perm ((U1++V1)++(U2++V2)):=by
  rw[bX,bX];refine List.Perm.append_left U1 ?_;rw[<-bX,<-bX];exact List.Perm.append_right V2 JG
 have uK:=hp.nodup_iff.1 hn;obtain⟨n1,n2,_⟩:=List.nodup_append.1 uK;refine uf.qj (tK.2 ⟨l0 o n1,l0 o n2,λx hx y hy=>h x (ga.1 hx) y (ga.1 hy)⟩) hn λx=>?_;rw[dz,ga,ga,<-dz];exact hp.symm.mem_iff
theorem QJ{o:Nat->Nat}{l:bf}(h:uf o l)(hn:l.Nodup):dc o l=l:=(uf.qj h hn λ_=>Iff.rfl).symm
section
theorem air{P:Prop}(h:P:=by(rw[vw,<-ha,aap (by omega)])):P:=h
def Sv(a b:Nat):Int:=if a<b then-1 else if b<a then 1 else 0
theorem mH{a b:Nat}:Sv a b<0↔a<b:=by
 unfold Sv;split
 ·omega
 ·split<;>omega
theorem amw(a:Nat):aZ B w0 336 [.int .u32 (a:Int)] F (λr L=>r= .bool false∧L=F):=by
 refine fw func336 6 [0] ?_;refine jt ?_;exact⟨ak,rfl⟩
theorem aq3(a b:Nat)(ha:a<4294967296)(hb:b<4294967296):aZ B w0 316 [.int .u32 (a:Int),.int .u32 (b:Int)] F (λr L=>r=ah (Sv a b)∧L=F):=by
 refine fw func316 20 [0,1] ?_;refine bK ?_;refine ai rfl (amw a) (bB ?_);refine ai rfl (amw b) (bO ?_);refine iH (λpg=>?_) λpg=>?_
 ·exfalso;(simp at pg)
 ·refine bK ?_;refine iH (λnj=>?_) λnj=>?_
  ·exfalso;(simp at nj)
  ·refine bz ?_;refine aj (λlf=>?_) λlf=>?_
   ·refine bK ?_;unfold Sv;exact⟨by rw[ao aa],rfl⟩
   ·refine bz ?_;refine aj (λoI=>?_) λoI=>?_
    ·refine bE ?_;refine ve [4] ?_;refine b7 ?_;unfold Sv;exact⟨by rw[aw aa,ao aa],rfl⟩
    ·refine bF ?_;refine ve [4] ?_;refine bE ?_;unfold Sv;exact⟨by rw[aw aa,aw aa],rfl⟩
abbrev Sf(A:bk)(n c:Nat)(D:bf)(g:Nat)(Ao:bk)(N co:Nat)(F:aR):aR:=.own 3 1 A n c (bD D):: .bG g 213 [.slice Ao N co]::F
theorem G4{l:bf}{k:Nat}(h:k<E l):(ints .u32 (l.map λ(n:Nat)=>(n:Int)))[k*1]? =some (.int .u32 ((l.getD k 0:Nat):Int)):=by
 rw[cH];simp[ints,List.getD,fc h]
structure IB(B:Nat)(w0:World)(F:aR)(Ao:bk)(co:Nat)(l:bf):Prop where
 yw:aM B w0 F 1 (.slice Ao (E l) co) (E l) (ints .u32 (l.map λ(n:Nat)=>(n:Int)))
 lt:∀k,l.getD k 0<4294967296
variable{l:bf}
abbrev oN(l:bf)(k:Nat):Nat:=l.getD k 0
theorem LZ(H:IB B w0 F Ao co l){x y:Nat}(hx:x<E l)(hy:y<E l):
  aZ B w0 315 [ah x,ah y,br g] (Sf A n c D g Ao (E l) co F) (λr L=>r=ah (Sv (oN l x) (oN l y))∧L=Sf A n c D g Ao (E l) co F):=by
 have hbo:aM B w0 (Sf A n c D g Ao (E l) co F) 1 (.slice Ao (E l) co) (E l) (ints .u32 (l.map λ(n:Nat)=>(n:Int))):=H.yw.cons.cons;refine fw func315 15 [0,1,2] ?_;refine bz ?_;refine bL (au ag rfl hbo aa (G4 hx)) rfl (bE ?_);refine bL (au ag rfl hbo aa (G4 hy)) rfl (gy arE rfl (aq3 (oN l x) (oN l y) (H.lt x) (H.lt y)) q9 rfl ?_);refine bF ?_;exact⟨rfl,rfl⟩
def nc(P S:bf)(x:Nat)(Q:bf)(j:Nat):bf:=P++(S.take j++x::(S.drop j++Q))
theorem TF{P S Q:bf}{x k:Nat}(h:E S=k):nc P S x Q k=P++(S++(x::Q)):=by
 unfold nc;rw[fC aa,mU aa];rfl
theorem Fo(P S:bf)(x:Nat)(Q:bf){j:Nat}(h:j<=E S):E (nc P S x Q j)=E P+E S+1+E Q:=by
 simp[nc];omega
theorem ajP{P S Q:bf}{x j i:Nat}(h:j<=E S)(hi:i=E P+j):(nc P S x Q j).getD i 0=x:=by
 have:=uG (P++S.take j) x (S.drop j++Q);rw[aX,eY,xH h,<-hi]at this;unfold nc;simpa using this
theorem aao{P S Q:bf}{x j i:Nat}(h:j+1<=E S)(hi:i=E P+j):(nc P S x Q (j+1)).getD i 0=S.getD j 0:=by
 have:=uG (P++S.take j) (S.getD j 0) (x::(S.drop (j+1)++Q));rw[aX,eY,xH aa,<-hi]at this;unfold nc;rw[aY aa 0];simpa using this
theorem aap{P S Q:bf}{x j:Nat}(h:j+1<=E S):swN (nc P S x Q (j+1)) (E P+(j+1)) (E P+j)=nc P S x Q j:=by
 have:=apE (P++S.take j) (S.getD j 0) [] x (S.drop (j+1)++Q) (i:=E P+j) (j:=E P+(j+1)) (by rw[aX,eY];omega) (by rw[aX,eY,sY];omega);unfold nc;rw[aY aa 0,dD (l:=S) (k:=j) aa 0];simpa using this
theorem Pg{o:Nat->Nat}{P R Q:bf}{x k j:Nat}(hr:Ri R)(hk:k<E R)(hx:x=R.getD k 0)(hj:j<=k)(h1:∀i,j=i+1->¬o x<o ((dc o (R.take k)).getD i 0))(h2:∀y∈(dc o (R.take k)).drop j,o x<o y):
  nc P (dc o (R.take k)) x Q j=P++(dc o (R.take (k+1))++Q):=by
 have uN:R.take (k+1)=R.take k++[x]:=by rw[hx];exact aY hk 0
 have wU:Ri (R.take k++[x]):=uN▸hr.sublist (wZ _ _);have hn:(R.take k).Nodup:=(hr.sublist (wZ k R)).imp λh=>by omega
 have hl:E (dc o (R.take k))=k:=by rw[ij,eY];omega
 have:=aow (o:=o) (k:=j) wU (λy hy=>by
  cases j with
  |zero=>simp at hy
  |succ i=>
   refine Ym (l0 o hn) aa ?_ y hy;have hm:(dc o (R.take k)).getD i 0∈R.take k:=ga.1 (bj aa 0);have fN:(dc o (R.take k)).getD i 0<x:=(tK.1 wU).2.2 _ hm x ak;have:=h1 i rfl;unfold uo;omega) (λy hy=>.inl (h2 y hy))
 unfold nc;rw[uN,<-this];simp[bX]
theorem ajQ{o:Nat->Nat}{P R Q:bf}:P++(dc o (R.take 1)++(R.drop 1++Q))=P++(R++Q):=by
 cases R with
 |nil=>rfl
 |cons x r=>rfl
theorem gv{L:bf}{i v:Nat}(h:i<E L)(e:L.getD i 0=v):(bD L)[i*1]? =some (ah ((v:Nat):Int)):=by
 rw[fO h,e]
theorem vw{D:bf}{i j:Nat}:((bD D).set (i*1) (ah ((D.getD j 0:Nat):Int))).set (j*1) (ah ((D.getD i 0:Nat):Int))=bD (swN D i j):=by
 simp[bD,swN,LR]
theorem UM{a b n nn:Nat}{fv:Value}(RS:E D=nn)(ha:a+n<=nn)(hb:b+n<=nn)(hD:nn<=1000000)(hn:0<n):
  aZ B w0 355 [.slice A nn c,ah a,ah b,ah n,fv] (.own 3 1 A nn c (bD D)::F) (λr L=>r= .tuple #[]∧L= .own 3 1 A nn c (bD (swR D a b n))::F):=by
 subst RS;refine b_ func355 38 rfl rfl rfl [(0,.slice A (E D) c),(1,ah a),(2,ah b),(3,ah n),(4,fv)] ⟨⟨rfl,rfl⟩,⟨rfl,rfl⟩,⟨rfl,rfl⟩,⟨rfl,rfl⟩,⟨rfl,rfl⟩,trivial⟩ ?_;refine bB ?_;refine aD (λzf zL zm=>∃(i:Nat),(i<=n)∧n-i=zm∧Sub zf [(0,.slice A (E D) c),(1,ah a),(2,ah b),(3,ah n),(10,ah i)]∧Wk zL (.own 3 1 A (E D) c (bD (swR D a b i))::F)) _ ⟨0,bU _,rfl,bp,.refl _⟩ ?_;rintro _ _ _ ⟨i,hi,rfl,hs,hp⟩;refine aT hs hp (bK ?_);refine aj (λnj=>?_) λnj=>?_
 ·have oC:=Yp D a b i;refine b7 ?_;refine jQ (A:=A) (n:=E D) (xs:=bD (swR D a b i)) (.head _) aa ?_;intro ad hA;subst hA;refine cE F ?_;refine ae 0 ?_;refine ae 1 ?_;refine ae 2 ?_;refine ae 3 ?_;refine ae 4 ?_;refine ae 5 ?_;refine ae 6 ?_;refine ae 7 ?_;refine ae 8 ?_;refine ae 9 ?_;refine ae 10 ?_;refine ae 11 ?_;refine aU 12 rfl (aO (size:=1) (i:=b+i) underlying53 ag rfl rfl aa aa) (ae 14 ?_);refine ae 15 ?_;refine ae 16 ?_;refine ae 17 ?_;refine aU 18 rfl (aO (size:=1) (i:=a+i) underlying53 ag rfl rfl aa aa) (ib 13 19 ?_ ?_)
  ·refine iL rfl .no (au ag rfl aB aa (fO aa)) rfl gD ?_;refine aA 19 (iL rfl .no (au ag rfl aB aa (fO aa)) rfl gD ?_);refine aU 20 rfl (aO (size:=1) (i:=a+i) underlying53 ag rfl rfl aa aa) (aA 21 (aF ?_));refine aU 22 rfl (aO (size:=1) (i:=b+i) underlying53 ag rfl rfl aa aa) (aA 23 (aF ?_));refine cP [0,1,2,3,10] ?_;refine bI ?_;refine av ⟨_,aa,i+1,aa,rfl,bp,az rfl vw (.refl _)⟩
  ·refine iL rfl .no (au ag rfl aB aa (fO aa)) rfl gD ?_;refine aA 13 (iL rfl .no (au ag rfl aB aa (fO aa)) rfl gD ?_);refine aU 20 rfl (aO (size:=1) (i:=a+i) underlying53 ag rfl rfl aa aa) (aA 21 (aF ?_));refine aU 22 rfl (aO (size:=1) (i:=b+i) underlying53 ag rfl rfl aa aa) (aA 23 (aF ?_));refine cP [0,1,2,3,10] ?_;refine bI ?_;refine av ⟨_,aa,i+1,aa,rfl,bp,az rfl vw (.refl _)⟩
 ·obtain rfl:i=n:=by omega
  refine bB ?_;exact⟨rfl,rfl⟩
theorem Ph(H:IB B w0 F Ao co l){P R Q:bf}{a b:Nat}(ha:E P=a)(hb:a+E R=b)(hn:b+E Q=n)(uK:n<=1000000)(hr:Ri R)(hN:∀x∈R,x<E l):
  aZ B w0 344 [.slice A n c,ah a,ah b,.func (.func 315) #[] #[br g]] (Sf A n c (P++(R++Q)) g Ao (E l) co F)
   (λr L=>r= .tuple #[]∧L=Sf A n c (P++(dc (oN l) R++Q)) g Ao (E l) co F):=by
 refine fw func344 53 [0,1,2,3] ?_;refine bK ?_;refine aD (λzf zL zm=>∃(k:Nat),(1<=k∧k<=max 1 (E R))∧E R-k=zm∧Sub zf [(0,.slice A n c),(1,ah a),(2,ah b),(3,.func (.func 315) #[] #[br g]),(8,ah (a+k:Nat))]∧Wk zL (Sf A n c (P++(dc (oN l) (R.take k)++(R.drop k++Q))) g Ao (E l) co F)) _ ⟨1,⟨gC _,aa⟩,rfl,bp,az rfl (by rw[ajQ]) (.refl _)⟩ ?_;rintro _ _ _ ⟨k,⟨yf,Jw⟩,rfl,hs,hp⟩;refine aT hs hp (bK ?_);refine aj (λku=>?_) λku=>?_
 ·have Bl:k<E R:=by omega
  obtain⟨x,hxe⟩:=cK (R.getD k 0);have hx:x<E l:=by rw[hxe];exact hN _ (bj Bl 0)
  have hdk:R.drop k=x::R.drop (k+1):=by rw[hxe];exact dD Bl 0
  obtain⟨S,hS⟩:=cK (dc (oN l) (R.take k));have De:E (R.take k)=k:=by rw[eY];omega
  have Z':E S=k:=by rw[hS,ij,De]
  have hSN:∀y∈S,y<E l:=λy hy=>hN y (my (ga.1 (hS▸hy)));refine de ?_;refine aD (λzf zL zm=>∃(j:Nat),(j<=k∧∀y∈S.drop j,oN l x<oN l y)∧j=zm∧Sub zf [(0,.slice A n c),(1,ah a),(2,ah b),(3,.func (.func 315) #[] #[br g]),(8,ah (a+k:Nat)),(9,ah (a+j:Nat))]∧Wk zL (Sf A n c (nc P S x (R.drop (k+1)++Q) j) g Ao (E l) co F)) _ ⟨k,⟨gC _,by rw[mU aa];exact λy h=>kC⟩,rfl,bp,az rfl (by rw[TF Z',hdk,hS];rfl) (.refl _)⟩ ?_;rintro _ _ _ ⟨j,⟨hj,hjy⟩,rfl,hs,hp⟩;refine aT hs hp (bc ?_);refine cE _ ?_;refine ae 0 ?_;refine ae 1 ?_;refine ae 2 ?_;refine ae 3 ?_;refine ahS 21 rfl (λmx=>?_) (λmx=>?_)
  ·obtain⟨i,rfl⟩:∃i,j=i+1:=⟨j-1,aa⟩
   have hin:=Fo P S x (R.drop (k+1)++Q) (j:=i+1) aa;rw[aX,iG]at hin;have hyl:S.getD i 0<E l:=hSN _ (bj aa 0);refine jF 4 rfl ag ag ag rfl rfl (ek rfl) rfl ?_;refine jF 5 rfl ag ag ag rfl rfl (ek rfl) rfl ?_;refine jF 6 rfl ag ag ag rfl rfl (ek rfl) rfl ?_;refine jF 7 rfl ag ag ag rfl rfl (aE (i:=a+(i+1)) underlying53 ag rfl rfl aa aa aB) rfl ?_;refine jF 8 rfl ag ag ag rfl rfl (au ag rfl aB aa (gv (v:=x) aa (ajP aa aa))) rfl ?_;refine jF 9 rfl ag ag ag rfl rfl (ek rfl) rfl ?_;refine jF 10 rfl ag ag ag rfl rfl (ek rfl) rfl ?_;refine jF 11 rfl ag ag ag rfl rfl (dC rfl rfl (bq aa aa)) rfl ?_;refine jF 12 rfl ag ag ag rfl rfl (aE (i:=a+i) underlying53 ag rfl rfl aa aa aB) rfl ?_;refine jF 13 rfl ag ag ag rfl rfl (au ag rfl aB aa (gv (v:=S.getD i 0) aa (aao aa aa))) rfl ?_;refine aA 14 (qp rfl (.yes rfl rfl) Wo rfl rfl (LZ H hx hyl) rfl Sc ?_);rintro _ _ ⟨rfl,cO⟩;obtain rfl:=cO.symm;refine jF 15 rfl ag ag ag rfl rfl (yL rfl rfl) rfl ?_;refine ae 16 ?_;refine bc ?_;refine aj (λH6=>?_) λH6=>?_
   ·refine b7 ?_;refine jQ (A:=A) (n:=n) (xs:=bD (nc P S x (R.drop (k+1)++Q) (i+1))) (.head _) aa ?_;intro ad hA;subst hA;refine cE (.bG g 213 [.slice Ao (E l) co]::F) ?_;refine ae 0 ?_;refine ae 1 ?_;refine ae 2 ?_;refine ae 3 ?_;refine ae 4 ?_;refine ae 5 ?_;refine ae 6 ?_;refine ae 7 ?_;refine aU 8 rfl (aO (size:=1) (i:=a+i) underlying53 ag rfl rfl aa aa) (ae 10 ?_);refine ae 11 ?_;refine aU 12 rfl (aO (size:=1) (i:=a+(i+1)) underlying53 ag rfl rfl aa aa) (ib 9 13 ?_ ?_)
    ·refine iL rfl .no (au ag rfl aB aa (fO aa)) rfl gD ?_;refine aA 13 ?_;refine iL rfl .no (au ag rfl aB aa (fO aa)) rfl gD ?_;refine aU 14 rfl (aO (size:=1) (i:=a+(i+1)) underlying53 ag rfl rfl aa aa) ?_;refine aA 15 ?_;refine aF ?_;refine aU 16 rfl (aO (size:=1) (i:=a+i) underlying53 ag rfl rfl aa aa) ?_;refine aA 17 ?_;refine aF ?_;refine cP [0,1,2,3,8,9] ?_;refine bI ?_;refine av ⟨_,aa,i,⟨aa,λy hy=>by
      rw[dD (l:=S) aa 0]at hy;rcases fj.1 hy with e|e
      ·rw[e];exact mH.1 H6
      ·exact hjy y e⟩,rfl,bp,az rfl air (.refl _)⟩
    ·refine iL rfl .no (au ag rfl aB aa (fO aa)) rfl gD ?_;refine aA 9 ?_;refine iL rfl .no (au ag rfl aB aa (fO aa)) rfl gD ?_;refine aU 14 rfl (aO (size:=1) (i:=a+(i+1)) underlying53 ag rfl rfl aa aa) ?_;refine aA 15 ?_;refine aF ?_;refine aU 16 rfl (aO (size:=1) (i:=a+i) underlying53 ag rfl rfl aa aa) ?_;refine aA 17 ?_;refine aF ?_;refine cP [0,1,2,3,8,9] ?_;refine bI ?_;refine av ⟨_,aa,i,⟨aa,λy hy=>by
      rw[dD (l:=S) aa 0]at hy;rcases fj.1 hy with e|e
      ·rw[e];exact mH.1 H6
      ·exact hjy y e⟩,rfl,bp,az rfl air (.refl _)⟩
   ·refine bz ?_;refine ve [0,1,2,3,8] ?_;refine av ⟨_,aa,k+1,⟨aa,aa⟩,rfl,bp,az rfl (by rw[hS,Pg (o:=oN l) hr Bl hxe aa (λq hq=>by injection hq with hq;rw[<-hq,<-hS];exact λh=>H6 (mH.2 h)) (by rw[<-hS];exact hjy)]) (.refl _)⟩
  ·refine iO 4 rfl ag ag ag rfl rfl rfl rfl ?_;refine iO 5 rfl ag ag ag rfl rfl rfl rfl ?_;refine iO 6 rfl ag ag ag rfl rfl rfl rfl ?_;refine iO 7 rfl ag ag ag rfl rfl rfl rfl ?_;refine iO 8 rfl ag ag ag rfl rfl rfl rfl ?_;refine iO 9 rfl ag ag ag rfl rfl rfl rfl ?_;refine iO 10 rfl ag ag ag rfl rfl rfl rfl ?_;refine iO 11 rfl ag ag ag rfl rfl rfl rfl ?_;refine iO 12 rfl ag ag ag rfl rfl rfl rfl ?_;refine iO 13 rfl ag ag ag rfl rfl rfl rfl ?_;refine iO 14 rfl ag ag ag rfl rfl rfl rfl ?_;refine iO 15 rfl ag ag ag rfl rfl rfl rfl ?_;refine ae 16 ?_;refine cY ?_;refine ve [0,1,2,3,8] ?_;refine av ⟨_,aa,k+1,⟨aa,aa⟩,rfl,bp,az rfl (by rw[hS,Pg (o:=oN l) hr Bl hxe aa (λq hq=>aa) (by rw[<-hS];exact hjy)]) (.refl _)⟩
 ·rw[fC aa,mU aa];refine bB ?_;exact⟨rfl,rfl⟩
end
theorem avL{P X Y Q:bf}(h:E Y<E X):swR (P++(X++(Y++Q))) (E P) (E P+E X) (E Y)=(P++Y)++(X.drop (E Y)++(X.take (E Y)++Q)):=by
 have hl:E (X.take (E Y))=E Y:=by rw[eY];omega
 have:=Mx P (X.take (E Y)) (X.drop (E Y)) Y Q (a:=E P) (b:=E P+E X) (n:=E Y) rfl (by rw[hl,iG];omega) hl hl.symm;rw[<-bX (X.take (E Y)),jd]at this;rw[this,bX]
theorem avM{P X Y Q:bf}(h:E X<E Y):swR (P++(X++(Y++Q))) (E P) (E P+E Y) (E X)=P++(Y.drop (E Y-E X)++(Y.take (E Y-E X)++(X++Q))):=by
 have hl:E (Y.drop (E Y-E X))=E X:=by rw[iG];omega
 have:=Mx P X (Y.take (E Y-E X)) (Y.drop (E Y-E X)) Q (a:=E P) (b:=E P+E Y) (n:=E X) rfl nf hl.symm rfl;rw[<-bX (Y.take (E Y-E X)),jd]at this;rw[this]
theorem avN{P X Y Q:bf}(h:E X=E Y):swR (P++(X++(Y++Q))) (E P) (E P+E X) (E X)=P++(Y++(X++Q)):=
 Mx P X [] Y Q rfl ak h rfl
theorem agp{P X Y Q:bf}{a m b:Nat}{fv:Value}(ha:E P=a)(hm:a+E X=m)(hb:m+E Y=b)(hn:b+E Q=n)(uK:n<=1000000)(hX:0<E X)(hY:0<E Y):
  aZ B w0 349 [.slice A n c,ah a,ah m,ah b,fv] (.own 3 1 A n c (bD (P++(X++(Y++Q))))::F)
   (λr L=>r= .tuple #[]∧L= .own 3 1 A n c (bD (P++(Y++(X++Q))))::F):=by
 refine fw func349 58 [0,1,2,3,4] ?_;refine sR ?_;refine aD (λzf zL zm=>∃(P' X' Y' Q':bf),(E P'+E X'=m∧m+E Y'+E Q'=n∧0<E X'∧0<E Y'∧P'++(Y'++(X'++Q'))=P++(Y++(X++Q)))∧E X'+E Y'=zm∧Sub zf [(0,.slice A n c),(2,ah m),(4,fv),(10,ah (E X')),(11,ah (E Y'))]∧Wk zL (.own 3 1 A n c (bD (P'++(X'++(Y'++Q'))))::F)) _ ⟨P,X,Y,Q,⟨aa,aa,hX,hY,rfl⟩,rfl,bp,.refl _⟩ ?_;rintro _ _ _ ⟨P',X',Y',Q',⟨h1,h2,h3,h4,h5⟩,rfl,hs,hp⟩;refine aT hs hp (bK ?_);refine aj (λju=>?_) λju=>?_
 ·refine bz ?_;refine aj (λmB=>?_) λmB=>?_
  ·have hr:=avL (P:=P') (X:=X') (Y:=Y') (Q:=Q') aa;rw[h1]at hr;have hd1:E (X'.drop (E Y'))=E X'-E Y':=iG;have hd2:E (X'.take (E Y'))=E Y':=by rw[eY];omega
   have hd3:E (P'++Y')=E P'+E Y':=aX;refine bF ?_;refine ab (dC rfl rfl ((bq aa aa).trans (show _=((E P':Nat):Int) by omega))) rfl (bE ?_);refine ai rfl (UM (a:=E P') (b:=m) (n:=E Y') bT aa aa uK h4) (bI ?_);refine ve [0,2,4,10,11] ?_;refine aF ?_;refine av ⟨_,aa,P'++Y',X'.drop (E Y'),X'.take (E Y'),Q',⟨aa,aa,aa,aa,by rw[<-h5,bX,<-bX (X'.take (E Y')),jd]⟩,rfl,bp,az rfl (by rw[hr]) (.refl _)⟩
  ·have hr:=avM (P:=P') (X:=X') (Y:=Y') (Q:=Q') aa;have hd1:E (Y'.drop (E Y'-E X'))=E X':=by rw[iG];omega
   have hd2:E (Y'.take (E Y'-E X'))=E Y'-E X':=by rw[eY];omega
   have hd3:E (X'++Q')=E X'+E Q':=aX;refine bF ?_;refine ab (dC rfl rfl ((bq aa aa).trans (show _=((E P':Nat):Int) by omega))) rfl (b7 ?_);refine ab (dC rfl rfl ((bq aa aa).trans (show _=((E P'+E Y':Nat):Int) by omega))) rfl (bc ?_);refine ai rfl (UM (a:=E P') (b:=E P'+E Y') (n:=E X') bT aa aa uK h3) (ve [0,2,4,10,11] ?_);refine bK ?_;refine av ⟨_,aa,P',Y'.drop (E Y'-E X'),Y'.take (E Y'-E X'),X'++Q',⟨aa,aa,aa,aa,by rw[<-h5,<-bX (Y'.take (E Y'-E X')),jd]⟩,rfl,bp,az rfl (by rw[hr]) (.refl _)⟩
 ·have hr:=avN (P:=P') (X:=X') (Y:=Y') (Q:=Q') aa;rw[h1]at hr;refine bO ?_;refine ab (dC rfl rfl ((bq aa aa).trans (show _=((E P':Nat):Int) by omega))) rfl (bE ?_);refine ai rfl (UM (a:=E P') (b:=m) (n:=E X') bT aa aa uK h3) (bE ?_);rw[hr,h5];exact⟨rfl,rfl⟩
section
set_option maxHeartbeats 1000000
theorem Xs{P S Q:bf}{x j:Nat}(h:j+1<=E S):swN (nc P S x Q j) (E P+j) (E P+(j+1))=nc P S x Q (j+1):=by
 have:=UL (P++S.take j) x [] (S.getD j 0) (S.drop (j+1)++Q) (i:=E P+j) (j:=E P+(j+1)) (by rw[aX,eY];omega) (by rw[aX,eY,sY];omega);unfold nc;rw[aY aa 0,dD (l:=S) (k:=j) aa 0];simpa using this
theorem pw{P S Q:bf}{i k:Nat}(h:k<E S)(hi:i=E P+k):(P++(S++Q)).getD i 0=S.getD k 0:=by
 have:=uG (P++S.take k) (S.getD k 0) (S.drop (k+1)++Q);rw[aX,eY,xH aa,<-hi]at this;have e:S=S.take k++(S.getD k 0::S.drop (k+1)):=by rw[<-dD h 0,jd]
 conv=>lhs;rw[e]
 simpa using this
structure Mg(l P U V Q:bf)(a m b n:Nat):Prop where
 ha:E P=a
 hm:a+E U=m
 hb:m+E V=b
 hn:b+E Q=n
 uK:n<=1000000
 hU:0<E U
 hV:0<E V
 sU:uf (oN l) U
 sV:uf (oN l) V
 lt:∀u∈U,∀v∈V,u<v
 nd:(U++V).Nodup
 N:∀x∈U++V,x<E l
theorem P9{S:bf}(hs:uf o S){k w:Nat}(hk:k<E S)(h:o (S.getD k 0)<w):∀y∈S.take (k+1),o y<w:=λy hy=>by
 obtain⟨i,hi,rfl⟩:=ke hy;rw[eY]at hi;rw[FA];rw[ba,fc hk,uX]at h;by_cases e:i=k
 ·subst e;exact h
 ·have:=qK.1 hs i k aa hk aa;unfold uo at this;omega
theorem P7{S:bf}(hs:uf o S){k w:Nat}(hk:k<E S)(h:w<=o (S.getD k 0)):∀y∈S.drop k,w<=o y:=λy hy=>by
 obtain⟨i,hi,rfl⟩:=ke hy;rw[iG]at hi;rw[List.getElem_drop];rw[ba,fc hk,uX]at h;by_cases e:i=0
 ·subst e;exact h
 ·have:=qK.1 hs k (k+i) hk aa aa;unfold uo at this;omega
theorem JF{P S Q T:bf}{x i:Nat}(hs:uf o S)(hn:T.Nodup)(hT:∀y,y∈T↔y=x∨y∈S)(h1:∀y∈S.take i,uo o y x)(h2:∀y∈S.drop i,uo o x y):nc P S x Q i=P++(dc o T++Q):=by
 have:S.take i++x::S.drop i=dc o T:=by
  refine uf.qj (ae2 hs h1 h2) hn λy=>?_;rw[hT,dz,fj];have e:y∈S↔y∈S.take i∨y∈S.drop i:=by
   conv=>lhs;rw[<-jd i S]
   exact dz
  rw[e];constructor
  ·rintro(h|h|h)
   ·exact .inr (.inl h)
   ·exact .inl h
   ·exact .inr (.inr h)
  ·rintro(h|h|h)
   ·exact .inr (.inl h)
   ·exact .inl h
   ·exact .inr (.inr h)
 unfold nc;rw[<-this];simp[bX]
abbrev RB(g:Nat):Value:=.func (.func 315) #[] #[br g]
def Ni(l P U V Q:bf)(A:bk)(n c g:Nat)(Ao:bk)(co:Nat)(F:aR)(r:Value)(L:aR):Prop:=r= .tuple #[]∧L=Sf A n c (P++(dc (oN l) (U++V)++Q)) g Ao (E l) co F
theorem atm(H:IB B w0 F Ao co l){P U V Q:bf}{a m b:Nat}(M:Mg l P U V Q a m b n)(h1:E U=1):
  aZ B w0 345 [.slice A n c,ah a,ah m,ah b,RB g] (Sf A n c (P++(U++(V++Q))) g Ao (E l) co F) (Ni l P U V Q A n c g Ao co F):=by
 unfold Ni;obtain⟨ha,hm,hb,hn,uK,hU,hV,sU,sV,lt,nd,hN⟩:=M;obtain⟨u,rfl⟩:∃u,U=[u]:=by
  match U,h1 with
  |[u],_=>exact⟨u,rfl⟩
 have Av:u<E l:=hN u ak;have hD0:E (P++([u]++(V++Q)))=n:=by simp;omega
 have hgu:(P++([u]++(V++Q))).getD a 0=u:=pw (S:=[u]) (k:=0) ak aa;refine fw func345 220 [0,1,2,3,4] ?_;refine bO ?_;refine aj (λrn=>?_) λrn=>?_
 ·refine ei ?_;refine aD (λzf zL zm=>∃(i j:Nat),(i<=j∧j<=E V∧(∀y∈V.take i,oN l y<oN l u)∧(∀y∈V.drop j,oN l u<=oN l y))∧j-i=zm∧Sub zf [(0,.slice A n c),(1,ah a),(4,RB g),(10,ah (m+i:Nat)),(11,ah (m+j:Nat))]∧Wk zL (Sf A n c (P++([u]++(V++Q))) g Ao (E l) co F)) _ ⟨0,E V,⟨bU _,gC _,ak,by rw[CM];simp⟩,rfl,bp,.refl _⟩ ?_;rintro _ _ _ ⟨i,j,⟨Jv,hj,RR,hhi⟩,rfl,hs,hp⟩;refine aT hs hp (bK ?_);refine aj (λZ3=>?_) λZ3=>?_
  ·obtain⟨h,hh⟩:∃h,m+h=(m+i+(m+j))/2:=⟨(m+i+(m+j))/2-m,aa⟩
   have Xd:h<E V:=by omega
   have hvl:V.getD h 0<E l:=hN _ (om _ (bj Xd 0));refine bI ?_;refine ab (bJ rfl rfl (r:=((m+i+(m+j):Nat):Int)) ((bq aa aa).trans aa)) rfl (aF ?_);refine ab (dv rfl rfl aa (Lx (m+i+(m+j)))) rfl (ab (bm underlying192 underlying3 rfl (r:=((m+h:Nat):Int)) ((bq aa aa).trans aa)) rfl (b7 ?_));refine cE _ ?_;refine ae 0 ?_;refine ae 1 ?_;refine ae 2 ?_;refine aU 3 rfl (aE (i:=m+h) underlying53 ag rfl rfl aa aa aB) ?_;refine aU 4 rfl (au ag rfl aB aa (gv (v:=V.getD h 0) aa (by rw[<-bX];exact pw Xd bT))) ?_;refine ae 5 ?_;refine ae 6 ?_;refine ae 7 ?_;refine aU 8 rfl (au ag rfl aB aa (gv (v:=u) aa hgu)) ?_;refine aA 9 (qp rfl .no Wo rfl rfl (LZ H hvl Av) rfl Sc ?_);rintro _ _ ⟨rfl,cO⟩;obtain rfl:=cO.symm;refine ae 10 ?_;refine cP [0,1,4,10,11,12,50] ?_;refine aF ?_;refine aj (λJp=>?_) λJp=>?_
   ·refine bB ?_;refine av ⟨_,aa,h+1,j,⟨aa,hj,P9 sV Xd (mH.1 Jp),hhi⟩,rfl,bp,.refl _⟩
   ·refine bF ?_;refine av ⟨_,aa,i,h,⟨aa,aa,RR,P7 sV Xd (wY λk=>Jp (mH.2 k))⟩,rfl,bp,.refl _⟩
  ·obtain rfl:i=j:=by omega
   have uJ:nc P V u Q i=P++(dc (oN l) ([u]++V)++Q):=JF sV nd (λy=>ak) (λy hy=>.inl (RR y hy)) (λy hy=>by
    have:=hhi y hy;have:=lt u ak y (r8 hy);unfold uo;omega)
   refine cY ?_;refine aD (λzf zL zm=>∃(d:Nat),(d<=i)∧i-d=zm∧Sub zf [(0,.slice A n c),(10,ah (m+i:Nat)),(13,ah (a+d:Nat))]∧Wk zL (Sf A n c (nc P V u Q d) g Ao (E l) co F)) _ ⟨0,bU _,rfl,bp,az rfl (by simp[nc]) (.refl _)⟩ ?_;rintro _ _ _ ⟨d,hd,rfl,hs,hp⟩;refine aT hs hp (bO ?_);refine aj (λh58=>?_) λh58=>?_
   ·have hdl:=Fo P V u Q (j:=d) aa;simp only[qM]at hm;refine b7 ?_;refine jQ (A:=A) (n:=n) (xs:=bD (nc P V u Q d)) (.head _) aa ?_;intro ad hA;subst hA;refine cE (.bG g 213 [.slice Ao (E l) co]::F) ?_;refine ae 0 ?_;refine ae 1 ?_;refine ae 2 ?_;refine ae 3 ?_;refine ae 4 ?_;refine ae 5 ?_;refine ae 6 ?_;refine ae 7 ?_;refine aU 8 rfl (aO (size:=1) (i:=a+(d+1)) underlying53 ag rfl rfl aa aa) (ae 10 ?_);refine ae 11 ?_;refine aU 12 rfl (aO (size:=1) (i:=a+d) underlying53 ag rfl rfl aa aa) (ib 9 13 ?_ ?_)
    ·refine iL rfl .no (au ag rfl aB aa (fO aa)) rfl gD ?_;refine aA 13 (iL rfl .no (au ag rfl aB aa (fO aa)) rfl gD ?_);refine aU 14 rfl (aO (size:=1) (i:=a+d) underlying53 ag rfl rfl aa aa) (aA 15 (aF ?_));refine aU 16 rfl (aO (size:=1) (i:=a+(d+1)) underlying53 ag rfl rfl aa aa) (aA 17 (aF ?_));refine cP [0,10,13] ?_;refine bI ?_;refine av ⟨_,aa,d+1,aa,rfl,bp,az rfl (by rw[vw,<-ha,Xs aa]) (.refl _)⟩
    ·refine iL rfl .no (au ag rfl aB aa (fO aa)) rfl gD ?_;refine aA 9 (iL rfl .no (au ag rfl aB aa (fO aa)) rfl gD ?_);refine aU 14 rfl (aO (size:=1) (i:=a+d) underlying53 ag rfl rfl aa aa) (aA 15 (aF ?_));refine aU 16 rfl (aO (size:=1) (i:=a+(d+1)) underlying53 ag rfl rfl aa aa) (aA 17 (aF ?_));refine cP [0,10,13] ?_;refine bI ?_;refine av ⟨_,aa,d+1,aa,rfl,bp,az rfl (by rw[vw,<-ha,Xs aa]) (.refl _)⟩
   ·simp only[qM]at hm;obtain rfl:d=i:=by omega
    refine bK ?_;exact⟨rfl,by rw[uJ]⟩
 ·exfalso;(simp only[qM]at hm;omega)
theorem atn(H:IB B w0 F Ao co l){P U V Q:bf}{a m b:Nat}(M:Mg l P U V Q a m b n)(h0:E U≠1)(h1:E V=1):
  aZ B w0 345 [.slice A n c,ah a,ah m,ah b,RB g] (Sf A n c (P++(U++(V++Q))) g Ao (E l) co F) (Ni l P U V Q A n c g Ao co F):=by
 unfold Ni;obtain⟨ha,hm,hb,hn,uK,hU,hV,sU,sV,lt,nd,hN⟩:=M;obtain⟨v,rfl⟩:∃v,V=[v]:=by
  match V,h1 with
  |[v],_=>exact⟨v,rfl⟩
 have hvl:v<E l:=hN v ak;have hD0:E (P++(U++([v]++Q)))=n:=by simp only[aX];omega
 have hgv:(P++(U++([v]++Q))).getD m 0=v:=by rw[<-bX];exact pw (S:=[v]) (k:=0) ak bT
 simp only[qM]at hb;refine fw func345 220 [0,1,2,3,4] ?_;refine bO ?_;refine dw λrn=>?_;refine de ?_;refine Bf λRI=>?_;refine ei ?_;refine aD (λzf zL zm=>∃(i j:Nat),(i<=j∧j<=E U∧(∀y∈U.take i,oN l y<=oN l v)∧(∀y∈U.drop j,oN l v<oN l y))∧j-i=zm∧Sub zf [(0,.slice A n c),(2,ah m),(4,RB g),(14,ah (a+i:Nat)),(15,ah (a+j:Nat))]∧Wk zL (Sf A n c (P++(U++([v]++Q))) g Ao (E l) co F)) _ ⟨0,E U,⟨bU _,gC _,ak,by rw[CM];simp⟩,rfl,bp,.refl _⟩ ?_;rintro _ _ _ ⟨i,j,⟨Jv,hj,RR,hhi⟩,rfl,hs,hp⟩;refine aT hs hp (bK ?_);refine aj (λh85=>?_) λh85=>?_
 ·obtain⟨h,hh⟩:∃h,a+h=(a+i+(a+j))/2:=⟨(a+i+(a+j))/2-a,aa⟩
  have Xd:h<E U:=by omega
  have Av:U.getD h 0<E l:=hN _ (kI _ (bj Xd 0));refine bI ?_;refine ab (bJ rfl rfl (r:=((a+i+(a+j):Nat):Int)) ((bq aa aa).trans aa)) rfl (aF ?_);refine ab (dv rfl rfl aa (Lx (a+i+(a+j)))) rfl (ab (bm underlying192 underlying3 rfl (r:=((a+h:Nat):Int)) ((bq aa aa).trans aa)) rfl (b7 ?_));refine cE _ ?_;refine ae 0 ?_;refine ae 1 ?_;refine ae 2 ?_;refine ae 3 ?_;refine aU 4 rfl (au ag rfl aB aa (gv (v:=v) aa hgv)) ?_;refine ae 5 ?_;refine ae 6 ?_;refine aU 7 rfl (aE (i:=a+h) underlying53 ag rfl rfl aa aa aB) ?_;refine aU 8 rfl (au ag rfl aB aa (gv (v:=U.getD h 0) aa (pw Xd aa))) ?_;refine aA 9 (qp rfl .no Wo rfl rfl (LZ H hvl Av) rfl Sc ?_);rintro _ _ ⟨rfl,cO⟩;obtain rfl:=cO.symm;refine ae 10 ?_;refine ae 11 ?_;refine cP [0,2,4,14,15,16,103] ?_;refine aF ?_;refine aj (λanV=>?_) λanV=>?_
  ·refine bB ?_;refine av ⟨_,aa,h+1,j,⟨aa,hj,λy hy=>Nat.le_of_lt_succ (P9 sU Xd (Nat.lt_succ_of_le (wY λk=>anV (mH.2 k))) y hy),hhi⟩,rfl,bp,.refl _⟩
  ·refine bF ?_;refine av ⟨_,aa,i,h,⟨aa,aa,RR,λy hy=>P7 sU Xd (mH.1 (jN.1 anV)) y hy⟩,rfl,bp,.refl _⟩
 ·obtain rfl:i=j:=by omega
  have uJ:nc P U v Q i=P++(dc (oN l) (U++[v])++Q):=JF sU nd (λy=>by simp[or_comm]) (λy hy=>by
   have:=RR y hy;have:=lt y (my hy) v ak;unfold uo;omega) (λy hy=>.inl (hhi y hy))
  refine cY ?_;refine aD (λzf zL zm=>∃(d:Nat),(i<=d∧d<=E U)∧d=zm∧Sub zf [(0,.slice A n c),(14,ah (a+i:Nat)),(17,ah (a+d:Nat))]∧Wk zL (Sf A n c (nc P U v Q d) g Ao (E l) co F)) _ ⟨E U,⟨hj,gC _⟩,rfl,bp,az rfl (by simp[nc]) (.refl _)⟩ ?_;rintro _ _ _ ⟨d,⟨hd1,hd2⟩,rfl,hs,hp⟩;refine aT hs hp (bK ?_);refine aj (λaul=>?_) λaul=>?_
  ·obtain⟨d,rfl⟩:∃d',d=d'+1:=⟨d-1,aa⟩
   have hdl:=Fo P U v Q (j:=d+1) aa;refine b7 ?_;refine jQ (A:=A) (n:=n) (xs:=bD (nc P U v Q (d+1))) (.head _) aa ?_;intro ad hA;subst hA;refine cE (.bG g 213 [.slice Ao (E l) co]::F) ?_;refine ae 0 ?_;refine ae 1 ?_;refine ae 2 ?_;refine ae 3 ?_;refine ae 4 ?_;refine ae 5 ?_;refine ae 6 ?_;refine ae 7 ?_;refine aU 8 rfl (aO (size:=1) (i:=a+d) underlying53 ag rfl rfl aa aa) (ae 10 ?_);refine ae 11 ?_;refine aU 12 rfl (aO (size:=1) (i:=a+(d+1)) underlying53 ag rfl rfl aa aa) (ib 9 13 ?_ ?_)
   ·refine iL rfl .no (au ag rfl aB aa (fO aa)) rfl gD ?_;refine aA 13 (iL rfl .no (au ag rfl aB aa (fO aa)) rfl gD ?_);refine aU 14 rfl (aO (size:=1) (i:=a+(d+1)) underlying53 ag rfl rfl aa aa) (aA 15 (aF ?_));refine aU 16 rfl (aO (size:=1) (i:=a+d) underlying53 ag rfl rfl aa aa) (aA 17 (aF ?_));refine cP [0,14,17] ?_;refine bI ?_;refine av ⟨_,aa,d,⟨aa,aa⟩,rfl,bp,az rfl air (.refl _)⟩
   ·refine iL rfl .no (au ag rfl aB aa (fO aa)) rfl gD ?_;refine aA 9 (iL rfl .no (au ag rfl aB aa (fO aa)) rfl gD ?_);refine aU 14 rfl (aO (size:=1) (i:=a+(d+1)) underlying53 ag rfl rfl aa aa) (aA 15 (aF ?_));refine aU 16 rfl (aO (size:=1) (i:=a+d) underlying53 ag rfl rfl aa aa) (aA 17 (aF ?_));refine cP [0,14,17] ?_;refine bI ?_;refine av ⟨_,aa,d,⟨aa,aa⟩,rfl,bp,az rfl air (.refl _)⟩
  ·obtain rfl:d=i:=by omega
   refine bK ?_;exact⟨rfl,by rw[uJ]⟩
end
section
set_option maxHeartbeats 1000000
theorem anN{S:bf}(hs:uf o S){k:Nat}(hk:k<E S):∀y∈S.drop k,y=S.getD k 0∨uo o (S.getD k 0) y:=λy hy=>by
 rw[dD hk 0]at hy;rcases fj.1 hy with e|e
 ·exact .inl e
 ·refine .inr ?_;obtain⟨i,hi,rfl⟩:=ke e;rw[iG]at hi;rw[List.getElem_drop,ba,fc hk,uX];exact qK.1 hs k (k+1+i) hk aa aa
theorem amb{S T:bf}(hS:uf o S)(hT:uf o T){i j:Nat}(hi:i<E S)(h:j<E T->uo o (S.getD i 0) (T.getD j 0)):∀x∈S.take (i+1),∀y∈T.drop j,uo o x y:=λx hx y hy=>by
 by_cases hj:j<E T
 ·have h1:=Ym hS hi (h hj) x hx;rcases anN hT hj y hy with e|e
  ·rw[e];exact h1
  ·exact sc h1 e
 ·rw[mU aa]at hy;cases hy
theorem aft{U V:bf}{a m b lo hi s m_:Nat}(sU:uf o U)(sV:uf o V)(hm:a+E U=m)(hb:m+E V=b)(k1:a<=lo)(k2:lo<=s)(k3:s<=hi)(k4:hi<=m)(k5:hi<=m_)(k6:m_+m<=b+lo)(k7:lo=a∨m_+m=b+lo)(k8:hi=m∨hi=m_)(lK:s=lo∨uo o (U.getD (s-1-a) 0) (V.getD (m_+m-s-m) 0))(j_:s=hi∨uo o (V.getD (m_+m-1-s-m) 0) (U.getD (s-a) 0)):
  ∃U1 U2 V1 V2,U=U1++U2∧V=V1++V2∧a+E U1=s∧s+E V1=m_∧∀x∈U1++V1,∀y∈U2++V2,uo o x y:=by
 refine⟨U.take (s-a),U.drop (s-a),V.take (m_-s),V.drop (m_-s),(jd _ _).symm,(jd _ _).symm,nf,nf,λx hx y hy=>?_⟩;have hUU:∀x∈U.take (s-a),∀y∈U.drop (s-a),uo o x y:=by
  have:=sU;rw[<-jd (s-a) U]at this;exact(tK.1 this).2.2
 have hVV:∀x∈V.take (m_-s),∀y∈V.drop (m_-s),uo o x y:=by
  have:=sV;rw[<-jd (m_-s) V]at this;exact(tK.1 this).2.2
 rcases dz.1 hx with hx|hx
 ·rcases dz.1 hy with hy|hy
  ·exact hUU x hx y hy
  ·by_cases e:s=a
   ·rw[e,oj]at hx;simp at hx
   ·by_cases e2:m_-s<E V
    ·rcases lK with h|h
     ·omega
     ·rw[show m_+m-s-m=m_-s by omega]at h;have:=amb sU sV (i:=s-1-a) (j:=m_-s) aa (λ_=>h);rw[show s-1-a+1=s-a by omega]at this;exact this x hx y hy
    ·rw[mU aa]at hy;cases hy
 ·rcases dz.1 hy with hy|hy
  ·by_cases e:s=m_
   ·rw[e,oj]at hx;simp at hx
   ·by_cases e2:s-a<E U
    ·rcases j_ with h|h
     ·omega
     ·rw[show m_+m-1-s-m=m_-s-1 by omega]at h;have:=amb sV sU (i:=m_-s-1) (j:=s-a) aa (λ_=>h);rw[show m_-s-1+1=m_-s by omega]at this;exact this x hx y hy
    ·rw[mU aa]at hy;cases hy
  ·exact hVV x hx y hy
theorem asT{U1 U2 V1 V2:bf}{x:Nat}:(x∈U1++V1->x∈(U1++U2)++(V1++V2))∧(x∈U2++V2->x∈(U1++U2)++(V1++V2)):=by
 simp only[dz];constructor
 ·rintro(h|h)
  ·exact .inl (.inl h)
  ·exact .inr (.inl h)
 ·rintro(h|h)
  ·exact .inl (.inr h)
  ·exact .inr (.inr h)
theorem nd4{U1 U2 V1 V2:bf}(h:((U1++U2)++(V1++V2)).Nodup):(U1++V1).Nodup∧(U2++V2).Nodup:=
 ⟨h.sublist (List.Sublist.append (wD U1 U2) (wD V1 V2)),h.sublist (List.Sublist.append (gL U1 U2) (gL V1 V2))⟩
theorem CT{U V:bf}(sU:uf o U)(sV:uf o V)(nd:(U++V).Nodup)(h:U=[]∨V=[]):dc o (U++V)=U++V:=by
 rcases h with h|h
 ·subst h;exact QJ sV nd
 ·subst h;rw[gl]at nd⊢;exact QJ sU nd
theorem agZ(H:IB B w0 F Ao co l){sz:Nat}(ih:∀{P U V Q:bf} {a m b:Nat},E U+E V<=sz->Mg l P U V Q a m b n->
  aZ B w0 345 [.slice A n c,ah a,ah m,ah b,RB g] (Sf A n c (P++(U++(V++Q))) g Ao (E l) co F) (Ni l P U V Q A n c g Ao co F)){P U V Q:bf}{a m b:Nat}(jg:E U+E V<=sz+1)(M:Mg l P U V Q a m b n)(hU1:¬E U=1)(hV1:¬E V=1):
  aZ B w0 345 [.slice A n c,ah a,ah m,ah b,RB g] (Sf A n c (P++(U++(V++Q))) g Ao (E l) co F) (Ni l P U V Q A n c g Ao co F):=by
 unfold Ni at ih⊢;obtain⟨ha,hm,hb,hn,uK,hU,hV,sU,sV,lt,nd,hN⟩:=M;obtain⟨m_,H'⟩:=cK ((a+b)/2);have hD0:E (P++(U++(V++Q)))=n:=by simp only[aX];omega
 refine fw func345 220 [0,1,2,3,4] ?_;refine bO ?_;refine dw λrn=>?_;refine de ?_;refine dw λRI=>?_;refine bB ?_;refine ab (bJ rfl rfl (r:=((a+b:Nat):Int)) ((bq aa aa).trans aa)) rfl (aF ?_);refine ab (dv rfl rfl aa (Lx (a+b))) rfl (ab (bm underlying192 underlying3 rfl (r:=(m_:Int)) ((bq aa aa).trans aa)) rfl (bO ?_));refine ve [0,1,2,3,4,18,19] ?_;refine bI ?_;refine dY (λzf zL=>∃(lo hi:Nat),(a<=lo∧lo<=hi∧hi<=m∧hi<=m_∧m_+m<=b+lo∧(lo=a∨m_+m=b+lo)∧(hi=m∨hi=m_))∧Sub zf [(0,.slice A n c),(1,ah a),(2,ah m),(3,ah b),(4,RB g),(18,ah m_),(19,ah (m_+m:Nat)),(20,ah lo),(21,ah hi)]∧Wk zL (Sf A n c (P++(U++(V++Q))) g Ao (E l) co F)) ?_ ?_
 ·refine bI ?_;refine aj (λaun=>?_) λaun=>?_
  ·refine cF ?_;exact bC ⟨m_+m-b,m_,⟨aa,aa,aa,aa,aa,aa,aa⟩,bp,.refl _⟩
  ·refine bz ?_;exact bC ⟨a,m,⟨aa,aa,aa,aa,aa,aa,aa⟩,bp,.refl _⟩
 ·rintro _ _ ⟨lo,hi,⟨k1,k2,k4,k5,k6,k7,k8⟩,hs,hp⟩;refine aT hs hp (bO ?_);refine aD (λzf zL zm=>∃(s r:Nat),(lo<=s∧s<=r∧r<=hi∧(s=lo∨uo (oN l) (U.getD (s-1-a) 0) (V.getD (m_+m-s-m) 0))∧(r=hi∨uo (oN l) (V.getD (m_+m-1-r-m) 0) (U.getD (r-a) 0)))∧r-s=zm∧Sub zf [(0,.slice A n c),(1,ah a),(2,ah m),(3,ah b),(4,RB g),(18,ah m_),(19,ah (m_+m:Nat)),(20,ah s),(21,ah r),(22,ah (m_+m-1:Nat))]∧Wk zL (Sf A n c (P++(U++(V++Q))) g Ao (E l) co F)) _ ⟨lo,hi,⟨gC _,k2,gC _,.inl rfl,.inl rfl⟩,rfl,bp,.refl _⟩ ?_;rintro _ _ _ ⟨s,r,⟨g1,g2,g3,lK,j_⟩,rfl,hs,hp⟩;refine aT hs hp (bK ?_);refine aj (λauo=>?_) λauo=>?_
  ·obtain⟨h,hh⟩:=cK ((s+r)/2);have hhu:h-a<E U:=by omega
   have hhv:m_+m-1-h-m<E V:=by omega
   have hum:U.getD (h-a) 0∈U:=bj hhu 0;have hvm:V.getD (m_+m-1-h-m) 0∈V:=bj hhv 0;have huv:=lt _ hum _ hvm;have Av:=hN _ (kI _ hum);have hvl:=hN _ (om _ hvm);refine bI ?_;refine ab (bJ rfl rfl (r:=((s+r:Nat):Int)) ((bq aa aa).trans aa)) rfl (aF ?_);refine ab (dv rfl rfl aa (Lx (s+r))) rfl (ab (bm underlying192 underlying3 rfl (r:=(h:Int)) ((bq aa aa).trans aa)) rfl (b7 ?_));refine cE _ ?_;refine ae 0 ?_;refine ae 1 ?_;refine ae 2 ?_;refine ae 3 ?_;refine ae 4 ?_;refine aU 5 rfl (aE (i:=m_+m-1-h) underlying53 ag rfl rfl aa aa aB) ?_;refine aU 6 rfl (au ag rfl aB aa (gv (v:=V.getD (m_+m-1-h-m) 0) aa (by rw[<-bX];exact pw hhv rG))) ?_;refine ae 7 ?_;refine ae 8 ?_;refine ae 9 ?_;refine aU 10 rfl (au ag rfl aB aa (gv (v:=U.getD (h-a) 0) aa (pw hhu aa))) ?_;refine aA 11 (qp rfl .no Wo rfl rfl (LZ H hvl Av) rfl Sc ?_);rintro _ _ ⟨rfl,cO⟩;obtain rfl:=cO.symm;refine ae 12 ?_;refine ae 13 ?_;refine cP [0,1,2,3,4,18,19,20,21,22,23,171] ?_;refine aF ?_;refine aj (λanY=>?_) λanY=>?_
   ·refine bB ?_;refine av ⟨_,aa,h+1,r,⟨aa,aa,g3,.inr (by
     rw[show h+1-1-a=h-a by omega,show m_+m-(h+1)-m=m_+m-1-h-m by omega];have:¬oN l (V.getD (m_+m-1-h-m) 0)<oN l (U.getD (h-a) 0):=λk=>anY (mH.2 k);unfold uo;omega),j_⟩,rfl,bp,.refl _⟩
   ·refine bF ?_;refine av ⟨_,aa,s,h,⟨g1,aa,aa,lK,.inr (.inl (mH.1 (jN.1 anY)))⟩,rfl,bp,.refl _⟩
  ·obtain rfl:s=r:=by omega
   obtain⟨U1,U2,V1,V2,rfl,rfl,q1,q2,fN⟩:=aft sU sV hm hb k1 g1 g3 k4 k5 k6 k7 k8 lK j_;simp only[aX]at hm hb jg hU hV;obtain⟨nd1,nd2⟩:=nd4 nd;have sU1:uf (oN l) U1:=sU.sublist (wD U1 U2);have sU2:uf (oN l) U2:=sU.sublist (gL U1 U2);have sV1:uf (oN l) V1:=sV.sublist (wD V1 V2);have sV2:uf (oN l) V2:=sV.sublist (gL V1 V2);have uJ:=an1 (o:=oN l) nd fN;have aww:E (dc (oN l) (U1++V1))=E U1+E V1:=by rw[ij,aX]
   refine bO ?_;refine ab (dC rfl rfl ((bq aa aa).trans (show _=((m_+m-s:Nat):Int) by omega))) rfl (bE ?_);refine dY (λzf zL=>Sub zf [(0,.slice A n c),(1,ah a),(3,ah b),(4,RB g),(18,ah m_),(20,ah s),(24,ah (m_+m-s:Nat))]∧Wk zL (Sf A n c (P++(U1++(V1++(U2++(V2++Q))))) g Ao (E l) co F)) ?_ ?_
   ·refine bc ?_;refine bR 8 185 [0,1,2,3,4,18,20,24] (s<m∧m<m_+m-s) ?_ ?_
    ·refine b7 ?_;refine cD (λaus=>?_) λaus=>?_
     ·refine bB ?_;exact aL pM
     ·refine bE ?_;exact aL xh
    ·refine bc ?_;refine aj (λaut=>?_) λaut=>?_
     ·have LB:P++((U1++U2)++((V1++V2)++Q))=(P++U1)++(U2++(V1++(V2++Q))):=by simp[bX]
      rw[LB];refine bB ?_;refine ai rfl (agp (P:=P++U1) (X:=U2) (Y:=V1) (Q:=V2++Q) (a:=s) (m:=m) (b:=m_+m-s) rG aa aa rG uK aa aa) (aF ?_);exact bC ⟨bp,az rfl (by simp[bX]) (.refl _)⟩
     ·have LB:P++((U1++U2)++((V1++V2)++Q))=P++(U1++(V1++(U2++(V2++Q)))):=by
       by_cases e:E U2=0
       ·rw[mS e];simp[bX]
       ·rw[mS (show E V1=0 by omega)];simp[bX]
      refine aF ?_;exact bC ⟨bp,az rfl (by rw[LB]) (.refl _)⟩
   ·rintro _ _ ⟨hs,hp⟩;refine aT hs hp (dY (λzf zL=>Sub zf [(0,.slice A n c),(3,ah b),(4,RB g),(18,ah m_),(24,ah (m_+m-s:Nat))]∧Wk zL (Sf A n c ((P++dc (oN l) (U1++V1))++(U2++(V2++Q))) g Ao (E l) co F)) ?_ ?_)
    ·refine bc ?_;refine bR 8 199 [0,1,3,4,18,20,24] (a<s∧s<m_) ?_ ?_
     ·refine b7 ?_;refine cD (λauu=>?_) λauu=>?_
      ·refine bB ?_;exact aL pM
      ·refine bE ?_;exact aL xh
     ·refine bc ?_;refine aj (λauv=>?_) λauv=>?_
      ·refine bB ?_;refine ai rfl (ih (P:=P) (U:=U1) (V:=V1) (Q:=U2++(V2++Q)) (a:=a) (m:=s) (b:=m_) aa ⟨ha,q1,q2,by rw[aX,aX];omega,uK,aa,aa,sU1,sV1,λu hu v hv=>lt u (kI _ hu) v (kI _ hv),nd1,λx hx=>hN x (asT.1 hx)⟩) (aF ?_);exact bC ⟨bp,az rfl (by simp[bX]) (.refl _)⟩
      ·have aor:=CT sU1 sV1 nd1 (by
        by_cases e:E U1=0
        ·exact .inl (mS e)
        ·exact .inr (mS aa))
       refine aF ?_;exact bC ⟨bp,az rfl (by rw[aor];simp[bX]) (.refl _)⟩
    ·rintro _ _ ⟨hs,hp⟩;refine aT hs hp (bc ?_);refine bR 8 213 [0,3,4,18,24] (m_<m_+m-s∧m_+m-s<b) ?_ ?_
     ·refine b7 ?_;refine cD (λauw=>?_) λauw=>?_
      ·refine bB ?_;exact aL pM
      ·refine bE ?_;exact aL xh
     ·refine bc ?_;refine aj (λauy=>?_) λauy=>?_
      ·refine bB ?_;refine ai rfl (ih (P:=P++dc (oN l) (U1++V1)) (U:=U2) (V:=V2) (Q:=Q) (a:=m_) (m:=m_+m-s) (b:=b) aa ⟨rG,aa,aa,hn,uK,aa,aa,sU2,sV2,λu hu v hv=>lt u (om _ hu) v (om _ hv),nd2,λx hx=>hN x (asT.2 hx)⟩) (bc ?_);refine aq (L':=Sf A n c (P++(dc (oN l) ((U1++U2)++(V1++V2))++Q)) g Ao (E l) co F) (az rfl (by rw[<-uJ];simp[bX]) (.refl _)) (aF ?_);exact⟨rfl,rfl⟩
      ·have avj:=CT sU2 sV2 nd2 (by
        by_cases e:E U2=0
        ·exact .inl (mS e)
        ·exact .inr (mS aa))
       refine bc ?_;refine aq (L':=Sf A n c (P++(dc (oN l) ((U1++U2)++(V1++V2))++Q)) g Ao (E l) co F) (az rfl (by rw[<-uJ,avj];simp[bX]) (.refl _)) (aF ?_);exact⟨rfl,rfl⟩
theorem agY(H:IB B w0 F Ao co l):∀(sz:Nat) {P U V Q:bf} {a m b:Nat},E U+E V<=sz->Mg l P U V Q a m b n->
  aZ B w0 345 [.slice A n c,ah a,ah m,ah b,RB g] (Sf A n c (P++(U++(V++Q))) g Ao (E l) co F) (Ni l P U V Q A n c g Ao co F)
 |0,P,U,V,Q,a,m,b,jg,M=>by have:=M.hU;omega
 |sz+1,P,U,V,Q,a,m,b,jg,M=>by
  by_cases hU1:E U=1
  ·exact atm H M hU1
  ·by_cases hV1:E V=1
   ·exact atn H M hU1 hV1
   ·exact agZ H (agY H sz) jg M hU1 hV1
theorem amt{X c1 c2 Q:bf}{a m b:Nat}(hr:Ri (c1++c2))(hN:∀x∈c1++c2,x<E l)(ha:E X=a)(hm:a+E c1=m)(hb:m+E c2=b)(hn:b+E Q=n)(uK:n<=1000000)(h1:0<E c1)(h2:0<E c2):
  Mg l X (dc (oN l) c1) (dc (oN l) c2) Q a m b n:=by
 obtain⟨r1,r2,r3⟩:=tK.1 hr;exact⟨ha,by rw[ij];exact hm,by rw[ij];exact hb,hn,uK,by rw[ij];exact h1,by rw[ij];exact h2,l0 _ (Ri.nd r1),l0 _ (Ri.nd r2),λu hu v hv=>r3 u (ga.1 hu) v (ga.1 hv),
  ((List.Perm.append (gO _ c1) (gO _ c2)).nodup_iff).2 hr.nd,λx hx=>hN x ((dz.1 hx).elim (λh=>kI _ (ga.1 h)) (λh=>om _ (ga.1 h)))⟩
theorem agP(H:IB B w0 F Ao co l){R:bf}(hn:E R=n)(uK:n<=1000000)(hr:Ri R)(hN:∀x∈R,x<E l):
  aZ B w0 335 [.slice A n c,ah n,RB g] (Sf A n c R g Ao (E l) co F) (λr L=>r= .tuple #[]∧L=Sf A n c (dc (oN l) R) g Ao (E l) co F):=by
 refine fw func335 63 [0,1,2] ?_;refine ei ?_;refine aD (λzf zL zm=>∃(X R':bf),(E X+E R'=n∧X++xi (oN l) 20 R'=xi (oN l) 20 R∧Ri R'∧∀x∈R',x<E l)∧E R'=zm∧Sub zf [(0,.slice A n c),(1,ah n),(2,RB g),(6,ah 20),(7,ah (E X)),(8,ah (E X+20:Nat))]∧Wk zL (Sf A n c (X++R') g Ao (E l) co F)) _ ⟨[],R,⟨by simp;exact hn,rfl,hr,hN⟩,rfl,bp,.refl _⟩ ?_;rintro _ _ _ ⟨X,R',⟨hX,hXe,hr',hN'⟩,rfl,hs,hp⟩;refine aT hs hp (bK ?_);refine aj (λnj=>?_) λnj=>?_
 ·have tT:E (R'.take 20)=20:=by rw[eY];omega
  have rR:E (R'.drop 20)=E R'-20:=iG;have LB:X++R'=X++(R'.take 20++R'.drop 20):=by rw[jd]
  have di:=rH (o:=oN l) (bs:=20) (R:=R') aa aa;have oC:E (X++dc (oN l) (R'.take 20))=E X+20:=by rw[aX,ij,tT]
  rw[LB];refine bO ?_;refine ai rfl (Ph H (P:=X) (R:=R'.take 20) (Q:=R'.drop 20) (a:=E X) (b:=E X+20) rfl aa aa uK (hr'.sublist (wZ 20 R')) (λx hx=>hN' x (my hx))) (jt ?_);refine av ⟨_,aa,X++dc (oN l) (R'.take 20),R'.drop 20,⟨aa,by rw[bX,<-di,hXe],hr'.sublist (List.drop_sublist 20 R'),λx hx=>hN' x (r8 hx)⟩,rfl,bp,az rfl (by rw[bX]) (.refl _)⟩
 ·have LB:X++R'=X++(R'++[]):=by rw[gl]
  rw[LB];have M3:=nB (o:=oN l) (bs:=20) (R:=R') aa;rw[M3]at hXe;refine de ?_;refine ai rfl (Ph H (P:=X) (R:=R') (Q:=[]) (a:=E X) (b:=n) rfl aa ak uK hr' hN') (bE ?_);refine aD (λzf zL zm=>∃(bs:Nat),(1<=bs∧bs<=2000020)∧n-bs=zm∧Sub zf [(0,.slice A n c),(1,ah n),(2,RB g),(6,ah bs)]∧Wk zL (Sf A n c (xi (oN l) bs R) g Ao (E l) co F)) _ ⟨20,⟨aa,aa⟩,rfl,bp,az rfl (by rw[gl,hXe]) (.refl _)⟩ ?_;rintro _ _ _ ⟨bs,⟨qJ,pB⟩,rfl,hs,hp⟩;refine aT hs hp (bK ?_);refine aj (λz_=>?_) λz_=>?_
  ·have h00:E ([]:bf)=0:=rfl;refine cY ?_;refine aD (λzf zL zm=>∃(X R':bf),(E X+E R'=n∧X++xi (oN l) (2*bs) R'=xi (oN l) (2*bs) R∧Ri R'∧∀x∈R',x<E l)∧E R'=zm∧Sub zf [(0,.slice A n c),(1,ah n),(2,RB g),(6,ah bs),(7,ah (E X)),(8,ah (E X+2*bs:Nat))]∧Wk zL (Sf A n c (X++xi (oN l) bs R') g Ao (E l) co F)) _ ⟨[],R,⟨by simp;exact hn,rfl,hr,hN⟩,rfl,bp,.refl _⟩ ?_;rintro _ _ _ ⟨X,R',⟨hX2,ajv,wU,hN2⟩,rfl,hs,hp⟩;refine aT hs hp (bK ?_);refine aj (λuI=>?_) λuI=>?_
   ·have tT:E (R'.take bs)=bs:=by rw[eY];omega
    have rR:E (R'.drop bs)=E R'-bs:=iG;have M4:E ((R'.drop bs).take bs)=bs:=by rw[eY];omega
    have hl4:E ((R'.drop bs).drop bs)=E R'-bs-bs:=by rw[iG];omega
    have an2:=rH (o:=oN l) (bs:=bs) (R:=R') qJ aa;have an3:=rH (o:=oN l) (bs:=bs) (R:=R'.drop bs) qJ aa;have auG:=rH (o:=oN l) (bs:=2*bs) (R:=R') aa aa;have Td:R'.take bs++(R'.drop bs).take bs=R'.take (2*bs):=by rw[show 2*bs=bs+bs by omega,List.take_add]
    have hdd:(R'.drop bs).drop bs=R'.drop (2*bs):=by rw[oi];congr 1;omega
    have di:=acT (oN l) bs ((R'.drop bs).drop bs);have hri:Ri (R'.take bs++(R'.drop bs).take bs):=by rw[Td];exact wU.sublist (wZ _ _)
    have hsa:=QK (o:=oN l) hri.nd;have oC:E (X++dc (oN l) (R'.take bs++(R'.drop bs).take bs))=E X+2*bs:=by rw[aX,ij,aX];omega
    rw[an2,an3];refine cF ?_;refine ai rfl (agY H _ (P:=X) (Q:=xi (oN l) bs ((R'.drop bs).drop bs)) (a:=E X) (m:=E X+bs) (b:=E X+2*bs) (gC _) (amt hri (λx hx=>hN2 x (by rw[Td]at hx;exact my hx)) rfl aa aa aa uK aa aa)) (ei ?_);refine ve [0,1,2,6,7,8] ?_;refine aF ?_;refine av ⟨_,aa,X++dc (oN l) (R'.take bs++(R'.drop bs).take bs),(R'.drop bs).drop bs,⟨aa,by rw[bX,Td,hdd,<-auG,ajv],by rw[hdd];exact wU.sublist (List.drop_sublist _ _),λx hx=>hN2 x (r8 (r8 hx))⟩,rfl,bp,az rfl (by rw[hsa,bX]) (.refl _)⟩
   ·have rR:E (R'.drop bs)=E R'-bs:=iG;have auK:=nB (o:=oN l) (bs:=2*bs) (R:=R') aa;rw[auK]at ajv;refine H5 ?_;refine aj (λh54=>?_) λh54=>?_
    ·have tT:E (R'.take bs)=bs:=by rw[eY];omega
     have an2:=rH (o:=oN l) (bs:=bs) (R:=R') qJ aa;have an3:=nB (o:=oN l) (bs:=bs) (R:=R'.drop bs) aa;have Td:R'.take bs++R'.drop bs=R':=jd _ _;have hri:Ri (R'.take bs++R'.drop bs):=by rw[Td];exact wU
     have hsa:=QK (o:=oN l) hri.nd;have LB:X++(dc (oN l) (R'.take bs)++dc (oN l) (R'.drop bs))=X++(dc (oN l) (R'.take bs)++(dc (oN l) (R'.drop bs)++[])):=by rw[gl]
     rw[an2,an3,LB];refine bB ?_;refine ai rfl (agY H _ (P:=X) (Q:=[]) (a:=E X) (m:=E X+bs) (b:=n) (gC _) (amt hri (λx hx=>hN2 x (by rw[Td]at hx;exact hx)) rfl aa aa ak uK aa aa)) (ve [0,1,2,6] ?_);refine bI ?_;refine av ⟨_,aa,2*bs,⟨aa,aa⟩,rfl,bp,az rfl (by rw[hsa,gl,Td,ajv]) (.refl _)⟩
    ·have auJ:=nB (o:=oN l) (bs:=bs) (R:=R') aa;refine bK ?_;refine av ⟨_,aa,2*bs,⟨aa,aa⟩,rfl,bp,az rfl (by rw[auJ,ajv]) (.refl _)⟩
  ·have uJ:=nB (o:=oN l) (bs:=bs) (R:=R) aa;rw[uJ];refine bB ?_;exact⟨rfl,rfl⟩
theorem agL(H:IB B w0 F Ao co l){R:bf}(hn:E R=n)(uK:n<=1000000)(hr:Ri R)(hN:∀x∈R,x<E l):
  aZ B w0 314 [.slice A n c,RB g] (Sf A n c R g Ao (E l) co F) (λr L=>r= .tuple #[]∧L=Sf A n c (dc (oN l) R) g Ao (E l) co F):=by
 refine fw func314 9 [0,1] ?_;refine bF ?_;refine ai rfl (agP H hn uK hr hN) (bE ?_);exact⟨rfl,rfl⟩
end
theorem acE{P:Prop}(h:P:=by(rw[<-mc,bX];rfl)):P:=h
theorem acJ{P:Prop}(h:P:=by(rw[Fs];rfl)):P:=h
theorem aqr{P:Prop}(h:P:=by(first|exact λh=>absurd h.1 (by omega)|exact⟨λh=>⟨by omega,by omega⟩,λh=>by have:=h.2;omega⟩)):P:=h
theorem Vi(o:Nat->Nat)(k:Nat):m8 o (k+1)=m8 o k++if 0<o k then [k] else []:=by
 unfold m8;rw[lT,Fy];congr 1;rw[uQ,List.filter_nil];by_cases h:0<o k
 ·rw[ao h,ao ng]
 ·rw[aw h,aw ng]
theorem Ro(o:Nat->Nat)(k:Nat):E (m8 o k)<=k:=jz (zb _ _) ak
theorem ahO(o:Nat->Nat)(k:Nat):Ri (m8 o k):=List.Pairwise.sublist List.filter_sublist List.pairwise_lt_range
theorem ahN{o:Nat->Nat}{k x:Nat}(h:x∈m8 o k):x<k:=pj.1 (CE.1 h).1
theorem apQ(H:IB B w0 F Ao co l)(hl:E l<=300):
  aZ B w0 283 [.slice Ao (E l) co] F (λr L=>∃A' c',r= .slice A' (E (dE (oN l) (E l))) c'∧L= .own 3 1 A' (E (dE (oN l) (E l))) c' (bD (dE (oN l) (E l)))::F):=by
 have hbo:=H.yw;refine fw func283 24 [0] ?_;refine bc ?_;refine bg λg1=>?_;refine b7 ?_;refine a_ 3 1 none (cY ?_);refine aD (λzf zL zm=>∃(k:Nat) (A3:bk) (c3:Nat),(k<=E l)∧E l-k=zm∧Sub zf [(1,br g1),(3,.slice A3 (E (m8 (oN l) k)) c3),(6,.slice Ao (E l) co),(7,ah (E l)),(8,ah k)]∧Wk zL (Sf A3 (E (m8 (oN l) k)) c3 (m8 (oN l) k) g1 Ao (E l) co F)) _ ⟨0,none,0,bU _,rfl,bp,.refl _⟩ ?_;rintro _ _ _ ⟨k,A3,c3,hk,rfl,hs,hp⟩;refine aT hs hp (bB ?_);refine aj (λh9=>?_) λh9=>?_
 ·have hus:=Vi (oN l) k;have Av:=Ro (oN l) k;refine bK ?_;refine ab (au ag rfl aB aa (G4 aa)) rfl (bz ?_);refine aj (λku=>?_) λku=>?_
  ·rw[ao (show 0<l.getD k 0 by omega)]at hus;have xB:E (m8 (oN l) (k+1))=E (m8 (oN l) k)+1:=by rw[hus];simp
   refine bE ?_;refine dL fT rfl rfl rfl rfl rfl (λ_=>rfl) aW aa aa ?_;intro _ tP vH;refine bK ?_;refine av ⟨_,aa,k+1,tP,vH,aa,rfl,bp,az aa (by rw[hus];simp[bD]) (.refl _)⟩
  ·rw[aw (show¬0<l.getD k 0 by omega),gl]at hus;have xB:E (m8 (oN l) (k+1))=E (m8 (oN l) k):=by rw[hus]
   refine bI ?_;refine av ⟨_,aa,k+1,A3,c3,aa,rfl,bp,az (by rw[hus]) (by rw[hus]) (.refl _)⟩
 ·obtain rfl:k=E l:=by omega
  have Av:=Ro (oN l) (E l);have oC:E (dE (oN l) (E l))=E (m8 (oN l) (E l)):=ij _ _;refine bO ?_;refine ai rfl (agL H rfl aa (ahO _ _) (λx hx=>ahN hx)) (bO ?_);refine aq (L':=.own 3 1 A3 (E (dE (oN l) (E l))) c3 (bD (dE (oN l) (E l)))::F) (.trans (az oC.symm rfl (.refl _)) ((eu (.skip (.refl _))))) (aF ?_);exact⟨A3,c3,by rw[oC],rfl⟩
def tI(x:cA):cZ:=[.int .u64 (x.1:Int),.bool x.2]
def dp(L:List cA):cZ:=L.flatMap tI
theorem TI(L:List cA):E (dp L)=E L*2:=by
 unfold dp;rw[List.length_flatMap];induction L with
 |nil=>rfl
 |cons x r ih=>rw[kh,JL,ih,dI];simp[tI];omega
theorem Fs(L M:List cA):dp (L++M)=dp L++dp M:=by simp[dp]
theorem p9:∀(L:List cA) (k:Nat),(dp L).take (k*2)=dp (L.take k)∧(dp L).drop (k*2)=dp (L.drop k)
 |L,0=>by simp[dp]
 |[],k+1=>by simp[dp]
 |x::r,k+1=>by
  obtain⟨h1,h2⟩:=p9 r k;have e:dp (x::r)=tI x++dp r:=by simp[dp]
  rw[e,kH,zn (k*2) 2];constructor
  ·rw[PG,fC (by simp[tI]),show 2+k*2-E (tI x)=k*2 by simp[tI],h1];simp[dp]
  ·rw[List.drop_append,mU (by simp[tI]),show 2+k*2-E (tI x)=k*2 by simp[tI],h2];simp
theorem y'{L:List cA}{k:Nat}(h:k<E L):((dp L).drop (k*2)).take 2=[.int .u64 ((L.getD k (0,false)).1:Int),.bool (L.getD k (0,false)).2]:=by
 rw[(p9 L k).2,dD h (0,false)];simp[dp,tI]
theorem Bs{L:List cA}{k:Nat}(h:k<E L):(dp L)[k*2+0]? =some (.int .u64 ((L.getD k (0,false)).1:Int)):=tj (y' h) 0 _ rfl
theorem aaw{L:List cA}{k:Nat}(h:k<E L)(x:cA):(dp L).take (k*2)++tI x++(dp L).drop (k*2+2)=dp (L.set k x):=by
 rw[show k*2+2=(k+1)*2 by omega,(p9 L k).1,(p9 L (k+1)).2,List.set_eq_take_append_cons_drop,ao h,Fs];simp[dp]
theorem TJ(n:Nat):(List.replicate n [Value.int .u64 0,.bool false]).flatten=dp (List.replicate n (0,false)):=by
 induction n with
 |zero=>rfl
 |succ n ih=>rw[Bt,Bt,w3,ih];simp[dp,tI]
def u0(o:Nat->Nat)(S:bf)(k:Nat):List cA:=(S.take k).map (λs=>(o s,true))++List.replicate (E S-k) (0,false)
theorem aaE(o:Nat->Nat){S:bf}{k:Nat}(h:k<=E S):E (u0 o S k)=E S:=by simp[u0];omega
theorem TR(o:Nat->Nat){S:bf}{k:Nat}(h:k<E S):(u0 o S k).set k (o (S.getD k 0),true)=u0 o S (k+1):=by
 unfold u0;have hl:E ((S.take k).map λs=>(o s,true))=k:=by simp;omega
 rw[qa _ _ aa,hl,oj,show E S-k=(E S-(k+1))+1 by omega,Bt,List.set_cons_zero,aY h 0,jx,bX];rfl
theorem afa(H:IB B w0 F Ao co l){S:bf}(hs:aM B w0 F 1 (.slice A1 (E S) c1) (E S) (bD S))(hS:E S<=300)(hN:∀x∈S,x<E l):
  aZ B w0 284 [.slice Ao (E l) co,.slice A1 (E S) c1] F (λr L=>∃A' c',r= .slice A' (E S) c'∧L= .own 397 2 A' (E S) c' (dp (S.map λs=>(oN l s,true)))::F):=by
 have hbo:=H.yw;refine fw func284 29 [0,1] ?_;refine bO ?_;refine cC (Jc (nn:=E S) (cc:=E S) GL rfl rfl rfl rfl (gC _) aa aa) λwJ=>cF ?_;refine aD (λzf zL zm=>∃(k:Nat),(k<=E S)∧E S-k=zm∧Sub zf [(0,.slice Ao (E l) co),(5,.slice wJ (E S) (E S)),(11,.slice A1 (E S) c1),(12,ah (E S)),(13,ah k)]∧Wk zL (.own 397 2 wJ (E S) (E S) (dp (u0 (oN l) S k))::F)) _ ⟨0,bU _,rfl,bp,az rfl (by rw[show u0 (oN l) S 0=List.replicate (E S) (0,false) by simp[u0],<-TJ];rfl) (.refl _)⟩ ?_;rintro _ _ _ ⟨k,hk,rfl,hs,hp⟩;refine aT hs hp ?_;clear hs hp;refine bB ?_;refine aj (λku=>?_) λku=>?_
 ·have yh:S.getD k 0<E l:=hN _ (bj aa 0);have fN:=H.lt (S.getD k 0);have hlp:=aaE (oN l) (S:=S) (k:=k) aa;have hil:=TI (u0 (oN l) S k);refine bK ?_;refine ab (au ag rfl aB aa (fO aa)) rfl (bz ?_);refine ab (au ag rfl aB aa (G4 yh)) rfl (aF ?_);refine ab (eZ [(0,_),(1,_)] [_,_] rfl rfl ag) rfl (aF ?_);refine lk (EP 2 ag rfl rfl Nq rfl aW aa aa) (bB ?_);refine ve [0,5,11,12,13] ?_;refine av ⟨_,aa,k+1,aa,rfl,bp,az rfl (by rw[<-TR (oN l) aa,<-aaw aa];rfl) (.refl _)⟩
 ·obtain rfl:k=E S:=by omega
  have ye:u0 (oN l) S (E S)=S.map λs=>(oN l s,true):=by simp[u0]
  refine cY ?_;exact⟨wJ,E S,rfl,by rw[ye]⟩
theorem F8{leaf row:List cA}{f i k:Nat}(hi:i<E leaf)(h:E row<=k+1∨(leaf.getD i (0,false)).1<=(row.getD k (0,false)).1+(row.getD (k+1) (0,false)).1):qi leaf row (f+1) i k=leaf.getD i (0,false)::qi leaf row f (i+1) k:=by
 rw[qi];split
 ·rfl
 ·rename_i hr;rw[ao ⟨hi,h.resolve_left hr⟩]
theorem Ua{leaf row:List cA}{f i k:Nat}(hr:¬E row<=k+1)(h:¬(i<E leaf∧(leaf.getD i (0,false)).1<=(row.getD k (0,false)).1+(row.getD (k+1) (0,false)).1)):qi leaf row (f+1) i k=((row.getD k (0,false)).1+(row.getD (k+1) (0,false)).1,false)::qi leaf row f i (k+2):=by
 rw[qi,aw hr,aw h]
theorem aaU{leaf row:List cA}{f i k:Nat}(h:¬(i<E leaf∨k+1<E row)):qi leaf row f i k=[]:=by
 cases f with
 |zero=>rfl
 |succ f=>rw[qi,ao aa,aw aa]
theorem abh{leaf row:List cA}{W:Nat}(h1:aM B w0 F 2 (.slice A1 (E leaf) c1) (E leaf) (dp leaf))(h2:aM B w0 F 2 (.slice A2 (E row) c2) (E row) (dp row))(tT:E leaf<=1000)(rR:E row<=1000)(hW:W<=4611686018427387904)(hw1:∀x∈leaf,x.1<=W)(hw2:∀x∈row,x.1<=W):
  aZ B w0 285 [.slice A1 (E leaf) c1,.slice A2 (E row) c2] F (λr L=>∃A' c',r= .slice A' (E (vg leaf row)) c'∧L= .own 397 2 A' (E (vg leaf row)) c' (dp (vg leaf row))::F):=by
 refine fw func285 83 [0,1] ?_;refine de ?_;refine ab (mJ rfl rfl aa (r:=((E row/2:Nat):Int)) (by have e:((E row:Nat):Int).tdiv 2=((E row/2:Nat):Int):=rfl;rw[e];exact bq aa aa)) rfl (ab (bJ rfl rfl (r:=((E leaf+E row/2:Nat):Int)) ((bq aa aa).trans aa)) rfl (cC (Jc (nn:=0) (cc:=E leaf+E row/2) GL rfl rfl rfl rfl (bU _) aa aa) λCe=>de ?_));refine aD (λzf zL zm=>∃(i k f:Nat) (acc:List cA) (A5:bk) (c5:Nat),(i<=E leaf∧k<=E row∧E leaf-i+(E row-k)<=f∧acc++qi leaf row f i k=vg leaf row∧E acc<=i+k)∧f=zm∧Sub zf [(0,.slice A1 (E leaf) c1),(1,.slice A2 (E row) c2),(5,.slice A5 (E acc) c5),(6,ah i),(7,ah k)]∧Wk zL (.own 397 2 A5 (E acc) c5 (dp acc)::F)) _ ⟨0,0,E leaf+E row,[],Ce,E leaf+E row/2,⟨bU _,bU _,aa,rfl,gC _⟩,rfl,bp,.refl _⟩ ?_;rintro _ _ _ ⟨i,k,f,acc,A5,c5,⟨hi,hk,hf,mc,Hu⟩,rfl,hs,hp⟩;refine aT hs hp (bE ?_);refine bR 11 26 [0,1,5,6,7] (i<E leaf∨k+1<E row) ?_ ?_
 ·refine bF ?_;refine aI rfl rfl rfl (λju=>?_) (λju=>?_)
  ·refine bz ?_;exact aL (by exact dG (by first|exact .inl aa|omega))
  ·refine bF ?_;exact aL (by exact dS (by first|exact .inl aa|omega))
 ·refine bc ?_;refine aj (λqy=>?_) λqy=>?_
  ·obtain⟨f',rfl⟩:∃f',f=f'+1:=⟨f-1,aa⟩
   have hli:=λ(h:i<E leaf)=>hw1 _ (bj h (0,false));have hrk:=λ(h:k<E row)=>hw2 _ (bj h (0,false));have asH:=λ(h:k+1<E row)=>hw2 _ (bj h (0,false));have xB:∀x:cA,E (acc++[x])=E acc+1:=λx=>by simp
   refine cY ?_;refine aj (λC_=>?_) λC_=>?_
   ·have xy:=F8 (leaf:=leaf) (row:=row) (f:=f') (i:=i) (k:=k) aa (.inl aa);rw[xy]at mc;have hx:=xB (leaf.getD i (0,false));refine bB ?_;refine ab (dq 2 ag rfl aB aa [.int .u64 ((leaf.getD i (0,false)).1:Int),.bool (leaf.getD i (0,false)).2] (tj (y' aa)) rfl) rfl ?_;refine sw GL rfl rfl rfl aa cw rfl rfl rfl (λ_=>rfl) aW aa aa ?_;intro _ MR NS;refine bK ?_;refine ve [0,1,5,6,7] ?_;refine b7 ?_;refine av ⟨_,aa,i+1,k,f',acc++[leaf.getD i (0,false)],MR,NS,⟨aa,aa,aa,acE,aa⟩,rfl,bp,az aa acJ (.refl _)⟩
   ·have hrk:=hrk aa;have asH:=asH aa;refine bI ?_;refine bL (cU underlying397 rfl ag rfl aB aa rfl) rfl ?_;refine bL (eU ag rfl aB aa (Bs aa)) rfl (bE ?_);refine bL (aE (i:=k+1) (size:=2) underlying392 ag rfl rfl aa aa aB) rfl ?_;refine bL (cU underlying397 rfl ag rfl aB aa rfl) rfl ?_;refine bL (eU ag rfl aB aa (Bs aa)) rfl ?_;refine bL (bJ rfl rfl (r:=(((row.getD k (0,false)).1+(row.getD (k+1) (0,false)).1:Nat):Int)) ((gj aa aa).trans aa)) rfl (aF ?_);refine lO [(0,_),(1,_),(5,_),(6,_),(7,_),(8,_)] ⟨rfl,rfl,rfl,rfl,rfl,rfl,trivial⟩ ?_;refine b7 ?_;refine bR 13 65 [0,1,5,6,7,8] (i<E leaf∧(leaf.getD i (0,false)).1<=(row.getD k (0,false)).1+(row.getD (k+1) (0,false)).1) ?_ ?_
    ·refine bF ?_;refine cD (λh57=>?_) λh57=>?_
     ·refine bB ?_;refine ab (cU underlying397 rfl ag rfl aB aa rfl) rfl (aF ?_);refine ab (eU ag rfl aB aa (Bs aa)) rfl (bF ?_);exact aL (by exact dG aqr)
     ·refine bI ?_;exact aL (by exact dR aqr)
    ·refine bc ?_;refine aj (λh65=>?_) λh65=>?_
     ·have xy:=F8 (leaf:=leaf) (row:=row) (f:=f') (i:=i) (k:=k) h65.1 (.inr h65.2);rw[xy]at mc;have hx:=xB (leaf.getD i (0,false));have awl:=h65.1;refine bB ?_;refine ab (dq 2 ag rfl aB aa [.int .u64 ((leaf.getD i (0,false)).1:Int),.bool (leaf.getD i (0,false)).2] (tj (y' aa)) rfl) rfl ?_;refine sw GL rfl rfl rfl aa cw rfl rfl rfl (λ_=>rfl) aW aa aa ?_;intro _ A72 c72;refine cY ?_;refine av ⟨_,aa,i+1,k,f',acc++[leaf.getD i (0,false)],A72,c72,⟨aa,aa,aa,acE,aa⟩,rfl,bp,az aa acJ (.refl _)⟩
     ·have xy:=Ua (leaf:=leaf) (row:=row) (f:=f') (i:=i) (k:=k) aa h65;rw[xy]at mc;have hx:=xB ((row.getD k (0,false)).1+(row.getD (k+1) (0,false)).1,false);refine bB ?_;refine ab (bx [(0,_)] [.int .u64 0,.bool false] [0] [_,_] rfl rfl ag) rfl (sw GL rfl rfl rfl aa cw rfl rfl rfl (λ_=>rfl) aW aa aa ?_);intro _ A79 c79;refine bO ?_;refine av ⟨_,aa,i,k+2,f',acc++[((row.getD k (0,false)).1+(row.getD (k+1) (0,false)).1,false)],A79,c79,⟨aa,aa,aa,acE,aa⟩,rfl,bp,az aa acJ (.refl _)⟩
  ·rw[aaU qy,gl]at mc;subst mc;refine cY ?_;exact⟨A5,c5,rfl,rfl⟩
section
set_option maxHeartbeats 1000000
theorem anb{P:Prop}(h:P:=by(exact dS (by first|(exact⟨λh=>absurd h (by omega),False.elim⟩)|omega|(simp;done)))):P:=h
theorem Ya{leaf:List cA}(h:∀x∈leaf,x.1<=4294967296):∀r,∀x∈dZ leaf r,x.1<=2^(32+r)
 |0,x,hx=>h x hx
 |r+1,x,hx=>by
  rw[dZ,vU]at hx;have hp:2^(32+(r+1))=2*2^(32+r):=by rw[<-Pk,jM];omega
  have h1:4294967296<=2^(32+r):=by
   have:2^32<=2^(32+r):=gJ aa aa;simpa using this
  rcases zy hx with e|e
  ·have:=h x e;omega
  ·have:=(XW (Ya h r) e).1;omega
abbrev RwI:=bk×Nat×List cA
abbrev rwV(e:RwI):Value:=.slice e.1 (E e.2.2) e.2.1
def RwB(B:Nat)(w0:World)(K:aR)(R:List RwI):Prop:=∀e∈R,aM B w0 K 2 (rwV e) (E e.2.2) (dp e.2.2)
def Rm(L:bf):cZ:=L.map λ(n:Nat)=>Value.int .u8 (n:Int)
theorem alu{L:bf}{k:Nat}(h:k<E L):(Rm L)[k*1]? =some (.int .u8 ((L.getD k 0:Nat):Int)):=by
 rw[cH];simp[Rm,List.getD,fc h]
theorem YK(L:bf)(k v:Nat):(Rm L).set (k*1) (.int .u8 (v:Int))=Rm (L.set k v):=by simp[Rm,LR]
theorem alv(L:bf):E (Rm L)=E L:=by simp[Rm]
theorem apO{L:bf}(h:∀s,L.getD s 0<=15):Rm L=bv (L.map UInt8.ofNat):=by
 unfold Rm bv;rw[sW];refine qB λx hx=>?_;obtain⟨i,hi,rfl⟩:=ke hx;have:=h i;rw[ba,fc hi,uX]at this;have e:(UInt8.ofNat L[i]).toNat=L[i]:=by rw[tX];exact jh aa
 simp[e]
theorem Xq{S out:bf}(hd:S.Nodup)(hs:∀s∈S,s<E out){b:Nat}(hb:∀s,out.getD s 0<=b){n:Nat}(hn:n<=E S):∀s,(tW S n out).getD s 0<=b+1:=λs=>by
 obtain⟨h1,h2⟩:=Fm hd hs n hn;by_cases hm:s∈S
 ·obtain⟨j,hj,hje⟩:=ke hm;have hjd:S.getD j 0=s:=by rw[ba,fc hj,<-hje];rfl
  have:=h1 j hj;rw[hjd]at this;rw[this];have:=hb s;split<;>omega
 ·rw[h2 s hm];have:=hb s;omega
theorem Zj{leaf:List cA}(hl:∀x∈leaf,x.2=true)(hw:Wt leaf)(r t:Nat):gS (dZ leaf r) t<=E leaf:=by
 have hf:=(Ml hl hw r).2 t;have:E (leaf.take (gS (dZ leaf r) t))=gS (dZ leaf r) t:=by
  rw[<-hf,<-List.countP_eq_length_filter];rfl
 rw[eY]at this;omega
theorem Zk{row:List cA}{k:Nat}(h:k<E row):gS row (k+1)=gS row k+if (row.getD k (0,false)).2 then 1 else 0:=by
 unfold gS;rw[aY h (0,false),List.countP_append,CG,List.countP_nil];omega
theorem X9{leaf:List cA}(r:Nat):E (dZ leaf r)<=2*E leaf:=(X_ leaf r).2
theorem dB:∀(M N:aR),Wk (M++N) N
 |[],N=>.refl _
 |_::M,N=>.skip (dB M N)
theorem nt.wide{leaf:List cA}{r t M M':Nat}(h:nt leaf r t M)(hm:M<=M'):nt leaf r t M':=by
 cases r with
 |zero=>exact h
 |succ r=>exact⟨h.1,jz h.2 hm⟩
theorem nt.le{leaf:List cA}{r t M:Nat}(h:nt leaf r t M):t<=2*E leaf:=by
 cases r with
 |zero=>
  have:t=0:=h;omega
 |succ r=>exact jz h.1 (X9 r)
theorem aoR{leaf row:List cA}{W n1:Nat}(hn1:E leaf=n1)(h1:aM B w0 F 2 (.slice A1 n1 c1) n1 (dp leaf))(h2:aM B w0 F 2 (.slice A2 (E row) c2) (E row) (dp row))(tT:E leaf<=1000)(rR:E row<=1000)(hW:W<=4611686018427387904)(hw1:∀x∈leaf,x.1<=W)(hw2:∀x∈row,x.1<=W):
  aZ B w0 285 [.slice A1 n1 c1,.slice A2 (E row) c2] F (λr L=>∃A' c',r= .slice A' (E (vg leaf row)) c'∧L= .own 397 2 A' (E (vg leaf row)) c' (dp (vg leaf row))::F):=by
 subst hn1;exact abh h1 h2 tT rR hW hw1 hw2
theorem amF{R:List RwI}{leaf:List cA}{k i:Nat}(h:R.map (·.2.2)=(List.range k).map (dZ leaf))(hi:i<k):∃A c,R.getD i (none,0,[])=(A,c,dZ leaf i)∧(A,c,dZ leaf i)∈R∧(R.map rwV)[i*1]? =some (.slice A (E (dZ leaf i)) c):=by
 have hl:E R=k:=by have:=dQ List.length h;simpa using this
 have RQ:i<E R:=by omega
 have e:(R.map (·.2.2))[i]? =some (dZ leaf i):=by rw[h];simp[hi]
 rw[jw,fc RQ]at e;simp only[Dg,FE]at e;refine⟨R[i].1,R[i].2.1,?_,?_,?_⟩
 ·rw[ba,fc RQ,<-e];rfl
 ·rw[<-e];exact oT RQ
 ·rw[cH,jw,fc RQ,<-e];rfl
theorem apR{S:bf}(hS:S=dE (oN l) (E l))(H:IB B w0 F Ao co l)(hl:E l<=300):
  aZ B w0 283 [.slice Ao (E l) co] F (λr L=>∃A' c',r= .slice A' (E S) c'∧L= .own 3 1 A' (E S) c' (bD S)::F):=by
 subst hS;exact apQ H hl
theorem PK{o:Nat->Nat}{N:Nat}{S:bf}(hS:S=dE o N)(h:E S<2):jO o N=if E S=1 then (List.replicate N 0).set (S.getD 0 0) 1 else List.replicate N 0:=by
 subst hS;rw[jO,ao h]
theorem aaH{o:Nat->Nat}{N:Nat}{S:bf}(hS:S=dE o N)(h:¬E S<2):jO o N=tF S (DJ (S.map λs=>(o s,true)) 15 (2*E S-2)) (List.replicate N 0):=by
 subst hS;rw[jO,aw h];rfl
theorem G6(n:Nat):List.replicate n (Value.int .u8 0)=Rm (List.replicate n 0):=by simp[Rm]
theorem aoE(H:IB B w0 F Ao co l)(hl:E l<=300):
    aZ B w0 246 [.slice Ao (E l) co,ah 15] F (λr L=>∃A' c',r= .tuple #[.slice A' (E l) c',ah 0]∧L= .own 5 1 A' (E l) c' (bv (lB (oN l) (E l)))::F):=by
  have hbv:bv (lB (oN l) (E l))=Rm (jO (oN l) (E l)):=(apO (FL (o:=oN l) hl)).symm;obtain⟨S,hS⟩:=cK (dE (oN l) (E l));have oC:E S<=E l:=by rw[hS];exact Kf _ _
  have yh:∀s∈S,s<E l:=λs hs=>(nL.1 (hS▸hs)).1;have hnd:S.Nodup:=by rw[hS];exact QO _ _
  refine fw func246 109 [0,1] ?_;refine bO ?_;refine bR 11 25 [0,1] (False) ?_ ?_
  · refine b7 ?_;refine aI rfl rfl rfl (λiC=>?_) (λiC=>?_)
    · refine bF ?_;refine aI rfl rfl rfl (λrm=>?_) (λrm=>?_)
      · refine b7 ?_;exact aL (by rfl)
      · refine bc ?_;exact aL anb
    · refine bB ?_;exact aL anb
  · refine bc ?_;refine dw λwS=>?_;refine bF ?_;refine ay rfl (apR hS H hl) λIy NR=>bO ?_;refine ab (gk rfl rfl aa (r:=32768) ax) rfl (bE ?_);refine dw λCw=>?_;refine bB ?_;refine cC (ft cB rfl rfl rfl rfl rfl aa aa aa) λCg=>de ?_;refine aj (λDz=>?_) λDz=>?_
    · obtain⟨s0,aoo⟩:=cK (S.getD 0 0);have DE:s0<E l:=by rw[aoo];exact yh _ (bj aa 0)
      refine bE ?_;refine ab (aE (i:=0) (size:=1) underlying53 ag rfl rfl rfl aa aB) rfl ?_;refine ab (au ag rfl aB aa (gv (i:=0) (v:=s0) aa aoo.symm)) rfl ?_;refine ab (aE (i:=s0) underlying27 ag rfl rfl rfl aa aB) rfl (aF ?_);refine ve [0,1,6,7] ?_;refine bO ?_;refine Bf λZ5=>?_;have ye:=PK hS aa;rw[ao aa]at ye;refine bO ?_;refine aq (L':=.own 5 1 Cg (E l) (E l) (bv (lB (oN l) (E l)))::F) (.trans (az rfl (by rw[hbv,ye,G6,<-aoo];exact YK _ _ 1) (.refl _)) ((eu (.skip (.refl _))))) (aF ?_);exact⟨Cg,E l,rfl,rfl⟩
    · refine bz ?_;refine aj (λZ5=>?_) λZ5=>?_
      · have ye:=PK hS aa;rw[aw aa]at ye;refine bF ?_;refine ve [4,5] ?_;refine bE ?_;refine aq (L':=.own 5 1 Cg (E l) (E l) (bv (lB (oN l) (E l)))::F) (.trans (az rfl (by rw[hbv,ye,G6]) (.refl _)) ((eu (.skip (.refl _))))) (aF ?_);exact⟨Cg,E l,rfl,rfl⟩
      · have ye:=aaH hS aa;obtain⟨leaf,O8⟩:=cK (S.map λs=>(oN l s,true));have Tp:leaf=oW (oN l) (E l):=by rw[O8,hS];rfl
        have xB:E leaf=E S:=by rw[O8];simp
        have lg:∀x∈leaf,x.2=true:=by rw[Tp];exact sZ
        have hwt:Wt leaf:=by rw[Tp];exact zq _ _
        have uN:nt leaf 15 (2*E S-2) (E S):=by rw[Tp,hS];exact xT (o:=oN l) hl
        have hlw:∀x∈leaf,x.1<=4294967296:=by
          rw[O8];intro x hx;obtain⟨s,_,rfl⟩:=pC.1 hx;exact Nat.le_of_lt (H.lt s)
        rw[<-O8]at ye;refine bB ?_;refine ay rfl (afa ⟨H.yw.cons.cons,H.lt⟩ aB aa yh) λC1 Hp=>?_;rw[<-O8];refine aF ?_;refine ve [1,6,7,8] ?_;refine b7 ?_;refine cC (aG agH [_] rfl rfl cw aa aa) λA52=>bF ?_;refine aD (λzf zL zm=>∃(k:Nat) (R:List RwI) (M:aR) (A9:bk) (c9:Nat),(1<=k∧k<=15∧E R=k∧R.map (·.2.2)=(List.range k).map (dZ leaf)∧RwB B w0 (M++(.own 397 2 C1 (E S) Hp (dp leaf)::F)) R)∧15-k=zm∧Sub zf [(1,ah 15),(6,.slice Iy (E S) NR),(7,.slice Cg (E l) (E l)),(8,.slice C1 (E S) Hp),(9,.slice A9 k c9)]∧Wk zL (.own 392 1 A9 k c9 (R.map rwV):: .own 5 1 Cg (E l) (E l) (Rm (List.replicate (E l) 0)):: .own 3 1 Iy (E S) NR (bD S)::(M++(.own 397 2 C1 (E S) Hp (dp leaf)::F)))) _ ⟨1,[(C1,Hp,leaf)],[],A52,1,⟨gC _,aa,rfl,rfl,λe he=>by rw[me.1 he];exact xB▸aM.own (.head _)⟩,rfl,bp,.trans ((eu (gE (gE (eu (.refl _)))))) (az rfl (by rw[<-xB];rfl) (az rfl (G6 _) (.refl _)))⟩ ?_;rintro _ _ _ ⟨k,R,M,A9,c9,⟨yf,Jw,W8,hRm,W7⟩,rfl,hs,hp⟩;refine aT hs hp ?_;clear hs hp;refine bO ?_;refine aj (λS6=>?_) λS6=>?_
        · obtain⟨j,rfl⟩:∃j,k=j+1:=⟨k-1,aa⟩
          obtain⟨A8,c8,hg8,hm8,hv8⟩:=amF (i:=j) hRm aa;have hb8:aM B w0 (M++(.own 397 2 C1 (E S) Hp (dp leaf)::F)) 2 (.slice A8 (E (dZ leaf j)) c8) (E (dZ leaf j)) (dp (dZ leaf j)):=W7 _ hm8;have di:aM B w0 (M++(.own 397 2 C1 (E S) Hp (dp leaf)::F)) 2 (.slice C1 (E S) Hp) (E S) (dp leaf):=aM.own (om _ (.head _));have hrl:=X9 (leaf:=leaf) j;have hjw:(2:Nat)^(32+j)<=2^47:=gJ aa aa;have hjp:(2:Nat)^47=140737488355328:=by decide
          have hnx:vg leaf (dZ leaf j)=dZ leaf (j+1):=rfl;refine bz ?_;refine ab (aE (i:=j) underlying394 ag rfl rfl aa aa aB) rfl ?_;refine ab (au ag rfl aB aa hv8) rfl ?_;refine ay rfl (aoR (W:=140737488355328) xB di.cons.cons.cons hb8.cons.cons.cons aa aa aa (λx hx=>by have:=hlw x hx;omega) (λx hx=>by have:=Ya hlw j x hx;omega)) λA65 c65=>?_;rw[hnx];refine dL agH rfl rfl rfl rfl rfl (λ_=>rfl) aW aa aa ?_;intro _ A67 c67;refine bE ?_;refine av ⟨_,aa,j+1+1,R++[(A65,c65,dZ leaf (j+1))],.own 397 2 A65 (E (dZ leaf (j+1))) c65 (dp (dZ leaf (j+1)))::M,A67,c67,⟨aa,aa,bT,by rw[jx,hRm,lT (n:=j+1),jx];rfl,λe he=>by
  rcases dz.1 he with he|he
  · exact(W7 e he).mono (.cons _ (.refl _))
  · rw[me.1 he];exact aM.own (.head _)⟩,rfl,bp,.trans ((gE (gE (gE (eu (.refl _)))))) (az aa (by rw[jx];rfl) (.refl _))⟩
        · obtain rfl:k=15:=by omega
          refine aec ?_;refine aD (λzf zL zm=>∃(r t:Nat) (out:bf),(r<=15∧nt leaf r t (E S)∧tF S (DJ leaf r t) out=jO (oN l) (E l)∧E out=E l∧(∀s,out.getD s 0+r<=15)∧t<=600)∧r=zm∧Sub zf [(6,.slice Iy (E S) NR),(7,.slice Cg (E l) (E l)),(9,.slice A9 15 c9),(10,ah t),(11,ah ((r:Int)-1))]∧Wk zL (.own 5 1 Cg (E l) (E l) (Rm out):: .own 392 1 A9 15 c9 (R.map rwV):: .own 3 1 Iy (E S) NR (bD S)::(M++(.own 397 2 C1 (E S) Hp (dp leaf)::F)))) _ ⟨15,2*E S-2,List.replicate (E l) 0,⟨gC _,uN,ye.symm,ak,λs=>by
  rw[ba,JK];split<;>simp,aa⟩,rfl,bp,(gE (eu (eu (.refl _))))⟩ ?_
          rintro _ _ _ ⟨r,t,out,⟨awv,aot,hfo,LA,hob,ht6⟩,rfl,hs,hp⟩;refine aT hs hp ?_;clear hs hp;refine bI ?_;refine aj (λh76=>?_) λh76=>?_
          · obtain⟨i,rfl⟩:∃i,r=i+1:=⟨r-1,aa⟩
            obtain⟨A8,c8,hg8,hm8,hv8⟩:=amF (i:=i) hRm aa;have hb8:aM B w0 (M++(.own 397 2 C1 (E S) Hp (dp leaf)::F)) 2 (.slice A8 (E (dZ leaf i)) c8) (E (dZ leaf i)) (dp (dZ leaf i)):=W7 _ hm8;have De:t<=E (dZ leaf i):=aot.1;have hb9:=hb8.jv De;rw[(p9 (dZ leaf i) t).1]at hb9;have uh:=Zj lg hwt i;have wV:=aot.step lg hwt;have hil:t<=E (dZ leaf i):=De;refine de ?_;refine MF hb8.cons.cons.cons λav0 _=>?_;refine bE ?_;refine ab (aE (i:=i) underlying394 ag rfl rfl aa aa aB) rfl ?_;refine ab (au ag rfl aB aa hv8) rfl (aF ?_);refine ab (bV (i:=t) (size:=2) underlying392 ag rfl rfl rfl aa) rfl (bF ?_);refine aD (λzf zL zm=>∃(k:Nat),(k<=t)∧t-k=zm∧Sub zf [(6,.slice Iy (E S) NR),(7,.slice Cg (E l) (E l)),(9,.slice A9 15 c9),(10,ah t),(11,ah ((i+1:Nat)-1:Int)),(12,ah (gS (dZ leaf i) k)),(84,.slice A8 t c8),(85,ah t),(86,ah k)]∧Wk zL (.own 5 1 Cg (E l) (E l) (Rm (tW S (gS (dZ leaf i) k) out)):: .own 392 1 A9 15 c9 (R.map rwV):: .own 3 1 Iy (E S) NR (bD S)::(M++(.own 397 2 C1 (E S) Hp (dp leaf)::F)))) _ ⟨0,bU _,rfl,bp,.refl _⟩ ?_;rintro _ _ _ ⟨k,hkt,rfl,hs,hp⟩;refine aT hs hp ?_;clear hs hp;refine bB ?_;refine aj (λh87=>?_) λh87=>?_
            · have To:=Zk (row:=dZ leaf i) (k:=k) aa;have Xe:=uh (k+1);have awh:=rV S out (gS (dZ leaf i) k);have auW:((dZ leaf i).take t).getD k (0,false)=(dZ leaf i).getD k (0,false):=by
                simp only[ba];rw[Xu aa]
              have hia:=y' (L:=(dZ leaf i).take t) (k:=k) nf;rw[auW]at hia;obtain⟨⟨xw,xb⟩,hxe⟩:∃x,x=(dZ leaf i).getD k (0,false):=⟨_,rfl⟩
              rw[<-hxe]at hia To;refine bB ?_;refine ab (aE (i:=k) (size:=2) underlying392 ag rfl rfl rfl aa hb9.cons.cons.cons) rfl (ab (dq 2 ag rfl hb9.cons.cons.cons aa [.int .u64 (xw:Int),.bool xb] (tj hia) rfl) rfl (bh λg14=>?_));refine bO ?_;refine iH (λh91=>?_) λh91=>?_
              · rw[ao (show(xw,xb).2=true from h91)]at To;obtain⟨s,hse⟩:=cK (S.getD (gS (dZ leaf i) k) 0);have awx:s<E l:=by rw[hse];exact yh _ (bj aa 0)
                obtain⟨v,hve⟩:=cK ((tW S (gS (dZ leaf i) k) out).getD s 0);have hvl:v<=14-i+1:=by rw[hve];exact Xq hnd (λs hs=>by rw[LA];exact yh s hs) (λs=>by have:=hob s;omega) aa s
                have auV:(Rm (tW S (gS (dZ leaf i) k) out)).set (s*1) (.int .u8 ((v+1:Nat):Int))=Rm (tW S (gS (dZ leaf i) (k+1)) out):=by rw[To,tW,<-hse,<-hve,YK]
                refine bF ?_;refine ab (aE (i:=gS (dZ leaf i) k) underlying53 ag rfl rfl rfl aa aB) rfl ?_;refine ab (au ag rfl aB aa (gv (v:=s) aa hse.symm)) rfl ?_;refine ab (aE (i:=s) underlying27 ag rfl rfl rfl aa aB) rfl ?_;refine ab (au (v:=.int .u8 (v:Int)) ag rfl aB aa (by rw[hve];exact alu aa)) rfl ?_;refine ab (bJ rfl rfl (r:=((v+1:Nat):Int)) ((ab' aa aa).trans aa)) rfl (ab (aE (i:=s) underlying27 ag rfl rfl rfl aa aB) rfl ?_);refine lk (ia ag rfl rfl rfl aW (by rw[alv];omega)) (bB ?_);refine ve [6,7,9,10,11,12,84,85,86] ?_;refine bB ?_;refine av ⟨_,aa,k+1,aa,rfl,bp,.skip (az rfl auV (.refl _))⟩
              · rw[aw (show¬(xw,xb).2=true by simpa using h91)]at To;refine bI ?_;refine av ⟨_,aa,k+1,aa,rfl,bp,.skip (az rfl (by rw[To];rfl) (.refl _))⟩
            · obtain rfl:k=t:=by omega
              have hct:=Wi (dZ leaf i) k;have hw2:=wV.le;have hck:=uh k;refine Bh ?_;refine av ⟨_,aa,i,2*(k-gS (dZ leaf i) k),tW S (gS (dZ leaf i) k) out,⟨aa,wV.wide aot.2,by have h:=hfo;rw[DJ,tF]at h;exact h,by rw[rV];exact LA,λs=>by
  have:=Xq hnd (λs hs=>by rw[LA];exact yh s hs) (b:=14-i) (λs=>by have:=hob s;omega) (n:=gS (dZ leaf i) k) aa s;omega,aa⟩,rfl,bp,.refl _⟩
          · obtain rfl:r=0:=by omega
            rw[DJ,tF]at hfo;refine cY ?_;refine aq (L':=.own 5 1 Cg (E l) (E l) (bv (lB (oN l) (E l)))::F) (az rfl (by rw[hbv,hfo]) (.s2 (.trans (dB M _) (.skip (.refl _))))) (aF ?_);exact⟨Cg,E l,rfl,rfl⟩
end
theorem avQ{x:Int}(h:0<=x∧x<=100000000):IntKind.i64.wrap (x*2^min (1:Int).toNat IntKind.i64.bits)=x*2:=by
 have e:min (1:Int).toNat IntKind.i64.bits=1:=by decide
 rw[e];exact bq aa aa
theorem aiV{l:al}{s:Nat}{x:Int}(h:¬(l.getD s 0).toNat=0)(hx:x=(place l (l.getD s 0).toNat s:Int)):IntKind.u16.wrap x=code l s:=by
 unfold code;rw[aw h,hx]
theorem aiW(l:al)(hb:fo B w0 F A c l)(hg:Good l):aZ B w0 287 [.slice A (E l) c] F (λr L=>∃A' c',r= .tuple #[.slice A' (E l) c',ah 0]∧L= .own 57 1 A' (E l) c' (ints .u16 (gz l))::F):=by
 have hc:=AQ l hb;rw[yz hg]at hc;have hf:=hg.1;have lg:=hf.1;have ye:=OE hf;have hf1:=ye.1;refine fw func287 63 [0] ?_;refine bz ?_;refine ai rfl (hc) (bO ?_);refine dw λkF=>?_;refine bF ?_;refine ai rfl (I5 l aB hf) (bE ?_);refine bh λg5=>?_;refine bB ?_;refine bh λg7=>?_;refine bO ?_;refine aD (λzf zL zm=>∃(k:Nat),(1<=k∧k<=16)∧16-k=zm∧Sub zf [(0,.slice A (E l) c),(5,br g5),(7,br g7),(8,ah k)]∧Wk zL (.bG g7 430 (ints .i64 (yW l k)):: .bG g5 426 (ints .i64 (rK l))::F)) _ ⟨1,⟨aa,aa⟩,rfl,bp,bw (by rw[<-adY];rfl) (.refl _)⟩ ?_;rintro _ _ _ ⟨k,⟨yf,hk⟩,rfl,hs,hp⟩;refine aT hs hp ?_;clear hs hp;refine bI ?_;refine aj (λmB=>?_) λmB=>?_
 ·have e1:=adX l (gC k) aa;have e2:=dg l (k:=k) aa aa;have e3:=vO lg hk;have e4:=xK l k;have e5:=fJ l yf;refine b7 ?_;refine cE (.bG g5 426 (ints .i64 (rK l))::F) ?_;refine ae 0 ?_;refine ae 1 ?_;refine ae 2 ?_;refine aU 3 rfl (aP underlying430 ag rfl rfl rfl aa) (ae 5 ?_);refine aU 6 rfl (aP underlying426 ag rfl rfl rfl aa) (aU 7 rfl (fk ag rfl aW HD) ?_);refine aA 4 (iL rfl .no (fk ag rfl aW HD) rfl gD ?_);refine ae 8 ?_;refine aU 9 rfl (gk rfl rfl aa (avQ aa)) (aU 10 rfl (aP (i:=k+1) underlying430 ag rfl rfl rfl aa) (aA 11 (bO ?_)));refine av ⟨_,aa,k+1,⟨aa,aa⟩,rfl,bp,bw (by rw[<-ZU,e5,e1,e2];push_cast;rfl) (.refl _)⟩
 ·refine bO ?_;refine cC (ft vr rfl rfl rfl rfl rfl aa aa aa) λA39=>cF ?_;have aoa:k=16:=by omega
  subst aoa;refine aD (λzf zL zm=>∃(s:Nat) (A9:bk),(s<=E l)∧E l-s=zm∧Sub zf [(7,br g7),(9,.slice A9 (E l) (E l)),(40,.slice A (E l) c),(41,ah (E l)),(42,ah s)]∧Wk zL (.own 57 1 A9 (E l) (E l) (ints .u16 (Dj l s)):: .bG g7 430 (ints .i64 (wA l s)):: .bG g5 426 (ints .i64 (rK l))::F)) _ ⟨0,A39,bU _,rfl,bp,az rfl (by rw[aa7];simp[ints]) (bw (by rw[ZX]) (.refl _))⟩ ?_;rintro _ _ _ ⟨s,A9,hs,rfl,hs,hp⟩;refine aT hs hp ?_;clear hs hp;refine bB ?_;refine aj (λZ4=>?_) λZ4=>?_
  ·have hu:=hf.2 _ (bj (k:=s) aa 0);have hp:=Qh lg (k:=(l.getD s 0).toNat) aa s;refine Bh ?_;refine aj (λS5=>?_) λS5=>?_
   ·have hfB:=OM l s;have eB:=adZ l (s:=s) (j:=(l.getD s 0).toNat) aa aa;refine bF ?_;refine ab (aP (i:=(l.getD s 0).toNat) underlying430 ag rfl rfl rfl aa) rfl (ab (fk ag rfl aW HD) rfl ?_);refine ab (bm underlying3 underlying57 rfl (aiV (s:=s) aa eB)) rfl (aF ?_);refine lk (ia ag rfl rfl rfl aW (by rw[kW,Qd l hs];omega)) (b7 ?_);refine ab (aP (i:=(l.getD s 0).toNat) underlying430 ag rfl rfl rfl aa) rfl (ab (fk ag rfl aW HD) rfl (aF ?_));refine ab (aP (i:=(l.getD s 0).toNat) underlying430 ag rfl rfl rfl aa) rfl (aF ?_);refine ve [7,9,40,41,42] ?_;refine bB ?_;refine av ⟨_,aa,s+1,A9,aa,rfl,bp,az rfl (by rw[<-JV aa,cH];simp[ints,LR]) (bw (by rw[<-ZW aa aa aa,eB]) (.refl _))⟩
   ·refine bI ?_;refine av ⟨_,aa,s+1,A9,aa,rfl,bp,az rfl (by rw[<-aa6 aa aa]) (bw (by rw[<-ZV aa aa]) (.refl _))⟩
  ·refine cY ?_;have Au:s=E l:=by omega
   subst Au;refine aq (az rfl (by rw[afS]) (.s2 (.refl _))) (aF ?_);exact⟨A9,_,rfl,rfl⟩
section
variable{l:al}
theorem aqN{P:Prop}(h:P:=by(rw[<-hmm];exact an6 (iu _ _) (iM _ _) (by omega))):P:=h
theorem aqU{P:Prop}(h:P:=by(rw[<-hff];exact asl (iu _ _) (by omega))):P:=h
theorem anc{P:Prop}(h:P:=by(rw[<-Bk,ajw (by omega) (by rw[<-hy,<-hw];omega)])):P:=h
abbrev kV(vl vc:Value)(a b:List Int)(sy:cZ):cZ:=vl::vc::(ints .i64 a++(ints .i64 b++sy))
section
variable{vl vc:Value}{a b:List Int}{sy:cZ}{i:Nat}
theorem asl(ha:E a=16)(hi:i<16):(kV vl vc a b sy)[2+i]? =some (ah (a.getD i 0)):=by
 rw[show 2+i=i+1+1 by omega];simp only[Xw];rw[zk bT];simp[ints,List.getD,fc (show i<E a by omega)]
theorem an6(ha:E a=16)(hb:E b=16)(hi:i<16):(kV vl vc a b sy)[18+i]? =some (ah (b.getD i 0)):=by
 rw[show 18+i=(16+i)+1+1 by omega];simp only[Xw];rw[rX bT,kW,ha,zc,zk bT];simp[ints,List.getD,fc (show i<E b by omega)]
theorem an7(ha:E a=16)(hb:E b=16):(kV vl vc a b sy)[34+i]? =sy[i]? :=by
 rw[show 34+i=(32+i)+1+1 by omega];simp only[Xw];rw[rX bT,kW,ha,show 32+i-16=16+i by omega,rX bT,kW,hb,zc]
theorem ajz(ha:E a=16)(hi:i<16)(v:Int):(kV vl vc a b sy).set (2+i) (ah v)=kV vl vc (a.set i v) b sy:=by
 rw[show 2+i=i+1+1 by omega];simp only[Pv];rw[List.set_append_left _ _ bT];simp[ints,LR]
theorem ajA(ha:E a=16)(hb:E b=16)(hi:i<16)(v:Int):(kV vl vc a b sy).set (18+i) (ah v)=kV vl vc a (b.set i v) sy:=by
 rw[show 18+i=(16+i)+1+1 by omega];simp only[Pv];rw[qa _ _ bT,kW,ha,zc,List.set_append_left _ _ bT];simp[ints,LR]
theorem Xb(ha:E a=16)(hb:E b=16)(v:Value):(kV vl vc a b sy).set (34+i) v=kV vl vc a b (sy.set i v):=by
 rw[show 34+i=(32+i)+1+1 by omega];simp only[Pv];rw[qa _ _ bT,kW,ha,show 32+i-16=16+i by omega,qa _ _ bT,kW,hb,zc]
end
theorem Te{vl vc:Value}{a b:List Int}{sy:cZ}(ha:E a=16)(hb:E b=16)(hs:E sy=16):E (kV vl vc a b sy)=50:=by
 simp[ha,hb,hs]
def rQ(l:al)(s:Nat):List Int:=(List.range 16).map λk=>if k=0∨num (l.take s) k=0 then 0 else (fst l k:Int)
def mN(l:al)(s:Nat):List Int:=(List.range 16).map λk=>if k=0 then 0 else (num (l.take s) k:Int)
def mQ(l:al)(s:Nat):List (bf):=(List.range 16).map λk=>if k=0 then [] else jE l s k
@[simp] theorem iu(l:al)(s:Nat):E (rQ l s)=16:=by simp[rQ]
@[simp] theorem iM(l:al)(s:Nat):E (mN l s)=16:=by simp[mN]
@[simp] theorem ap8(l:al)(s:Nat):E (mQ l s)=16:=by simp[mQ]
theorem OX{l:al}{k:Nat}(h:1<=k)(h2:k<=15):(rQ l (E l)).getD k 0=(pf l k:Int):=by
 have h3:¬k=0:=by omega
 simp only[rQ,ba,jw,w4 (show k<16 by omega),Dg,uX,ki,h3,false_or];unfold pf;split<;>simp
theorem Jz{l:al}{k:Nat}(h:1<=k)(h2:k<=15):(mN l (E l)).getD k 0=(num l k:Int):=by
 have h3:¬k=0:=by omega
 simp only[mN,ba,jw,w4 (show k<16 by omega),Dg,uX,ki,aw h3]
theorem JC{l:al}{k:Nat}(h:1<=k)(h2:k<=15):(mQ l (E l)).getD k []=lN l k:=by
 have h3:¬k=0:=by omega
 simp only[mQ,ba,jw,w4 (show k<16 by omega),Dg,uX,aw h3,lN]
structure x_(B:Nat)(w0:World)(L:aR)(g:Nat)(l:al):Prop where
 co:∃(A1:bk) (c1:Nat) (A2:bk) (c2:Nat) (SY:List sA),Ch.bG g 347 (kV (.slice A1 (E l) c1) (.slice A2 (E l) c2) (rQ l (E l)) (mN l (E l)) (SY.map kl))∈L∧
  aM B w0 L 1 (.slice A1 (E l) c1) (E l) (bv l)∧aM B w0 L 1 (.slice A2 (E l) c2) (E l) (ints .u16 (gz l))∧SY.map (·.2.2)=mQ l (E l)∧∀e∈SY,aM B w0 L 1 (kl e) (E e.2.2) (bD e.2.2)
theorem x_.mono(h:x_ B w0 L g l){M:aR}(hs:L.Sublist M):x_ B w0 M g l:=by
 obtain⟨A1,c1,A2,c2,SY,h1,h2,h3,h4,h5⟩:=h;exact⟨A1,c1,A2,c2,SY,hs.subset h1,h2.mono hs,h3.mono hs,h4,λe he=>(h5 e he).mono hs⟩
theorem x_.cons(h:x_ B w0 L g l){x:Ch}:x_ B w0 (x::L) g l:=h.mono (.cons _ (.refl _))
theorem na.qj{c:Ch}:∀{L:aR},c∈L->∃f,na c L f
 |x::L,h=>by
  rcases fj.1 h with e|e
  ·subst e;exact⟨_,.hd⟩
  ·obtain⟨f,hf⟩:=na.qj e;exact⟨_,hf.tl⟩
theorem atl{SY:List sA}{k:Nat}(h:SY.map (·.2.2)=mQ l (E l))(h1:1<=k)(h2:k<=15):∃A c,(A,c,lN l k)∈SY∧(SY.map kl)[k]? =some (.slice A (E (lN l k)) c):=by
 have hl:E SY=16:=by have:=dQ List.length h;simpa using this
 have hi:k<E SY:=by omega
 have hg:=JC (l:=l) h1 h2;have e:(SY.map (·.2.2)).getD k []=lN l k:=by rw[h];exact hg
 rw[ba,jw,fc hi]at e;simp only[Dg,uX]at e;refine⟨SY[k].1,SY[k].2.1,?_,?_⟩
 ·rw[<-e];exact oT hi
 ·rw[jw,fc hi,<-e];rfl
theorem anJ(yZ:x_ B w0 F g l)(hl:E l<=300){x k:Nat}(h1:1<=k)(h2:k<=15)(hx:x<1000000):
  aZ B w0 351 [br g,.int .u64 x,ah k] F (λr L=>r= .tuple #[ah (((oe l x k).getD 0:Nat):Int),.bool (oe l x k).isSome]∧L=F):=by
 obtain⟨A1,c1,A2,c2,SY,hm,qJ,pB,hsy,M3⟩:=yZ;obtain⟨f,Bm⟩:=na.qj hm;have hff:=OX (l:=l) h1 h2;have hmm:=Jz (l:=l) h1 h2;have hss:=JC (l:=l) h1 h2;have Da:=xK l k;have hfc:pf l k<=39321600:=by
  unfold pf;split
  ·omega
  ·exact vO hl aa
 refine fw func351 39 [0,1,2] ?_;refine bO ?_;refine ab (bm underlying60 underlying3 rfl (r:=(x:Int)) (bq aa aa)) rfl (b7 ?_);refine ab (aP (i:=k) underlying344 ag rfl rfl rfl aa) rfl (ab (bQ ag rfl Bm (asl (iu _ _) aa)) rfl (bI ?_));refine bR 12 29 [0,2,8] (¬(pf l k<=x∧x<pf l k+num l k)) ?_ ?_
 ·refine bE ?_;refine aI rfl rfl rfl (λju=>?_) (λju=>?_)
  ·refine bz ?_;refine ab (aP (i:=k) underlying344 ag rfl rfl rfl aa) rfl (aF ?_);refine ab (bQ ag rfl Bm (an6 (iu _ _) (iM _ _) aa)) rfl (bE ?_);exact aL pM
  ·refine bK ?_;exact aL wy
 ·refine bc ?_;refine aj (λqu=>?_) λqu=>?_
  ·have e:oe l x k=none:=aw qu;rw[e];refine bO ?_;exact⟨rfl,rfl⟩
  ·have hin:=jN.1 qu;obtain⟨s,hs⟩:=cK ((lN l k).getD (x-pf l k) 0);have e:oe l x k=some s:=by rw[oe,ao hin,hs]
   rw[e];obtain⟨A3,c3,hm3,hv3⟩:=atl hsy h1 h2;have hb3:aM B w0 F 1 (.slice A3 (E (lN l k)) c3) (E (lN l k)) (bD (lN l k)):=M3 _ hm3;have oC:=GS l k;refine bK ?_;refine ab (aP (i:=k) underlying345 ag rfl rfl rfl aa) rfl (ab (bQ ag rfl Bm ((an7 (iu _ _) (iM _ _)).trans hv3)) rfl (aF ?_));refine ab (aE (i:=x-pf l k) underlying53 ag rfl rfl aa aa hb3) rfl (ab (au ag rfl hb3 aa (gv (v:=s) aa hs.symm)) rfl (bB ?_));exact⟨rfl,rfl⟩
theorem QE{x d:Nat}{e:Int}(he:e=(d:Int))(hd:d<=15)(hx:x<1000000):IntKind.i64.wrap ((x:Int)*2^min e.toNat IntKind.i64.bits)=((x*2^d:Nat):Int):=by
 subst he;have e2:min ((d:Int)).toNat IntKind.i64.bits=d:=by
  show min _ 64=_;omega
 have hp:2^d<=2^15:=gJ aa hd;have hm:x*2^d<=1000000*2^15:=gU aa hp;rw[e2];have e3:(x:Int)*2^d=((x*2^d:Nat):Int):=by simp
 rw[e3];exact bq aa aa
theorem ajw{x k f j:Nat}(hj:j<=15)(h:¬(0<num l j∧x*2^(j-k)<pf l j+num l j∧pf l j<x*2^(j-k)+2^(j-k))):wT l x k (f+1) j=wT l x k f (j+1):=by
 rw[wT,aw aa,aw h]
theorem aen{x k f j:Nat}(hj:j<=15)(h:0<num l j∧x*2^(j-k)<pf l j+num l j∧pf l j<x*2^(j-k)+2^(j-k)):wT l x k (f+1) j=true:=by
 rw[wT,aw aa,ao h]
theorem aem{x k f j:Nat}(hj:¬j<=15):wT l x k f j=false:=by
 cases f with
 |zero=>rfl
 |succ f=>rw[wT,ao aa]
theorem acN(yZ:x_ B w0 F g l)(hl:E l<=300){x k:Nat}(h2:k<=15)(hx:x<32768):
  aZ B w0 353 [br g,.int .u64 x,ah k] F (λr L=>r= .bool (ael l x k)∧L=F):=by
 obtain⟨A1,c1,A2,c2,SY,hm,qJ,pB,hsy,M3⟩:=yZ;obtain⟨f,Bm⟩:=na.qj hm;refine fw func353 60 [0,1,2] ?_;refine ei ?_;refine aD (λzf zL zm=>∃(j fu:Nat),(k+1<=j∧j<=16∧16<=j+fu∧wT l x k fu j=ael l x k)∧16-j=zm∧Sub zf [(0,br g),(1,.int .u64 x),(2,ah k),(7,ah j)]∧Wk zL (F)) _ ⟨k+1,15,⟨gC _,aa,aa,rfl⟩,rfl,bp,.refl _⟩ ?_;rintro _ _ _ ⟨j,fu,⟨hj1,hj2,hfu,Bk⟩,rfl,hs,hp⟩;refine aT hs hp (bI ?_);refine aj (λnY=>?_) λnY=>?_
 ·obtain⟨f',rfl⟩:∃f',fu=f'+1:=⟨fu-1,aa⟩
  have hff:=OX (l:=l) (k:=j) aa aa;have hmm:=Jz (l:=l) (k:=j) aa aa;have Da:=xK l j;have CC:2^(j-k)<=2^15:=gJ aa aa;have hp2:x*2^(j-k)<=32768*2^15:=gU aa CC;have hfc:pf l j<=39321600:=by
   unfold pf;split
   ·omega
   ·exact vO hl aa
  obtain⟨y,hy⟩:=cK (x*2^(j-k));obtain⟨w,hw⟩:=cK (2^(j-k));refine bI ?_;refine ab (bm underlying60 underlying3 rfl (r:=(x:Int)) (bq aa aa)) rfl (bE ?_);refine ab (gk rfl rfl aa (r:=(y:Int)) (by rw[hy];exact QE (d:=j-k) aa aa aa)) rfl (bO ?_);refine bL (aP (i:=j) underlying344 ag rfl rfl rfl aa) rfl (bL (bQ (v:=ah ((num l j:Nat):Int)) ag rfl Bm aqN) rfl (bc ?_));refine iP rfl rfl rfl (λrn=>?_) (λrn=>?_)
  ·refine bz ?_;refine bL (aP (i:=j) underlying344 ag rfl rfl rfl aa) rfl (aF ?_);refine bL (bQ (v:=ah ((pf l j:Nat):Int)) ag rfl Bm aqU) rfl (bO ?_);refine bL (aP (i:=j) underlying344 ag rfl rfl rfl aa) rfl (aF ?_);refine bL (bQ (v:=ah ((num l j:Nat):Int)) ag rfl Bm aqN) rfl (bB ?_);refine iP rfl rfl rfl (λh45=>?_) (λh45=>?_)
   ·refine bK ?_;refine bL (gk rfl rfl aa (r:=(w:Int)) (by have:=QE (x:=1) (d:=j-k) (e:=(j:Int)-k) aa aa aa;rw[lz]at this;rw[hw];exact this)) rfl (de ?_);refine bL (aP (i:=j) underlying344 ag rfl rfl rfl aa) rfl (aF ?_);refine bL (bQ (v:=ah ((pf l j:Nat):Int)) ag rfl Bm aqU) rfl (bE ?_);refine lO [(0,_),(1,_),(2,_),(7,_),(59,_)] ⟨rfl,rfl,rfl,rfl,rfl,trivial⟩ ?_;refine aF ?_;refine aj (λh59=>?_) λh59=>?_
    ·rw[aen aa ⟨aa,by rw[<-hy];omega,(by rw[<-hy,<-hw];omega)⟩]at Bk;rw[<-Bk];refine cF ?_;exact⟨rfl,rfl⟩
    ·refine bK ?_;refine av ⟨_,aa,j+1,f',⟨aa,aa,aa,anc⟩,rfl,bp,.refl _⟩
   ·refine cY ?_;refine lO [(0,_),(1,_),(2,_),(7,_),(59,_)] ⟨rfl,rfl,rfl,rfl,rfl,trivial⟩ ?_;refine bz ?_;refine av ⟨_,aa,j+1,f',⟨aa,aa,aa,anc⟩,rfl,bp,.refl _⟩
  ·refine aug ?_;refine lO [(0,_),(1,_),(2,_),(7,_),(59,_)] ⟨rfl,rfl,rfl,rfl,rfl,trivial⟩ ?_;refine bz ?_;refine av ⟨_,aa,j+1,f',⟨aa,aa,aa,anc⟩,rfl,bp,.refl _⟩
 ·rw[aem aa]at Bk;rw[<-Bk];refine cF ?_;exact⟨rfl,rfl⟩
theorem afb(yZ:x_ B w0 F g l){s:Nat}(hs:s<E l)(hl:E l<=300):
  aZ B w0 288 [br g,ah s] F (λr L=>r=ah ((l.getD s 0).toNat:Int)∧L=F):=by
 obtain⟨A1,c1,A2,c2,SY,hm,qJ,pB,hsy,M3⟩:=yZ;obtain⟨f,Bm⟩:=na.qj hm;have hbv:(bv l)[s*1]? =some (.int .u8 ((l.getD s 0).toNat:Int)):=by rw[cH];simp[bv,List.getD,fc hs]
 have hu:=(l.getD s 0).toNat_lt;refine fw func288 24 [0,1] ?_;refine bK ?_;refine bR 11 15 [0,1] (False) ?_ ?_
 ·refine bE ?_;refine aI rfl rfl rfl (λh7=>?_) (λh7=>?_)
  ·refine bK ?_;refine ab (bQ ag rfl Bm rfl) rfl (bF ?_);exact aL (by exact dG (by first|(exact⟨λh=>absurd h (by omega),False.elim⟩)|omega|(simp;done)))
  ·refine bI ?_;exact aL anb
 ·refine bc ?_;refine dw λkF=>?_;refine bI ?_;refine ab (bQ ag rfl Bm rfl) rfl (bc ?_);refine ab (au ag rfl qJ aa hbv) rfl (ab (bm underlying5 underlying3 rfl (r:=((l.getD s 0).toNat:Int)) (bq aa aa)) rfl (bF ?_));exact⟨rfl,rfl⟩
theorem aeF(yZ:x_ B w0 F g l){s:Nat}(hs:s<E l)(hl:E l<=300):
  aZ B w0 249 [br g,ah s] F (λr L=>r=ah ((l.getD s 0).toNat:Int)∧L=F):=by
 refine fw func249 12 [0,1] ?_;refine H5 ?_;refine ai rfl (afb yZ hs hl) (bF ?_);exact⟨rfl,rfl⟩
theorem Tt(hg:Good l)(yZ:x_ B w0 F g l){s:Nat}(hs:s<E l)(h0:(l.getD s 0).toNat≠0)(hq:E q<=7000000):
  aZ B w0 205 [br g,br g2,ah s] (Wx X g2 bt A c q F) (λr L=>r=ah 0∧∃A' c',L=Wx X g2 bt A' c' (q++hw l s) F):=by
 have hl:=hg.1.1;obtain⟨A1,c1,A2,c2,SY,hm,qJ,pB,hsy,M3⟩:=yZ.co;obtain⟨f,Bm⟩:=na.qj hm;have hcv:=N1 hg hs h0;have avn:=hg.1.2 _ (bj hs 0);have yh:=Sw hg hs h0;have mP:=zE hs rfl;have RK:=rN hg (k:=(l.getD s 0).toNat) aa avn;have hcc:(ints .u16 (gz l))[s*1]? =some (.int .u16 ((place l (l.getD s 0).toNat s:Nat):Int)):=by
  rw[cH,<-hcv,<-xo l hs];simp[ints,List.getD,fc (show s<E (gz l) by simpa using hs)]
 refine fw func205 33 [0,1,2] ?_;refine anU ?_;refine ai rfl (aeF yZ.cons.cons hs hl) (bB ?_);refine dw λjU=>?_;refine b7 ?_;refine cE F ?_;refine ae 0 ?_;refine ae 1 ?_;refine ae 2 ?_;refine ae 3 ?_;refine ae 4 ?_;refine aU 5 rfl (bQ ag rfl Bm rfl) (ae 6 ?_);refine ae 7 ?_;refine aU 8 rfl (au ag rfl pB aa hcc) (aU 9 rfl (bm underlying57 underlying60 rfl (r:=((place l (l.getD s 0).toNat s:Nat):Int)) (gj aa aa)) (ae 10 ?_));refine ae 11 ?_;refine aA 12 (js rfl rfl (aeF yZ.cons.cons hs hl) (aA 13 (gN rfl .no Es rfl (Cc q (place l (l.getD s 0).toNat s) aa (l.getD s 0).toNat aa aa hq) rfl (by rintro _ _ ⟨rfl,MP,MX,rfl⟩;exact gD) ?_)));rintro _ _ ⟨rfl,MP,MX,cO⟩;obtain rfl:=cO.symm;refine ae 14 ?_;refine cP [6] ?_;refine bE ?_;exact⟨rfl,MP,MX,rfl⟩
end
section
variable{l:al}
theorem aag{p m f k s:Nat}(hk:k<=m)(h:oe l (part q p k) k=some s):og l q p m (f+1) k=some (s,k):=by
 rw[og,aw aa,h]
theorem aeA{p m f k:Nat}(hk:k<=m)(h:oe l (part q p k) k=none):og l q p m (f+1) k=og l q p m f (k+1):=by
 rw[og,aw aa,h]
theorem aaf{p m f k:Nat}(hk:m<k):og l q p m f k=none:=by
 cases f with
 |zero=>rfl
 |succ f=>rw[og,ao hk]
theorem aeC{p s k:Nat}(h:og l q p (there q p) 15 1=some (s,k)):fM l q p=((s:Int),0,p+k):=by
 unfold fM;rw[h]
theorem ajC{p:Nat}(h:og l q p (there q p) 15 1=none):fM l q p=(-1,if there q p<15∧ael l (part q p (there q p)) (there q p)=true then 1 else 7,p):=by
 unfold fM;rw[h]
theorem Qf(q:List Bool)(p:Nat){k:Nat}(hk:k<=15){e:Int}(he:e=((15-k:Nat):Int)):((part q p 15:Nat):Int).fdiv (2^min e.toNat IntKind.u64.bits)=((part q p k:Nat):Int):=by
 have:=GK (part q p 15) (x:=e) (e:=15-k) he aa;rw[this];have h2:=qm q p k (15-k);rw[show k+(15-k)=15 by omega]at h2;rw[h2]
theorem an'(yZ:x_ B w0 F g l)(hl:E l<=300){p:Nat}(hp:p<=E q)(hq:E q<=8000000):
  aZ B w0 347 [br g,br g2] (Rr g2 A c q p F) (λr L=>r= .tuple #[ah (fM l q p).1,ah (fM l q p).2.1]∧L=Rr g2 A c q (fM l q p).2.2 F):=by
 have hth:there q p<=15∧p+there q p<=E q:=by unfold there;omega
 have hpn:pkN q p 15=(there q p:Int):=by unfold pkN there;rw[aw aa];omega
 have hpv:pkV q p 15=part q p 15:=by unfold pkV;rw[aw aa];rfl
 have mP:∀k,k<=15->part q p k<32768:=λk hk=>uT (qU q p k) (gJ (n:=2) aa hk);have Am:=apg (B:=B) (w0:=w0) (F:=F) (A:=A) (c:=c) (g:=g2) q p hp hq 15 aa aa;rw[hpn,hpv]at Am;refine fw func347 49 [0,1] ?_;refine Bh ?_;refine ai rfl (Am) (ei ?_);refine aD (λzf zL zm=>∃(k fu:Nat),(1<=k∧k<=16∧16<=k+fu∧og l q p (there q p) fu k=og l q p (there q p) 15 1)∧16-k=zm∧Sub zf [(0,br g),(1,br g2),(6,.int .u64 (part q p 15)),(7,ah (there q p)),(8,ah k)]∧Wk zL (Rr g2 A c q p F)) _ ⟨1,15,⟨gC _,aa,aa,rfl⟩,rfl,bp,.refl _⟩ ?_;rintro _ _ _ ⟨k,fu,⟨yf,Jw,hfu,xx⟩,rfl,hs,hp⟩;refine aT hs hp ?_;clear hs hp;refine bK ?_;refine aj (λju=>?_) λju=>?_
 ·obtain⟨f',rfl⟩:∃f',fu=f'+1:=⟨fu-1,aa⟩
  have asF:=mP k aa;refine bz ?_;refine ab (dv rfl rfl aa (Qf q p (k:=k) aa aa)) rfl (aF ?_);refine ai rfl (anJ (k:=k) (x:=part q p k) yZ.cons.cons hl yf aa aa) (cF ?_);refine iH (λZ3=>?_) λZ3=>?_
  ·obtain⟨s,hs⟩:=Option.isSome_iff_exists.1 Z3;rw[aag aa hs]at xx;rw[aeC xx.symm,hs];have M7:skP q p (k:Int)=p+k:=by unfold skP;rw[aw aa,aw aa];omega
   refine b7 ?_;refine ai rfl (apx q p hp hq k aa aa) ?_;rw[M7];refine ve [9] ?_;refine jt ?_;exact⟨rfl,rfl⟩
  ·refine bI ?_;refine ve [0,1,6,7,8] ?_;refine av ⟨_,aa,k+1,f',⟨aa,aa,aa,by rw[<-xx,aeA aa (by simpa using Z3)]⟩,rfl,bp,.refl _⟩
 ·rw[aaf aa]at xx;rw[ajC xx.symm];have asF:=mP (there q p) hth.1;refine bK ?_;refine bR 11 48 [] (there q p<15∧ael l (part q p (there q p)) (there q p)=true) ?_ ?_
  ·refine bE ?_;refine cD (λOS=>?_) λOS=>?_
   ·refine bK ?_;refine ab (dv rfl rfl aa (Qf q p hth.1 aa)) rfl (bE ?_);refine ai rfl (acN yZ.cons.cons hl hth.1 asF) (aF ?_);exact aL (by exact kr aqy)
   ·refine bI ?_;exact aL aqs
  ·refine bc ?_;refine aj (λS5=>?_) λS5=>?_
   ·rw[ao S5];refine bO ?_;exact⟨rfl,rfl⟩
   ·rw[aw S5];refine bz ?_;exact⟨rfl,rfl⟩
end
section
variable{l:al}
theorem aqO{P:Prop}(h:P:=by(rw[<-hma];exact an6 (iu _ _) (iM _ _) (by omega))):P:=h
theorem aqJ{P:Prop}(h:P:=by(show 34+k<_;rw[Te (iu _ _) (iM _ _) Z'];omega)):P:=h
theorem aqM{P:Prop}(h:P:=by(rw[ak4 (e':=(A69,c69,jE l s k++[s])) W_ (by simp)])):P:=h
theorem F_{s k:Nat}(hs:s<E l):num (l.take (s+1)) k=num (l.take s) k+if (l.getD s 0).toNat=k then 1 else 0:=kv k hs
theorem aae{s:Nat}(hs:s<E l)(h:(l.getD s 0).toNat=0):rQ l (s+1)=rQ l s:=by
 unfold rQ;refine qB λk _=>?_;by_cases e:k=0
 ·simp[e]
 ·rw[F_ hs,aw (show¬(l.getD s 0).toNat=k by omega),sX]
theorem Tq{s:Nat}(hs:s<E l)(h:(l.getD s 0).toNat=0):mN l (s+1)=mN l s:=by
 unfold mN;refine qB λk _=>?_;by_cases e:k=0
 ·simp[e]
 ·rw[F_ hs,aw (show¬(l.getD s 0).toNat=k by omega),sX]
theorem Tx{s:Nat}(h:(l.getD s 0).toNat=0):mQ l (s+1)=mQ l s:=by
 unfold mQ;refine qB λk _=>?_;by_cases e:k=0
 ·simp[e]
 ·rw[aw e,aw e,nM,aw aa,gl]
theorem aad{s k:Nat}(hs:s<E l)(h:(l.getD s 0).toNat=k)(h2:num (l.take s) k≠0):rQ l (s+1)=rQ l s:=by
 unfold rQ;refine qB λj _=>?_;rw[F_ hs];by_cases e:(l.getD s 0).toNat=j
 ·have:j=k:=by omega
  subst this;simp[h2]
 ·rw[aw e];rfl
theorem aez{s k:Nat}(hs:s<E l)(h:(l.getD s 0).toNat=k)(h0:k≠0)(h2:num (l.take s) k=0):(rQ l s).set k (fst l k:Int)=rQ l (s+1):=by
 apply jK
 ·simp
 ·intro i h3 h4;rw[CH];simp only[rQ,qL,w5,F_ hs];by_cases e:k=i
  ·subst e;rw[ao rfl,aw];rintro(e|e)
   ·exact h0 e
   ·rw[ao h]at e;omega
  ·rw[aw e,aw (show¬(l.getD s 0).toNat=i by omega)];rfl
theorem aai{s k:Nat}(hs:s<E l)(h:(l.getD s 0).toNat=k)(h0:k≠0):(mN l s).set k ((num (l.take s) k+1:Nat):Int)=mN l (s+1):=by
 apply jK
 ·simp
 ·intro i h3 h4;rw[CH];simp only[mN,qL,w5,F_ hs];by_cases e:k=i
  ·subst e;rw[ao rfl,aw h0,ao h]
  ·rw[aw e,aw (show¬(l.getD s 0).toNat=i by omega)];rfl
theorem aeH{s k:Nat}(h:1<=k)(h2:k<=15):(mN l s).getD k 0=(num (l.take s) k:Int):=by
 have h3:¬k=0:=by omega
 simp only[mN,ba,jw,w4 (show k<16 by omega),Dg,uX,aw h3]
theorem aak{s k:Nat}(h:(l.getD s 0).toNat=k)(h0:k≠0):(mQ l s).set k (jE l s k++[s])=mQ l (s+1):=by
 apply jK
 ·simp
 ·intro i h3 h4;rw[CH];simp only[mQ,qL,w5];by_cases e:k=i
  ·subst e;rw[ao rfl,aw h0,nM,ao h]
  ·rw[aw e];by_cases e2:i=0
   ·rw[ao e2,ao e2]
   ·rw[aw e2,aw e2,nM,aw aa,gl]
theorem hzero(l:al):rQ l 0=List.replicate 16 0∧mN l 0=List.replicate 16 0∧mQ l 0=List.replicate 16 []:=by
 refine⟨?_,?_,?_⟩
 ·simp[rQ,num];decide
 ·simp[mN,num];decide
 ·simp[mQ,jE];decide
theorem agW{SY:List sA}{s k:Nat}(h:SY.map (·.2.2)=mQ l s)(h1:1<=k)(h2:k<=15):∃(X:List sA) (A:bk) (c:Nat) (Y:List sA),SY=X++(A,c,jE l s k)::Y∧E X=k:=by
 have hl:E SY=16:=by have:=dQ List.length h;simpa using this
 have hi:k<E SY:=by omega
 have e:(SY.map (·.2.2))[k]? =some (jE l s k):=by
  rw[h];simp[mQ,show k<16 by omega,show¬k=0 by omega]
 rw[jw,fc hi]at e;simp only[Dg,FE]at e;refine⟨SY.take k,SY[k].1,SY[k].2.1,SY.drop (k+1),?_,nf⟩
 conv=>lhs;rw[<-jd k SY,LQ hi]
 rw[<-e]
theorem apF(X:List sA)(e e':sA)(Y:List sA):((X++e::Y).map kl).set (E X) (kl e')=(X++e'::Y).map kl:=by simp
theorem Ys{X Y:List sA}{A A':bk}{c c' s k:Nat}(h:(X++(A,c,jE l s k)::Y).map (·.2.2)=mQ l s)(hX:E X=k)(hk:(l.getD s 0).toNat=k)(h0:k≠0):(X++(A',c',jE l s k++[s])::Y).map (·.2.2)=mQ l (s+1):=by
 rw[<-aak hk h0,<-h,<-hX];simp
theorem ak4{X:List sA}{e e':sA}{Y:List sA}{k:Nat}{v:Value}(h:E X=k)(hv:v=kl e'):((X++e::Y).map kl).set k v=(X++e'::Y).map kl:=by
 subst h;subst hv;exact apF X e e' Y
theorem GD(X:List sA)(e:sA)(Y:List sA)(R:aR):((X++e::Y).map kj++R).Perm (kj e::(X.map kj++(Y.map kj++R))):=by
 rw[jx,kh,bX];exact By
theorem CY{C:Cx}{cd:Code}{Q:Exit->Fr->aR->Prop}{fr:Fr}{L:aR}(e:TypeId):∀(m:Nat),VC C cd Q fr (List.replicate m (.own e 1 none 0 0 [])++L)->VC C cd Q fr L
 |0,h=>h
 |m+1,h=>CY e m (a_ e 1 none h)
theorem afy(hb:fo B w0 F A c l)(hg:Good l):aZ B w0 248 [.slice A (E l) c] F (λr L=>∃g X,r= .tuple #[br g,ah 0]∧L=X++F∧x_ B w0 X g l):=by
 have hl:=hg.1.1;refine fw func248 75 [0] ?_;refine bO ?_;refine ay rfl (aiW l aB hg) λuu ya=>ei ?_;refine dw λkF=>?_;refine bF ?_;refine ay rfl (mG l aB aa) λtP vH=>aF ?_;refine ab (eZ [(0,_),(1,_)] [_,_] rfl rfl ag) rfl (ab (bx [(0,_)] [.slice none 0 0,.slice none 0 0,ah 0,ah 0,ah 0,ah 0,ah 0,ah 0,ah 0,ah 0,ah 0,ah 0,ah 0,ah 0,ah 0,ah 0,ah 0,ah 0,ah 0,ah 0,ah 0,ah 0,ah 0,ah 0,ah 0,ah 0,ah 0,ah 0,ah 0,ah 0,ah 0,ah 0,ah 0,ah 0,.slice none 0 0,.slice none 0 0,.slice none 0 0,.slice none 0 0,.slice none 0 0,.slice none 0 0,.slice none 0 0,.slice none 0 0,.slice none 0 0,.slice none 0 0,.slice none 0 0,.slice none 0 0,.slice none 0 0,.slice none 0 0,.slice none 0 0,.slice none 0 0] [0] [_,_,_,_,_,_,_,_,_,_,_,_,_,_,_,_,_,_,_,_,_,_,_,_,_,_,_,_,_,_,_,_,_,_,_,_,_,_,_,_,_,_,_,_,_,_,_,_,_,_] rfl rfl ag) rfl (bg λg22=>?_));refine bF ?_;refine CY 3 16 ?_;refine b7 ?_;refine ve [4,6,23,24,25] ?_;refine bc ?_;refine aD (λzf zL zm=>∃(s:Nat) (SY:List sA),(s<=E l∧SY.map (·.2.2)=mQ l s)∧E l-s=zm∧Sub zf [(4,.slice uu (E l) ya),(6,br g22),(23,.slice A (E l) c),(24,ah (E l)),(25,ah s)]∧Wk zL (.bG g22 347 (kV (.slice tP (E l) vH) (.slice uu (E l) ya) (rQ l s) (mN l s) (SY.map kl))::(SY.map kj++(.own 5 1 tP (E l) vH (bv l):: .own 57 1 uu (E l) ya (ints .u16 (gz l))::F)))) _ ⟨0,List.replicate 16 (none,0,[]),⟨bU _,by rw[(hzero l).2.2];rfl⟩,rfl,bp,.trans (.dK By) (bw (by rw[(hzero l).1,(hzero l).2.1];rfl) (.refl _))⟩ ?_;rintro _ _ _ ⟨s,SY,⟨hs,hSY⟩,rfl,hs,hp⟩;refine aT hs hp ?_;clear hs hp;refine bB ?_;refine aj (λqy=>?_) λqy=>?_
 ·obtain⟨k,hk⟩:=cK ((l.getD s 0).toNat);have aah:k<=15:=by rw[hk];exact hg.1.2 _ (bj aa 0)
  have hbv:(bv l)[s*1]? =some (.int .u8 (k:Int)):=by rw[hk,cH];simp[bv,List.getD,fc (show s<E l by omega)]
  have Da:=vh l s k;have awp:=xK l k;have hbS:aM B w0 (SY.map kj++(.own 5 1 tP (E l) vH (bv l):: .own 57 1 uu (E l) ya (ints .u16 (gz l))::F)) 1 (.slice A (E l) c) (E l) (bv l):=hb.cons.cons.mono (gL _ _);have hbC:aM B w0 (SY.map kj++(.own 5 1 tP (E l) vH (bv l):: .own 57 1 uu (E l) ya (ints .u16 (gz l))::F)) 1 (.slice uu (E l) ya) (E l) (ints .u16 (gz l)):=aM.own (om _ (.tail _ (.head _)));have Z':E (SY.map kl)=16:=by have:=dQ List.length hSY;simpa using this
  refine bI ?_;refine ab (aE (i:=s) underlying27 ag rfl rfl rfl aa hbS.cons) rfl (ab (au ag rfl hbS.cons aa hbv) rfl (de ?_));refine aj (λC_=>?_) λC_=>?_
  ·have DD:(l.getD s 0).toNat=0:=by omega
   refine bK ?_;refine av ⟨_,aa,s+1,SY,⟨aa,by rw[Tx DD];exact hSY⟩,rfl,bp,bw (by rw[aae aa DD,Tq aa DD]) (.refl _)⟩
  ·have yf:1<=k:=by omega
   have hma:=aeH (l:=l) (s:=s) yf aah;refine bc ?_;refine dY (λzf zL=>Sub zf [(4,.slice uu (E l) ya),(6,br g22),(7,ah s),(8,.int .u8 (k:Int)),(23,.slice A (E l) c),(24,ah (E l)),(25,ah s)]∧Wk zL (.bG g22 347 (kV (.slice tP (E l) vH) (.slice uu (E l) ya) (rQ l (s+1)) (mN l s) (SY.map kl))::(SY.map kj++(.own 5 1 tP (E l) vH (bv l):: .own 57 1 uu (E l) ya (ints .u16 (gz l))::F)))) ?_ ?_
   ·refine bB ?_;refine ab (aP (i:=k) underlying344 ag rfl rfl rfl aa) rfl (ab (bQ (v:=ah ((num (l.take s) k:Nat):Int)) ag rfl aW aqO) rfl (bE ?_));refine aj (λDz=>?_) λDz=>?_
    ·have hn0:num (l.take s) k=0:=by omega
     have hcv:=N1 hg (s:=s) aa aa;rw[<-hk]at hcv;have mP:place l k s=fst l k:=by unfold place;omega
     rw[mP]at hcv;have hfb:=rN hg yf aah;have aws:2^k<=2^15:=gJ aa aah;have hcc:(ints .u16 (gz l))[s*1]? =some (.int .u16 ((fst l k:Nat):Int)):=by
      rw[cH,<-hcv,<-xo l aa];simp[ints,List.getD,fc (show s<E (gz l) by rw[HN];omega)]
     refine cE (SY.map kj++(.own 5 1 tP (E l) vH (bv l):: .own 57 1 uu (E l) ya (ints .u16 (gz l))::F)) ?_;refine ae 0 ?_;refine ae 1 ?_;refine ae 2 ?_;refine ae 3 ?_;refine aU 4 rfl (aE (i:=s) underlying159 ag rfl rfl rfl aa hbC) (aU 5 rfl (au ag rfl hbC aa hcc) (aU 6 rfl (bm underlying57 underlying3 rfl (r:=((fst l k:Nat):Int)) (bq aa aa)) (ae 7 ?_)));refine ae 8 ?_;refine aU 9 rfl (aP (i:=k) underlying344 ag rfl rfl rfl aa) (aA 10 (kJ rfl .no (pr ag rfl rfl rfl aW (by show 2+k<_;rw[Te (iu _ _) (iM _ _) Z'];omega)) uw ?_));rintro _ _ rfl;refine cP [4,6,7,8,23,24,25] ?_;exact bC ⟨bp,bw ((ajz (i:=k) (iu l s) aa _).trans (by rw[aez aa hk.symm aa hn0])) (.refl _)⟩
    ·refine aF ?_;exact bC ⟨bp,bw (by rw[aad aa hk.symm aa]) (.refl _)⟩
   ·rintro _ _ ⟨hs,hp⟩;refine aT hs hp ?_;clear hs hp;refine aF ?_;refine cE (SY.map kj++(.own 5 1 tP (E l) vH (bv l):: .own 57 1 uu (E l) ya (ints .u16 (gz l))::F)) ?_;refine ae 0 ?_;refine ae 1 ?_;refine ae 2 ?_;refine ae 3 ?_;refine aU 4 rfl (aP (i:=k) underlying344 ag rfl rfl rfl aa) (ae 7 ?_);refine ae 8 ?_;refine aA 5 (iL rfl .no (bQ (v:=ah ((num (l.take s) k:Nat):Int)) ag rfl aW aqO) rfl gD ?_);refine aU 6 rfl (bJ rfl rfl (r:=((num (l.take s) k+1:Nat):Int)) ((bq aa aa).trans aa)) (aU 9 rfl (aP (i:=k) underlying344 ag rfl rfl rfl aa) (aA 10 (kJ rfl .no (pr ag rfl rfl rfl aW (by show 18+k<_;rw[Te (iu _ _) (iM _ _) Z'];omega)) uw ?_)));rintro _ _ rfl;refine bc ?_;obtain⟨X,Ae,ce,Y,hXY,W_⟩:=agW hSY yf aah;subst hXY;have awy:=wk l k s aa;refine vy (L':=.bG g22 347 (kV (.slice tP (E l) vH) (.slice uu (E l) ya) (rQ l (s+1)) (mN l (s+1)) ((X++(Ae,ce,jE l s k)::Y).map kl)):: .own 3 1 Ae (E (jE l s k)) ce (bD (jE l s k))::(X.map kj++(Y.map kj++(.own 5 1 tP (E l) vH (bv l):: .own 57 1 uu (E l) ya (ints .u16 (gz l))::F)))) (.trans (bw ((ajA (i:=k) (iu l (s+1)) (iM l s) aa _).trans (by rw[aai aa hk.symm aa])) (.refl _)) (.dK ((GD X _ Y _).cons _))) (cE (X.map kj++(Y.map kj++(.own 5 1 tP (E l) vH (bv l):: .own 57 1 uu (E l) ya (ints .u16 (gz l))::F))) ?_);refine ae 0 ?_;refine ae 1 ?_;refine ae 2 ?_;refine ae 3 ?_;refine ae 4 ?_;refine ae 5 ?_;refine aU 6 rfl (aP (i:=k) underlying345 ag rfl rfl rfl aa) (ae 8 ?_);refine ae 11 ?_;refine ae 12 ?_;refine ib 7 9 ?_ ?_
    ·refine iL rfl .no (bQ (v:=.slice Ae (E (jE l s k)) ce) ag rfl aW ((an7 (i:=k) (iu _ _) (iM _ _)).trans (by simp[<-W_]))) rfl gD ?_;refine aA 9 (cX rfl (aG fT [_] rfl rfl cw aa aa) λA68=>aA 10 (fi rfl (bW fT rfl aW rfl aB cw aa aa) λA69 c69=>?_));refine aU 13 rfl (aP (i:=k) underlying345 ag rfl rfl rfl aa) (aA 14 (kJ rfl .no (pr ag rfl rfl rfl aW aqJ) uw ?_));rintro _ _ rfl;refine cP [4,6,23,24,25] ?_;refine bB ?_;refine av ⟨_,aa,s+1,X++(A69,c69,jE l s k++[s])::Y,⟨aa,Ys hSY W_ hk.symm aa⟩,rfl,bp,.trans ((gE (gE (.skip (.refl _))))) (.trans (bw ((Xb (i:=k) (iu l (s+1)) (iM l (s+1)) _).trans aqM) (az ak tC (.refl _))) (.dK ((GD X (A69,c69,jE l s k++[s]) Y _).symm.cons _)))⟩
    ·refine cX rfl (aG fT [_] rfl rfl cw aa aa) λA68=>aA 7 (iL rfl .no (bQ (v:=.slice Ae (E (jE l s k)) ce) ag rfl aW ((an7 (i:=k) (iu _ _) (iM _ _)).trans (by simp[<-W_]))) rfl gD ?_);refine aA 10 (fi rfl (bW fT rfl aW rfl aB cw aa aa) λA69 c69=>?_);refine aU 13 rfl (aP (i:=k) underlying345 ag rfl rfl rfl aa) (aA 14 (kJ rfl .no (pr ag rfl rfl rfl aW aqJ) uw ?_));rintro _ _ rfl;refine cP [4,6,23,24,25] ?_;refine bB ?_;refine av ⟨_,aa,s+1,X++(A69,c69,jE l s k++[s])::Y,⟨aa,Ys hSY W_ hk.symm aa⟩,rfl,bp,.trans ((gE (gE (.skip (.refl _))))) (.trans (bw ((Xb (i:=k) (iu l (s+1)) (iM l (s+1)) _).trans aqM) (az ak tC (.refl _))) (.dK ((GD X (A69,c69,jE l s k++[s]) Y _).symm.cons _)))⟩
 ·obtain rfl:s=E l:=by omega
  refine cY ?_;refine aq (L':=(.bG g22 347 (kV (.slice tP (E l) vH) (.slice uu (E l) ya) (rQ l (E l)) (mN l (E l)) (SY.map kl))::(SY.map kj++[.own 5 1 tP (E l) vH (bv l),.own 57 1 uu (E l) ya (ints .u16 (gz l))]))++F) (.dK ak) (aF ?_);exact⟨g22,_,rfl,rfl,⟨tP,vH,uu,ya,SY,.head _,aM.own (.tail _ (om _ (.head _))),aM.own (.tail _ (om _ (.tail _ (.head _)))),hSY,λe he=>aM.own (.tail _ (kI _ (jy (f:=kj) he)))⟩⟩
end
end Go.Proofs.YtaodmbolhoafcaaGreatDoor
