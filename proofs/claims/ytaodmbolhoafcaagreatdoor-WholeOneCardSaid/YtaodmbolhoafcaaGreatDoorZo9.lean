/-
  Texts of one proof, joined: part 9. No condition.
-/
import Derived.Test.YtaodmbolhoafcaaGreatDoorZo8
open Go.RowKit Go.Proofs.Tryz
namespace Go.Proofs.YtaodmbolhoafcaaGreatDoor
set_option linter.unusedVariables false
set_option linter.unusedSimpArgs false
set_option maxRecDepth 20000
variable{B:Nat}{w0:World}{F:aQ}{A Ao:bj}{n c co g N:Nat}{o:Nat→Nat}{D l:bf}{A1 A2:bj}{c1 c2:Nat}{L:aQ}{g2:Nat}{q:List Bool}{X:cV}{bt:TypeId}
section
theorem agD{P:Prop}(h:P:=by(rw[uL,←ha,YS (by omega)])):P:=h
def QK(a b:Nat):Int:=if a<b then-1 else if b<a then 1 else 0
theorem mf{a b:Nat}:QK a b<0↔a<b:=by
 unfold QK;split
 ·omega
 ·split<;>omega
theorem akv(a:Nat):a_ B w0 336 [.int .u32 (a:Int)] F (fun r L=>r= .bool false∧L=F):=by
 refine fw func336 6 [0] ?_;refine jk ?_;exact⟨ak,rfl⟩
theorem aoY(a b:Nat)(ha:a<4294967296)(hb:b<4294967296):a_ B w0 316 [.int .u32 (a:Int),.int .u32 (b:Int)] F (fun r L=>r=ah (QK a b)∧L=F):=by
 refine fw func316 20 [0,1] ?_;refine bI ?_;refine ai rfl (akv a) ?_;refine bz ?_;refine ai rfl (akv b) ?_;refine bO ?_;refine gZ (fun pn=>?_) fun pn=>?_
 ·exfalso;(simp at pn)
 ·refine bI ?_;refine gZ (fun mE=>?_) fun mE=>?_
  ·exfalso;(simp at mE)
  ·refine bB ?_;refine aj (fun ki=>?_) fun ki=>?_
   ·refine bI ?_;unfold QK;exact⟨by rw[ao aa],rfl⟩
   ·refine bB ?_;refine aj (fun pV=>?_) fun pV=>?_
    ·refine bA ?_;refine ve [4] ?_;refine b8 ?_;unfold QK;exact⟨by rw[aw aa,ao aa],rfl⟩
    ·refine bG ?_;refine ve [4] ?_;refine bA ?_;unfold QK;exact⟨by rw[aw aa,aw aa],rfl⟩
abbrev Sf(A:bj)(n c:Nat)(D:bf)(g:Nat)(Ao:bj)(N co:Nat)(F:aQ):aQ:=.own 3 1 A n c (bx D):: .bE g 213 [.slice Ao N co]::F
theorem FO{l:bf}{k:Nat}(h:k<l.length):(ints .u32 (l.map fun(n:Nat)=>(n:Int)))[k*1]? =some (.int .u32 ((l.getD k 0:Nat):Int)):=by
 rw[cE];simp[ints,List.getD,fm h]
structure Hg(B:Nat)(w0:World)(F:aQ)(Ao:bj)(co:Nat)(l:bf):Prop where
 xk:aK B w0 F 1 (.slice Ao l.length co) l.length (ints .u32 (l.map fun(n:Nat)=>(n:Int)))
 lt:∀k,l.getD k 0<4294967296
variable{l:bf}
abbrev oN(l:bf)(k:Nat):Nat:=l.getD k 0
theorem KB(H:Hg B w0 F Ao co l){x y:Nat}(hx:x<l.length)(hy:y<l.length):
  a_ B w0 315 [ah x,ah y,br g] (Sf A n c D g Ao l.length co F) (fun r L=>r=ah (QK (oN l x) (oN l y))∧L=Sf A n c D g Ao l.length co F):=by
 have hbo:aK B w0 (Sf A n c D g Ao l.length co F) 1 (.slice Ao l.length co) l.length (ints .u32 (l.map fun(n:Nat)=>(n:Int))):=H.xk.cons.cons;refine fw func315 15 [0,1,2] ?_;refine bB ?_;refine bZ (au ag rfl hbo aa (FO hx)) rfl ?_;refine bA ?_;refine bZ (au ag rfl hbo aa (FO hy)) rfl ?_;refine jz apA rfl (aoY (oN l x) (oN l y) (H.lt x) (H.lt y)) wB rfl ?_;refine bG ?_;exact⟨rfl,rfl⟩
def mK(P S:bf)(x:Nat)(Q:bf)(j:Nat):bf:=P++(S.take j++x::(S.drop j++Q))
theorem RS{P S Q:bf}{x k:Nat}(h:S.length=k):mK P S x Q k=P++(S++(x::Q)):=by
 unfold mK;rw[fA aa,mu aa];rfl
theorem Ek(P S:bf)(x:Nat)(Q:bf){j:Nat}(h:j≤S.length):(mK P S x Q j).length=P.length+S.length+1+Q.length:=by
 simp[mK];omega
theorem ahR{P S Q:bf}{x j i:Nat}(h:j≤S.length)(hi:i=P.length+j):(mK P S x Q j).getD i 0=x:=by
 have:=tQ (P++S.take j) x (S.drop j++Q);rw[aY,eS,zb h,←hi]at this;unfold mK;simpa using this
theorem YR{P S Q:bf}{x j i:Nat}(h:j+1≤S.length)(hi:i=P.length+j):(mK P S x Q (j+1)).getD i 0=S.getD j 0:=by
 have:=tQ (P++S.take j) (S.getD j 0) (x::(S.drop (j+1)++Q));rw[aY,eS,zb aa,←hi]at this;unfold mK;rw[ba aa 0];simpa using this
theorem YS{P S Q:bf}{x j:Nat}(h:j+1≤S.length):Z5 (mK P S x Q (j+1)) (P.length+(j+1)) (P.length+j)=mK P S x Q j:=by
 have:=anK (P++S.take j) (S.getD j 0) [] x (S.drop (j+1)++Q) (i:=P.length+j) (j:=P.length+(j+1)) (by rw[aY,eS];omega) (by rw[aY,eS,sd];omega);unfold mK;rw[ba aa 0,dx (l:=S) (k:=j) aa 0];simpa using this
theorem NJ{o:Nat→Nat}{P R Q:bf}{x k j:Nat}(hr:Ri R)(hk:k<R.length)(hx:x=R.getD k 0)(hj:j≤k)(h1:∀i,j=i+1→¬o x<o ((cU o (R.take k)).getD i 0))(h2:∀y∈(cU o (R.take k)).drop j,o x<o y):
  mK P (cU o (R.take k)) x Q j=P++(cU o (R.take (k+1))++Q):=by
 have ua:R.take (k+1)=R.take k++[x]:=by rw[hx];exact ba hk 0
 have vF:Ri (R.take k++[x]):=ua▸hr.sublist (Kx _ _);have hn:(R.take k).Nodup:=(hr.sublist (Kx k R)).imp fun h=>by omega
 have hl:(cU o (R.take k)).length=k:=by rw[gV,eS];omega
 have:=amu (o:=o) (k:=j) vF (fun y hy=>by
  cases j with
  |zero=>simp at hy
  |succ i=>
   refine WH (lA o hn) aa ?_ y hy;have hm:(cU o (R.take k)).getD i 0∈R.take k:=fV.1 (bg aa 0);have fN:(cU o (R.take k)).getD i 0<x:=(sZ.1 vF).2.2 _ hm x ak;have:=h1 i rfl;unfold tD;omega) (fun y hy=>.inl (h2 y hy))
 unfold mK;rw[ua,←this];simp[bV]
theorem ahS{o:Nat→Nat}{P R Q:bf}:P++(cU o (R.take 1)++(R.drop 1++Q))=P++(R++Q):=by
 cases R with
 |nil=>rfl
 |cons x r=>rfl
theorem gb{L:bf}{i v:Nat}(h:i<L.length)(e:L.getD i 0=v):(bx L)[i*1]? =some (ah ((v:Nat):Int)):=by
 rw[fB h,e]
theorem uL{D:bf}{i j:Nat}:((bx D).set (i*1) (ah ((D.getD j 0:Nat):Int))).set (j*1) (ah ((D.getD i 0:Nat):Int))=bx (Z5 D i j):=by
 simp[bx,Z5,Kw]
theorem S0{a b n nn:Nat}{fv:Value}(Qa:D.length=nn)(ha:a+n≤nn)(hb:b+n≤nn)(hD:nn≤1000000)(hn:0<n):
  a_ B w0 355 [.slice A nn c,ah a,ah b,ah n,fv] (.own 3 1 A nn c (bx D)::F) (fun r L=>r= .tuple #[]∧L= .own 3 1 A nn c (bx (Z6 D a b n))::F):=by
 subst Qa;refine cm func355 38 rfl rfl rfl [(0,.slice A D.length c),(1,ah a),(2,ah b),(3,ah n),(4,fv)] ⟨⟨rfl,rfl⟩,⟨rfl,rfl⟩,⟨rfl,rfl⟩,⟨rfl,rfl⟩,⟨rfl,rfl⟩,trivial⟩ ?_;refine bz ?_;refine aE (fun zf zL zm=>∃(i:Nat),(i≤n)∧n-i=zm∧Sub zf [(0,.slice A D.length c),(1,ah a),(2,ah b),(3,ah n),(10,ah i)]∧Wk zL (.own 3 1 A D.length c (bx (Z6 D a b i))::F)) _ ⟨0,bS _,rfl,bp,.refl _⟩ ?_;rintro _ _ _ ⟨i,hi,rfl,hs,hp⟩;refine aU hs hp ?_;clear hs hp;refine bI ?_;refine aj (fun mE=>?_) fun mE=>?_
 ·have nS:=WK D a b i;refine b8 ?_;refine kJ (A:=A) (n:=D.length) (xs:=bx (Z6 D a b i)) (.head _) aa ?_;intro ad hA;subst hA;refine cF F ?_;refine ae 0 ?_;refine ae 1 ?_;refine ae 2 ?_;refine ae 3 ?_;refine ae 4 ?_;refine ae 5 ?_;refine ae 6 ?_;refine ae 7 ?_;refine ae 8 ?_;refine ae 9 ?_;refine ae 10 ?_;refine ae 11 ?_;refine aW 12 rfl (aO (size:=1) (i:=b+i) underlying53 ag rfl rfl aa aa) ?_;refine ae 14 ?_;refine ae 15 ?_;refine ae 16 ?_;refine ae 17 ?_;refine aW 18 rfl (aO (size:=1) (i:=a+i) underlying53 ag rfl rfl aa aa) ?_;refine gS 13 19 ?_ ?_
  ·refine iL rfl .no (au ag rfl aA aa (fB aa)) rfl gD ?_;refine az 19 ?_;refine iL rfl .no (au ag rfl aA aa (fB aa)) rfl gD ?_;refine aW 20 rfl (aO (size:=1) (i:=a+i) underlying53 ag rfl rfl aa aa) ?_;refine az 21 ?_;refine aF ?_;refine aW 22 rfl (aO (size:=1) (i:=b+i) underlying53 ag rfl rfl aa aa) ?_;refine az 23 ?_;refine aF ?_;refine cQ [0,1,2,3,10] ?_;refine bK ?_;refine av ⟨_,aa,i+1,aa,rfl,bp,ax rfl uL (.refl _)⟩
  ·refine iL rfl .no (au ag rfl aA aa (fB aa)) rfl gD ?_;refine az 13 ?_;refine iL rfl .no (au ag rfl aA aa (fB aa)) rfl gD ?_;refine aW 20 rfl (aO (size:=1) (i:=a+i) underlying53 ag rfl rfl aa aa) ?_;refine az 21 ?_;refine aF ?_;refine aW 22 rfl (aO (size:=1) (i:=b+i) underlying53 ag rfl rfl aa aa) ?_;refine az 23 ?_;refine aF ?_;refine cQ [0,1,2,3,10] ?_;refine bK ?_;refine av ⟨_,aa,i+1,aa,rfl,bp,ax rfl uL (.refl _)⟩
 ·obtain rfl:i=n:=by omega
  refine bz ?_;exact⟨rfl,rfl⟩
theorem NK(H:Hg B w0 F Ao co l){P R Q:bf}{a b:Nat}(ha:P.length=a)(hb:a+R.length=b)(hn:b+Q.length=n)(tY:n≤1000000)(hr:Ri R)(hN:∀x∈R,x<l.length):
  a_ B w0 344 [.slice A n c,ah a,ah b,.func (.func 315) #[] #[br g]] (Sf A n c (P++(R++Q)) g Ao l.length co F)
   (fun r L=>r= .tuple #[]∧L=Sf A n c (P++(cU (oN l) R++Q)) g Ao l.length co F):=by
 refine fw func344 53 [0,1,2,3] ?_;refine bI ?_;refine aE (fun zf zL zm=>∃(k:Nat),(1≤k∧k≤max 1 R.length)∧R.length-k=zm∧Sub zf [(0,.slice A n c),(1,ah a),(2,ah b),(3,.func (.func 315) #[] #[br g]),(8,ah (a+k:Nat))]∧Wk zL (Sf A n c (P++(cU (oN l) (R.take k)++(R.drop k++Q))) g Ao l.length co F)) _ ⟨1,⟨gi _,aa⟩,rfl,bp,ax rfl (by rw[ahS]) (.refl _)⟩ ?_;rintro _ _ _ ⟨k,⟨xp,Ir⟩,rfl,hs,hp⟩;refine aU hs hp ?_;clear hs hp;refine bI ?_;refine aj (fun jZ=>?_) fun jZ=>?_
 ·have B_:k<R.length:=by omega
  obtain⟨x,hxe⟩:=cK (R.getD k 0);have hx:x<l.length:=by rw[hxe];exact hN _ (bg B_ 0)
  have hdk:R.drop k=x::R.drop (k+1):=by rw[hxe];exact dx B_ 0
  obtain⟨S,hS⟩:=cK (cU (oN l) (R.take k));have Ce:(R.take k).length=k:=by rw[eS];omega
  have Yv:S.length=k:=by rw[hS,gV,Ce]
  have hSN:∀y∈S,y<l.length:=fun y hy=>hN y (l6 (fV.1 (hS▸hy)));refine cZ ?_;refine aE (fun zf zL zm=>∃(j:Nat),(j≤k∧∀y∈S.drop j,oN l x<oN l y)∧j=zm∧Sub zf [(0,.slice A n c),(1,ah a),(2,ah b),(3,.func (.func 315) #[] #[br g]),(8,ah (a+k:Nat)),(9,ah (a+j:Nat))]∧Wk zL (Sf A n c (mK P S x (R.drop (k+1)++Q) j) g Ao l.length co F)) _ ⟨k,⟨gi _,by rw[mu aa];exact fun y h=>kl⟩,rfl,bp,ax rfl (by rw[RS Yv,hdk,hS];rfl) (.refl _)⟩ ?_;rintro _ _ _ ⟨j,⟨hj,hjy⟩,rfl,hs,hp⟩;refine aU hs hp ?_;clear hs hp;refine be ?_;refine cF _ ?_;refine ae 0 ?_;refine ae 1 ?_;refine ae 2 ?_;refine ae 3 ?_;refine af6 21 rfl (fun l0=>?_) (fun l0=>?_)
  ·obtain⟨i,rfl⟩:∃i,j=i+1:=⟨j-1,aa⟩
   have YF:=Ek P S x (R.drop (k+1)++Q) (j:=i+1) aa;rw[aY,iG]at YF;have hyl:S.getD i 0<l.length:=hSN _ (bg aa 0);refine ji 4 rfl ag ag ag rfl rfl (dV rfl) rfl ?_;refine ji 5 rfl ag ag ag rfl rfl (dV rfl) rfl ?_;refine ji 6 rfl ag ag ag rfl rfl (dV rfl) rfl ?_;refine ji 7 rfl ag ag ag rfl rfl (aC (i:=a+(i+1)) underlying53 ag rfl rfl aa aa aA) rfl ?_;refine ji 8 rfl ag ag ag rfl rfl (au ag rfl aA aa (gb (v:=x) aa (ahR aa aa))) rfl ?_;refine ji 9 rfl ag ag ag rfl rfl (dV rfl) rfl ?_;refine ji 10 rfl ag ag ag rfl rfl (dV rfl) rfl ?_;refine ji 11 rfl ag ag ag rfl rfl (dw rfl rfl (bF aa aa)) rfl ?_;refine ji 12 rfl ag ag ag rfl rfl (aC (i:=a+i) underlying53 ag rfl rfl aa aa aA) rfl ?_;refine ji 13 rfl ag ag ag rfl rfl (au ag rfl aA aa (gb (v:=S.getD i 0) aa (YR aa aa))) rfl ?_;refine az 14 ?_;refine pK rfl (.yes rfl rfl) Ux rfl rfl (KB H hx hyl) rfl Qw ?_;rintro _ _ ⟨rfl,cA⟩;obtain rfl:=cA.symm;refine ji 15 rfl ag ag ag rfl rfl (xN rfl rfl) rfl ?_;refine ae 16 ?_;refine be ?_;refine aj (fun GF=>?_) fun GF=>?_
   ·refine b8 ?_;refine kJ (A:=A) (n:=n) (xs:=bx (mK P S x (R.drop (k+1)++Q) (i+1))) (.head _) aa ?_;intro ad hA;subst hA;refine cF (.bE g 213 [.slice Ao l.length co]::F) ?_;refine ae 0 ?_;refine ae 1 ?_;refine ae 2 ?_;refine ae 3 ?_;refine ae 4 ?_;refine ae 5 ?_;refine ae 6 ?_;refine ae 7 ?_;refine aW 8 rfl (aO (size:=1) (i:=a+i) underlying53 ag rfl rfl aa aa) ?_;refine ae 10 ?_;refine ae 11 ?_;refine aW 12 rfl (aO (size:=1) (i:=a+(i+1)) underlying53 ag rfl rfl aa aa) ?_;refine gS 9 13 ?_ ?_
    ·refine iL rfl .no (au ag rfl aA aa (fB aa)) rfl gD ?_;refine az 13 ?_;refine iL rfl .no (au ag rfl aA aa (fB aa)) rfl gD ?_;refine aW 14 rfl (aO (size:=1) (i:=a+(i+1)) underlying53 ag rfl rfl aa aa) ?_;refine az 15 ?_;refine aF ?_;refine aW 16 rfl (aO (size:=1) (i:=a+i) underlying53 ag rfl rfl aa aa) ?_;refine az 17 ?_;refine aF ?_;refine cQ [0,1,2,3,8,9] ?_;refine bK ?_;refine av ⟨_,aa,i,⟨aa,fun y hy=>by
      rw[dx (l:=S) aa 0]at hy;rcases fk.1 hy with e|e
      ·rw[e];exact mf.1 GF
      ·exact hjy y e⟩,rfl,bp,ax rfl agD (.refl _)⟩
    ·refine iL rfl .no (au ag rfl aA aa (fB aa)) rfl gD ?_;refine az 9 ?_;refine iL rfl .no (au ag rfl aA aa (fB aa)) rfl gD ?_;refine aW 14 rfl (aO (size:=1) (i:=a+(i+1)) underlying53 ag rfl rfl aa aa) ?_;refine az 15 ?_;refine aF ?_;refine aW 16 rfl (aO (size:=1) (i:=a+i) underlying53 ag rfl rfl aa aa) ?_;refine az 17 ?_;refine aF ?_;refine cQ [0,1,2,3,8,9] ?_;refine bK ?_;refine av ⟨_,aa,i,⟨aa,fun y hy=>by
      rw[dx (l:=S) aa 0]at hy;rcases fk.1 hy with e|e
      ·rw[e];exact mf.1 GF
      ·exact hjy y e⟩,rfl,bp,ax rfl agD (.refl _)⟩
   ·refine bB ?_;refine ve [0,1,2,3,8] ?_;refine av ⟨_,aa,k+1,⟨aa,aa⟩,rfl,bp,ax rfl (by rw[hS,NJ (o:=oN l) hr B_ hxe aa (fun q hq=>by injection hq with hq;rw[←hq,←hS];exact fun h=>GF (mf.2 h)) (by rw[←hS];exact hjy)]) (.refl _)⟩
  ·refine iy 4 rfl ag ag ag rfl rfl rfl rfl ?_;refine iy 5 rfl ag ag ag rfl rfl rfl rfl ?_;refine iy 6 rfl ag ag ag rfl rfl rfl rfl ?_;refine iy 7 rfl ag ag ag rfl rfl rfl rfl ?_;refine iy 8 rfl ag ag ag rfl rfl rfl rfl ?_;refine iy 9 rfl ag ag ag rfl rfl rfl rfl ?_;refine iy 10 rfl ag ag ag rfl rfl rfl rfl ?_;refine iy 11 rfl ag ag ag rfl rfl rfl rfl ?_;refine iy 12 rfl ag ag ag rfl rfl rfl rfl ?_;refine iy 13 rfl ag ag ag rfl rfl rfl rfl ?_;refine iy 14 rfl ag ag ag rfl rfl rfl rfl ?_;refine iy 15 rfl ag ag ag rfl rfl rfl rfl ?_;refine ae 16 ?_;refine dc ?_;refine ve [0,1,2,3,8] ?_;refine av ⟨_,aa,k+1,⟨aa,aa⟩,rfl,bp,ax rfl (by rw[hS,NJ (o:=oN l) hr B_ hxe aa (fun q hq=>aa) (by rw[←hS];exact hjy)]) (.refl _)⟩
 ·rw[fA aa,mu aa];refine bz ?_;exact⟨rfl,rfl⟩
end
theorem atv{P X Y Q:bf}(h:Y.length<X.length):Z6 (P++(X++(Y++Q))) P.length (P.length+X.length) Y.length=(P++Y)++(X.drop Y.length++(X.take Y.length++Q)):=by
 have hl:(X.take Y.length).length=Y.length:=by rw[eS];omega
 have:=K7 P (X.take Y.length) (X.drop Y.length) Y Q (a:=P.length) (b:=P.length+X.length) (n:=Y.length) rfl (by rw[hl,iG];omega) hl hl.symm;rw[←bV (X.take Y.length),jJ]at this;rw[this,bV]
theorem atw{P X Y Q:bf}(h:X.length<Y.length):Z6 (P++(X++(Y++Q))) P.length (P.length+Y.length) X.length=P++(Y.drop (Y.length-X.length)++(Y.take (Y.length-X.length)++(X++Q))):=by
 have hl:(Y.drop (Y.length-X.length)).length=X.length:=by rw[iG];omega
 have:=K7 P X (Y.take (Y.length-X.length)) (Y.drop (Y.length-X.length)) Q (a:=P.length) (b:=P.length+Y.length) (n:=X.length) rfl nx hl.symm rfl;rw[←bV (Y.take (Y.length-X.length)),jJ]at this;rw[this]
theorem atx{P X Y Q:bf}(h:X.length=Y.length):Z6 (P++(X++(Y++Q))) P.length (P.length+X.length) X.length=P++(Y++(X++Q)):=
 K7 P X [] Y Q rfl ak h rfl
theorem aeC{P X Y Q:bf}{a m b:Nat}{fv:Value}(ha:P.length=a)(hm:a+X.length=m)(hb:m+Y.length=b)(hn:b+Q.length=n)(tY:n≤1000000)(hX:0<X.length)(hY:0<Y.length):
  a_ B w0 349 [.slice A n c,ah a,ah m,ah b,fv] (.own 3 1 A n c (bx (P++(X++(Y++Q))))::F)
   (fun r L=>r= .tuple #[]∧L= .own 3 1 A n c (bx (P++(Y++(X++Q))))::F):=by
 refine fw func349 58 [0,1,2,3,4] ?_;refine tS ?_;refine aE (fun zf zL zm=>∃(P' X' Y' Q':bf),(P'.length+X'.length=m∧m+Y'.length+Q'.length=n∧0<X'.length∧0<Y'.length∧P'++(Y'++(X'++Q'))=P++(Y++(X++Q)))∧X'.length+Y'.length=zm∧Sub zf [(0,.slice A n c),(2,ah m),(4,fv),(10,ah X'.length),(11,ah Y'.length)]∧Wk zL (.own 3 1 A n c (bx (P'++(X'++(Y'++Q'))))::F)) _ ⟨P,X,Y,Q,⟨aa,aa,hX,hY,rfl⟩,rfl,bp,.refl _⟩ ?_;rintro _ _ _ ⟨P',X',Y',Q',⟨h1,h2,h3,h4,h5⟩,rfl,hs,hp⟩;refine aU hs hp ?_;clear hs hp;refine bI ?_;refine aj (fun iM=>?_) fun iM=>?_
 ·refine bB ?_;refine aj (fun m7=>?_) fun m7=>?_
  ·have hr:=atv (P:=P') (X:=X') (Y:=Y') (Q:=Q') aa;rw[h1]at hr;have hd1:(X'.drop Y'.length).length=X'.length-Y'.length:=iG;have Yz:(X'.take Y'.length).length=Y'.length:=by rw[eS];omega
   have hd3:(P'++Y').length=P'.length+Y'.length:=aY;refine bG ?_;refine ab (dw rfl rfl ((bF aa aa).trans (show _=((P'.length:Nat):Int) by omega))) rfl ?_;refine bA ?_;refine ai rfl (S0 (a:=P'.length) (b:=m) (n:=Y'.length) bR aa aa tY h4) ?_;refine bK ?_;refine ve [0,2,4,10,11] ?_;refine aF ?_;refine av ⟨_,aa,P'++Y',X'.drop Y'.length,X'.take Y'.length,Q',⟨aa,aa,aa,aa,by rw[←h5,bV,←bV (X'.take Y'.length),jJ]⟩,rfl,bp,ax rfl (by rw[hr]) (.refl _)⟩
  ·have hr:=atw (P:=P') (X:=X') (Y:=Y') (Q:=Q') aa;have hd1:(Y'.drop (Y'.length-X'.length)).length=X'.length:=by rw[iG];omega
   have Yz:(Y'.take (Y'.length-X'.length)).length=Y'.length-X'.length:=by rw[eS];omega
   have hd3:(X'++Q').length=X'.length+Q'.length:=aY;refine bG ?_;refine ab (dw rfl rfl ((bF aa aa).trans (show _=((P'.length:Nat):Int) by omega))) rfl ?_;refine b8 ?_;refine ab (dw rfl rfl ((bF aa aa).trans (show _=((P'.length+Y'.length:Nat):Int) by omega))) rfl ?_;refine be ?_;refine ai rfl (S0 (a:=P'.length) (b:=P'.length+Y'.length) (n:=X'.length) bR aa aa tY h3) ?_;refine ve [0,2,4,10,11] ?_;refine bI ?_;refine av ⟨_,aa,P',Y'.drop (Y'.length-X'.length),Y'.take (Y'.length-X'.length),X'++Q',⟨aa,aa,aa,aa,by rw[←h5,←bV (Y'.take (Y'.length-X'.length)),jJ]⟩,rfl,bp,ax rfl (by rw[hr]) (.refl _)⟩
 ·have hr:=atx (P:=P') (X:=X') (Y:=Y') (Q:=Q') aa;rw[h1]at hr;refine bO ?_;refine ab (dw rfl rfl ((bF aa aa).trans (show _=((P'.length:Nat):Int) by omega))) rfl ?_;refine bA ?_;refine ai rfl (S0 (a:=P'.length) (b:=m) (n:=X'.length) bR aa aa tY h3) ?_;refine bA ?_;rw[hr,h5];exact⟨rfl,rfl⟩
section
set_option maxHeartbeats 1000000
theorem Vw{P S Q:bf}{x j:Nat}(h:j+1≤S.length):Z5 (mK P S x Q j) (P.length+j) (P.length+(j+1))=mK P S x Q (j+1):=by
 have:=SZ (P++S.take j) x [] (S.getD j 0) (S.drop (j+1)++Q) (i:=P.length+j) (j:=P.length+(j+1)) (by rw[aY,eS];omega) (by rw[aY,eS,sd];omega);unfold mK;rw[ba aa 0,dx (l:=S) (k:=j) aa 0];simpa using this
theorem oI{P S Q:bf}{i k:Nat}(h:k<S.length)(hi:i=P.length+k):(P++(S++Q)).getD i 0=S.getD k 0:=by
 have:=tQ (P++S.take k) (S.getD k 0) (S.drop (k+1)++Q);rw[aY,eS,zb aa,←hi]at this;have e:S=S.take k++(S.getD k 0::S.drop (k+1)):=by rw[←dx h 0,jJ]
 conv=>lhs;rw[e]
 simpa using this
structure Mg(l P U V Q:bf)(a m b n:Nat):Prop where
 ha:P.length=a
 hm:a+U.length=m
 hb:m+V.length=b
 hn:b+Q.length=n
 tY:n≤1000000
 hU:0<U.length
 hV:0<V.length
 sU:tA (oN l) U
 sV:tA (oN l) V
 lt:∀u∈U,∀v∈V,u<v
 nd:(U++V).Nodup
 N:∀x∈U++V,x<l.length
theorem Oz{S:bf}(hs:tA o S){k w:Nat}(hk:k<S.length)(h:o (S.getD k 0)<w):∀y∈S.take (k+1),o y<w:=fun y hy=>by
 obtain⟨i,hi,rfl⟩:=j0 hy;rw[eS]at hi;rw[Eu];rw[bk,fm hk,vI]at h;by_cases e:i=k
 ·subst e;exact h
 ·have:=rj.1 hs i k aa hk aa;unfold tD at this;omega
theorem Oy{S:bf}(hs:tA o S){k w:Nat}(hk:k<S.length)(h:w≤o (S.getD k 0)):∀y∈S.drop k,w≤o y:=fun y hy=>by
 obtain⟨i,hi,rfl⟩:=j0 hy;rw[iG]at hi;rw[List.getElem_drop];rw[bk,fm hk,vI]at h;by_cases e:i=0
 ·subst e;exact h
 ·have:=rj.1 hs k (k+i) hk aa aa;unfold tD at this;omega
theorem Iy{P S Q T:bf}{x i:Nat}(hs:tA o S)(hn:T.Nodup)(hT:∀y,y∈T↔y=x∨y∈S)(h1:∀y∈S.take i,tD o y x)(h2:∀y∈S.drop i,tD o x y):mK P S x Q i=P++(cU o T++Q):=by
 have:S.take i++x::S.drop i=cU o T:=by
  refine tA.pG (adk hs h1 h2) hn fun y=>?_;rw[hT,dz,fk];have e:y∈S↔y∈S.take i∨y∈S.drop i:=by
   conv=>lhs;rw[←jJ i S]
   exact dz
  rw[e];constructor
  ·rintro(h|h|h)
   ·exact .inr (.inl h)
   ·exact .inl h
   ·exact .inr (.inr h)
  ·rintro(h|h|h)
   ·exact .inr (.inl h)
   ·exact .inl h
   ·exact .inr (.inr h)
 unfold mK;rw[←this];simp[bV]
abbrev PV(g:Nat):Value:=.func (.func 315) #[] #[br g]
def LW(l P U V Q:bf)(A:bj)(n c g:Nat)(Ao:bj)(co:Nat)(F:aQ)(r:Value)(L:aQ):Prop:=r= .tuple #[]∧L=Sf A n c (P++(cU (oN l) (U++V)++Q)) g Ao l.length co F
theorem ari(H:Hg B w0 F Ao co l){P U V Q:bf}{a m b:Nat}(M:Mg l P U V Q a m b n)(h1:U.length=1):
  a_ B w0 345 [.slice A n c,ah a,ah m,ah b,PV g] (Sf A n c (P++(U++(V++Q))) g Ao l.length co F) (LW l P U V Q A n c g Ao co F):=by
 unfold LW;obtain⟨ha,hm,hb,hn,tY,hU,hV,sU,sV,lt,nd,hN⟩:=M;obtain⟨u,rfl⟩:∃u,U=[u]:=by
  match U,h1 with
  |[u],_=>exact⟨u,rfl⟩
 have za:u<l.length:=hN u ak;have hD0:(P++([u]++(V++Q))).length=n:=by simp;omega
 have hgu:(P++([u]++(V++Q))).getD a 0=u:=oI (S:=[u]) (k:=0) ak aa;refine fw func345 220 [0,1,2,3,4] ?_;refine bO ?_;refine aj (fun qF=>?_) fun qF=>?_
 ·refine dQ ?_;refine aE (fun zf zL zm=>∃(i j:Nat),(i≤j∧j≤V.length∧(∀y∈V.take i,oN l y<oN l u)∧(∀y∈V.drop j,oN l u≤oN l y))∧j-i=zm∧Sub zf [(0,.slice A n c),(1,ah a),(4,PV g),(10,ah (m+i:Nat)),(11,ah (m+j:Nat))]∧Wk zL (Sf A n c (P++([u]++(V++Q))) g Ao l.length co F)) _ ⟨0,V.length,⟨bS _,gi _,ak,by rw[BI];simp⟩,rfl,bp,.refl _⟩ ?_;rintro _ _ _ ⟨i,j,⟨Iq,hj,P_,hhi⟩,rfl,hs,hp⟩;refine aU hs hp ?_;clear hs hp;refine bI ?_;refine aj (fun h33=>?_) fun h33=>?_
  ·obtain⟨h,hh⟩:∃h,m+h=(m+i+(m+j))/2:=⟨(m+i+(m+j))/2-m,aa⟩
   have Vi:h<V.length:=by omega
   have YK:V.getD h 0<l.length:=hN _ (nF _ (bg Vi 0));refine bK ?_;refine ab (bX rfl rfl (r:=((m+i+(m+j):Nat):Int)) ((bF aa aa).trans aa)) rfl ?_;refine aF ?_;refine ab (dj rfl rfl aa (Kj (m+i+(m+j)))) rfl ?_;refine ab (bm underlying192 underlying3 rfl (r:=((m+h:Nat):Int)) ((bF aa aa).trans aa)) rfl ?_;refine b8 ?_;refine cF _ ?_;refine ae 0 ?_;refine ae 1 ?_;refine ae 2 ?_;refine aW 3 rfl (aC (i:=m+h) underlying53 ag rfl rfl aa aa aA) ?_;refine aW 4 rfl (au ag rfl aA aa (gb (v:=V.getD h 0) aa (by rw[←bV];exact oI Vi bR))) ?_;refine ae 5 ?_;refine ae 6 ?_;refine ae 7 ?_;refine aW 8 rfl (au ag rfl aA aa (gb (v:=u) aa hgu)) ?_;refine az 9 ?_;refine pK rfl .no Ux rfl rfl (KB H YK za) rfl Qw ?_;rintro _ _ ⟨rfl,cA⟩;obtain rfl:=cA.symm;refine ae 10 ?_;refine cQ [0,1,4,10,11,12,50] ?_;refine aF ?_;refine aj (fun Il=>?_) fun Il=>?_
   ·refine bz ?_;refine av ⟨_,aa,h+1,j,⟨aa,hj,Oz sV Vi (mf.1 Il),hhi⟩,rfl,bp,.refl _⟩
   ·refine bG ?_;refine av ⟨_,aa,i,h,⟨aa,aa,P_,Oy sV Vi (yf fun k=>Il (mf.2 k))⟩,rfl,bp,.refl _⟩
  ·obtain rfl:i=j:=by omega
   have tX:mK P V u Q i=P++(cU (oN l) ([u]++V)++Q):=Iy sV nd (fun y=>ak) (fun y hy=>.inl (P_ y hy)) (fun y hy=>by
    have:=hhi y hy;have:=lt u ak y (rk hy);unfold tD;omega)
   refine dc ?_;refine aE (fun zf zL zm=>∃(d:Nat),(d≤i)∧i-d=zm∧Sub zf [(0,.slice A n c),(10,ah (m+i:Nat)),(13,ah (a+d:Nat))]∧Wk zL (Sf A n c (mK P V u Q d) g Ao l.length co F)) _ ⟨0,bS _,rfl,bp,ax rfl (by simp[mK]) (.refl _)⟩ ?_;rintro _ _ _ ⟨d,hd,rfl,hs,hp⟩;refine aU hs hp ?_;clear hs hp;refine bO ?_;refine aj (fun h58=>?_) fun h58=>?_
   ·have hdl:=Ek P V u Q (j:=d) aa;simp only[qe]at hm;refine b8 ?_;refine kJ (A:=A) (n:=n) (xs:=bx (mK P V u Q d)) (.head _) aa ?_;intro ad hA;subst hA;refine cF (.bE g 213 [.slice Ao l.length co]::F) ?_;refine ae 0 ?_;refine ae 1 ?_;refine ae 2 ?_;refine ae 3 ?_;refine ae 4 ?_;refine ae 5 ?_;refine ae 6 ?_;refine ae 7 ?_;refine aW 8 rfl (aO (size:=1) (i:=a+(d+1)) underlying53 ag rfl rfl aa aa) ?_;refine ae 10 ?_;refine ae 11 ?_;refine aW 12 rfl (aO (size:=1) (i:=a+d) underlying53 ag rfl rfl aa aa) ?_;refine gS 9 13 ?_ ?_
    ·refine iL rfl .no (au ag rfl aA aa (fB aa)) rfl gD ?_;refine az 13 ?_;refine iL rfl .no (au ag rfl aA aa (fB aa)) rfl gD ?_;refine aW 14 rfl (aO (size:=1) (i:=a+d) underlying53 ag rfl rfl aa aa) ?_;refine az 15 ?_;refine aF ?_;refine aW 16 rfl (aO (size:=1) (i:=a+(d+1)) underlying53 ag rfl rfl aa aa) ?_;refine az 17 ?_;refine aF ?_;refine cQ [0,10,13] ?_;refine bK ?_;refine av ⟨_,aa,d+1,aa,rfl,bp,ax rfl (by rw[uL,←ha,Vw aa]) (.refl _)⟩
    ·refine iL rfl .no (au ag rfl aA aa (fB aa)) rfl gD ?_;refine az 9 ?_;refine iL rfl .no (au ag rfl aA aa (fB aa)) rfl gD ?_;refine aW 14 rfl (aO (size:=1) (i:=a+d) underlying53 ag rfl rfl aa aa) ?_;refine az 15 ?_;refine aF ?_;refine aW 16 rfl (aO (size:=1) (i:=a+(d+1)) underlying53 ag rfl rfl aa aa) ?_;refine az 17 ?_;refine aF ?_;refine cQ [0,10,13] ?_;refine bK ?_;refine av ⟨_,aa,d+1,aa,rfl,bp,ax rfl (by rw[uL,←ha,Vw aa]) (.refl _)⟩
   ·simp only[qe]at hm;obtain rfl:d=i:=by omega
    refine bI ?_;exact⟨rfl,by rw[tX]⟩
 ·exfalso;(simp only[qe]at hm;omega)
theorem arj(H:Hg B w0 F Ao co l){P U V Q:bf}{a m b:Nat}(M:Mg l P U V Q a m b n)(h0:U.length≠1)(h1:V.length=1):
  a_ B w0 345 [.slice A n c,ah a,ah m,ah b,PV g] (Sf A n c (P++(U++(V++Q))) g Ao l.length co F) (LW l P U V Q A n c g Ao co F):=by
 unfold LW;obtain⟨ha,hm,hb,hn,tY,hU,hV,sU,sV,lt,nd,hN⟩:=M;obtain⟨v,rfl⟩:∃v,V=[v]:=by
  match V,h1 with
  |[v],_=>exact⟨v,rfl⟩
 have YK:v<l.length:=hN v ak;have hD0:(P++(U++([v]++Q))).length=n:=by simp only[aY];omega
 have hgv:(P++(U++([v]++Q))).getD m 0=v:=by rw[←bV];exact oI (S:=[v]) (k:=0) ak bR
 simp only[qe]at hb;refine fw func345 220 [0,1,2,3,4] ?_;refine bO ?_;refine dm fun qF=>?_;refine cZ ?_;refine zH fun PZ=>?_;refine dQ ?_;refine aE (fun zf zL zm=>∃(i j:Nat),(i≤j∧j≤U.length∧(∀y∈U.take i,oN l y≤oN l v)∧(∀y∈U.drop j,oN l v<oN l y))∧j-i=zm∧Sub zf [(0,.slice A n c),(2,ah m),(4,PV g),(14,ah (a+i:Nat)),(15,ah (a+j:Nat))]∧Wk zL (Sf A n c (P++(U++([v]++Q))) g Ao l.length co F)) _ ⟨0,U.length,⟨bS _,gi _,ak,by rw[BI];simp⟩,rfl,bp,.refl _⟩ ?_;rintro _ _ _ ⟨i,j,⟨Iq,hj,P_,hhi⟩,rfl,hs,hp⟩;refine aU hs hp ?_;clear hs hp;refine bI ?_;refine aj (fun h85=>?_) fun h85=>?_
 ·obtain⟨h,hh⟩:∃h,a+h=(a+i+(a+j))/2:=⟨(a+i+(a+j))/2-a,aa⟩
  have Vi:h<U.length:=by omega
  have za:U.getD h 0<l.length:=hN _ (j9 _ (bg Vi 0));refine bK ?_;refine ab (bX rfl rfl (r:=((a+i+(a+j):Nat):Int)) ((bF aa aa).trans aa)) rfl ?_;refine aF ?_;refine ab (dj rfl rfl aa (Kj (a+i+(a+j)))) rfl ?_;refine ab (bm underlying192 underlying3 rfl (r:=((a+h:Nat):Int)) ((bF aa aa).trans aa)) rfl ?_;refine b8 ?_;refine cF _ ?_;refine ae 0 ?_;refine ae 1 ?_;refine ae 2 ?_;refine ae 3 ?_;refine aW 4 rfl (au ag rfl aA aa (gb (v:=v) aa hgv)) ?_;refine ae 5 ?_;refine ae 6 ?_;refine aW 7 rfl (aC (i:=a+h) underlying53 ag rfl rfl aa aa aA) ?_;refine aW 8 rfl (au ag rfl aA aa (gb (v:=U.getD h 0) aa (oI Vi aa))) ?_;refine az 9 ?_;refine pK rfl .no Ux rfl rfl (KB H YK za) rfl Qw ?_;rintro _ _ ⟨rfl,cA⟩;obtain rfl:=cA.symm;refine ae 10 ?_;refine ae 11 ?_;refine cQ [0,2,4,14,15,16,103] ?_;refine aF ?_;refine aj (fun alX=>?_) fun alX=>?_
  ·refine bz ?_;refine av ⟨_,aa,h+1,j,⟨aa,hj,fun y hy=>Nat.le_of_lt_succ (Oz sU Vi (Nat.lt_succ_of_le (yf fun k=>alX (mf.2 k))) y hy),hhi⟩,rfl,bp,.refl _⟩
  ·refine bG ?_;refine av ⟨_,aa,i,h,⟨aa,aa,P_,fun y hy=>Oy sU Vi (mf.1 (jG.1 alX)) y hy⟩,rfl,bp,.refl _⟩
 ·obtain rfl:i=j:=by omega
  have tX:mK P U v Q i=P++(cU (oN l) (U++[v])++Q):=Iy sU nd (fun y=>by simp[or_comm]) (fun y hy=>by
   have:=P_ y hy;have:=lt y (l6 hy) v ak;unfold tD;omega) (fun y hy=>.inl (hhi y hy))
  refine dc ?_;refine aE (fun zf zL zm=>∃(d:Nat),(i≤d∧d≤U.length)∧d=zm∧Sub zf [(0,.slice A n c),(14,ah (a+i:Nat)),(17,ah (a+d:Nat))]∧Wk zL (Sf A n c (mK P U v Q d) g Ao l.length co F)) _ ⟨U.length,⟨hj,gi _⟩,rfl,bp,ax rfl (by simp[mK]) (.refl _)⟩ ?_;rintro _ _ _ ⟨d,⟨hd1,Yz⟩,rfl,hs,hp⟩;refine aU hs hp ?_;clear hs hp;refine bI ?_;refine aj (fun ar5=>?_) fun ar5=>?_
  ·obtain⟨d,rfl⟩:∃d',d=d'+1:=⟨d-1,aa⟩
   have hdl:=Ek P U v Q (j:=d+1) aa;refine b8 ?_;refine kJ (A:=A) (n:=n) (xs:=bx (mK P U v Q (d+1))) (.head _) aa ?_;intro ad hA;subst hA;refine cF (.bE g 213 [.slice Ao l.length co]::F) ?_;refine ae 0 ?_;refine ae 1 ?_;refine ae 2 ?_;refine ae 3 ?_;refine ae 4 ?_;refine ae 5 ?_;refine ae 6 ?_;refine ae 7 ?_;refine aW 8 rfl (aO (size:=1) (i:=a+d) underlying53 ag rfl rfl aa aa) ?_;refine ae 10 ?_;refine ae 11 ?_;refine aW 12 rfl (aO (size:=1) (i:=a+(d+1)) underlying53 ag rfl rfl aa aa) ?_;refine gS 9 13 ?_ ?_
   ·refine iL rfl .no (au ag rfl aA aa (fB aa)) rfl gD ?_;refine az 13 ?_;refine iL rfl .no (au ag rfl aA aa (fB aa)) rfl gD ?_;refine aW 14 rfl (aO (size:=1) (i:=a+(d+1)) underlying53 ag rfl rfl aa aa) ?_;refine az 15 ?_;refine aF ?_;refine aW 16 rfl (aO (size:=1) (i:=a+d) underlying53 ag rfl rfl aa aa) ?_;refine az 17 ?_;refine aF ?_;refine cQ [0,14,17] ?_;refine bK ?_;refine av ⟨_,aa,d,⟨aa,aa⟩,rfl,bp,ax rfl agD (.refl _)⟩
   ·refine iL rfl .no (au ag rfl aA aa (fB aa)) rfl gD ?_;refine az 9 ?_;refine iL rfl .no (au ag rfl aA aa (fB aa)) rfl gD ?_;refine aW 14 rfl (aO (size:=1) (i:=a+(d+1)) underlying53 ag rfl rfl aa aa) ?_;refine az 15 ?_;refine aF ?_;refine aW 16 rfl (aO (size:=1) (i:=a+d) underlying53 ag rfl rfl aa aa) ?_;refine az 17 ?_;refine aF ?_;refine cQ [0,14,17] ?_;refine bK ?_;refine av ⟨_,aa,d,⟨aa,aa⟩,rfl,bp,ax rfl agD (.refl _)⟩
  ·obtain rfl:d=i:=by omega
   refine bI ?_;exact⟨rfl,by rw[tX]⟩
end
section
set_option maxHeartbeats 1000000
theorem alN{S:bf}(hs:tA o S){k:Nat}(hk:k<S.length):∀y∈S.drop k,y=S.getD k 0∨tD o (S.getD k 0) y:=fun y hy=>by
 rw[dx hk 0]at hy;rcases fk.1 hy with e|e
 ·exact .inl e
 ·refine .inr ?_;obtain⟨i,hi,rfl⟩:=j0 e;rw[iG]at hi;rw[List.getElem_drop,bk,fm hk,vI];exact rj.1 hs k (k+1+i) hk aa aa
theorem aj5{S T:bf}(hS:tA o S)(hT:tA o T){i j:Nat}(hi:i<S.length)(h:j<T.length→tD o (S.getD i 0) (T.getD j 0)):∀x∈S.take (i+1),∀y∈T.drop j,tD o x y:=fun x hx y hy=>by
 by_cases hj:j<T.length
 ·have h1:=WH hS hi (h hj) x hx;rcases alN hT hj y hy with e|e
  ·rw[e];exact h1
  ·exact rr h1 e
 ·rw[mu aa]at hy;cases hy
theorem adL{U V:bf}{a m b lo hi s mF:Nat}(sU:tA o U)(sV:tA o V)(hm:a+U.length=m)(hb:m+V.length=b)(k1:a≤lo)(k2:lo≤s)(k3:s≤hi)(k4:hi≤m)(k5:hi≤mF)(k6:mF+m≤b+lo)(k7:lo=a∨mF+m=b+lo)(k8:hi=m∨hi=mF)(k_:s=lo∨tD o (U.getD (s-1-a) 0) (V.getD (mF+m-s-m) 0))(jF:s=hi∨tD o (V.getD (mF+m-1-s-m) 0) (U.getD (s-a) 0)):
  ∃U1 U2 V1 V2,U=U1++U2∧V=V1++V2∧a+U1.length=s∧s+V1.length=mF∧∀x∈U1++V1,∀y∈U2++V2,tD o x y:=by
 refine⟨U.take (s-a),U.drop (s-a),V.take (mF-s),V.drop (mF-s),(jJ _ _).symm,(jJ _ _).symm,nx,nx,fun x hx y hy=>?_⟩;have hUU:∀x∈U.take (s-a),∀y∈U.drop (s-a),tD o x y:=by
  have:=sU;rw[←jJ (s-a) U]at this;exact(sZ.1 this).2.2
 have hVV:∀x∈V.take (mF-s),∀y∈V.drop (mF-s),tD o x y:=by
  have:=sV;rw[←jJ (mF-s) V]at this;exact(sZ.1 this).2.2
 rcases dz.1 hx with hx|hx
 ·rcases dz.1 hy with hy|hy
  ·exact hUU x hx y hy
  ·by_cases e:s=a
   ·rw[e,nE]at hx;simp at hx
   ·by_cases e2:mF-s<V.length
    ·rcases k_ with h|h
     ·omega
     ·rw[show mF+m-s-m=mF-s by omega]at h;have:=aj5 sU sV (i:=s-1-a) (j:=mF-s) aa (fun _=>h);rw[show s-1-a+1=s-a by omega]at this;exact this x hx y hy
    ·rw[mu aa]at hy;cases hy
 ·rcases dz.1 hy with hy|hy
  ·by_cases e:s=mF
   ·rw[e,nE]at hx;simp at hx
   ·by_cases e2:s-a<U.length
    ·rcases jF with h|h
     ·omega
     ·rw[show mF+m-1-s-m=mF-s-1 by omega]at h;have:=aj5 sV sU (i:=mF-s-1) (j:=s-a) aa (fun _=>h);rw[show mF-s-1+1=mF-s by omega]at this;exact this x hx y hy
    ·rw[mu aa]at hy;cases hy
  ·exact hVV x hx y hy
theorem aqP{U1 U2 V1 V2:bf}{x:Nat}:(x∈U1++V1→x∈(U1++U2)++(V1++V2))∧(x∈U2++V2→x∈(U1++U2)++(V1++V2)):=by
 simp only[dz];constructor
 ·rintro(h|h)
  ·exact .inl (.inl h)
  ·exact .inr (.inl h)
 ·rintro(h|h)
  ·exact .inl (.inr h)
  ·exact .inr (.inr h)
theorem nd4{U1 U2 V1 V2:bf}(h:((U1++U2)++(V1++V2)).Nodup):(U1++V1).Nodup∧(U2++V2).Nodup:=
 ⟨h.sublist (List.Sublist.append (vJ U1 U2) (vJ V1 V2)),h.sublist (List.Sublist.append (gx U1 U2) (gx V1 V2))⟩
theorem BQ{U V:bf}(sU:tA o U)(sV:tA o V)(nd:(U++V).Nodup)(h:U=[]∨V=[]):cU o (U++V)=U++V:=by
 rcases h with h|h
 ·subst h;exact O9 sV nd
 ·subst h;rw[gj]at nd⊢;exact O9 sU nd
theorem ae'(H:Hg B w0 F Ao co l){sz:Nat}(ih:∀{P U V Q:bf} {a m b:Nat},U.length+V.length≤sz→Mg l P U V Q a m b n→
  a_ B w0 345 [.slice A n c,ah a,ah m,ah b,PV g] (Sf A n c (P++(U++(V++Q))) g Ao l.length co F) (LW l P U V Q A n c g Ao co F)){P U V Q:bf}{a m b:Nat}(iZ:U.length+V.length≤sz+1)(M:Mg l P U V Q a m b n)(hU1:¬U.length=1)(hV1:¬V.length=1):
  a_ B w0 345 [.slice A n c,ah a,ah m,ah b,PV g] (Sf A n c (P++(U++(V++Q))) g Ao l.length co F) (LW l P U V Q A n c g Ao co F):=by
 unfold LW at ih⊢;obtain⟨ha,hm,hb,hn,tY,hU,hV,sU,sV,lt,nd,hN⟩:=M;obtain⟨mF,RD⟩:=cK ((a+b)/2);have hD0:(P++(U++(V++Q))).length=n:=by simp only[aY];omega
 refine fw func345 220 [0,1,2,3,4] ?_;refine bO ?_;refine dm fun qF=>?_;refine cZ ?_;refine dm fun PZ=>?_;refine bz ?_;refine ab (bX rfl rfl (r:=((a+b:Nat):Int)) ((bF aa aa).trans aa)) rfl ?_;refine aF ?_;refine ab (dj rfl rfl aa (Kj (a+b))) rfl ?_;refine ab (bm underlying192 underlying3 rfl (r:=(mF:Int)) ((bF aa aa).trans aa)) rfl ?_;refine bO ?_;refine ve [0,1,2,3,4,18,19] ?_;refine bK ?_;refine d_ (fun zf zL=>∃(lo hi:Nat),(a≤lo∧lo≤hi∧hi≤m∧hi≤mF∧mF+m≤b+lo∧(lo=a∨mF+m=b+lo)∧(hi=m∨hi=mF))∧Sub zf [(0,.slice A n c),(1,ah a),(2,ah m),(3,ah b),(4,PV g),(18,ah mF),(19,ah (mF+m:Nat)),(20,ah lo),(21,ah hi)]∧Wk zL (Sf A n c (P++(U++(V++Q))) g Ao l.length co F)) ?_ ?_
 ·refine bK ?_;refine aj (fun ar7=>?_) fun ar7=>?_
  ·refine cH ?_;exact bD ⟨mF+m-b,mF,⟨aa,aa,aa,aa,aa,aa,aa⟩,bp,.refl _⟩
  ·refine bB ?_;exact bD ⟨a,m,⟨aa,aa,aa,aa,aa,aa,aa⟩,bp,.refl _⟩
 ·rintro _ _ ⟨lo,hi,⟨k1,k2,k4,k5,k6,k7,k8⟩,hs,hp⟩;refine aU hs hp ?_;clear hs hp;refine bO ?_;refine aE (fun zf zL zm=>∃(s r:Nat),(lo≤s∧s≤r∧r≤hi∧(s=lo∨tD (oN l) (U.getD (s-1-a) 0) (V.getD (mF+m-s-m) 0))∧(r=hi∨tD (oN l) (V.getD (mF+m-1-r-m) 0) (U.getD (r-a) 0)))∧r-s=zm∧Sub zf [(0,.slice A n c),(1,ah a),(2,ah m),(3,ah b),(4,PV g),(18,ah mF),(19,ah (mF+m:Nat)),(20,ah s),(21,ah r),(22,ah (mF+m-1:Nat))]∧Wk zL (Sf A n c (P++(U++(V++Q))) g Ao l.length co F)) _ ⟨lo,hi,⟨gi _,k2,gi _,.inl rfl,.inl rfl⟩,rfl,bp,.refl _⟩ ?_;rintro _ _ _ ⟨s,r,⟨g1,g2,g3,k_,jF⟩,rfl,hs,hp⟩;refine aU hs hp ?_;clear hs hp;refine bI ?_;refine aj (fun ar8=>?_) fun ar8=>?_
  ·obtain⟨h,hh⟩:=cK ((s+r)/2);have hhu:h-a<U.length:=by omega
   have hhv:mF+m-1-h-m<V.length:=by omega
   have hum:U.getD (h-a) 0∈U:=bg hhu 0;have hvm:V.getD (mF+m-1-h-m) 0∈V:=bg hhv 0;have huv:=lt _ hum _ hvm;have za:=hN _ (j9 _ hum);have YK:=hN _ (nF _ hvm);refine bK ?_;refine ab (bX rfl rfl (r:=((s+r:Nat):Int)) ((bF aa aa).trans aa)) rfl ?_;refine aF ?_;refine ab (dj rfl rfl aa (Kj (s+r))) rfl ?_;refine ab (bm underlying192 underlying3 rfl (r:=(h:Int)) ((bF aa aa).trans aa)) rfl ?_;refine b8 ?_;refine cF _ ?_;refine ae 0 ?_;refine ae 1 ?_;refine ae 2 ?_;refine ae 3 ?_;refine ae 4 ?_;refine aW 5 rfl (aC (i:=mF+m-1-h) underlying53 ag rfl rfl aa aa aA) ?_;refine aW 6 rfl (au ag rfl aA aa (gb (v:=V.getD (mF+m-1-h-m) 0) aa (by rw[←bV];exact oI hhv tJ))) ?_;refine ae 7 ?_;refine ae 8 ?_;refine ae 9 ?_;refine aW 10 rfl (au ag rfl aA aa (gb (v:=U.getD (h-a) 0) aa (oI hhu aa))) ?_;refine az 11 ?_;refine pK rfl .no Ux rfl rfl (KB H YK za) rfl Qw ?_;rintro _ _ ⟨rfl,cA⟩;obtain rfl:=cA.symm;refine ae 12 ?_;refine ae 13 ?_;refine cQ [0,1,2,3,4,18,19,20,21,22,23,171] ?_;refine aF ?_;refine aj (fun alY=>?_) fun alY=>?_
   ·refine bz ?_;refine av ⟨_,aa,h+1,r,⟨aa,aa,g3,.inr (by
     rw[show h+1-1-a=h-a by omega,show mF+m-(h+1)-m=mF+m-1-h-m by omega];have:¬oN l (V.getD (mF+m-1-h-m) 0)<oN l (U.getD (h-a) 0):=fun k=>alY (mf.2 k);unfold tD;omega),jF⟩,rfl,bp,.refl _⟩
   ·refine bG ?_;refine av ⟨_,aa,s,h,⟨g1,aa,aa,k_,.inr (.inl (mf.1 (jG.1 alY)))⟩,rfl,bp,.refl _⟩
  ·obtain rfl:s=r:=by omega
   obtain⟨U1,U2,V1,V2,rfl,rfl,q1,q2,fN⟩:=adL sU sV hm hb k1 g1 g3 k4 k5 k6 k7 k8 k_ jF;simp only[aY]at hm hb iZ hU hV;obtain⟨nd1,nd2⟩:=nd4 nd;have sU1:tA (oN l) U1:=sU.sublist (vJ U1 U2);have sU2:tA (oN l) U2:=sU.sublist (gx U1 U2);have sV1:tA (oN l) V1:=sV.sublist (vJ V1 V2);have sV2:tA (oN l) V2:=sV.sublist (gx V1 V2);have tX:=al1 (o:=oN l) nd fN;have aun:(cU (oN l) (U1++V1)).length=U1.length+V1.length:=by rw[gV,aY]
   refine bO ?_;refine ab (dw rfl rfl ((bF aa aa).trans (show _=((mF+m-s:Nat):Int) by omega))) rfl ?_;refine bA ?_;refine d_ (fun zf zL=>Sub zf [(0,.slice A n c),(1,ah a),(3,ah b),(4,PV g),(18,ah mF),(20,ah s),(24,ah (mF+m-s:Nat))]∧Wk zL (Sf A n c (P++(U1++(V1++(U2++(V2++Q))))) g Ao l.length co F)) ?_ ?_
   ·refine be ?_;refine bU 8 185 [0,1,2,3,4,18,20,24] (s<m∧m<mF+m-s) ?_ ?_
    ·refine b8 ?_;refine cM (fun asa=>?_) fun asa=>?_
     ·refine bz ?_;exact aP oV
     ·refine bA ?_;exact aP wA
    ·refine be ?_;refine aj (fun asb=>?_) fun asb=>?_
     ·have Km:P++((U1++U2)++((V1++V2)++Q))=(P++U1)++(U2++(V1++(V2++Q))):=by simp[bV]
      rw[Km];refine bz ?_;refine ai rfl (aeC (P:=P++U1) (X:=U2) (Y:=V1) (Q:=V2++Q) (a:=s) (m:=m) (b:=mF+m-s) tJ aa aa tJ tY aa aa) ?_;refine aF ?_;exact bD ⟨bp,ax rfl (by simp[bV]) (.refl _)⟩
     ·have Km:P++((U1++U2)++((V1++V2)++Q))=P++(U1++(V1++(U2++(V2++Q)))):=by
       by_cases e:U2.length=0
       ·rw[mr e];simp[bV]
       ·rw[mr (show V1.length=0 by omega)];simp[bV]
      refine aF ?_;exact bD ⟨bp,ax rfl (by rw[Km]) (.refl _)⟩
   ·rintro _ _ ⟨hs,hp⟩;refine aU hs hp ?_;clear hs hp;refine d_ (fun zf zL=>Sub zf [(0,.slice A n c),(3,ah b),(4,PV g),(18,ah mF),(24,ah (mF+m-s:Nat))]∧Wk zL (Sf A n c ((P++cU (oN l) (U1++V1))++(U2++(V2++Q))) g Ao l.length co F)) ?_ ?_
    ·refine be ?_;refine bU 8 199 [0,1,3,4,18,20,24] (a<s∧s<mF) ?_ ?_
     ·refine b8 ?_;refine cM (fun asc=>?_) fun asc=>?_
      ·refine bz ?_;exact aP oV
      ·refine bA ?_;exact aP wA
     ·refine be ?_;refine aj (fun asd=>?_) fun asd=>?_
      ·refine bz ?_;refine ai rfl (ih (P:=P) (U:=U1) (V:=V1) (Q:=U2++(V2++Q)) (a:=a) (m:=s) (b:=mF) aa ⟨ha,q1,q2,by rw[aY,aY];omega,tY,aa,aa,sU1,sV1,fun u hu v hv=>lt u (j9 _ hu) v (j9 _ hv),nd1,fun x hx=>hN x (aqP.1 hx)⟩) ?_;refine aF ?_;exact bD ⟨bp,ax rfl (by simp[bV]) (.refl _)⟩
      ·have amo:=BQ sU1 sV1 nd1 (by
        by_cases e:U1.length=0
        ·exact .inl (mr e)
        ·exact .inr (mr aa))
       refine aF ?_;exact bD ⟨bp,ax rfl (by rw[amo];simp[bV]) (.refl _)⟩
    ·rintro _ _ ⟨hs,hp⟩;refine aU hs hp ?_;clear hs hp;refine be ?_;refine bU 8 213 [0,3,4,18,24] (mF<mF+m-s∧mF+m-s<b) ?_ ?_
     ·refine b8 ?_;refine cM (fun ase=>?_) fun ase=>?_
      ·refine bz ?_;exact aP oV
      ·refine bA ?_;exact aP wA
     ·refine be ?_;refine aj (fun asf=>?_) fun asf=>?_
      ·refine bz ?_;refine ai rfl (ih (P:=P++cU (oN l) (U1++V1)) (U:=U2) (V:=V2) (Q:=Q) (a:=mF) (m:=mF+m-s) (b:=b) aa ⟨tJ,aa,aa,hn,tY,aa,aa,sU2,sV2,fun u hu v hv=>lt u (nF _ hu) v (nF _ hv),nd2,fun x hx=>hN x (aqP.2 hx)⟩) ?_;refine be ?_;refine aq (L':=Sf A n c (P++(cU (oN l) ((U1++U2)++(V1++V2))++Q)) g Ao l.length co F) (ax rfl (by rw[←tX];simp[bV]) (.refl _)) ?_;refine aF ?_;exact⟨rfl,rfl⟩
      ·have as1:=BQ sU2 sV2 nd2 (by
        by_cases e:U2.length=0
        ·exact .inl (mr e)
        ·exact .inr (mr aa))
       refine be ?_;refine aq (L':=Sf A n c (P++(cU (oN l) ((U1++U2)++(V1++V2))++Q)) g Ao l.length co F) (ax rfl (by rw[←tX,as1];simp[bV]) (.refl _)) ?_;refine aF ?_;exact⟨rfl,rfl⟩
theorem ae_(H:Hg B w0 F Ao co l):∀(sz:Nat) {P U V Q:bf} {a m b:Nat},U.length+V.length≤sz→Mg l P U V Q a m b n→
  a_ B w0 345 [.slice A n c,ah a,ah m,ah b,PV g] (Sf A n c (P++(U++(V++Q))) g Ao l.length co F) (LW l P U V Q A n c g Ao co F)
 |0,P,U,V,Q,a,m,b,iZ,M=>by have:=M.hU;omega
 |sz+1,P,U,V,Q,a,m,b,iZ,M=>by
  by_cases hU1:U.length=1
  ·exact ari H M hU1
  ·by_cases hV1:V.length=1
   ·exact arj H M hU1 hV1
   ·exact ae' H (ae_ H sz) iZ M hU1 hV1
theorem aks{X c1 c2 Q:bf}{a m b:Nat}(hr:Ri (c1++c2))(hN:∀x∈c1++c2,x<l.length)(ha:X.length=a)(hm:a+c1.length=m)(hb:m+c2.length=b)(hn:b+Q.length=n)(tY:n≤1000000)(h1:0<c1.length)(h2:0<c2.length):
  Mg l X (cU (oN l) c1) (cU (oN l) c2) Q a m b n:=by
 obtain⟨r1,r2,r3⟩:=sZ.1 hr;exact⟨ha,by rw[gV];exact hm,by rw[gV];exact hb,hn,tY,by rw[gV];exact h1,by rw[gV];exact h2,lA _ (Ri.nd r1),lA _ (Ri.nd r2),fun u hu v hv=>r3 u (fV.1 hu) v (fV.1 hv),
  ((List.Perm.append (gC _ c1) (gC _ c2)).nodup_iff).2 hr.nd,fun x hx=>hN x ((dz.1 hx).elim (fun h=>j9 _ (fV.1 h)) (fun h=>nF _ (fV.1 h)))⟩
theorem ae1(H:Hg B w0 F Ao co l){R:bf}(hn:R.length=n)(tY:n≤1000000)(hr:Ri R)(hN:∀x∈R,x<l.length):
  a_ B w0 335 [.slice A n c,ah n,PV g] (Sf A n c R g Ao l.length co F) (fun r L=>r= .tuple #[]∧L=Sf A n c (cU (oN l) R) g Ao l.length co F):=by
 refine fw func335 63 [0,1,2] ?_;refine dQ ?_;refine aE (fun zf zL zm=>∃(X R':bf),(X.length+R'.length=n∧X++wC (oN l) 20 R'=wC (oN l) 20 R∧Ri R'∧∀x∈R',x<l.length)∧R'.length=zm∧Sub zf [(0,.slice A n c),(1,ah n),(2,PV g),(6,ah 20),(7,ah X.length),(8,ah (X.length+20:Nat))]∧Wk zL (Sf A n c (X++R') g Ao l.length co F)) _ ⟨[],R,⟨by simp;exact hn,rfl,hr,hN⟩,rfl,bp,.refl _⟩ ?_;rintro _ _ _ ⟨X,R',⟨hX,hXe,hr',hN'⟩,rfl,hs,hp⟩;refine aU hs hp ?_;clear hs hp;refine bI ?_;refine aj (fun mE=>?_) fun mE=>?_
 ·have tC:(R'.take 20).length=20:=by rw[eS];omega
  have rO:(R'.drop 20).length=R'.length-20:=iG;have Km:X++R'=X++(R'.take 20++R'.drop 20):=by rw[jJ]
  have de:=qQ (o:=oN l) (bs:=20) (R:=R') aa aa;have nS:(X++cU (oN l) (R'.take 20)).length=X.length+20:=by rw[aY,gV,tC]
  rw[Km];refine bO ?_;refine ai rfl (NK H (P:=X) (R:=R'.take 20) (Q:=R'.drop 20) (a:=X.length) (b:=X.length+20) rfl aa aa tY (hr'.sublist (Kx 20 R')) (fun x hx=>hN' x (l6 hx))) ?_;refine jk ?_;refine av ⟨_,aa,X++cU (oN l) (R'.take 20),R'.drop 20,⟨aa,by rw[bV,←de,hXe],hr'.sublist (List.drop_sublist 20 R'),fun x hx=>hN' x (rk hx)⟩,rfl,bp,ax rfl (by rw[bV]) (.refl _)⟩
 ·have Km:X++R'=X++(R'++[]):=by rw[gj]
  rw[Km];have LA:=mX (o:=oN l) (bs:=20) (R:=R') aa;rw[LA]at hXe;refine cZ ?_;refine ai rfl (NK H (P:=X) (R:=R') (Q:=[]) (a:=X.length) (b:=n) rfl aa ak tY hr' hN') ?_;refine bA ?_;refine aE (fun zf zL zm=>∃(bs:Nat),(1≤bs∧bs≤2000020)∧n-bs=zm∧Sub zf [(0,.slice A n c),(1,ah n),(2,PV g),(6,ah bs)]∧Wk zL (Sf A n c (wC (oN l) bs R) g Ao l.length co F)) _ ⟨20,⟨aa,aa⟩,rfl,bp,ax rfl (by rw[gj,hXe]) (.refl _)⟩ ?_;rintro _ _ _ ⟨bs,⟨qd,oL⟩,rfl,hs,hp⟩;refine aU hs hp ?_;clear hs hp;refine bI ?_;refine aj (fun Bu=>?_) fun Bu=>?_
  ·have h00:([]:bf).length=0:=rfl;refine dc ?_;refine aE (fun zf zL zm=>∃(X R':bf),(X.length+R'.length=n∧X++wC (oN l) (2*bs) R'=wC (oN l) (2*bs) R∧Ri R'∧∀x∈R',x<l.length)∧R'.length=zm∧Sub zf [(0,.slice A n c),(1,ah n),(2,PV g),(6,ah bs),(7,ah X.length),(8,ah (X.length+2*bs:Nat))]∧Wk zL (Sf A n c (X++wC (oN l) bs R') g Ao l.length co F)) _ ⟨[],R,⟨by simp;exact hn,rfl,hr,hN⟩,rfl,bp,.refl _⟩ ?_;rintro _ _ _ ⟨X,R',⟨hX2,ahy,vF,hN2⟩,rfl,hs,hp⟩;refine aU hs hp ?_;clear hs hp;refine bI ?_;refine aj (fun tT=>?_) fun tT=>?_
   ·have tC:(R'.take bs).length=bs:=by rw[eS];omega
    have rO:(R'.drop bs).length=R'.length-bs:=iG;have LB:((R'.drop bs).take bs).length=bs:=by rw[eS];omega
    have hl4:((R'.drop bs).drop bs).length=R'.length-bs-bs:=by rw[iG];omega
    have al2:=qQ (o:=oN l) (bs:=bs) (R:=R') qd aa;have al3:=qQ (o:=oN l) (bs:=bs) (R:=R'.drop bs) qd aa;have asn:=qQ (o:=oN l) (bs:=2*bs) (R:=R') aa aa;have Rp:R'.take bs++(R'.drop bs).take bs=R'.take (2*bs):=by rw[show 2*bs=bs+bs by omega,List.take_add]
    have hdd:(R'.drop bs).drop bs=R'.drop (2*bs):=by rw[qh];congr 1;omega
    have de:=abh (oN l) bs ((R'.drop bs).drop bs);have hri:Ri (R'.take bs++(R'.drop bs).take bs):=by rw[Rp];exact vF.sublist (Kx _ _)
    have hsa:=O_ (o:=oN l) hri.nd;have nS:(X++cU (oN l) (R'.take bs++(R'.drop bs).take bs)).length=X.length+2*bs:=by rw[aY,gV,aY];omega
    rw[al2,al3];refine cH ?_;refine ai rfl (ae_ H _ (P:=X) (Q:=wC (oN l) bs ((R'.drop bs).drop bs)) (a:=X.length) (m:=X.length+bs) (b:=X.length+2*bs) (gi _) (aks hri (fun x hx=>hN2 x (by rw[Rp]at hx;exact l6 hx)) rfl aa aa aa tY aa aa)) ?_;refine dQ ?_;refine ve [0,1,2,6,7,8] ?_;refine aF ?_;refine av ⟨_,aa,X++cU (oN l) (R'.take bs++(R'.drop bs).take bs),(R'.drop bs).drop bs,⟨aa,by rw[bV,Rp,hdd,←asn,ahy],by rw[hdd];exact vF.sublist (List.drop_sublist _ _),fun x hx=>hN2 x (rk (rk hx))⟩,rfl,bp,ax rfl (by rw[hsa,bV]) (.refl _)⟩
   ·have rO:(R'.drop bs).length=R'.length-bs:=iG;have ass:=mX (o:=oN l) (bs:=2*bs) (R:=R') aa;rw[ass]at ahy;refine Kg ?_;refine aj (fun h54=>?_) fun h54=>?_
    ·have tC:(R'.take bs).length=bs:=by rw[eS];omega
     have al2:=qQ (o:=oN l) (bs:=bs) (R:=R') qd aa;have al3:=mX (o:=oN l) (bs:=bs) (R:=R'.drop bs) aa;have Rp:R'.take bs++R'.drop bs=R':=jJ _ _;have hri:Ri (R'.take bs++R'.drop bs):=by rw[Rp];exact vF
     have hsa:=O_ (o:=oN l) hri.nd;have Km:X++(cU (oN l) (R'.take bs)++cU (oN l) (R'.drop bs))=X++(cU (oN l) (R'.take bs)++(cU (oN l) (R'.drop bs)++[])):=by rw[gj]
     rw[al2,al3,Km];refine bz ?_;refine ai rfl (ae_ H _ (P:=X) (Q:=[]) (a:=X.length) (m:=X.length+bs) (b:=n) (gi _) (aks hri (fun x hx=>hN2 x (by rw[Rp]at hx;exact hx)) rfl aa aa ak tY aa aa)) ?_;refine ve [0,1,2,6] ?_;refine bK ?_;refine av ⟨_,aa,2*bs,⟨aa,aa⟩,rfl,bp,ax rfl (by rw[hsa,gj,Rp,ahy]) (.refl _)⟩
    ·have asr:=mX (o:=oN l) (bs:=bs) (R:=R') aa;refine bI ?_;refine av ⟨_,aa,2*bs,⟨aa,aa⟩,rfl,bp,ax rfl (by rw[asr,ahy]) (.refl _)⟩
  ·have tX:=mX (o:=oN l) (bs:=bs) (R:=R) aa;rw[tX];refine bz ?_;exact⟨rfl,rfl⟩
theorem aeX(H:Hg B w0 F Ao co l){R:bf}(hn:R.length=n)(tY:n≤1000000)(hr:Ri R)(hN:∀x∈R,x<l.length):
  a_ B w0 314 [.slice A n c,PV g] (Sf A n c R g Ao l.length co F) (fun r L=>r= .tuple #[]∧L=Sf A n c (cU (oN l) R) g Ao l.length co F):=by
 refine fw func314 9 [0,1] ?_;refine bG ?_;refine ai rfl (ae1 H hn tY hr hN) ?_;refine bA ?_;exact⟨rfl,rfl⟩
end
theorem aa4{P:Prop}(h:P:=by(rw[←mI,bV];rfl)):P:=h
theorem aa9{P:Prop}(h:P:=by(rw[En];rfl)):P:=h
theorem aop{P:Prop}(h:P:=by(first|exact fun h=>absurd h.1 (by omega)|exact⟨fun h=>⟨by omega,by omega⟩,fun h=>by have:=h.2;omega⟩)):P:=h
theorem Tv(o:Nat→Nat)(k:Nat):mB o (k+1)=mB o k++if 0<o k then [k] else []:=by
 unfold mB;rw[lq,Es];congr 1;rw[ud,List.filter_nil];by_cases h:0<o k
 ·rw[ao h,ao ny]
 ·rw[aw h,aw ny]
theorem PH(o:Nat→Nat)(k:Nat):(mB o k).length≤k:=jc (BG _ _) ak
theorem af0(o:Nat→Nat)(k:Nat):Ri (mB o k):=List.Pairwise.sublist List.filter_sublist List.pairwise_lt_range
theorem afZ{o:Nat→Nat}{k x:Nat}(h:x∈mB o k):x<k:=kB.1 (BC.1 h).1
theorem anS(H:Hg B w0 F Ao co l)(hl:l.length≤300):
  a_ B w0 283 [.slice Ao l.length co] F (fun r L=>∃A' c',r= .slice A' (dA (oN l) l.length).length c'∧L= .own 3 1 A' (dA (oN l) l.length).length c' (bx (dA (oN l) l.length))::F):=by
 have hbo:=H.xk;refine fw func283 24 [0] ?_;refine be ?_;refine bh fun g1=>?_;refine b8 ?_;refine aZ 3 1 none ?_;refine dc ?_;refine aE (fun zf zL zm=>∃(k:Nat) (A3:bj) (c3:Nat),(k≤l.length)∧l.length-k=zm∧Sub zf [(1,br g1),(3,.slice A3 (mB (oN l) k).length c3),(6,.slice Ao l.length co),(7,ah l.length),(8,ah k)]∧Wk zL (Sf A3 (mB (oN l) k).length c3 (mB (oN l) k) g1 Ao l.length co F)) _ ⟨0,none,0,bS _,rfl,bp,.refl _⟩ ?_;rintro _ _ _ ⟨k,A3,c3,hk,rfl,hs,hp⟩;refine aU hs hp ?_;clear hs hp;refine bz ?_;refine aj (fun h9=>?_) fun h9=>?_
 ·have hus:=Tv (oN l) k;have za:=PH (oN l) k;refine bI ?_;refine ab (au ag rfl aA aa (FO aa)) rfl ?_;refine bB ?_;refine aj (fun jZ=>?_) fun jZ=>?_
  ·rw[ao (show 0<l.getD k 0 by omega)]at hus;have wR:(mB (oN l) (k+1)).length=(mB (oN l) k).length+1:=by rw[hus];simp
   refine bA ?_;refine dF fJ rfl rfl rfl rfl rfl (fun _=>rfl) aV aa aa ?_;intro _ tb uU;refine bI ?_;refine av ⟨_,aa,k+1,tb,uU,aa,rfl,bp,ax aa (by rw[hus];simp[bx]) (.refl _)⟩
  ·rw[aw (show¬0<l.getD k 0 by omega),gj]at hus;have wR:(mB (oN l) (k+1)).length=(mB (oN l) k).length:=by rw[hus]
   refine bK ?_;refine av ⟨_,aa,k+1,A3,c3,aa,rfl,bp,ax (by rw[hus]) (by rw[hus]) (.refl _)⟩
 ·obtain rfl:k=l.length:=by omega
  have za:=PH (oN l) l.length;have nS:(dA (oN l) l.length).length=(mB (oN l) l.length).length:=gV _ _;refine bO ?_;refine ai rfl (aeX H rfl aa (af0 _ _) (fun x hx=>afZ hx)) ?_;refine bO ?_;refine aq (L':=.own 3 1 A3 (dA (oN l) l.length).length c3 (bx (dA (oN l) l.length))::F) (.trans (ax nS.symm rfl (.refl _)) ((ed (.skip (.refl _))))) ?_;refine aF ?_;exact⟨A3,c3,by rw[nS],rfl⟩
def sR(x:cv):cV:=[.int .u64 (x.1:Int),.bool x.2]
def dg(L:List cv):cV:=L.flatMap sR
theorem RU(L:List cv):(dg L).length=L.length*2:=by
 unfold dg;rw[List.length_flatMap];induction L with
 |nil=>rfl
 |cons x r ih=>rw[kC,IE,ih,ef];simp[sR];omega
theorem En(L M:List cv):dg (L++M)=dg L++dg M:=by simp[dg]
theorem pr:∀(L:List cv) (k:Nat),(dg L).take (k*2)=dg (L.take k)∧(dg L).drop (k*2)=dg (L.drop k)
 |L,0=>by simp[dg]
 |[],k+1=>by simp[dg]
 |x::r,k+1=>by
  obtain⟨h1,h2⟩:=pr r k;have e:dg (x::r)=sR x++dg r:=by simp[dg]
  rw[e,j8,sT (k*2) 2];constructor
  ·rw[N8,fA (by simp[sR]),show 2+k*2-(sR x).length=k*2 by simp[sR],h1];simp[dg]
  ·rw[List.drop_append,mu (by simp[sR]),show 2+k*2-(sR x).length=k*2 by simp[sR],h2];simp
theorem yb{L:List cv}{k:Nat}(h:k<L.length):((dg L).drop (k*2)).take 2=[.int .u64 ((L.getD k (0,false)).1:Int),.bool (L.getD k (0,false)).2]:=by
 rw[(pr L k).2,dx h (0,false)];simp[dg,sR]
theorem zT{L:List cv}{k:Nat}(h:k<L.length):(dg L)[k*2+0]? =some (.int .u64 ((L.getD k (0,false)).1:Int)):=sr (yb h) 0 _ rfl
theorem YZ{L:List cv}{k:Nat}(h:k<L.length)(x:cv):(dg L).take (k*2)++sR x++(dg L).drop (k*2+2)=dg (L.set k x):=by
 rw[show k*2+2=(k+1)*2 by omega,(pr L k).1,(pr L (k+1)).2,List.set_eq_take_append_cons_drop,ao h,En];simp[dg]
theorem RV(n:Nat):(List.replicate n [Value.int .u64 0,.bool false]).flatten=dg (List.replicate n (0,false)):=by
 induction n with
 |zero=>rfl
 |succ n ih=>rw[zU,zU,wm,ih];simp[dg,sR]
def uk(o:Nat→Nat)(S:bf)(k:Nat):List cv:=(S.take k).map (fun s=>(o s,true))++List.replicate (S.length-k) (0,false)
theorem Y8(o:Nat→Nat){S:bf}{k:Nat}(h:k≤S.length):(uk o S k).length=S.length:=by simp[uk];omega
theorem R3(o:Nat→Nat){S:bf}{k:Nat}(h:k<S.length):(uk o S k).set k (o (S.getD k 0),true)=uk o S (k+1):=by
 unfold uk;have hl:((S.take k).map fun s=>(o s,true)).length=k:=by simp;omega
 rw[wX _ _ aa,hl,nE,show S.length-k=(S.length-(k+1))+1 by omega,zU,List.set_cons_zero,ba h 0,ja,bV];rfl
theorem adt(H:Hg B w0 F Ao co l){S:bf}(hs:aK B w0 F 1 (.slice A1 S.length c1) S.length (bx S))(hS:S.length≤300)(hN:∀x∈S,x<l.length):
  a_ B w0 284 [.slice Ao l.length co,.slice A1 S.length c1] F (fun r L=>∃A' c',r= .slice A' S.length c'∧L= .own 397 2 A' S.length c' (dg (S.map fun s=>(oN l s,true)))::F):=by
 have hbo:=H.xk;refine fw func284 29 [0,1] ?_;refine bO ?_;refine cC (H9 (nn:=S.length) (cc:=S.length) Fq rfl rfl rfl rfl (gi _) aa aa) fun wu=>?_;refine cH ?_;refine aE (fun zf zL zm=>∃(k:Nat),(k≤S.length)∧S.length-k=zm∧Sub zf [(0,.slice Ao l.length co),(5,.slice wu S.length S.length),(11,.slice A1 S.length c1),(12,ah S.length),(13,ah k)]∧Wk zL (.own 397 2 wu S.length S.length (dg (uk (oN l) S k))::F)) _ ⟨0,bS _,rfl,bp,ax rfl (by rw[show uk (oN l) S 0=List.replicate S.length (0,false) by simp[uk],←RV];rfl) (.refl _)⟩ ?_;rintro _ _ _ ⟨k,hk,rfl,hs,hp⟩;refine aU hs hp ?_;clear hs hp;refine bz ?_;refine aj (fun jZ=>?_) fun jZ=>?_
 ·have Iv:S.getD k 0<l.length:=hN _ (bg aa 0);have fN:=H.lt (S.getD k 0);have hlp:=Y8 (oN l) (S:=S) (k:=k) aa;have hil:=RU (uk (oN l) S k);refine bI ?_;refine ab (au ag rfl aA aa (fB aa)) rfl ?_;refine bB ?_;refine ab (au ag rfl aA aa (FO Iv)) rfl ?_;refine aF ?_;refine ab (eG [(0,_),(1,_)] [_,_] rfl rfl ag) rfl ?_;refine aF ?_;refine kN (DN 2 ag rfl rfl L5 rfl aV aa aa) ?_;refine bz ?_;refine ve [0,5,11,12,13] ?_;refine av ⟨_,aa,k+1,aa,rfl,bp,ax rfl (by rw[←R3 (oN l) aa,←YZ aa];rfl) (.refl _)⟩
 ·obtain rfl:k=S.length:=by omega
  have xo:uk (oN l) S S.length=S.map fun s=>(oN l s,true):=by simp[uk]
  refine dc ?_;exact⟨wu,S.length,rfl,by rw[xo]⟩
theorem EP{leaf row:List cv}{f i k:Nat}(hi:i<leaf.length)(h:row.length≤k+1∨(leaf.getD i (0,false)).1≤(row.getD k (0,false)).1+(row.getD (k+1) (0,false)).1):pF leaf row (f+1) i k=leaf.getD i (0,false)::pF leaf row f (i+1) k:=by
 rw[pF];split
 ·rfl
 ·rename_i hr;rw[ao ⟨hi,h.resolve_left hr⟩]
theorem Sm{leaf row:List cv}{f i k:Nat}(hr:¬row.length≤k+1)(h:¬(i<leaf.length∧(leaf.getD i (0,false)).1≤(row.getD k (0,false)).1+(row.getD (k+1) (0,false)).1)):pF leaf row (f+1) i k=((row.getD k (0,false)).1+(row.getD (k+1) (0,false)).1,false)::pF leaf row f i (k+2):=by
 rw[pF,aw hr,aw h]
theorem Zn{leaf row:List cv}{f i k:Nat}(h:¬(i<leaf.length∨k+1<row.length)):pF leaf row f i k=[]:=by
 cases f with
 |zero=>rfl
 |succ f=>rw[pF,ao aa,aw aa]
theorem ZP{leaf row:List cv}{W:Nat}(h1:aK B w0 F 2 (.slice A1 leaf.length c1) leaf.length (dg leaf))(h2:aK B w0 F 2 (.slice A2 row.length c2) row.length (dg row))(tC:leaf.length≤1000)(rO:row.length≤1000)(hW:W≤4611686018427387904)(hw1:∀x∈leaf,x.1≤W)(hw2:∀x∈row,x.1≤W):
  a_ B w0 285 [.slice A1 leaf.length c1,.slice A2 row.length c2] F (fun r L=>∃A' c',r= .slice A' (uz leaf row).length c'∧L= .own 397 2 A' (uz leaf row).length c' (dg (uz leaf row))::F):=by
 refine fw func285 83 [0,1] ?_;refine cZ ?_;refine ab (mh rfl rfl aa (r:=((row.length/2:Nat):Int)) (by have e:((row.length:Nat):Int).tdiv 2=((row.length/2:Nat):Int):=rfl;rw[e];exact bF aa aa)) rfl ?_;refine ab (bX rfl rfl (r:=((leaf.length+row.length/2:Nat):Int)) ((bF aa aa).trans aa)) rfl ?_;refine cC (H9 (nn:=0) (cc:=leaf.length+row.length/2) Fq rfl rfl rfl rfl (bS _) aa aa) fun Bf=>?_;refine cZ ?_;refine aE (fun zf zL zm=>∃(i k f:Nat) (acc:List cv) (A5:bj) (c5:Nat),(i≤leaf.length∧k≤row.length∧leaf.length-i+(row.length-k)≤f∧acc++pF leaf row f i k=uz leaf row∧acc.length≤i+k)∧f=zm∧Sub zf [(0,.slice A1 leaf.length c1),(1,.slice A2 row.length c2),(5,.slice A5 acc.length c5),(6,ah i),(7,ah k)]∧Wk zL (.own 397 2 A5 acc.length c5 (dg acc)::F)) _ ⟨0,0,leaf.length+row.length,[],Bf,leaf.length+row.length/2,⟨bS _,bS _,aa,rfl,gi _⟩,rfl,bp,.refl _⟩ ?_;rintro _ _ _ ⟨i,k,f,acc,A5,c5,⟨hi,hk,hf,mI,D_⟩,rfl,hs,hp⟩;refine aU hs hp ?_;clear hs hp;refine bA ?_;refine bU 11 26 [0,1,5,6,7] (i<leaf.length∨k+1<row.length) ?_ ?_
 ·refine bG ?_;refine aL rfl rfl rfl (fun iM=>?_) (fun iM=>?_)
  ·refine bB ?_;exact aP (by exact dN (by first|exact .inl aa|omega))
  ·refine bG ?_;exact aP (by exact ej (by first|exact .inl aa|omega))
 ·refine be ?_;refine aj (fun qc=>?_) fun qc=>?_
  ·obtain⟨f',rfl⟩:∃f',f=f'+1:=⟨f-1,aa⟩
   have hli:=fun(h:i<leaf.length)=>hw1 _ (bg h (0,false));have hrk:=fun(h:k<row.length)=>hw2 _ (bg h (0,false));have aqD:=fun(h:k+1<row.length)=>hw2 _ (bg h (0,false));have wR:∀x:cv,(acc++[x]).length=acc.length+1:=fun x=>by simp
   refine dc ?_;refine aj (fun D8=>?_) fun D8=>?_
   ·have wO:=EP (leaf:=leaf) (row:=row) (f:=f') (i:=i) (k:=k) aa (.inl aa);rw[wO]at mI;have hx:=wR (leaf.getD i (0,false));refine bz ?_;refine ab (di 2 ag rfl aA aa [.int .u64 ((leaf.getD i (0,false)).1:Int),.bool (leaf.getD i (0,false)).2] (sr (yb aa)) rfl) rfl ?_;refine rI Fq rfl rfl rfl aa cw rfl rfl rfl (fun _=>rfl) aV aa aa ?_;intro _ LP PU;refine bI ?_;refine ve [0,1,5,6,7] ?_;refine b8 ?_;refine av ⟨_,aa,i+1,k,f',acc++[leaf.getD i (0,false)],LP,PU,⟨aa,aa,aa,aa4,aa⟩,rfl,bp,ax aa aa9 (.refl _)⟩
   ·have hrk:=hrk aa;have aqD:=aqD aa;refine bK ?_;refine bZ (fS underlying397 rfl ag rfl aA aa rfl) rfl ?_;refine bZ (jO ag rfl aA aa (zT aa)) rfl ?_;refine bA ?_;refine bZ (aC (i:=k+1) (size:=2) underlying392 ag rfl rfl aa aa aA) rfl ?_;refine bZ (fS underlying397 rfl ag rfl aA aa rfl) rfl ?_;refine bZ (jO ag rfl aA aa (zT aa)) rfl ?_;refine bZ (bX rfl rfl (r:=(((row.getD k (0,false)).1+(row.getD (k+1) (0,false)).1:Nat):Int)) ((f_ aa aa).trans aa)) rfl ?_;refine aF ?_;refine nj [(0,_),(1,_),(5,_),(6,_),(7,_),(8,_)] ⟨rfl,rfl,rfl,rfl,rfl,rfl,trivial⟩ ?_;refine b8 ?_;refine bU 13 65 [0,1,5,6,7,8] (i<leaf.length∧(leaf.getD i (0,false)).1≤(row.getD k (0,false)).1+(row.getD (k+1) (0,false)).1) ?_ ?_
    ·refine bG ?_;refine cM (fun h57=>?_) fun h57=>?_
     ·refine bz ?_;refine ab (fS underlying397 rfl ag rfl aA aa rfl) rfl ?_;refine aF ?_;refine ab (jO ag rfl aA aa (zT aa)) rfl ?_;refine bG ?_;exact aP (by exact dN aop)
     ·refine bK ?_;exact aP (by exact eU aop)
    ·refine be ?_;refine aj (fun h65=>?_) fun h65=>?_
     ·have wO:=EP (leaf:=leaf) (row:=row) (f:=f') (i:=i) (k:=k) h65.1 (.inr h65.2);rw[wO]at mI;have hx:=wR (leaf.getD i (0,false));have aub:=h65.1;refine bz ?_;refine ab (di 2 ag rfl aA aa [.int .u64 ((leaf.getD i (0,false)).1:Int),.bool (leaf.getD i (0,false)).2] (sr (yb aa)) rfl) rfl ?_;refine rI Fq rfl rfl rfl aa cw rfl rfl rfl (fun _=>rfl) aV aa aa ?_;intro _ A72 c72;refine dc ?_;refine av ⟨_,aa,i+1,k,f',acc++[leaf.getD i (0,false)],A72,c72,⟨aa,aa,aa,aa4,aa⟩,rfl,bp,ax aa aa9 (.refl _)⟩
     ·have wO:=Sm (leaf:=leaf) (row:=row) (f:=f') (i:=i) (k:=k) aa h65;rw[wO]at mI;have hx:=wR ((row.getD k (0,false)).1+(row.getD (k+1) (0,false)).1,false);refine bz ?_;refine ab (bw [(0,_)] [.int .u64 0,.bool false] [0] [_,_] rfl rfl ag) rfl ?_;refine rI Fq rfl rfl rfl aa cw rfl rfl rfl (fun _=>rfl) aV aa aa ?_;intro _ A79 c79;refine bO ?_;refine av ⟨_,aa,i,k+2,f',acc++[((row.getD k (0,false)).1+(row.getD (k+1) (0,false)).1,false)],A79,c79,⟨aa,aa,aa,aa4,aa⟩,rfl,bp,ax aa aa9 (.refl _)⟩
  ·rw[Zn qc,gj]at mI;subst mI;refine dc ?_;exact⟨A5,c5,rfl,rfl⟩
section
set_option maxHeartbeats 1000000
theorem ala{P:Prop}(h:P:=by(exact ej (by first|(exact⟨fun h=>absurd h (by omega),False.elim⟩)|omega|(simp;done)))):P:=h
theorem Ws{leaf:List cv}(h:∀x∈leaf,x.1≤4294967296):∀r,∀x∈dS leaf r,x.1≤2^(32+r)
 |0,x,hx=>h x hx
 |r+1,x,hx=>by
  rw[dS,vd]at hx;have hp:2^(32+(r+1))=2*2^(32+r):=by rw[←NM,nK];omega
  have h1:4294967296≤2^(32+r):=by
   have:2^32≤2^(32+r):=la aa aa;simpa using this
  rcases yz hx with e|e
  ·have:=h x e;omega
  ·have:=(Wb (Ws h r) e).1;omega
abbrev RwI:=bj×Nat×List cv
abbrev rwV(e:RwI):Value:=.slice e.1 e.2.2.length e.2.1
def RwB(B:Nat)(w0:World)(K:aQ)(R:List RwI):Prop:=∀e∈R,aK B w0 K 2 (rwV e) e.2.2.length (dg e.2.2)
def PF(L:bf):cV:=L.map fun(n:Nat)=>Value.int .u8 (n:Int)
theorem ajs{L:bf}{k:Nat}(h:k<L.length):(PF L)[k*1]? =some (.int .u8 ((L.getD k 0:Nat):Int)):=by
 rw[cE];simp[PF,List.getD,fm h]
theorem W9(L:bf)(k v:Nat):(PF L).set (k*1) (.int .u8 (v:Int))=PF (L.set k v):=by simp[PF,Kw]
theorem ajt(L:bf):(PF L).length=L.length:=by simp[PF]
theorem anQ{L:bf}(h:∀s,L.getD s 0≤15):PF L=bv (L.map UInt8.ofNat):=by
 unfold PF bv;rw[vH];refine sb fun x hx=>?_;obtain⟨i,hi,rfl⟩:=j0 hx;have:=h i;rw[bk,fm hi,vI]at this;have e:(UInt8.ofNat L[i]).toNat=L[i]:=by rw[oi];exact i_ aa
 simp[e]
theorem Vu{S out:bf}(hd:S.Nodup)(hs:∀s∈S,s<out.length){b:Nat}(hb:∀s,out.getD s 0≤b){n:Nat}(hn:n≤S.length):∀s,(tj S n out).getD s 0≤b+1:=fun s=>by
 obtain⟨h1,h2⟩:=Ej hd hs n hn;by_cases hm:s∈S
 ·obtain⟨j,hj,hje⟩:=j0 hm;have hjd:S.getD j 0=s:=by rw[bk,fm hj,←hje];rfl
  have:=h1 j hj;rw[hjd]at this;rw[this];have:=hb s;split<;>omega
 ·rw[h2 s hm];have:=hb s;omega
theorem XI{leaf:List cv}(hl:∀x∈leaf,x.2=true)(hw:Wt leaf)(r t:Nat):gH (dS leaf r) t≤leaf.length:=by
 have hf:=(KT hl hw r).2 t;have:(leaf.take (gH (dS leaf r) t)).length=gH (dS leaf r) t:=by
  rw[←hf,←List.countP_eq_length_filter];rfl
 rw[eS]at this;omega
theorem XJ{row:List cv}{k:Nat}(h:k<row.length):gH row (k+1)=gH row k+if (row.getD k (0,false)).2 then 1 else 0:=by
 unfold gH;rw[ba h (0,false),List.countP_append,N6,List.countP_nil];omega
theorem Wp{leaf:List cv}(r:Nat):(dS leaf r).length≤2*leaf.length:=(Wq leaf r).2
theorem dv:∀(M N:aQ),Wk (M++N) N
 |[],N=>.refl _
 |_::M,N=>.skip (dv M N)
theorem mR.wide{leaf:List cv}{r t M M':Nat}(h:mR leaf r t M)(hm:M≤M'):mR leaf r t M':=by
 cases r with
 |zero=>exact h
 |succ r=>exact⟨h.1,jc h.2 hm⟩
theorem mR.le{leaf:List cv}{r t M:Nat}(h:mR leaf r t M):t≤2*leaf.length:=by
 cases r with
 |zero=>
  have:t=0:=h;omega
 |succ r=>exact jc h.1 (Wp r)
theorem amP{leaf row:List cv}{W n1:Nat}(hn1:leaf.length=n1)(h1:aK B w0 F 2 (.slice A1 n1 c1) n1 (dg leaf))(h2:aK B w0 F 2 (.slice A2 row.length c2) row.length (dg row))(tC:leaf.length≤1000)(rO:row.length≤1000)(hW:W≤4611686018427387904)(hw1:∀x∈leaf,x.1≤W)(hw2:∀x∈row,x.1≤W):
  a_ B w0 285 [.slice A1 n1 c1,.slice A2 row.length c2] F (fun r L=>∃A' c',r= .slice A' (uz leaf row).length c'∧L= .own 397 2 A' (uz leaf row).length c' (dg (uz leaf row))::F):=by
 subst hn1;exact ZP h1 h2 tC rO hW hw1 hw2
theorem akE{R:List RwI}{leaf:List cv}{k i:Nat}(h:R.map (·.2.2)=(List.range k).map (dS leaf))(hi:i<k):∃A c,R.getD i (none,0,[])=(A,c,dS leaf i)∧(A,c,dS leaf i)∈R∧(R.map rwV)[i*1]? =some (.slice A (dS leaf i).length c):=by
 have hl:R.length=k:=by have:=dB List.length h;simpa using this
 have P9:i<R.length:=by omega
 have e:(R.map (·.2.2))[i]? =some (dS leaf i):=by rw[h];simp[hi]
 rw[jq,fm P9]at e;simp only[sS,Ew]at e;refine⟨R[i].1,R[i].2.1,?_,?_,?_⟩
 ·rw[bk,fm P9,←e];rfl
 ·rw[←e];exact ub P9
 ·rw[cE,jq,fm P9,←e];rfl
theorem anT{S:bf}(hS:S=dA (oN l) l.length)(H:Hg B w0 F Ao co l)(hl:l.length≤300):
  a_ B w0 283 [.slice Ao l.length co] F (fun r L=>∃A' c',r= .slice A' S.length c'∧L= .own 3 1 A' S.length c' (bx S)::F):=by
 subst hS;exact anS H hl
theorem Oc{o:Nat→Nat}{N:Nat}{S:bf}(hS:S=dA o N)(h:S.length<2):jr o N=if S.length=1 then (List.replicate N 0).set (S.getD 0 0) 1 else List.replicate N 0:=by
 subst hS;rw[jr,ao h]
theorem Za{o:Nat→Nat}{N:Nat}{S:bf}(hS:S=dA o N)(h:¬S.length<2):jr o N=sO S (CI (S.map fun s=>(o s,true)) 15 (2*S.length-2)) (List.replicate N 0):=by
 subst hS;rw[jr,aw h];rfl
theorem FQ(n:Nat):List.replicate n (Value.int .u8 0)=PF (List.replicate n 0):=by simp[PF]
theorem amD(H:Hg B w0 F Ao co l)(hl:l.length≤300):
    a_ B w0 246 [.slice Ao l.length co,ah 15] F (fun r L=>∃A' c',r= .tuple #[.slice A' l.length c',ah 0]∧L= .own 5 1 A' l.length c' (bv (kV (oN l) l.length))::F):=by
  have hbv:bv (kV (oN l) l.length)=PF (jr (oN l) l.length):=(anQ (EB (o:=oN l) hl)).symm;obtain⟨S,hS⟩:=cK (dA (oN l) l.length);have nS:S.length≤l.length:=by rw[hS];exact Ja _ _
  have Iv:∀s∈S,s<l.length:=fun s hs=>(ng.1 (hS▸hs)).1;have hnd:S.Nodup:=by rw[hS];exact Pc _ _
  refine fw func246 109 [0,1] ?_;refine bO ?_;refine bU 11 25 [0,1] (False) ?_ ?_
  · refine b8 ?_;refine aL rfl rfl rfl (fun jj=>?_) (fun jj=>?_)
    · refine bG ?_;refine aL rfl rfl rfl (fun rN=>?_) (fun rN=>?_)
      · refine b8 ?_;exact aP (by rfl)
      · refine be ?_;exact aP ala
    · refine bz ?_;exact aP ala
  · refine be ?_;refine dm fun vV=>?_;refine bG ?_;refine ay rfl (anT hS H hl) fun Hc Ms=>?_;refine bO ?_;refine ab (ga rfl rfl aa (r:=32768) aB) rfl ?_;refine bA ?_;refine dm fun Bv=>?_;refine bz ?_;refine cC (fb cD rfl rfl rfl rfl rfl aa aa aa) fun Lq=>?_;refine cZ ?_;refine aj (fun CA=>?_) fun CA=>?_
    · obtain⟨s0,aml⟩:=cK (S.getD 0 0);have CD:s0<l.length:=by rw[aml];exact Iv _ (bg aa 0)
      refine bA ?_;refine ab (aC (i:=0) (size:=1) underlying53 ag rfl rfl rfl aa aA) rfl ?_;refine ab (au ag rfl aA aa (gb (i:=0) (v:=s0) aa aml.symm)) rfl ?_;refine ab (aC (i:=s0) underlying27 ag rfl rfl rfl aa aA) rfl ?_;refine aF ?_;refine ve [0,1,6,7] ?_;refine bO ?_;refine zH fun h46=>?_;have xo:=Oc hS aa;rw[ao aa]at xo;refine bO ?_;refine aq (L':=.own 5 1 Lq l.length l.length (bv (kV (oN l) l.length))::F) (.trans (ax rfl (by rw[hbv,xo,FQ,←aml];exact W9 _ _ 1) (.refl _)) ((ed (.skip (.refl _))))) ?_;refine aF ?_;exact⟨Lq,l.length,rfl,rfl⟩
    · refine bB ?_;refine aj (fun h46=>?_) fun h46=>?_
      · have xo:=Oc hS aa;rw[aw aa]at xo;refine bG ?_;refine ve [4,5] ?_;refine bA ?_;refine aq (L':=.own 5 1 Lq l.length l.length (bv (kV (oN l) l.length))::F) (.trans (ax rfl (by rw[hbv,xo,FQ]) (.refl _)) ((ed (.skip (.refl _))))) ?_;refine aF ?_;exact⟨Lq,l.length,rfl,rfl⟩
      · have xo:=Za hS aa;obtain⟨leaf,Nz⟩:=cK (S.map fun s=>(oN l s,true));have Ry:leaf=oo (oN l) l.length:=by rw[Nz,hS];rfl
        have wR:leaf.length=S.length:=by rw[Nz];simp
        have l9:∀x∈leaf,x.2=true:=by rw[Ry];exact sf
        have hwt:Wt leaf:=by rw[Ry];exact yq _ _
        have ua:mR leaf 15 (2*S.length-2) S.length:=by rw[Ry,hS];exact xa (o:=oN l) hl
        have hlw:∀x∈leaf,x.1≤4294967296:=by
          rw[Nz];intro x hx;obtain⟨s,_,rfl⟩:=pQ.1 hx;exact Nat.le_of_lt (H.lt s)
        rw[←Nz]at xo;refine bz ?_;refine ay rfl (adt ⟨H.xk.cons.cons,H.lt⟩ aA aa Iv) fun BY F_=>?_;rw[←Nz];refine aF ?_;refine ve [1,6,7,8] ?_;refine b8 ?_;refine cC (aG aeU [_] rfl rfl cw aa aa) fun A52=>?_;refine bG ?_;refine aE (fun zf zL zm=>∃(k:Nat) (R:List RwI) (M:aQ) (A9:bj) (c9:Nat),(1≤k∧k≤15∧R.length=k∧R.map (·.2.2)=(List.range k).map (dS leaf)∧RwB B w0 (M++(.own 397 2 BY S.length F_ (dg leaf)::F)) R)∧15-k=zm∧Sub zf [(1,ah 15),(6,.slice Hc S.length Ms),(7,.slice Lq l.length l.length),(8,.slice BY S.length F_),(9,.slice A9 k c9)]∧Wk zL (.own 392 1 A9 k c9 (R.map rwV):: .own 5 1 Lq l.length l.length (PF (List.replicate l.length 0)):: .own 3 1 Hc S.length Ms (bx S)::(M++(.own 397 2 BY S.length F_ (dg leaf)::F)))) _ ⟨1,[(BY,F_,leaf)],[],A52,1,⟨gi _,aa,rfl,rfl,fun e he=>by rw[lJ.1 he];exact wR▸aK.own (.head _)⟩,rfl,bp,.trans ((ed (gk (gk (ed (.refl _)))))) (ax rfl (by rw[←wR];rfl) (ax rfl (FQ _) (.refl _)))⟩ ?_;rintro _ _ _ ⟨k,R,M,A9,c9,⟨xp,Ir,Ve,hRm,Vd⟩,rfl,hs,hp⟩;refine aU hs hp ?_;clear hs hp;refine bO ?_;refine aj (fun Yq=>?_) fun Yq=>?_
        · obtain⟨j,rfl⟩:∃j,k=j+1:=⟨k-1,aa⟩
          obtain⟨A8,c8,hg8,hm8,hv8⟩:=akE (i:=j) hRm aa;have hb8:aK B w0 (M++(.own 397 2 BY S.length F_ (dg leaf)::F)) 2 (.slice A8 (dS leaf j).length c8) (dS leaf j).length (dg (dS leaf j)):=Vd _ hm8;have de:aK B w0 (M++(.own 397 2 BY S.length F_ (dg leaf)::F)) 2 (.slice BY S.length F_) S.length (dg leaf):=aK.own (nF _ (.head _));have hrl:=Wp (leaf:=leaf) j;have hjw:(2:Nat)^(32+j)≤2^47:=la aa aa;have hjp:(2:Nat)^47=140737488355328:=by decide
          have hnx:uz leaf (dS leaf j)=dS leaf (j+1):=rfl;refine bB ?_;refine ab (aC (i:=j) underlying394 ag rfl rfl aa aa aA) rfl ?_;refine ab (au ag rfl aA aa hv8) rfl ?_;refine ay rfl (amP (W:=140737488355328) wR de.cons.cons.cons hb8.cons.cons.cons aa aa aa (fun x hx=>by have:=hlw x hx;omega) (fun x hx=>by have:=Ws hlw j x hx;omega)) fun A65 c65=>?_;rw[hnx];refine dF aeU rfl rfl rfl rfl rfl (fun _=>rfl) aV aa aa ?_;intro _ A67 c67;refine bA ?_;refine av ⟨_,aa,j+1+1,R++[(A65,c65,dS leaf (j+1))],.own 397 2 A65 (dS leaf (j+1)).length c65 (dg (dS leaf (j+1)))::M,A67,c67,⟨aa,aa,bR,by rw[ja,hRm,lq (n:=j+1),ja];rfl,fun e he=>by
  rcases dz.1 he with he|he
  · exact(Vd e he).mono (.cons _ (.refl _))
  · rw[lJ.1 he];exact aK.own (.head _)⟩,rfl,bp,.trans ((gk (gk (gk (ed (.refl _)))))) (ax aa (by rw[ja];rfl) (.refl _))⟩
        · obtain rfl:k=15:=by omega
          refine acw ?_;refine aE (fun zf zL zm=>∃(r t:Nat) (out:bf),(r≤15∧mR leaf r t S.length∧sO S (CI leaf r t) out=jr (oN l) l.length∧out.length=l.length∧(∀s,out.getD s 0+r≤15)∧t≤600)∧r=zm∧Sub zf [(6,.slice Hc S.length Ms),(7,.slice Lq l.length l.length),(9,.slice A9 15 c9),(10,ah t),(11,ah ((r:Int)-1))]∧Wk zL (.own 5 1 Lq l.length l.length (PF out):: .own 392 1 A9 15 c9 (R.map rwV):: .own 3 1 Hc S.length Ms (bx S)::(M++(.own 397 2 BY S.length F_ (dg leaf)::F)))) _ ⟨15,2*S.length-2,List.replicate l.length 0,⟨gi _,ua,xo.symm,ak,fun s=>by
  rw[bk,IA];split<;>simp,aa⟩,rfl,bp,(gk (ed (ed (.refl _))))⟩ ?_
          rintro _ _ _ ⟨r,t,out,⟨aul,amq,hfo,Kl,hob,ht6⟩,rfl,hs,hp⟩;refine aU hs hp ?_;clear hs hp;refine bK ?_;refine aj (fun h76=>?_) fun h76=>?_
          · obtain⟨i,rfl⟩:∃i,r=i+1:=⟨r-1,aa⟩
            obtain⟨A8,c8,hg8,hm8,hv8⟩:=akE (i:=i) hRm aa;have hb8:aK B w0 (M++(.own 397 2 BY S.length F_ (dg leaf)::F)) 2 (.slice A8 (dS leaf i).length c8) (dS leaf i).length (dg (dS leaf i)):=Vd _ hm8;have Ce:t≤(dS leaf i).length:=amq.1;have hb9:=hb8.iY Ce;rw[(pr (dS leaf i) t).1]at hb9;have tB:=XI l9 hwt i;have vX:=amq.step l9 hwt;have hil:t≤(dS leaf i).length:=Ce;refine cZ ?_;refine Tw hb8.cons.cons.cons fun atJ _=>?_;refine bA ?_;refine ab (aC (i:=i) underlying394 ag rfl rfl aa aa aA) rfl ?_;refine ab (au ag rfl aA aa hv8) rfl ?_;refine aF ?_;refine ab (bN (i:=t) (size:=2) underlying392 ag rfl rfl rfl aa) rfl ?_;refine bG ?_;refine aE (fun zf zL zm=>∃(k:Nat),(k≤t)∧t-k=zm∧Sub zf [(6,.slice Hc S.length Ms),(7,.slice Lq l.length l.length),(9,.slice A9 15 c9),(10,ah t),(11,ah ((i+1:Nat)-1:Int)),(12,ah (gH (dS leaf i) k)),(84,.slice A8 t c8),(85,ah t),(86,ah k)]∧Wk zL (.own 5 1 Lq l.length l.length (PF (tj S (gH (dS leaf i) k) out)):: .own 392 1 A9 15 c9 (R.map rwV):: .own 3 1 Hc S.length Ms (bx S)::(M++(.own 397 2 BY S.length F_ (dg leaf)::F)))) _ ⟨0,bS _,rfl,bp,.refl _⟩ ?_;rintro _ _ _ ⟨k,hkt,rfl,hs,hp⟩;refine aU hs hp ?_;clear hs hp;refine bz ?_;refine aj (fun h87=>?_) fun h87=>?_
            · have Rx:=XJ (row:=dS leaf i) (k:=k) aa;have hkc:=tB (k+1);have at4:=rf S out (gH (dS leaf i) k);have asE:((dS leaf i).take t).getD k (0,false)=(dS leaf i).getD k (0,false):=by
                simp only[bk];rw[Vz aa]
              have hia:=yb (L:=(dS leaf i).take t) (k:=k) nx;rw[asE]at hia;obtain⟨⟨xw,xb⟩,hxe⟩:∃x,x=(dS leaf i).getD k (0,false):=⟨_,rfl⟩
              rw[←hxe]at hia Rx;refine bz ?_;refine ab (aC (i:=k) (size:=2) underlying392 ag rfl rfl rfl aa hb9.cons.cons.cons) rfl ?_;refine ab (di 2 ag rfl hb9.cons.cons.cons aa [.int .u64 (xw:Int),.bool xb] (sr hia) rfl) rfl ?_;refine bc fun g14=>?_;refine bO ?_;refine gZ (fun h91=>?_) fun h91=>?_
              · rw[ao (show(xw,xb).2=true from h91)]at Rx;obtain⟨s,hse⟩:=cK (S.getD (gH (dS leaf i) k) 0);have auo:s<l.length:=by rw[hse];exact Iv _ (bg aa 0)
                obtain⟨v,hve⟩:=cK ((tj S (gH (dS leaf i) k) out).getD s 0);have YK:v≤14-i+1:=by rw[hve];exact Vu hnd (fun s hs=>by rw[Kl];exact Iv s hs) (fun s=>by have:=hob s;omega) aa s
                have asD:(PF (tj S (gH (dS leaf i) k) out)).set (s*1) (.int .u8 ((v+1:Nat):Int))=PF (tj S (gH (dS leaf i) (k+1)) out):=by rw[Rx,tj,←hse,←hve,W9]
                refine bG ?_;refine ab (aC (i:=gH (dS leaf i) k) underlying53 ag rfl rfl rfl aa aA) rfl ?_;refine ab (au ag rfl aA aa (gb (v:=s) aa hse.symm)) rfl ?_;refine ab (aC (i:=s) underlying27 ag rfl rfl rfl aa aA) rfl ?_;refine ab (au (v:=.int .u8 (v:Int)) ag rfl aA aa (by rw[hve];exact ajs aa)) rfl ?_;refine ab (bX rfl rfl (r:=((v+1:Nat):Int)) ((aaF aa aa).trans aa)) rfl ?_;refine ab (aC (i:=s) underlying27 ag rfl rfl rfl aa aA) rfl ?_;refine kN (iK ag rfl rfl rfl aV (by rw[ajt];omega)) ?_;refine bz ?_;refine ve [6,7,9,10,11,12,84,85,86] ?_;refine bz ?_;refine av ⟨_,aa,k+1,aa,rfl,bp,.skip (ax rfl asD (.refl _))⟩
              · rw[aw (show¬(xw,xb).2=true by simpa using h91)]at Rx;refine bK ?_;refine av ⟨_,aa,k+1,aa,rfl,bp,.skip (ax rfl (by rw[Rx];rfl) (.refl _))⟩
            · obtain rfl:k=t:=by omega
              have hct:=Us (dS leaf i) k;have hw2:=vX.le;have hck:=tB k;refine zI ?_;refine av ⟨_,aa,i,2*(k-gH (dS leaf i) k),tj S (gH (dS leaf i) k) out,⟨aa,vX.wide amq.2,by have h:=hfo;rw[CI,sO]at h;exact h,by rw[rf];exact Kl,fun s=>by
  have:=Vu hnd (fun s hs=>by rw[Kl];exact Iv s hs) (b:=14-i) (fun s=>by have:=hob s;omega) (n:=gH (dS leaf i) k) aa s;omega,aa⟩,rfl,bp,.refl _⟩
          · obtain rfl:r=0:=by omega
            rw[CI,sO]at hfo;refine dc ?_;refine aq (L':=.own 5 1 Lq l.length l.length (bv (kV (oN l) l.length))::F) (ax rfl (by rw[hbv,hfo]) (.skip (.skip (.trans (dv M _) (.skip (.refl _)))))) ?_;refine aF ?_;exact⟨Lq,l.length,rfl,rfl⟩
end
theorem atA{x:Int}(h:0≤x∧x≤100000000):IntKind.i64.wrap (x*2^min (1:Int).toNat IntKind.i64.bits)=x*2:=by
 have e:min (1:Int).toNat IntKind.i64.bits=1:=by decide
 rw[e];exact bF aa aa
theorem ag5{l:al}{s:Nat}{x:Int}(h:¬(l.getD s 0).toNat=0)(hx:x=(place l (l.getD s 0).toNat s:Int)):IntKind.u16.wrap x=code l s:=by
 unfold code;rw[aw h,hx]
theorem ag6(l:al)(hb:eM B w0 F A c l)(hg:Good l):a_ B w0 287 [.slice A l.length c] F (fun r L=>∃A' c',r= .tuple #[.slice A' l.length c',ah 0]∧L= .own 57 1 A' l.length c' (ints .u16 (gd l))::F):=by
 have hc:=zn l hb;rw[xE hg]at hc;have hf:=hg.1;have l9:=hf.1;have xo:=Na hf;have hf1:=xo.1;refine fw func287 63 [0] ?_;refine bB ?_;refine ai rfl (hc) ?_;refine bO ?_;refine dm fun kL=>?_;refine bG ?_;refine ai rfl (HV l aA hf) ?_;refine bA ?_;refine bc fun g5=>?_;refine bz ?_;refine bc fun g7=>?_;refine bO ?_;refine aE (fun zf zL zm=>∃(k:Nat),(1≤k∧k≤16)∧16-k=zm∧Sub zf [(0,.slice A l.length c),(5,br g5),(7,br g7),(8,ah k)]∧Wk zL (.bE g7 430 (ints .i64 (xZ l k)):: .bE g5 426 (ints .i64 (qU l))::F)) _ ⟨1,⟨aa,aa⟩,rfl,bp,bq (by rw[←ach];rfl) (.refl _)⟩ ?_;rintro _ _ _ ⟨k,⟨xp,hk⟩,rfl,hs,hp⟩;refine aU hs hp ?_;clear hs hp;refine bK ?_;refine aj (fun m7=>?_) fun m7=>?_
 ·have e1:=acg l (gi k) aa;have e2:=cW l (k:=k) aa aa;have e3:=u5 l9 hk;have e4:=w3 l k;have e5:=fx l xp;refine b8 ?_;refine cF (.bE g5 426 (ints .i64 (qU l))::F) ?_;refine ae 0 ?_;refine ae 1 ?_;refine ae 2 ?_;refine aW 3 rfl (aM underlying430 ag rfl rfl rfl aa) ?_;refine ae 5 ?_;refine aW 6 rfl (aM underlying426 ag rfl rfl rfl aa) ?_;refine aW 7 rfl (eY ag rfl aV Gq) ?_;refine az 4 ?_;refine iL rfl .no (eY ag rfl aV Gq) rfl gD ?_;refine ae 8 ?_;refine aW 9 rfl (ga rfl rfl aa (atA aa)) ?_;refine aW 10 rfl (aM (i:=k+1) underlying430 ag rfl rfl rfl aa) ?_;refine az 11 ?_;refine bO ?_;refine av ⟨_,aa,k+1,⟨aa,aa⟩,rfl,bp,bq (by rw[←Yg,e5,e1,e2];push_cast;rfl) (.refl _)⟩
 ·refine bO ?_;refine cC (fb uI rfl rfl rfl rfl rfl aa aa aa) fun A39=>?_;refine cH ?_;have al':k=16:=by omega
  subst al';refine aE (fun zf zL zm=>∃(s:Nat) (A9:bj),(s≤l.length)∧l.length-s=zm∧Sub zf [(7,br g7),(9,.slice A9 l.length l.length),(40,.slice A l.length c),(41,ah l.length),(42,ah s)]∧Wk zL (.own 57 1 A9 l.length l.length (ints .u16 (Ci l s)):: .bE g7 430 (ints .i64 (vC l s)):: .bE g5 426 (ints .i64 (qU l))::F)) _ ⟨0,A39,bS _,rfl,bp,ax rfl (by rw[ZC];simp[ints]) (bq (by rw[Yj]) (.refl _))⟩ ?_;rintro _ _ _ ⟨s,A9,hs,rfl,hs,hp⟩;refine aU hs hp ?_;clear hs hp;refine bz ?_;refine aj (fun Rf=>?_) fun Rf=>?_
  ·have hu:=hf.2 _ (bg (k:=s) aa 0);have hp:=OJ l9 (k:=(l.getD s 0).toNat) aa s;refine zI ?_;refine aj (fun Np=>?_) fun Np=>?_
   ·have hfB:=Nj l s;have eB:=aci l (s:=s) (j:=(l.getD s 0).toNat) aa aa;refine bG ?_;refine ab (aM (i:=(l.getD s 0).toNat) underlying430 ag rfl rfl rfl aa) rfl ?_;refine ab (eY ag rfl aV Gq) rfl ?_;refine ab (bm underlying3 underlying57 rfl (ag5 (s:=s) aa eB)) rfl ?_;refine aF ?_;refine kN (iK ag rfl rfl rfl aV (by rw[kA,OG l hs];omega)) ?_;refine b8 ?_;refine ab (aM (i:=(l.getD s 0).toNat) underlying430 ag rfl rfl rfl aa) rfl ?_;refine ab (eY ag rfl aV Gq) rfl ?_;refine aF ?_;refine ab (aM (i:=(l.getD s 0).toNat) underlying430 ag rfl rfl rfl aa) rfl ?_;refine aF ?_;refine ve [7,9,40,41,42] ?_;refine bz ?_;refine av ⟨_,aa,s+1,A9,aa,rfl,bp,ax rfl (by rw[←IQ aa,cE];simp[ints,Kw]) (bq (by rw[←Yi aa aa aa,eB]) (.refl _))⟩
   ·refine bK ?_;refine av ⟨_,aa,s+1,A9,aa,rfl,bp,ax rfl (by rw[←ZB aa aa]) (bq (by rw[←Yh aa aa]) (.refl _))⟩
  ·refine dc ?_;have Bz:s=l.length:=by omega
   subst Bz;refine aq (ax rfl (by rw[ad_]) (.skip (.skip (.refl _)))) ?_;refine aF ?_;exact⟨A9,_,rfl,rfl⟩
section
variable{l:al}
theorem aoL{P:Prop}(h:P:=by(rw[←hmm];exact al6 (g_ _ _) (iv _ _) (by omega))):P:=h
theorem aoR{P:Prop}(h:P:=by(rw[←hff];exact aqh (g_ _ _) (by omega))):P:=h
theorem alb{P:Prop}(h:P:=by(rw[←zN,ahz (by omega) (by rw[←hy,←hw];omega)])):P:=h
abbrev kz(vl vc:Value)(a b:List Int)(sy:cV):cV:=vl::vc::(ints .i64 a++(ints .i64 b++sy))
section
variable{vl vc:Value}{a b:List Int}{sy:cV}{i:Nat}
theorem aqh(ha:a.length=16)(hi:i<16):(kz vl vc a b sy)[2+i]? =some (ah (a.getD i 0)):=by
 rw[show 2+i=i+1+1 by omega];simp only[VB];rw[z7 bR];simp[ints,List.getD,fm (show i<a.length by omega)]
theorem al6(ha:a.length=16)(hb:b.length=16)(hi:i<16):(kz vl vc a b sy)[18+i]? =some (ah (b.getD i 0)):=by
 rw[show 18+i=(16+i)+1+1 by omega];simp only[VB];rw[sY bR,kA,ha,yg,z7 bR];simp[ints,List.getD,fm (show i<b.length by omega)]
theorem al7(ha:a.length=16)(hb:b.length=16):(kz vl vc a b sy)[34+i]? =sy[i]? :=by
 rw[show 34+i=(32+i)+1+1 by omega];simp only[VB];rw[sY bR,kA,ha,show 32+i-16=16+i by omega,sY bR,kA,hb,yg]
theorem ahC(ha:a.length=16)(hi:i<16)(v:Int):(kz vl vc a b sy).set (2+i) (ah v)=kz vl vc (a.set i v) b sy:=by
 rw[show 2+i=i+1+1 by omega];simp only[NU];rw[List.set_append_left _ _ bR];simp[ints,Kw]
theorem ahD(ha:a.length=16)(hb:b.length=16)(hi:i<16)(v:Int):(kz vl vc a b sy).set (18+i) (ah v)=kz vl vc a (b.set i v) sy:=by
 rw[show 18+i=(16+i)+1+1 by omega];simp only[NU];rw[wX _ _ bR,kA,ha,yg,List.set_append_left _ _ bR];simp[ints,Kw]
theorem Vg(ha:a.length=16)(hb:b.length=16)(v:Value):(kz vl vc a b sy).set (34+i) v=kz vl vc a b (sy.set i v):=by
 rw[show 34+i=(32+i)+1+1 by omega];simp only[NU];rw[wX _ _ bR,kA,ha,show 32+i-16=16+i by omega,wX _ _ bR,kA,hb,yg]
end
theorem Rq{vl vc:Value}{a b:List Int}{sy:cV}(ha:a.length=16)(hb:b.length=16)(hs:sy.length=16):(kz vl vc a b sy).length=50:=by
 simp[ha,hb,hs]
def q9(l:al)(s:Nat):List Int:=(List.range 16).map fun k=>if k=0∨num (l.take s) k=0 then 0 else (fst l k:Int)
def mn(l:al)(s:Nat):List Int:=(List.range 16).map fun k=>if k=0 then 0 else (num (l.take s) k:Int)
def mq(l:al)(s:Nat):List (bf):=(List.range 16).map fun k=>if k=0 then [] else jh l s k
@[simp] theorem g_(l:al)(s:Nat):(q9 l s).length=16:=by simp[q9]
@[simp] theorem iv(l:al)(s:Nat):(mn l s).length=16:=by simp[mn]
@[simp] theorem an8(l:al)(s:Nat):(mq l s).length=16:=by simp[mq]
theorem Nt{l:al}{k:Nat}(h:1≤k)(h2:k≤15):(q9 l l.length).getD k 0=(oz l k:Int):=by
 have h3:¬k=0:=by omega
 simp only[q9,bk,jq,ye (show k<16 by omega),sS,vI,jS,h3,false_or];unfold oz;split<;>simp
theorem It{l:al}{k:Nat}(h:1≤k)(h2:k≤15):(mn l l.length).getD k 0=(num l k:Int):=by
 have h3:¬k=0:=by omega
 simp only[mn,bk,jq,ye (show k<16 by omega),sS,vI,jS,aw h3]
theorem Iw{l:al}{k:Nat}(h:1≤k)(h2:k≤15):(mq l l.length).getD k []=lf l k:=by
 have h3:¬k=0:=by omega
 simp only[mq,bk,jq,ye (show k<16 by omega),sS,vI,aw h3,lf]
structure xi(B:Nat)(w0:World)(L:aQ)(g:Nat)(l:al):Prop where
 co:∃(A1:bj) (c1:Nat) (A2:bj) (c2:Nat) (SY:List rK),Ch.bE g 347 (kz (.slice A1 l.length c1) (.slice A2 l.length c2) (q9 l l.length) (mn l l.length) (SY.map jL))∈L∧
  aK B w0 L 1 (.slice A1 l.length c1) l.length (bv l)∧aK B w0 L 1 (.slice A2 l.length c2) l.length (ints .u16 (gd l))∧SY.map (·.2.2)=mq l l.length∧∀e∈SY,aK B w0 L 1 (jL e) e.2.2.length (bx e.2.2)
theorem xi.mono(h:xi B w0 L g l){M:aQ}(hs:L.Sublist M):xi B w0 M g l:=by
 obtain⟨A1,c1,A2,c2,SY,h1,h2,h3,h4,h5⟩:=h;exact⟨A1,c1,A2,c2,SY,hs.subset h1,h2.mono hs,h3.mono hs,h4,fun e he=>(h5 e he).mono hs⟩
theorem xi.cons(h:xi B w0 L g l){x:Ch}:xi B w0 (x::L) g l:=h.mono (.cons _ (.refl _))
theorem mG.pG{c:Ch}:∀{L:aQ},c∈L→∃f,mG c L f
 |x::L,h=>by
  rcases fk.1 h with e|e
  ·subst e;exact⟨_,.hd⟩
  ·obtain⟨f,hf⟩:=mG.pG e;exact⟨_,hf.tl⟩
theorem arh{SY:List rK}{k:Nat}(h:SY.map (·.2.2)=mq l l.length)(h1:1≤k)(h2:k≤15):∃A c,(A,c,lf l k)∈SY∧(SY.map jL)[k]? =some (.slice A (lf l k).length c):=by
 have hl:SY.length=16:=by have:=dB List.length h;simpa using this
 have hi:k<SY.length:=by omega
 have hg:=Iw (l:=l) h1 h2;have e:(SY.map (·.2.2)).getD k []=lf l k:=by rw[h];exact hg
 rw[bk,jq,fm hi]at e;simp only[sS,vI]at e;refine⟨SY[k].1,SY[k].2.1,?_,?_⟩
 ·rw[←e];exact ub hi
 ·rw[jq,fm hi,←e];rfl
theorem alJ(x7:xi B w0 F g l)(hl:l.length≤300){x k:Nat}(h1:1≤k)(h2:k≤15)(hx:x<1000000):
  a_ B w0 351 [br g,.int .u64 x,ah k] F (fun r L=>r= .tuple #[ah (((nC l x k).getD 0:Nat):Int),.bool (nC l x k).isSome]∧L=F):=by
 obtain⟨A1,c1,A2,c2,SY,hm,qd,oL,hsy,LA⟩:=x7;obtain⟨f,zO⟩:=mG.pG hm;have hff:=Nt (l:=l) h1 h2;have hmm:=It (l:=l) h1 h2;have hss:=Iw (l:=l) h1 h2;have Vk:=w3 l k;have hfc:oz l k≤39321600:=by
  unfold oz;split
  ·omega
  ·exact u5 hl aa
 refine fw func351 39 [0,1,2] ?_;refine bO ?_;refine ab (bm underlying60 underlying3 rfl (r:=(x:Int)) (bF aa aa)) rfl ?_;refine b8 ?_;refine ab (aM (i:=k) underlying344 ag rfl rfl rfl aa) rfl ?_;refine ab (bM ag rfl zO (aqh (g_ _ _) aa)) rfl ?_;refine bK ?_;refine bU 12 29 [0,2,8] (¬(oz l k≤x∧x<oz l k+num l k)) ?_ ?_
 ·refine bA ?_;refine aL rfl rfl rfl (fun iM=>?_) (fun iM=>?_)
  ·refine bB ?_;refine ab (aM (i:=k) underlying344 ag rfl rfl rfl aa) rfl ?_;refine aF ?_;refine ab (bM ag rfl zO (al6 (g_ _ _) (iv _ _) aa)) rfl ?_;refine bA ?_;exact aP oV
  ·refine bI ?_;exact aP vA
 ·refine be ?_;refine aj (fun r'=>?_) fun r'=>?_
  ·have e:nC l x k=none:=aw r';rw[e];refine bO ?_;exact⟨rfl,rfl⟩
  ·have YF:=jG.1 r';obtain⟨s,hs⟩:=cK ((lf l k).getD (x-oz l k) 0);have e:nC l x k=some s:=by rw[nC,ao YF,hs]
   rw[e];obtain⟨A3,c3,hm3,hv3⟩:=arh hsy h1 h2;have hb3:aK B w0 F 1 (.slice A3 (lf l k).length c3) (lf l k).length (bx (lf l k)):=LA _ hm3;have nS:=FA l k;refine bI ?_;refine ab (aM (i:=k) underlying345 ag rfl rfl rfl aa) rfl ?_;refine ab (bM ag rfl zO ((al7 (g_ _ _) (iv _ _)).trans hv3)) rfl ?_;refine aF ?_;refine ab (aC (i:=x-oz l k) underlying53 ag rfl rfl aa aa hb3) rfl ?_;refine ab (au ag rfl hb3 aa (gb (v:=s) aa hs.symm)) rfl ?_;refine bz ?_;exact⟨rfl,rfl⟩
theorem O5{x d:Nat}{e:Int}(he:e=(d:Int))(hd:d≤15)(hx:x<1000000):IntKind.i64.wrap ((x:Int)*2^min e.toNat IntKind.i64.bits)=((x*2^d:Nat):Int):=by
 subst he;have e2:min ((d:Int)).toNat IntKind.i64.bits=d:=by
  show min _ 64=_;omega
 have hp:2^d≤2^15:=la aa hd;have hm:x*2^d≤1000000*2^15:=gL aa hp;rw[e2];have e3:(x:Int)*2^d=((x*2^d:Nat):Int):=by simp
 rw[e3];exact bF aa aa
theorem ahz{x k f j:Nat}(hj:j≤15)(h:¬(0<num l j∧x*2^(j-k)<oz l j+num l j∧oz l j<x*2^(j-k)+2^(j-k))):vW l x k (f+1) j=vW l x k f (j+1):=by
 rw[vW,aw aa,aw h]
theorem acH{x k f j:Nat}(hj:j≤15)(h:0<num l j∧x*2^(j-k)<oz l j+num l j∧oz l j<x*2^(j-k)+2^(j-k)):vW l x k (f+1) j=true:=by
 rw[vW,aw aa,ao h]
theorem acG{x k f j:Nat}(hj:¬j≤15):vW l x k f j=false:=by
 cases f with
 |zero=>rfl
 |succ f=>rw[vW,ao aa]
theorem abc(x7:xi B w0 F g l)(hl:l.length≤300){x k:Nat}(h2:k≤15)(hx:x<32768):
  a_ B w0 353 [br g,.int .u64 x,ah k] F (fun r L=>r= .bool (acF l x k)∧L=F):=by
 obtain⟨A1,c1,A2,c2,SY,hm,qd,oL,hsy,LA⟩:=x7;obtain⟨f,zO⟩:=mG.pG hm;refine fw func353 60 [0,1,2] ?_;refine dQ ?_;refine aE (fun zf zL zm=>∃(j fu:Nat),(k+1≤j∧j≤16∧16≤j+fu∧vW l x k fu j=acF l x k)∧16-j=zm∧Sub zf [(0,br g),(1,.int .u64 x),(2,ah k),(7,ah j)]∧Wk zL (F)) _ ⟨k+1,15,⟨gi _,aa,aa,rfl⟩,rfl,bp,.refl _⟩ ?_;rintro _ _ _ ⟨j,fu,⟨hj1,hj2,hfu,zN⟩,rfl,hs,hp⟩;refine aU hs hp ?_;clear hs hp;refine bK ?_;refine aj (fun mD=>?_) fun mD=>?_
 ·obtain⟨f',rfl⟩:∃f',fu=f'+1:=⟨fu-1,aa⟩
  have hff:=Nt (l:=l) (k:=j) aa aa;have hmm:=It (l:=l) (k:=j) aa aa;have Vk:=w3 l j;have Ca:2^(j-k)≤2^15:=la aa aa;have hp2:x*2^(j-k)≤32768*2^15:=gL aa Ca;have hfc:oz l j≤39321600:=by
   unfold oz;split
   ·omega
   ·exact u5 hl aa
  obtain⟨y,hy⟩:=cK (x*2^(j-k));obtain⟨w,hw⟩:=cK (2^(j-k));refine bK ?_;refine ab (bm underlying60 underlying3 rfl (r:=(x:Int)) (bF aa aa)) rfl ?_;refine bA ?_;refine ab (ga rfl rfl aa (r:=(y:Int)) (by rw[hy];exact O5 (d:=j-k) aa aa aa)) rfl ?_;refine bO ?_;refine bZ (aM (i:=j) underlying344 ag rfl rfl rfl aa) rfl ?_;refine bZ (bM (v:=ah ((num l j:Nat):Int)) ag rfl zO aoL) rfl ?_;refine be ?_;refine nk rfl rfl rfl (fun qF=>?_) (fun qF=>?_)
  ·refine bB ?_;refine bZ (aM (i:=j) underlying344 ag rfl rfl rfl aa) rfl ?_;refine aF ?_;refine bZ (bM (v:=ah ((oz l j:Nat):Int)) ag rfl zO aoR) rfl ?_;refine bO ?_;refine bZ (aM (i:=j) underlying344 ag rfl rfl rfl aa) rfl ?_;refine aF ?_;refine bZ (bM (v:=ah ((num l j:Nat):Int)) ag rfl zO aoL) rfl ?_;refine bz ?_;refine nk rfl rfl rfl (fun h45=>?_) (fun h45=>?_)
   ·refine bI ?_;refine bZ (ga rfl rfl aa (r:=(w:Int)) (by have:=O5 (x:=1) (d:=j-k) (e:=(j:Int)-k) aa aa aa;rw[rl]at this;rw[hw];exact this)) rfl ?_;refine cZ ?_;refine bZ (aM (i:=j) underlying344 ag rfl rfl rfl aa) rfl ?_;refine aF ?_;refine bZ (bM (v:=ah ((oz l j:Nat):Int)) ag rfl zO aoR) rfl ?_;refine bA ?_;refine nj [(0,_),(1,_),(2,_),(7,_),(59,_)] ⟨rfl,rfl,rfl,rfl,rfl,trivial⟩ ?_;refine aF ?_;refine aj (fun h59=>?_) fun h59=>?_
    ·rw[acH aa ⟨aa,by rw[←hy];omega,(by rw[←hy,←hw];omega)⟩]at zN;rw[←zN];refine cH ?_;exact⟨rfl,rfl⟩
    ·refine bI ?_;refine av ⟨_,aa,j+1,f',⟨aa,aa,aa,alb⟩,rfl,bp,.refl _⟩
   ·refine dc ?_;refine nj [(0,_),(1,_),(2,_),(7,_),(59,_)] ⟨rfl,rfl,rfl,rfl,rfl,trivial⟩ ?_;refine bB ?_;refine av ⟨_,aa,j+1,f',⟨aa,aa,aa,alb⟩,rfl,bp,.refl _⟩
  ·refine ar2 ?_;refine nj [(0,_),(1,_),(2,_),(7,_),(59,_)] ⟨rfl,rfl,rfl,rfl,rfl,trivial⟩ ?_;refine bB ?_;refine av ⟨_,aa,j+1,f',⟨aa,aa,aa,alb⟩,rfl,bp,.refl _⟩
 ·rw[acG aa]at zN;rw[←zN];refine cH ?_;exact⟨rfl,rfl⟩
theorem adu(x7:xi B w0 F g l){s:Nat}(hs:s<l.length)(hl:l.length≤300):
  a_ B w0 288 [br g,ah s] F (fun r L=>r=ah ((l.getD s 0).toNat:Int)∧L=F):=by
 obtain⟨A1,c1,A2,c2,SY,hm,qd,oL,hsy,LA⟩:=x7;obtain⟨f,zO⟩:=mG.pG hm;have hbv:(bv l)[s*1]? =some (.int .u8 ((l.getD s 0).toNat:Int)):=by rw[cE];simp[bv,List.getD,fm hs]
 have hu:=(l.getD s 0).toNat_lt;refine fw func288 24 [0,1] ?_;refine bI ?_;refine bU 11 15 [0,1] (False) ?_ ?_
 ·refine bA ?_;refine aL rfl rfl rfl (fun h7=>?_) (fun h7=>?_)
  ·refine bI ?_;refine ab (bM ag rfl zO rfl) rfl ?_;refine bG ?_;exact aP (by exact dN (by first|(exact⟨fun h=>absurd h (by omega),False.elim⟩)|omega|(simp;done)))
  ·refine bK ?_;exact aP ala
 ·refine be ?_;refine dm fun kL=>?_;refine bK ?_;refine ab (bM ag rfl zO rfl) rfl ?_;refine be ?_;refine ab (au ag rfl qd aa hbv) rfl ?_;refine ab (bm underlying5 underlying3 rfl (r:=((l.getD s 0).toNat:Int)) (bF aa aa)) rfl ?_;refine bG ?_;exact⟨rfl,rfl⟩
theorem acY(x7:xi B w0 F g l){s:Nat}(hs:s<l.length)(hl:l.length≤300):
  a_ B w0 249 [br g,ah s] F (fun r L=>r=ah ((l.getD s 0).toNat:Int)∧L=F):=by
 refine fw func249 12 [0,1] ?_;refine Kg ?_;refine ai rfl (adu x7 hs hl) ?_;refine bG ?_;exact⟨rfl,rfl⟩
theorem RH(hg:Good l)(x7:xi B w0 F g l){s:Nat}(hs:s<l.length)(h0:(l.getD s 0).toNat≠0)(hq:q.length≤7000000):
  a_ B w0 205 [br g,br g2,ah s] (Wx X g2 bt A c q F) (fun r L=>r=ah 0∧∃A' c',L=Wx X g2 bt A' c' (q++hw l s) F):=by
 have hl:=hg.1.1;obtain⟨A1,c1,A2,c2,SY,hm,qd,oL,hsy,LA⟩:=x7.co;obtain⟨f,zO⟩:=mG.pG hm;have hcv:=MD hg hs h0;have as5:=hg.1.2 _ (bg hs 0);have Iv:=QL hg hs h0;have mN:=yG hs rfl;have P4:=qX hg (k:=(l.getD s 0).toNat) aa as5;have hcc:(ints .u16 (gd l))[s*1]? =some (.int .u16 ((place l (l.getD s 0).toNat s:Nat):Int)):=by
  rw[cE,←hcv,←wI l hs];simp[ints,List.getD,fm (show s<(gd l).length by simpa using hs)]
 refine fw func205 33 [0,1,2] ?_;refine alW ?_;refine ai rfl (acY x7.cons.cons hs hl) ?_;refine bz ?_;refine dm fun jx=>?_;refine b8 ?_;refine cF F ?_;refine ae 0 ?_;refine ae 1 ?_;refine ae 2 ?_;refine ae 3 ?_;refine ae 4 ?_;refine aW 5 rfl (bM ag rfl zO rfl) ?_;refine ae 6 ?_;refine ae 7 ?_;refine aW 8 rfl (au ag rfl oL aa hcc) ?_;refine aW 9 rfl (bm underlying57 underlying60 rfl (r:=((place l (l.getD s 0).toNat s:Nat):Int)) (f_ aa aa)) ?_;refine ae 10 ?_;refine ae 11 ?_;refine az 12 ?_;refine iW rfl rfl (acY x7.cons.cons hs hl) ?_;refine az 13 ?_;refine gz rfl .no Dp rfl (Bd q (place l (l.getD s 0).toNat s) aa (l.getD s 0).toNat aa aa hq) rfl (by rintro _ _ ⟨rfl,LO,Mt,rfl⟩;exact gD) ?_;rintro _ _ ⟨rfl,LO,Mt,cA⟩;obtain rfl:=cA.symm;refine ae 14 ?_;refine cQ [6] ?_;refine bA ?_;exact⟨rfl,LO,Mt,rfl⟩
end
section
variable{l:al}
theorem YE{p m f k s:Nat}(hk:k≤m)(h:nC l (part q p k) k=some s):nD l q p m (f+1) k=some (s,k):=by
 rw[nD,aw aa,h]
theorem acS{p m f k:Nat}(hk:k≤m)(h:nC l (part q p k) k=none):nD l q p m (f+1) k=nD l q p m f (k+1):=by
 rw[nD,aw aa,h]
theorem YD{p m f k:Nat}(hk:m<k):nD l q p m f k=none:=by
 cases f with
 |zero=>rfl
 |succ f=>rw[nD,ao hk]
theorem acU{p s k:Nat}(h:nD l q p (there q p) 15 1=some (s,k)):fz l q p=((s:Int),0,p+k):=by
 unfold fz;rw[h]
theorem ahF{p:Nat}(h:nD l q p (there q p) 15 1=none):fz l q p=(-1,if there q p<15∧acF l (part q p (there q p)) (there q p)=true then 1 else 7,p):=by
 unfold fz;rw[h]
theorem OI(q:List Bool)(p:Nat){k:Nat}(hk:k≤15){e:Int}(he:e=((15-k:Nat):Int)):((part q p 15:Nat):Int).fdiv (2^min e.toNat IntKind.u64.bits)=((part q p k:Nat):Int):=by
 have:=Fp (part q p 15) (x:=e) (e:=15-k) he aa;rw[this];have h2:=pH q p k (15-k);rw[show k+(15-k)=15 by omega]at h2;rw[h2]
theorem al_(x7:xi B w0 F g l)(hl:l.length≤300){p:Nat}(hp:p≤q.length)(hq:q.length≤8000000):
  a_ B w0 347 [br g,br g2] (Rr g2 A c q p F) (fun r L=>r= .tuple #[ah (fz l q p).1,ah (fz l q p).2.1]∧L=Rr g2 A c q (fz l q p).2.2 F):=by
 have hth:there q p≤15∧p+there q p≤q.length:=by unfold there;omega
 have hpn:pkN q p 15=(there q p:Int):=by unfold pkN there;rw[aw aa];omega
 have hpv:pkV q p 15=part q p 15:=by unfold pkV;rw[aw aa];rfl
 have mN:∀k,k≤15→part q p k<32768:=fun k hk=>wg (qq q p k) (la (n:=2) aa hk);have Cb:=anf (B:=B) (w0:=w0) (F:=F) (A:=A) (c:=c) (g:=g2) q p hp hq 15 aa aa;rw[hpn,hpv]at Cb;refine fw func347 49 [0,1] ?_;refine zI ?_;refine ai rfl (Cb) ?_;refine dQ ?_;refine aE (fun zf zL zm=>∃(k fu:Nat),(1≤k∧k≤16∧16≤k+fu∧nD l q p (there q p) fu k=nD l q p (there q p) 15 1)∧16-k=zm∧Sub zf [(0,br g),(1,br g2),(6,.int .u64 (part q p 15)),(7,ah (there q p)),(8,ah k)]∧Wk zL (Rr g2 A c q p F)) _ ⟨1,15,⟨gi _,aa,aa,rfl⟩,rfl,bp,.refl _⟩ ?_;rintro _ _ _ ⟨k,fu,⟨xp,Ir,hfu,wN⟩,rfl,hs,hp⟩;refine aU hs hp ?_;clear hs hp;refine bI ?_;refine aj (fun iM=>?_) fun iM=>?_
 ·obtain⟨f',rfl⟩:∃f',fu=f'+1:=⟨fu-1,aa⟩
  have aqB:=mN k aa;refine bB ?_;refine ab (dj rfl rfl aa (OI q p (k:=k) aa aa)) rfl ?_;refine aF ?_;refine ai rfl (alJ (k:=k) (x:=part q p k) x7.cons.cons hl xp aa aa) ?_;refine cH ?_;refine gZ (fun h33=>?_) fun h33=>?_
  ·obtain⟨s,hs⟩:=Option.isSome_iff_exists.1 h33;rw[YE aa hs]at wN;rw[acU wN.symm,hs];have LF:skP q p (k:Int)=p+k:=by unfold skP;rw[aw aa,aw aa];omega
   refine b8 ?_;refine ai rfl (anC q p hp hq k aa aa) ?_;rw[LF];refine ve [9] ?_;refine jk ?_;exact⟨rfl,rfl⟩
  ·refine bK ?_;refine ve [0,1,6,7,8] ?_;refine av ⟨_,aa,k+1,f',⟨aa,aa,aa,by rw[←wN,acS aa (by simpa using h33)]⟩,rfl,bp,.refl _⟩
 ·rw[YD aa]at wN;rw[ahF wN.symm];have aqB:=mN (there q p) hth.1;refine bI ?_;refine bU 11 48 [] (there q p<15∧acF l (part q p (there q p)) (there q p)=true) ?_ ?_
  ·refine bA ?_;refine cM (fun h40=>?_) fun h40=>?_
   ·refine bI ?_;refine ab (dj rfl rfl aa (OI q p hth.1 aa)) rfl ?_;refine bA ?_;refine ai rfl (abc x7.cons.cons hl hth.1 aqB) ?_;refine aF ?_;exact aP (by exact oE aox)
   ·refine bK ?_;exact aP aoq
  ·refine be ?_;refine aj (fun Np=>?_) fun Np=>?_
   ·rw[ao Np];refine bO ?_;exact⟨rfl,rfl⟩
   ·rw[aw Np];refine bB ?_;exact⟨rfl,rfl⟩
end
section
variable{l:al}
theorem aoM{P:Prop}(h:P:=by(rw[←hma];exact al6 (g_ _ _) (iv _ _) (by omega))):P:=h
theorem aoH{P:Prop}(h:P:=by(show 34+k<_;rw[Rq (g_ _ _) (iv _ _) Yv];omega)):P:=h
theorem aoK{P:Prop}(h:P:=by(rw[ai6 (e':=(A69,c69,jh l s k++[s])) Vf (by simp)])):P:=h
theorem ES{s k:Nat}(hs:s<l.length):num (l.take (s+1)) k=num (l.take s) k+if (l.getD s 0).toNat=k then 1 else 0:=jP k hs
theorem YC{s:Nat}(hs:s<l.length)(h:(l.getD s 0).toNat=0):q9 l (s+1)=q9 l s:=by
 unfold q9;refine sb fun k _=>?_;by_cases e:k=0
 ·simp[e]
 ·rw[ES hs,aw (show¬(l.getD s 0).toNat=k by omega),tk]
theorem Rz{s:Nat}(hs:s<l.length)(h:(l.getD s 0).toNat=0):mn l (s+1)=mn l s:=by
 unfold mn;refine sb fun k _=>?_;by_cases e:k=0
 ·simp[e]
 ·rw[ES hs,aw (show¬(l.getD s 0).toNat=k by omega),tk]
theorem RO{s:Nat}(h:(l.getD s 0).toNat=0):mq l (s+1)=mq l s:=by
 unfold mq;refine sb fun k _=>?_;by_cases e:k=0
 ·simp[e]
 ·rw[aw e,aw e,nh,aw aa,gj]
theorem YB{s k:Nat}(hs:s<l.length)(h:(l.getD s 0).toNat=k)(h2:num (l.take s) k≠0):q9 l (s+1)=q9 l s:=by
 unfold q9;refine sb fun j _=>?_;rw[ES hs];by_cases e:(l.getD s 0).toNat=j
 ·have:j=k:=by omega
  subst this;simp[h2]
 ·rw[aw e];rfl
theorem acR{s k:Nat}(hs:s<l.length)(h:(l.getD s 0).toNat=k)(h0:k≠0)(h2:num (l.take s) k=0):(q9 l s).set k (fst l k:Int)=q9 l (s+1):=by
 apply pZ
 ·simp
 ·intro i h3 h4;rw[N7];simp only[q9,Ex,GY,ES hs];by_cases e:k=i
  ·subst e;rw[ao rfl,aw];rintro(e|e)
   ·exact h0 e
   ·rw[ao h]at e;omega
  ·rw[aw e,aw (show¬(l.getD s 0).toNat=i by omega)];rfl
theorem YH{s k:Nat}(hs:s<l.length)(h:(l.getD s 0).toNat=k)(h0:k≠0):(mn l s).set k ((num (l.take s) k+1:Nat):Int)=mn l (s+1):=by
 apply pZ
 ·simp
 ·intro i h3 h4;rw[N7];simp only[mn,Ex,GY,ES hs];by_cases e:k=i
  ·subst e;rw[ao rfl,aw h0,ao h]
  ·rw[aw e,aw (show¬(l.getD s 0).toNat=i by omega)];rfl
theorem ac0{s k:Nat}(h:1≤k)(h2:k≤15):(mn l s).getD k 0=(num (l.take s) k:Int):=by
 have h3:¬k=0:=by omega
 simp only[mn,bk,jq,ye (show k<16 by omega),sS,vI,aw h3]
theorem YJ{s k:Nat}(h:(l.getD s 0).toNat=k)(h0:k≠0):(mq l s).set k (jh l s k++[s])=mq l (s+1):=by
 apply pZ
 ·simp
 ·intro i h3 h4;rw[N7];simp only[mq,Ex,GY];by_cases e:k=i
  ·subst e;rw[ao rfl,aw h0,nh,ao h]
  ·rw[aw e];by_cases e2:i=0
   ·rw[ao e2,ao e2]
   ·rw[aw e2,aw e2,nh,aw aa,gj]
theorem hzero(l:al):q9 l 0=List.replicate 16 0∧mn l 0=List.replicate 16 0∧mq l 0=List.replicate 16 []:=by
 refine⟨?_,?_,?_⟩
 ·simp[q9,num];decide
 ·simp[mn,num];decide
 ·simp[mq,jh];decide
theorem ae8{SY:List rK}{s k:Nat}(h:SY.map (·.2.2)=mq l s)(h1:1≤k)(h2:k≤15):∃(X:List rK) (A:bj) (c:Nat) (Y:List rK),SY=X++(A,c,jh l s k)::Y∧X.length=k:=by
 have hl:SY.length=16:=by have:=dB List.length h;simpa using this
 have hi:k<SY.length:=by omega
 have e:(SY.map (·.2.2))[k]? =some (jh l s k):=by
  rw[h];simp[mq,show k<16 by omega,show¬k=0 by omega]
 rw[jq,fm hi]at e;simp only[sS,Ew]at e;refine⟨SY.take k,SY[k].1,SY[k].2.1,SY.drop (k+1),?_,nx⟩
 conv=>lhs;rw[←jJ k SY,N5 hi]
 rw[←e]
theorem anL(X:List rK)(e e':rK)(Y:List rK):((X++e::Y).map jL).set X.length (jL e')=(X++e'::Y).map jL:=by simp
theorem WN{X Y:List rK}{A A':bj}{c c' s k:Nat}(h:(X++(A,c,jh l s k)::Y).map (·.2.2)=mq l s)(hX:X.length=k)(hk:(l.getD s 0).toNat=k)(h0:k≠0):(X++(A',c',jh l s k++[s])::Y).map (·.2.2)=mq l (s+1):=by
 rw[←YJ hk h0,←h,←hX];simp
theorem ai6{X:List rK}{e e':rK}{Y:List rK}{k:Nat}{v:Value}(h:X.length=k)(hv:v=jL e'):((X++e::Y).map jL).set k v=(X++e'::Y).map jL:=by
 subst h;subst hv;exact anL X e e' Y
theorem Fj(X:List rK)(e:rK)(Y:List rK)(R:aQ):((X++e::Y).map jK++R).Perm (jK e::(X.map jK++(Y.map jK++R))):=by
 rw[ja,kC,bV];exact ym
theorem BW{C:Cx}{cd:Code}{Q:Exit→Fr→aQ→Prop}{fr:Fr}{L:aQ}(e:TypeId):∀(m:Nat),VC C cd Q fr (List.replicate m (.own e 1 none 0 0 [])++L)→VC C cd Q fr L
 |0,h=>h
 |m+1,h=>BW e m (aZ e 1 none h)
theorem adQ(hb:eM B w0 F A c l)(hg:Good l):a_ B w0 248 [.slice A l.length c] F (fun r L=>∃g X,r= .tuple #[br g,ah 0]∧L=X++F∧xi B w0 X g l):=by
 have hl:=hg.1.1;refine fw func248 75 [0] ?_;refine bO ?_;refine ay rfl (ag6 l aA hg) fun tG xl=>?_;refine dQ ?_;refine dm fun kL=>?_;refine bG ?_;refine ay rfl (me l aA aa) fun tb uU=>?_;refine aF ?_;refine ab (eG [(0,_),(1,_)] [_,_] rfl rfl ag) rfl ?_;refine ab (bw [(0,_)] [.slice none 0 0,.slice none 0 0,ah 0,ah 0,ah 0,ah 0,ah 0,ah 0,ah 0,ah 0,ah 0,ah 0,ah 0,ah 0,ah 0,ah 0,ah 0,ah 0,ah 0,ah 0,ah 0,ah 0,ah 0,ah 0,ah 0,ah 0,ah 0,ah 0,ah 0,ah 0,ah 0,ah 0,ah 0,ah 0,.slice none 0 0,.slice none 0 0,.slice none 0 0,.slice none 0 0,.slice none 0 0,.slice none 0 0,.slice none 0 0,.slice none 0 0,.slice none 0 0,.slice none 0 0,.slice none 0 0,.slice none 0 0,.slice none 0 0,.slice none 0 0,.slice none 0 0,.slice none 0 0] [0] [_,_,_,_,_,_,_,_,_,_,_,_,_,_,_,_,_,_,_,_,_,_,_,_,_,_,_,_,_,_,_,_,_,_,_,_,_,_,_,_,_,_,_,_,_,_,_,_,_,_] rfl rfl ag) rfl ?_;refine bh fun g22=>?_;refine bG ?_;refine BW 3 16 ?_;refine b8 ?_;refine ve [4,6,23,24,25] ?_;refine be ?_;refine aE (fun zf zL zm=>∃(s:Nat) (SY:List rK),(s≤l.length∧SY.map (·.2.2)=mq l s)∧l.length-s=zm∧Sub zf [(4,.slice tG l.length xl),(6,br g22),(23,.slice A l.length c),(24,ah l.length),(25,ah s)]∧Wk zL (.bE g22 347 (kz (.slice tb l.length uU) (.slice tG l.length xl) (q9 l s) (mn l s) (SY.map jL))::(SY.map jK++(.own 5 1 tb l.length uU (bv l):: .own 57 1 tG l.length xl (ints .u16 (gd l))::F)))) _ ⟨0,List.replicate 16 (none,0,[]),⟨bS _,by rw[(hzero l).2.2];rfl⟩,rfl,bp,.trans (.dE ym) (bq (by rw[(hzero l).1,(hzero l).2.1];rfl) (.refl _))⟩ ?_;rintro _ _ _ ⟨s,SY,⟨hs,hSY⟩,rfl,hs,hp⟩;refine aU hs hp ?_;clear hs hp;refine bz ?_;refine aj (fun qc=>?_) fun qc=>?_
 ·obtain⟨k,hk⟩:=cK ((l.getD s 0).toNat);have YG:k≤15:=by rw[hk];exact hg.1.2 _ (bg aa 0)
  have hbv:(bv l)[s*1]? =some (.int .u8 (k:Int)):=by rw[hk,cE];simp[bv,List.getD,fm (show s<l.length by omega)]
  have Vk:=uA l s k;have auf:=w3 l k;have hbS:aK B w0 (SY.map jK++(.own 5 1 tb l.length uU (bv l):: .own 57 1 tG l.length xl (ints .u16 (gd l))::F)) 1 (.slice A l.length c) l.length (bv l):=hb.cons.cons.mono (gx _ _);have hbC:aK B w0 (SY.map jK++(.own 5 1 tb l.length uU (bv l):: .own 57 1 tG l.length xl (ints .u16 (gd l))::F)) 1 (.slice tG l.length xl) l.length (ints .u16 (gd l)):=aK.own (nF _ (.tail _ (.head _)));have Yv:(SY.map jL).length=16:=by have:=dB List.length hSY;simpa using this
  refine bK ?_;refine ab (aC (i:=s) underlying27 ag rfl rfl rfl aa hbS.cons) rfl ?_;refine ab (au ag rfl hbS.cons aa hbv) rfl ?_;refine cZ ?_;refine aj (fun D8=>?_) fun D8=>?_
  ·have CC:(l.getD s 0).toNat=0:=by omega
   refine bI ?_;refine av ⟨_,aa,s+1,SY,⟨aa,by rw[RO CC];exact hSY⟩,rfl,bp,bq (by rw[YC aa CC,Rz aa CC]) (.refl _)⟩
  ·have xp:1≤k:=by omega
   have hma:=ac0 (l:=l) (s:=s) xp YG;refine be ?_;refine d_ (fun zf zL=>Sub zf [(4,.slice tG l.length xl),(6,br g22),(7,ah s),(8,.int .u8 (k:Int)),(23,.slice A l.length c),(24,ah l.length),(25,ah s)]∧Wk zL (.bE g22 347 (kz (.slice tb l.length uU) (.slice tG l.length xl) (q9 l (s+1)) (mn l s) (SY.map jL))::(SY.map jK++(.own 5 1 tb l.length uU (bv l):: .own 57 1 tG l.length xl (ints .u16 (gd l))::F)))) ?_ ?_
   ·refine bz ?_;refine ab (aM (i:=k) underlying344 ag rfl rfl rfl aa) rfl ?_;refine ab (bM (v:=ah ((num (l.take s) k:Nat):Int)) ag rfl aV aoM) rfl ?_;refine bA ?_;refine aj (fun CA=>?_) fun CA=>?_
    ·have hn0:num (l.take s) k=0:=by omega
     have hcv:=MD hg (s:=s) aa aa;rw[←hk]at hcv;have mN:place l k s=fst l k:=by unfold place;omega
     rw[mN]at hcv;have hfb:=qX hg xp YG;have aui:2^k≤2^15:=la aa YG;have hcc:(ints .u16 (gd l))[s*1]? =some (.int .u16 ((fst l k:Nat):Int)):=by
      rw[cE,←hcv,←wI l aa];simp[ints,List.getD,fm (show s<(gd l).length by rw[Gv];omega)]
     refine cF (SY.map jK++(.own 5 1 tb l.length uU (bv l):: .own 57 1 tG l.length xl (ints .u16 (gd l))::F)) ?_;refine ae 0 ?_;refine ae 1 ?_;refine ae 2 ?_;refine ae 3 ?_;refine aW 4 rfl (aC (i:=s) underlying159 ag rfl rfl rfl aa hbC) ?_;refine aW 5 rfl (au ag rfl hbC aa hcc) ?_;refine aW 6 rfl (bm underlying57 underlying3 rfl (r:=((fst l k:Nat):Int)) (bF aa aa)) ?_;refine ae 7 ?_;refine ae 8 ?_;refine aW 9 rfl (aM (i:=k) underlying344 ag rfl rfl rfl aa) ?_;refine az 10 ?_;refine kR rfl .no (oG ag rfl rfl rfl aV (by show 2+k<_;rw[Rq (g_ _ _) (iv _ _) Yv];omega)) Gs ?_;rintro _ _ rfl;refine cQ [4,6,7,8,23,24,25] ?_;exact bD ⟨bp,bq ((ahC (i:=k) (g_ l s) aa _).trans (by rw[acR aa hk.symm aa hn0])) (.refl _)⟩
    ·refine aF ?_;exact bD ⟨bp,bq (by rw[YB aa hk.symm aa]) (.refl _)⟩
   ·rintro _ _ ⟨hs,hp⟩;refine aU hs hp ?_;clear hs hp;refine aF ?_;refine cF (SY.map jK++(.own 5 1 tb l.length uU (bv l):: .own 57 1 tG l.length xl (ints .u16 (gd l))::F)) ?_;refine ae 0 ?_;refine ae 1 ?_;refine ae 2 ?_;refine ae 3 ?_;refine aW 4 rfl (aM (i:=k) underlying344 ag rfl rfl rfl aa) ?_;refine ae 7 ?_;refine ae 8 ?_;refine az 5 ?_;refine iL rfl .no (bM (v:=ah ((num (l.take s) k:Nat):Int)) ag rfl aV aoM) rfl gD ?_;refine aW 6 rfl (bX rfl rfl (r:=((num (l.take s) k+1:Nat):Int)) ((bF aa aa).trans aa)) ?_;refine aW 9 rfl (aM (i:=k) underlying344 ag rfl rfl rfl aa) ?_;refine az 10 ?_;refine kR rfl .no (oG ag rfl rfl rfl aV (by show 18+k<_;rw[Rq (g_ _ _) (iv _ _) Yv];omega)) Gs ?_;rintro _ _ rfl;refine be ?_;obtain⟨X,Ae,ce,Y,hXY,Vf⟩:=ae8 hSY xp YG;subst hXY;have aup:=vq l k s aa;refine wq (L':=.bE g22 347 (kz (.slice tb l.length uU) (.slice tG l.length xl) (q9 l (s+1)) (mn l (s+1)) ((X++(Ae,ce,jh l s k)::Y).map jL)):: .own 3 1 Ae (jh l s k).length ce (bx (jh l s k))::(X.map jK++(Y.map jK++(.own 5 1 tb l.length uU (bv l):: .own 57 1 tG l.length xl (ints .u16 (gd l))::F)))) (.trans (bq ((ahD (i:=k) (g_ l (s+1)) (iv l s) aa _).trans (by rw[YH aa hk.symm aa])) (.refl _)) (.dE ((Fj X _ Y _).cons _))) ?_;refine cF (X.map jK++(Y.map jK++(.own 5 1 tb l.length uU (bv l):: .own 57 1 tG l.length xl (ints .u16 (gd l))::F))) ?_;refine ae 0 ?_;refine ae 1 ?_;refine ae 2 ?_;refine ae 3 ?_;refine ae 4 ?_;refine ae 5 ?_;refine aW 6 rfl (aM (i:=k) underlying345 ag rfl rfl rfl aa) ?_;refine ae 8 ?_;refine ae 11 ?_;refine ae 12 ?_;refine gS 7 9 ?_ ?_
    ·refine iL rfl .no (bM (v:=.slice Ae (jh l s k).length ce) ag rfl aV ((al7 (i:=k) (g_ _ _) (iv _ _)).trans (by simp[←Vf]))) rfl gD ?_;refine az 9 ?_;refine cR rfl (aG fJ [_] rfl rfl cw aa aa) fun A68=>?_;refine az 10 ?_;refine eV rfl (bT fJ rfl aV rfl aA cw aa aa) fun A69 c69=>?_;refine aW 13 rfl (aM (i:=k) underlying345 ag rfl rfl rfl aa) ?_;refine az 14 ?_;refine kR rfl .no (oG ag rfl rfl rfl aV aoH) Gs ?_;rintro _ _ rfl;refine cQ [4,6,23,24,25] ?_;refine bz ?_;refine av ⟨_,aa,s+1,X++(A69,c69,jh l s k++[s])::Y,⟨aa,WN hSY Vf hk.symm aa⟩,rfl,bp,.trans ((gk (gk (.skip (.refl _))))) (.trans (bq ((Vg (i:=k) (g_ l (s+1)) (iv l (s+1)) _).trans aoK) (ax ak sL (.refl _))) (.dE ((Fj X (A69,c69,jh l s k++[s]) Y _).symm.cons _)))⟩
    ·refine cR rfl (aG fJ [_] rfl rfl cw aa aa) fun A68=>?_;refine az 7 ?_;refine iL rfl .no (bM (v:=.slice Ae (jh l s k).length ce) ag rfl aV ((al7 (i:=k) (g_ _ _) (iv _ _)).trans (by simp[←Vf]))) rfl gD ?_;refine az 10 ?_;refine eV rfl (bT fJ rfl aV rfl aA cw aa aa) fun A69 c69=>?_;refine aW 13 rfl (aM (i:=k) underlying345 ag rfl rfl rfl aa) ?_;refine az 14 ?_;refine kR rfl .no (oG ag rfl rfl rfl aV aoH) Gs ?_;rintro _ _ rfl;refine cQ [4,6,23,24,25] ?_;refine bz ?_;refine av ⟨_,aa,s+1,X++(A69,c69,jh l s k++[s])::Y,⟨aa,WN hSY Vf hk.symm aa⟩,rfl,bp,.trans ((gk (gk (.skip (.refl _))))) (.trans (bq ((Vg (i:=k) (g_ l (s+1)) (iv l (s+1)) _).trans aoK) (ax ak sL (.refl _))) (.dE ((Fj X (A69,c69,jh l s k++[s]) Y _).symm.cons _)))⟩
 ·obtain rfl:s=l.length:=by omega
  refine dc ?_;refine aq (L':=(.bE g22 347 (kz (.slice tb l.length uU) (.slice tG l.length xl) (q9 l l.length) (mn l l.length) (SY.map jL))::(SY.map jK++[.own 5 1 tb l.length uU (bv l),.own 57 1 tG l.length xl (ints .u16 (gd l))]))++F) (.dE ak) ?_;refine aF ?_;exact⟨g22,_,rfl,rfl,⟨tb,uU,tG,xl,SY,.head _,aK.own (.tail _ (nF _ (.head _))),aK.own (.tail _ (nF _ (.tail _ (.head _)))),hSY,fun e he=>aK.own (.tail _ (j9 _ (jb (f:=jK) he)))⟩⟩
end
end Go.Proofs.YtaodmbolhoafcaaGreatDoor
