/-
  Texts of one proof, joined: part 9. No condition.
-/
import Derived.Test.YtaodmbolhoafcaaGreatDoorZc8
open Go.RowKit Go.Proofs.Tryz
namespace Go.Proofs.YtaodmbolhoafcaaGreatDoor
set_option linter.unusedVariables false
set_option linter.unusedSimpArgs false
set_option maxRecDepth 20000
variable{B:Nat}{w0:World}{F:aP}{A Ao:bj}{n c co g N:Nat}{o:Nat→Nat}{D l:bf}{A1 A2:bj}{c1 c2:Nat}{L:aP}{g2:Nat}{q:List Bool}{X:cV}{bt:TypeId}
section
theorem agq{P:Prop}(h:P:=by(rw[uG,←ha,YF (by omega)])):P:=h
def QE(a b:Nat):Int:=if a<b then-1 else if b<a then 1 else 0
theorem ma{a b:Nat}:QE a b<0↔a<b:=by
 unfold QE;split
 ·omega
 ·split<;>omega
theorem ake(a:Nat):a_ B w0 336 [.int .u32 (a:Int)] F (fun r L=>r= .bool false∧L=F):=by
 refine fw func336 6 [0] ?_;refine jy ?_;exact⟨ak,rfl⟩
theorem aoI(a b:Nat)(ha:a<4294967296)(hb:b<4294967296):a_ B w0 316 [.int .u32 (a:Int),.int .u32 (b:Int)] F (fun r L=>r=ah (QE a b)∧L=F):=by
 refine fw func316 20 [0,1] ?_;refine bJ ?_;refine ai rfl (ake a) ?_;refine bz ?_;refine ai rfl (ake b) ?_;refine bQ ?_;refine gD (fun pg=>?_) fun pg=>?_
 ·exfalso;(simp at pg)
 ·refine bJ ?_;refine gD (fun lA=>?_) fun lA=>?_
  ·exfalso;(simp at lA)
  ·refine bA ?_;refine aj (fun kh=>?_) fun kh=>?_
   ·refine bJ ?_;unfold QE;exact⟨by rw[ao aa],rfl⟩
   ·refine bA ?_;refine aj (fun pR=>?_) fun pR=>?_
    ·refine bF ?_;refine ve [4] ?_;refine b8 ?_;unfold QE;exact⟨by rw[aw aa,ao aa],rfl⟩
    ·refine bG ?_;refine ve [4] ?_;refine bF ?_;unfold QE;exact⟨by rw[aw aa,aw aa],rfl⟩
abbrev Sf(A:bj)(n c:Nat)(D:bf)(g:Nat)(Ao:bj)(N co:Nat)(F:aP):aP:=.own 3 1 A n c (bx D):: .bD g 213 [.slice Ao N co]::F
theorem FM{l:bf}{k:Nat}(h:k<l.length):(ints .u32 (l.map fun(n:Nat)=>(n:Int)))[k*1]? =some (.int .u32 ((l.getD k 0:Nat):Int)):=by
 rw[cE];simp[ints,List.getD,fm h]
structure Hf(B:Nat)(w0:World)(F:aP)(Ao:bj)(co:Nat)(l:bf):Prop where
 xf:aJ B w0 F 1 (.slice Ao l.length co) l.length (ints .u32 (l.map fun(n:Nat)=>(n:Int)))
 lt:∀k,l.getD k 0<4294967296
variable{l:bf}
abbrev oN(l:bf)(k:Nat):Nat:=l.getD k 0
theorem Kz(H:Hf B w0 F Ao co l){x y:Nat}(hx:x<l.length)(hy:y<l.length):
  a_ B w0 315 [ah x,ah y,br g] (Sf A n c D g Ao l.length co F) (fun r L=>r=ah (QE (oN l x) (oN l y))∧L=Sf A n c D g Ao l.length co F):=by
 have hbo:aJ B w0 (Sf A n c D g Ao l.length co F) 1 (.slice Ao l.length co) l.length (ints .u32 (l.map fun(n:Nat)=>(n:Int))):=H.xf.cons.cons;refine fw func315 15 [0,1,2] ?_;refine bA ?_;refine b7 (au ag rfl hbo aa (FM hx)) rfl ?_;refine bF ?_;refine b7 (au ag rfl hbo aa (FM hy)) rfl ?_;refine iU apj rfl (aoI (oN l x) (oN l y) (H.lt x) (H.lt y)) vv rfl ?_;refine bG ?_;exact⟨rfl,rfl⟩
def mG(P S:bf)(x:Nat)(Q:bf)(j:Nat):bf:=P++(S.take j++x::(S.drop j++Q))
theorem RJ{P S Q:bf}{x k:Nat}(h:S.length=k):mG P S x Q k=P++(S++(x::Q)):=by
 unfold mG;rw[fL aa,mn aa];rfl
theorem Eh(P S:bf)(x:Nat)(Q:bf){j:Nat}(h:j≤S.length):(mG P S x Q j).length=P.length+S.length+1+Q.length:=by
 simp[mG];omega
theorem ahF{P S Q:bf}{x j i:Nat}(h:j≤S.length)(hi:i=P.length+j):(mG P S x Q j).getD i 0=x:=by
 have:=tN (P++S.take j) x (S.drop j++Q);rw[aY,eS,za h,←hi]at this;unfold mG;simpa using this
theorem YE{P S Q:bf}{x j i:Nat}(h:j+1≤S.length)(hi:i=P.length+j):(mG P S x Q (j+1)).getD i 0=S.getD j 0:=by
 have:=tN (P++S.take j) (S.getD j 0) (x::(S.drop (j+1)++Q));rw[aY,eS,za aa,←hi]at this;unfold mG;rw[ba aa 0];simpa using this
theorem YF{P S Q:bf}{x j:Nat}(h:j+1≤S.length):ZS (mG P S x Q (j+1)) (P.length+(j+1)) (P.length+j)=mG P S x Q j:=by
 have:=ans (P++S.take j) (S.getD j 0) [] x (S.drop (j+1)++Q) (i:=P.length+j) (j:=P.length+(j+1)) (by rw[aY,eS];omega) (by rw[aY,eS,r_];omega);unfold mG;rw[ba aa 0,dx (l:=S) (k:=j) aa 0];simpa using this
theorem NI{o:Nat→Nat}{P R Q:bf}{x k j:Nat}(hr:Ri R)(hk:k<R.length)(hx:x=R.getD k 0)(hj:j≤k)(h1:∀i,j=i+1→¬o x<o ((cU o (R.take k)).getD i 0))(h2:∀y∈(cU o (R.take k)).drop j,o x<o y):
  mG P (cU o (R.take k)) x Q j=P++(cU o (R.take (k+1))++Q):=by
 have tX:R.take (k+1)=R.take k++[x]:=by rw[hx];exact ba hk 0
 have xm:Ri (R.take k++[x]):=tX▸hr.sublist (Kv _ _);have hn:(R.take k).Nodup:=(hr.sublist (Kv k R)).imp fun h=>by omega
 have hl:(cU o (R.take k)).length=k:=by rw[gX,eS];omega
 have:=amd (o:=o) (k:=j) xm (fun y hy=>by
  cases j with
  |zero=>simp at hy
  |succ i=>
   refine Wu (lu o hn) aa ?_ y hy;have hm:(cU o (R.take k)).getD i 0∈R.take k:=fV.1 (bg aa 0);have fE:(cU o (R.take k)).getD i 0<x:=(sP.1 xm).2.2 _ hm x ak;have:=h1 i rfl;unfold tv;omega) (fun y hy=>.inl (h2 y hy))
 unfold mG;rw[tX,←this];simp[bV]
theorem ahG{o:Nat→Nat}{P R Q:bf}:P++(cU o (R.take 1)++(R.drop 1++Q))=P++(R++Q):=by
 cases R with
 |nil=>rfl
 |cons x r=>rfl
theorem gb{L:bf}{i v:Nat}(h:i<L.length)(e:L.getD i 0=v):(bx L)[i*1]? =some (ah ((v:Nat):Int)):=by
 rw[fA h,e]
theorem uG{D:bf}{i j:Nat}:((bx D).set (i*1) (ah ((D.getD j 0:Nat):Int))).set (j*1) (ah ((D.getD i 0:Nat):Int))=bx (ZS D i j):=by
 simp[bx,ZS,Ku]
theorem SR{a b n nn:Nat}{fv:Value}(P8:D.length=nn)(ha:a+n≤nn)(hb:b+n≤nn)(hD:nn≤1000000)(hn:0<n):
  a_ B w0 355 [.slice A nn c,ah a,ah b,ah n,fv] (.own 3 1 A nn c (bx D)::F) (fun r L=>r= .tuple #[]∧L= .own 3 1 A nn c (bx (ZT D a b n))::F):=by
 subst P8;refine ct func355 38 rfl rfl rfl [(0,.slice A D.length c),(1,ah a),(2,ah b),(3,ah n),(4,fv)] ⟨⟨rfl,rfl⟩,⟨rfl,rfl⟩,⟨rfl,rfl⟩,⟨rfl,rfl⟩,⟨rfl,rfl⟩,trivial⟩ ?_;refine bz ?_;refine aE (fun zf zL zm=>∃(i:Nat),(i≤n)∧n-i=zm∧Sub zf [(0,.slice A D.length c),(1,ah a),(2,ah b),(3,ah n),(10,ah i)]∧Wk zL (.own 3 1 A D.length c (bx (ZT D a b i))::F)) _ ⟨0,bT _,rfl,bp,.refl _⟩ ?_;rintro _ _ _ ⟨i,hi,rfl,hs,hp⟩;refine aU hs hp ?_;clear hs hp;refine bJ ?_;refine aj (fun lA=>?_) fun lA=>?_
 ·have nN:=Wy D a b i;refine b8 ?_;refine kH (A:=A) (n:=D.length) (xs:=bx (ZT D a b i)) (.head _) aa ?_;intro ad hA;subst hA;refine cF F ?_;refine ae 0 ?_;refine ae 1 ?_;refine ae 2 ?_;refine ae 3 ?_;refine ae 4 ?_;refine ae 5 ?_;refine ae 6 ?_;refine ae 7 ?_;refine ae 8 ?_;refine ae 9 ?_;refine ae 10 ?_;refine ae 11 ?_;refine aW 12 rfl (aO (size:=1) (i:=b+i) underlying53 ag rfl rfl aa aa) ?_;refine ae 14 ?_;refine ae 15 ?_;refine ae 16 ?_;refine ae 17 ?_;refine aW 18 rfl (aO (size:=1) (i:=a+i) underlying53 ag rfl rfl aa aa) ?_;refine gV 13 19 ?_ ?_
  ·refine iL rfl .no (au ag rfl aB aa (fA aa)) rfl gF ?_;refine az 19 ?_;refine iL rfl .no (au ag rfl aB aa (fA aa)) rfl gF ?_;refine aW 20 rfl (aO (size:=1) (i:=a+i) underlying53 ag rfl rfl aa aa) ?_;refine az 21 ?_;refine aF ?_;refine aW 22 rfl (aO (size:=1) (i:=b+i) underlying53 ag rfl rfl aa aa) ?_;refine az 23 ?_;refine aF ?_;refine cQ [0,1,2,3,10] ?_;refine bL ?_;refine av ⟨_,aa,i+1,aa,rfl,bp,ax rfl uG (.refl _)⟩
  ·refine iL rfl .no (au ag rfl aB aa (fA aa)) rfl gF ?_;refine az 13 ?_;refine iL rfl .no (au ag rfl aB aa (fA aa)) rfl gF ?_;refine aW 20 rfl (aO (size:=1) (i:=a+i) underlying53 ag rfl rfl aa aa) ?_;refine az 21 ?_;refine aF ?_;refine aW 22 rfl (aO (size:=1) (i:=b+i) underlying53 ag rfl rfl aa aa) ?_;refine az 23 ?_;refine aF ?_;refine cQ [0,1,2,3,10] ?_;refine bL ?_;refine av ⟨_,aa,i+1,aa,rfl,bp,ax rfl uG (.refl _)⟩
 ·obtain rfl:i=n:=by omega
  refine bz ?_;exact⟨rfl,rfl⟩
theorem NJ(H:Hf B w0 F Ao co l){P R Q:bf}{a b:Nat}(ha:P.length=a)(hb:a+R.length=b)(hn:b+Q.length=n)(tU:n≤1000000)(hr:Ri R)(hN:∀x∈R,x<l.length):
  a_ B w0 344 [.slice A n c,ah a,ah b,.func (.func 315) #[] #[br g]] (Sf A n c (P++(R++Q)) g Ao l.length co F)
   (fun r L=>r= .tuple #[]∧L=Sf A n c (P++(cU (oN l) R++Q)) g Ao l.length co F):=by
 refine fw func344 53 [0,1,2,3] ?_;refine bJ ?_;refine aE (fun zf zL zm=>∃(k:Nat),(1≤k∧k≤max 1 R.length)∧R.length-k=zm∧Sub zf [(0,.slice A n c),(1,ah a),(2,ah b),(3,.func (.func 315) #[] #[br g]),(8,ah (a+k:Nat))]∧Wk zL (Sf A n c (P++(cU (oN l) (R.take k)++(R.drop k++Q))) g Ao l.length co F)) _ ⟨1,⟨gj _,aa⟩,rfl,bp,ax rfl (by rw[ahG]) (.refl _)⟩ ?_;rintro _ _ _ ⟨k,⟨xk,Ip⟩,rfl,hs,hp⟩;refine aU hs hp ?_;clear hs hp;refine bJ ?_;refine aj (fun kg=>?_) fun kg=>?_
 ·have Ca:k<R.length:=by omega
  obtain⟨x,hxe⟩:=cN (R.getD k 0);have hx:x<l.length:=by rw[hxe];exact hN _ (bg Ca 0)
  have hdk:R.drop k=x::R.drop (k+1):=by rw[hxe];exact dx Ca 0
  obtain⟨S,hS⟩:=cN (cU (oN l) (R.take k));have Ce:(R.take k).length=k:=by rw[eS];omega
  have Yi:S.length=k:=by rw[hS,gX,Ce]
  have hSN:∀y∈S,y<l.length:=fun y hy=>hN y (lX (fV.1 (hS▸hy)));refine cY ?_;refine aE (fun zf zL zm=>∃(j:Nat),(j≤k∧∀y∈S.drop j,oN l x<oN l y)∧j=zm∧Sub zf [(0,.slice A n c),(1,ah a),(2,ah b),(3,.func (.func 315) #[] #[br g]),(8,ah (a+k:Nat)),(9,ah (a+j:Nat))]∧Wk zL (Sf A n c (mG P S x (R.drop (k+1)++Q) j) g Ao l.length co F)) _ ⟨k,⟨gj _,by rw[mn aa];exact fun y h=>ki⟩,rfl,bp,ax rfl (by rw[RJ Yi,hdk,hS];rfl) (.refl _)⟩ ?_;rintro _ _ _ ⟨j,⟨hj,hjy⟩,rfl,hs,hp⟩;refine aU hs hp ?_;clear hs hp;refine be ?_;refine cF _ ?_;refine ae 0 ?_;refine ae 1 ?_;refine ae 2 ?_;refine ae 3 ?_;refine afO 21 rfl (fun lW=>?_) (fun lW=>?_)
  ·obtain⟨i,rfl⟩:∃i,j=i+1:=⟨j-1,aa⟩
   have Ys:=Eh P S x (R.drop (k+1)++Q) (j:=i+1) aa;rw[aY,iG]at Ys;have hyl:S.getD i 0<l.length:=hSN _ (bg aa 0);refine jj 4 rfl ag ag ag rfl rfl (dV rfl) rfl ?_;refine jj 5 rfl ag ag ag rfl rfl (dV rfl) rfl ?_;refine jj 6 rfl ag ag ag rfl rfl (dV rfl) rfl ?_;refine jj 7 rfl ag ag ag rfl rfl (aC (i:=a+(i+1)) underlying53 ag rfl rfl aa aa aB) rfl ?_;refine jj 8 rfl ag ag ag rfl rfl (au ag rfl aB aa (gb (v:=x) aa (ahF aa aa))) rfl ?_;refine jj 9 rfl ag ag ag rfl rfl (dV rfl) rfl ?_;refine jj 10 rfl ag ag ag rfl rfl (dV rfl) rfl ?_;refine jj 11 rfl ag ag ag rfl rfl (dw rfl rfl (bE aa aa)) rfl ?_;refine jj 12 rfl ag ag ag rfl rfl (aC (i:=a+i) underlying53 ag rfl rfl aa aa aB) rfl ?_;refine jj 13 rfl ag ag ag rfl rfl (au ag rfl aB aa (gb (v:=S.getD i 0) aa (YE aa aa))) rfl ?_;refine az 14 ?_;refine pG rfl (.yes rfl rfl) Up rfl rfl (Kz H hx hyl) rfl Qr ?_;rintro _ _ ⟨rfl,cA⟩;obtain rfl:=cA.symm;refine jj 15 rfl ag ag ag rfl rfl (xI rfl rfl) rfl ?_;refine ae 16 ?_;refine be ?_;refine aj (fun GD=>?_) fun GD=>?_
   ·refine b8 ?_;refine kH (A:=A) (n:=n) (xs:=bx (mG P S x (R.drop (k+1)++Q) (i+1))) (.head _) aa ?_;intro ad hA;subst hA;refine cF (.bD g 213 [.slice Ao l.length co]::F) ?_;refine ae 0 ?_;refine ae 1 ?_;refine ae 2 ?_;refine ae 3 ?_;refine ae 4 ?_;refine ae 5 ?_;refine ae 6 ?_;refine ae 7 ?_;refine aW 8 rfl (aO (size:=1) (i:=a+i) underlying53 ag rfl rfl aa aa) ?_;refine ae 10 ?_;refine ae 11 ?_;refine aW 12 rfl (aO (size:=1) (i:=a+(i+1)) underlying53 ag rfl rfl aa aa) ?_;refine gV 9 13 ?_ ?_
    ·refine iL rfl .no (au ag rfl aB aa (fA aa)) rfl gF ?_;refine az 13 ?_;refine iL rfl .no (au ag rfl aB aa (fA aa)) rfl gF ?_;refine aW 14 rfl (aO (size:=1) (i:=a+(i+1)) underlying53 ag rfl rfl aa aa) ?_;refine az 15 ?_;refine aF ?_;refine aW 16 rfl (aO (size:=1) (i:=a+i) underlying53 ag rfl rfl aa aa) ?_;refine az 17 ?_;refine aF ?_;refine cQ [0,1,2,3,8,9] ?_;refine bL ?_;refine av ⟨_,aa,i,⟨aa,fun y hy=>by
      rw[dx (l:=S) aa 0]at hy;rcases fk.1 hy with e|e
      ·rw[e];exact ma.1 GD
      ·exact hjy y e⟩,rfl,bp,ax rfl agq (.refl _)⟩
    ·refine iL rfl .no (au ag rfl aB aa (fA aa)) rfl gF ?_;refine az 9 ?_;refine iL rfl .no (au ag rfl aB aa (fA aa)) rfl gF ?_;refine aW 14 rfl (aO (size:=1) (i:=a+(i+1)) underlying53 ag rfl rfl aa aa) ?_;refine az 15 ?_;refine aF ?_;refine aW 16 rfl (aO (size:=1) (i:=a+i) underlying53 ag rfl rfl aa aa) ?_;refine az 17 ?_;refine aF ?_;refine cQ [0,1,2,3,8,9] ?_;refine bL ?_;refine av ⟨_,aa,i,⟨aa,fun y hy=>by
      rw[dx (l:=S) aa 0]at hy;rcases fk.1 hy with e|e
      ·rw[e];exact ma.1 GD
      ·exact hjy y e⟩,rfl,bp,ax rfl agq (.refl _)⟩
   ·refine bA ?_;refine ve [0,1,2,3,8] ?_;refine av ⟨_,aa,k+1,⟨aa,aa⟩,rfl,bp,ax rfl (by rw[hS,NI (o:=oN l) hr Ca hxe aa (fun q hq=>by injection hq with hq;rw[←hq,←hS];exact fun h=>GD (ma.2 h)) (by rw[←hS];exact hjy)]) (.refl _)⟩
  ·refine iy 4 rfl ag ag ag rfl rfl rfl rfl ?_;refine iy 5 rfl ag ag ag rfl rfl rfl rfl ?_;refine iy 6 rfl ag ag ag rfl rfl rfl rfl ?_;refine iy 7 rfl ag ag ag rfl rfl rfl rfl ?_;refine iy 8 rfl ag ag ag rfl rfl rfl rfl ?_;refine iy 9 rfl ag ag ag rfl rfl rfl rfl ?_;refine iy 10 rfl ag ag ag rfl rfl rfl rfl ?_;refine iy 11 rfl ag ag ag rfl rfl rfl rfl ?_;refine iy 12 rfl ag ag ag rfl rfl rfl rfl ?_;refine iy 13 rfl ag ag ag rfl rfl rfl rfl ?_;refine iy 14 rfl ag ag ag rfl rfl rfl rfl ?_;refine iy 15 rfl ag ag ag rfl rfl rfl rfl ?_;refine ae 16 ?_;refine de ?_;refine ve [0,1,2,3,8] ?_;refine av ⟨_,aa,k+1,⟨aa,aa⟩,rfl,bp,ax rfl (by rw[hS,NI (o:=oN l) hr Ca hxe aa (fun q hq=>aa) (by rw[←hS];exact hjy)]) (.refl _)⟩
 ·rw[fL aa,mn aa];refine bz ?_;exact⟨rfl,rfl⟩
end
theorem atg{P X Y Q:bf}(h:Y.length<X.length):ZT (P++(X++(Y++Q))) P.length (P.length+X.length) Y.length=(P++Y)++(X.drop Y.length++(X.take Y.length++Q)):=by
 have hl:(X.take Y.length).length=Y.length:=by rw[eS];omega
 have:=K5 P (X.take Y.length) (X.drop Y.length) Y Q (a:=P.length) (b:=P.length+X.length) (n:=Y.length) rfl (by rw[hl,iG];omega) hl hl.symm;rw[←bV (X.take Y.length),jK]at this;rw[this,bV]
theorem ath{P X Y Q:bf}(h:X.length<Y.length):ZT (P++(X++(Y++Q))) P.length (P.length+Y.length) X.length=P++(Y.drop (Y.length-X.length)++(Y.take (Y.length-X.length)++(X++Q))):=by
 have hl:(Y.drop (Y.length-X.length)).length=X.length:=by rw[iG];omega
 have:=K5 P X (Y.take (Y.length-X.length)) (Y.drop (Y.length-X.length)) Q (a:=P.length) (b:=P.length+Y.length) (n:=X.length) rfl np hl.symm rfl;rw[←bV (Y.take (Y.length-X.length)),jK]at this;rw[this]
theorem ati{P X Y Q:bf}(h:X.length=Y.length):ZT (P++(X++(Y++Q))) P.length (P.length+X.length) X.length=P++(Y++(X++Q)):=
 K5 P X [] Y Q rfl ak h rfl
theorem aen{P X Y Q:bf}{a m b:Nat}{fv:Value}(ha:P.length=a)(hm:a+X.length=m)(hb:m+Y.length=b)(hn:b+Q.length=n)(tU:n≤1000000)(hX:0<X.length)(hY:0<Y.length):
  a_ B w0 349 [.slice A n c,ah a,ah m,ah b,fv] (.own 3 1 A n c (bx (P++(X++(Y++Q))))::F)
   (fun r L=>r= .tuple #[]∧L= .own 3 1 A n c (bx (P++(Y++(X++Q))))::F):=by
 refine fw func349 58 [0,1,2,3,4] ?_;refine tP ?_;refine aE (fun zf zL zm=>∃(P' X' Y' Q':bf),(P'.length+X'.length=m∧m+Y'.length+Q'.length=n∧0<X'.length∧0<Y'.length∧P'++(Y'++(X'++Q'))=P++(Y++(X++Q)))∧X'.length+Y'.length=zm∧Sub zf [(0,.slice A n c),(2,ah m),(4,fv),(10,ah X'.length),(11,ah Y'.length)]∧Wk zL (.own 3 1 A n c (bx (P'++(X'++(Y'++Q'))))::F)) _ ⟨P,X,Y,Q,⟨aa,aa,hX,hY,rfl⟩,rfl,bp,.refl _⟩ ?_;rintro _ _ _ ⟨P',X',Y',Q',⟨h1,h2,h3,h4,h5⟩,rfl,hs,hp⟩;refine aU hs hp ?_;clear hs hp;refine bJ ?_;refine aj (fun iY=>?_) fun iY=>?_
 ·refine bA ?_;refine aj (fun nM=>?_) fun nM=>?_
  ·have hr:=atg (P:=P') (X:=X') (Y:=Y') (Q:=Q') aa;rw[h1]at hr;have hd1:(X'.drop Y'.length).length=X'.length-Y'.length:=iG;have Ym:(X'.take Y'.length).length=Y'.length:=by rw[eS];omega
   have hd3:(P'++Y').length=P'.length+Y'.length:=aY;refine bG ?_;refine ab (dw rfl rfl ((bE aa aa).trans (show _=((P'.length:Nat):Int) by omega))) rfl ?_;refine bF ?_;refine ai rfl (SR (a:=P'.length) (b:=m) (n:=Y'.length) bR aa aa tU h4) ?_;refine bL ?_;refine ve [0,2,4,10,11] ?_;refine aF ?_;refine av ⟨_,aa,P'++Y',X'.drop Y'.length,X'.take Y'.length,Q',⟨aa,aa,aa,aa,by rw[←h5,bV,←bV (X'.take Y'.length),jK]⟩,rfl,bp,ax rfl (by rw[hr]) (.refl _)⟩
  ·have hr:=ath (P:=P') (X:=X') (Y:=Y') (Q:=Q') aa;have hd1:(Y'.drop (Y'.length-X'.length)).length=X'.length:=by rw[iG];omega
   have Ym:(Y'.take (Y'.length-X'.length)).length=Y'.length-X'.length:=by rw[eS];omega
   have hd3:(X'++Q').length=X'.length+Q'.length:=aY;refine bG ?_;refine ab (dw rfl rfl ((bE aa aa).trans (show _=((P'.length:Nat):Int) by omega))) rfl ?_;refine b8 ?_;refine ab (dw rfl rfl ((bE aa aa).trans (show _=((P'.length+Y'.length:Nat):Int) by omega))) rfl ?_;refine be ?_;refine ai rfl (SR (a:=P'.length) (b:=P'.length+Y'.length) (n:=X'.length) bR aa aa tU h3) ?_;refine ve [0,2,4,10,11] ?_;refine bJ ?_;refine av ⟨_,aa,P',Y'.drop (Y'.length-X'.length),Y'.take (Y'.length-X'.length),X'++Q',⟨aa,aa,aa,aa,by rw[←h5,←bV (Y'.take (Y'.length-X'.length)),jK]⟩,rfl,bp,ax rfl (by rw[hr]) (.refl _)⟩
 ·have hr:=ati (P:=P') (X:=X') (Y:=Y') (Q:=Q') aa;rw[h1]at hr;refine bQ ?_;refine ab (dw rfl rfl ((bE aa aa).trans (show _=((P'.length:Nat):Int) by omega))) rfl ?_;refine bF ?_;refine ai rfl (SR (a:=P'.length) (b:=m) (n:=X'.length) bR aa aa tU h3) ?_;refine bF ?_;rw[hr,h5];exact⟨rfl,rfl⟩
section
set_option maxHeartbeats 1000000
theorem Vm{P S Q:bf}{x j:Nat}(h:j+1≤S.length):ZS (mG P S x Q j) (P.length+j) (P.length+(j+1))=mG P S x Q (j+1):=by
 have:=SQ (P++S.take j) x [] (S.getD j 0) (S.drop (j+1)++Q) (i:=P.length+j) (j:=P.length+(j+1)) (by rw[aY,eS];omega) (by rw[aY,eS,r_];omega);unfold mG;rw[ba aa 0,dx (l:=S) (k:=j) aa 0];simpa using this
theorem oE{P S Q:bf}{i k:Nat}(h:k<S.length)(hi:i=P.length+k):(P++(S++Q)).getD i 0=S.getD k 0:=by
 have:=tN (P++S.take k) (S.getD k 0) (S.drop (k+1)++Q);rw[aY,eS,za aa,←hi]at this;have e:S=S.take k++(S.getD k 0::S.drop (k+1)):=by rw[←dx h 0,jK]
 conv=>lhs;rw[e]
 simpa using this
structure Mg(l P U V Q:bf)(a m b n:Nat):Prop where
 ha:P.length=a
 hm:a+U.length=m
 hb:m+V.length=b
 hn:b+Q.length=n
 tU:n≤1000000
 hU:0<U.length
 hV:0<V.length
 sU:tr (oN l) U
 sV:tr (oN l) V
 lt:∀u∈U,∀v∈V,u<v
 nd:(U++V).Nodup
 N:∀x∈U++V,x<l.length
theorem Oy{S:bf}(hs:tr o S){k w:Nat}(hk:k<S.length)(h:o (S.getD k 0)<w):∀y∈S.take (k+1),o y<w:=fun y hy=>by
 obtain⟨i,hi,rfl⟩:=jZ hy;rw[eS]at hi;rw[Er];rw[bk,fm hk,vB]at h;by_cases e:i=k
 ·subst e;exact h
 ·have:=rb.1 hs i k aa hk aa;unfold tv at this;omega
theorem Ox{S:bf}(hs:tr o S){k w:Nat}(hk:k<S.length)(h:w≤o (S.getD k 0)):∀y∈S.drop k,w≤o y:=fun y hy=>by
 obtain⟨i,hi,rfl⟩:=jZ hy;rw[iG]at hi;rw[List.getElem_drop];rw[bk,fm hk,vB]at h;by_cases e:i=0
 ·subst e;exact h
 ·have:=rb.1 hs k (k+i) hk aa aa;unfold tv at this;omega
theorem Iw{P S Q T:bf}{x i:Nat}(hs:tr o S)(hn:T.Nodup)(hT:∀y,y∈T↔y=x∨y∈S)(h1:∀y∈S.take i,tv o y x)(h2:∀y∈S.drop i,tv o x y):mG P S x Q i=P++(cU o T++Q):=by
 have:S.take i++x::S.drop i=cU o T:=by
  refine tr.pC (ac5 hs h1 h2) hn fun y=>?_;rw[hT,dz,fk];have e:y∈S↔y∈S.take i∨y∈S.drop i:=by
   conv=>lhs;rw[←jK i S]
   exact dz
  rw[e];constructor
  ·rintro(h|h|h)
   ·exact .inr (.inl h)
   ·exact .inl h
   ·exact .inr (.inr h)
  ·rintro(h|h|h)
   ·exact .inr (.inl h)
   ·exact .inl h
   ·exact .inr (.inr h)
 unfold mG;rw[←this];simp[bV]
abbrev PS(g:Nat):Value:=.func (.func 315) #[] #[br g]
def LU(l P U V Q:bf)(A:bj)(n c g:Nat)(Ao:bj)(co:Nat)(F:aP)(r:Value)(L:aP):Prop:=r= .tuple #[]∧L=Sf A n c (P++(cU (oN l) (U++V)++Q)) g Ao l.length co F
theorem aq7(H:Hf B w0 F Ao co l){P U V Q:bf}{a m b:Nat}(M:Mg l P U V Q a m b n)(h1:U.length=1):
  a_ B w0 345 [.slice A n c,ah a,ah m,ah b,PS g] (Sf A n c (P++(U++(V++Q))) g Ao l.length co F) (LU l P U V Q A n c g Ao co F):=by
 unfold LU;obtain⟨ha,hm,hb,hn,tU,hU,hV,sU,sV,lt,nd,hN⟩:=M;obtain⟨u,rfl⟩:∃u,U=[u]:=by
  match U,h1 with
  |[u],_=>exact⟨u,rfl⟩
 have y':u<l.length:=hN u ak;have hD0:(P++([u]++(V++Q))).length=n:=by simp;omega
 have hgu:(P++([u]++(V++Q))).getD a 0=u:=oE (S:=[u]) (k:=0) ak aa;refine fw func345 220 [0,1,2,3,4] ?_;refine bQ ?_;refine aj (fun qx=>?_) fun qx=>?_
 ·refine dQ ?_;refine aE (fun zf zL zm=>∃(i j:Nat),(i≤j∧j≤V.length∧(∀y∈V.take i,oN l y<oN l u)∧(∀y∈V.drop j,oN l u≤oN l y))∧j-i=zm∧Sub zf [(0,.slice A n c),(1,ah a),(4,PS g),(10,ah (m+i:Nat)),(11,ah (m+j:Nat))]∧Wk zL (Sf A n c (P++([u]++(V++Q))) g Ao l.length co F)) _ ⟨0,V.length,⟨bT _,gj _,ak,by rw[BJ];simp⟩,rfl,bp,.refl _⟩ ?_;rintro _ _ _ ⟨i,j,⟨Io,hj,P7,hhi⟩,rfl,hs,hp⟩;refine aU hs hp ?_;clear hs hp;refine bJ ?_;refine aj (fun h33=>?_) fun h33=>?_
  ·obtain⟨h,hh⟩:∃h,m+h=(m+i+(m+j))/2:=⟨(m+i+(m+j))/2-m,aa⟩
   have U':h<V.length:=by omega
   have Yx:V.getD h 0<l.length:=hN _ (ny _ (bg U' 0));refine bL ?_;refine ab (bY rfl rfl (r:=((m+i+(m+j):Nat):Int)) ((bE aa aa).trans aa)) rfl ?_;refine aF ?_;refine ab (dj rfl rfl aa (Kh (m+i+(m+j)))) rfl ?_;refine ab (bm underlying192 underlying3 rfl (r:=((m+h:Nat):Int)) ((bE aa aa).trans aa)) rfl ?_;refine b8 ?_;refine cF _ ?_;refine ae 0 ?_;refine ae 1 ?_;refine ae 2 ?_;refine aW 3 rfl (aC (i:=m+h) underlying53 ag rfl rfl aa aa aB) ?_;refine aW 4 rfl (au ag rfl aB aa (gb (v:=V.getD h 0) aa (by rw[←bV];exact oE U' bR))) ?_;refine ae 5 ?_;refine ae 6 ?_;refine ae 7 ?_;refine aW 8 rfl (au ag rfl aB aa (gb (v:=u) aa hgu)) ?_;refine az 9 ?_;refine pG rfl .no Up rfl rfl (Kz H Yx y') rfl Qr ?_;rintro _ _ ⟨rfl,cA⟩;obtain rfl:=cA.symm;refine ae 10 ?_;refine cQ [0,1,4,10,11,12,50] ?_;refine aF ?_;refine aj (fun Ij=>?_) fun Ij=>?_
   ·refine bz ?_;refine av ⟨_,aa,h+1,j,⟨aa,hj,Oy sV U' (ma.1 Ij),hhi⟩,rfl,bp,.refl _⟩
   ·refine bG ?_;refine av ⟨_,aa,i,h,⟨aa,aa,P7,Ox sV U' (ya fun k=>Ij (ma.2 k))⟩,rfl,bp,.refl _⟩
  ·obtain rfl:i=j:=by omega
   have tT:mG P V u Q i=P++(cU (oN l) ([u]++V)++Q):=Iw sV nd (fun y=>ak) (fun y hy=>.inl (P7 y hy)) (fun y hy=>by
    have:=hhi y hy;have:=lt u ak y (rf hy);unfold tv;omega)
   refine de ?_;refine aE (fun zf zL zm=>∃(d:Nat),(d≤i)∧i-d=zm∧Sub zf [(0,.slice A n c),(10,ah (m+i:Nat)),(13,ah (a+d:Nat))]∧Wk zL (Sf A n c (mG P V u Q d) g Ao l.length co F)) _ ⟨0,bT _,rfl,bp,ax rfl (by simp[mG]) (.refl _)⟩ ?_;rintro _ _ _ ⟨d,hd,rfl,hs,hp⟩;refine aU hs hp ?_;clear hs hp;refine bQ ?_;refine aj (fun h58=>?_) fun h58=>?_
   ·have hdl:=Eh P V u Q (j:=d) aa;simp only[p_]at hm;refine b8 ?_;refine kH (A:=A) (n:=n) (xs:=bx (mG P V u Q d)) (.head _) aa ?_;intro ad hA;subst hA;refine cF (.bD g 213 [.slice Ao l.length co]::F) ?_;refine ae 0 ?_;refine ae 1 ?_;refine ae 2 ?_;refine ae 3 ?_;refine ae 4 ?_;refine ae 5 ?_;refine ae 6 ?_;refine ae 7 ?_;refine aW 8 rfl (aO (size:=1) (i:=a+(d+1)) underlying53 ag rfl rfl aa aa) ?_;refine ae 10 ?_;refine ae 11 ?_;refine aW 12 rfl (aO (size:=1) (i:=a+d) underlying53 ag rfl rfl aa aa) ?_;refine gV 9 13 ?_ ?_
    ·refine iL rfl .no (au ag rfl aB aa (fA aa)) rfl gF ?_;refine az 13 ?_;refine iL rfl .no (au ag rfl aB aa (fA aa)) rfl gF ?_;refine aW 14 rfl (aO (size:=1) (i:=a+d) underlying53 ag rfl rfl aa aa) ?_;refine az 15 ?_;refine aF ?_;refine aW 16 rfl (aO (size:=1) (i:=a+(d+1)) underlying53 ag rfl rfl aa aa) ?_;refine az 17 ?_;refine aF ?_;refine cQ [0,10,13] ?_;refine bL ?_;refine av ⟨_,aa,d+1,aa,rfl,bp,ax rfl (by rw[uG,←ha,Vm aa]) (.refl _)⟩
    ·refine iL rfl .no (au ag rfl aB aa (fA aa)) rfl gF ?_;refine az 9 ?_;refine iL rfl .no (au ag rfl aB aa (fA aa)) rfl gF ?_;refine aW 14 rfl (aO (size:=1) (i:=a+d) underlying53 ag rfl rfl aa aa) ?_;refine az 15 ?_;refine aF ?_;refine aW 16 rfl (aO (size:=1) (i:=a+(d+1)) underlying53 ag rfl rfl aa aa) ?_;refine az 17 ?_;refine aF ?_;refine cQ [0,10,13] ?_;refine bL ?_;refine av ⟨_,aa,d+1,aa,rfl,bp,ax rfl (by rw[uG,←ha,Vm aa]) (.refl _)⟩
   ·simp only[p_]at hm;obtain rfl:d=i:=by omega
    refine bJ ?_;exact⟨rfl,by rw[tT]⟩
 ·exfalso;(simp only[p_]at hm;omega)
theorem aq8(H:Hf B w0 F Ao co l){P U V Q:bf}{a m b:Nat}(M:Mg l P U V Q a m b n)(h0:U.length≠1)(h1:V.length=1):
  a_ B w0 345 [.slice A n c,ah a,ah m,ah b,PS g] (Sf A n c (P++(U++(V++Q))) g Ao l.length co F) (LU l P U V Q A n c g Ao co F):=by
 unfold LU;obtain⟨ha,hm,hb,hn,tU,hU,hV,sU,sV,lt,nd,hN⟩:=M;obtain⟨v,rfl⟩:∃v,V=[v]:=by
  match V,h1 with
  |[v],_=>exact⟨v,rfl⟩
 have Yx:v<l.length:=hN v ak;have hD0:(P++(U++([v]++Q))).length=n:=by simp only[aY];omega
 have hgv:(P++(U++([v]++Q))).getD m 0=v:=by rw[←bV];exact oE (S:=[v]) (k:=0) ak bR
 simp only[p_]at hb;refine fw func345 220 [0,1,2,3,4] ?_;refine bQ ?_;refine dm fun qx=>?_;refine cY ?_;refine zG fun PX=>?_;refine dQ ?_;refine aE (fun zf zL zm=>∃(i j:Nat),(i≤j∧j≤U.length∧(∀y∈U.take i,oN l y≤oN l v)∧(∀y∈U.drop j,oN l v<oN l y))∧j-i=zm∧Sub zf [(0,.slice A n c),(2,ah m),(4,PS g),(14,ah (a+i:Nat)),(15,ah (a+j:Nat))]∧Wk zL (Sf A n c (P++(U++([v]++Q))) g Ao l.length co F)) _ ⟨0,U.length,⟨bT _,gj _,ak,by rw[BJ];simp⟩,rfl,bp,.refl _⟩ ?_;rintro _ _ _ ⟨i,j,⟨Io,hj,P7,hhi⟩,rfl,hs,hp⟩;refine aU hs hp ?_;clear hs hp;refine bJ ?_;refine aj (fun h85=>?_) fun h85=>?_
 ·obtain⟨h,hh⟩:∃h,a+h=(a+i+(a+j))/2:=⟨(a+i+(a+j))/2-a,aa⟩
  have U':h<U.length:=by omega
  have y':U.getD h 0<l.length:=hN _ (j8 _ (bg U' 0));refine bL ?_;refine ab (bY rfl rfl (r:=((a+i+(a+j):Nat):Int)) ((bE aa aa).trans aa)) rfl ?_;refine aF ?_;refine ab (dj rfl rfl aa (Kh (a+i+(a+j)))) rfl ?_;refine ab (bm underlying192 underlying3 rfl (r:=((a+h:Nat):Int)) ((bE aa aa).trans aa)) rfl ?_;refine b8 ?_;refine cF _ ?_;refine ae 0 ?_;refine ae 1 ?_;refine ae 2 ?_;refine ae 3 ?_;refine aW 4 rfl (au ag rfl aB aa (gb (v:=v) aa hgv)) ?_;refine ae 5 ?_;refine ae 6 ?_;refine aW 7 rfl (aC (i:=a+h) underlying53 ag rfl rfl aa aa aB) ?_;refine aW 8 rfl (au ag rfl aB aa (gb (v:=U.getD h 0) aa (oE U' aa))) ?_;refine az 9 ?_;refine pG rfl .no Up rfl rfl (Kz H Yx y') rfl Qr ?_;rintro _ _ ⟨rfl,cA⟩;obtain rfl:=cA.symm;refine ae 10 ?_;refine ae 11 ?_;refine cQ [0,2,4,14,15,16,103] ?_;refine aF ?_;refine aj (fun alF=>?_) fun alF=>?_
  ·refine bz ?_;refine av ⟨_,aa,h+1,j,⟨aa,hj,fun y hy=>Nat.le_of_lt_succ (Oy sU U' (Nat.lt_succ_of_le (ya fun k=>alF (ma.2 k))) y hy),hhi⟩,rfl,bp,.refl _⟩
  ·refine bG ?_;refine av ⟨_,aa,i,h,⟨aa,aa,P7,fun y hy=>Ox sU U' (ma.1 (kR.1 alF)) y hy⟩,rfl,bp,.refl _⟩
 ·obtain rfl:i=j:=by omega
  have tT:mG P U v Q i=P++(cU (oN l) (U++[v])++Q):=Iw sU nd (fun y=>by simp[or_comm]) (fun y hy=>by
   have:=P7 y hy;have:=lt y (lX hy) v ak;unfold tv;omega) (fun y hy=>.inl (hhi y hy))
  refine de ?_;refine aE (fun zf zL zm=>∃(d:Nat),(i≤d∧d≤U.length)∧d=zm∧Sub zf [(0,.slice A n c),(14,ah (a+i:Nat)),(17,ah (a+d:Nat))]∧Wk zL (Sf A n c (mG P U v Q d) g Ao l.length co F)) _ ⟨U.length,⟨hj,gj _⟩,rfl,bp,ax rfl (by simp[mG]) (.refl _)⟩ ?_;rintro _ _ _ ⟨d,⟨hd1,Ym⟩,rfl,hs,hp⟩;refine aU hs hp ?_;clear hs hp;refine bJ ?_;refine aj (fun arU=>?_) fun arU=>?_
  ·obtain⟨d,rfl⟩:∃d',d=d'+1:=⟨d-1,aa⟩
   have hdl:=Eh P U v Q (j:=d+1) aa;refine b8 ?_;refine kH (A:=A) (n:=n) (xs:=bx (mG P U v Q (d+1))) (.head _) aa ?_;intro ad hA;subst hA;refine cF (.bD g 213 [.slice Ao l.length co]::F) ?_;refine ae 0 ?_;refine ae 1 ?_;refine ae 2 ?_;refine ae 3 ?_;refine ae 4 ?_;refine ae 5 ?_;refine ae 6 ?_;refine ae 7 ?_;refine aW 8 rfl (aO (size:=1) (i:=a+d) underlying53 ag rfl rfl aa aa) ?_;refine ae 10 ?_;refine ae 11 ?_;refine aW 12 rfl (aO (size:=1) (i:=a+(d+1)) underlying53 ag rfl rfl aa aa) ?_;refine gV 9 13 ?_ ?_
   ·refine iL rfl .no (au ag rfl aB aa (fA aa)) rfl gF ?_;refine az 13 ?_;refine iL rfl .no (au ag rfl aB aa (fA aa)) rfl gF ?_;refine aW 14 rfl (aO (size:=1) (i:=a+(d+1)) underlying53 ag rfl rfl aa aa) ?_;refine az 15 ?_;refine aF ?_;refine aW 16 rfl (aO (size:=1) (i:=a+d) underlying53 ag rfl rfl aa aa) ?_;refine az 17 ?_;refine aF ?_;refine cQ [0,14,17] ?_;refine bL ?_;refine av ⟨_,aa,d,⟨aa,aa⟩,rfl,bp,ax rfl agq (.refl _)⟩
   ·refine iL rfl .no (au ag rfl aB aa (fA aa)) rfl gF ?_;refine az 9 ?_;refine iL rfl .no (au ag rfl aB aa (fA aa)) rfl gF ?_;refine aW 14 rfl (aO (size:=1) (i:=a+(d+1)) underlying53 ag rfl rfl aa aa) ?_;refine az 15 ?_;refine aF ?_;refine aW 16 rfl (aO (size:=1) (i:=a+d) underlying53 ag rfl rfl aa aa) ?_;refine az 17 ?_;refine aF ?_;refine cQ [0,14,17] ?_;refine bL ?_;refine av ⟨_,aa,d,⟨aa,aa⟩,rfl,bp,ax rfl agq (.refl _)⟩
  ·obtain rfl:d=i:=by omega
   refine bJ ?_;exact⟨rfl,by rw[tT]⟩
end
section
set_option maxHeartbeats 1000000
theorem alx{S:bf}(hs:tr o S){k:Nat}(hk:k<S.length):∀y∈S.drop k,y=S.getD k 0∨tv o (S.getD k 0) y:=fun y hy=>by
 rw[dx hk 0]at hy;rcases fk.1 hy with e|e
 ·exact .inl e
 ·refine .inr ?_;obtain⟨i,hi,rfl⟩:=jZ e;rw[iG]at hi;rw[List.getElem_drop,bk,fm hk,vB];exact rb.1 hs k (k+1+i) hk aa aa
theorem ajU{S T:bf}(hS:tr o S)(hT:tr o T){i j:Nat}(hi:i<S.length)(h:j<T.length→tv o (S.getD i 0) (T.getD j 0)):∀x∈S.take (i+1),∀y∈T.drop j,tv o x y:=fun x hx y hy=>by
 by_cases hj:j<T.length
 ·have h1:=Wu hS hi (h hj) x hx;rcases alx hT hj y hy with e|e
  ·rw[e];exact h1
  ·exact rm h1 e
 ·rw[mn aa]at hy;cases hy
theorem adw{U V:bf}{a m b lo hi s mB:Nat}(sU:tr o U)(sV:tr o V)(hm:a+U.length=m)(hb:m+V.length=b)(k1:a≤lo)(k2:lo≤s)(k3:s≤hi)(k4:hi≤m)(k5:hi≤mB)(k6:mB+m≤b+lo)(k7:lo=a∨mB+m=b+lo)(k8:hi=m∨hi=mB)(kY:s=lo∨tv o (U.getD (s-1-a) 0) (V.getD (mB+m-s-m) 0))(jH:s=hi∨tv o (V.getD (mB+m-1-s-m) 0) (U.getD (s-a) 0)):
  ∃U1 U2 V1 V2,U=U1++U2∧V=V1++V2∧a+U1.length=s∧s+V1.length=mB∧∀x∈U1++V1,∀y∈U2++V2,tv o x y:=by
 refine⟨U.take (s-a),U.drop (s-a),V.take (mB-s),V.drop (mB-s),(jK _ _).symm,(jK _ _).symm,np,np,fun x hx y hy=>?_⟩;have hUU:∀x∈U.take (s-a),∀y∈U.drop (s-a),tv o x y:=by
  have:=sU;rw[←jK (s-a) U]at this;exact(sP.1 this).2.2
 have hVV:∀x∈V.take (mB-s),∀y∈V.drop (mB-s),tv o x y:=by
  have:=sV;rw[←jK (mB-s) V]at this;exact(sP.1 this).2.2
 rcases dz.1 hx with hx|hx
 ·rcases dz.1 hy with hy|hy
  ·exact hUU x hx y hy
  ·by_cases e:s=a
   ·rw[e,nx]at hx;simp at hx
   ·by_cases e2:mB-s<V.length
    ·rcases kY with h|h
     ·omega
     ·rw[show mB+m-s-m=mB-s by omega]at h;have:=ajU sU sV (i:=s-1-a) (j:=mB-s) aa (fun _=>h);rw[show s-1-a+1=s-a by omega]at this;exact this x hx y hy
    ·rw[mn aa]at hy;cases hy
 ·rcases dz.1 hy with hy|hy
  ·by_cases e:s=mB
   ·rw[e,nx]at hx;simp at hx
   ·by_cases e2:s-a<U.length
    ·rcases jH with h|h
     ·omega
     ·rw[show mB+m-1-s-m=mB-s-1 by omega]at h;have:=ajU sV sU (i:=mB-s-1) (j:=s-a) aa (fun _=>h);rw[show mB-s-1+1=mB-s by omega]at this;exact this x hx y hy
    ·rw[mn aa]at hy;cases hy
  ·exact hVV x hx y hy
theorem aqD{U1 U2 V1 V2:bf}{x:Nat}:(x∈U1++V1→x∈(U1++U2)++(V1++V2))∧(x∈U2++V2→x∈(U1++U2)++(V1++V2)):=by
 simp only[dz];constructor
 ·rintro(h|h)
  ·exact .inl (.inl h)
  ·exact .inr (.inl h)
 ·rintro(h|h)
  ·exact .inl (.inr h)
  ·exact .inr (.inr h)
theorem nd4{U1 U2 V1 V2:bf}(h:((U1++U2)++(V1++V2)).Nodup):(U1++V1).Nodup∧(U2++V2).Nodup:=
 ⟨h.sublist (List.Sublist.append (vC U1 U2) (vC V1 V2)),h.sublist (List.Sublist.append (gy U1 U2) (gy V1 V2))⟩
theorem BR{U V:bf}(sU:tr o U)(sV:tr o V)(nd:(U++V).Nodup)(h:U=[]∨V=[]):cU o (U++V)=U++V:=by
 rcases h with h|h
 ·subst h;exact O7 sV nd
 ·subst h;rw[gk]at nd⊢;exact O7 sU nd
theorem aeV(H:Hf B w0 F Ao co l){sz:Nat}(ih:∀{P U V Q:bf} {a m b:Nat},U.length+V.length≤sz→Mg l P U V Q a m b n→
  a_ B w0 345 [.slice A n c,ah a,ah m,ah b,PS g] (Sf A n c (P++(U++(V++Q))) g Ao l.length co F) (LU l P U V Q A n c g Ao co F)){P U V Q:bf}{a m b:Nat}(i_:U.length+V.length≤sz+1)(M:Mg l P U V Q a m b n)(hU1:¬U.length=1)(hV1:¬V.length=1):
  a_ B w0 345 [.slice A n c,ah a,ah m,ah b,PS g] (Sf A n c (P++(U++(V++Q))) g Ao l.length co F) (LU l P U V Q A n c g Ao co F):=by
 unfold LU at ih⊢;obtain⟨ha,hm,hb,hn,tU,hU,hV,sU,sV,lt,nd,hN⟩:=M;obtain⟨mB,Ru⟩:=cN ((a+b)/2);have hD0:(P++(U++(V++Q))).length=n:=by simp only[aY];omega
 refine fw func345 220 [0,1,2,3,4] ?_;refine bQ ?_;refine dm fun qx=>?_;refine cY ?_;refine dm fun PX=>?_;refine bz ?_;refine ab (bY rfl rfl (r:=((a+b:Nat):Int)) ((bE aa aa).trans aa)) rfl ?_;refine aF ?_;refine ab (dj rfl rfl aa (Kh (a+b))) rfl ?_;refine ab (bm underlying192 underlying3 rfl (r:=(mB:Int)) ((bE aa aa).trans aa)) rfl ?_;refine bQ ?_;refine ve [0,1,2,3,4,18,19] ?_;refine bL ?_;refine d_ (fun zf zL=>∃(lo hi:Nat),(a≤lo∧lo≤hi∧hi≤m∧hi≤mB∧mB+m≤b+lo∧(lo=a∨mB+m=b+lo)∧(hi=m∨hi=mB))∧Sub zf [(0,.slice A n c),(1,ah a),(2,ah m),(3,ah b),(4,PS g),(18,ah mB),(19,ah (mB+m:Nat)),(20,ah lo),(21,ah hi)]∧Wk zL (Sf A n c (P++(U++(V++Q))) g Ao l.length co F)) ?_ ?_
 ·refine bL ?_;refine aj (fun arW=>?_) fun arW=>?_
  ·refine cJ ?_;exact bC ⟨mB+m-b,mB,⟨aa,aa,aa,aa,aa,aa,aa⟩,bp,.refl _⟩
  ·refine bA ?_;exact bC ⟨a,m,⟨aa,aa,aa,aa,aa,aa,aa⟩,bp,.refl _⟩
 ·rintro _ _ ⟨lo,hi,⟨k1,k2,k4,k5,k6,k7,k8⟩,hs,hp⟩;refine aU hs hp ?_;clear hs hp;refine bQ ?_;refine aE (fun zf zL zm=>∃(s r:Nat),(lo≤s∧s≤r∧r≤hi∧(s=lo∨tv (oN l) (U.getD (s-1-a) 0) (V.getD (mB+m-s-m) 0))∧(r=hi∨tv (oN l) (V.getD (mB+m-1-r-m) 0) (U.getD (r-a) 0)))∧r-s=zm∧Sub zf [(0,.slice A n c),(1,ah a),(2,ah m),(3,ah b),(4,PS g),(18,ah mB),(19,ah (mB+m:Nat)),(20,ah s),(21,ah r),(22,ah (mB+m-1:Nat))]∧Wk zL (Sf A n c (P++(U++(V++Q))) g Ao l.length co F)) _ ⟨lo,hi,⟨gj _,k2,gj _,.inl rfl,.inl rfl⟩,rfl,bp,.refl _⟩ ?_;rintro _ _ _ ⟨s,r,⟨g1,g2,g3,kY,jH⟩,rfl,hs,hp⟩;refine aU hs hp ?_;clear hs hp;refine bJ ?_;refine aj (fun arX=>?_) fun arX=>?_
  ·obtain⟨h,hh⟩:=cN ((s+r)/2);have hhu:h-a<U.length:=by omega
   have hhv:mB+m-1-h-m<V.length:=by omega
   have hum:U.getD (h-a) 0∈U:=bg hhu 0;have hvm:V.getD (mB+m-1-h-m) 0∈V:=bg hhv 0;have huv:=lt _ hum _ hvm;have y':=hN _ (j8 _ hum);have Yx:=hN _ (ny _ hvm);refine bL ?_;refine ab (bY rfl rfl (r:=((s+r:Nat):Int)) ((bE aa aa).trans aa)) rfl ?_;refine aF ?_;refine ab (dj rfl rfl aa (Kh (s+r))) rfl ?_;refine ab (bm underlying192 underlying3 rfl (r:=(h:Int)) ((bE aa aa).trans aa)) rfl ?_;refine b8 ?_;refine cF _ ?_;refine ae 0 ?_;refine ae 1 ?_;refine ae 2 ?_;refine ae 3 ?_;refine ae 4 ?_;refine aW 5 rfl (aC (i:=mB+m-1-h) underlying53 ag rfl rfl aa aa aB) ?_;refine aW 6 rfl (au ag rfl aB aa (gb (v:=V.getD (mB+m-1-h-m) 0) aa (by rw[←bV];exact oE hhv tF))) ?_;refine ae 7 ?_;refine ae 8 ?_;refine ae 9 ?_;refine aW 10 rfl (au ag rfl aB aa (gb (v:=U.getD (h-a) 0) aa (oE hhu aa))) ?_;refine az 11 ?_;refine pG rfl .no Up rfl rfl (Kz H Yx y') rfl Qr ?_;rintro _ _ ⟨rfl,cA⟩;obtain rfl:=cA.symm;refine ae 12 ?_;refine ae 13 ?_;refine cQ [0,1,2,3,4,18,19,20,21,22,23,171] ?_;refine aF ?_;refine aj (fun alG=>?_) fun alG=>?_
   ·refine bz ?_;refine av ⟨_,aa,h+1,r,⟨aa,aa,g3,.inr (by
     rw[show h+1-1-a=h-a by omega,show mB+m-(h+1)-m=mB+m-1-h-m by omega];have:¬oN l (V.getD (mB+m-1-h-m) 0)<oN l (U.getD (h-a) 0):=fun k=>alG (ma.2 k);unfold tv;omega),jH⟩,rfl,bp,.refl _⟩
   ·refine bG ?_;refine av ⟨_,aa,s,h,⟨g1,aa,aa,kY,.inr (.inl (ma.1 (kR.1 alG)))⟩,rfl,bp,.refl _⟩
  ·obtain rfl:s=r:=by omega
   obtain⟨U1,U2,V1,V2,rfl,rfl,q1,q2,fE⟩:=adw sU sV hm hb k1 g1 g3 k4 k5 k6 k7 k8 kY jH;simp only[aY]at hm hb i_ hU hV;obtain⟨nd1,nd2⟩:=nd4 nd;have sU1:tr (oN l) U1:=sU.sublist (vC U1 U2);have sU2:tr (oN l) U2:=sU.sublist (gy U1 U2);have sV1:tr (oN l) V1:=sV.sublist (vC V1 V2);have sV2:tr (oN l) V2:=sV.sublist (gy V1 V2);have tT:=alJ (o:=oN l) nd fE;have at2:(cU (oN l) (U1++V1)).length=U1.length+V1.length:=by rw[gX,aY]
   refine bQ ?_;refine ab (dw rfl rfl ((bE aa aa).trans (show _=((mB+m-s:Nat):Int) by omega))) rfl ?_;refine bF ?_;refine d_ (fun zf zL=>Sub zf [(0,.slice A n c),(1,ah a),(3,ah b),(4,PS g),(18,ah mB),(20,ah s),(24,ah (mB+m-s:Nat))]∧Wk zL (Sf A n c (P++(U1++(V1++(U2++(V2++Q))))) g Ao l.length co F)) ?_ ?_
   ·refine be ?_;refine bW 8 185 [0,1,2,3,4,18,20,24] (s<m∧m<mB+m-s) ?_ ?_
    ·refine b8 ?_;refine cP (fun ar1=>?_) fun ar1=>?_
     ·refine bz ?_;exact aQ oS
     ·refine bF ?_;exact aQ wu
    ·refine be ?_;refine aj (fun ar2=>?_) fun ar2=>?_
     ·have Kk:P++((U1++U2)++((V1++V2)++Q))=(P++U1)++(U2++(V1++(V2++Q))):=by simp[bV]
      rw[Kk];refine bz ?_;refine ai rfl (aen (P:=P++U1) (X:=U2) (Y:=V1) (Q:=V2++Q) (a:=s) (m:=m) (b:=mB+m-s) tF aa aa tF tU aa aa) ?_;refine aF ?_;exact bC ⟨bp,ax rfl (by simp[bV]) (.refl _)⟩
     ·have Kk:P++((U1++U2)++((V1++V2)++Q))=P++(U1++(V1++(U2++(V2++Q)))):=by
       by_cases e:U2.length=0
       ·rw[mm e];simp[bV]
       ·rw[mm (show V1.length=0 by omega)];simp[bV]
      refine aF ?_;exact bC ⟨bp,ax rfl (by rw[Kk]) (.refl _)⟩
   ·rintro _ _ ⟨hs,hp⟩;refine aU hs hp ?_;clear hs hp;refine d_ (fun zf zL=>Sub zf [(0,.slice A n c),(3,ah b),(4,PS g),(18,ah mB),(24,ah (mB+m-s:Nat))]∧Wk zL (Sf A n c ((P++cU (oN l) (U1++V1))++(U2++(V2++Q))) g Ao l.length co F)) ?_ ?_
    ·refine be ?_;refine bW 8 199 [0,1,3,4,18,20,24] (a<s∧s<mB) ?_ ?_
     ·refine b8 ?_;refine cP (fun ar3=>?_) fun ar3=>?_
      ·refine bz ?_;exact aQ oS
      ·refine bF ?_;exact aQ wu
     ·refine be ?_;refine aj (fun ar4=>?_) fun ar4=>?_
      ·refine bz ?_;refine ai rfl (ih (P:=P) (U:=U1) (V:=V1) (Q:=U2++(V2++Q)) (a:=a) (m:=s) (b:=mB) aa ⟨ha,q1,q2,by rw[aY,aY];omega,tU,aa,aa,sU1,sV1,fun u hu v hv=>lt u (j8 _ hu) v (j8 _ hv),nd1,fun x hx=>hN x (aqD.1 hx)⟩) ?_;refine aF ?_;exact bC ⟨bp,ax rfl (by simp[bV]) (.refl _)⟩
      ·have al_:=BR sU1 sV1 nd1 (by
        by_cases e:U1.length=0
        ·exact .inl (mm e)
        ·exact .inr (mm aa))
       refine aF ?_;exact bC ⟨bp,ax rfl (by rw[al_];simp[bV]) (.refl _)⟩
    ·rintro _ _ ⟨hs,hp⟩;refine aU hs hp ?_;clear hs hp;refine be ?_;refine bW 8 213 [0,3,4,18,24] (mB<mB+m-s∧mB+m-s<b) ?_ ?_
     ·refine b8 ?_;refine cP (fun ar5=>?_) fun ar5=>?_
      ·refine bz ?_;exact aQ oS
      ·refine bF ?_;exact aQ wu
     ·refine be ?_;refine aj (fun ar6=>?_) fun ar6=>?_
      ·refine bz ?_;refine ai rfl (ih (P:=P++cU (oN l) (U1++V1)) (U:=U2) (V:=V2) (Q:=Q) (a:=mB) (m:=mB+m-s) (b:=b) aa ⟨tF,aa,aa,hn,tU,aa,aa,sU2,sV2,fun u hu v hv=>lt u (ny _ hu) v (ny _ hv),nd2,fun x hx=>hN x (aqD.2 hx)⟩) ?_;refine be ?_;refine aq (L':=Sf A n c (P++(cU (oN l) ((U1++U2)++(V1++V2))++Q)) g Ao l.length co F) (ax rfl (by rw[←tT];simp[bV]) (.refl _)) ?_;refine aF ?_;exact⟨rfl,rfl⟩
      ·have asP:=BR sU2 sV2 nd2 (by
        by_cases e:U2.length=0
        ·exact .inl (mm e)
        ·exact .inr (mm aa))
       refine be ?_;refine aq (L':=Sf A n c (P++(cU (oN l) ((U1++U2)++(V1++V2))++Q)) g Ao l.length co F) (ax rfl (by rw[←tT,asP];simp[bV]) (.refl _)) ?_;refine aF ?_;exact⟨rfl,rfl⟩
theorem aeU(H:Hf B w0 F Ao co l):∀(sz:Nat) {P U V Q:bf} {a m b:Nat},U.length+V.length≤sz→Mg l P U V Q a m b n→
  a_ B w0 345 [.slice A n c,ah a,ah m,ah b,PS g] (Sf A n c (P++(U++(V++Q))) g Ao l.length co F) (LU l P U V Q A n c g Ao co F)
 |0,P,U,V,Q,a,m,b,i_,M=>by have:=M.hU;omega
 |sz+1,P,U,V,Q,a,m,b,i_,M=>by
  by_cases hU1:U.length=1
  ·exact aq7 H M hU1
  ·by_cases hV1:V.length=1
   ·exact aq8 H M hU1 hV1
   ·exact aeV H (aeU H sz) i_ M hU1 hV1
theorem akb{X c1 c2 Q:bf}{a m b:Nat}(hr:Ri (c1++c2))(hN:∀x∈c1++c2,x<l.length)(ha:X.length=a)(hm:a+c1.length=m)(hb:m+c2.length=b)(hn:b+Q.length=n)(tU:n≤1000000)(h1:0<c1.length)(h2:0<c2.length):
  Mg l X (cU (oN l) c1) (cU (oN l) c2) Q a m b n:=by
 obtain⟨r1,r2,r3⟩:=sP.1 hr;exact⟨ha,by rw[gX];exact hm,by rw[gX];exact hb,hn,tU,by rw[gX];exact h1,by rw[gX];exact h2,lu _ (Ri.nd r1),lu _ (Ri.nd r2),fun u hu v hv=>r3 u (fV.1 hu) v (fV.1 hv),
  ((List.Perm.append (gE _ c1) (gE _ c2)).nodup_iff).2 hr.nd,fun x hx=>hN x ((dz.1 hx).elim (fun h=>j8 _ (fV.1 h)) (fun h=>ny _ (fV.1 h)))⟩
theorem aeL(H:Hf B w0 F Ao co l){R:bf}(hn:R.length=n)(tU:n≤1000000)(hr:Ri R)(hN:∀x∈R,x<l.length):
  a_ B w0 335 [.slice A n c,ah n,PS g] (Sf A n c R g Ao l.length co F) (fun r L=>r= .tuple #[]∧L=Sf A n c (cU (oN l) R) g Ao l.length co F):=by
 refine fw func335 63 [0,1,2] ?_;refine dQ ?_;refine aE (fun zf zL zm=>∃(X R':bf),(X.length+R'.length=n∧X++wv (oN l) 20 R'=wv (oN l) 20 R∧Ri R'∧∀x∈R',x<l.length)∧R'.length=zm∧Sub zf [(0,.slice A n c),(1,ah n),(2,PS g),(6,ah 20),(7,ah X.length),(8,ah (X.length+20:Nat))]∧Wk zL (Sf A n c (X++R') g Ao l.length co F)) _ ⟨[],R,⟨by simp;exact hn,rfl,hr,hN⟩,rfl,bp,.refl _⟩ ?_;rintro _ _ _ ⟨X,R',⟨hX,hXe,hr',hN'⟩,rfl,hs,hp⟩;refine aU hs hp ?_;clear hs hp;refine bJ ?_;refine aj (fun lA=>?_) fun lA=>?_
 ·have tu:(R'.take 20).length=20:=by rw[eS];omega
  have rK:(R'.drop 20).length=R'.length-20:=iG;have Kk:X++R'=X++(R'.take 20++R'.drop 20):=by rw[jK]
  have c_:=qJ (o:=oN l) (bs:=20) (R:=R') aa aa;have nN:(X++cU (oN l) (R'.take 20)).length=X.length+20:=by rw[aY,gX,tu]
  rw[Kk];refine bQ ?_;refine ai rfl (NJ H (P:=X) (R:=R'.take 20) (Q:=R'.drop 20) (a:=X.length) (b:=X.length+20) rfl aa aa tU (hr'.sublist (Kv 20 R')) (fun x hx=>hN' x (lX hx))) ?_;refine jy ?_;refine av ⟨_,aa,X++cU (oN l) (R'.take 20),R'.drop 20,⟨aa,by rw[bV,←c_,hXe],hr'.sublist (List.drop_sublist 20 R'),fun x hx=>hN' x (rf hx)⟩,rfl,bp,ax rfl (by rw[bV]) (.refl _)⟩
 ·have Kk:X++R'=X++(R'++[]):=by rw[gk]
  rw[Kk];have Ly:=mT (o:=oN l) (bs:=20) (R:=R') aa;rw[Ly]at hXe;refine cY ?_;refine ai rfl (NJ H (P:=X) (R:=R') (Q:=[]) (a:=X.length) (b:=n) rfl aa ak tU hr' hN') ?_;refine bF ?_;refine aE (fun zf zL zm=>∃(bs:Nat),(1≤bs∧bs≤2000020)∧n-bs=zm∧Sub zf [(0,.slice A n c),(1,ah n),(2,PS g),(6,ah bs)]∧Wk zL (Sf A n c (wv (oN l) bs R) g Ao l.length co F)) _ ⟨20,⟨aa,aa⟩,rfl,bp,ax rfl (by rw[gk,hXe]) (.refl _)⟩ ?_;rintro _ _ _ ⟨bs,⟨p9,oH⟩,rfl,hs,hp⟩;refine aU hs hp ?_;clear hs hp;refine bJ ?_;refine aj (fun Bv=>?_) fun Bv=>?_
  ·have h00:([]:bf).length=0:=rfl;refine de ?_;refine aE (fun zf zL zm=>∃(X R':bf),(X.length+R'.length=n∧X++wv (oN l) (2*bs) R'=wv (oN l) (2*bs) R∧Ri R'∧∀x∈R',x<l.length)∧R'.length=zm∧Sub zf [(0,.slice A n c),(1,ah n),(2,PS g),(6,ah bs),(7,ah X.length),(8,ah (X.length+2*bs:Nat))]∧Wk zL (Sf A n c (X++wv (oN l) bs R') g Ao l.length co F)) _ ⟨[],R,⟨by simp;exact hn,rfl,hr,hN⟩,rfl,bp,.refl _⟩ ?_;rintro _ _ _ ⟨X,R',⟨hX2,ahl,xm,hN2⟩,rfl,hs,hp⟩;refine aU hs hp ?_;clear hs hp;refine bJ ?_;refine aj (fun qV=>?_) fun qV=>?_
   ·have tu:(R'.take bs).length=bs:=by rw[eS];omega
    have rK:(R'.drop bs).length=R'.length-bs:=iG;have Lz:((R'.drop bs).take bs).length=bs:=by rw[eS];omega
    have hl4:((R'.drop bs).drop bs).length=R'.length-bs-bs:=by rw[iG];omega
    have alK:=qJ (o:=oN l) (bs:=bs) (R:=R') p9 aa;have alL:=qJ (o:=oN l) (bs:=bs) (R:=R'.drop bs) p9 aa;have asb:=qJ (o:=oN l) (bs:=2*bs) (R:=R') aa aa;have Rg:R'.take bs++(R'.drop bs).take bs=R'.take (2*bs):=by rw[show 2*bs=bs+bs by omega,List.take_add]
    have hdd:(R'.drop bs).drop bs=R'.drop (2*bs):=by rw[qa];congr 1;omega
    have c_:=aa5 (oN l) bs ((R'.drop bs).drop bs);have hri:Ri (R'.take bs++(R'.drop bs).take bs):=by rw[Rg];exact xm.sublist (Kv _ _)
    have hsa:=O8 (o:=oN l) hri.nd;have nN:(X++cU (oN l) (R'.take bs++(R'.drop bs).take bs)).length=X.length+2*bs:=by rw[aY,gX,aY];omega
    rw[alK,alL];refine cJ ?_;refine ai rfl (aeU H _ (P:=X) (Q:=wv (oN l) bs ((R'.drop bs).drop bs)) (a:=X.length) (m:=X.length+bs) (b:=X.length+2*bs) (gj _) (akb hri (fun x hx=>hN2 x (by rw[Rg]at hx;exact lX hx)) rfl aa aa aa tU aa aa)) ?_;refine dQ ?_;refine ve [0,1,2,6,7,8] ?_;refine aF ?_;refine av ⟨_,aa,X++cU (oN l) (R'.take bs++(R'.drop bs).take bs),(R'.drop bs).drop bs,⟨aa,by rw[bV,Rg,hdd,←asb,ahl],by rw[hdd];exact xm.sublist (List.drop_sublist _ _),fun x hx=>hN2 x (rf (rf hx))⟩,rfl,bp,ax rfl (by rw[hsa,bV]) (.refl _)⟩
   ·have rK:(R'.drop bs).length=R'.length-bs:=iG;have asf:=mT (o:=oN l) (bs:=2*bs) (R:=R') aa;rw[asf]at ahl;refine Ke ?_;refine aj (fun h54=>?_) fun h54=>?_
    ·have tu:(R'.take bs).length=bs:=by rw[eS];omega
     have alK:=qJ (o:=oN l) (bs:=bs) (R:=R') p9 aa;have alL:=mT (o:=oN l) (bs:=bs) (R:=R'.drop bs) aa;have Rg:R'.take bs++R'.drop bs=R':=jK _ _;have hri:Ri (R'.take bs++R'.drop bs):=by rw[Rg];exact xm
     have hsa:=O8 (o:=oN l) hri.nd;have Kk:X++(cU (oN l) (R'.take bs)++cU (oN l) (R'.drop bs))=X++(cU (oN l) (R'.take bs)++(cU (oN l) (R'.drop bs)++[])):=by rw[gk]
     rw[alK,alL,Kk];refine bz ?_;refine ai rfl (aeU H _ (P:=X) (Q:=[]) (a:=X.length) (m:=X.length+bs) (b:=n) (gj _) (akb hri (fun x hx=>hN2 x (by rw[Rg]at hx;exact hx)) rfl aa aa ak tU aa aa)) ?_;refine ve [0,1,2,6] ?_;refine bL ?_;refine av ⟨_,aa,2*bs,⟨aa,aa⟩,rfl,bp,ax rfl (by rw[hsa,gk,Rg,ahl]) (.refl _)⟩
    ·have ase:=mT (o:=oN l) (bs:=bs) (R:=R') aa;refine bJ ?_;refine av ⟨_,aa,2*bs,⟨aa,aa⟩,rfl,bp,ax rfl (by rw[ase,ahl]) (.refl _)⟩
  ·have tT:=mT (o:=oN l) (bs:=bs) (R:=R) aa;rw[tT];refine bz ?_;exact⟨rfl,rfl⟩
theorem aeH(H:Hf B w0 F Ao co l){R:bf}(hn:R.length=n)(tU:n≤1000000)(hr:Ri R)(hN:∀x∈R,x<l.length):
  a_ B w0 314 [.slice A n c,PS g] (Sf A n c R g Ao l.length co F) (fun r L=>r= .tuple #[]∧L=Sf A n c (cU (oN l) R) g Ao l.length co F):=by
 refine fw func314 9 [0,1] ?_;refine bG ?_;refine ai rfl (aeL H hn tU hr hN) ?_;refine bF ?_;exact⟨rfl,rfl⟩
end
theorem aaQ{P:Prop}(h:P:=by(rw[←mE,bV];rfl)):P:=h
theorem aaV{P:Prop}(h:P:=by(rw[Ek];rfl)):P:=h
theorem an9{P:Prop}(h:P:=by(first|exact fun h=>absurd h.1 (by omega)|exact⟨fun h=>⟨by omega,by omega⟩,fun h=>by have:=h.2;omega⟩)):P:=h
theorem To(o:Nat→Nat)(k:Nat):mx o (k+1)=mx o k++if 0<o k then [k] else []:=by
 unfold mx;rw[lj,Eo];congr 1;rw[tZ,List.filter_nil];by_cases h:0<o k
 ·rw[ao h,ao nr]
 ·rw[aw h,aw nr]
theorem PF(o:Nat→Nat)(k:Nat):(mx o k).length≤k:=jd (BH _ _) ak
theorem afK(o:Nat→Nat)(k:Nat):Ri (mx o k):=List.Pairwise.sublist List.filter_sublist List.pairwise_lt_range
theorem afJ{o:Nat→Nat}{k x:Nat}(h:x∈mx o k):x<k:=kz.1 (BE.1 h).1
theorem anB(H:Hf B w0 F Ao co l)(hl:l.length≤300):
  a_ B w0 283 [.slice Ao l.length co] F (fun r L=>∃A' c',r= .slice A' (dA (oN l) l.length).length c'∧L= .own 3 1 A' (dA (oN l) l.length).length c' (bx (dA (oN l) l.length))::F):=by
 have hbo:=H.xf;refine fw func283 24 [0] ?_;refine be ?_;refine bh fun g1=>?_;refine b8 ?_;refine aZ 3 1 none ?_;refine de ?_;refine aE (fun zf zL zm=>∃(k:Nat) (A3:bj) (c3:Nat),(k≤l.length)∧l.length-k=zm∧Sub zf [(1,br g1),(3,.slice A3 (mx (oN l) k).length c3),(6,.slice Ao l.length co),(7,ah l.length),(8,ah k)]∧Wk zL (Sf A3 (mx (oN l) k).length c3 (mx (oN l) k) g1 Ao l.length co F)) _ ⟨0,none,0,bT _,rfl,bp,.refl _⟩ ?_;rintro _ _ _ ⟨k,A3,c3,hk,rfl,hs,hp⟩;refine aU hs hp ?_;clear hs hp;refine bz ?_;refine aj (fun h9=>?_) fun h9=>?_
 ·have hus:=To (oN l) k;have y':=PF (oN l) k;refine bJ ?_;refine ab (au ag rfl aB aa (FM aa)) rfl ?_;refine bA ?_;refine aj (fun kg=>?_) fun kg=>?_
  ·rw[ao (show 0<l.getD k 0 by omega)]at hus;have wL:(mx (oN l) (k+1)).length=(mx (oN l) k).length+1:=by rw[hus];simp
   refine bF ?_;refine dE fJ rfl rfl rfl rfl rfl (fun _=>rfl) aV aa aa ?_;intro _ sX uO;refine bJ ?_;refine av ⟨_,aa,k+1,sX,uO,aa,rfl,bp,ax aa (by rw[hus];simp[bx]) (.refl _)⟩
  ·rw[aw (show¬0<l.getD k 0 by omega),gk]at hus;have wL:(mx (oN l) (k+1)).length=(mx (oN l) k).length:=by rw[hus]
   refine bL ?_;refine av ⟨_,aa,k+1,A3,c3,aa,rfl,bp,ax (by rw[hus]) (by rw[hus]) (.refl _)⟩
 ·obtain rfl:k=l.length:=by omega
  have y':=PF (oN l) l.length;have nN:(dA (oN l) l.length).length=(mx (oN l) l.length).length:=gX _ _;refine bQ ?_;refine ai rfl (aeH H rfl aa (afK _ _) (fun x hx=>afJ hx)) ?_;refine bQ ?_;refine aq (L':=.own 3 1 A3 (dA (oN l) l.length).length c3 (bx (dA (oN l) l.length))::F) (.trans (ax nN.symm rfl (.refl _)) ((ed (.skip (.refl _))))) ?_;refine aF ?_;exact⟨A3,c3,by rw[nN],rfl⟩
def sJ(x:cv):cV:=[.int .u64 (x.1:Int),.bool x.2]
def dh(L:List cv):cV:=L.flatMap sJ
theorem RN(L:List cv):(dh L).length=L.length*2:=by
 unfold dh;rw[List.length_flatMap];induction L with
 |nil=>rfl
 |cons x r ih=>rw[kA,IC,ih,ef];simp[sJ];omega
theorem Ek(L M:List cv):dh (L++M)=dh L++dh M:=by simp[dh]
theorem pk:∀(L:List cv) (k:Nat),(dh L).take (k*2)=dh (L.take k)∧(dh L).drop (k*2)=dh (L.drop k)
 |L,0=>by simp[dh]
 |[],k+1=>by simp[dh]
 |x::r,k+1=>by
  obtain⟨h1,h2⟩:=pk r k;have e:dh (x::r)=sJ x++dh r:=by simp[dh]
  rw[e,j0,sL (k*2) 2];constructor
  ·rw[N7,fL (by simp[sJ]),show 2+k*2-(sJ x).length=k*2 by simp[sJ],h1];simp[dh]
  ·rw[List.drop_append,mn (by simp[sJ]),show 2+k*2-(sJ x).length=k*2 by simp[sJ],h2];simp
theorem x7{L:List cv}{k:Nat}(h:k<L.length):((dh L).drop (k*2)).take 2=[.int .u64 ((L.getD k (0,false)).1:Int),.bool (L.getD k (0,false)).2]:=by
 rw[(pk L k).2,dx h (0,false)];simp[dh,sJ]
theorem zU{L:List cv}{k:Nat}(h:k<L.length):(dh L)[k*2+0]? =some (.int .u64 ((L.getD k (0,false)).1:Int)):=sk (x7 h) 0 _ rfl
theorem YM{L:List cv}{k:Nat}(h:k<L.length)(x:cv):(dh L).take (k*2)++sJ x++(dh L).drop (k*2+2)=dh (L.set k x):=by
 rw[show k*2+2=(k+1)*2 by omega,(pk L k).1,(pk L (k+1)).2,List.set_eq_take_append_cons_drop,ao h,Ek];simp[dh]
theorem RO(n:Nat):(List.replicate n [Value.int .u64 0,.bool false]).flatten=dh (List.replicate n (0,false)):=by
 induction n with
 |zero=>rfl
 |succ n ih=>rw[zV,zV,v_,ih];simp[dh,sJ]
def uf(o:Nat→Nat)(S:bf)(k:Nat):List cv:=(S.take k).map (fun s=>(o s,true))++List.replicate (S.length-k) (0,false)
theorem YT(o:Nat→Nat){S:bf}{k:Nat}(h:k≤S.length):(uf o S k).length=S.length:=by simp[uf];omega
theorem RV(o:Nat→Nat){S:bf}{k:Nat}(h:k<S.length):(uf o S k).set k (o (S.getD k 0),true)=uf o S (k+1):=by
 unfold uf;have hl:((S.take k).map fun s=>(o s,true)).length=k:=by simp;omega
 rw[wS _ _ aa,hl,nx,show S.length-k=(S.length-(k+1))+1 by omega,zV,List.set_cons_zero,ba h 0,jb,bV];rfl
theorem ade(H:Hf B w0 F Ao co l){S:bf}(hs:aJ B w0 F 1 (.slice A1 S.length c1) S.length (bx S))(hS:S.length≤300)(hN:∀x∈S,x<l.length):
  a_ B w0 284 [.slice Ao l.length co,.slice A1 S.length c1] F (fun r L=>∃A' c',r= .slice A' S.length c'∧L= .own 397 2 A' S.length c' (dh (S.map fun s=>(oN l s,true)))::F):=by
 have hbo:=H.xf;refine fw func284 29 [0,1] ?_;refine bQ ?_;refine cC (H7 (nn:=S.length) (cc:=S.length) Fo rfl rfl rfl rfl (gj _) aa aa) fun wh=>?_;refine cJ ?_;refine aE (fun zf zL zm=>∃(k:Nat),(k≤S.length)∧S.length-k=zm∧Sub zf [(0,.slice Ao l.length co),(5,.slice wh S.length S.length),(11,.slice A1 S.length c1),(12,ah S.length),(13,ah k)]∧Wk zL (.own 397 2 wh S.length S.length (dh (uf (oN l) S k))::F)) _ ⟨0,bT _,rfl,bp,ax rfl (by rw[show uf (oN l) S 0=List.replicate S.length (0,false) by simp[uf],←RO];rfl) (.refl _)⟩ ?_;rintro _ _ _ ⟨k,hk,rfl,hs,hp⟩;refine aU hs hp ?_;clear hs hp;refine bz ?_;refine aj (fun kg=>?_) fun kg=>?_
 ·have It:S.getD k 0<l.length:=hN _ (bg aa 0);have fE:=H.lt (S.getD k 0);have hlp:=YT (oN l) (S:=S) (k:=k) aa;have hil:=RN (uf (oN l) S k);refine bJ ?_;refine ab (au ag rfl aB aa (fA aa)) rfl ?_;refine bA ?_;refine ab (au ag rfl aB aa (FM It)) rfl ?_;refine aF ?_;refine ab (eG [(0,_),(1,_)] [_,_] rfl rfl ag) rfl ?_;refine aF ?_;refine kJ (DL 2 ag rfl rfl L4 rfl aV aa aa) ?_;refine bz ?_;refine ve [0,5,11,12,13] ?_;refine av ⟨_,aa,k+1,aa,rfl,bp,ax rfl (by rw[←RV (oN l) aa,←YM aa];rfl) (.refl _)⟩
 ·obtain rfl:k=S.length:=by omega
  have xj:uf (oN l) S S.length=S.map fun s=>(oN l s,true):=by simp[uf]
  refine de ?_;exact⟨wh,S.length,rfl,by rw[xj]⟩
theorem EN{leaf row:List cv}{f i k:Nat}(hi:i<leaf.length)(h:row.length≤k+1∨(leaf.getD i (0,false)).1≤(row.getD k (0,false)).1+(row.getD (k+1) (0,false)).1):pB leaf row (f+1) i k=leaf.getD i (0,false)::pB leaf row f (i+1) k:=by
 rw[pB];split
 ·rfl
 ·rename_i hr;rw[ao ⟨hi,h.resolve_left hr⟩]
theorem Sd{leaf row:List cv}{f i k:Nat}(hr:¬row.length≤k+1)(h:¬(i<leaf.length∧(leaf.getD i (0,false)).1≤(row.getD k (0,false)).1+(row.getD (k+1) (0,false)).1)):pB leaf row (f+1) i k=((row.getD k (0,false)).1+(row.getD (k+1) (0,false)).1,false)::pB leaf row f i (k+2):=by
 rw[pB,aw hr,aw h]
theorem Za{leaf row:List cv}{f i k:Nat}(h:¬(i<leaf.length∨k+1<row.length)):pB leaf row f i k=[]:=by
 cases f with
 |zero=>rfl
 |succ f=>rw[pB,ao aa,aw aa]
theorem ZC{leaf row:List cv}{W:Nat}(h1:aJ B w0 F 2 (.slice A1 leaf.length c1) leaf.length (dh leaf))(h2:aJ B w0 F 2 (.slice A2 row.length c2) row.length (dh row))(tu:leaf.length≤1000)(rK:row.length≤1000)(hW:W≤4611686018427387904)(hw1:∀x∈leaf,x.1≤W)(hw2:∀x∈row,x.1≤W):
  a_ B w0 285 [.slice A1 leaf.length c1,.slice A2 row.length c2] F (fun r L=>∃A' c',r= .slice A' (uu leaf row).length c'∧L= .own 397 2 A' (uu leaf row).length c' (dh (uu leaf row))::F):=by
 refine fw func285 83 [0,1] ?_;refine cY ?_;refine ab (mc rfl rfl aa (r:=((row.length/2:Nat):Int)) (by have e:((row.length:Nat):Int).tdiv 2=((row.length/2:Nat):Int):=rfl;rw[e];exact bE aa aa)) rfl ?_;refine ab (bY rfl rfl (r:=((leaf.length+row.length/2:Nat):Int)) ((bE aa aa).trans aa)) rfl ?_;refine cC (H7 (nn:=0) (cc:=leaf.length+row.length/2) Fo rfl rfl rfl rfl (bT _) aa aa) fun Bh=>?_;refine cY ?_;refine aE (fun zf zL zm=>∃(i k f:Nat) (acc:List cv) (A5:bj) (c5:Nat),(i≤leaf.length∧k≤row.length∧leaf.length-i+(row.length-k)≤f∧acc++pB leaf row f i k=uu leaf row∧acc.length≤i+k)∧f=zm∧Sub zf [(0,.slice A1 leaf.length c1),(1,.slice A2 row.length c2),(5,.slice A5 acc.length c5),(6,ah i),(7,ah k)]∧Wk zL (.own 397 2 A5 acc.length c5 (dh acc)::F)) _ ⟨0,0,leaf.length+row.length,[],Bh,leaf.length+row.length/2,⟨bT _,bT _,aa,rfl,gj _⟩,rfl,bp,.refl _⟩ ?_;rintro _ _ _ ⟨i,k,f,acc,A5,c5,⟨hi,hk,hf,mE,Ga⟩,rfl,hs,hp⟩;refine aU hs hp ?_;clear hs hp;refine bF ?_;refine bW 11 26 [0,1,5,6,7] (i<leaf.length∨k+1<row.length) ?_ ?_
 ·refine bG ?_;refine aL rfl rfl rfl (fun iY=>?_) (fun iY=>?_)
  ·refine bA ?_;exact aQ (by exact dN (by first|exact .inl aa|omega))
  ·refine bG ?_;exact aQ (by exact eF (by first|exact .inl aa|omega))
 ·refine be ?_;refine aj (fun qU=>?_) fun qU=>?_
  ·obtain⟨f',rfl⟩:∃f',f=f'+1:=⟨f-1,aa⟩
   have hli:=fun(h:i<leaf.length)=>hw1 _ (bg h (0,false));have hrk:=fun(h:k<row.length)=>hw2 _ (bg h (0,false));have aqq:=fun(h:k+1<row.length)=>hw2 _ (bg h (0,false));have wL:∀x:cv,(acc++[x]).length=acc.length+1:=fun x=>by simp
   refine de ?_;refine aj (fun D5=>?_) fun D5=>?_
   ·have wI:=EN (leaf:=leaf) (row:=row) (f:=f') (i:=i) (k:=k) aa (.inl aa);rw[wI]at mE;have hx:=wL (leaf.getD i (0,false));refine bz ?_;refine ab (dI 2 ag rfl aB aa [.int .u64 ((leaf.getD i (0,false)).1:Int),.bool (leaf.getD i (0,false)).2] (sk (x7 aa)) rfl) rfl ?_;refine rE Fo rfl rfl rfl aa cw rfl rfl rfl (fun _=>rfl) aV aa aa ?_;intro _ LN PR;refine bJ ?_;refine ve [0,1,5,6,7] ?_;refine b8 ?_;refine av ⟨_,aa,i+1,k,f',acc++[leaf.getD i (0,false)],LN,PR,⟨aa,aa,aa,aaQ,aa⟩,rfl,bp,ax aa aaV (.refl _)⟩
   ·have hrk:=hrk aa;have aqq:=aqq aa;refine bL ?_;refine b7 (fS underlying397 rfl ag rfl aB aa rfl) rfl ?_;refine b7 (jP ag rfl aB aa (zU aa)) rfl ?_;refine bF ?_;refine b7 (aC (i:=k+1) (size:=2) underlying392 ag rfl rfl aa aa aB) rfl ?_;refine b7 (fS underlying397 rfl ag rfl aB aa rfl) rfl ?_;refine b7 (jP ag rfl aB aa (zU aa)) rfl ?_;refine b7 (bY rfl rfl (r:=(((row.getD k (0,false)).1+(row.getD (k+1) (0,false)).1:Nat):Int)) ((f_ aa aa).trans aa)) rfl ?_;refine aF ?_;refine na [(0,_),(1,_),(5,_),(6,_),(7,_),(8,_)] ⟨rfl,rfl,rfl,rfl,rfl,rfl,trivial⟩ ?_;refine b8 ?_;refine bW 13 65 [0,1,5,6,7,8] (i<leaf.length∧(leaf.getD i (0,false)).1≤(row.getD k (0,false)).1+(row.getD (k+1) (0,false)).1) ?_ ?_
    ·refine bG ?_;refine cP (fun h57=>?_) fun h57=>?_
     ·refine bz ?_;refine ab (fS underlying397 rfl ag rfl aB aa rfl) rfl ?_;refine aF ?_;refine ab (jP ag rfl aB aa (zU aa)) rfl ?_;refine bG ?_;exact aQ (by exact dN an9)
     ·refine bL ?_;exact aQ (by exact eU an9)
    ·refine be ?_;refine aj (fun h65=>?_) fun h65=>?_
     ·have wI:=EN (leaf:=leaf) (row:=row) (f:=f') (i:=i) (k:=k) h65.1 (.inr h65.2);rw[wI]at mE;have hx:=wL (leaf.getD i (0,false));have atP:=h65.1;refine bz ?_;refine ab (dI 2 ag rfl aB aa [.int .u64 ((leaf.getD i (0,false)).1:Int),.bool (leaf.getD i (0,false)).2] (sk (x7 aa)) rfl) rfl ?_;refine rE Fo rfl rfl rfl aa cw rfl rfl rfl (fun _=>rfl) aV aa aa ?_;intro _ A72 c72;refine de ?_;refine av ⟨_,aa,i+1,k,f',acc++[leaf.getD i (0,false)],A72,c72,⟨aa,aa,aa,aaQ,aa⟩,rfl,bp,ax aa aaV (.refl _)⟩
     ·have wI:=Sd (leaf:=leaf) (row:=row) (f:=f') (i:=i) (k:=k) aa h65;rw[wI]at mE;have hx:=wL ((row.getD k (0,false)).1+(row.getD (k+1) (0,false)).1,false);refine bz ?_;refine ab (bw [(0,_)] [.int .u64 0,.bool false] [0] [_,_] rfl rfl ag) rfl ?_;refine rE Fo rfl rfl rfl aa cw rfl rfl rfl (fun _=>rfl) aV aa aa ?_;intro _ A79 c79;refine bQ ?_;refine av ⟨_,aa,i,k+2,f',acc++[((row.getD k (0,false)).1+(row.getD (k+1) (0,false)).1,false)],A79,c79,⟨aa,aa,aa,aaQ,aa⟩,rfl,bp,ax aa aaV (.refl _)⟩
  ·rw[Za qU,gk]at mE;subst mE;refine de ?_;exact⟨A5,c5,rfl,rfl⟩
section
set_option maxHeartbeats 1000000
theorem akV{P:Prop}(h:P:=by(exact eF (by first|(exact⟨fun h=>absurd h (by omega),False.elim⟩)|omega|(simp;done)))):P:=h
theorem Wf{leaf:List cv}(h:∀x∈leaf,x.1≤4294967296):∀r,∀x∈dS leaf r,x.1≤2^(32+r)
 |0,x,hx=>h x hx
 |r+1,x,hx=>by
  rw[dS,u5]at hx;have hp:2^(32+(r+1))=2*2^(32+r):=by rw[←NL,nD];omega
  have h1:4294967296≤2^(32+r):=by
   have:2^32≤2^(32+r):=kZ aa aa;simpa using this
  rcases yr hx with e|e
  ·have:=h x e;omega
  ·have:=(V0 (Wf h r) e).1;omega
abbrev RwI:=bj×Nat×List cv
abbrev rwV(e:RwI):Value:=.slice e.1 e.2.2.length e.2.1
def RwB(B:Nat)(w0:World)(K:aP)(R:List RwI):Prop:=∀e∈R,aJ B w0 K 2 (rwV e) e.2.2.length (dh e.2.2)
def PD(L:bf):cV:=L.map fun(n:Nat)=>Value.int .u8 (n:Int)
theorem ajh{L:bf}{k:Nat}(h:k<L.length):(PD L)[k*1]? =some (.int .u8 ((L.getD k 0:Nat):Int)):=by
 rw[cE];simp[PD,List.getD,fm h]
theorem WW(L:bf)(k v:Nat):(PD L).set (k*1) (.int .u8 (v:Int))=PD (L.set k v):=by simp[PD,Ku]
theorem aji(L:bf):(PD L).length=L.length:=by simp[PD]
theorem anz{L:bf}(h:∀s,L.getD s 0≤15):PD L=bv (L.map UInt8.ofNat):=by
 unfold PD bv;rw[vA];refine r9 fun x hx=>?_;obtain⟨i,hi,rfl⟩:=jZ hx;have:=h i;rw[bk,fm hi,vB]at this;have e:(UInt8.ofNat L[i]).toNat=L[i]:=by rw[od];exact ja aa
 simp[e]
theorem Vk{S out:bf}(hd:S.Nodup)(hs:∀s∈S,s<out.length){b:Nat}(hb:∀s,out.getD s 0≤b){n:Nat}(hn:n≤S.length):∀s,(s8 S n out).getD s 0≤b+1:=fun s=>by
 obtain⟨h1,h2⟩:=Eg hd hs n hn;by_cases hm:s∈S
 ·obtain⟨j,hj,hje⟩:=jZ hm;have hjd:S.getD j 0=s:=by rw[bk,fm hj,←hje];rfl
  have:=h1 j hj;rw[hjd]at this;rw[this];have:=hb s;split<;>omega
 ·rw[h2 s hm];have:=hb s;omega
theorem Xt{leaf:List cv}(hl:∀x∈leaf,x.2=true)(hw:Wt leaf)(r t:Nat):gJ (dS leaf r) t≤leaf.length:=by
 have hf:=(KR hl hw r).2 t;have:(leaf.take (gJ (dS leaf r) t)).length=gJ (dS leaf r) t:=by
  rw[←hf,←List.countP_eq_length_filter];rfl
 rw[eS]at this;omega
theorem Xu{row:List cv}{k:Nat}(h:k<row.length):gJ row (k+1)=gJ row k+if (row.getD k (0,false)).2 then 1 else 0:=by
 unfold gJ;rw[ba h (0,false),List.countP_append,N5,List.countP_nil];omega
theorem Wd{leaf:List cv}(r:Nat):(dS leaf r).length≤2*leaf.length:=(We leaf r).2
theorem dv:∀(M N:aP),Wk (M++N) N
 |[],N=>.refl _
 |_::M,N=>.skip (dv M N)
theorem mN.wide{leaf:List cv}{r t M M':Nat}(h:mN leaf r t M)(hm:M≤M'):mN leaf r t M':=by
 cases r with
 |zero=>exact h
 |succ r=>exact⟨h.1,jd h.2 hm⟩
theorem mN.le{leaf:List cv}{r t M:Nat}(h:mN leaf r t M):t≤2*leaf.length:=by
 cases r with
 |zero=>
  have:t=0:=h;omega
 |succ r=>exact jd h.1 (Wd r)
theorem amy{leaf row:List cv}{W n1:Nat}(hn1:leaf.length=n1)(h1:aJ B w0 F 2 (.slice A1 n1 c1) n1 (dh leaf))(h2:aJ B w0 F 2 (.slice A2 row.length c2) row.length (dh row))(tu:leaf.length≤1000)(rK:row.length≤1000)(hW:W≤4611686018427387904)(hw1:∀x∈leaf,x.1≤W)(hw2:∀x∈row,x.1≤W):
  a_ B w0 285 [.slice A1 n1 c1,.slice A2 row.length c2] F (fun r L=>∃A' c',r= .slice A' (uu leaf row).length c'∧L= .own 397 2 A' (uu leaf row).length c' (dh (uu leaf row))::F):=by
 subst hn1;exact ZC h1 h2 tu rK hW hw1 hw2
theorem akn{R:List RwI}{leaf:List cv}{k i:Nat}(h:R.map (·.2.2)=(List.range k).map (dS leaf))(hi:i<k):∃A c,R.getD i (none,0,[])=(A,c,dS leaf i)∧(A,c,dS leaf i)∈R∧(R.map rwV)[i*1]? =some (.slice A (dS leaf i).length c):=by
 have hl:R.length=k:=by have:=ek List.length h;simpa using this
 have P6:i<R.length:=by omega
 have e:(R.map (·.2.2))[i]? =some (dS leaf i):=by rw[h];simp[hi]
 rw[jr,fm P6]at e;simp only[sK,Et]at e;refine⟨R[i].1,R[i].2.1,?_,?_,?_⟩
 ·rw[bk,fm P6,←e];rfl
 ·rw[←e];exact tY P6
 ·rw[cE,jr,fm P6,←e];rfl
theorem anC{S:bf}(hS:S=dA (oN l) l.length)(H:Hf B w0 F Ao co l)(hl:l.length≤300):
  a_ B w0 283 [.slice Ao l.length co] F (fun r L=>∃A' c',r= .slice A' S.length c'∧L= .own 3 1 A' S.length c' (bx S)::F):=by
 subst hS;exact anB H hl
theorem Oa{o:Nat→Nat}{N:Nat}{S:bf}(hS:S=dA o N)(h:S.length<2):js o N=if S.length=1 then (List.replicate N 0).set (S.getD 0 0) 1 else List.replicate N 0:=by
 subst hS;rw[js,ao h]
theorem YW{o:Nat→Nat}{N:Nat}{S:bf}(hS:S=dA o N)(h:¬S.length<2):js o N=sG S (CH (S.map fun s=>(o s,true)) 15 (2*S.length-2)) (List.replicate N 0):=by
 subst hS;rw[js,aw h];rfl
theorem FO(n:Nat):List.replicate n (Value.int .u8 0)=PD (List.replicate n 0):=by simp[PD]
theorem amm(H:Hf B w0 F Ao co l)(hl:l.length≤300):
    a_ B w0 246 [.slice Ao l.length co,ah 15] F (fun r L=>∃A' c',r= .tuple #[.slice A' l.length c',ah 0]∧L= .own 5 1 A' l.length c' (bv (kS (oN l) l.length))::F):=by
  have hbv:bv (kS (oN l) l.length)=PD (js (oN l) l.length):=(anz (Ez (o:=oN l) hl)).symm;obtain⟨S,hS⟩:=cN (dA (oN l) l.length);have nN:S.length≤l.length:=by rw[hS];exact I_ _ _
  have It:∀s∈S,s<l.length:=fun s hs=>(m9.1 (hS▸hs)).1;have hnd:S.Nodup:=by rw[hS];exact Pa _ _
  refine fw func246 109 [0,1] ?_;refine bQ ?_;refine bW 11 25 [0,1] (False) ?_ ?_
  · refine b8 ?_;refine aL rfl rfl rfl (fun jk=>?_) (fun jk=>?_)
    · refine bG ?_;refine aL rfl rfl rfl (fun rJ=>?_) (fun rJ=>?_)
      · refine b8 ?_;exact aQ (by rfl)
      · refine be ?_;exact aQ akV
    · refine bz ?_;exact aQ akV
  · refine be ?_;refine dm fun zJ=>?_;refine bG ?_;refine ay rfl (anC hS H hl) fun Ha Mq=>?_;refine bQ ?_;refine ab (ga rfl rfl aa (r:=32768) aA) rfl ?_;refine bF ?_;refine dm fun Bw=>?_;refine bz ?_;refine cC (fb cD rfl rfl rfl rfl rfl aa aa aa) fun Lo=>?_;refine cY ?_;refine aj (fun Cz=>?_) fun Cz=>?_
    · obtain⟨s0,al7⟩:=cN (S.getD 0 0);have CC:s0<l.length:=by rw[al7];exact It _ (bg aa 0)
      refine bF ?_;refine ab (aC (i:=0) (size:=1) underlying53 ag rfl rfl rfl aa aB) rfl ?_;refine ab (au ag rfl aB aa (gb (i:=0) (v:=s0) aa al7.symm)) rfl ?_;refine ab (aC (i:=s0) underlying27 ag rfl rfl rfl aa aB) rfl ?_;refine aF ?_;refine ve [0,1,6,7] ?_;refine bQ ?_;refine zG fun h46=>?_;have xj:=Oa hS aa;rw[ao aa]at xj;refine bQ ?_;refine aq (L':=.own 5 1 Lo l.length l.length (bv (kS (oN l) l.length))::F) (.trans (ax rfl (by rw[hbv,xj,FO,←al7];exact WW _ _ 1) (.refl _)) ((ed (.skip (.refl _))))) ?_;refine aF ?_;exact⟨Lo,l.length,rfl,rfl⟩
    · refine bA ?_;refine aj (fun h46=>?_) fun h46=>?_
      · have xj:=Oa hS aa;rw[aw aa]at xj;refine bG ?_;refine ve [4,5] ?_;refine bF ?_;refine aq (L':=.own 5 1 Lo l.length l.length (bv (kS (oN l) l.length))::F) (.trans (ax rfl (by rw[hbv,xj,FO]) (.refl _)) ((ed (.skip (.refl _))))) ?_;refine aF ?_;exact⟨Lo,l.length,rfl,rfl⟩
      · have xj:=YW hS aa;obtain⟨leaf,Ny⟩:=cN (S.map fun s=>(oN l s,true));have Rs:leaf=oh (oN l) l.length:=by rw[Ny,hS];rfl
        have wL:leaf.length=S.length:=by rw[Ny];simp
        have l0:∀x∈leaf,x.2=true:=by rw[Rs];exact sa
        have hwt:Wt leaf:=by rw[Rs];exact yk _ _
        have tX:mN leaf 15 (2*S.length-2) S.length:=by rw[Rs,hS];exact w6 (o:=oN l) hl
        have hlw:∀x∈leaf,x.1≤4294967296:=by
          rw[Ny];intro x hx;obtain⟨s,_,rfl⟩:=pM.1 hx;exact Nat.le_of_lt (H.lt s)
        rw[←Ny]at xj;refine bz ?_;refine ay rfl (ade ⟨H.xf.cons.cons,H.lt⟩ aB aa It) fun BZ F8=>?_;rw[←Ny];refine aF ?_;refine ve [1,6,7,8] ?_;refine b8 ?_;refine cC (aG aeE [_] rfl rfl cw aa aa) fun A52=>?_;refine bG ?_;refine aE (fun zf zL zm=>∃(k:Nat) (R:List RwI) (M:aP) (A9:bj) (c9:Nat),(1≤k∧k≤15∧R.length=k∧R.map (·.2.2)=(List.range k).map (dS leaf)∧RwB B w0 (M++(.own 397 2 BZ S.length F8 (dh leaf)::F)) R)∧15-k=zm∧Sub zf [(1,ah 15),(6,.slice Ha S.length Mq),(7,.slice Lo l.length l.length),(8,.slice BZ S.length F8),(9,.slice A9 k c9)]∧Wk zL (.own 392 1 A9 k c9 (R.map rwV):: .own 5 1 Lo l.length l.length (PD (List.replicate l.length 0)):: .own 3 1 Ha S.length Mq (bx S)::(M++(.own 397 2 BZ S.length F8 (dh leaf)::F)))) _ ⟨1,[(BZ,F8,leaf)],[],A52,1,⟨gj _,aa,rfl,rfl,fun e he=>by rw[lF.1 he];exact wL▸aJ.own (.head _)⟩,rfl,bp,.trans ((ed (gl (gl (ed (.refl _)))))) (ax rfl (by rw[←wL];rfl) (ax rfl (FO _) (.refl _)))⟩ ?_;rintro _ _ _ ⟨k,R,M,A9,c9,⟨xk,Ip,U7,hRm,U6⟩,rfl,hs,hp⟩;refine aU hs hp ?_;clear hs hp;refine bQ ?_;refine aj (fun PW=>?_) fun PW=>?_
        · obtain⟨j,rfl⟩:∃j,k=j+1:=⟨k-1,aa⟩
          obtain⟨A8,c8,hg8,hm8,hv8⟩:=akn (i:=j) hRm aa;have hb8:aJ B w0 (M++(.own 397 2 BZ S.length F8 (dh leaf)::F)) 2 (.slice A8 (dS leaf j).length c8) (dS leaf j).length (dh (dS leaf j)):=U6 _ hm8;have c_:aJ B w0 (M++(.own 397 2 BZ S.length F8 (dh leaf)::F)) 2 (.slice BZ S.length F8) S.length (dh leaf):=aJ.own (ny _ (.head _));have hrl:=Wd (leaf:=leaf) j;have hjw:(2:Nat)^(32+j)≤2^47:=kZ aa aa;have hjp:(2:Nat)^47=140737488355328:=by decide
          have hnx:uu leaf (dS leaf j)=dS leaf (j+1):=rfl;refine bA ?_;refine ab (aC (i:=j) underlying394 ag rfl rfl aa aa aB) rfl ?_;refine ab (au ag rfl aB aa hv8) rfl ?_;refine ay rfl (amy (W:=140737488355328) wL c_.cons.cons.cons hb8.cons.cons.cons aa aa aa (fun x hx=>by have:=hlw x hx;omega) (fun x hx=>by have:=Wf hlw j x hx;omega)) fun A65 c65=>?_;rw[hnx];refine dE aeE rfl rfl rfl rfl rfl (fun _=>rfl) aV aa aa ?_;intro _ A67 c67;refine bF ?_;refine av ⟨_,aa,j+1+1,R++[(A65,c65,dS leaf (j+1))],.own 397 2 A65 (dS leaf (j+1)).length c65 (dh (dS leaf (j+1)))::M,A67,c67,⟨aa,aa,bR,by rw[jb,hRm,lj (n:=j+1),jb];rfl,fun e he=>by
  rcases dz.1 he with he|he
  · exact(U6 e he).mono (.cons _ (.refl _))
  · rw[lF.1 he];exact aJ.own (.head _)⟩,rfl,bp,.trans ((gl (gl (gl (ed (.refl _)))))) (ax aa (by rw[jb];rfl) (.refl _))⟩
        · obtain rfl:k=15:=by omega
          refine acf ?_;refine aE (fun zf zL zm=>∃(r t:Nat) (out:bf),(r≤15∧mN leaf r t S.length∧sG S (CH leaf r t) out=js (oN l) l.length∧out.length=l.length∧(∀s,out.getD s 0+r≤15)∧t≤600)∧r=zm∧Sub zf [(6,.slice Ha S.length Mq),(7,.slice Lo l.length l.length),(9,.slice A9 15 c9),(10,ah t),(11,ah ((r:Int)-1))]∧Wk zL (.own 5 1 Lo l.length l.length (PD out):: .own 392 1 A9 15 c9 (R.map rwV):: .own 3 1 Ha S.length Mq (bx S)::(M++(.own 397 2 BZ S.length F8 (dh leaf)::F)))) _ ⟨15,2*S.length-2,List.replicate l.length 0,⟨gj _,tX,xj.symm,ak,fun s=>by
  rw[bk,Iy];split<;>simp,aa⟩,rfl,bp,(gl (ed (ed (.refl _))))⟩ ?_
          rintro _ _ _ ⟨r,t,out,⟨at0,ama,hfo,Kj,hob,ht6⟩,rfl,hs,hp⟩;refine aU hs hp ?_;clear hs hp;refine bL ?_;refine aj (fun h76=>?_) fun h76=>?_
          · obtain⟨i,rfl⟩:∃i,r=i+1:=⟨r-1,aa⟩
            obtain⟨A8,c8,hg8,hm8,hv8⟩:=akn (i:=i) hRm aa;have hb8:aJ B w0 (M++(.own 397 2 BZ S.length F8 (dh leaf)::F)) 2 (.slice A8 (dS leaf i).length c8) (dS leaf i).length (dh (dS leaf i)):=U6 _ hm8;have Ce:t≤(dS leaf i).length:=ama.1;have hb9:=hb8.iZ Ce;rw[(pk (dS leaf i) t).1]at hb9;have r7:=Xt l0 hwt i;have vQ:=ama.step l0 hwt;have hil:t≤(dS leaf i).length:=Ce;refine cY ?_;refine Tp hb8.cons.cons.cons fun atv _=>?_;refine bF ?_;refine ab (aC (i:=i) underlying394 ag rfl rfl aa aa aB) rfl ?_;refine ab (au ag rfl aB aa hv8) rfl ?_;refine aF ?_;refine ab (bN (i:=t) (size:=2) underlying392 ag rfl rfl rfl aa) rfl ?_;refine bG ?_;refine aE (fun zf zL zm=>∃(k:Nat),(k≤t)∧t-k=zm∧Sub zf [(6,.slice Ha S.length Mq),(7,.slice Lo l.length l.length),(9,.slice A9 15 c9),(10,ah t),(11,ah ((i+1:Nat)-1:Int)),(12,ah (gJ (dS leaf i) k)),(84,.slice A8 t c8),(85,ah t),(86,ah k)]∧Wk zL (.own 5 1 Lo l.length l.length (PD (s8 S (gJ (dS leaf i) k) out)):: .own 392 1 A9 15 c9 (R.map rwV):: .own 3 1 Ha S.length Mq (bx S)::(M++(.own 397 2 BZ S.length F8 (dh leaf)::F)))) _ ⟨0,bT _,rfl,bp,.refl _⟩ ?_;rintro _ _ _ ⟨k,hkt,rfl,hs,hp⟩;refine aU hs hp ?_;clear hs hp;refine bz ?_;refine aj (fun h87=>?_) fun h87=>?_
            · have Rq:=Xu (row:=dS leaf i) (k:=k) aa;have hkc:=r7 (k+1);have atL:=q8 S out (gJ (dS leaf i) k);have ass:((dS leaf i).take t).getD k (0,false)=(dS leaf i).getD k (0,false):=by
                simp only[bk];rw[Vp aa]
              have hia:=x7 (L:=(dS leaf i).take t) (k:=k) np;rw[ass]at hia;obtain⟨⟨xw,xb⟩,hxe⟩:∃x,x=(dS leaf i).getD k (0,false):=⟨_,rfl⟩
              rw[←hxe]at hia Rq;refine bz ?_;refine ab (aC (i:=k) (size:=2) underlying392 ag rfl rfl rfl aa hb9.cons.cons.cons) rfl ?_;refine ab (dI 2 ag rfl hb9.cons.cons.cons aa [.int .u64 (xw:Int),.bool xb] (sk hia) rfl) rfl ?_;refine bc fun g14=>?_;refine bQ ?_;refine gD (fun h91=>?_) fun h91=>?_
              · rw[ao (show(xw,xb).2=true from h91)]at Rq;obtain⟨s,hse⟩:=cN (S.getD (gJ (dS leaf i) k) 0);have at3:s<l.length:=by rw[hse];exact It _ (bg aa 0)
                obtain⟨v,hve⟩:=cN ((s8 S (gJ (dS leaf i) k) out).getD s 0);have Yx:v≤14-i+1:=by rw[hve];exact Vk hnd (fun s hs=>by rw[Kj];exact It s hs) (fun s=>by have:=hob s;omega) aa s
                have asr:(PD (s8 S (gJ (dS leaf i) k) out)).set (s*1) (.int .u8 ((v+1:Nat):Int))=PD (s8 S (gJ (dS leaf i) (k+1)) out):=by rw[Rq,s8,←hse,←hve,WW]
                refine bG ?_;refine ab (aC (i:=gJ (dS leaf i) k) underlying53 ag rfl rfl rfl aa aB) rfl ?_;refine ab (au ag rfl aB aa (gb (v:=s) aa hse.symm)) rfl ?_;refine ab (aC (i:=s) underlying27 ag rfl rfl rfl aa aB) rfl ?_;refine ab (au (v:=.int .u8 (v:Int)) ag rfl aB aa (by rw[hve];exact ajh aa)) rfl ?_;refine ab (bY rfl rfl (r:=((v+1:Nat):Int)) ((aat aa aa).trans aa)) rfl ?_;refine ab (aC (i:=s) underlying27 ag rfl rfl rfl aa aB) rfl ?_;refine kJ (iK ag rfl rfl rfl aV (by rw[aji];omega)) ?_;refine bz ?_;refine ve [6,7,9,10,11,12,84,85,86] ?_;refine bz ?_;refine av ⟨_,aa,k+1,aa,rfl,bp,.skip (ax rfl asr (.refl _))⟩
              · rw[aw (show¬(xw,xb).2=true by simpa using h91)]at Rq;refine bL ?_;refine av ⟨_,aa,k+1,aa,rfl,bp,.skip (ax rfl (by rw[Rq];rfl) (.refl _))⟩
            · obtain rfl:k=t:=by omega
              have hct:=Uk (dS leaf i) k;have hw2:=vQ.le;have hck:=r7 k;refine zH ?_;refine av ⟨_,aa,i,2*(k-gJ (dS leaf i) k),s8 S (gJ (dS leaf i) k) out,⟨aa,vQ.wide ama.2,by have h:=hfo;rw[CH,sG]at h;exact h,by rw[q8];exact Kj,fun s=>by
  have:=Vk hnd (fun s hs=>by rw[Kj];exact It s hs) (b:=14-i) (fun s=>by have:=hob s;omega) (n:=gJ (dS leaf i) k) aa s;omega,aa⟩,rfl,bp,.refl _⟩
          · obtain rfl:r=0:=by omega
            rw[CH,sG]at hfo;refine de ?_;refine aq (L':=.own 5 1 Lo l.length l.length (bv (kS (oN l) l.length))::F) (ax rfl (by rw[hbv,hfo]) (.skip (.skip (.trans (dv M _) (.skip (.refl _)))))) ?_;refine aF ?_;exact⟨Lo,l.length,rfl,rfl⟩
end
theorem atl{x:Int}(h:0≤x∧x≤100000000):IntKind.i64.wrap (x*2^min (1:Int).toNat IntKind.i64.bits)=x*2:=by
 have e:min (1:Int).toNat IntKind.i64.bits=1:=by decide
 rw[e];exact bE aa aa
theorem agS{l:al}{s:Nat}{x:Int}(h:¬(l.getD s 0).toNat=0)(hx:x=(place l (l.getD s 0).toNat s:Int)):IntKind.u16.wrap x=code l s:=by
 unfold code;rw[aw h,hx]
theorem agT(l:al)(hb:eM B w0 F A c l)(hg:Good l):a_ B w0 287 [.slice A l.length c] F (fun r L=>∃A' c',r= .tuple #[.slice A' l.length c',ah 0]∧L= .own 57 1 A' l.length c' (ints .u16 (gd l))::F):=by
 have hc:=zl l hb;rw[xz hg]at hc;have hf:=hg.1;have l0:=hf.1;have xj:=M_ hf;have hf1:=xj.1;refine fw func287 63 [0] ?_;refine bA ?_;refine ai rfl (hc) ?_;refine bQ ?_;refine dm fun jG=>?_;refine bG ?_;refine ai rfl (HU l aB hf) ?_;refine bF ?_;refine bc fun g5=>?_;refine bz ?_;refine bc fun g7=>?_;refine bQ ?_;refine aE (fun zf zL zm=>∃(k:Nat),(1≤k∧k≤16)∧16-k=zm∧Sub zf [(0,.slice A l.length c),(5,br g5),(7,br g7),(8,ah k)]∧Wk zL (.bD g7 430 (ints .i64 (xU l k)):: .bD g5 426 (ints .i64 (qN l))::F)) _ ⟨1,⟨aa,aa⟩,rfl,bp,bq (by rw[←ab3];rfl) (.refl _)⟩ ?_;rintro _ _ _ ⟨k,⟨xk,hk⟩,rfl,hs,hp⟩;refine aU hs hp ?_;clear hs hp;refine bL ?_;refine aj (fun nM=>?_) fun nM=>?_
 ·have e1:=ab2 l (gj k) aa;have e2:=cW l (k:=k) aa aa;have e3:=uV l0 hk;have e4:=wV l k;have e5:=fx l xk;refine b8 ?_;refine cF (.bD g5 426 (ints .i64 (qN l))::F) ?_;refine ae 0 ?_;refine ae 1 ?_;refine ae 2 ?_;refine aW 3 rfl (aM underlying430 ag rfl rfl rfl aa) ?_;refine ae 5 ?_;refine aW 6 rfl (aM underlying426 ag rfl rfl rfl aa) ?_;refine aW 7 rfl (eY ag rfl aV Gp) ?_;refine az 4 ?_;refine iL rfl .no (eY ag rfl aV Gp) rfl gF ?_;refine ae 8 ?_;refine aW 9 rfl (ga rfl rfl aa (atl aa)) ?_;refine aW 10 rfl (aM (i:=k+1) underlying430 ag rfl rfl rfl aa) ?_;refine az 11 ?_;refine bQ ?_;refine av ⟨_,aa,k+1,⟨aa,aa⟩,rfl,bp,bq (by rw[←X3,e5,e1,e2];push_cast;rfl) (.refl _)⟩
 ·refine bQ ?_;refine cC (fb uD rfl rfl rfl rfl rfl aa aa aa) fun A39=>?_;refine cJ ?_;have alV:k=16:=by omega
  subst alV;refine aE (fun zf zL zm=>∃(s:Nat) (A9:bj),(s≤l.length)∧l.length-s=zm∧Sub zf [(7,br g7),(9,.slice A9 l.length l.length),(40,.slice A l.length c),(41,ah l.length),(42,ah s)]∧Wk zL (.own 57 1 A9 l.length l.length (ints .u16 (Ci l s)):: .bD g7 430 (ints .i64 (vx l s)):: .bD g5 426 (ints .i64 (qN l))::F)) _ ⟨0,A39,bT _,rfl,bp,ax rfl (by rw[Zo];simp[ints]) (bq (by rw[X6]) (.refl _))⟩ ?_;rintro _ _ _ ⟨s,A9,hs,rfl,hs,hp⟩;refine aU hs hp ?_;clear hs hp;refine bz ?_;refine aj (fun Yb=>?_) fun Yb=>?_
  ·have hu:=hf.2 _ (bg (k:=s) aa 0);have hp:=OH l0 (k:=(l.getD s 0).toNat) aa s;refine zH ?_;refine aj (fun Q_=>?_) fun Q_=>?_
   ·have hfB:=Ni l s;have eB:=ab4 l (s:=s) (j:=(l.getD s 0).toNat) aa aa;refine bG ?_;refine ab (aM (i:=(l.getD s 0).toNat) underlying430 ag rfl rfl rfl aa) rfl ?_;refine ab (eY ag rfl aV Gp) rfl ?_;refine ab (bm underlying3 underlying57 rfl (agS (s:=s) aa eB)) rfl ?_;refine aF ?_;refine kJ (iK ag rfl rfl rfl aV (by rw[ky,OE l hs];omega)) ?_;refine b8 ?_;refine ab (aM (i:=(l.getD s 0).toNat) underlying430 ag rfl rfl rfl aa) rfl ?_;refine ab (eY ag rfl aV Gp) rfl ?_;refine aF ?_;refine ab (aM (i:=(l.getD s 0).toNat) underlying430 ag rfl rfl rfl aa) rfl ?_;refine aF ?_;refine ve [7,9,40,41,42] ?_;refine bz ?_;refine av ⟨_,aa,s+1,A9,aa,rfl,bp,ax rfl (by rw[←IN aa,cE];simp[ints,Ku]) (bq (by rw[←X5 aa aa aa,eB]) (.refl _))⟩
   ·refine bL ?_;refine av ⟨_,aa,s+1,A9,aa,rfl,bp,ax rfl (by rw[←Zn aa aa]) (bq (by rw[←X4 aa aa]) (.refl _))⟩
  ·refine de ?_;have BA:s=l.length:=by omega
   subst BA;refine aq (ax rfl (by rw[adV]) (.skip (.skip (.refl _)))) ?_;refine aF ?_;exact⟨A9,_,rfl,rfl⟩
section
variable{l:al}
theorem aou{P:Prop}(h:P:=by(rw[←hmm];exact alP (h_ _ _) (iv _ _) (by omega))):P:=h
theorem aoB{P:Prop}(h:P:=by(rw[←hff];exact ap3 (h_ _ _) (by omega))):P:=h
theorem akW{P:Prop}(h:P:=by(rw[←zO,ahm (by omega) (by rw[←hy,←hw];omega)])):P:=h
abbrev kx(vl vc:Value)(a b:List Int)(sy:cV):cV:=vl::vc::(ints .i64 a++(ints .i64 b++sy))
section
variable{vl vc:Value}{a b:List Int}{sy:cV}{i:Nat}
theorem ap3(ha:a.length=16)(hi:i<16):(kx vl vc a b sy)[2+i]? =some (ah (a.getD i 0)):=by
 rw[show 2+i=i+1+1 by omega];simp only[Vr];rw[z8 bR];simp[ints,List.getD,fm (show i<a.length by omega)]
theorem alP(ha:a.length=16)(hb:b.length=16)(hi:i<16):(kx vl vc a b sy)[18+i]? =some (ah (b.getD i 0)):=by
 rw[show 18+i=(16+i)+1+1 by omega];simp only[Vr];rw[sO bR,ky,ha,yb,z8 bR];simp[ints,List.getD,fm (show i<b.length by omega)]
theorem alQ(ha:a.length=16)(hb:b.length=16):(kx vl vc a b sy)[34+i]? =sy[i]? :=by
 rw[show 34+i=(32+i)+1+1 by omega];simp only[Vr];rw[sO bR,ky,ha,show 32+i-16=16+i by omega,sO bR,ky,hb,yb]
theorem ahp(ha:a.length=16)(hi:i<16)(v:Int):(kx vl vc a b sy).set (2+i) (ah v)=kx vl vc (a.set i v) b sy:=by
 rw[show 2+i=i+1+1 by omega];simp only[NT];rw[List.set_append_left _ _ bR];simp[ints,Ku]
theorem ahq(ha:a.length=16)(hb:b.length=16)(hi:i<16)(v:Int):(kx vl vc a b sy).set (18+i) (ah v)=kx vl vc a (b.set i v) sy:=by
 rw[show 18+i=(16+i)+1+1 by omega];simp only[NT];rw[wS _ _ bR,ky,ha,yb,List.set_append_left _ _ bR];simp[ints,Ku]
theorem U9(ha:a.length=16)(hb:b.length=16)(v:Value):(kx vl vc a b sy).set (34+i) v=kx vl vc a b (sy.set i v):=by
 rw[show 34+i=(32+i)+1+1 by omega];simp only[NT];rw[wS _ _ bR,ky,ha,show 32+i-16=16+i by omega,wS _ _ bR,ky,hb,yb]
end
theorem Rh{vl vc:Value}{a b:List Int}{sy:cV}(ha:a.length=16)(hb:b.length=16)(hs:sy.length=16):(kx vl vc a b sy).length=50:=by
 simp[ha,hb,hs]
def qX(l:al)(s:Nat):List Int:=(List.range 16).map fun k=>if k=0∨num (l.take s) k=0 then 0 else (fst l k:Int)
def mi(l:al)(s:Nat):List Int:=(List.range 16).map fun k=>if k=0 then 0 else (num (l.take s) k:Int)
def ml(l:al)(s:Nat):List (bf):=(List.range 16).map fun k=>if k=0 then [] else ji l s k
@[simp] theorem h_(l:al)(s:Nat):(qX l s).length=16:=by simp[qX]
@[simp] theorem iv(l:al)(s:Nat):(mi l s).length=16:=by simp[mi]
@[simp] theorem anQ(l:al)(s:Nat):(ml l s).length=16:=by simp[ml]
theorem Ns{l:al}{k:Nat}(h:1≤k)(h2:k≤15):(qX l l.length).getD k 0=(ov l k:Int):=by
 have h3:¬k=0:=by omega
 simp only[qX,bk,jr,x' (show k<16 by omega),sK,vB,jU,h3,false_or];unfold ov;split<;>simp
theorem Ir{l:al}{k:Nat}(h:1≤k)(h2:k≤15):(mi l l.length).getD k 0=(num l k:Int):=by
 have h3:¬k=0:=by omega
 simp only[mi,bk,jr,x' (show k<16 by omega),sK,vB,jU,aw h3]
theorem Iu{l:al}{k:Nat}(h:1≤k)(h2:k≤15):(ml l l.length).getD k []=k_ l k:=by
 have h3:¬k=0:=by omega
 simp only[ml,bk,jr,x' (show k<16 by omega),sK,vB,aw h3,k_]
structure xd(B:Nat)(w0:World)(L:aP)(g:Nat)(l:al):Prop where
 co:∃(A1:bj) (c1:Nat) (A2:bj) (c2:Nat) (SY:List rG),Ch.bD g 347 (kx (.slice A1 l.length c1) (.slice A2 l.length c2) (qX l l.length) (mi l l.length) (SY.map jM))∈L∧
  aJ B w0 L 1 (.slice A1 l.length c1) l.length (bv l)∧aJ B w0 L 1 (.slice A2 l.length c2) l.length (ints .u16 (gd l))∧SY.map (·.2.2)=ml l l.length∧∀e∈SY,aJ B w0 L 1 (jM e) e.2.2.length (bx e.2.2)
theorem xd.mono(h:xd B w0 L g l){M:aP}(hs:L.Sublist M):xd B w0 M g l:=by
 obtain⟨A1,c1,A2,c2,SY,h1,h2,h3,h4,h5⟩:=h;exact⟨A1,c1,A2,c2,SY,hs.subset h1,h2.mono hs,h3.mono hs,h4,fun e he=>(h5 e he).mono hs⟩
theorem xd.cons(h:xd B w0 L g l){x:Ch}:xd B w0 (x::L) g l:=h.mono (.cons _ (.refl _))
theorem mC.pC{c:Ch}:∀{L:aP},c∈L→∃f,mC c L f
 |x::L,h=>by
  rcases fk.1 h with e|e
  ·subst e;exact⟨_,.hd⟩
  ·obtain⟨f,hf⟩:=mC.pC e;exact⟨_,hf.tl⟩
theorem aq6{SY:List rG}{k:Nat}(h:SY.map (·.2.2)=ml l l.length)(h1:1≤k)(h2:k≤15):∃A c,(A,c,k_ l k)∈SY∧(SY.map jM)[k]? =some (.slice A (k_ l k).length c):=by
 have hl:SY.length=16:=by have:=ek List.length h;simpa using this
 have hi:k<SY.length:=by omega
 have hg:=Iu (l:=l) h1 h2;have e:(SY.map (·.2.2)).getD k []=k_ l k:=by rw[h];exact hg
 rw[bk,jr,fm hi]at e;simp only[sK,vB]at e;refine⟨SY[k].1,SY[k].2.1,?_,?_⟩
 ·rw[←e];exact tY hi
 ·rw[jr,fm hi,←e];rfl
theorem als(xX:xd B w0 F g l)(hl:l.length≤300){x k:Nat}(h1:1≤k)(h2:k≤15)(hx:x<1000000):
  a_ B w0 351 [br g,.int .u64 x,ah k] F (fun r L=>r= .tuple #[ah (((nv l x k).getD 0:Nat):Int),.bool (nv l x k).isSome]∧L=F):=by
 obtain⟨A1,c1,A2,c2,SY,hm,p9,oH,hsy,Ly⟩:=xX;obtain⟨f,zP⟩:=mC.pC hm;have hff:=Ns (l:=l) h1 h2;have hmm:=Ir (l:=l) h1 h2;have hss:=Iu (l:=l) h1 h2;have Va:=wV l k;have hfc:ov l k≤39321600:=by
  unfold ov;split
  ·omega
  ·exact uV hl aa
 refine fw func351 39 [0,1,2] ?_;refine bQ ?_;refine ab (bm underlying60 underlying3 rfl (r:=(x:Int)) (bE aa aa)) rfl ?_;refine b8 ?_;refine ab (aM (i:=k) underlying344 ag rfl rfl rfl aa) rfl ?_;refine ab (bM ag rfl zP (ap3 (h_ _ _) aa)) rfl ?_;refine bL ?_;refine bW 12 29 [0,2,8] (¬(ov l k≤x∧x<ov l k+num l k)) ?_ ?_
 ·refine bF ?_;refine aL rfl rfl rfl (fun iY=>?_) (fun iY=>?_)
  ·refine bA ?_;refine ab (aM (i:=k) underlying344 ag rfl rfl rfl aa) rfl ?_;refine aF ?_;refine ab (bM ag rfl zP (alP (h_ _ _) (iv _ _) aa)) rfl ?_;refine bF ?_;exact aQ oS
  ·refine bJ ?_;exact aQ vu
 ·refine be ?_;refine aj (fun rZ=>?_) fun rZ=>?_
  ·have e:nv l x k=none:=aw rZ;rw[e];refine bQ ?_;exact⟨rfl,rfl⟩
  ·have Ys:=kR.1 rZ;obtain⟨s,hs⟩:=cN ((k_ l k).getD (x-ov l k) 0);have e:nv l x k=some s:=by rw[nv,ao Ys,hs]
   rw[e];obtain⟨A3,c3,hm3,hv3⟩:=aq6 hsy h1 h2;have hb3:aJ B w0 F 1 (.slice A3 (k_ l k).length c3) (k_ l k).length (bx (k_ l k)):=Ly _ hm3;have nN:=Fy l k;refine bJ ?_;refine ab (aM (i:=k) underlying345 ag rfl rfl rfl aa) rfl ?_;refine ab (bM ag rfl zP ((alQ (h_ _ _) (iv _ _)).trans hv3)) rfl ?_;refine aF ?_;refine ab (aC (i:=x-ov l k) underlying53 ag rfl rfl aa aa hb3) rfl ?_;refine ab (au ag rfl hb3 aa (gb (v:=s) aa hs.symm)) rfl ?_;refine bz ?_;exact⟨rfl,rfl⟩
theorem O3{x d:Nat}{e:Int}(he:e=(d:Int))(hd:d≤15)(hx:x<1000000):IntKind.i64.wrap ((x:Int)*2^min e.toNat IntKind.i64.bits)=((x*2^d:Nat):Int):=by
 subst he;have e2:min ((d:Int)).toNat IntKind.i64.bits=d:=by
  show min _ 64=_;omega
 have hp:2^d≤2^15:=kZ aa hd;have hm:x*2^d≤1000000*2^15:=gN aa hp;rw[e2];have e3:(x:Int)*2^d=((x*2^d:Nat):Int):=by simp
 rw[e3];exact bE aa aa
theorem ahm{x k f j:Nat}(hj:j≤15)(h:¬(0<num l j∧x*2^(j-k)<ov l j+num l j∧ov l j<x*2^(j-k)+2^(j-k))):vP l x k (f+1) j=vP l x k f (j+1):=by
 rw[vP,aw aa,aw h]
theorem acr{x k f j:Nat}(hj:j≤15)(h:0<num l j∧x*2^(j-k)<ov l j+num l j∧ov l j<x*2^(j-k)+2^(j-k)):vP l x k (f+1) j=true:=by
 rw[vP,aw aa,ao h]
theorem acq{x k f j:Nat}(hj:¬j≤15):vP l x k f j=false:=by
 cases f with
 |zero=>rfl
 |succ f=>rw[vP,ao aa]
theorem aa0(xX:xd B w0 F g l)(hl:l.length≤300){x k:Nat}(h2:k≤15)(hx:x<32768):
  a_ B w0 353 [br g,.int .u64 x,ah k] F (fun r L=>r= .bool (acp l x k)∧L=F):=by
 obtain⟨A1,c1,A2,c2,SY,hm,p9,oH,hsy,Ly⟩:=xX;obtain⟨f,zP⟩:=mC.pC hm;refine fw func353 60 [0,1,2] ?_;refine dQ ?_;refine aE (fun zf zL zm=>∃(j fu:Nat),(k+1≤j∧j≤16∧16≤j+fu∧vP l x k fu j=acp l x k)∧16-j=zm∧Sub zf [(0,br g),(1,.int .u64 x),(2,ah k),(7,ah j)]∧Wk zL (F)) _ ⟨k+1,15,⟨gj _,aa,aa,rfl⟩,rfl,bp,.refl _⟩ ?_;rintro _ _ _ ⟨j,fu,⟨hj1,hj2,hfu,zO⟩,rfl,hs,hp⟩;refine aU hs hp ?_;clear hs hp;refine bL ?_;refine aj (fun mA=>?_) fun mA=>?_
 ·obtain⟨f',rfl⟩:∃f',fu=f'+1:=⟨fu-1,aa⟩
  have hff:=Ns (l:=l) (k:=j) aa aa;have hmm:=Ir (l:=l) (k:=j) aa aa;have Va:=wV l j;have Cb:2^(j-k)≤2^15:=kZ aa aa;have hp2:x*2^(j-k)≤32768*2^15:=gN aa Cb;have hfc:ov l j≤39321600:=by
   unfold ov;split
   ·omega
   ·exact uV hl aa
  obtain⟨y,hy⟩:=cN (x*2^(j-k));obtain⟨w,hw⟩:=cN (2^(j-k));refine bL ?_;refine ab (bm underlying60 underlying3 rfl (r:=(x:Int)) (bE aa aa)) rfl ?_;refine bF ?_;refine ab (ga rfl rfl aa (r:=(y:Int)) (by rw[hy];exact O3 (d:=j-k) aa aa aa)) rfl ?_;refine bQ ?_;refine b7 (aM (i:=j) underlying344 ag rfl rfl rfl aa) rfl ?_;refine b7 (bM (v:=ah ((num l j:Nat):Int)) ag rfl zP aou) rfl ?_;refine be ?_;refine jR rfl rfl rfl (fun qx=>?_) (fun qx=>?_)
  ·refine bA ?_;refine b7 (aM (i:=j) underlying344 ag rfl rfl rfl aa) rfl ?_;refine aF ?_;refine b7 (bM (v:=ah ((ov l j:Nat):Int)) ag rfl zP aoB) rfl ?_;refine bQ ?_;refine b7 (aM (i:=j) underlying344 ag rfl rfl rfl aa) rfl ?_;refine aF ?_;refine b7 (bM (v:=ah ((num l j:Nat):Int)) ag rfl zP aou) rfl ?_;refine bz ?_;refine jR rfl rfl rfl (fun h45=>?_) (fun h45=>?_)
   ·refine bJ ?_;refine b7 (ga rfl rfl aa (r:=(w:Int)) (by have:=O3 (x:=1) (d:=j-k) (e:=(j:Int)-k) aa aa aa;rw[rh]at this;rw[hw];exact this)) rfl ?_;refine cY ?_;refine b7 (aM (i:=j) underlying344 ag rfl rfl rfl aa) rfl ?_;refine aF ?_;refine b7 (bM (v:=ah ((ov l j:Nat):Int)) ag rfl zP aoB) rfl ?_;refine bF ?_;refine na [(0,_),(1,_),(2,_),(7,_),(59,_)] ⟨rfl,rfl,rfl,rfl,rfl,trivial⟩ ?_;refine aF ?_;refine aj (fun h59=>?_) fun h59=>?_
    ·rw[acr aa ⟨aa,by rw[←hy];omega,(by rw[←hy,←hw];omega)⟩]at zO;rw[←zO];refine cJ ?_;exact⟨rfl,rfl⟩
    ·refine bJ ?_;refine av ⟨_,aa,j+1,f',⟨aa,aa,aa,akW⟩,rfl,bp,.refl _⟩
   ·refine de ?_;refine na [(0,_),(1,_),(2,_),(7,_),(59,_)] ⟨rfl,rfl,rfl,rfl,rfl,trivial⟩ ?_;refine bA ?_;refine av ⟨_,aa,j+1,f',⟨aa,aa,aa,akW⟩,rfl,bp,.refl _⟩
  ·refine arR ?_;refine na [(0,_),(1,_),(2,_),(7,_),(59,_)] ⟨rfl,rfl,rfl,rfl,rfl,trivial⟩ ?_;refine bA ?_;refine av ⟨_,aa,j+1,f',⟨aa,aa,aa,akW⟩,rfl,bp,.refl _⟩
 ·rw[acq aa]at zO;rw[←zO];refine cJ ?_;exact⟨rfl,rfl⟩
theorem adf(xX:xd B w0 F g l){s:Nat}(hs:s<l.length)(hl:l.length≤300):
  a_ B w0 288 [br g,ah s] F (fun r L=>r=ah ((l.getD s 0).toNat:Int)∧L=F):=by
 obtain⟨A1,c1,A2,c2,SY,hm,p9,oH,hsy,Ly⟩:=xX;obtain⟨f,zP⟩:=mC.pC hm;have hbv:(bv l)[s*1]? =some (.int .u8 ((l.getD s 0).toNat:Int)):=by rw[cE];simp[bv,List.getD,fm hs]
 have hu:=(l.getD s 0).toNat_lt;refine fw func288 24 [0,1] ?_;refine bJ ?_;refine bW 11 15 [0,1] (False) ?_ ?_
 ·refine bF ?_;refine aL rfl rfl rfl (fun h7=>?_) (fun h7=>?_)
  ·refine bJ ?_;refine ab (bM ag rfl zP rfl) rfl ?_;refine bG ?_;exact aQ (by exact dN (by first|(exact⟨fun h=>absurd h (by omega),False.elim⟩)|omega|(simp;done)))
  ·refine bL ?_;exact aQ akV
 ·refine be ?_;refine dm fun jG=>?_;refine bL ?_;refine ab (bM ag rfl zP rfl) rfl ?_;refine be ?_;refine ab (au ag rfl p9 aa hbv) rfl ?_;refine ab (bm underlying5 underlying3 rfl (r:=((l.getD s 0).toNat:Int)) (bE aa aa)) rfl ?_;refine bG ?_;exact⟨rfl,rfl⟩
theorem acJ(xX:xd B w0 F g l){s:Nat}(hs:s<l.length)(hl:l.length≤300):
  a_ B w0 249 [br g,ah s] F (fun r L=>r=ah ((l.getD s 0).toNat:Int)∧L=F):=by
 refine fw func249 12 [0,1] ?_;refine Ke ?_;refine ai rfl (adf xX hs hl) ?_;refine bG ?_;exact⟨rfl,rfl⟩
theorem Ry(hg:Good l)(xX:xd B w0 F g l){s:Nat}(hs:s<l.length)(h0:(l.getD s 0).toNat≠0)(hq:q.length≤7000000):
  a_ B w0 205 [br g,br g2,ah s] (Wx X g2 bt A c q F) (fun r L=>r=ah 0∧∃A' c',L=Wx X g2 bt A' c' (q++hw l s) F):=by
 have hl:=hg.1.1;obtain⟨A1,c1,A2,c2,SY,hm,p9,oH,hsy,Ly⟩:=xX.co;obtain⟨f,zP⟩:=mC.pC hm;have hcv:=MC hg hs h0;have asT:=hg.1.2 _ (bg hs 0);have It:=QG hg hs h0;have mJ:=yB hs rfl;have PZ:=qQ hg (k:=(l.getD s 0).toNat) aa asT;have hcc:(ints .u16 (gd l))[s*1]? =some (.int .u16 ((place l (l.getD s 0).toNat s:Nat):Int)):=by
  rw[cE,←hcv,←wC l hs];simp[ints,List.getD,fm (show s<(gd l).length by simpa using hs)]
 refine fw func205 33 [0,1,2] ?_;refine alE ?_;refine ai rfl (acJ xX.cons.cons hs hl) ?_;refine bz ?_;refine dm fun jF=>?_;refine b8 ?_;refine cF F ?_;refine ae 0 ?_;refine ae 1 ?_;refine ae 2 ?_;refine ae 3 ?_;refine ae 4 ?_;refine aW 5 rfl (bM ag rfl zP rfl) ?_;refine ae 6 ?_;refine ae 7 ?_;refine aW 8 rfl (au ag rfl oH aa hcc) ?_;refine aW 9 rfl (bm underlying57 underlying60 rfl (r:=((place l (l.getD s 0).toNat s:Nat):Int)) (f_ aa aa)) ?_;refine ae 10 ?_;refine ae 11 ?_;refine az 12 ?_;refine iW rfl rfl (acJ xX.cons.cons hs hl) ?_;refine az 13 ?_;refine gA rfl .no Dm rfl (Bf q (place l (l.getD s 0).toNat s) aa (l.getD s 0).toNat aa aa hq) rfl (by rintro _ _ ⟨rfl,LM,Mr,rfl⟩;exact gF) ?_;rintro _ _ ⟨rfl,LM,Mr,cA⟩;obtain rfl:=cA.symm;refine ae 14 ?_;refine cQ [6] ?_;refine bF ?_;exact⟨rfl,LM,Mr,rfl⟩
end
section
variable{l:al}
theorem Yr{p m f k s:Nat}(hk:k≤m)(h:nv l (part q p k) k=some s):nw l q p m (f+1) k=some (s,k):=by
 rw[nw,aw aa,h]
theorem acD{p m f k:Nat}(hk:k≤m)(h:nv l (part q p k) k=none):nw l q p m (f+1) k=nw l q p m f (k+1):=by
 rw[nw,aw aa,h]
theorem Yq{p m f k:Nat}(hk:m<k):nw l q p m f k=none:=by
 cases f with
 |zero=>rfl
 |succ f=>rw[nw,ao hk]
theorem acF{p s k:Nat}(h:nw l q p (there q p) 15 1=some (s,k)):fz l q p=((s:Int),0,p+k):=by
 unfold fz;rw[h]
theorem ahs{p:Nat}(h:nw l q p (there q p) 15 1=none):fz l q p=(-1,if there q p<15∧acp l (part q p (there q p)) (there q p)=true then 1 else 7,p):=by
 unfold fz;rw[h]
theorem OG(q:List Bool)(p:Nat){k:Nat}(hk:k≤15){e:Int}(he:e=((15-k:Nat):Int)):((part q p 15:Nat):Int).fdiv (2^min e.toNat IntKind.u64.bits)=((part q p k:Nat):Int):=by
 have:=Fm (part q p 15) (x:=e) (e:=15-k) he aa;rw[this];have h2:=pD q p k (15-k);rw[show k+(15-k)=15 by omega]at h2;rw[h2]
theorem alU(xX:xd B w0 F g l)(hl:l.length≤300){p:Nat}(hp:p≤q.length)(hq:q.length≤8000000):
  a_ B w0 347 [br g,br g2] (Rr g2 A c q p F) (fun r L=>r= .tuple #[ah (fz l q p).1,ah (fz l q p).2.1]∧L=Rr g2 A c q (fz l q p).2.2 F):=by
 have hth:there q p≤15∧p+there q p≤q.length:=by unfold there;omega
 have hpn:pkN q p 15=(there q p:Int):=by unfold pkN there;rw[aw aa];omega
 have hpv:pkV q p 15=part q p 15:=by unfold pkV;rw[aw aa];rfl
 have mJ:∀k,k≤15→part q p k<32768:=fun k hk=>vU (qj q p k) (kZ (n:=2) aa hk);have y_:=amZ (B:=B) (w0:=w0) (F:=F) (A:=A) (c:=c) (g:=g2) q p hp hq 15 aa aa;rw[hpn,hpv]at y_;refine fw func347 49 [0,1] ?_;refine zH ?_;refine ai rfl (y_) ?_;refine dQ ?_;refine aE (fun zf zL zm=>∃(k fu:Nat),(1≤k∧k≤16∧16≤k+fu∧nw l q p (there q p) fu k=nw l q p (there q p) 15 1)∧16-k=zm∧Sub zf [(0,br g),(1,br g2),(6,.int .u64 (part q p 15)),(7,ah (there q p)),(8,ah k)]∧Wk zL (Rr g2 A c q p F)) _ ⟨1,15,⟨gj _,aa,aa,rfl⟩,rfl,bp,.refl _⟩ ?_;rintro _ _ _ ⟨k,fu,⟨xk,Ip,hfu,wH⟩,rfl,hs,hp⟩;refine aU hs hp ?_;clear hs hp;refine bJ ?_;refine aj (fun iY=>?_) fun iY=>?_
 ·obtain⟨f',rfl⟩:∃f',fu=f'+1:=⟨fu-1,aa⟩
  have aqo:=mJ k aa;refine bA ?_;refine ab (dj rfl rfl aa (OG q p (k:=k) aa aa)) rfl ?_;refine aF ?_;refine ai rfl (als (k:=k) (x:=part q p k) xX.cons.cons hl xk aa aa) ?_;refine cJ ?_;refine gD (fun h33=>?_) fun h33=>?_
  ·obtain⟨s,hs⟩:=Option.isSome_iff_exists.1 h33;rw[Yr aa hs]at wH;rw[acF wH.symm,hs];have LC:skP q p (k:Int)=p+k:=by unfold skP;rw[aw aa,aw aa];omega
   refine b8 ?_;refine ai rfl (ank q p hp hq k aa aa) ?_;rw[LC];refine ve [9] ?_;refine jy ?_;exact⟨rfl,rfl⟩
  ·refine bL ?_;refine ve [0,1,6,7,8] ?_;refine av ⟨_,aa,k+1,f',⟨aa,aa,aa,by rw[←wH,acD aa (by simpa using h33)]⟩,rfl,bp,.refl _⟩
 ·rw[Yq aa]at wH;rw[ahs wH.symm];have aqo:=mJ (there q p) hth.1;refine bJ ?_;refine bW 11 48 [] (there q p<15∧acp l (part q p (there q p)) (there q p)=true) ?_ ?_
  ·refine bF ?_;refine cP (fun h40=>?_) fun h40=>?_
   ·refine bJ ?_;refine ab (dj rfl rfl aa (OG q p hth.1 aa)) rfl ?_;refine bF ?_;refine ai rfl (aa0 xX.cons.cons hl hth.1 aqo) ?_;refine aF ?_;exact aQ (by exact qK aog)
   ·refine bL ?_;exact aQ an_
  ·refine be ?_;refine aj (fun Q_=>?_) fun Q_=>?_
   ·rw[ao Q_];refine bQ ?_;exact⟨rfl,rfl⟩
   ·rw[aw Q_];refine bA ?_;exact⟨rfl,rfl⟩
end
section
variable{l:al}
theorem aov{P:Prop}(h:P:=by(rw[←hma];exact alP (h_ _ _) (iv _ _) (by omega))):P:=h
theorem aoq{P:Prop}(h:P:=by(show 34+k<_;rw[Rh (h_ _ _) (iv _ _) Yi];omega)):P:=h
theorem aot{P:Prop}(h:P:=by(rw[aiT (e':=(A69,c69,ji l s k++[s])) U8 (by simp)])):P:=h
theorem EP{s k:Nat}(hs:s<l.length):num (l.take (s+1)) k=num (l.take s) k+if (l.getD s 0).toNat=k then 1 else 0:=jQ k hs
theorem Yp{s:Nat}(hs:s<l.length)(h:(l.getD s 0).toNat=0):qX l (s+1)=qX l s:=by
 unfold qX;refine r9 fun k _=>?_;by_cases e:k=0
 ·simp[e]
 ·rw[EP hs,aw (show¬(l.getD s 0).toNat=k by omega),ta]
theorem Rt{s:Nat}(hs:s<l.length)(h:(l.getD s 0).toNat=0):mi l (s+1)=mi l s:=by
 unfold mi;refine r9 fun k _=>?_;by_cases e:k=0
 ·simp[e]
 ·rw[EP hs,aw (show¬(l.getD s 0).toNat=k by omega),ta]
theorem RD{s:Nat}(h:(l.getD s 0).toNat=0):ml l (s+1)=ml l s:=by
 unfold ml;refine r9 fun k _=>?_;by_cases e:k=0
 ·simp[e]
 ·rw[aw e,aw e,m_,aw aa,gk]
theorem Yo{s k:Nat}(hs:s<l.length)(h:(l.getD s 0).toNat=k)(h2:num (l.take s) k≠0):qX l (s+1)=qX l s:=by
 unfold qX;refine r9 fun j _=>?_;rw[EP hs];by_cases e:(l.getD s 0).toNat=j
 ·have:j=k:=by omega
  subst this;simp[h2]
 ·rw[aw e];rfl
theorem acC{s k:Nat}(hs:s<l.length)(h:(l.getD s 0).toNat=k)(h0:k≠0)(h2:num (l.take s) k=0):(qX l s).set k (fst l k:Int)=qX l (s+1):=by
 apply pV
 ·simp
 ·intro i h3 h4;rw[N6];simp only[qX,Ev,GX,EP hs];by_cases e:k=i
  ·subst e;rw[ao rfl,aw];rintro(e|e)
   ·exact h0 e
   ·rw[ao h]at e;omega
  ·rw[aw e,aw (show¬(l.getD s 0).toNat=i by omega)];rfl
theorem Yu{s k:Nat}(hs:s<l.length)(h:(l.getD s 0).toNat=k)(h0:k≠0):(mi l s).set k ((num (l.take s) k+1:Nat):Int)=mi l (s+1):=by
 apply pV
 ·simp
 ·intro i h3 h4;rw[N6];simp only[mi,Ev,GX,EP hs];by_cases e:k=i
  ·subst e;rw[ao rfl,aw h0,ao h]
  ·rw[aw e,aw (show¬(l.getD s 0).toNat=i by omega)];rfl
theorem acL{s k:Nat}(h:1≤k)(h2:k≤15):(mi l s).getD k 0=(num (l.take s) k:Int):=by
 have h3:¬k=0:=by omega
 simp only[mi,bk,jr,x' (show k<16 by omega),sK,vB,aw h3]
theorem Yw{s k:Nat}(h:(l.getD s 0).toNat=k)(h0:k≠0):(ml l s).set k (ji l s k++[s])=ml l (s+1):=by
 apply pV
 ·simp
 ·intro i h3 h4;rw[N6];simp only[ml,Ev,GX];by_cases e:k=i
  ·subst e;rw[ao rfl,aw h0,m_,ao h]
  ·rw[aw e];by_cases e2:i=0
   ·rw[ao e2,ao e2]
   ·rw[aw e2,aw e2,m_,aw aa,gk]
theorem hzero(l:al):qX l 0=List.replicate 16 0∧mi l 0=List.replicate 16 0∧ml l 0=List.replicate 16 []:=by
 refine⟨?_,?_,?_⟩
 ·simp[qX,num];decide
 ·simp[mi,num];decide
 ·simp[ml,ji];decide
theorem aeS{SY:List rG}{s k:Nat}(h:SY.map (·.2.2)=ml l s)(h1:1≤k)(h2:k≤15):∃(X:List rG) (A:bj) (c:Nat) (Y:List rG),SY=X++(A,c,ji l s k)::Y∧X.length=k:=by
 have hl:SY.length=16:=by have:=ek List.length h;simpa using this
 have hi:k<SY.length:=by omega
 have e:(SY.map (·.2.2))[k]? =some (ji l s k):=by
  rw[h];simp[ml,show k<16 by omega,show¬k=0 by omega]
 rw[jr,fm hi]at e;simp only[sK,Et]at e;refine⟨SY.take k,SY[k].1,SY[k].2.1,SY.drop (k+1),?_,np⟩
 conv=>lhs;rw[←jK k SY,N4 hi]
 rw[←e]
theorem ant(X:List rG)(e e':rG)(Y:List rG):((X++e::Y).map jM).set X.length (jM e')=(X++e'::Y).map jM:=by simp
theorem WB{X Y:List rG}{A A':bj}{c c' s k:Nat}(h:(X++(A,c,ji l s k)::Y).map (·.2.2)=ml l s)(hX:X.length=k)(hk:(l.getD s 0).toNat=k)(h0:k≠0):(X++(A',c',ji l s k++[s])::Y).map (·.2.2)=ml l (s+1):=by
 rw[←Yw hk h0,←h,←hX];simp
theorem aiT{X:List rG}{e e':rG}{Y:List rG}{k:Nat}{v:Value}(h:X.length=k)(hv:v=jM e'):((X++e::Y).map jM).set k v=(X++e'::Y).map jM:=by
 subst h;subst hv;exact ant X e e' Y
theorem Fh(X:List rG)(e:rG)(Y:List rG)(R:aP):((X++e::Y).map jL++R).Perm (jL e::(X.map jL++(Y.map jL++R))):=by
 rw[jb,kA,bV];exact yg
theorem BX{C:Cx}{cd:Code}{Q:Exit→Fr→aP→Prop}{fr:Fr}{L:aP}(e:TypeId):∀(m:Nat),VC C cd Q fr (List.replicate m (.own e 1 none 0 0 [])++L)→VC C cd Q fr L
 |0,h=>h
 |m+1,h=>BX e m (aZ e 1 none h)
theorem adB(hb:eM B w0 F A c l)(hg:Good l):a_ B w0 248 [.slice A l.length c] F (fun r L=>∃g X,r= .tuple #[br g,ah 0]∧L=X++F∧xd B w0 X g l):=by
 have hl:=hg.1.1;refine fw func248 75 [0] ?_;refine bQ ?_;refine ay rfl (agT l aB hg) fun tz xg=>?_;refine dQ ?_;refine dm fun jG=>?_;refine bG ?_;refine ay rfl (l_ l aB aa) fun sX uO=>?_;refine aF ?_;refine ab (eG [(0,_),(1,_)] [_,_] rfl rfl ag) rfl ?_;refine ab (bw [(0,_)] [.slice none 0 0,.slice none 0 0,ah 0,ah 0,ah 0,ah 0,ah 0,ah 0,ah 0,ah 0,ah 0,ah 0,ah 0,ah 0,ah 0,ah 0,ah 0,ah 0,ah 0,ah 0,ah 0,ah 0,ah 0,ah 0,ah 0,ah 0,ah 0,ah 0,ah 0,ah 0,ah 0,ah 0,ah 0,ah 0,.slice none 0 0,.slice none 0 0,.slice none 0 0,.slice none 0 0,.slice none 0 0,.slice none 0 0,.slice none 0 0,.slice none 0 0,.slice none 0 0,.slice none 0 0,.slice none 0 0,.slice none 0 0,.slice none 0 0,.slice none 0 0,.slice none 0 0,.slice none 0 0] [0] [_,_,_,_,_,_,_,_,_,_,_,_,_,_,_,_,_,_,_,_,_,_,_,_,_,_,_,_,_,_,_,_,_,_,_,_,_,_,_,_,_,_,_,_,_,_,_,_,_,_] rfl rfl ag) rfl ?_;refine bh fun g22=>?_;refine bG ?_;refine BX 3 16 ?_;refine b8 ?_;refine ve [4,6,23,24,25] ?_;refine be ?_;refine aE (fun zf zL zm=>∃(s:Nat) (SY:List rG),(s≤l.length∧SY.map (·.2.2)=ml l s)∧l.length-s=zm∧Sub zf [(4,.slice tz l.length xg),(6,br g22),(23,.slice A l.length c),(24,ah l.length),(25,ah s)]∧Wk zL (.bD g22 347 (kx (.slice sX l.length uO) (.slice tz l.length xg) (qX l s) (mi l s) (SY.map jM))::(SY.map jL++(.own 5 1 sX l.length uO (bv l):: .own 57 1 tz l.length xg (ints .u16 (gd l))::F)))) _ ⟨0,List.replicate 16 (none,0,[]),⟨bT _,by rw[(hzero l).2.2];rfl⟩,rfl,bp,.trans (.dD yg) (bq (by rw[(hzero l).1,(hzero l).2.1];rfl) (.refl _))⟩ ?_;rintro _ _ _ ⟨s,SY,⟨hs,hSY⟩,rfl,hs,hp⟩;refine aU hs hp ?_;clear hs hp;refine bz ?_;refine aj (fun qU=>?_) fun qU=>?_
 ·obtain⟨k,hk⟩:=cN ((l.getD s 0).toNat);have Yt:k≤15:=by rw[hk];exact hg.1.2 _ (bg aa 0)
  have hbv:(bv l)[s*1]? =some (.int .u8 (k:Int)):=by rw[hk,cE];simp[bv,List.getD,fm (show s<l.length by omega)]
  have Va:=uv l s k;have atU:=wV l k;have hbS:aJ B w0 (SY.map jL++(.own 5 1 sX l.length uO (bv l):: .own 57 1 tz l.length xg (ints .u16 (gd l))::F)) 1 (.slice A l.length c) l.length (bv l):=hb.cons.cons.mono (gy _ _);have hbC:aJ B w0 (SY.map jL++(.own 5 1 sX l.length uO (bv l):: .own 57 1 tz l.length xg (ints .u16 (gd l))::F)) 1 (.slice tz l.length xg) l.length (ints .u16 (gd l)):=aJ.own (ny _ (.tail _ (.head _)));have Yi:(SY.map jM).length=16:=by have:=ek List.length hSY;simpa using this
  refine bL ?_;refine ab (aC (i:=s) underlying27 ag rfl rfl rfl aa hbS.cons) rfl ?_;refine ab (au ag rfl hbS.cons aa hbv) rfl ?_;refine cY ?_;refine aj (fun D5=>?_) fun D5=>?_
  ·have CB:(l.getD s 0).toNat=0:=by omega
   refine bJ ?_;refine av ⟨_,aa,s+1,SY,⟨aa,by rw[RD CB];exact hSY⟩,rfl,bp,bq (by rw[Yp aa CB,Rt aa CB]) (.refl _)⟩
  ·have xk:1≤k:=by omega
   have hma:=acL (l:=l) (s:=s) xk Yt;refine be ?_;refine d_ (fun zf zL=>Sub zf [(4,.slice tz l.length xg),(6,br g22),(7,ah s),(8,.int .u8 (k:Int)),(23,.slice A l.length c),(24,ah l.length),(25,ah s)]∧Wk zL (.bD g22 347 (kx (.slice sX l.length uO) (.slice tz l.length xg) (qX l (s+1)) (mi l s) (SY.map jM))::(SY.map jL++(.own 5 1 sX l.length uO (bv l):: .own 57 1 tz l.length xg (ints .u16 (gd l))::F)))) ?_ ?_
   ·refine bz ?_;refine ab (aM (i:=k) underlying344 ag rfl rfl rfl aa) rfl ?_;refine ab (bM (v:=ah ((num (l.take s) k:Nat):Int)) ag rfl aV aov) rfl ?_;refine bF ?_;refine aj (fun Cz=>?_) fun Cz=>?_
    ·have hn0:num (l.take s) k=0:=by omega
     have hcv:=MC hg (s:=s) aa aa;rw[←hk]at hcv;have mJ:place l k s=fst l k:=by unfold place;omega
     rw[mJ]at hcv;have hfb:=qQ hg xk Yt;have atX:2^k≤2^15:=kZ aa Yt;have hcc:(ints .u16 (gd l))[s*1]? =some (.int .u16 ((fst l k:Nat):Int)):=by
      rw[cE,←hcv,←wC l aa];simp[ints,List.getD,fm (show s<(gd l).length by rw[Gu];omega)]
     refine cF (SY.map jL++(.own 5 1 sX l.length uO (bv l):: .own 57 1 tz l.length xg (ints .u16 (gd l))::F)) ?_;refine ae 0 ?_;refine ae 1 ?_;refine ae 2 ?_;refine ae 3 ?_;refine aW 4 rfl (aC (i:=s) underlying159 ag rfl rfl rfl aa hbC) ?_;refine aW 5 rfl (au ag rfl hbC aa hcc) ?_;refine aW 6 rfl (bm underlying57 underlying3 rfl (r:=((fst l k:Nat):Int)) (bE aa aa)) ?_;refine ae 7 ?_;refine ae 8 ?_;refine aW 9 rfl (aM (i:=k) underlying344 ag rfl rfl rfl aa) ?_;refine az 10 ?_;refine kN rfl .no (oC ag rfl rfl rfl aV (by show 2+k<_;rw[Rh (h_ _ _) (iv _ _) Yi];omega)) Gr ?_;rintro _ _ rfl;refine cQ [4,6,7,8,23,24,25] ?_;exact bC ⟨bp,bq ((ahp (i:=k) (h_ l s) aa _).trans (by rw[acC aa hk.symm aa hn0])) (.refl _)⟩
    ·refine aF ?_;exact bC ⟨bp,bq (by rw[Yo aa hk.symm aa]) (.refl _)⟩
   ·rintro _ _ ⟨hs,hp⟩;refine aU hs hp ?_;clear hs hp;refine aF ?_;refine cF (SY.map jL++(.own 5 1 sX l.length uO (bv l):: .own 57 1 tz l.length xg (ints .u16 (gd l))::F)) ?_;refine ae 0 ?_;refine ae 1 ?_;refine ae 2 ?_;refine ae 3 ?_;refine aW 4 rfl (aM (i:=k) underlying344 ag rfl rfl rfl aa) ?_;refine ae 7 ?_;refine ae 8 ?_;refine az 5 ?_;refine iL rfl .no (bM (v:=ah ((num (l.take s) k:Nat):Int)) ag rfl aV aov) rfl gF ?_;refine aW 6 rfl (bY rfl rfl (r:=((num (l.take s) k+1:Nat):Int)) ((bE aa aa).trans aa)) ?_;refine aW 9 rfl (aM (i:=k) underlying344 ag rfl rfl rfl aa) ?_;refine az 10 ?_;refine kN rfl .no (oC ag rfl rfl rfl aV (by show 18+k<_;rw[Rh (h_ _ _) (iv _ _) Yi];omega)) Gr ?_;rintro _ _ rfl;refine be ?_;obtain⟨X,Ae,ce,Y,hXY,U8⟩:=aeS hSY xk Yt;subst hXY;have at4:=vi l k s aa;refine wg (L':=.bD g22 347 (kx (.slice sX l.length uO) (.slice tz l.length xg) (qX l (s+1)) (mi l (s+1)) ((X++(Ae,ce,ji l s k)::Y).map jM)):: .own 3 1 Ae (ji l s k).length ce (bx (ji l s k))::(X.map jL++(Y.map jL++(.own 5 1 sX l.length uO (bv l):: .own 57 1 tz l.length xg (ints .u16 (gd l))::F)))) (.trans (bq ((ahq (i:=k) (h_ l (s+1)) (iv l s) aa _).trans (by rw[Yu aa hk.symm aa])) (.refl _)) (.dD ((Fh X _ Y _).cons _))) ?_;refine cF (X.map jL++(Y.map jL++(.own 5 1 sX l.length uO (bv l):: .own 57 1 tz l.length xg (ints .u16 (gd l))::F))) ?_;refine ae 0 ?_;refine ae 1 ?_;refine ae 2 ?_;refine ae 3 ?_;refine ae 4 ?_;refine ae 5 ?_;refine aW 6 rfl (aM (i:=k) underlying345 ag rfl rfl rfl aa) ?_;refine ae 8 ?_;refine ae 11 ?_;refine ae 12 ?_;refine gV 7 9 ?_ ?_
    ·refine iL rfl .no (bM (v:=.slice Ae (ji l s k).length ce) ag rfl aV ((alQ (i:=k) (h_ _ _) (iv _ _)).trans (by simp[←U8]))) rfl gF ?_;refine az 9 ?_;refine cR rfl (aG fJ [_] rfl rfl cw aa aa) fun A68=>?_;refine az 10 ?_;refine eV rfl (bS fJ rfl aV rfl aB cw aa aa) fun A69 c69=>?_;refine aW 13 rfl (aM (i:=k) underlying345 ag rfl rfl rfl aa) ?_;refine az 14 ?_;refine kN rfl .no (oC ag rfl rfl rfl aV aoq) Gr ?_;rintro _ _ rfl;refine cQ [4,6,23,24,25] ?_;refine bz ?_;refine av ⟨_,aa,s+1,X++(A69,c69,ji l s k++[s])::Y,⟨aa,WB hSY U8 hk.symm aa⟩,rfl,bp,.trans ((gl (gl (.skip (.refl _))))) (.trans (bq ((U9 (i:=k) (h_ l (s+1)) (iv l (s+1)) _).trans aot) (ax ak sD (.refl _))) (.dD ((Fh X (A69,c69,ji l s k++[s]) Y _).symm.cons _)))⟩
    ·refine cR rfl (aG fJ [_] rfl rfl cw aa aa) fun A68=>?_;refine az 7 ?_;refine iL rfl .no (bM (v:=.slice Ae (ji l s k).length ce) ag rfl aV ((alQ (i:=k) (h_ _ _) (iv _ _)).trans (by simp[←U8]))) rfl gF ?_;refine az 10 ?_;refine eV rfl (bS fJ rfl aV rfl aB cw aa aa) fun A69 c69=>?_;refine aW 13 rfl (aM (i:=k) underlying345 ag rfl rfl rfl aa) ?_;refine az 14 ?_;refine kN rfl .no (oC ag rfl rfl rfl aV aoq) Gr ?_;rintro _ _ rfl;refine cQ [4,6,23,24,25] ?_;refine bz ?_;refine av ⟨_,aa,s+1,X++(A69,c69,ji l s k++[s])::Y,⟨aa,WB hSY U8 hk.symm aa⟩,rfl,bp,.trans ((gl (gl (.skip (.refl _))))) (.trans (bq ((U9 (i:=k) (h_ l (s+1)) (iv l (s+1)) _).trans aot) (ax ak sD (.refl _))) (.dD ((Fh X (A69,c69,ji l s k++[s]) Y _).symm.cons _)))⟩
 ·obtain rfl:s=l.length:=by omega
  refine de ?_;refine aq (L':=(.bD g22 347 (kx (.slice sX l.length uO) (.slice tz l.length xg) (qX l l.length) (mi l l.length) (SY.map jM))::(SY.map jL++[.own 5 1 sX l.length uO (bv l),.own 57 1 tz l.length xg (ints .u16 (gd l))]))++F) (.dD ak) ?_;refine aF ?_;exact⟨g22,_,rfl,rfl,⟨sX,uO,tz,xg,SY,.head _,aJ.own (.tail _ (ny _ (.head _))),aJ.own (.tail _ (ny _ (.tail _ (.head _)))),hSY,fun e he=>aJ.own (.tail _ (j8 _ (jc (f:=jL) he)))⟩⟩
end
end Go.Proofs.YtaodmbolhoafcaaGreatDoor
