/-
  Texts of one proof, joined: part 9. No condition.
-/
import Derived.Test.YtaodmbolhoafcaaGreatDoorZr8
open Go.RowKit Go.Proofs.Tryz
namespace Go.Proofs.YtaodmbolhoafcaaGreatDoor
set_option linter.unusedVariables false
set_option linter.unusedSimpArgs false
set_option maxRecDepth 20000
variable{B:Nat}{w0:World}{F:aR}{A Ao:bj}{n c co g N:Nat}{o:Nat→Nat}{D l:bc}{A1 A2:bj}{c1 c2:Nat}{L:aR}{g2:Nat}{q:List Bool}{X:cV}{bt:TypeId}
section
theorem agD{P:Prop}(h:P:=by(rw[uJ,←ha,YR (by omega)])):P:=h
def QU(a b:Nat):Int:=if a<b then-1 else if b<a then 1 else 0
theorem l_{a b:Nat}:QU a b<0↔a<b:=by
 unfold QU;split
 ·omega
 ·split<;>omega
theorem akw(a:Nat):a_ B w0 336 [.int .u32 (a:Int)] F (fun r L=>r= .bool false∧L=F):=by
 refine fw func336 6 [0] ?_;refine i_ ?_;exact⟨ak,rfl⟩
theorem aoQ(a b:Nat)(ha:a<4294967296)(hb:b<4294967296):a_ B w0 316 [.int .u32 (a:Int),.int .u32 (b:Int)] F (fun r L=>r=ah (QU a b)∧L=F):=by
 refine fw func316 20 [0,1] ?_;refine bM ?_;refine ai rfl (akw a) ?_;refine bB ?_;refine ai rfl (akw b) ?_;refine bP ?_;refine h_ (fun pq=>?_) fun pq=>?_
 ·exfalso;(simp at pq)
 ·refine bM ?_;refine h_ (fun nh=>?_) fun nh=>?_
  ·exfalso;(simp at nh)
  ·refine bz ?_;refine aj (fun kH=>?_) fun kH=>?_
   ·refine bM ?_;unfold QU;exact⟨by rw[aq aa],rfl⟩
   ·refine bz ?_;refine aj (fun sL=>?_) fun sL=>?_
    ·refine bH ?_;refine ve [4] ?_;refine b8 ?_;unfold QU;exact⟨by rw[aw aa,aq aa],rfl⟩
    ·refine bI ?_;refine ve [4] ?_;refine bH ?_;unfold QU;exact⟨by rw[aw aa,aw aa],rfl⟩
abbrev Sf(A:bj)(n c:Nat)(D:bc)(g:Nat)(Ao:bj)(N co:Nat)(F:aR):aR:=.own 3 1 A n c (bx D):: .bE g 213 [.slice Ao N co]::F
theorem FN{l:bc}{k:Nat}(h:k<l.length):(ints .u32 (l.map fun(n:Nat)=>(n:Int)))[k*1]? =some (.int .u32 ((l.getD k 0:Nat):Int)):=by
 rw[cE];simp[ints,List.getD,fo h]
structure Hk(B:Nat)(w0:World)(F:aR)(Ao:bj)(co:Nat)(l:bc):Prop where
 zk:aL B w0 F 1 (.slice Ao l.length co) l.length (ints .u32 (l.map fun(n:Nat)=>(n:Int)))
 lt:∀k,l.getD k 0<4294967296
variable{l:bc}
abbrev oN(l:bc)(k:Nat):Nat:=l.getD k 0
theorem KC(H:Hk B w0 F Ao co l){x y:Nat}(hx:x<l.length)(hy:y<l.length):
  a_ B w0 315 [ah x,ah y,bq g] (Sf A n c D g Ao l.length co F) (fun r L=>r=ah (QU (oN l x) (oN l y))∧L=Sf A n c D g Ao l.length co F):=by
 have hbo:aL B w0 (Sf A n c D g Ao l.length co F) 1 (.slice Ao l.length co) l.length (ints .u32 (l.map fun(n:Nat)=>(n:Int))):=H.zk.cons.cons;refine fw func315 15 [0,1,2] ?_;refine bz ?_;refine bU (au ag rfl hbo aa (FN hx)) rfl ?_;refine bH ?_;refine bU (au ag rfl hbo aa (FN hy)) rfl ?_;refine jE apn rfl (aoQ (oN l x) (oN l y) (H.lt x) (H.lt y)) wA rfl ?_;refine bI ?_;exact⟨rfl,rfl⟩
def mB(P S:bc)(x:Nat)(Q:bc)(j:Nat):bc:=P++(S.take j++x::(S.drop j++Q))
theorem R4{P S Q:bc}{x k:Nat}(h:S.length=k):mB P S x Q k=P++(S++(x::Q)):=by
 unfold mB;rw[fD aa,mj aa];rfl
theorem Eg(P S:bc)(x:Nat)(Q:bc){j:Nat}(h:j≤S.length):(mB P S x Q j).length=P.length+S.length+1+Q.length:=by
 simp[mB];omega
theorem ahW{P S Q:bc}{x j i:Nat}(h:j≤S.length)(hi:i=P.length+j):(mB P S x Q j).getD i 0=x:=by
 have:=tO (P++S.take j) x (S.drop j++Q);rw[aX,eV,zd h,←hi]at this;unfold mB;simpa using this
theorem YQ{P S Q:bc}{x j i:Nat}(h:j+1≤S.length)(hi:i=P.length+j):(mB P S x Q (j+1)).getD i 0=S.getD j 0:=by
 have:=tO (P++S.take j) (S.getD j 0) (x::(S.drop (j+1)++Q));rw[aX,eV,zd aa,←hi]at this;unfold mB;rw[aZ aa 0];simpa using this
theorem YR{P S Q:bc}{x j:Nat}(h:j+1≤S.length):Z4 (mB P S x Q (j+1)) (P.length+(j+1)) (P.length+j)=mB P S x Q j:=by
 have:=anF (P++S.take j) (S.getD j 0) [] x (S.drop (j+1)++Q) (i:=P.length+j) (j:=P.length+(j+1)) (by rw[aX,eV];omega) (by rw[aX,eV,sb];omega);unfold mB;rw[aZ aa 0,dw (l:=S) (k:=j) aa 0];simpa using this
theorem NR{o:Nat→Nat}{P R Q:bc}{x k j:Nat}(hr:Ri R)(hk:k<R.length)(hx:x=R.getD k 0)(hj:j≤k)(h1:∀i,j=i+1→¬o x<o ((cW o (R.take k)).getD i 0))(h2:∀y∈(cW o (R.take k)).drop j,o x<o y):
  mB P (cW o (R.take k)) x Q j=P++(cW o (R.take (k+1))++Q):=by
 have tZ:R.take (k+1)=R.take k++[x]:=by rw[hx];exact aZ hk 0
 have vZ:Ri (R.take k++[x]):=tZ▸hr.sublist (Ky _ _);have hn:(R.take k).Nodup:=(hr.sublist (Ky k R)).imp fun h=>by omega
 have hl:(cW o (R.take k)).length=k:=by rw[gX,eV];omega
 have:=amw (o:=o) (k:=j) vZ (fun y hy=>by
  cases j with
  |zero=>simp at hy
  |succ i=>
   refine WI (lx o hn) aa ?_ y hy;have hm:(cW o (R.take k)).getD i 0∈R.take k:=fW.1 (bh aa 0);have fP:(cW o (R.take k)).getD i 0<x:=(sW.1 vZ).2.2 _ hm x ak;have:=h1 i rfl;unfold tB;omega) (fun y hy=>.inl (h2 y hy))
 unfold mB;rw[tZ,←this];simp[bV]
theorem ahX{o:Nat→Nat}{P R Q:bc}:P++(cW o (R.take 1)++(R.drop 1++Q))=P++(R++Q):=by
 cases R with
 |nil=>rfl
 |cons x r=>rfl
theorem gd{L:bc}{i v:Nat}(h:i<L.length)(e:L.getD i 0=v):(bx L)[i*1]? =some (ah ((v:Nat):Int)):=by
 rw[fE h,e]
theorem uJ{D:bc}{i j:Nat}:((bx D).set (i*1) (ah ((D.getD j 0:Nat):Int))).set (j*1) (ah ((D.getD i 0:Nat):Int))=bx (Z4 D i j):=by
 simp[bx,Z4,Kx]
theorem Ta{a b n nn:Nat}{fv:Value}(Qj:D.length=nn)(ha:a+n≤nn)(hb:b+n≤nn)(hD:nn≤1000000)(hn:0<n):
  a_ B w0 355 [.slice A nn c,ah a,ah b,ah n,fv] (.own 3 1 A nn c (bx D)::F) (fun r L=>r= .tuple #[]∧L= .own 3 1 A nn c (bx (Z5 D a b n))::F):=by
 subst Qj;refine cB func355 38 rfl rfl rfl [(0,.slice A D.length c),(1,ah a),(2,ah b),(3,ah n),(4,fv)] ⟨⟨rfl,rfl⟩,⟨rfl,rfl⟩,⟨rfl,rfl⟩,⟨rfl,rfl⟩,⟨rfl,rfl⟩,trivial⟩ ?_;refine bB ?_;refine aD (fun zf zL zm=>∃(i:Nat),(i≤n)∧n-i=zm∧Sub zf [(0,.slice A D.length c),(1,ah a),(2,ah b),(3,ah n),(10,ah i)]∧Wk zL (.own 3 1 A D.length c (bx (Z5 D a b i))::F)) _ ⟨0,bS _,rfl,bm,.refl _⟩ ?_;rintro _ _ _ ⟨i,hi,rfl,hs,hp⟩;refine aU hs hp ?_;clear hs hp;refine bM ?_;refine aj (fun nh=>?_) fun nh=>?_
 ·have nP:=WL D a b i;refine b8 ?_;refine kG (A:=A) (n:=D.length) (xs:=bx (Z5 D a b i)) (.head _) aa ?_;intro ad hA;subst hA;refine cC F ?_;refine ab 0 ?_;refine ab 1 ?_;refine ab 2 ?_;refine ab 3 ?_;refine ab 4 ?_;refine ab 5 ?_;refine ab 6 ?_;refine ab 7 ?_;refine ab 8 ?_;refine ab 9 ?_;refine ab 10 ?_;refine ab 11 ?_;refine aW 12 rfl (aP (size:=1) (i:=b+i) underlying53 ag rfl rfl aa aa) ?_;refine ab 14 ?_;refine ab 15 ?_;refine ab 16 ?_;refine ab 17 ?_;refine aW 18 rfl (aP (size:=1) (i:=a+i) underlying53 ag rfl rfl aa aa) ?_;refine gU 13 19 ?_ ?_
  ·refine iM rfl .no (au ag rfl aB aa (fE aa)) rfl gF ?_;refine az 19 ?_;refine iM rfl .no (au ag rfl aB aa (fE aa)) rfl gF ?_;refine aW 20 rfl (aP (size:=1) (i:=a+i) underlying53 ag rfl rfl aa aa) ?_;refine az 21 ?_;refine aE ?_;refine aW 22 rfl (aP (size:=1) (i:=b+i) underlying53 ag rfl rfl aa aa) ?_;refine az 23 ?_;refine aE ?_;refine cP [0,1,2,3,10] ?_;refine bD ?_;refine av ⟨_,aa,i+1,aa,rfl,bm,ax rfl uJ (.refl _)⟩
  ·refine iM rfl .no (au ag rfl aB aa (fE aa)) rfl gF ?_;refine az 13 ?_;refine iM rfl .no (au ag rfl aB aa (fE aa)) rfl gF ?_;refine aW 20 rfl (aP (size:=1) (i:=a+i) underlying53 ag rfl rfl aa aa) ?_;refine az 21 ?_;refine aE ?_;refine aW 22 rfl (aP (size:=1) (i:=b+i) underlying53 ag rfl rfl aa aa) ?_;refine az 23 ?_;refine aE ?_;refine cP [0,1,2,3,10] ?_;refine bD ?_;refine av ⟨_,aa,i+1,aa,rfl,bm,ax rfl uJ (.refl _)⟩
 ·obtain rfl:i=n:=by omega
  refine bB ?_;exact⟨rfl,rfl⟩
theorem NS(H:Hk B w0 F Ao co l){P R Q:bc}{a b:Nat}(ha:P.length=a)(hb:a+R.length=b)(hn:b+Q.length=n)(tW:n≤1000000)(hr:Ri R)(hN:∀x∈R,x<l.length):
  a_ B w0 344 [.slice A n c,ah a,ah b,.func (.func 315) #[] #[bq g]] (Sf A n c (P++(R++Q)) g Ao l.length co F)
   (fun r L=>r= .tuple #[]∧L=Sf A n c (P++(cW (oN l) R++Q)) g Ao l.length co F):=by
 refine fw func344 53 [0,1,2,3] ?_;refine bM ?_;refine aD (fun zf zL zm=>∃(k:Nat),(1≤k∧k≤max 1 R.length)∧R.length-k=zm∧Sub zf [(0,.slice A n c),(1,ah a),(2,ah b),(3,.func (.func 315) #[] #[bq g]),(8,ah (a+k:Nat))]∧Wk zL (Sf A n c (P++(cW (oN l) (R.take k)++(R.drop k++Q))) g Ao l.length co F)) _ ⟨1,⟨gj _,aa⟩,rfl,bm,ax rfl (by rw[ahX]) (.refl _)⟩ ?_;rintro _ _ _ ⟨k,⟨xo,Iw⟩,rfl,hs,hp⟩;refine aU hs hp ?_;clear hs hp;refine bM ?_;refine aj (fun jC=>?_) fun jC=>?_
 ·have zQ:k<R.length:=by omega
  obtain⟨x,hxe⟩:=cR (R.getD k 0);have hx:x<l.length:=by rw[hxe];exact hN _ (bh zQ 0)
  have hdk:R.drop k=x::R.drop (k+1):=by rw[hxe];exact dw zQ 0
  obtain⟨S,hS⟩:=cR (cW (oN l) (R.take k));have Cc:(R.take k).length=k:=by rw[eV];omega
  have Yv:S.length=k:=by rw[hS,gX,Cc]
  have hSN:∀y∈S,y<l.length:=fun y hy=>hN y (lW (fW.1 (hS▸hy)));refine dm ?_;refine aD (fun zf zL zm=>∃(j:Nat),(j≤k∧∀y∈S.drop j,oN l x<oN l y)∧j=zm∧Sub zf [(0,.slice A n c),(1,ah a),(2,ah b),(3,.func (.func 315) #[] #[bq g]),(8,ah (a+k:Nat)),(9,ah (a+j:Nat))]∧Wk zL (Sf A n c (mB P S x (R.drop (k+1)++Q) j) g Ao l.length co F)) _ ⟨k,⟨gj _,by rw[mj aa];exact fun y h=>jY⟩,rfl,bm,ax rfl (by rw[R4 Yv,hdk,hS];rfl) (.refl _)⟩ ?_;rintro _ _ _ ⟨j,⟨hj,hjy⟩,rfl,hs,hp⟩;refine aU hs hp ?_;clear hs hp;refine be ?_;refine cC _ ?_;refine ab 0 ?_;refine ab 1 ?_;refine ab 2 ?_;refine ab 3 ?_;refine af5 21 rfl (fun lV=>?_) (fun lV=>?_)
  ·obtain⟨i,rfl⟩:∃i,j=i+1:=⟨j-1,aa⟩
   have YF:=Eg P S x (R.drop (k+1)++Q) (j:=i+1) aa;rw[aX,iN]at YF;have hyl:S.getD i 0<l.length:=hSN _ (bh aa 0);refine jm 4 rfl ag ag ag rfl rfl (dV rfl) rfl ?_;refine jm 5 rfl ag ag ag rfl rfl (dV rfl) rfl ?_;refine jm 6 rfl ag ag ag rfl rfl (dV rfl) rfl ?_;refine jm 7 rfl ag ag ag rfl rfl (aG (i:=a+(i+1)) underlying53 ag rfl rfl aa aa aB) rfl ?_;refine jm 8 rfl ag ag ag rfl rfl (au ag rfl aB aa (gd (v:=x) aa (ahW aa aa))) rfl ?_;refine jm 9 rfl ag ag ag rfl rfl (dV rfl) rfl ?_;refine jm 10 rfl ag ag ag rfl rfl (dV rfl) rfl ?_;refine jm 11 rfl ag ag ag rfl rfl (dQ rfl rfl (bG aa aa)) rfl ?_;refine jm 12 rfl ag ag ag rfl rfl (aG (i:=a+i) underlying53 ag rfl rfl aa aa aB) rfl ?_;refine jm 13 rfl ag ag ag rfl rfl (au ag rfl aB aa (gd (v:=S.getD i 0) aa (YQ aa aa))) rfl ?_;refine az 14 ?_;refine pM rfl (.yes rfl rfl) UE rfl rfl (KC H hx hyl) rfl QG ?_;rintro _ _ ⟨rfl,cJ⟩;obtain rfl:=cJ.symm;refine jm 15 rfl ag ag ag rfl rfl (xP rfl rfl) rfl ?_;refine ab 16 ?_;refine be ?_;refine aj (fun GM=>?_) fun GM=>?_
   ·refine b8 ?_;refine kG (A:=A) (n:=n) (xs:=bx (mB P S x (R.drop (k+1)++Q) (i+1))) (.head _) aa ?_;intro ad hA;subst hA;refine cC (.bE g 213 [.slice Ao l.length co]::F) ?_;refine ab 0 ?_;refine ab 1 ?_;refine ab 2 ?_;refine ab 3 ?_;refine ab 4 ?_;refine ab 5 ?_;refine ab 6 ?_;refine ab 7 ?_;refine aW 8 rfl (aP (size:=1) (i:=a+i) underlying53 ag rfl rfl aa aa) ?_;refine ab 10 ?_;refine ab 11 ?_;refine aW 12 rfl (aP (size:=1) (i:=a+(i+1)) underlying53 ag rfl rfl aa aa) ?_;refine gU 9 13 ?_ ?_
    ·refine iM rfl .no (au ag rfl aB aa (fE aa)) rfl gF ?_;refine az 13 ?_;refine iM rfl .no (au ag rfl aB aa (fE aa)) rfl gF ?_;refine aW 14 rfl (aP (size:=1) (i:=a+(i+1)) underlying53 ag rfl rfl aa aa) ?_;refine az 15 ?_;refine aE ?_;refine aW 16 rfl (aP (size:=1) (i:=a+i) underlying53 ag rfl rfl aa aa) ?_;refine az 17 ?_;refine aE ?_;refine cP [0,1,2,3,8,9] ?_;refine bD ?_;refine av ⟨_,aa,i,⟨aa,fun y hy=>by
      rw[dw (l:=S) aa 0]at hy;rcases fm.1 hy with e|e
      ·rw[e];exact l_.1 GM
      ·exact hjy y e⟩,rfl,bm,ax rfl agD (.refl _)⟩
    ·refine iM rfl .no (au ag rfl aB aa (fE aa)) rfl gF ?_;refine az 9 ?_;refine iM rfl .no (au ag rfl aB aa (fE aa)) rfl gF ?_;refine aW 14 rfl (aP (size:=1) (i:=a+(i+1)) underlying53 ag rfl rfl aa aa) ?_;refine az 15 ?_;refine aE ?_;refine aW 16 rfl (aP (size:=1) (i:=a+i) underlying53 ag rfl rfl aa aa) ?_;refine az 17 ?_;refine aE ?_;refine cP [0,1,2,3,8,9] ?_;refine bD ?_;refine av ⟨_,aa,i,⟨aa,fun y hy=>by
      rw[dw (l:=S) aa 0]at hy;rcases fm.1 hy with e|e
      ·rw[e];exact l_.1 GM
      ·exact hjy y e⟩,rfl,bm,ax rfl agD (.refl _)⟩
   ·refine bz ?_;refine ve [0,1,2,3,8] ?_;refine av ⟨_,aa,k+1,⟨aa,aa⟩,rfl,bm,ax rfl (by rw[hS,NR (o:=oN l) hr zQ hxe aa (fun q hq=>by injection hq with hq;rw[←hq,←hS];exact fun h=>GM (l_.2 h)) (by rw[←hS];exact hjy)]) (.refl _)⟩
  ·refine iB 4 rfl ag ag ag rfl rfl rfl rfl ?_;refine iB 5 rfl ag ag ag rfl rfl rfl rfl ?_;refine iB 6 rfl ag ag ag rfl rfl rfl rfl ?_;refine iB 7 rfl ag ag ag rfl rfl rfl rfl ?_;refine iB 8 rfl ag ag ag rfl rfl rfl rfl ?_;refine iB 9 rfl ag ag ag rfl rfl rfl rfl ?_;refine iB 10 rfl ag ag ag rfl rfl rfl rfl ?_;refine iB 11 rfl ag ag ag rfl rfl rfl rfl ?_;refine iB 12 rfl ag ag ag rfl rfl rfl rfl ?_;refine iB 13 rfl ag ag ag rfl rfl rfl rfl ?_;refine iB 14 rfl ag ag ag rfl rfl rfl rfl ?_;refine iB 15 rfl ag ag ag rfl rfl rfl rfl ?_;refine ab 16 ?_;refine c_ ?_;refine ve [0,1,2,3,8] ?_;refine av ⟨_,aa,k+1,⟨aa,aa⟩,rfl,bm,ax rfl (by rw[hS,NR (o:=oN l) hr zQ hxe aa (fun q hq=>aa) (by rw[←hS];exact hjy)]) (.refl _)⟩
 ·rw[fD aa,mj aa];refine bB ?_;exact⟨rfl,rfl⟩
end
theorem atl{P X Y Q:bc}(h:Y.length<X.length):Z5 (P++(X++(Y++Q))) P.length (P.length+X.length) Y.length=(P++Y)++(X.drop Y.length++(X.take Y.length++Q)):=by
 have hl:(X.take Y.length).length=Y.length:=by rw[eV];omega
 have:=K9 P (X.take Y.length) (X.drop Y.length) Y Q (a:=P.length) (b:=P.length+X.length) (n:=Y.length) rfl (by rw[hl,iN];omega) hl hl.symm;rw[←bV (X.take Y.length),jO]at this;rw[this,bV]
theorem atm{P X Y Q:bc}(h:X.length<Y.length):Z5 (P++(X++(Y++Q))) P.length (P.length+Y.length) X.length=P++(Y.drop (Y.length-X.length)++(Y.take (Y.length-X.length)++(X++Q))):=by
 have hl:(Y.drop (Y.length-X.length)).length=X.length:=by rw[iN];omega
 have:=K9 P X (Y.take (Y.length-X.length)) (Y.drop (Y.length-X.length)) Q (a:=P.length) (b:=P.length+Y.length) (n:=X.length) rfl nt hl.symm rfl;rw[←bV (Y.take (Y.length-X.length)),jO]at this;rw[this]
theorem atn{P X Y Q:bc}(h:X.length=Y.length):Z5 (P++(X++(Y++Q))) P.length (P.length+X.length) X.length=P++(Y++(X++Q)):=
 K9 P X [] Y Q rfl ak h rfl
theorem aeB{P X Y Q:bc}{a m b:Nat}{fv:Value}(ha:P.length=a)(hm:a+X.length=m)(hb:m+Y.length=b)(hn:b+Q.length=n)(tW:n≤1000000)(hX:0<X.length)(hY:0<Y.length):
  a_ B w0 349 [.slice A n c,ah a,ah m,ah b,fv] (.own 3 1 A n c (bx (P++(X++(Y++Q))))::F)
   (fun r L=>r= .tuple #[]∧L= .own 3 1 A n c (bx (P++(Y++(X++Q))))::F):=by
 refine fw func349 58 [0,1,2,3,4] ?_;refine tQ ?_;refine aD (fun zf zL zm=>∃(P' X' Y' Q':bc),(P'.length+X'.length=m∧m+Y'.length+Q'.length=n∧0<X'.length∧0<Y'.length∧P'++(Y'++(X'++Q'))=P++(Y++(X++Q)))∧X'.length+Y'.length=zm∧Sub zf [(0,.slice A n c),(2,ah m),(4,fv),(10,ah X'.length),(11,ah Y'.length)]∧Wk zL (.own 3 1 A n c (bx (P'++(X'++(Y'++Q'))))::F)) _ ⟨P,X,Y,Q,⟨aa,aa,hX,hY,rfl⟩,rfl,bm,.refl _⟩ ?_;rintro _ _ _ ⟨P',X',Y',Q',⟨h1,h2,h3,h4,h5⟩,rfl,hs,hp⟩;refine aU hs hp ?_;clear hs hp;refine bM ?_;refine aj (fun ja=>?_) fun ja=>?_
 ·refine bz ?_;refine aj (fun oO=>?_) fun oO=>?_
  ·have hr:=atl (P:=P') (X:=X') (Y:=Y') (Q:=Q') aa;rw[h1]at hr;have hd1:(X'.drop Y'.length).length=X'.length-Y'.length:=iN;have Yz:(X'.take Y'.length).length=Y'.length:=by rw[eV];omega
   have hd3:(P'++Y').length=P'.length+Y'.length:=aX;refine bI ?_;refine ae (dQ rfl rfl ((bG aa aa).trans (show _=((P'.length:Nat):Int) by omega))) rfl ?_;refine bH ?_;refine ai rfl (Ta (a:=P'.length) (b:=m) (n:=Y'.length) bO aa aa tW h4) ?_;refine bD ?_;refine ve [0,2,4,10,11] ?_;refine aE ?_;refine av ⟨_,aa,P'++Y',X'.drop Y'.length,X'.take Y'.length,Q',⟨aa,aa,aa,aa,by rw[←h5,bV,←bV (X'.take Y'.length),jO]⟩,rfl,bm,ax rfl (by rw[hr]) (.refl _)⟩
  ·have hr:=atm (P:=P') (X:=X') (Y:=Y') (Q:=Q') aa;have hd1:(Y'.drop (Y'.length-X'.length)).length=X'.length:=by rw[iN];omega
   have Yz:(Y'.take (Y'.length-X'.length)).length=Y'.length-X'.length:=by rw[eV];omega
   have hd3:(X'++Q').length=X'.length+Q'.length:=aX;refine bI ?_;refine ae (dQ rfl rfl ((bG aa aa).trans (show _=((P'.length:Nat):Int) by omega))) rfl ?_;refine b8 ?_;refine ae (dQ rfl rfl ((bG aa aa).trans (show _=((P'.length+Y'.length:Nat):Int) by omega))) rfl ?_;refine be ?_;refine ai rfl (Ta (a:=P'.length) (b:=P'.length+Y'.length) (n:=X'.length) bO aa aa tW h3) ?_;refine ve [0,2,4,10,11] ?_;refine bM ?_;refine av ⟨_,aa,P',Y'.drop (Y'.length-X'.length),Y'.take (Y'.length-X'.length),X'++Q',⟨aa,aa,aa,aa,by rw[←h5,←bV (Y'.take (Y'.length-X'.length)),jO]⟩,rfl,bm,ax rfl (by rw[hr]) (.refl _)⟩
 ·have hr:=atn (P:=P') (X:=X') (Y:=Y') (Q:=Q') aa;rw[h1]at hr;refine bP ?_;refine ae (dQ rfl rfl ((bG aa aa).trans (show _=((P'.length:Nat):Int) by omega))) rfl ?_;refine bH ?_;refine ai rfl (Ta (a:=P'.length) (b:=m) (n:=X'.length) bO aa aa tW h3) ?_;refine bH ?_;rw[hr,h5];exact⟨rfl,rfl⟩
section
set_option maxHeartbeats 1000000
theorem Vy{P S Q:bc}{x j:Nat}(h:j+1≤S.length):Z4 (mB P S x Q j) (P.length+j) (P.length+(j+1))=mB P S x Q (j+1):=by
 have:=S_ (P++S.take j) x [] (S.getD j 0) (S.drop (j+1)++Q) (i:=P.length+j) (j:=P.length+(j+1)) (by rw[aX,eV];omega) (by rw[aX,eV,sb];omega);unfold mB;rw[aZ aa 0,dw (l:=S) (k:=j) aa 0];simpa using this
theorem oK{P S Q:bc}{i k:Nat}(h:k<S.length)(hi:i=P.length+k):(P++(S++Q)).getD i 0=S.getD k 0:=by
 have:=tO (P++S.take k) (S.getD k 0) (S.drop (k+1)++Q);rw[aX,eV,zd aa,←hi]at this;have e:S=S.take k++(S.getD k 0::S.drop (k+1)):=by rw[←dw h 0,jO]
 conv=>lhs;rw[e]
 simpa using this
structure Mg(l P U V Q:bc)(a m b n:Nat):Prop where
 ha:P.length=a
 hm:a+U.length=m
 hb:m+V.length=b
 hn:b+Q.length=n
 tW:n≤1000000
 hU:0<U.length
 hV:0<V.length
 sU:tx (oN l) U
 sV:tx (oN l) V
 lt:∀u∈U,∀v∈V,u<v
 nd:(U++V).Nodup
 N:∀x∈U++V,x<l.length
theorem OI{S:bc}(hs:tx o S){k w:Nat}(hk:k<S.length)(h:o (S.getD k 0)<w):∀y∈S.take (k+1),o y<w:=fun y hy=>by
 obtain⟨i,hi,rfl⟩:=j8 hy;rw[eV]at hi;rw[Ep];rw[bk,fo hk,vG]at h;by_cases e:i=k
 ·subst e;exact h
 ·have:=rk.1 hs i k aa hk aa;unfold tB at this;omega
theorem OH{S:bc}(hs:tx o S){k w:Nat}(hk:k<S.length)(h:w≤o (S.getD k 0)):∀y∈S.drop k,w≤o y:=fun y hy=>by
 obtain⟨i,hi,rfl⟩:=j8 hy;rw[iN]at hi;rw[List.getElem_drop];rw[bk,fo hk,vG]at h;by_cases e:i=0
 ·subst e;exact h
 ·have:=rk.1 hs k (k+i) hk aa aa;unfold tB at this;omega
theorem ID{P S Q T:bc}{x i:Nat}(hs:tx o S)(hn:T.Nodup)(hT:∀y,y∈T↔y=x∨y∈S)(h1:∀y∈S.take i,tB o y x)(h2:∀y∈S.drop i,tB o x y):mB P S x Q i=P++(cW o T++Q):=by
 have:S.take i++x::S.drop i=cW o T:=by
  refine tx.pI (adi hs h1 h2) hn fun y=>?_;rw[hT,dy,fm];have e:y∈S↔y∈S.take i∨y∈S.drop i:=by
   conv=>lhs;rw[←jO i S]
   exact dy
  rw[e];constructor
  ·rintro(h|h|h)
   ·exact .inr (.inl h)
   ·exact .inl h
   ·exact .inr (.inr h)
  ·rintro(h|h|h)
   ·exact .inr (.inl h)
   ·exact .inl h
   ·exact .inr (.inr h)
 unfold mB;rw[←this];simp[bV]
abbrev P9(g:Nat):Value:=.func (.func 315) #[] #[bq g]
def L5(l P U V Q:bc)(A:bj)(n c g:Nat)(Ao:bj)(co:Nat)(F:aR)(r:Value)(L:aR):Prop:=r= .tuple #[]∧L=Sf A n c (P++(cW (oN l) (U++V)++Q)) g Ao l.length co F
theorem aq'(H:Hk B w0 F Ao co l){P U V Q:bc}{a m b:Nat}(M:Mg l P U V Q a m b n)(h1:U.length=1):
  a_ B w0 345 [.slice A n c,ah a,ah m,ah b,P9 g] (Sf A n c (P++(U++(V++Q))) g Ao l.length co F) (L5 l P U V Q A n c g Ao co F):=by
 unfold L5;obtain⟨ha,hm,hb,hn,tW,hU,hV,sU,sV,lt,nd,hN⟩:=M;obtain⟨u,rfl⟩:∃u,U=[u]:=by
  match U,h1 with
  |[u],_=>exact⟨u,rfl⟩
 have zc:u<l.length:=hN u ak;have hD0:(P++([u]++(V++Q))).length=n:=by simp;omega
 have hgu:(P++([u]++(V++Q))).getD a 0=u:=oK (S:=[u]) (k:=0) ak aa;refine fw func345 220 [0,1,2,3,4] ?_;refine bP ?_;refine aj (fun q9=>?_) fun q9=>?_
 ·refine dX ?_;refine aD (fun zf zL zm=>∃(i j:Nat),(i≤j∧j≤V.length∧(∀y∈V.take i,oN l y<oN l u)∧(∀y∈V.drop j,oN l u≤oN l y))∧j-i=zm∧Sub zf [(0,.slice A n c),(1,ah a),(4,P9 g),(10,ah (m+i:Nat)),(11,ah (m+j:Nat))]∧Wk zL (Sf A n c (P++([u]++(V++Q))) g Ao l.length co F)) _ ⟨0,V.length,⟨bS _,gj _,ak,by rw[BJ];simp⟩,rfl,bm,.refl _⟩ ?_;rintro _ _ _ ⟨i,j,⟨Iv,hj,Qi,hhi⟩,rfl,hs,hp⟩;refine aU hs hp ?_;clear hs hp;refine bM ?_;refine aj (fun h33=>?_) fun h33=>?_
  ·obtain⟨h,hh⟩:∃h,m+h=(m+i+(m+j))/2:=⟨(m+i+(m+j))/2-m,aa⟩
   have Vm:h<V.length:=by omega
   have YL:V.getD h 0<l.length:=hN _ (nB _ (bh Vm 0));refine bD ?_;refine ae (bY rfl rfl (r:=((m+i+(m+j):Nat):Int)) ((bG aa aa).trans aa)) rfl ?_;refine aE ?_;refine ae (di rfl rfl aa (Kj (m+i+(m+j)))) rfl ?_;refine ae (bw underlying192 underlying3 rfl (r:=((m+h:Nat):Int)) ((bG aa aa).trans aa)) rfl ?_;refine b8 ?_;refine cC _ ?_;refine ab 0 ?_;refine ab 1 ?_;refine ab 2 ?_;refine aW 3 rfl (aG (i:=m+h) underlying53 ag rfl rfl aa aa aB) ?_;refine aW 4 rfl (au ag rfl aB aa (gd (v:=V.getD h 0) aa (by rw[←bV];exact oK Vm bO))) ?_;refine ab 5 ?_;refine ab 6 ?_;refine ab 7 ?_;refine aW 8 rfl (au ag rfl aB aa (gd (v:=u) aa hgu)) ?_;refine az 9 ?_;refine pM rfl .no UE rfl rfl (KC H YL zc) rfl QG ?_;rintro _ _ ⟨rfl,cJ⟩;obtain rfl:=cJ.symm;refine ab 10 ?_;refine cP [0,1,4,10,11,12,50] ?_;refine aE ?_;refine aj (fun Iq=>?_) fun Iq=>?_
   ·refine bB ?_;refine av ⟨_,aa,h+1,j,⟨aa,hj,OI sV Vm (l_.1 Iq),hhi⟩,rfl,bm,.refl _⟩
   ·refine bI ?_;refine av ⟨_,aa,i,h,⟨aa,aa,Qi,OH sV Vm (yh fun k=>Iq (l_.2 k))⟩,rfl,bm,.refl _⟩
  ·obtain rfl:i=j:=by omega
   have tV:mB P V u Q i=P++(cW (oN l) ([u]++V)++Q):=ID sV nd (fun y=>ak) (fun y hy=>.inl (Qi y hy)) (fun y hy=>by
    have:=hhi y hy;have:=lt u ak y (rl hy);unfold tB;omega)
   refine c_ ?_;refine aD (fun zf zL zm=>∃(d:Nat),(d≤i)∧i-d=zm∧Sub zf [(0,.slice A n c),(10,ah (m+i:Nat)),(13,ah (a+d:Nat))]∧Wk zL (Sf A n c (mB P V u Q d) g Ao l.length co F)) _ ⟨0,bS _,rfl,bm,ax rfl (by simp[mB]) (.refl _)⟩ ?_;rintro _ _ _ ⟨d,hd,rfl,hs,hp⟩;refine aU hs hp ?_;clear hs hp;refine bP ?_;refine aj (fun h58=>?_) fun h58=>?_
   ·have hdl:=Eg P V u Q (j:=d) aa;simp only[qg]at hm;refine b8 ?_;refine kG (A:=A) (n:=n) (xs:=bx (mB P V u Q d)) (.head _) aa ?_;intro ad hA;subst hA;refine cC (.bE g 213 [.slice Ao l.length co]::F) ?_;refine ab 0 ?_;refine ab 1 ?_;refine ab 2 ?_;refine ab 3 ?_;refine ab 4 ?_;refine ab 5 ?_;refine ab 6 ?_;refine ab 7 ?_;refine aW 8 rfl (aP (size:=1) (i:=a+(d+1)) underlying53 ag rfl rfl aa aa) ?_;refine ab 10 ?_;refine ab 11 ?_;refine aW 12 rfl (aP (size:=1) (i:=a+d) underlying53 ag rfl rfl aa aa) ?_;refine gU 9 13 ?_ ?_
    ·refine iM rfl .no (au ag rfl aB aa (fE aa)) rfl gF ?_;refine az 13 ?_;refine iM rfl .no (au ag rfl aB aa (fE aa)) rfl gF ?_;refine aW 14 rfl (aP (size:=1) (i:=a+d) underlying53 ag rfl rfl aa aa) ?_;refine az 15 ?_;refine aE ?_;refine aW 16 rfl (aP (size:=1) (i:=a+(d+1)) underlying53 ag rfl rfl aa aa) ?_;refine az 17 ?_;refine aE ?_;refine cP [0,10,13] ?_;refine bD ?_;refine av ⟨_,aa,d+1,aa,rfl,bm,ax rfl (by rw[uJ,←ha,Vy aa]) (.refl _)⟩
    ·refine iM rfl .no (au ag rfl aB aa (fE aa)) rfl gF ?_;refine az 9 ?_;refine iM rfl .no (au ag rfl aB aa (fE aa)) rfl gF ?_;refine aW 14 rfl (aP (size:=1) (i:=a+d) underlying53 ag rfl rfl aa aa) ?_;refine az 15 ?_;refine aE ?_;refine aW 16 rfl (aP (size:=1) (i:=a+(d+1)) underlying53 ag rfl rfl aa aa) ?_;refine az 17 ?_;refine aE ?_;refine cP [0,10,13] ?_;refine bD ?_;refine av ⟨_,aa,d+1,aa,rfl,bm,ax rfl (by rw[uJ,←ha,Vy aa]) (.refl _)⟩
   ·simp only[qg]at hm;obtain rfl:d=i:=by omega
    refine bM ?_;exact⟨rfl,by rw[tV]⟩
 ·exfalso;(simp only[qg]at hm;omega)
theorem ara(H:Hk B w0 F Ao co l){P U V Q:bc}{a m b:Nat}(M:Mg l P U V Q a m b n)(h0:U.length≠1)(h1:V.length=1):
  a_ B w0 345 [.slice A n c,ah a,ah m,ah b,P9 g] (Sf A n c (P++(U++(V++Q))) g Ao l.length co F) (L5 l P U V Q A n c g Ao co F):=by
 unfold L5;obtain⟨ha,hm,hb,hn,tW,hU,hV,sU,sV,lt,nd,hN⟩:=M;obtain⟨v,rfl⟩:∃v,V=[v]:=by
  match V,h1 with
  |[v],_=>exact⟨v,rfl⟩
 have YL:v<l.length:=hN v ak;have hD0:(P++(U++([v]++Q))).length=n:=by simp only[aX];omega
 have hgv:(P++(U++([v]++Q))).getD m 0=v:=by rw[←bV];exact oK (S:=[v]) (k:=0) ak bO
 simp only[qg]at hb;refine fw func345 220 [0,1,2,3,4] ?_;refine bP ?_;refine dj fun q9=>?_;refine dm ?_;refine zJ fun Kh=>?_;refine dX ?_;refine aD (fun zf zL zm=>∃(i j:Nat),(i≤j∧j≤U.length∧(∀y∈U.take i,oN l y≤oN l v)∧(∀y∈U.drop j,oN l v<oN l y))∧j-i=zm∧Sub zf [(0,.slice A n c),(2,ah m),(4,P9 g),(14,ah (a+i:Nat)),(15,ah (a+j:Nat))]∧Wk zL (Sf A n c (P++(U++([v]++Q))) g Ao l.length co F)) _ ⟨0,U.length,⟨bS _,gj _,ak,by rw[BJ];simp⟩,rfl,bm,.refl _⟩ ?_;rintro _ _ _ ⟨i,j,⟨Iv,hj,Qi,hhi⟩,rfl,hs,hp⟩;refine aU hs hp ?_;clear hs hp;refine bM ?_;refine aj (fun h85=>?_) fun h85=>?_
 ·obtain⟨h,hh⟩:∃h,a+h=(a+i+(a+j))/2:=⟨(a+i+(a+j))/2-a,aa⟩
  have Vm:h<U.length:=by omega
  have zc:U.getD h 0<l.length:=hN _ (j_ _ (bh Vm 0));refine bD ?_;refine ae (bY rfl rfl (r:=((a+i+(a+j):Nat):Int)) ((bG aa aa).trans aa)) rfl ?_;refine aE ?_;refine ae (di rfl rfl aa (Kj (a+i+(a+j)))) rfl ?_;refine ae (bw underlying192 underlying3 rfl (r:=((a+h:Nat):Int)) ((bG aa aa).trans aa)) rfl ?_;refine b8 ?_;refine cC _ ?_;refine ab 0 ?_;refine ab 1 ?_;refine ab 2 ?_;refine ab 3 ?_;refine aW 4 rfl (au ag rfl aB aa (gd (v:=v) aa hgv)) ?_;refine ab 5 ?_;refine ab 6 ?_;refine aW 7 rfl (aG (i:=a+h) underlying53 ag rfl rfl aa aa aB) ?_;refine aW 8 rfl (au ag rfl aB aa (gd (v:=U.getD h 0) aa (oK Vm aa))) ?_;refine az 9 ?_;refine pM rfl .no UE rfl rfl (KC H YL zc) rfl QG ?_;rintro _ _ ⟨rfl,cJ⟩;obtain rfl:=cJ.symm;refine ab 10 ?_;refine ab 11 ?_;refine cP [0,2,4,14,15,16,103] ?_;refine aE ?_;refine aj (fun al0=>?_) fun al0=>?_
  ·refine bB ?_;refine av ⟨_,aa,h+1,j,⟨aa,hj,fun y hy=>Nat.le_of_lt_succ (OI sU Vm (Nat.lt_succ_of_le (yh fun k=>al0 (l_.2 k))) y hy),hhi⟩,rfl,bm,.refl _⟩
  ·refine bI ?_;refine av ⟨_,aa,i,h,⟨aa,aa,Qi,fun y hy=>OH sU Vm (l_.1 (j0.1 al0)) y hy⟩,rfl,bm,.refl _⟩
 ·obtain rfl:i=j:=by omega
  have tV:mB P U v Q i=P++(cW (oN l) (U++[v])++Q):=ID sU nd (fun y=>by simp[or_comm]) (fun y hy=>by
   have:=Qi y hy;have:=lt y (lW hy) v ak;unfold tB;omega) (fun y hy=>.inl (hhi y hy))
  refine c_ ?_;refine aD (fun zf zL zm=>∃(d:Nat),(i≤d∧d≤U.length)∧d=zm∧Sub zf [(0,.slice A n c),(14,ah (a+i:Nat)),(17,ah (a+d:Nat))]∧Wk zL (Sf A n c (mB P U v Q d) g Ao l.length co F)) _ ⟨U.length,⟨hj,gj _⟩,rfl,bm,ax rfl (by simp[mB]) (.refl _)⟩ ?_;rintro _ _ _ ⟨d,⟨hd1,Yz⟩,rfl,hs,hp⟩;refine aU hs hp ?_;clear hs hp;refine bM ?_;refine aj (fun arY=>?_) fun arY=>?_
  ·obtain⟨d,rfl⟩:∃d',d=d'+1:=⟨d-1,aa⟩
   have hdl:=Eg P U v Q (j:=d+1) aa;refine b8 ?_;refine kG (A:=A) (n:=n) (xs:=bx (mB P U v Q (d+1))) (.head _) aa ?_;intro ad hA;subst hA;refine cC (.bE g 213 [.slice Ao l.length co]::F) ?_;refine ab 0 ?_;refine ab 1 ?_;refine ab 2 ?_;refine ab 3 ?_;refine ab 4 ?_;refine ab 5 ?_;refine ab 6 ?_;refine ab 7 ?_;refine aW 8 rfl (aP (size:=1) (i:=a+d) underlying53 ag rfl rfl aa aa) ?_;refine ab 10 ?_;refine ab 11 ?_;refine aW 12 rfl (aP (size:=1) (i:=a+(d+1)) underlying53 ag rfl rfl aa aa) ?_;refine gU 9 13 ?_ ?_
   ·refine iM rfl .no (au ag rfl aB aa (fE aa)) rfl gF ?_;refine az 13 ?_;refine iM rfl .no (au ag rfl aB aa (fE aa)) rfl gF ?_;refine aW 14 rfl (aP (size:=1) (i:=a+(d+1)) underlying53 ag rfl rfl aa aa) ?_;refine az 15 ?_;refine aE ?_;refine aW 16 rfl (aP (size:=1) (i:=a+d) underlying53 ag rfl rfl aa aa) ?_;refine az 17 ?_;refine aE ?_;refine cP [0,14,17] ?_;refine bD ?_;refine av ⟨_,aa,d,⟨aa,aa⟩,rfl,bm,ax rfl agD (.refl _)⟩
   ·refine iM rfl .no (au ag rfl aB aa (fE aa)) rfl gF ?_;refine az 9 ?_;refine iM rfl .no (au ag rfl aB aa (fE aa)) rfl gF ?_;refine aW 14 rfl (aP (size:=1) (i:=a+(d+1)) underlying53 ag rfl rfl aa aa) ?_;refine az 15 ?_;refine aE ?_;refine aW 16 rfl (aP (size:=1) (i:=a+d) underlying53 ag rfl rfl aa aa) ?_;refine az 17 ?_;refine aE ?_;refine cP [0,14,17] ?_;refine bD ?_;refine av ⟨_,aa,d,⟨aa,aa⟩,rfl,bm,ax rfl agD (.refl _)⟩
  ·obtain rfl:d=i:=by omega
   refine bM ?_;exact⟨rfl,by rw[tV]⟩
end
section
set_option maxHeartbeats 1000000
theorem alS{S:bc}(hs:tx o S){k:Nat}(hk:k<S.length):∀y∈S.drop k,y=S.getD k 0∨tB o (S.getD k 0) y:=fun y hy=>by
 rw[dw hk 0]at hy;rcases fm.1 hy with e|e
 ·exact .inl e
 ·refine .inr ?_;obtain⟨i,hi,rfl⟩:=j8 e;rw[iN]at hi;rw[List.getElem_drop,bk,fo hk,vG];exact rk.1 hs k (k+1+i) hk aa aa
theorem aka{S T:bc}(hS:tx o S)(hT:tx o T){i j:Nat}(hi:i<S.length)(h:j<T.length→tB o (S.getD i 0) (T.getD j 0)):∀x∈S.take (i+1),∀y∈T.drop j,tB o x y:=fun x hx y hy=>by
 by_cases hj:j<T.length
 ·have h1:=WI hS hi (h hj) x hx;rcases alS hT hj y hy with e|e
  ·rw[e];exact h1
  ·exact rs h1 e
 ·rw[mj aa]at hy;cases hy
theorem adJ{U V:bc}{a m b lo hi s mw:Nat}(sU:tx o U)(sV:tx o V)(hm:a+U.length=m)(hb:m+V.length=b)(k1:a≤lo)(k2:lo≤s)(k3:s≤hi)(k4:hi≤m)(k5:hi≤mw)(k6:mw+m≤b+lo)(k7:lo=a∨mw+m=b+lo)(k8:hi=m∨hi=mw)(k9:s=lo∨tB o (U.getD (s-1-a) 0) (V.getD (mw+m-s-m) 0))(jK:s=hi∨tB o (V.getD (mw+m-1-s-m) 0) (U.getD (s-a) 0)):
  ∃U1 U2 V1 V2,U=U1++U2∧V=V1++V2∧a+U1.length=s∧s+V1.length=mw∧∀x∈U1++V1,∀y∈U2++V2,tB o x y:=by
 refine⟨U.take (s-a),U.drop (s-a),V.take (mw-s),V.drop (mw-s),(jO _ _).symm,(jO _ _).symm,nt,nt,fun x hx y hy=>?_⟩;have hUU:∀x∈U.take (s-a),∀y∈U.drop (s-a),tB o x y:=by
  have:=sU;rw[←jO (s-a) U]at this;exact(sW.1 this).2.2
 have hVV:∀x∈V.take (mw-s),∀y∈V.drop (mw-s),tB o x y:=by
  have:=sV;rw[←jO (mw-s) V]at this;exact(sW.1 this).2.2
 rcases dy.1 hx with hx|hx
 ·rcases dy.1 hy with hy|hy
  ·exact hUU x hx y hy
  ·by_cases e:s=a
   ·rw[e,nA]at hx;simp at hx
   ·by_cases e2:mw-s<V.length
    ·rcases k9 with h|h
     ·omega
     ·rw[show mw+m-s-m=mw-s by omega]at h;have:=aka sU sV (i:=s-1-a) (j:=mw-s) aa (fun _=>h);rw[show s-1-a+1=s-a by omega]at this;exact this x hx y hy
    ·rw[mj aa]at hy;cases hy
 ·rcases dy.1 hy with hy|hy
  ·by_cases e:s=mw
   ·rw[e,nA]at hx;simp at hx
   ·by_cases e2:s-a<U.length
    ·rcases jK with h|h
     ·omega
     ·rw[show mw+m-1-s-m=mw-s-1 by omega]at h;have:=aka sV sU (i:=mw-s-1) (j:=s-a) aa (fun _=>h);rw[show mw-s-1+1=mw-s by omega]at this;exact this x hx y hy
    ·rw[mj aa]at hy;cases hy
  ·exact hVV x hx y hy
theorem aqH{U1 U2 V1 V2:bc}{x:Nat}:(x∈U1++V1→x∈(U1++U2)++(V1++V2))∧(x∈U2++V2→x∈(U1++U2)++(V1++V2)):=by
 simp only[dy];constructor
 ·rintro(h|h)
  ·exact .inl (.inl h)
  ·exact .inr (.inl h)
 ·rintro(h|h)
  ·exact .inl (.inr h)
  ·exact .inr (.inr h)
theorem nd4{U1 U2 V1 V2:bc}(h:((U1++U2)++(V1++V2)).Nodup):(U1++V1).Nodup∧(U2++V2).Nodup:=
 ⟨h.sublist (List.Sublist.append (vH U1 U2) (vH V1 V2)),h.sublist (List.Sublist.append (gz U1 U2) (gz V1 V2))⟩
theorem BR{U V:bc}(sU:tx o U)(sV:tx o V)(nd:(U++V).Nodup)(h:U=[]∨V=[]):cW o (U++V)=U++V:=by
 rcases h with h|h
 ·subst h;exact Pk sV nd
 ·subst h;rw[gk]at nd⊢;exact Pk sU nd
theorem ae_(H:Hk B w0 F Ao co l){sz:Nat}(ih:∀{P U V Q:bc} {a m b:Nat},U.length+V.length≤sz→Mg l P U V Q a m b n→
  a_ B w0 345 [.slice A n c,ah a,ah m,ah b,P9 g] (Sf A n c (P++(U++(V++Q))) g Ao l.length co F) (L5 l P U V Q A n c g Ao co F)){P U V Q:bc}{a m b:Nat}(jb:U.length+V.length≤sz+1)(M:Mg l P U V Q a m b n)(hU1:¬U.length=1)(hV1:¬V.length=1):
  a_ B w0 345 [.slice A n c,ah a,ah m,ah b,P9 g] (Sf A n c (P++(U++(V++Q))) g Ao l.length co F) (L5 l P U V Q A n c g Ao co F):=by
 unfold L5 at ih⊢;obtain⟨ha,hm,hb,hn,tW,hU,hV,sU,sV,lt,nd,hN⟩:=M;obtain⟨mw,RQ⟩:=cR ((a+b)/2);have hD0:(P++(U++(V++Q))).length=n:=by simp only[aX];omega
 refine fw func345 220 [0,1,2,3,4] ?_;refine bP ?_;refine dj fun q9=>?_;refine dm ?_;refine dj fun Kh=>?_;refine bB ?_;refine ae (bY rfl rfl (r:=((a+b:Nat):Int)) ((bG aa aa).trans aa)) rfl ?_;refine aE ?_;refine ae (di rfl rfl aa (Kj (a+b))) rfl ?_;refine ae (bw underlying192 underlying3 rfl (r:=(mw:Int)) ((bG aa aa).trans aa)) rfl ?_;refine bP ?_;refine ve [0,1,2,3,4,18,19] ?_;refine bD ?_;refine d_ (fun zf zL=>∃(lo hi:Nat),(a≤lo∧lo≤hi∧hi≤m∧hi≤mw∧mw+m≤b+lo∧(lo=a∨mw+m=b+lo)∧(hi=m∨hi=mw))∧Sub zf [(0,.slice A n c),(1,ah a),(2,ah m),(3,ah b),(4,P9 g),(18,ah mw),(19,ah (mw+m:Nat)),(20,ah lo),(21,ah hi)]∧Wk zL (Sf A n c (P++(U++(V++Q))) g Ao l.length co F)) ?_ ?_
 ·refine bD ?_;refine aj (fun ar0=>?_) fun ar0=>?_
  ·refine cD ?_;exact bC ⟨mw+m-b,mw,⟨aa,aa,aa,aa,aa,aa,aa⟩,bm,.refl _⟩
  ·refine bz ?_;exact bC ⟨a,m,⟨aa,aa,aa,aa,aa,aa,aa⟩,bm,.refl _⟩
 ·rintro _ _ ⟨lo,hi,⟨k1,k2,k4,k5,k6,k7,k8⟩,hs,hp⟩;refine aU hs hp ?_;clear hs hp;refine bP ?_;refine aD (fun zf zL zm=>∃(s r:Nat),(lo≤s∧s≤r∧r≤hi∧(s=lo∨tB (oN l) (U.getD (s-1-a) 0) (V.getD (mw+m-s-m) 0))∧(r=hi∨tB (oN l) (V.getD (mw+m-1-r-m) 0) (U.getD (r-a) 0)))∧r-s=zm∧Sub zf [(0,.slice A n c),(1,ah a),(2,ah m),(3,ah b),(4,P9 g),(18,ah mw),(19,ah (mw+m:Nat)),(20,ah s),(21,ah r),(22,ah (mw+m-1:Nat))]∧Wk zL (Sf A n c (P++(U++(V++Q))) g Ao l.length co F)) _ ⟨lo,hi,⟨gj _,k2,gj _,.inl rfl,.inl rfl⟩,rfl,bm,.refl _⟩ ?_;rintro _ _ _ ⟨s,r,⟨g1,g2,g3,k9,jK⟩,rfl,hs,hp⟩;refine aU hs hp ?_;clear hs hp;refine bM ?_;refine aj (fun ar1=>?_) fun ar1=>?_
  ·obtain⟨h,hh⟩:=cR ((s+r)/2);have hhu:h-a<U.length:=by omega
   have hhv:mw+m-1-h-m<V.length:=by omega
   have hum:U.getD (h-a) 0∈U:=bh hhu 0;have hvm:V.getD (mw+m-1-h-m) 0∈V:=bh hhv 0;have huv:=lt _ hum _ hvm;have zc:=hN _ (j_ _ hum);have YL:=hN _ (nB _ hvm);refine bD ?_;refine ae (bY rfl rfl (r:=((s+r:Nat):Int)) ((bG aa aa).trans aa)) rfl ?_;refine aE ?_;refine ae (di rfl rfl aa (Kj (s+r))) rfl ?_;refine ae (bw underlying192 underlying3 rfl (r:=(h:Int)) ((bG aa aa).trans aa)) rfl ?_;refine b8 ?_;refine cC _ ?_;refine ab 0 ?_;refine ab 1 ?_;refine ab 2 ?_;refine ab 3 ?_;refine ab 4 ?_;refine aW 5 rfl (aG (i:=mw+m-1-h) underlying53 ag rfl rfl aa aa aB) ?_;refine aW 6 rfl (au ag rfl aB aa (gd (v:=V.getD (mw+m-1-h-m) 0) aa (by rw[←bV];exact oK hhv tG))) ?_;refine ab 7 ?_;refine ab 8 ?_;refine ab 9 ?_;refine aW 10 rfl (au ag rfl aB aa (gd (v:=U.getD (h-a) 0) aa (oK hhu aa))) ?_;refine az 11 ?_;refine pM rfl .no UE rfl rfl (KC H YL zc) rfl QG ?_;rintro _ _ ⟨rfl,cJ⟩;obtain rfl:=cJ.symm;refine ab 12 ?_;refine ab 13 ?_;refine cP [0,1,2,3,4,18,19,20,21,22,23,171] ?_;refine aE ?_;refine aj (fun al1=>?_) fun al1=>?_
   ·refine bB ?_;refine av ⟨_,aa,h+1,r,⟨aa,aa,g3,.inr (by
     rw[show h+1-1-a=h-a by omega,show mw+m-(h+1)-m=mw+m-1-h-m by omega];have:¬oN l (V.getD (mw+m-1-h-m) 0)<oN l (U.getD (h-a) 0):=fun k=>al1 (l_.2 k);unfold tB;omega),jK⟩,rfl,bm,.refl _⟩
   ·refine bI ?_;refine av ⟨_,aa,s,h,⟨g1,aa,aa,k9,.inr (.inl (l_.1 (j0.1 al1)))⟩,rfl,bm,.refl _⟩
  ·obtain rfl:s=r:=by omega
   obtain⟨U1,U2,V1,V2,rfl,rfl,q1,q2,fP⟩:=adJ sU sV hm hb k1 g1 g3 k4 k5 k6 k7 k8 k9 jK;simp only[aX]at hm hb jb hU hV;obtain⟨nd1,nd2⟩:=nd4 nd;have sU1:tx (oN l) U1:=sU.sublist (vH U1 U2);have sU2:tx (oN l) U2:=sU.sublist (gz U1 U2);have sV1:tx (oN l) V1:=sV.sublist (vH V1 V2);have sV2:tx (oN l) V2:=sV.sublist (gz V1 V2);have tV:=al4 (o:=oN l) nd fP;have aua:(cW (oN l) (U1++V1)).length=U1.length+V1.length:=by rw[gX,aX]
   refine bP ?_;refine ae (dQ rfl rfl ((bG aa aa).trans (show _=((mw+m-s:Nat):Int) by omega))) rfl ?_;refine bH ?_;refine d_ (fun zf zL=>Sub zf [(0,.slice A n c),(1,ah a),(3,ah b),(4,P9 g),(18,ah mw),(20,ah s),(24,ah (mw+m-s:Nat))]∧Wk zL (Sf A n c (P++(U1++(V1++(U2++(V2++Q))))) g Ao l.length co F)) ?_ ?_
   ·refine be ?_;refine bR 8 185 [0,1,2,3,4,18,20,24] (s<m∧m<mw+m-s) ?_ ?_
    ·refine b8 ?_;refine ct (fun ar5=>?_) fun ar5=>?_
     ·refine bB ?_;exact aM oY
     ·refine bH ?_;exact aM wz
    ·refine be ?_;refine aj (fun ar6=>?_) fun ar6=>?_
     ·have Km:P++((U1++U2)++((V1++V2)++Q))=(P++U1)++(U2++(V1++(V2++Q))):=by simp[bV]
      rw[Km];refine bB ?_;refine ai rfl (aeB (P:=P++U1) (X:=U2) (Y:=V1) (Q:=V2++Q) (a:=s) (m:=m) (b:=mw+m-s) tG aa aa tG tW aa aa) ?_;refine aE ?_;exact bC ⟨bm,ax rfl (by simp[bV]) (.refl _)⟩
     ·have Km:P++((U1++U2)++((V1++V2)++Q))=P++(U1++(V1++(U2++(V2++Q)))):=by
       by_cases e:U2.length=0
       ·rw[mi e];simp[bV]
       ·rw[mi (show V1.length=0 by omega)];simp[bV]
      refine aE ?_;exact bC ⟨bm,ax rfl (by rw[Km]) (.refl _)⟩
   ·rintro _ _ ⟨hs,hp⟩;refine aU hs hp ?_;clear hs hp;refine d_ (fun zf zL=>Sub zf [(0,.slice A n c),(3,ah b),(4,P9 g),(18,ah mw),(24,ah (mw+m-s:Nat))]∧Wk zL (Sf A n c ((P++cW (oN l) (U1++V1))++(U2++(V2++Q))) g Ao l.length co F)) ?_ ?_
    ·refine be ?_;refine bR 8 199 [0,1,3,4,18,20,24] (a<s∧s<mw) ?_ ?_
     ·refine b8 ?_;refine ct (fun ar7=>?_) fun ar7=>?_
      ·refine bB ?_;exact aM oY
      ·refine bH ?_;exact aM wz
     ·refine be ?_;refine aj (fun ar8=>?_) fun ar8=>?_
      ·refine bB ?_;refine ai rfl (ih (P:=P) (U:=U1) (V:=V1) (Q:=U2++(V2++Q)) (a:=a) (m:=s) (b:=mw) aa ⟨ha,q1,q2,by rw[aX,aX];omega,tW,aa,aa,sU1,sV1,fun u hu v hv=>lt u (j_ _ hu) v (j_ _ hv),nd1,fun x hx=>hN x (aqH.1 hx)⟩) ?_;refine aE ?_;exact bC ⟨bm,ax rfl (by simp[bV]) (.refl _)⟩
      ·have amr:=BR sU1 sV1 nd1 (by
        by_cases e:U1.length=0
        ·exact .inl (mi e)
        ·exact .inr (mi aa))
       refine aE ?_;exact bC ⟨bm,ax rfl (by rw[amr];simp[bV]) (.refl _)⟩
    ·rintro _ _ ⟨hs,hp⟩;refine aU hs hp ?_;clear hs hp;refine be ?_;refine bR 8 213 [0,3,4,18,24] (mw<mw+m-s∧mw+m-s<b) ?_ ?_
     ·refine b8 ?_;refine ct (fun ar9=>?_) fun ar9=>?_
      ·refine bB ?_;exact aM oY
      ·refine bH ?_;exact aM wz
     ·refine be ?_;refine aj (fun ar_=>?_) fun ar_=>?_
      ·refine bB ?_;refine ai rfl (ih (P:=P++cW (oN l) (U1++V1)) (U:=U2) (V:=V2) (Q:=Q) (a:=mw) (m:=mw+m-s) (b:=b) aa ⟨tG,aa,aa,hn,tW,aa,aa,sU2,sV2,fun u hu v hv=>lt u (nB _ hu) v (nB _ hv),nd2,fun x hx=>hN x (aqH.2 hx)⟩) ?_;refine be ?_;refine ao (L':=Sf A n c (P++(cW (oN l) ((U1++U2)++(V1++V2))++Q)) g Ao l.length co F) (ax rfl (by rw[←tV];simp[bV]) (.refl _)) ?_;refine aE ?_;exact⟨rfl,rfl⟩
      ·have asT:=BR sU2 sV2 nd2 (by
        by_cases e:U2.length=0
        ·exact .inl (mi e)
        ·exact .inr (mi aa))
       refine be ?_;refine ao (L':=Sf A n c (P++(cW (oN l) ((U1++U2)++(V1++V2))++Q)) g Ao l.length co F) (ax rfl (by rw[←tV,asT];simp[bV]) (.refl _)) ?_;refine aE ?_;exact⟨rfl,rfl⟩
theorem ae9(H:Hk B w0 F Ao co l):∀(sz:Nat) {P U V Q:bc} {a m b:Nat},U.length+V.length≤sz→Mg l P U V Q a m b n→
  a_ B w0 345 [.slice A n c,ah a,ah m,ah b,P9 g] (Sf A n c (P++(U++(V++Q))) g Ao l.length co F) (L5 l P U V Q A n c g Ao co F)
 |0,P,U,V,Q,a,m,b,jb,M=>by have:=M.hU;omega
 |sz+1,P,U,V,Q,a,m,b,jb,M=>by
  by_cases hU1:U.length=1
  ·exact aq' H M hU1
  ·by_cases hV1:V.length=1
   ·exact ara H M hU1 hV1
   ·exact ae_ H (ae9 H sz) jb M hU1 hV1
theorem akt{X c1 c2 Q:bc}{a m b:Nat}(hr:Ri (c1++c2))(hN:∀x∈c1++c2,x<l.length)(ha:X.length=a)(hm:a+c1.length=m)(hb:m+c2.length=b)(hn:b+Q.length=n)(tW:n≤1000000)(h1:0<c1.length)(h2:0<c2.length):
  Mg l X (cW (oN l) c1) (cW (oN l) c2) Q a m b n:=by
 obtain⟨r1,r2,r3⟩:=sW.1 hr;exact⟨ha,by rw[gX];exact hm,by rw[gX];exact hb,hn,tW,by rw[gX];exact h1,by rw[gX];exact h2,lx _ (Ri.nd r1),lx _ (Ri.nd r2),fun u hu v hv=>r3 u (fW.1 hu) v (fW.1 hv),
  ((List.Perm.append (gE _ c1) (gE _ c2)).nodup_iff).2 hr.nd,fun x hx=>hN x ((dy.1 hx).elim (fun h=>j_ _ (fW.1 h)) (fun h=>nB _ (fW.1 h)))⟩
theorem ae0(H:Hk B w0 F Ao co l){R:bc}(hn:R.length=n)(tW:n≤1000000)(hr:Ri R)(hN:∀x∈R,x<l.length):
  a_ B w0 335 [.slice A n c,ah n,P9 g] (Sf A n c R g Ao l.length co F) (fun r L=>r= .tuple #[]∧L=Sf A n c (cW (oN l) R) g Ao l.length co F):=by
 refine fw func335 63 [0,1,2] ?_;refine dX ?_;refine aD (fun zf zL zm=>∃(X R':bc),(X.length+R'.length=n∧X++wB (oN l) 20 R'=wB (oN l) 20 R∧Ri R'∧∀x∈R',x<l.length)∧R'.length=zm∧Sub zf [(0,.slice A n c),(1,ah n),(2,P9 g),(6,ah 20),(7,ah X.length),(8,ah (X.length+20:Nat))]∧Wk zL (Sf A n c (X++R') g Ao l.length co F)) _ ⟨[],R,⟨by simp;exact hn,rfl,hr,hN⟩,rfl,bm,.refl _⟩ ?_;rintro _ _ _ ⟨X,R',⟨hX,hXe,hr',hN'⟩,rfl,hs,hp⟩;refine aU hs hp ?_;clear hs hp;refine bM ?_;refine aj (fun nh=>?_) fun nh=>?_
 ·have tA:(R'.take 20).length=20:=by rw[eV];omega
  have rN:(R'.drop 20).length=R'.length-20:=iN;have Km:X++R'=X++(R'.take 20++R'.drop 20):=by rw[jO]
  have dh:=qS (o:=oN l) (bs:=20) (R:=R') aa aa;have nP:(X++cW (oN l) (R'.take 20)).length=X.length+20:=by rw[aX,gX,tA]
  rw[Km];refine bP ?_;refine ai rfl (NS H (P:=X) (R:=R'.take 20) (Q:=R'.drop 20) (a:=X.length) (b:=X.length+20) rfl aa aa tW (hr'.sublist (Ky 20 R')) (fun x hx=>hN' x (lW hx))) ?_;refine i_ ?_;refine av ⟨_,aa,X++cW (oN l) (R'.take 20),R'.drop 20,⟨aa,by rw[bV,←dh,hXe],hr'.sublist (List.drop_sublist 20 R'),fun x hx=>hN' x (rl hx)⟩,rfl,bm,ax rfl (by rw[bV]) (.refl _)⟩
 ·have Km:X++R'=X++(R'++[]):=by rw[gk]
  rw[Km];have LF:=mS (o:=oN l) (bs:=20) (R:=R') aa;rw[LF]at hXe;refine dm ?_;refine ai rfl (NS H (P:=X) (R:=R') (Q:=[]) (a:=X.length) (b:=n) rfl aa ak tW hr' hN') ?_;refine bH ?_;refine aD (fun zf zL zm=>∃(bs:Nat),(1≤bs∧bs≤2000020)∧n-bs=zm∧Sub zf [(0,.slice A n c),(1,ah n),(2,P9 g),(6,ah bs)]∧Wk zL (Sf A n c (wB (oN l) bs R) g Ao l.length co F)) _ ⟨20,⟨aa,aa⟩,rfl,bm,ax rfl (by rw[gk,hXe]) (.refl _)⟩ ?_;rintro _ _ _ ⟨bs,⟨qf,oP⟩,rfl,hs,hp⟩;refine aU hs hp ?_;clear hs hp;refine bM ?_;refine aj (fun y'=>?_) fun y'=>?_
  ·have h00:([]:bc).length=0:=rfl;refine c_ ?_;refine aD (fun zf zL zm=>∃(X R':bc),(X.length+R'.length=n∧X++wB (oN l) (2*bs) R'=wB (oN l) (2*bs) R∧Ri R'∧∀x∈R',x<l.length)∧R'.length=zm∧Sub zf [(0,.slice A n c),(1,ah n),(2,P9 g),(6,ah bs),(7,ah X.length),(8,ah (X.length+2*bs:Nat))]∧Wk zL (Sf A n c (X++wB (oN l) bs R') g Ao l.length co F)) _ ⟨[],R,⟨by simp;exact hn,rfl,hr,hN⟩,rfl,bm,.refl _⟩ ?_;rintro _ _ _ ⟨X,R',⟨hX2,ahC,vZ,hN2⟩,rfl,hs,hp⟩;refine aU hs hp ?_;clear hs hp;refine bM ?_;refine aj (fun tR=>?_) fun tR=>?_
   ·have tA:(R'.take bs).length=bs:=by rw[eV];omega
    have rN:(R'.drop bs).length=R'.length-bs:=iN;have LG:((R'.drop bs).take bs).length=bs:=by rw[eV];omega
    have hl4:((R'.drop bs).drop bs).length=R'.length-bs-bs:=by rw[iN];omega
    have al5:=qS (o:=oN l) (bs:=bs) (R:=R') qf aa;have al6:=qS (o:=oN l) (bs:=bs) (R:=R'.drop bs) qf aa;have asf:=qS (o:=oN l) (bs:=2*bs) (R:=R') aa aa;have RD:R'.take bs++(R'.drop bs).take bs=R'.take (2*bs):=by rw[show 2*bs=bs+bs by omega,List.take_add]
    have hdd:(R'.drop bs).drop bs=R'.drop (2*bs):=by rw[qj];congr 1;omega
    have dh:=abe (oN l) bs ((R'.drop bs).drop bs);have hri:Ri (R'.take bs++(R'.drop bs).take bs):=by rw[RD];exact vZ.sublist (Ky _ _)
    have hsa:=Pm (o:=oN l) hri.nd;have nP:(X++cW (oN l) (R'.take bs++(R'.drop bs).take bs)).length=X.length+2*bs:=by rw[aX,gX,aX];omega
    rw[al5,al6];refine cD ?_;refine ai rfl (ae9 H _ (P:=X) (Q:=wB (oN l) bs ((R'.drop bs).drop bs)) (a:=X.length) (m:=X.length+bs) (b:=X.length+2*bs) (gj _) (akt hri (fun x hx=>hN2 x (by rw[RD]at hx;exact lW hx)) rfl aa aa aa tW aa aa)) ?_;refine dX ?_;refine ve [0,1,2,6,7,8] ?_;refine aE ?_;refine av ⟨_,aa,X++cW (oN l) (R'.take bs++(R'.drop bs).take bs),(R'.drop bs).drop bs,⟨aa,by rw[bV,RD,hdd,←asf,ahC],by rw[hdd];exact vZ.sublist (List.drop_sublist _ _),fun x hx=>hN2 x (rl (rl hx))⟩,rfl,bm,ax rfl (by rw[hsa,bV]) (.refl _)⟩
   ·have rN:(R'.drop bs).length=R'.length-bs:=iN;have asj:=mS (o:=oN l) (bs:=2*bs) (R:=R') aa;rw[asj]at ahC;refine GL ?_;refine aj (fun h54=>?_) fun h54=>?_
    ·have tA:(R'.take bs).length=bs:=by rw[eV];omega
     have al5:=qS (o:=oN l) (bs:=bs) (R:=R') qf aa;have al6:=mS (o:=oN l) (bs:=bs) (R:=R'.drop bs) aa;have RD:R'.take bs++R'.drop bs=R':=jO _ _;have hri:Ri (R'.take bs++R'.drop bs):=by rw[RD];exact vZ
     have hsa:=Pm (o:=oN l) hri.nd;have Km:X++(cW (oN l) (R'.take bs)++cW (oN l) (R'.drop bs))=X++(cW (oN l) (R'.take bs)++(cW (oN l) (R'.drop bs)++[])):=by rw[gk]
     rw[al5,al6,Km];refine bB ?_;refine ai rfl (ae9 H _ (P:=X) (Q:=[]) (a:=X.length) (m:=X.length+bs) (b:=n) (gj _) (akt hri (fun x hx=>hN2 x (by rw[RD]at hx;exact hx)) rfl aa aa ak tW aa aa)) ?_;refine ve [0,1,2,6] ?_;refine bD ?_;refine av ⟨_,aa,2*bs,⟨aa,aa⟩,rfl,bm,ax rfl (by rw[hsa,gk,RD,ahC]) (.refl _)⟩
    ·have asi:=mS (o:=oN l) (bs:=bs) (R:=R') aa;refine bM ?_;refine av ⟨_,aa,2*bs,⟨aa,aa⟩,rfl,bm,ax rfl (by rw[asi,ahC]) (.refl _)⟩
  ·have tV:=mS (o:=oN l) (bs:=bs) (R:=R) aa;rw[tV];refine bB ?_;exact⟨rfl,rfl⟩
theorem aeW(H:Hk B w0 F Ao co l){R:bc}(hn:R.length=n)(tW:n≤1000000)(hr:Ri R)(hN:∀x∈R,x<l.length):
  a_ B w0 314 [.slice A n c,P9 g] (Sf A n c R g Ao l.length co F) (fun r L=>r= .tuple #[]∧L=Sf A n c (cW (oN l) R) g Ao l.length co F):=by
 refine fw func314 9 [0,1] ?_;refine bI ?_;refine ai rfl (ae0 H hn tW hr hN) ?_;refine bH ?_;exact⟨rfl,rfl⟩
end
theorem aa1{P:Prop}(h:P:=by(rw[←mz,bV];rfl)):P:=h
theorem aa6{P:Prop}(h:P:=by(rw[Ej];rfl)):P:=h
theorem aoj{P:Prop}(h:P:=by(first|exact fun h=>absurd h.1 (by omega)|exact⟨fun h=>⟨by omega,by omega⟩,fun h=>by have:=h.2;omega⟩)):P:=h
theorem TJ(o:Nat→Nat)(k:Nat):mr o (k+1)=mr o k++if 0<o k then [k] else []:=by
 unfold mr;rw[lk,En];congr 1;rw[ua,List.filter_nil];by_cases h:0<o k
 ·rw[aq h,aq nu]
 ·rw[aw h,aw nu]
theorem PU(o:Nat→Nat)(k:Nat):(mr o k).length≤k:=jf (BH _ _) ak
theorem afZ(o:Nat→Nat)(k:Nat):Ri (mr o k):=List.Pairwise.sublist List.filter_sublist List.pairwise_lt_range
theorem afY{o:Nat→Nat}{k x:Nat}(h:x∈mr o k):x<k:=ky.1 (BE.1 h).1
theorem anN(H:Hk B w0 F Ao co l)(hl:l.length≤300):
  a_ B w0 283 [.slice Ao l.length co] F (fun r L=>∃A' c',r= .slice A' (dz (oN l) l.length).length c'∧L= .own 3 1 A' (dz (oN l) l.length).length c' (bx (dz (oN l) l.length))::F):=by
 have hbo:=H.zk;refine fw func283 24 [0] ?_;refine be ?_;refine bf fun g1=>?_;refine b8 ?_;refine aY 3 1 none ?_;refine c_ ?_;refine aD (fun zf zL zm=>∃(k:Nat) (A3:bj) (c3:Nat),(k≤l.length)∧l.length-k=zm∧Sub zf [(1,bq g1),(3,.slice A3 (mr (oN l) k).length c3),(6,.slice Ao l.length co),(7,ah l.length),(8,ah k)]∧Wk zL (Sf A3 (mr (oN l) k).length c3 (mr (oN l) k) g1 Ao l.length co F)) _ ⟨0,none,0,bS _,rfl,bm,.refl _⟩ ?_;rintro _ _ _ ⟨k,A3,c3,hk,rfl,hs,hp⟩;refine aU hs hp ?_;clear hs hp;refine bB ?_;refine aj (fun h9=>?_) fun h9=>?_
 ·have hus:=TJ (oN l) k;have zc:=PU (oN l) k;refine bM ?_;refine ae (au ag rfl aB aa (FN aa)) rfl ?_;refine bz ?_;refine aj (fun jC=>?_) fun jC=>?_
  ·rw[aq (show 0<l.getD k 0 by omega)]at hus;have wR:(mr (oN l) (k+1)).length=(mr (oN l) k).length+1:=by rw[hus];simp
   refine bH ?_;refine dK fM rfl rfl rfl rfl rfl (fun _=>rfl) aV aa aa ?_;intro _ s8 uR;refine bM ?_;refine av ⟨_,aa,k+1,s8,uR,aa,rfl,bm,ax aa (by rw[hus];simp[bx]) (.refl _)⟩
  ·rw[aw (show¬0<l.getD k 0 by omega),gk]at hus;have wR:(mr (oN l) (k+1)).length=(mr (oN l) k).length:=by rw[hus]
   refine bD ?_;refine av ⟨_,aa,k+1,A3,c3,aa,rfl,bm,ax (by rw[hus]) (by rw[hus]) (.refl _)⟩
 ·obtain rfl:k=l.length:=by omega
  have zc:=PU (oN l) l.length;have nP:(dz (oN l) l.length).length=(mr (oN l) l.length).length:=gX _ _;refine bP ?_;refine ai rfl (aeW H rfl aa (afZ _ _) (fun x hx=>afY hx)) ?_;refine bP ?_;refine ao (L':=.own 3 1 A3 (dz (oN l) l.length).length c3 (bx (dz (oN l) l.length))::F) (.trans (ax nP.symm rfl (.refl _)) ((ef (.skip (.refl _))))) ?_;refine aE ?_;exact⟨A3,c3,by rw[nP],rfl⟩
def sO(x:cw):cV:=[.int .u64 (x.1:Int),.bool x.2]
def de(L:List cw):cV:=L.flatMap sO
theorem R6(L:List cw):(de L).length=L.length*2:=by
 unfold de;rw[List.length_flatMap];induction L with
 |nil=>rfl
 |cons x r ih=>rw[kz,II,ih,eh];simp[sO];omega
theorem Ej(L M:List cw):de (L++M)=de L++de M:=by simp[de]
theorem pv:∀(L:List cw) (k:Nat),(de L).take (k*2)=de (L.take k)∧(de L).drop (k*2)=de (L.drop k)
 |L,0=>by simp[de]
 |[],k+1=>by simp[de]
 |x::r,k+1=>by
  obtain⟨h1,h2⟩:=pv r k;have e:de (x::r)=sO x++de r:=by simp[de]
  rw[e,j9,sQ (k*2) 2];constructor
  ·rw[Oe,fD (by simp[sO]),show 2+k*2-(sO x).length=k*2 by simp[sO],h1];simp[de]
  ·rw[List.drop_append,mj (by simp[sO]),show 2+k*2-(sO x).length=k*2 by simp[sO],h2];simp
theorem yd{L:List cw}{k:Nat}(h:k<L.length):((de L).drop (k*2)).take 2=[.int .u64 ((L.getD k (0,false)).1:Int),.bool (L.getD k (0,false)).2]:=by
 rw[(pv L k).2,dw h (0,false)];simp[de,sO]
theorem zW{L:List cw}{k:Nat}(h:k<L.length):(de L)[k*2+0]? =some (.int .u64 ((L.getD k (0,false)).1:Int)):=so (yd h) 0 _ rfl
theorem YY{L:List cw}{k:Nat}(h:k<L.length)(x:cw):(de L).take (k*2)++sO x++(de L).drop (k*2+2)=de (L.set k x):=by
 rw[show k*2+2=(k+1)*2 by omega,(pv L k).1,(pv L (k+1)).2,List.set_eq_take_append_cons_drop,aq h,Ej];simp[de]
theorem R7(n:Nat):(List.replicate n [Value.int .u64 0,.bool false]).flatten=de (List.replicate n (0,false)):=by
 induction n with
 |zero=>rfl
 |succ n ih=>rw[zX,zX,wo,ih];simp[de,sO]
def uh(o:Nat→Nat)(S:bc)(k:Nat):List cw:=(S.take k).map (fun s=>(o s,true))++List.replicate (S.length-k) (0,false)
theorem Y6(o:Nat→Nat){S:bc}{k:Nat}(h:k≤S.length):(uh o S k).length=S.length:=by simp[uh];omega
theorem Se(o:Nat→Nat){S:bc}{k:Nat}(h:k<S.length):(uh o S k).set k (o (S.getD k 0),true)=uh o S (k+1):=by
 unfold uh;have hl:((S.take k).map fun s=>(o s,true)).length=k:=by simp;omega
 rw[wX _ _ aa,hl,nA,show S.length-k=(S.length-(k+1))+1 by omega,zX,List.set_cons_zero,aZ h 0,jd,bV];rfl
theorem adr(H:Hk B w0 F Ao co l){S:bc}(hs:aL B w0 F 1 (.slice A1 S.length c1) S.length (bx S))(hS:S.length≤300)(hN:∀x∈S,x<l.length):
  a_ B w0 284 [.slice Ao l.length co,.slice A1 S.length c1] F (fun r L=>∃A' c',r= .slice A' S.length c'∧L= .own 397 2 A' S.length c' (de (S.map fun s=>(oN l s,true)))::F):=by
 have hbo:=H.zk;refine fw func284 29 [0,1] ?_;refine bP ?_;refine cH (Ib (nn:=S.length) (cc:=S.length) Fp rfl rfl rfl rfl (gj _) aa aa) fun xq=>?_;refine cD ?_;refine aD (fun zf zL zm=>∃(k:Nat),(k≤S.length)∧S.length-k=zm∧Sub zf [(0,.slice Ao l.length co),(5,.slice xq S.length S.length),(11,.slice A1 S.length c1),(12,ah S.length),(13,ah k)]∧Wk zL (.own 397 2 xq S.length S.length (de (uh (oN l) S k))::F)) _ ⟨0,bS _,rfl,bm,ax rfl (by rw[show uh (oN l) S 0=List.replicate S.length (0,false) by simp[uh],←R7];rfl) (.refl _)⟩ ?_;rintro _ _ _ ⟨k,hk,rfl,hs,hp⟩;refine aU hs hp ?_;clear hs hp;refine bB ?_;refine aj (fun jC=>?_) fun jC=>?_
 ·have IA:S.getD k 0<l.length:=hN _ (bh aa 0);have fP:=H.lt (S.getD k 0);have hlp:=Y6 (oN l) (S:=S) (k:=k) aa;have hil:=R6 (uh (oN l) S k);refine bM ?_;refine ae (au ag rfl aB aa (fE aa)) rfl ?_;refine bz ?_;refine ae (au ag rfl aB aa (FN IA)) rfl ?_;refine aE ?_;refine ae (eG [(0,_),(1,_)] [_,_] rfl rfl ag) rfl ?_;refine aE ?_;refine kK (DJ 2 ag rfl rfl L9 rfl aV aa aa) ?_;refine bB ?_;refine ve [0,5,11,12,13] ?_;refine av ⟨_,aa,k+1,aa,rfl,bm,ax rfl (by rw[←Se (oN l) aa,←YY aa];rfl) (.refl _)⟩
 ·obtain rfl:k=S.length:=by omega
  have xn:uh (oN l) S S.length=S.map fun s=>(oN l s,true):=by simp[uh]
  refine c_ ?_;exact⟨xq,S.length,rfl,by rw[xn]⟩
theorem EN{leaf row:List cw}{f i k:Nat}(hi:i<leaf.length)(h:row.length≤k+1∨(leaf.getD i (0,false)).1≤(row.getD k (0,false)).1+(row.getD (k+1) (0,false)).1):pH leaf row (f+1) i k=leaf.getD i (0,false)::pH leaf row f (i+1) k:=by
 rw[pH];split
 ·rfl
 ·rename_i hr;rw[aq ⟨hi,h.resolve_left hr⟩]
theorem Sz{leaf row:List cw}{f i k:Nat}(hr:¬row.length≤k+1)(h:¬(i<leaf.length∧(leaf.getD i (0,false)).1≤(row.getD k (0,false)).1+(row.getD (k+1) (0,false)).1)):pH leaf row (f+1) i k=((row.getD k (0,false)).1+(row.getD (k+1) (0,false)).1,false)::pH leaf row f i (k+2):=by
 rw[pH,aw hr,aw h]
theorem Zl{leaf row:List cw}{f i k:Nat}(h:¬(i<leaf.length∨k+1<row.length)):pH leaf row f i k=[]:=by
 cases f with
 |zero=>rfl
 |succ f=>rw[pH,aq aa,aw aa]
theorem ZN{leaf row:List cw}{W:Nat}(h1:aL B w0 F 2 (.slice A1 leaf.length c1) leaf.length (de leaf))(h2:aL B w0 F 2 (.slice A2 row.length c2) row.length (de row))(tA:leaf.length≤1000)(rN:row.length≤1000)(hW:W≤4611686018427387904)(hw1:∀x∈leaf,x.1≤W)(hw2:∀x∈row,x.1≤W):
  a_ B w0 285 [.slice A1 leaf.length c1,.slice A2 row.length c2] F (fun r L=>∃A' c',r= .slice A' (uw leaf row).length c'∧L= .own 397 2 A' (uw leaf row).length c' (de (uw leaf row))::F):=by
 refine fw func285 83 [0,1] ?_;refine dm ?_;refine ae (qc rfl rfl aa (r:=((row.length/2:Nat):Int)) (by have e:((row.length:Nat):Int).tdiv 2=((row.length/2:Nat):Int):=rfl;rw[e];exact bG aa aa)) rfl ?_;refine ae (bY rfl rfl (r:=((leaf.length+row.length/2:Nat):Int)) ((bG aa aa).trans aa)) rfl ?_;refine cH (Ib (nn:=0) (cc:=leaf.length+row.length/2) Fp rfl rfl rfl rfl (bS _) aa aa) fun Bg=>?_;refine dm ?_;refine aD (fun zf zL zm=>∃(i k f:Nat) (acc:List cw) (A5:bj) (c5:Nat),(i≤leaf.length∧k≤row.length∧leaf.length-i+(row.length-k)≤f∧acc++pH leaf row f i k=uw leaf row∧acc.length≤i+k)∧f=zm∧Sub zf [(0,.slice A1 leaf.length c1),(1,.slice A2 row.length c2),(5,.slice A5 acc.length c5),(6,ah i),(7,ah k)]∧Wk zL (.own 397 2 A5 acc.length c5 (de acc)::F)) _ ⟨0,0,leaf.length+row.length,[],Bg,leaf.length+row.length/2,⟨bS _,bS _,aa,rfl,gj _⟩,rfl,bm,.refl _⟩ ?_;rintro _ _ _ ⟨i,k,f,acc,A5,c5,⟨hi,hk,hf,mz,GP⟩,rfl,hs,hp⟩;refine aU hs hp ?_;clear hs hp;refine bH ?_;refine bR 11 26 [0,1,5,6,7] (i<leaf.length∨k+1<row.length) ?_ ?_
 ·refine bI ?_;refine aI rfl rfl rfl (fun ja=>?_) (fun ja=>?_)
  ·refine bz ?_;exact aM (by exact dU (by first|exact .inl aa|omega))
  ·refine bI ?_;exact aM (by exact eU (by first|exact .inl aa|omega))
 ·refine be ?_;refine aj (fun qG=>?_) fun qG=>?_
  ·obtain⟨f',rfl⟩:∃f',f=f'+1:=⟨f-1,aa⟩
   have hli:=fun(h:i<leaf.length)=>hw1 _ (bh h (0,false));have hrk:=fun(h:k<row.length)=>hw2 _ (bh h (0,false));have aqu:=fun(h:k+1<row.length)=>hw2 _ (bh h (0,false));have wR:∀x:cw,(acc++[x]).length=acc.length+1:=fun x=>by simp
   refine c_ ?_;refine aj (fun D4=>?_) fun D4=>?_
   ·have wO:=EN (leaf:=leaf) (row:=row) (f:=f') (i:=i) (k:=k) aa (.inl aa);rw[wO]at mz;have hx:=wR (leaf.getD i (0,false));refine bB ?_;refine ae (dg 2 ag rfl aB aa [.int .u64 ((leaf.getD i (0,false)).1:Int),.bool (leaf.getD i (0,false)).2] (so (yd aa)) rfl) rfl ?_;refine rJ Fp rfl rfl rfl aa cA rfl rfl rfl (fun _=>rfl) aV aa aa ?_;intro _ LU P8;refine bM ?_;refine ve [0,1,5,6,7] ?_;refine b8 ?_;refine av ⟨_,aa,i+1,k,f',acc++[leaf.getD i (0,false)],LU,P8,⟨aa,aa,aa,aa1,aa⟩,rfl,bm,ax aa aa6 (.refl _)⟩
   ·have hrk:=hrk aa;have aqu:=aqu aa;refine bD ?_;refine bU (dv underlying397 rfl ag rfl aB aa rfl) rfl ?_;refine bU (fz ag rfl aB aa (zW aa)) rfl ?_;refine bH ?_;refine bU (aG (i:=k+1) (size:=2) underlying392 ag rfl rfl aa aa aB) rfl ?_;refine bU (dv underlying397 rfl ag rfl aB aa rfl) rfl ?_;refine bU (fz ag rfl aB aa (zW aa)) rfl ?_;refine bU (bY rfl rfl (r:=(((row.getD k (0,false)).1+(row.getD (k+1) (0,false)).1:Nat):Int)) ((ga aa aa).trans aa)) rfl ?_;refine aE ?_;refine mu [(0,_),(1,_),(5,_),(6,_),(7,_),(8,_)] ⟨rfl,rfl,rfl,rfl,rfl,rfl,trivial⟩ ?_;refine b8 ?_;refine bR 13 65 [0,1,5,6,7,8] (i<leaf.length∧(leaf.getD i (0,false)).1≤(row.getD k (0,false)).1+(row.getD (k+1) (0,false)).1) ?_ ?_
    ·refine bI ?_;refine ct (fun h57=>?_) fun h57=>?_
     ·refine bB ?_;refine ae (dv underlying397 rfl ag rfl aB aa rfl) rfl ?_;refine aE ?_;refine ae (fz ag rfl aB aa (zW aa)) rfl ?_;refine bI ?_;exact aM (by exact dU aoj)
     ·refine bD ?_;exact aM (by exact eT aoj)
    ·refine be ?_;refine aj (fun h65=>?_) fun h65=>?_
     ·have wO:=EN (leaf:=leaf) (row:=row) (f:=f') (i:=i) (k:=k) h65.1 (.inr h65.2);rw[wO]at mz;have hx:=wR (leaf.getD i (0,false));have atV:=h65.1;refine bB ?_;refine ae (dg 2 ag rfl aB aa [.int .u64 ((leaf.getD i (0,false)).1:Int),.bool (leaf.getD i (0,false)).2] (so (yd aa)) rfl) rfl ?_;refine rJ Fp rfl rfl rfl aa cA rfl rfl rfl (fun _=>rfl) aV aa aa ?_;intro _ A72 c72;refine c_ ?_;refine av ⟨_,aa,i+1,k,f',acc++[leaf.getD i (0,false)],A72,c72,⟨aa,aa,aa,aa1,aa⟩,rfl,bm,ax aa aa6 (.refl _)⟩
     ·have wO:=Sz (leaf:=leaf) (row:=row) (f:=f') (i:=i) (k:=k) aa h65;rw[wO]at mz;have hx:=wR ((row.getD k (0,false)).1+(row.getD (k+1) (0,false)).1,false);refine bB ?_;refine ae (br [(0,_)] [.int .u64 0,.bool false] [0] [_,_] rfl rfl ag) rfl ?_;refine rJ Fp rfl rfl rfl aa cA rfl rfl rfl (fun _=>rfl) aV aa aa ?_;intro _ A79 c79;refine bP ?_;refine av ⟨_,aa,i,k+2,f',acc++[((row.getD k (0,false)).1+(row.getD (k+1) (0,false)).1,false)],A79,c79,⟨aa,aa,aa,aa1,aa⟩,rfl,bm,ax aa aa6 (.refl _)⟩
  ·rw[Zl qG,gk]at mz;subst mz;refine c_ ?_;exact⟨A5,c5,rfl,rfl⟩
section
set_option maxHeartbeats 1000000
theorem alc{P:Prop}(h:P:=by(exact eU (by first|(exact⟨fun h=>absurd h (by omega),False.elim⟩)|omega|(simp;done)))):P:=h
theorem Wu{leaf:List cw}(h:∀x∈leaf,x.1≤4294967296):∀r,∀x∈dS leaf r,x.1≤2^(32+r)
 |0,x,hx=>h x hx
 |r+1,x,hx=>by
  rw[dS,u7]at hx;have hp:2^(32+(r+1))=2*2^(32+r):=by rw[←NU,nF];omega
  have h1:4294967296≤2^(32+r):=by
   have:2^32≤2^(32+r):=k_ aa aa;simpa using this
  rcases yC hx with e|e
  ·have:=h x e;omega
  ·have:=(Wc (Wu h r) e).1;omega
abbrev RwI:=bj×Nat×List cw
abbrev rwV(e:RwI):Value:=.slice e.1 e.2.2.length e.2.1
def RwB(B:Nat)(w0:World)(K:aR)(R:List RwI):Prop:=∀e∈R,aL B w0 K 2 (rwV e) e.2.2.length (de e.2.2)
def PS(L:bc):cV:=L.map fun(n:Nat)=>Value.int .u8 (n:Int)
theorem ajx{L:bc}{k:Nat}(h:k<L.length):(PS L)[k*1]? =some (.int .u8 ((L.getD k 0:Nat):Int)):=by
 rw[cE];simp[PS,List.getD,fo h]
theorem W7(L:bc)(k v:Nat):(PS L).set (k*1) (.int .u8 (v:Int))=PS (L.set k v):=by simp[PS,Kx]
theorem ajy(L:bc):(PS L).length=L.length:=by simp[PS]
theorem anL{L:bc}(h:∀s,L.getD s 0≤15):PS L=bv (L.map UInt8.ofNat):=by
 unfold PS bv;rw[vF];refine sa fun x hx=>?_;obtain⟨i,hi,rfl⟩:=j8 hx;have:=h i;rw[bk,fo hi,vG]at this;have e:(UInt8.ofNat L[i]).toNat=L[i]:=by rw[oi];exact jc aa
 simp[e]
theorem Vw{S out:bc}(hd:S.Nodup)(hs:∀s∈S,s<out.length){b:Nat}(hb:∀s,out.getD s 0≤b){n:Nat}(hn:n≤S.length):∀s,(te S n out).getD s 0≤b+1:=fun s=>by
 obtain⟨h1,h2⟩:=Ef hd hs n hn;by_cases hm:s∈S
 ·obtain⟨j,hj,hje⟩:=j8 hm;have hjd:S.getD j 0=s:=by rw[bk,fo hj,←hje];rfl
  have:=h1 j hj;rw[hjd]at this;rw[this];have:=hb s;split<;>omega
 ·rw[h2 s hm];have:=hb s;omega
theorem XG{leaf:List cw}(hl:∀x∈leaf,x.2=true)(hw:Wt leaf)(r t:Nat):gJ (dS leaf r) t≤leaf.length:=by
 have hf:=(KV hl hw r).2 t;have:(leaf.take (gJ (dS leaf r) t)).length=gJ (dS leaf r) t:=by
  rw[←hf,←List.countP_eq_length_filter];rfl
 rw[eV]at this;omega
theorem XH{row:List cw}{k:Nat}(h:k<row.length):gJ row (k+1)=gJ row k+if (row.getD k (0,false)).2 then 1 else 0:=by
 unfold gJ;rw[aZ h (0,false),List.countP_append,Oc,List.countP_nil];omega
theorem Wq{leaf:List cw}(r:Nat):(dS leaf r).length≤2*leaf.length:=(Ws leaf r).2
theorem dA:∀(M N:aR),Wk (M++N) N
 |[],N=>.refl _
 |_::M,N=>.skip (dA M N)
theorem mL.wide{leaf:List cw}{r t M M':Nat}(h:mL leaf r t M)(hm:M≤M'):mL leaf r t M':=by
 cases r with
 |zero=>exact h
 |succ r=>exact⟨h.1,jf h.2 hm⟩
theorem mL.le{leaf:List cw}{r t M:Nat}(h:mL leaf r t M):t≤2*leaf.length:=by
 cases r with
 |zero=>
  have:t=0:=h;omega
 |succ r=>exact jf h.1 (Wq r)
theorem amR{leaf row:List cw}{W n1:Nat}(hn1:leaf.length=n1)(h1:aL B w0 F 2 (.slice A1 n1 c1) n1 (de leaf))(h2:aL B w0 F 2 (.slice A2 row.length c2) row.length (de row))(tA:leaf.length≤1000)(rN:row.length≤1000)(hW:W≤4611686018427387904)(hw1:∀x∈leaf,x.1≤W)(hw2:∀x∈row,x.1≤W):
  a_ B w0 285 [.slice A1 n1 c1,.slice A2 row.length c2] F (fun r L=>∃A' c',r= .slice A' (uw leaf row).length c'∧L= .own 397 2 A' (uw leaf row).length c' (de (uw leaf row))::F):=by
 subst hn1;exact ZN h1 h2 tA rN hW hw1 hw2
theorem akF{R:List RwI}{leaf:List cw}{k i:Nat}(h:R.map (·.2.2)=(List.range k).map (dS leaf))(hi:i<k):∃A c,R.getD i (none,0,[])=(A,c,dS leaf i)∧(A,c,dS leaf i)∈R∧(R.map rwV)[i*1]? =some (.slice A (dS leaf i).length c):=by
 have hl:R.length=k:=by have:=dC List.length h;simpa using this
 have Qh:i<R.length:=by omega
 have e:(R.map (·.2.2))[i]? =some (dS leaf i):=by rw[h];simp[hi]
 rw[jt,fo Qh]at e;simp only[sP,Et]at e;refine⟨R[i].1,R[i].2.1,?_,?_,?_⟩
 ·rw[bk,fo Qh,←e];rfl
 ·rw[←e];exact t_ Qh
 ·rw[cE,jt,fo Qh,←e];rfl
theorem anO{S:bc}(hS:S=dz (oN l) l.length)(H:Hk B w0 F Ao co l)(hl:l.length≤300):
  a_ B w0 283 [.slice Ao l.length co] F (fun r L=>∃A' c',r= .slice A' S.length c'∧L= .own 3 1 A' S.length c' (bx S)::F):=by
 subst hS;exact anN H hl
theorem Oj{o:Nat→Nat}{N:Nat}{S:bc}(hS:S=dz o N)(h:S.length<2):ju o N=if S.length=1 then (List.replicate N 0).set (S.getD 0 0) 1 else List.replicate N 0:=by
 subst hS;rw[ju,aq h]
theorem Y9{o:Nat→Nat}{N:Nat}{S:bc}(hS:S=dz o N)(h:¬S.length<2):ju o N=sK S (CG (S.map fun s=>(o s,true)) 15 (2*S.length-2)) (List.replicate N 0):=by
 subst hS;rw[ju,aw h];rfl
theorem FP(n:Nat):List.replicate n (Value.int .u8 0)=PS (List.replicate n 0):=by simp[PS]
theorem amF(H:Hk B w0 F Ao co l)(hl:l.length≤300):
    a_ B w0 246 [.slice Ao l.length co,ah 15] F (fun r L=>∃A' c',r= .tuple #[.slice A' l.length c',ah 0]∧L= .own 5 1 A' l.length c' (bv (kU (oN l) l.length))::F):=by
  have hbv:bv (kU (oN l) l.length)=PS (ju (oN l) l.length):=(anL (Ey (o:=oN l) hl)).symm;obtain⟨S,hS⟩:=cR (dz (oN l) l.length);have nP:S.length≤l.length:=by rw[hS];exact Jd _ _
  have IA:∀s∈S,s<l.length:=fun s hs=>(m8.1 (hS▸hs)).1;have hnd:S.Nodup:=by rw[hS];exact Pq _ _
  refine fw func246 109 [0,1] ?_;refine bP ?_;refine bR 11 25 [0,1] (False) ?_ ?_
  · refine b8 ?_;refine aI rfl rfl rfl (fun iU=>?_) (fun iU=>?_)
    · refine bI ?_;refine aI rfl rfl rfl (fun pX=>?_) (fun pX=>?_)
      · refine b8 ?_;exact aM (by rfl)
      · refine be ?_;exact aM alc
    · refine bB ?_;exact aM alc
  · refine be ?_;refine dj fun vW=>?_;refine bI ?_;refine ay rfl (anO hS H hl) fun Gn Ly=>?_;refine bP ?_;refine ae (gb rfl rfl aa (r:=32768) aA) rfl ?_;refine bH ?_;refine dj fun Bu=>?_;refine bB ?_;refine cH (fc cN rfl rfl rfl rfl rfl aa aa aa) fun Lt=>?_;refine dm ?_;refine aj (fun Gh=>?_) fun Gh=>?_
    · obtain⟨s0,amo⟩:=cR (S.getD 0 0);have CB:s0<l.length:=by rw[amo];exact IA _ (bh aa 0)
      refine bH ?_;refine ae (aG (i:=0) (size:=1) underlying53 ag rfl rfl rfl aa aB) rfl ?_;refine ae (au ag rfl aB aa (gd (i:=0) (v:=s0) aa amo.symm)) rfl ?_;refine ae (aG (i:=s0) underlying27 ag rfl rfl rfl aa aB) rfl ?_;refine aE ?_;refine ve [0,1,6,7] ?_;refine bP ?_;refine zJ fun Yo=>?_;have xn:=Oj hS aa;rw[aq aa]at xn;refine bP ?_;refine ao (L':=.own 5 1 Lt l.length l.length (bv (kU (oN l) l.length))::F) (.trans (ax rfl (by rw[hbv,xn,FP,←amo];exact W7 _ _ 1) (.refl _)) ((ef (.skip (.refl _))))) ?_;refine aE ?_;exact⟨Lt,l.length,rfl,rfl⟩
    · refine bz ?_;refine aj (fun Yo=>?_) fun Yo=>?_
      · have xn:=Oj hS aa;rw[aw aa]at xn;refine bI ?_;refine ve [4,5] ?_;refine bH ?_;refine ao (L':=.own 5 1 Lt l.length l.length (bv (kU (oN l) l.length))::F) (.trans (ax rfl (by rw[hbv,xn,FP]) (.refl _)) ((ef (.skip (.refl _))))) ?_;refine aE ?_;exact⟨Lt,l.length,rfl,rfl⟩
      · have xn:=Y9 hS aa;obtain⟨leaf,NH⟩:=cR (S.map fun s=>(oN l s,true));have RO:leaf=oo (oN l) l.length:=by rw[NH,hS];rfl
        have wR:leaf.length=S.length:=by rw[NH];simp
        have lZ:∀x∈leaf,x.2=true:=by rw[RO];exact sd
        have hwt:Wt leaf:=by rw[RO];exact yw _ _
        have tZ:mL leaf 15 (2*S.length-2) S.length:=by rw[RO,hS];exact xc (o:=oN l) hl
        have hlw:∀x∈leaf,x.1≤4294967296:=by
          rw[NH];intro x hx;obtain⟨s,_,rfl⟩:=pS.1 hx;exact Nat.le_of_lt (H.lt s)
        rw[←NH]at xn;refine bB ?_;refine ay rfl (adr ⟨H.zk.cons.cons,H.lt⟩ aB aa IA) fun BZ Ge=>?_;rw[←NH];refine aE ?_;refine ve [1,6,7,8] ?_;refine b8 ?_;refine cH (aF aeT [_] rfl rfl cA aa aa) fun A52=>?_;refine bI ?_;refine aD (fun zf zL zm=>∃(k:Nat) (R:List RwI) (M:aR) (A9:bj) (c9:Nat),(1≤k∧k≤15∧R.length=k∧R.map (·.2.2)=(List.range k).map (dS leaf)∧RwB B w0 (M++(.own 397 2 BZ S.length Ge (de leaf)::F)) R)∧15-k=zm∧Sub zf [(1,ah 15),(6,.slice Gn S.length Ly),(7,.slice Lt l.length l.length),(8,.slice BZ S.length Ge),(9,.slice A9 k c9)]∧Wk zL (.own 392 1 A9 k c9 (R.map rwV):: .own 5 1 Lt l.length l.length (PS (List.replicate l.length 0)):: .own 3 1 Gn S.length Ly (bx S)::(M++(.own 397 2 BZ S.length Ge (de leaf)::F)))) _ ⟨1,[(BZ,Ge,leaf)],[],A52,1,⟨gj _,aa,rfl,rfl,fun e he=>by rw[lE.1 he];exact wR▸aL.own (.head _)⟩,rfl,bm,.trans ((ef (gl (gl (ef (.refl _)))))) (ax rfl (by rw[←wR];rfl) (ax rfl (FP _) (.refl _)))⟩ ?_;rintro _ _ _ ⟨k,R,M,A9,c9,⟨xo,Iw,Vi,hRm,Vh⟩,rfl,hs,hp⟩;refine aU hs hp ?_;clear hs hp;refine bP ?_;refine aj (fun Ru=>?_) fun Ru=>?_
        · obtain⟨j,rfl⟩:∃j,k=j+1:=⟨k-1,aa⟩
          obtain⟨A8,c8,hg8,hm8,hv8⟩:=akF (i:=j) hRm aa;have hb8:aL B w0 (M++(.own 397 2 BZ S.length Ge (de leaf)::F)) 2 (.slice A8 (dS leaf j).length c8) (dS leaf j).length (de (dS leaf j)):=Vh _ hm8;have dh:aL B w0 (M++(.own 397 2 BZ S.length Ge (de leaf)::F)) 2 (.slice BZ S.length Ge) S.length (de leaf):=aL.own (nB _ (.head _));have hrl:=Wq (leaf:=leaf) j;have hjw:(2:Nat)^(32+j)≤2^47:=k_ aa aa;have hjp:(2:Nat)^47=140737488355328:=by decide
          have hnx:uw leaf (dS leaf j)=dS leaf (j+1):=rfl;refine bz ?_;refine ae (aG (i:=j) underlying394 ag rfl rfl aa aa aB) rfl ?_;refine ae (au ag rfl aB aa hv8) rfl ?_;refine ay rfl (amR (W:=140737488355328) wR dh.cons.cons.cons hb8.cons.cons.cons aa aa aa (fun x hx=>by have:=hlw x hx;omega) (fun x hx=>by have:=Wu hlw j x hx;omega)) fun A65 c65=>?_;rw[hnx];refine dK aeT rfl rfl rfl rfl rfl (fun _=>rfl) aV aa aa ?_;intro _ A67 c67;refine bH ?_;refine av ⟨_,aa,j+1+1,R++[(A65,c65,dS leaf (j+1))],.own 397 2 A65 (dS leaf (j+1)).length c65 (de (dS leaf (j+1)))::M,A67,c67,⟨aa,aa,bO,by rw[jd,hRm,lk (n:=j+1),jd];rfl,fun e he=>by
  rcases dy.1 he with he|he
  · exact(Vh e he).mono (.cons _ (.refl _))
  · rw[lE.1 he];exact aL.own (.head _)⟩,rfl,bm,.trans ((gl (gl (gl (ef (.refl _)))))) (ax aa (by rw[jd];rfl) (.refl _))⟩
        · obtain rfl:k=15:=by omega
          refine acu ?_;refine aD (fun zf zL zm=>∃(r t:Nat) (out:bc),(r≤15∧mL leaf r t S.length∧sK S (CG leaf r t) out=ju (oN l) l.length∧out.length=l.length∧(∀s,out.getD s 0+r≤15)∧t≤600)∧r=zm∧Sub zf [(6,.slice Gn S.length Ly),(7,.slice Lt l.length l.length),(9,.slice A9 15 c9),(10,ah t),(11,ah ((r:Int)-1))]∧Wk zL (.own 5 1 Lt l.length l.length (PS out):: .own 392 1 A9 15 c9 (R.map rwV):: .own 3 1 Gn S.length Ly (bx S)::(M++(.own 397 2 BZ S.length Ge (de leaf)::F)))) _ ⟨15,2*S.length-2,List.replicate l.length 0,⟨gj _,tZ,xn.symm,ak,fun s=>by
  rw[bk,IF];split<;>simp,aa⟩,rfl,bm,(gl (ef (ef (.refl _))))⟩ ?_
          rintro _ _ _ ⟨r,t,out,⟨at6,amt,hfo,Kl,hob,ht6⟩,rfl,hs,hp⟩;refine aU hs hp ?_;clear hs hp;refine bD ?_;refine aj (fun h76=>?_) fun h76=>?_
          · obtain⟨i,rfl⟩:∃i,r=i+1:=⟨r-1,aa⟩
            obtain⟨A8,c8,hg8,hm8,hv8⟩:=akF (i:=i) hRm aa;have hb8:aL B w0 (M++(.own 397 2 BZ S.length Ge (de leaf)::F)) 2 (.slice A8 (dS leaf i).length c8) (dS leaf i).length (de (dS leaf i)):=Vh _ hm8;have Cc:t≤(dS leaf i).length:=amt.1;have hb9:=hb8.js Cc;rw[(pv (dS leaf i) t).1]at hb9;have tz:=XG lZ hwt i;have v_:=amt.step lZ hwt;have hil:t≤(dS leaf i).length:=Cc;refine dm ?_;refine TK hb8.cons.cons.cons fun atA _=>?_;refine bH ?_;refine ae (aG (i:=i) underlying394 ag rfl rfl aa aa aB) rfl ?_;refine ae (au ag rfl aB aa hv8) rfl ?_;refine aE ?_;refine ae (bZ (i:=t) (size:=2) underlying392 ag rfl rfl rfl aa) rfl ?_;refine bI ?_;refine aD (fun zf zL zm=>∃(k:Nat),(k≤t)∧t-k=zm∧Sub zf [(6,.slice Gn S.length Ly),(7,.slice Lt l.length l.length),(9,.slice A9 15 c9),(10,ah t),(11,ah ((i+1:Nat)-1:Int)),(12,ah (gJ (dS leaf i) k)),(84,.slice A8 t c8),(85,ah t),(86,ah k)]∧Wk zL (.own 5 1 Lt l.length l.length (PS (te S (gJ (dS leaf i) k) out)):: .own 392 1 A9 15 c9 (R.map rwV):: .own 3 1 Gn S.length Ly (bx S)::(M++(.own 397 2 BZ S.length Ge (de leaf)::F)))) _ ⟨0,bS _,rfl,bm,.refl _⟩ ?_;rintro _ _ _ ⟨k,hkt,rfl,hs,hp⟩;refine aU hs hp ?_;clear hs hp;refine bB ?_;refine aj (fun h87=>?_) fun h87=>?_
            · have RN:=XH (row:=dS leaf i) (k:=k) aa;have hkc:=tz (k+1);have atQ:=rh S out (gJ (dS leaf i) k);have asw:((dS leaf i).take t).getD k (0,false)=(dS leaf i).getD k (0,false):=by
                simp only[bk];rw[VB aa]
              have hia:=yd (L:=(dS leaf i).take t) (k:=k) nt;rw[asw]at hia;obtain⟨⟨xw,xb⟩,hxe⟩:∃x,x=(dS leaf i).getD k (0,false):=⟨_,rfl⟩
              rw[←hxe]at hia RN;refine bB ?_;refine ae (aG (i:=k) (size:=2) underlying392 ag rfl rfl rfl aa hb9.cons.cons.cons) rfl ?_;refine ae (dg 2 ag rfl hb9.cons.cons.cons aa [.int .u64 (xw:Int),.bool xb] (so hia) rfl) rfl ?_;refine bg fun g14=>?_;refine bP ?_;refine h_ (fun h91=>?_) fun h91=>?_
              · rw[aq (show(xw,xb).2=true from h91)]at RN;obtain⟨s,hse⟩:=cR (S.getD (gJ (dS leaf i) k) 0);have aub:s<l.length:=by rw[hse];exact IA _ (bh aa 0)
                obtain⟨v,hve⟩:=cR ((te S (gJ (dS leaf i) k) out).getD s 0);have YL:v≤14-i+1:=by rw[hve];exact Vw hnd (fun s hs=>by rw[Kl];exact IA s hs) (fun s=>by have:=hob s;omega) aa s
                have asv:(PS (te S (gJ (dS leaf i) k) out)).set (s*1) (.int .u8 ((v+1:Nat):Int))=PS (te S (gJ (dS leaf i) (k+1)) out):=by rw[RN,te,←hse,←hve,W7]
                refine bI ?_;refine ae (aG (i:=gJ (dS leaf i) k) underlying53 ag rfl rfl rfl aa aB) rfl ?_;refine ae (au ag rfl aB aa (gd (v:=s) aa hse.symm)) rfl ?_;refine ae (aG (i:=s) underlying27 ag rfl rfl rfl aa aB) rfl ?_;refine ae (au (v:=.int .u8 (v:Int)) ag rfl aB aa (by rw[hve];exact ajx aa)) rfl ?_;refine ae (bY rfl rfl (r:=((v+1:Nat):Int)) ((aaE aa aa).trans aa)) rfl ?_;refine ae (aG (i:=s) underlying27 ag rfl rfl rfl aa aB) rfl ?_;refine kK (iL ag rfl rfl rfl aV (by rw[ajy];omega)) ?_;refine bB ?_;refine ve [6,7,9,10,11,12,84,85,86] ?_;refine bB ?_;refine av ⟨_,aa,k+1,aa,rfl,bm,.skip (ax rfl asv (.refl _))⟩
              · rw[aw (show¬(xw,xb).2=true by simpa using h91)]at RN;refine bD ?_;refine av ⟨_,aa,k+1,aa,rfl,bm,.skip (ax rfl (by rw[RN];rfl) (.refl _))⟩
            · obtain rfl:k=t:=by omega
              have hct:=Uz (dS leaf i) k;have hw2:=v_.le;have hck:=tz k;refine zM ?_;refine av ⟨_,aa,i,2*(k-gJ (dS leaf i) k),te S (gJ (dS leaf i) k) out,⟨aa,v_.wide amt.2,by have h:=hfo;rw[CG,sK]at h;exact h,by rw[rh];exact Kl,fun s=>by
  have:=Vw hnd (fun s hs=>by rw[Kl];exact IA s hs) (b:=14-i) (fun s=>by have:=hob s;omega) (n:=gJ (dS leaf i) k) aa s;omega,aa⟩,rfl,bm,.refl _⟩
          · obtain rfl:r=0:=by omega
            rw[CG,sK]at hfo;refine c_ ?_;refine ao (L':=.own 5 1 Lt l.length l.length (bv (kU (oN l) l.length))::F) (ax rfl (by rw[hbv,hfo]) (.skip (.skip (.trans (dA M _) (.skip (.refl _)))))) ?_;refine aE ?_;exact⟨Lt,l.length,rfl,rfl⟩
end
theorem atq{x:Int}(h:0≤x∧x≤100000000):IntKind.i64.wrap (x*2^min (1:Int).toNat IntKind.i64.bits)=x*2:=by
 have e:min (1:Int).toNat IntKind.i64.bits=1:=by decide
 rw[e];exact bG aa aa
theorem ag5{l:al}{s:Nat}{x:Int}(h:¬(l.getD s 0).toNat=0)(hx:x=(place l (l.getD s 0).toNat s:Int)):IntKind.u16.wrap x=code l s:=by
 unfold code;rw[aw h,hx]
theorem ag6(l:al)(hb:fq B w0 F A c l)(hg:Good l):a_ B w0 287 [.slice A l.length c] F (fun r L=>∃A' c',r= .tuple #[.slice A' l.length c',ah 0]∧L= .own 57 1 A' l.length c' (ints .u16 (gh l))::F):=by
 have hc:=zp l hb;rw[xF hg]at hc;have hf:=hg.1;have lZ:=hf.1;have xn:=Nj hf;have hf1:=xn.1;refine fw func287 63 [0] ?_;refine bz ?_;refine ai rfl (hc) ?_;refine bP ?_;refine dj fun kS=>?_;refine bI ?_;refine ai rfl (H5 l aB hf) ?_;refine bH ?_;refine bg fun g5=>?_;refine bB ?_;refine bg fun g7=>?_;refine bP ?_;refine aD (fun zf zL zm=>∃(k:Nat),(1≤k∧k≤16)∧16-k=zm∧Sub zf [(0,.slice A l.length c),(5,bq g5),(7,bq g7),(8,ah k)]∧Wk zL (.bE g7 430 (ints .i64 (x7 l k)):: .bE g5 426 (ints .i64 (qV l))::F)) _ ⟨1,⟨aa,aa⟩,rfl,bm,bp (by rw[←acf];rfl) (.refl _)⟩ ?_;rintro _ _ _ ⟨k,⟨xo,hk⟩,rfl,hs,hp⟩;refine aU hs hp ?_;clear hs hp;refine bD ?_;refine aj (fun oO=>?_) fun oO=>?_
 ·have e1:=ace l (gj k) aa;have e2:=cX l (k:=k) aa aa;have e3:=uY lZ hk;have e4:=w3 l k;have e5:=fA l xo;refine b8 ?_;refine cC (.bE g5 426 (ints .i64 (qV l))::F) ?_;refine ab 0 ?_;refine ab 1 ?_;refine ab 2 ?_;refine aW 3 rfl (aN underlying430 ag rfl rfl rfl aa) ?_;refine ab 5 ?_;refine aW 6 rfl (aN underlying426 ag rfl rfl rfl aa) ?_;refine aW 7 rfl (eZ ag rfl aV Gw) ?_;refine az 4 ?_;refine iM rfl .no (eZ ag rfl aV Gw) rfl gF ?_;refine ab 8 ?_;refine aW 9 rfl (gb rfl rfl aa (atq aa)) ?_;refine aW 10 rfl (aN (i:=k+1) underlying430 ag rfl rfl rfl aa) ?_;refine az 11 ?_;refine bP ?_;refine av ⟨_,aa,k+1,⟨aa,aa⟩,rfl,bm,bp (by rw[←Yf,e5,e1,e2];push_cast;rfl) (.refl _)⟩
 ·refine bP ?_;refine cH (fc uF rfl rfl rfl rfl rfl aa aa aa) fun A39=>?_;refine cD ?_;have amc:k=16:=by omega
  subst amc;refine aD (fun zf zL zm=>∃(s:Nat) (A9:bj),(s≤l.length)∧l.length-s=zm∧Sub zf [(7,bq g7),(9,.slice A9 l.length l.length),(40,.slice A l.length c),(41,ah l.length),(42,ah s)]∧Wk zL (.own 57 1 A9 l.length l.length (ints .u16 (Cf l s)):: .bE g7 430 (ints .i64 (vA l s)):: .bE g5 426 (ints .i64 (qV l))::F)) _ ⟨0,A39,bS _,rfl,bm,ax rfl (by rw[ZA];simp[ints]) (bp (by rw[Yi]) (.refl _))⟩ ?_;rintro _ _ _ ⟨s,A9,hs,rfl,hs,hp⟩;refine aU hs hp ?_;clear hs hp;refine bB ?_;refine aj (fun Yn=>?_) fun Yn=>?_
  ·have hu:=hf.2 _ (bh (k:=s) aa 0);have hp:=OQ lZ (k:=(l.getD s 0).toNat) aa s;refine zM ?_;refine aj (fun Rt=>?_) fun Rt=>?_
   ·have hfB:=Nr l s;have eB:=acg l (s:=s) (j:=(l.getD s 0).toNat) aa aa;refine bI ?_;refine ae (aN (i:=(l.getD s 0).toNat) underlying430 ag rfl rfl rfl aa) rfl ?_;refine ae (eZ ag rfl aV Gw) rfl ?_;refine ae (bw underlying3 underlying57 rfl (ag5 (s:=s) aa eB)) rfl ?_;refine aE ?_;refine kK (iL ag rfl rfl rfl aV (by rw[kx,ON l hs];omega)) ?_;refine b8 ?_;refine ae (aN (i:=(l.getD s 0).toNat) underlying430 ag rfl rfl rfl aa) rfl ?_;refine ae (eZ ag rfl aV Gw) rfl ?_;refine aE ?_;refine ae (aN (i:=(l.getD s 0).toNat) underlying430 ag rfl rfl rfl aa) rfl ?_;refine aE ?_;refine ve [7,9,40,41,42] ?_;refine bB ?_;refine av ⟨_,aa,s+1,A9,aa,rfl,bm,ax rfl (by rw[←IV aa,cE];simp[ints,Kx]) (bp (by rw[←Yh aa aa aa,eB]) (.refl _))⟩
   ·refine bD ?_;refine av ⟨_,aa,s+1,A9,aa,rfl,bm,ax rfl (by rw[←Zz aa aa]) (bp (by rw[←Yg aa aa]) (.refl _))⟩
  ·refine c_ ?_;have Bz:s=l.length:=by omega
   subst Bz;refine ao (ax rfl (by rw[ad8]) (.skip (.skip (.refl _)))) ?_;refine aE ?_;exact⟨A9,_,rfl,rfl⟩
section
variable{l:al}
theorem aoD{P:Prop}(h:P:=by(rw[←hmm];exact al9 (ia _ _) (iz _ _) (by omega))):P:=h
theorem aoJ{P:Prop}(h:P:=by(rw[←hff];exact ap8 (ia _ _) (by omega))):P:=h
theorem ald{P:Prop}(h:P:=by(rw[←zP,ahD (by omega) (by rw[←hy,←hw];omega)])):P:=h
abbrev kv(vl vc:Value)(a b:List Int)(sy:cV):cV:=vl::vc::(ints .i64 a++(ints .i64 b++sy))
section
variable{vl vc:Value}{a b:List Int}{sy:cV}{i:Nat}
theorem ap8(ha:a.length=16)(hi:i<16):(kv vl vc a b sy)[2+i]? =some (ah (a.getD i 0)):=by
 rw[show 2+i=i+1+1 by omega];simp only[VE];rw[z' bO];simp[ints,List.getD,fo (show i<a.length by omega)]
theorem al9(ha:a.length=16)(hb:b.length=16)(hi:i<16):(kv vl vc a b sy)[18+i]? =some (ah (b.getD i 0)):=by
 rw[show 18+i=(16+i)+1+1 by omega];simp only[VE];rw[sT bO,kx,ha,yi,z' bO];simp[ints,List.getD,fo (show i<b.length by omega)]
theorem al_(ha:a.length=16)(hb:b.length=16):(kv vl vc a b sy)[34+i]? =sy[i]? :=by
 rw[show 34+i=(32+i)+1+1 by omega];simp only[VE];rw[sT bO,kx,ha,show 32+i-16=16+i by omega,sT bO,kx,hb,yi]
theorem ahG(ha:a.length=16)(hi:i<16)(v:Int):(kv vl vc a b sy).set (2+i) (ah v)=kv vl vc (a.set i v) b sy:=by
 rw[show 2+i=i+1+1 by omega];simp only[N2];rw[List.set_append_left _ _ bO];simp[ints,Kx]
theorem ahH(ha:a.length=16)(hb:b.length=16)(hi:i<16)(v:Int):(kv vl vc a b sy).set (18+i) (ah v)=kv vl vc a (b.set i v) sy:=by
 rw[show 18+i=(16+i)+1+1 by omega];simp only[N2];rw[wX _ _ bO,kx,ha,yi,List.set_append_left _ _ bO];simp[ints,Kx]
theorem Vk(ha:a.length=16)(hb:b.length=16)(v:Value):(kv vl vc a b sy).set (34+i) v=kv vl vc a b (sy.set i v):=by
 rw[show 34+i=(32+i)+1+1 by omega];simp only[N2];rw[wX _ _ bO,kx,ha,show 32+i-16=16+i by omega,wX _ _ bO,kx,hb,yi]
end
theorem RE{vl vc:Value}{a b:List Int}{sy:cV}(ha:a.length=16)(hb:b.length=16)(hs:sy.length=16):(kv vl vc a b sy).length=50:=by
 simp[ha,hb,hs]
def ra(l:al)(s:Nat):List Int:=(List.range 16).map fun k=>if k=0∨num (l.take s) k=0 then 0 else (fst l k:Int)
def mf(l:al)(s:Nat):List Int:=(List.range 16).map fun k=>if k=0 then 0 else (num (l.take s) k:Int)
def mh(l:al)(s:Nat):List (bc):=(List.range 16).map fun k=>if k=0 then [] else jl l s k
@[simp] theorem ia(l:al)(s:Nat):(ra l s).length=16:=by simp[ra]
@[simp] theorem iz(l:al)(s:Nat):(mf l s).length=16:=by simp[mf]
@[simp] theorem an2(l:al)(s:Nat):(mh l s).length=16:=by simp[mh]
theorem NA{l:al}{k:Nat}(h:1≤k)(h2:k≤15):(ra l l.length).getD k 0=(oz l k:Int):=by
 have h3:¬k=0:=by omega
 simp only[ra,bk,jt,yg (show k<16 by omega),sP,vG,jN,h3,false_or];unfold oz;split<;>simp
theorem Iy{l:al}{k:Nat}(h:1≤k)(h2:k≤15):(mf l l.length).getD k 0=(num l k:Int):=by
 have h3:¬k=0:=by omega
 simp only[mf,bk,jt,yg (show k<16 by omega),sP,vG,jN,aw h3]
theorem IB{l:al}{k:Nat}(h:1≤k)(h2:k≤15):(mh l l.length).getD k []=ld l k:=by
 have h3:¬k=0:=by omega
 simp only[mh,bk,jt,yg (show k<16 by omega),sP,vG,aw h3,ld]
structure xj(B:Nat)(w0:World)(L:aR)(g:Nat)(l:al):Prop where
 co:∃(A1:bj) (c1:Nat) (A2:bj) (c2:Nat) (SY:List rK),Ch.bE g 347 (kv (.slice A1 l.length c1) (.slice A2 l.length c2) (ra l l.length) (mf l l.length) (SY.map jQ))∈L∧
  aL B w0 L 1 (.slice A1 l.length c1) l.length (bv l)∧aL B w0 L 1 (.slice A2 l.length c2) l.length (ints .u16 (gh l))∧SY.map (·.2.2)=mh l l.length∧∀e∈SY,aL B w0 L 1 (jQ e) e.2.2.length (bx e.2.2)
theorem xj.mono(h:xj B w0 L g l){M:aR}(hs:L.Sublist M):xj B w0 M g l:=by
 obtain⟨A1,c1,A2,c2,SY,h1,h2,h3,h4,h5⟩:=h;exact⟨A1,c1,A2,c2,SY,hs.subset h1,h2.mono hs,h3.mono hs,h4,fun e he=>(h5 e he).mono hs⟩
theorem xj.cons(h:xj B w0 L g l){x:Ch}:xj B w0 (x::L) g l:=h.mono (.cons _ (.refl _))
theorem mx.pI{c:Ch}:∀{L:aR},c∈L→∃f,mx c L f
 |x::L,h=>by
  rcases fm.1 h with e|e
  ·subst e;exact⟨_,.hd⟩
  ·obtain⟨f,hf⟩:=mx.pI e;exact⟨_,hf.tl⟩
theorem aq_{SY:List rK}{k:Nat}(h:SY.map (·.2.2)=mh l l.length)(h1:1≤k)(h2:k≤15):∃A c,(A,c,ld l k)∈SY∧(SY.map jQ)[k]? =some (.slice A (ld l k).length c):=by
 have hl:SY.length=16:=by have:=dC List.length h;simpa using this
 have hi:k<SY.length:=by omega
 have hg:=IB (l:=l) h1 h2;have e:(SY.map (·.2.2)).getD k []=ld l k:=by rw[h];exact hg
 rw[bk,jt,fo hi]at e;simp only[sP,vG]at e;refine⟨SY[k].1,SY[k].2.1,?_,?_⟩
 ·rw[←e];exact t_ hi
 ·rw[jt,fo hi,←e];rfl
theorem alM(x9:xj B w0 F g l)(hl:l.length≤300){x k:Nat}(h1:1≤k)(h2:k≤15)(hx:x<1000000):
  a_ B w0 351 [bq g,.int .u64 x,ah k] F (fun r L=>r= .tuple #[ah (((nx l x k).getD 0:Nat):Int),.bool (nx l x k).isSome]∧L=F):=by
 obtain⟨A1,c1,A2,c2,SY,hm,qf,oP,hsy,LF⟩:=x9;obtain⟨f,zR⟩:=mx.pI hm;have hff:=NA (l:=l) h1 h2;have hmm:=Iy (l:=l) h1 h2;have hss:=IB (l:=l) h1 h2;have Vn:=w3 l k;have hfc:oz l k≤39321600:=by
  unfold oz;split
  ·omega
  ·exact uY hl aa
 refine fw func351 39 [0,1,2] ?_;refine bP ?_;refine ae (bw underlying60 underlying3 rfl (r:=(x:Int)) (bG aa aa)) rfl ?_;refine b8 ?_;refine ae (aN (i:=k) underlying344 ag rfl rfl rfl aa) rfl ?_;refine ae (bL ag rfl zR (ap8 (ia _ _) aa)) rfl ?_;refine bD ?_;refine bR 12 29 [0,2,8] (¬(oz l k≤x∧x<oz l k+num l k)) ?_ ?_
 ·refine bH ?_;refine aI rfl rfl rfl (fun ja=>?_) (fun ja=>?_)
  ·refine bz ?_;refine ae (aN (i:=k) underlying344 ag rfl rfl rfl aa) rfl ?_;refine aE ?_;refine ae (bL ag rfl zR (al9 (ia _ _) (iz _ _) aa)) rfl ?_;refine bH ?_;exact aM oY
  ·refine bM ?_;exact aM vy
 ·refine be ?_;refine aj (fun qH=>?_) fun qH=>?_
  ·have e:nx l x k=none:=aw qH;rw[e];refine bP ?_;exact⟨rfl,rfl⟩
  ·have YF:=j0.1 qH;obtain⟨s,hs⟩:=cR ((ld l k).getD (x-oz l k) 0);have e:nx l x k=some s:=by rw[nx,aq YF,hs]
   rw[e];obtain⟨A3,c3,hm3,hv3⟩:=aq_ hsy h1 h2;have hb3:aL B w0 F 1 (.slice A3 (ld l k).length c3) (ld l k).length (bx (ld l k)):=LF _ hm3;have nP:=Fz l k;refine bM ?_;refine ae (aN (i:=k) underlying345 ag rfl rfl rfl aa) rfl ?_;refine ae (bL ag rfl zR ((al_ (ia _ _) (iz _ _)).trans hv3)) rfl ?_;refine aE ?_;refine ae (aG (i:=x-oz l k) underlying53 ag rfl rfl aa aa hb3) rfl ?_;refine ae (au ag rfl hb3 aa (gd (v:=s) aa hs.symm)) rfl ?_;refine bB ?_;exact⟨rfl,rfl⟩
theorem Pf{x d:Nat}{e:Int}(he:e=(d:Int))(hd:d≤15)(hx:x<1000000):IntKind.i64.wrap ((x:Int)*2^min e.toNat IntKind.i64.bits)=((x*2^d:Nat):Int):=by
 subst he;have e2:min ((d:Int)).toNat IntKind.i64.bits=d:=by
  show min _ 64=_;omega
 have hp:2^d≤2^15:=k_ aa hd;have hm:x*2^d≤1000000*2^15:=gN aa hp;rw[e2];have e3:(x:Int)*2^d=((x*2^d:Nat):Int):=by simp
 rw[e3];exact bG aa aa
theorem ahD{x k f j:Nat}(hj:j≤15)(h:¬(0<num l j∧x*2^(j-k)<oz l j+num l j∧oz l j<x*2^(j-k)+2^(j-k))):vX l x k (f+1) j=vX l x k f (j+1):=by
 rw[vX,aw aa,aw h]
theorem acF{x k f j:Nat}(hj:j≤15)(h:0<num l j∧x*2^(j-k)<oz l j+num l j∧oz l j<x*2^(j-k)+2^(j-k)):vX l x k (f+1) j=true:=by
 rw[vX,aw aa,aq h]
theorem acE{x k f j:Nat}(hj:¬j≤15):vX l x k f j=false:=by
 cases f with
 |zero=>rfl
 |succ f=>rw[vX,aq aa]
theorem aa'(x9:xj B w0 F g l)(hl:l.length≤300){x k:Nat}(h2:k≤15)(hx:x<32768):
  a_ B w0 353 [bq g,.int .u64 x,ah k] F (fun r L=>r= .bool (acD l x k)∧L=F):=by
 obtain⟨A1,c1,A2,c2,SY,hm,qf,oP,hsy,LF⟩:=x9;obtain⟨f,zR⟩:=mx.pI hm;refine fw func353 60 [0,1,2] ?_;refine dX ?_;refine aD (fun zf zL zm=>∃(j fu:Nat),(k+1≤j∧j≤16∧16≤j+fu∧vX l x k fu j=acD l x k)∧16-j=zm∧Sub zf [(0,bq g),(1,.int .u64 x),(2,ah k),(7,ah j)]∧Wk zL (F)) _ ⟨k+1,15,⟨gj _,aa,aa,rfl⟩,rfl,bm,.refl _⟩ ?_;rintro _ _ _ ⟨j,fu,⟨hj1,hj2,hfu,zP⟩,rfl,hs,hp⟩;refine aU hs hp ?_;clear hs hp;refine bD ?_;refine aj (fun mF=>?_) fun mF=>?_
 ·obtain⟨f',rfl⟩:∃f',fu=f'+1:=⟨fu-1,aa⟩
  have hff:=NA (l:=l) (k:=j) aa aa;have hmm:=Iy (l:=l) (k:=j) aa aa;have Vn:=w3 l j;have B_:2^(j-k)≤2^15:=k_ aa aa;have hp2:x*2^(j-k)≤32768*2^15:=gN aa B_;have hfc:oz l j≤39321600:=by
   unfold oz;split
   ·omega
   ·exact uY hl aa
  obtain⟨y,hy⟩:=cR (x*2^(j-k));obtain⟨w,hw⟩:=cR (2^(j-k));refine bD ?_;refine ae (bw underlying60 underlying3 rfl (r:=(x:Int)) (bG aa aa)) rfl ?_;refine bH ?_;refine ae (gb rfl rfl aa (r:=(y:Int)) (by rw[hy];exact Pf (d:=j-k) aa aa aa)) rfl ?_;refine bP ?_;refine bU (aN (i:=j) underlying344 ag rfl rfl rfl aa) rfl ?_;refine bU (bL (v:=ah ((num l j:Nat):Int)) ag rfl zR aoD) rfl ?_;refine be ?_;refine m_ rfl rfl rfl (fun q9=>?_) (fun q9=>?_)
  ·refine bz ?_;refine bU (aN (i:=j) underlying344 ag rfl rfl rfl aa) rfl ?_;refine aE ?_;refine bU (bL (v:=ah ((oz l j:Nat):Int)) ag rfl zR aoJ) rfl ?_;refine bP ?_;refine bU (aN (i:=j) underlying344 ag rfl rfl rfl aa) rfl ?_;refine aE ?_;refine bU (bL (v:=ah ((num l j:Nat):Int)) ag rfl zR aoD) rfl ?_;refine bB ?_;refine m_ rfl rfl rfl (fun h45=>?_) (fun h45=>?_)
   ·refine bM ?_;refine bU (gb rfl rfl aa (r:=(w:Int)) (by have:=Pf (x:=1) (d:=j-k) (e:=(j:Int)-k) aa aa aa;rw[rm]at this;rw[hw];exact this)) rfl ?_;refine dm ?_;refine bU (aN (i:=j) underlying344 ag rfl rfl rfl aa) rfl ?_;refine aE ?_;refine bU (bL (v:=ah ((oz l j:Nat):Int)) ag rfl zR aoJ) rfl ?_;refine bH ?_;refine mu [(0,_),(1,_),(2,_),(7,_),(59,_)] ⟨rfl,rfl,rfl,rfl,rfl,trivial⟩ ?_;refine aE ?_;refine aj (fun h59=>?_) fun h59=>?_
    ·rw[acF aa ⟨aa,by rw[←hy];omega,(by rw[←hy,←hw];omega)⟩]at zP;rw[←zP];refine cD ?_;exact⟨rfl,rfl⟩
    ·refine bM ?_;refine av ⟨_,aa,j+1,f',⟨aa,aa,aa,ald⟩,rfl,bm,.refl _⟩
   ·refine c_ ?_;refine mu [(0,_),(1,_),(2,_),(7,_),(59,_)] ⟨rfl,rfl,rfl,rfl,rfl,trivial⟩ ?_;refine bz ?_;refine av ⟨_,aa,j+1,f',⟨aa,aa,aa,ald⟩,rfl,bm,.refl _⟩
  ·refine arT ?_;refine mu [(0,_),(1,_),(2,_),(7,_),(59,_)] ⟨rfl,rfl,rfl,rfl,rfl,trivial⟩ ?_;refine bz ?_;refine av ⟨_,aa,j+1,f',⟨aa,aa,aa,ald⟩,rfl,bm,.refl _⟩
 ·rw[acE aa]at zP;rw[←zP];refine cD ?_;exact⟨rfl,rfl⟩
theorem ads(x9:xj B w0 F g l){s:Nat}(hs:s<l.length)(hl:l.length≤300):
  a_ B w0 288 [bq g,ah s] F (fun r L=>r=ah ((l.getD s 0).toNat:Int)∧L=F):=by
 obtain⟨A1,c1,A2,c2,SY,hm,qf,oP,hsy,LF⟩:=x9;obtain⟨f,zR⟩:=mx.pI hm;have hbv:(bv l)[s*1]? =some (.int .u8 ((l.getD s 0).toNat:Int)):=by rw[cE];simp[bv,List.getD,fo hs]
 have hu:=(l.getD s 0).toNat_lt;refine fw func288 24 [0,1] ?_;refine bM ?_;refine bR 11 15 [0,1] (False) ?_ ?_
 ·refine bH ?_;refine aI rfl rfl rfl (fun h7=>?_) (fun h7=>?_)
  ·refine bM ?_;refine ae (bL ag rfl zR rfl) rfl ?_;refine bI ?_;exact aM (by exact dU (by first|(exact⟨fun h=>absurd h (by omega),False.elim⟩)|omega|(simp;done)))
  ·refine bD ?_;exact aM alc
 ·refine be ?_;refine dj fun kS=>?_;refine bD ?_;refine ae (bL ag rfl zR rfl) rfl ?_;refine be ?_;refine ae (au ag rfl qf aa hbv) rfl ?_;refine ae (bw underlying5 underlying3 rfl (r:=((l.getD s 0).toNat:Int)) (bG aa aa)) rfl ?_;refine bI ?_;exact⟨rfl,rfl⟩
theorem acW(x9:xj B w0 F g l){s:Nat}(hs:s<l.length)(hl:l.length≤300):
  a_ B w0 249 [bq g,ah s] F (fun r L=>r=ah ((l.getD s 0).toNat:Int)∧L=F):=by
 refine fw func249 12 [0,1] ?_;refine GL ?_;refine ai rfl (ads x9 hs hl) ?_;refine bI ?_;exact⟨rfl,rfl⟩
theorem RU(hg:Good l)(x9:xj B w0 F g l){s:Nat}(hs:s<l.length)(h0:(l.getD s 0).toNat≠0)(hq:q.length≤7000000):
  a_ B w0 205 [bq g,bq g2,ah s] (Wx X g2 bt A c q F) (fun r L=>r=ah 0∧∃A' c',L=Wx X g2 bt A' c' (q++hw l s) F):=by
 have hl:=hg.1.1;obtain⟨A1,c1,A2,c2,SY,hm,qf,oP,hsy,LF⟩:=x9.co;obtain⟨f,zR⟩:=mx.pI hm;have hcv:=MI hg hs h0;have asX:=hg.1.2 _ (bh hs 0);have IA:=QV hg hs h0;have mG:=yI hs rfl;have Qd:=qY hg (k:=(l.getD s 0).toNat) aa asX;have hcc:(ints .u16 (gh l))[s*1]? =some (.int .u16 ((place l (l.getD s 0).toNat s:Nat):Int)):=by
  rw[cE,←hcv,←wI l hs];simp[ints,List.getD,fo (show s<(gh l).length by simpa using hs)]
 refine fw func205 33 [0,1,2] ?_;refine alZ ?_;refine ai rfl (acW x9.cons.cons hs hl) ?_;refine bB ?_;refine dj fun jB=>?_;refine b8 ?_;refine cC F ?_;refine ab 0 ?_;refine ab 1 ?_;refine ab 2 ?_;refine ab 3 ?_;refine ab 4 ?_;refine aW 5 rfl (bL ag rfl zR rfl) ?_;refine ab 6 ?_;refine ab 7 ?_;refine aW 8 rfl (au ag rfl oP aa hcc) ?_;refine aW 9 rfl (bw underlying57 underlying60 rfl (r:=((place l (l.getD s 0).toNat s:Nat):Int)) (ga aa aa)) ?_;refine ab 10 ?_;refine ab 11 ?_;refine az 12 ?_;refine iZ rfl rfl (acW x9.cons.cons hs hl) ?_;refine az 13 ?_;refine gC rfl .no Dk rfl (Be q (place l (l.getD s 0).toNat s) aa (l.getD s 0).toNat aa aa hq) rfl (by rintro _ _ ⟨rfl,LS,Mx,rfl⟩;exact gF) ?_;rintro _ _ ⟨rfl,LS,Mx,cJ⟩;obtain rfl:=cJ.symm;refine ab 14 ?_;refine cP [6] ?_;refine bH ?_;exact⟨rfl,LS,Mx,rfl⟩
end
section
variable{l:al}
theorem YE{p m f k s:Nat}(hk:k≤m)(h:nx l (part q p k) k=some s):ny l q p m (f+1) k=some (s,k):=by
 rw[ny,aw aa,h]
theorem acQ{p m f k:Nat}(hk:k≤m)(h:nx l (part q p k) k=none):ny l q p m (f+1) k=ny l q p m f (k+1):=by
 rw[ny,aw aa,h]
theorem YD{p m f k:Nat}(hk:m<k):ny l q p m f k=none:=by
 cases f with
 |zero=>rfl
 |succ f=>rw[ny,aq hk]
theorem acS{p s k:Nat}(h:ny l q p (there q p) 15 1=some (s,k)):fC l q p=((s:Int),0,p+k):=by
 unfold fC;rw[h]
theorem ahJ{p:Nat}(h:ny l q p (there q p) 15 1=none):fC l q p=(-1,if there q p<15∧acD l (part q p (there q p)) (there q p)=true then 1 else 7,p):=by
 unfold fC;rw[h]
theorem OP(q:List Bool)(p:Nat){k:Nat}(hk:k≤15){e:Int}(he:e=((15-k:Nat):Int)):((part q p 15:Nat):Int).fdiv (2^min e.toNat IntKind.u64.bits)=((part q p k:Nat):Int):=by
 have:=Fo (part q p 15) (x:=e) (e:=15-k) he aa;rw[this];have h2:=pJ q p k (15-k);rw[show k+(15-k)=15 by omega]at h2;rw[h2]
theorem amb(x9:xj B w0 F g l)(hl:l.length≤300){p:Nat}(hp:p≤q.length)(hq:q.length≤8000000):
  a_ B w0 347 [bq g,bq g2] (Rr g2 A c q p F) (fun r L=>r= .tuple #[ah (fC l q p).1,ah (fC l q p).2.1]∧L=Rr g2 A c q (fC l q p).2.2 F):=by
 have hth:there q p≤15∧p+there q p≤q.length:=by unfold there;omega
 have hpn:pkN q p 15=(there q p:Int):=by unfold pkN there;rw[aw aa];omega
 have hpv:pkV q p 15=part q p 15:=by unfold pkV;rw[aw aa];rfl
 have mG:∀k,k≤15→part q p k<32768:=fun k hk=>wh (qt q p k) (k_ (n:=2) aa hk);have x':=anh (B:=B) (w0:=w0) (F:=F) (A:=A) (c:=c) (g:=g2) q p hp hq 15 aa aa;rw[hpn,hpv]at x';refine fw func347 49 [0,1] ?_;refine zM ?_;refine ai rfl (x') ?_;refine dX ?_;refine aD (fun zf zL zm=>∃(k fu:Nat),(1≤k∧k≤16∧16≤k+fu∧ny l q p (there q p) fu k=ny l q p (there q p) 15 1)∧16-k=zm∧Sub zf [(0,bq g),(1,bq g2),(6,.int .u64 (part q p 15)),(7,ah (there q p)),(8,ah k)]∧Wk zL (Rr g2 A c q p F)) _ ⟨1,15,⟨gj _,aa,aa,rfl⟩,rfl,bm,.refl _⟩ ?_;rintro _ _ _ ⟨k,fu,⟨xo,Iw,hfu,wN⟩,rfl,hs,hp⟩;refine aU hs hp ?_;clear hs hp;refine bM ?_;refine aj (fun ja=>?_) fun ja=>?_
 ·obtain⟨f',rfl⟩:∃f',fu=f'+1:=⟨fu-1,aa⟩
  have aqs:=mG k aa;refine bz ?_;refine ae (di rfl rfl aa (OP q p (k:=k) aa aa)) rfl ?_;refine aE ?_;refine ai rfl (alM (k:=k) (x:=part q p k) x9.cons.cons hl xo aa aa) ?_;refine cD ?_;refine h_ (fun h33=>?_) fun h33=>?_
  ·obtain⟨s,hs⟩:=Option.isSome_iff_exists.1 h33;rw[YE aa hs]at wN;rw[acS wN.symm,hs];have LJ:skP q p (k:Int)=p+k:=by unfold skP;rw[aw aa,aw aa];omega
   refine b8 ?_;refine ai rfl (anx q p hp hq k aa aa) ?_;rw[LJ];refine ve [9] ?_;refine i_ ?_;exact⟨rfl,rfl⟩
  ·refine bD ?_;refine ve [0,1,6,7,8] ?_;refine av ⟨_,aa,k+1,f',⟨aa,aa,aa,by rw[←wN,acQ aa (by simpa using h33)]⟩,rfl,bm,.refl _⟩
 ·rw[YD aa]at wN;rw[ahJ wN.symm];have aqs:=mG (there q p) hth.1;refine bM ?_;refine bR 11 48 [] (there q p<15∧acD l (part q p (there q p)) (there q p)=true) ?_ ?_
  ·refine bH ?_;refine ct (fun h40=>?_) fun h40=>?_
   ·refine bM ?_;refine ae (di rfl rfl aa (OP q p hth.1 aa)) rfl ?_;refine bH ?_;refine ai rfl (aa' x9.cons.cons hl hth.1 aqs) ?_;refine aE ?_;exact aM (by exact oG aor)
   ·refine bD ?_;exact aM aok
  ·refine be ?_;refine aj (fun Rt=>?_) fun Rt=>?_
   ·rw[aq Rt];refine bP ?_;exact⟨rfl,rfl⟩
   ·rw[aw Rt];refine bz ?_;exact⟨rfl,rfl⟩
end
section
variable{l:al}
theorem aoE{P:Prop}(h:P:=by(rw[←hma];exact al9 (ia _ _) (iz _ _) (by omega))):P:=h
theorem aoz{P:Prop}(h:P:=by(show 34+k<_;rw[RE (ia _ _) (iz _ _) Yv];omega)):P:=h
theorem aoC{P:Prop}(h:P:=by(rw[ai9 (e':=(A69,c69,jl l s k++[s])) Vj (by simp)])):P:=h
theorem EP{s k:Nat}(hs:s<l.length):num (l.take (s+1)) k=num (l.take s) k+if (l.getD s 0).toNat=k then 1 else 0:=jT k hs
theorem YC{s:Nat}(hs:s<l.length)(h:(l.getD s 0).toNat=0):ra l (s+1)=ra l s:=by
 unfold ra;refine sa fun k _=>?_;by_cases e:k=0
 ·simp[e]
 ·rw[EP hs,aw (show¬(l.getD s 0).toNat=k by omega),tf]
theorem RP{s:Nat}(hs:s<l.length)(h:(l.getD s 0).toNat=0):mf l (s+1)=mf l s:=by
 unfold mf;refine sa fun k _=>?_;by_cases e:k=0
 ·simp[e]
 ·rw[EP hs,aw (show¬(l.getD s 0).toNat=k by omega),tf]
theorem RX{s:Nat}(h:(l.getD s 0).toNat=0):mh l (s+1)=mh l s:=by
 unfold mh;refine sa fun k _=>?_;by_cases e:k=0
 ·simp[e]
 ·rw[aw e,aw e,m9,aw aa,gk]
theorem YB{s k:Nat}(hs:s<l.length)(h:(l.getD s 0).toNat=k)(h2:num (l.take s) k≠0):ra l (s+1)=ra l s:=by
 unfold ra;refine sa fun j _=>?_;rw[EP hs];by_cases e:(l.getD s 0).toNat=j
 ·have:j=k:=by omega
  subst this;simp[h2]
 ·rw[aw e];rfl
theorem acP{s k:Nat}(hs:s<l.length)(h:(l.getD s 0).toNat=k)(h0:k≠0)(h2:num (l.take s) k=0):(ra l s).set k (fst l k:Int)=ra l (s+1):=by
 apply p6
 ·simp
 ·intro i h3 h4;rw[Od];simp only[ra,Eu,G4,EP hs];by_cases e:k=i
  ·subst e;rw[aq rfl,aw];rintro(e|e)
   ·exact h0 e
   ·rw[aq h]at e;omega
  ·rw[aw e,aw (show¬(l.getD s 0).toNat=i by omega)];rfl
theorem YH{s k:Nat}(hs:s<l.length)(h:(l.getD s 0).toNat=k)(h0:k≠0):(mf l s).set k ((num (l.take s) k+1:Nat):Int)=mf l (s+1):=by
 apply p6
 ·simp
 ·intro i h3 h4;rw[Od];simp only[mf,Eu,G4,EP hs];by_cases e:k=i
  ·subst e;rw[aq rfl,aw h0,aq h]
  ·rw[aw e,aw (show¬(l.getD s 0).toNat=i by omega)];rfl
theorem acY{s k:Nat}(h:1≤k)(h2:k≤15):(mf l s).getD k 0=(num (l.take s) k:Int):=by
 have h3:¬k=0:=by omega
 simp only[mf,bk,jt,yg (show k<16 by omega),sP,vG,aw h3]
theorem YK{s k:Nat}(h:(l.getD s 0).toNat=k)(h0:k≠0):(mh l s).set k (jl l s k++[s])=mh l (s+1):=by
 apply p6
 ·simp
 ·intro i h3 h4;rw[Od];simp only[mh,Eu,G4];by_cases e:k=i
  ·subst e;rw[aq rfl,aw h0,m9,aq h]
  ·rw[aw e];by_cases e2:i=0
   ·rw[aq e2,aq e2]
   ·rw[aw e2,aw e2,m9,aw aa,gk]
theorem hzero(l:al):ra l 0=List.replicate 16 0∧mf l 0=List.replicate 16 0∧mh l 0=List.replicate 16 []:=by
 refine⟨?_,?_,?_⟩
 ·simp[ra,num];decide
 ·simp[mf,num];decide
 ·simp[mh,jl];decide
theorem ae7{SY:List rK}{s k:Nat}(h:SY.map (·.2.2)=mh l s)(h1:1≤k)(h2:k≤15):∃(X:List rK) (A:bj) (c:Nat) (Y:List rK),SY=X++(A,c,jl l s k)::Y∧X.length=k:=by
 have hl:SY.length=16:=by have:=dC List.length h;simpa using this
 have hi:k<SY.length:=by omega
 have e:(SY.map (·.2.2))[k]? =some (jl l s k):=by
  rw[h];simp[mh,show k<16 by omega,show¬k=0 by omega]
 rw[jt,fo hi]at e;simp only[sP,Et]at e;refine⟨SY.take k,SY[k].1,SY[k].2.1,SY.drop (k+1),?_,nt⟩
 conv=>lhs;rw[←jO k SY,Oa hi]
 rw[←e]
theorem anG(X:List rK)(e e':rK)(Y:List rK):((X++e::Y).map jQ).set X.length (jQ e')=(X++e'::Y).map jQ:=by simp
theorem WO{X Y:List rK}{A A':bj}{c c' s k:Nat}(h:(X++(A,c,jl l s k)::Y).map (·.2.2)=mh l s)(hX:X.length=k)(hk:(l.getD s 0).toNat=k)(h0:k≠0):(X++(A',c',jl l s k++[s])::Y).map (·.2.2)=mh l (s+1):=by
 rw[←YK hk h0,←h,←hX];simp
theorem ai9{X:List rK}{e e':rK}{Y:List rK}{k:Nat}{v:Value}(h:X.length=k)(hv:v=jQ e'):((X++e::Y).map jQ).set k v=(X++e'::Y).map jQ:=by
 subst h;subst hv;exact anG X e e' Y
theorem Fi(X:List rK)(e:rK)(Y:List rK)(R:aR):((X++e::Y).map jP++R).Perm (jP e::(X.map jP++(Y.map jP++R))):=by
 rw[jd,kz,bV];exact yp
theorem BX{C:Cx}{cd:Code}{Q:Exit→Fr→aR→Prop}{fr:Fr}{L:aR}(e:TypeId):∀(m:Nat),VC C cd Q fr (List.replicate m (.own e 1 none 0 0 [])++L)→VC C cd Q fr L
 |0,h=>h
 |m+1,h=>BX e m (aY e 1 none h)
theorem adO(hb:fq B w0 F A c l)(hg:Good l):a_ B w0 248 [.slice A l.length c] F (fun r L=>∃g X,r= .tuple #[bq g,ah 0]∧L=X++F∧xj B w0 X g l):=by
 have hl:=hg.1.1;refine fw func248 75 [0] ?_;refine bP ?_;refine ay rfl (ag6 l aB hg) fun tE xl=>?_;refine dX ?_;refine dj fun kS=>?_;refine bI ?_;refine ay rfl (l9 l aB aa) fun s8 uR=>?_;refine aE ?_;refine ae (eG [(0,_),(1,_)] [_,_] rfl rfl ag) rfl ?_;refine ae (br [(0,_)] [.slice none 0 0,.slice none 0 0,ah 0,ah 0,ah 0,ah 0,ah 0,ah 0,ah 0,ah 0,ah 0,ah 0,ah 0,ah 0,ah 0,ah 0,ah 0,ah 0,ah 0,ah 0,ah 0,ah 0,ah 0,ah 0,ah 0,ah 0,ah 0,ah 0,ah 0,ah 0,ah 0,ah 0,ah 0,ah 0,.slice none 0 0,.slice none 0 0,.slice none 0 0,.slice none 0 0,.slice none 0 0,.slice none 0 0,.slice none 0 0,.slice none 0 0,.slice none 0 0,.slice none 0 0,.slice none 0 0,.slice none 0 0,.slice none 0 0,.slice none 0 0,.slice none 0 0,.slice none 0 0] [0] [_,_,_,_,_,_,_,_,_,_,_,_,_,_,_,_,_,_,_,_,_,_,_,_,_,_,_,_,_,_,_,_,_,_,_,_,_,_,_,_,_,_,_,_,_,_,_,_,_,_] rfl rfl ag) rfl ?_;refine bf fun g22=>?_;refine bI ?_;refine BX 3 16 ?_;refine b8 ?_;refine ve [4,6,23,24,25] ?_;refine be ?_;refine aD (fun zf zL zm=>∃(s:Nat) (SY:List rK),(s≤l.length∧SY.map (·.2.2)=mh l s)∧l.length-s=zm∧Sub zf [(4,.slice tE l.length xl),(6,bq g22),(23,.slice A l.length c),(24,ah l.length),(25,ah s)]∧Wk zL (.bE g22 347 (kv (.slice s8 l.length uR) (.slice tE l.length xl) (ra l s) (mf l s) (SY.map jQ))::(SY.map jP++(.own 5 1 s8 l.length uR (bv l):: .own 57 1 tE l.length xl (ints .u16 (gh l))::F)))) _ ⟨0,List.replicate 16 (none,0,[]),⟨bS _,by rw[(hzero l).2.2];rfl⟩,rfl,bm,.trans (.dE yp) (bp (by rw[(hzero l).1,(hzero l).2.1];rfl) (.refl _))⟩ ?_;rintro _ _ _ ⟨s,SY,⟨hs,hSY⟩,rfl,hs,hp⟩;refine aU hs hp ?_;clear hs hp;refine bB ?_;refine aj (fun qG=>?_) fun qG=>?_
 ·obtain⟨k,hk⟩:=cR ((l.getD s 0).toNat);have YG:k≤15:=by rw[hk];exact hg.1.2 _ (bh aa 0)
  have hbv:(bv l)[s*1]? =some (.int .u8 (k:Int)):=by rw[hk,cE];simp[bv,List.getD,fo (show s<l.length by omega)]
  have Vn:=ux l s k;have atZ:=w3 l k;have hbS:aL B w0 (SY.map jP++(.own 5 1 s8 l.length uR (bv l):: .own 57 1 tE l.length xl (ints .u16 (gh l))::F)) 1 (.slice A l.length c) l.length (bv l):=hb.cons.cons.mono (gz _ _);have hbC:aL B w0 (SY.map jP++(.own 5 1 s8 l.length uR (bv l):: .own 57 1 tE l.length xl (ints .u16 (gh l))::F)) 1 (.slice tE l.length xl) l.length (ints .u16 (gh l)):=aL.own (nB _ (.tail _ (.head _)));have Yv:(SY.map jQ).length=16:=by have:=dC List.length hSY;simpa using this
  refine bD ?_;refine ae (aG (i:=s) underlying27 ag rfl rfl rfl aa hbS.cons) rfl ?_;refine ae (au ag rfl hbS.cons aa hbv) rfl ?_;refine dm ?_;refine aj (fun D4=>?_) fun D4=>?_
  ·have CA:(l.getD s 0).toNat=0:=by omega
   refine bM ?_;refine av ⟨_,aa,s+1,SY,⟨aa,by rw[RX CA];exact hSY⟩,rfl,bm,bp (by rw[YC aa CA,RP aa CA]) (.refl _)⟩
  ·have xo:1≤k:=by omega
   have hma:=acY (l:=l) (s:=s) xo YG;refine be ?_;refine d_ (fun zf zL=>Sub zf [(4,.slice tE l.length xl),(6,bq g22),(7,ah s),(8,.int .u8 (k:Int)),(23,.slice A l.length c),(24,ah l.length),(25,ah s)]∧Wk zL (.bE g22 347 (kv (.slice s8 l.length uR) (.slice tE l.length xl) (ra l (s+1)) (mf l s) (SY.map jQ))::(SY.map jP++(.own 5 1 s8 l.length uR (bv l):: .own 57 1 tE l.length xl (ints .u16 (gh l))::F)))) ?_ ?_
   ·refine bB ?_;refine ae (aN (i:=k) underlying344 ag rfl rfl rfl aa) rfl ?_;refine ae (bL (v:=ah ((num (l.take s) k:Nat):Int)) ag rfl aV aoE) rfl ?_;refine bH ?_;refine aj (fun Gh=>?_) fun Gh=>?_
    ·have hn0:num (l.take s) k=0:=by omega
     have hcv:=MI hg (s:=s) aa aa;rw[←hk]at hcv;have mG:place l k s=fst l k:=by unfold place;omega
     rw[mG]at hcv;have hfb:=qY hg xo YG;have at2:2^k≤2^15:=k_ aa YG;have hcc:(ints .u16 (gh l))[s*1]? =some (.int .u16 ((fst l k:Nat):Int)):=by
      rw[cE,←hcv,←wI l aa];simp[ints,List.getD,fo (show s<(gh l).length by rw[GB];omega)]
     refine cC (SY.map jP++(.own 5 1 s8 l.length uR (bv l):: .own 57 1 tE l.length xl (ints .u16 (gh l))::F)) ?_;refine ab 0 ?_;refine ab 1 ?_;refine ab 2 ?_;refine ab 3 ?_;refine aW 4 rfl (aG (i:=s) underlying159 ag rfl rfl rfl aa hbC) ?_;refine aW 5 rfl (au ag rfl hbC aa hcc) ?_;refine aW 6 rfl (bw underlying57 underlying3 rfl (r:=((fst l k:Nat):Int)) (bG aa aa)) ?_;refine ab 7 ?_;refine ab 8 ?_;refine aW 9 rfl (aN (i:=k) underlying344 ag rfl rfl rfl aa) ?_;refine az 10 ?_;refine kO rfl .no (oI ag rfl rfl rfl aV (by show 2+k<_;rw[RE (ia _ _) (iz _ _) Yv];omega)) Gy ?_;rintro _ _ rfl;refine cP [4,6,7,8,23,24,25] ?_;exact bC ⟨bm,bp ((ahG (i:=k) (ia l s) aa _).trans (by rw[acP aa hk.symm aa hn0])) (.refl _)⟩
    ·refine aE ?_;exact bC ⟨bm,bp (by rw[YB aa hk.symm aa]) (.refl _)⟩
   ·rintro _ _ ⟨hs,hp⟩;refine aU hs hp ?_;clear hs hp;refine aE ?_;refine cC (SY.map jP++(.own 5 1 s8 l.length uR (bv l):: .own 57 1 tE l.length xl (ints .u16 (gh l))::F)) ?_;refine ab 0 ?_;refine ab 1 ?_;refine ab 2 ?_;refine ab 3 ?_;refine aW 4 rfl (aN (i:=k) underlying344 ag rfl rfl rfl aa) ?_;refine ab 7 ?_;refine ab 8 ?_;refine az 5 ?_;refine iM rfl .no (bL (v:=ah ((num (l.take s) k:Nat):Int)) ag rfl aV aoE) rfl gF ?_;refine aW 6 rfl (bY rfl rfl (r:=((num (l.take s) k+1:Nat):Int)) ((bG aa aa).trans aa)) ?_;refine aW 9 rfl (aN (i:=k) underlying344 ag rfl rfl rfl aa) ?_;refine az 10 ?_;refine kO rfl .no (oI ag rfl rfl rfl aV (by show 18+k<_;rw[RE (ia _ _) (iz _ _) Yv];omega)) Gy ?_;rintro _ _ rfl;refine be ?_;obtain⟨X,Ae,ce,Y,hXY,Vj⟩:=ae7 hSY xo YG;subst hXY;have auc:=vn l k s aa;refine yX (L':=.bE g22 347 (kv (.slice s8 l.length uR) (.slice tE l.length xl) (ra l (s+1)) (mf l (s+1)) ((X++(Ae,ce,jl l s k)::Y).map jQ)):: .own 3 1 Ae (jl l s k).length ce (bx (jl l s k))::(X.map jP++(Y.map jP++(.own 5 1 s8 l.length uR (bv l):: .own 57 1 tE l.length xl (ints .u16 (gh l))::F)))) (.trans (bp ((ahH (i:=k) (ia l (s+1)) (iz l s) aa _).trans (by rw[YH aa hk.symm aa])) (.refl _)) (.dE ((Fi X _ Y _).cons _))) ?_;refine cC (X.map jP++(Y.map jP++(.own 5 1 s8 l.length uR (bv l):: .own 57 1 tE l.length xl (ints .u16 (gh l))::F))) ?_;refine ab 0 ?_;refine ab 1 ?_;refine ab 2 ?_;refine ab 3 ?_;refine ab 4 ?_;refine ab 5 ?_;refine aW 6 rfl (aN (i:=k) underlying345 ag rfl rfl rfl aa) ?_;refine ab 8 ?_;refine ab 11 ?_;refine ab 12 ?_;refine gU 7 9 ?_ ?_
    ·refine iM rfl .no (bL (v:=.slice Ae (jl l s k).length ce) ag rfl aV ((al_ (i:=k) (ia _ _) (iz _ _)).trans (by simp[←Vj]))) rfl gF ?_;refine az 9 ?_;refine cQ rfl (aF fM [_] rfl rfl cA aa aa) fun A68=>?_;refine az 10 ?_;refine eW rfl (bW fM rfl aV rfl aB cA aa aa) fun A69 c69=>?_;refine aW 13 rfl (aN (i:=k) underlying345 ag rfl rfl rfl aa) ?_;refine az 14 ?_;refine kO rfl .no (oI ag rfl rfl rfl aV aoz) Gy ?_;rintro _ _ rfl;refine cP [4,6,23,24,25] ?_;refine bB ?_;refine av ⟨_,aa,s+1,X++(A69,c69,jl l s k++[s])::Y,⟨aa,WO hSY Vj hk.symm aa⟩,rfl,bm,.trans ((gl (gl (.skip (.refl _))))) (.trans (bp ((Vk (i:=k) (ia l (s+1)) (iz l (s+1)) _).trans aoC) (ax ak sG (.refl _))) (.dE ((Fi X (A69,c69,jl l s k++[s]) Y _).symm.cons _)))⟩
    ·refine cQ rfl (aF fM [_] rfl rfl cA aa aa) fun A68=>?_;refine az 7 ?_;refine iM rfl .no (bL (v:=.slice Ae (jl l s k).length ce) ag rfl aV ((al_ (i:=k) (ia _ _) (iz _ _)).trans (by simp[←Vj]))) rfl gF ?_;refine az 10 ?_;refine eW rfl (bW fM rfl aV rfl aB cA aa aa) fun A69 c69=>?_;refine aW 13 rfl (aN (i:=k) underlying345 ag rfl rfl rfl aa) ?_;refine az 14 ?_;refine kO rfl .no (oI ag rfl rfl rfl aV aoz) Gy ?_;rintro _ _ rfl;refine cP [4,6,23,24,25] ?_;refine bB ?_;refine av ⟨_,aa,s+1,X++(A69,c69,jl l s k++[s])::Y,⟨aa,WO hSY Vj hk.symm aa⟩,rfl,bm,.trans ((gl (gl (.skip (.refl _))))) (.trans (bp ((Vk (i:=k) (ia l (s+1)) (iz l (s+1)) _).trans aoC) (ax ak sG (.refl _))) (.dE ((Fi X (A69,c69,jl l s k++[s]) Y _).symm.cons _)))⟩
 ·obtain rfl:s=l.length:=by omega
  refine c_ ?_;refine ao (L':=(.bE g22 347 (kv (.slice s8 l.length uR) (.slice tE l.length xl) (ra l l.length) (mf l l.length) (SY.map jQ))::(SY.map jP++[.own 5 1 s8 l.length uR (bv l),.own 57 1 tE l.length xl (ints .u16 (gh l))]))++F) (.dE ak) ?_;refine aE ?_;exact⟨g22,_,rfl,rfl,⟨s8,uR,tE,xl,SY,.head _,aL.own (.tail _ (nB _ (.head _))),aL.own (.tail _ (nB _ (.tail _ (.head _)))),hSY,fun e he=>aL.own (.tail _ (j_ _ (je (f:=jP) he)))⟩⟩
end
end Go.Proofs.YtaodmbolhoafcaaGreatDoor
