/-
  Texts of one proof, joined: part 3. No condition.
-/
import Derived.Test.YtaodmbolhoafcaaGreatDoorZc2
import Derived.Test.YtaodmbolhoafcaaGreatDoorRows
import Derived.Lib.AppendStr
import Derived.Lib.SliceRun
open Go.RowKit Go.Proofs.Tryz
namespace Go.Proofs.YtaodmbolhoafcaaGreatDoor
set_option linter.unusedVariables false
set_option linter.unusedSimpArgs false
set_option maxRecDepth 20000
variable{X:cV}{B:Nat}{w0:World}{F:aP}{A:bj}{n c g:Nat}{bt:TypeId}{f:Ch→aP}{Al:bj}{cl:Nat}{L0:aP}{h3 h5:Nat}{C0:Ch}
theorem aoa{P:Prop}(h:P:=by(exact dN (by first|(exact⟨fun h=>OK h hp,False.elim⟩)|omega|(simp at jF;done)))):P:=h
theorem agn{P:Prop}(h:P:=by(exact eF (by first|(exact⟨fun h=>OK h hp,False.elim⟩)|omega|(simp at jF;done)))):P:=h
theorem Hm{P:Prop}(h:P:=by(rw[ahv,gk])):P:=h
theorem aoD{P:Prop}(h:P:=by(rintro _ _ ⟨rfl,TK,c41,rfl⟩;exact gF)):P:=h
theorem Ho{P:Prop}(h:P:=by(rw[ahu,bV])):P:=h
theorem anM(q:List Bool)(b:Bool)(hq:q.length≤8000000):
  a_ B w0 212 [br g,.int .u64 b.toNat] (.bD g bt (.slice A (packed q).length c::ah q.length::X):: .own 5 1 A (packed q).length c (bv (packed q))::F)
   (fun r L=>r= .tuple #[]∧∃A' c',L= .bD g bt (.slice A' (packed (q++[b])).length c'::ah (q++[b]).length::X):: .own 5 1 A' (packed (q++[b])).length c' (bv (packed (q++[b])))::F):=by
 have mJ:=dJ q;have hrl:=BQ q;have oH:=Bool.toNat_le b;refine fw func212 48 [0,1] ?_;refine d_ (fun zf zL=>∃(A':bj) (c':Nat),Sub zf [(0,br g),(1,.int .u64 b.toNat)]∧Wk zL (.bD g bt (.slice A' (room q).length c'::ah q.length::X):: .own 5 1 A' (room q).length c' (bv (room q))::F)) ?_ ?_
 ·refine bz ?_;refine ab (nh rfl rfl aa (Pm _)) rfl ?_;refine bF ?_;refine aj (fun h9=>?_) fun h9=>?_
  ·refine bz ?_;refine dE cD rfl rfl rfl rfl rfl (fun _=>rfl) aV aa aa ?_;intro _ W8 c16;refine b8 ?_;exact bC ⟨W8,c16,bp,bq aow (ax aa (by rw[←OX aa];simp[bv]) (.refl _))⟩
  ·refine aF ?_;exact bC ⟨A,c,bp,bq Xm (ax Xm Xm (.refl _))⟩
 ·rintro _ _ ⟨A',c',hs,hp⟩;refine aU hs hp ?_;clear hs hp;refine aF ?_;refine kH (A:=A') (n:=(room q).length) (xs:=bv (room q)) (.tail _ (.head _)) aa ?_;intro ad hA;subst hA;refine cF (.bD g bt (.slice (some ad) (room q).length c'::ah q.length::X)::F) ?_;refine ae 0 ?_;refine ae 1 ?_;refine ae 2 ?_;refine ae 3 ?_;refine ae 4 ?_;refine ae 5 ?_;refine ae 6 ?_;refine ae 7 ?_;refine aW 8 rfl (mc rfl rfl aa (ais aa)) ?_;refine aW 9 rfl (aO (size:=1) (i:=q.length/8) underlying27 ag rfl rfl rfl aa) ?_;refine ae 11 ?_;refine ae 12 ?_;refine ae 13 ?_;refine ae 14 ?_;refine ae 15 ?_;refine ae 16 ?_;refine aW 17 rfl (nh rfl rfl aa (Pm _)) ?_;refine ae 18 ?_;refine aW 19 rfl (ga rfl rfl aa (ako aa)) ?_;refine az 10 ?_;refine aF ?_;refine aW 20 rfl (tK rfl rfl (adU q b)) ?_;refine aW 21 rfl (aO (size:=1) (i:=q.length/8) underlying27 ag rfl rfl rfl aa) ?_;refine az 22 ?_;refine kN rfl .no (iK ag rfl rfl rfl aV (by rw[aa8];omega)) Gr ?_;rintro _ _ rfl;refine cQ [0] ?_;refine cJ ?_;refine aq (L':=.bD g bt (.slice (some ad) (packed (q++[b])).length c'::ah (q++[b]).length::X):: .own 5 1 (some ad) (packed (q++[b])).length c' (bv (packed (q++[b])))::F) (bq agr (ax agr (by rw[cE,aa9,Fe]) (.refl _))) ?_;refine aF ?_;exact⟨rfl,_,c',rfl⟩
abbrev Wx(X:cV)(g:Nat)(bt:TypeId)(A:bj)(c:Nat)(q:List Bool)(F:aP):aP:=.bD g bt (.slice A (packed q).length c::ah q.length::X):: .own 5 1 A (packed q).length c (bv (packed q))::F
theorem Bf(q:List Bool)(v:Nat)(hv:v<18446744073709551616)(n:Nat)(hn:n≤64)(hp:v<2^n)(hq:q.length≤7000000):
  a_ B w0 153 [br g,.int .u64 v,ah n] (Wx X g bt A c q F)
   (fun r L=>r=ah 0∧∃A' c',L=Wx X g bt A' c' (q++hi v n n) F):=by
 refine fw func153 42 [0,1,2] ?_;refine bJ ?_;refine bW 20 27 [0,1,2] (False) ?_ ?_
 ·refine bQ ?_;refine aL rfl rfl rfl (fun kg=>?_) (fun kg=>?_)
  ·refine bG ?_;refine aL rfl rfl rfl (fun jk=>?_) (fun jk=>?_)
   ·refine bG ?_;refine cP (fun lW=>?_) fun lW=>?_
    ·refine b8 ?_;refine ab (dj rfl rfl aa (Fm v (e:=n) rfl aa)) rfl ?_;refine bG ?_;exact aQ aoa
    ·refine bz ?_;exact aQ (by rfl)
   ·refine bJ ?_;exact aQ agn
  ·refine cJ ?_;exact aQ agn
 ·refine be ?_;refine dm fun ka=>?_;refine cY ?_;refine aE (fun zf zL zm=>∃(m:Nat) (A':bj) (c':Nat),(m≤n)∧n-m=zm∧Sub zf [(0,br g),(1,.int .u64 v),(7,ah ((n:Int)-m-1))]∧Wk zL (Wx X g bt A' c' (q++hi v n m) F)) _ ⟨0,A,c,bT _,rfl,bp,bq Hm (ax Hm Hm (.refl _))⟩ ?_;rintro _ _ _ ⟨m,A',c',hm,rfl,hs,hp⟩;refine aU hs hp ?_;clear hs hp;have wL:(q++hi v n m).length=q.length+m:=by rw[aY,dM]
  refine bL ?_;refine aj (fun D5=>?_) fun D5=>?_
  ·refine b8 ?_;refine cF F ?_;refine ae 0 ?_;refine ae 1 ?_;refine ae 2 ?_;refine ae 3 ?_;refine ae 4 ?_;refine aW 5 rfl (dj rfl rfl aa (Fm v (e:=n-1-m) aa aa)) ?_;refine aW 6 rfl (jY rfl rfl (Wm v _ hv)) ?_;refine az 7 ?_;refine gA rfl .no Un rfl (anM (q++hi v n m) (v.testBit (n-1-m)) aa) rfl aoD ?_;rintro _ _ ⟨rfl,TK,c41,cA⟩;obtain rfl:=cA.symm;refine bJ ?_;refine av ⟨_,aa,m+1,TK,c41,aa,rfl,bp,bq Ho (ax Ho Ho (.refl _))⟩
  ·refine cJ ?_;have hm':m=n:=by omega
   subst hm';exact⟨rfl,A',c',rfl⟩
theorem af4(q:List Bool)(hq:q.length≤8000000):a_ B w0 155 [br g] (Wx X g bt A c q F) (fun r L=>∃A' c',r= .slice A' (packed q).length c'∧L= .own 5 1 A' (packed q).length c' (bv (packed q))::Wx X g bt A c q F):=by
 have mJ:=dJ q;refine fw func155 11 [0] ?_;refine GC ?_;refine ay rfl (l_ (packed q) aB aa) fun wh F6=>?_;refine bG ?_;exact⟨wh,F6,rfl,rfl⟩
theorem aaY{P:Prop}(h:P:=by(exact dN (by first|omega|(exact⟨fun h=>by omega,fun h=>by omega⟩)))):P:=h
theorem aok{P:Prop}(h:P:=by(exact eU (by first|omega|(exact⟨fun h=>by omega,fun h=>by omega⟩)))):P:=h
theorem abe{l:al}(hg:Good l)(hb:eM B w0 F Al cl l):a_ B w0 286 [.slice Al l.length cl] F (fun r L=>r=ah 0∧L=F):=by
 have h:=zl l hb;rw[xz hg]at h;exact h
def cz(l:al):Nat→Nat→Nat
 |_,0=>0
 |i,f+1=>if i<l.length∧(l.getD i 0).toNat=0 then cz l (i+1) f+1 else 0
theorem aby(l:al):∀f i,cz l i f≤f
 |0,i=>gj _
 |f+1,i=>by
  rw[cz];split
  ·have:=aby l f (i+1);omega
  ·omega
theorem ajV(l:al):∀f i,i≤l.length→i+cz l i f≤l.length
 |0,i,h=>h
 |f+1,i,h=>by
  rw[cz];split
  ·have:=ajV l f (i+1) aa;omega
  ·omega
theorem apt{l:al}{i m:Nat}(hm:m<63)(h1:i+m<l.length)(h2:(l.getD (i+m) 0).toNat=0)(h:cz l i 63=m+cz l (i+m) (63-m)):cz l i 63=(m+1)+cz l (i+(m+1)) (63-(m+1)):=by
 rw[h,show 63-m=(63-(m+1))+1 by omega,cz,ao ⟨h1,h2⟩,show i+m+1=i+(m+1) by omega];omega
theorem alh{l:al}{i m:Nat}(hn:¬(m<63∧i+m<l.length∧(l.getD (i+m) 0).toNat=0))(h:cz l i 63=m+cz l (i+m) (63-m)):cz l i 63=m:=by
 rw[h];by_cases hm:m<63
 ·rw[show 63-m=(63-(m+1))+1 by omega,cz,aw (fun h=>hn ⟨hm,h.1,h.2⟩)];rfl
 ·rw[show 63-m=0 by omega];rfl
def ik(l:al)(i:Nat):List Bool:=
 if h:i<l.length then if (l.getD i 0).toNat=0 then hi 0 4 4++(hi (cz l (i+1) 63) 6 6++ik l (i+1+cz l (i+1) 63)) else hi (l.getD i 0).toNat 4 4++ik l (i+1) else []
termination_by l.length-i
theorem xL{l:al}{i:Nat}(h:¬i<l.length):ik l i=[]:=by rw[ik,dif_neg h]
theorem DP{l:al}{i:Nat}(h:i<l.length)(h0:¬(l.getD i 0).toNat=0):ik l i=hi (l.getD i 0).toNat 4 4++ik l (i+1):=by
 conv=>lhs;rw[ik,dif_pos h,aw h0]
theorem DQ{l:al}{i m:Nat}(h:i<l.length)(h0:(l.getD i 0).toNat=0)(hm:cz l (i+1) 63=m):ik l i=hi 0 4 4++(hi m 6 6++ik l (i+1+m)):=by
 subst hm
 conv=>lhs;rw[ik,dif_pos h,ao h0]
theorem run_eq{q q' Q:List Bool}{l:al}{i m:Nat}(hq:q'++ik l i=Q)(h:i<l.length)(h0:(l.getD i 0).toNat=0)(hm:cz l (i+1) 63=m):q'++hi 0 4 4++hi m 6 6++ik l (i+1+m)=Q:=by
 rw[←hq,DQ h h0 hm];simp[bV]
theorem amT{q' Q:List Bool}{l:al}{i:Nat}(hq:q'++ik l i=Q)(h:i<l.length)(h0:¬(l.getD i 0).toNat=0):q'++hi (l.getD i 0).toNat 4 4++ik l (i+1)=Q:=by
 rw[←hq,DP h h0];simp[bV]
theorem Xw(l:al)(q:List Bool)(hb:eM B w0 F Al cl l)(hg:Good l)(hq:q.length≤1000000):
  a_ B w0 247 [br g,.slice Al l.length cl] (Wx X g bt A c q F) (fun r L=>r=ah 0∧∃A' c',L=Wx X g bt A' c' (q++ik l 0) F):=by
 have hf:=hg.1;have hf1:=hf.1;refine fw func247 64 [0,1] ?_;refine zH ?_;refine ai rfl (abe hg aB) ?_;refine bQ ?_;refine dm fun lA=>?_;refine bQ ?_;refine aE (fun zf zL zm=>∃(i:Nat) (q':List Bool) (A':bj) (c':Nat),(i≤l.length∧q'.length≤1000000+10*i∧q'++ik l i=q++ik l 0)∧l.length-i=zm∧Sub zf [(0,br g),(1,.slice Al l.length cl),(6,ah i)]∧Wk zL (Wx X g bt A' c' q' F)) _ ⟨0,q,A,c,⟨bT _,aa,rfl⟩,rfl,bp,.refl _⟩ ?_;rintro _ _ _ ⟨i,q',A',c',⟨hik,hql,heq⟩,rfl,hs,hp⟩;refine aU hs hp ?_;clear hs hp;refine bQ ?_;refine aj (fun jk=>?_) fun jk=>?_
 ·have hu:=hf.2 _ (bg (k:=i) aa 0);have r7:=aby l 63 (i+1);refine de ?_;refine aj (fun nM=>?_) fun nM=>?_
  ·refine bJ ?_;refine aX Dm rfl (Bf q' (l.getD i 0).toNat aa 4 aa aa aa) rfl ?_;rintro _ _ ⟨rfl,Qc,c30,cA⟩;obtain rfl:=cA.symm;refine bL ?_;refine ve [0,1,6] ?_;refine b8 ?_;refine av ⟨_,aa,i+1,q'++hi (l.getD i 0).toNat 4 4,Qc,c30,⟨aa,by rw[aY,dM];omega,amT heq aa aa⟩,rfl,bp,.refl _⟩
  ·refine bQ ?_;refine aE (fun zf zL zm=>∃(m:Nat),(m≤63∧i+1+m≤l.length∧cz l (i+1) 63=m+cz l (i+1+m) (63-m))∧63-m=zm∧Sub zf [(0,br g),(1,.slice Al l.length cl),(6,ah i),(7,ah (m+1:Nat))]∧Wk zL (Wx X g bt A' c' q' F)) _ ⟨0,⟨aa,aa,ak⟩,rfl,bp,.refl _⟩ ?_;rintro _ _ _ ⟨m,⟨aqe,hmi,hcz⟩,rfl,hs,hp⟩;refine aU hs hp ?_;clear hs hp;refine bF ?_;refine bW 19 51 [0,1,6,7] (m<63∧i+1+m<l.length∧(l.getD (i+1+m) 0).toNat=0) ?_ ?_
   ·refine bF ?_;refine cP (fun qV=>?_) fun qV=>?_
    ·refine de ?_;refine cP (fun Yb=>?_) fun Yb=>?_
     ·refine bJ ?_;refine ab (aC (i:=i+1+m) underlying27 ag rfl rfl aa aa aB) rfl ?_;refine bG ?_;exact aQ aaY
     ·refine bL ?_;exact aQ aok
    ·refine jy ?_;exact aQ aok
   ·refine be ?_;refine aj (fun h51=>?_) fun h51=>?_
    ·refine bQ ?_;refine av ⟨_,aa,m+1,⟨aa,aa,apt aa aa aa hcz⟩,rfl,bp,.refl _⟩
    ·have hce:=alh h51 hcz;refine bJ ?_;refine aX Dm rfl (Bf q' 0 aa 4 aa aa aa) rfl ?_;rintro _ _ ⟨rfl,A55,c55,cA⟩;obtain rfl:=cA.symm;refine bL ?_;refine ab (bm underlying3 underlying60 rfl ((f_ aa aa).trans (show _=((m:Nat):Int) by omega))) rfl ?_;refine aX Dm rfl (Bf (q'++hi 0 4 4) m aa 6 aa aa (by rw[aY,dM];omega)) rfl ?_;rintro _ _ ⟨rfl,A60,c60,cA⟩;obtain rfl:=cA.symm;refine bQ ?_;refine av ⟨_,aa,i+1+m,q'++hi 0 4 4++hi m 6 6,A60,c60,⟨aa,by rw[aY,aY,dM,dM];omega,run_eq (q:=q) heq aa aa hce⟩,rfl,bp,.refl _⟩
 ·refine cY ?_;have aso:q'=q++ik l 0:=by rw[←heq,xL aa,gk]
  subst aso;refine aF ?_;exact⟨rfl,A',c',rfl⟩
theorem xM(l:al):∀n i,l.length-i≤n→(ik l i).length≤10*n
 |0,i,h=>by rw[xL aa];simp
 |n+1,i,h=>by
  by_cases P6:i<l.length
  ·by_cases h0:(l.getD i 0).toNat=0
   ·rw[DQ P6 h0 rfl,aY,aY,dM,dM];have:=xM l n (i+1+cz l (i+1) 63) aa;omega
   ·rw[DP P6 h0,aY,dM];have:=xM l n (i+1) aa;omega
  ·rw[xL P6];simp
def gi(l:al):List Bool:=(List.range (8*l.length)).map fun i=>(l.getD (i/8) 0).toNat.testBit (7-i%8)
theorem dO(l:al):(gi l).length=8*l.length:=by simp[gi]
theorem yR(l:al){i:Nat}(h:i<8*l.length):gZ (gi l) i=(l.getD (i/8) 0).toNat/2^(7-i%8)%2:=by
 rw[Qs,gZ,gi];congr 1;simp[bk,h]
theorem PE(l:al){k:Nat}(h:k<l.length):∀m,m≤8→part (gi l) (8*k) m=(l.getD k 0).toNat/2^(8-m)
 |0,_=>by
  have:=lQ (l.getD k 0);rw[part];exact(BC aa).symm
 |m+1,hm=>by
  rw[part,PE l h m aa,yR l aa,show(8*k+m)/8=k by omega,show 7-(8*k+m)%8=7-m by omega,show 8-m=(7-m)+1 by omega,show 8-(m+1)=7-m by omega,nD,←Nat.div_div_eq_div_mul];omega
theorem pJ(l:al):packed (gi l)=l:=by
 apply pV
 ·rw[dJ,dO];omega
 ·intro k h1 h2;have hk:k<l.length:=h2;have e:(packed (gi l)).getD k 0=l.getD k 0:=by
   rw[packed,se _ (by rw[dO];omega),rs,PE l hk 8 aa];simp
  rwa [bk,fm h1,bk,fm h2]at e
def Fk(q:List Bool):Nat→Nat→Nat
 |i,0=>i
 |i,f+1=>if gZ q i=1 then i else Fk q (i+1) f
def Z(q:List Bool)(p:Nat):Nat:=Fk q p (q.length-p)
theorem af5{q:List Bool}{k:Nat}(h:gZ q k=1)(hk:k<q.length):Z q k=k:=by
 rw[Z,show q.length-k=(q.length-(k+1))+1 by omega,Fk,ao h]
theorem Lm{q:List Bool}{k:Nat}(h:¬gZ q k=1)(hk:k<q.length):Z q k=Z q (k+1):=by
 rw[Z,show q.length-k=(q.length-(k+1))+1 by omega,Fk,aw h];rfl
theorem W6{q:List Bool}{k:Nat}(hk:q.length≤k):Z q k=k:=by
 rw[Z,show q.length-k=0 by omega];rfl
theorem anP(q:List Bool):∀f i,i≤Fk q i f
 |0,i=>gj _
 |f+1,i=>by
  rw[Fk];split
  ·exact gj _
  ·have:=anP q f (i+1);omega
theorem arj(q:List Bool):∀f i,Fk q i f≤i+f
 |0,i=>gj _
 |f+1,i=>by
  rw[Fk];split
  ·omega
  ·have:=arj q f (i+1);omega
theorem akL(q:List Bool)(p:Nat):p≤Z q p:=anP q _ p
theorem aro(q:List Bool){p:Nat}(h:p≤q.length):Z q p≤q.length:=by have:=arj q (q.length-p) p;unfold Z;omega
theorem VW(q:List Bool):∀m i,part q i (m+1)=gZ q i*2^m+part q (i+1) m
 |0,i=>by simp[part]
 |m+1,i=>by
  rw[part,VW q m i,part,show i+(m+1)=i+1+m by omega,nD];have:gZ q i*(2^m*2)=2*(gZ q i*2^m):=by rw[←tc,nE]
  omega
theorem IP(q:List Bool):∀f i,part q i f=0↔Fk q i f=i+f
 |0,i=>by simp[part,Fk]
 |f+1,i=>by
  rw[VW,Fk];have hb:=rP q i;split
  ·rename_i h;rw[h];have:=vS f;omega
  ·rename_i h;have h0:gZ q i=0:=by omega
   rw[h0,r',mq,IP q f (i+1)];omega
theorem aij(q:List Bool){p:Nat}(h:p≤q.length):part q p (q.length-p)=0↔Z q p=q.length:=by
 rw[IP,Z,show p+(q.length-p)=q.length by omega]
def skE(q:List Bool)(p:Nat)(n:Int):Int:=if n<0 then 13 else if (q.length:Int)<p+n then 1 else 0
def skP(q:List Bool)(p:Nat)(n:Int):Nat:=if n<0 then p else if (q.length:Int)<p+n then p else p+n.toNat
def rY(q:List Bool)(p:Nat)(n:Int):Int:=if n<0∨64<n then 13 else if (q.length:Int)<p+n then 1 else 0
def oG(q:List Bool)(p:Nat)(n:Int):Nat:=if n<0∨64<n then 0 else if (q.length:Int)<p+n then 0 else part q p n.toNat
def iE(q:List Bool)(p:Nat)(n:Int):Nat:=if n<0∨64<n then p else if (q.length:Int)<p+n then p else p+n.toNat
def pkV(q:List Bool)(p:Nat)(n:Int):Nat:=if n<0∨64<n then 0 else part q p n.toNat
def pkN(q:List Bool)(p:Nat)(n:Int):Int:=if n<0∨64<n then 0 else min n (q.length-p)
def unV(q:List Bool)(p:Nat):Int:=if Z q p<q.length then Z q p-p else 0
def unR(q:List Bool)(p:Nat):Int:=if Z q p<q.length then 0 else 1
def unP(q:List Bool)(p:Nat):Nat:=if Z q p<q.length then Z q p+1 else p
def paE(q:List Bool)(p:Nat):Int:=if (q.length:Int)-p<8∧Z q p=q.length then 0 else 2
theorem qw{q:List Bool}{p:Nat}(n:Int)(h:p≤q.length):iE q p n≤q.length:=by
 unfold iE;split;· exact h
 split<;>omega
section
open Classical in
noncomputable def fin(acc:al)(p:Nat):al×Int×Nat:=if Good acc then (acc,0,p) else ([],7,p)
noncomputable def lH(q:List Bool)(N:Nat):Nat→Nat→al→Bool→al×Int×Nat
 |0,p,acc,s=>fin acc p
 |f+1,p,acc,s=>
  if N≤acc.length then fin acc p
  else if¬rY q p 4=0 then ([],rY q p 4,iE q p 4)
  else if¬oG q p 4=0 then lH q N f (iE q p 4) (acc++[UInt8.ofNat (oG q p 4)]) false
  else if¬rY q (iE q p 4) 6=0 then ([],rY q (iE q p 4) 6,iE q (iE q p 4) 6)
  else if s=true∨N≤acc.length+oG q (iE q p 4) 6 then ([],7,iE q (iE q p 4) 6)
  else lH q N f (iE q (iE q p 4) 6) (acc++List.replicate (oG q (iE q p 4) 6+1) 0) (decide (((oG q (iE q p 4) 6:Nat):Int)+1<64))
noncomputable def qG(q:List Bool)(p:Nat)(n:Int):al×Int×Nat:=if n<0∨300<n then ([],13,p) else lH q n.toNat n.toNat p [] false
section
variable{q:List Bool}{N f p:Nat}{acc:al}{s:Bool}{R:al×Int×Nat}
theorem V7(h:lH q N f p acc s=R)(hl:N≤acc.length):R=fin acc p:=by
 subst h;cases f with
 |zero=>rfl
 |succ f=>rw[lH,ao hl]
theorem aee(h:lH q N f p acc s=R)(hf:N≤acc.length+f)(hl:acc.length<N):∃f',f=f'+1∧N≤acc.length+f'+1∧lH q N (f'+1) p acc s=R:=by
 cases f with
 |zero=>omega
 |succ f=>exact⟨f,rfl,aa,h⟩
theorem aiv(h:lH q N (f+1) p acc s=R)(hl:acc.length<N)(he:¬rY q p 4=0):R=([],rY q p 4,iE q p 4):=by
 rw[←h,lH,aw aa,ao he]
theorem V8(h:lH q N (f+1) p acc s=R)(hl:acc.length<N)(he:rY q p 4=0)(hv:¬oG q p 4=0):lH q N f (iE q p 4) (acc++[UInt8.ofNat (oG q p 4)]) false=R:=by
 rw[←h];conv=>rhs;rw[lH,aw aa,aw aa,ao hv]
theorem aec(h:lH q N (f+1) p acc s=R)(hl:acc.length<N)(he:rY q p 4=0)(hv:oG q p 4=0)(he2:¬rY q (iE q p 4) 6=0):R=([],rY q (iE q p 4) 6,iE q (iE q p 4) 6):=by
 rw[←h,lH,aw aa,aw aa,aw aa,ao he2]
theorem aed(h:lH q N (f+1) p acc s=R)(hl:acc.length<N)(he:rY q p 4=0)(hv:oG q p 4=0)(he2:rY q (iE q p 4) 6=0)(hs:s=true∨N≤acc.length+oG q (iE q p 4) 6):R=([],7,iE q (iE q p 4) 6):=by
 rw[←h,lH,aw aa,aw aa,aw aa,aw aa,ao hs]
theorem V9(h:lH q N (f+1) p acc s=R)(hl:acc.length<N)(he:rY q p 4=0)(hv:oG q p 4=0)(he2:rY q (iE q p 4) 6=0)(hs:¬(s=true∨N≤acc.length+oG q (iE q p 4) 6)):lH q N f (iE q (iE q p 4) 6) (acc++List.replicate (oG q (iE q p 4) 6+1) 0) (decide (((oG q (iE q p 4) 6:Nat):Int)+1<64))=R:=by
 rw[←h];conv=>rhs;rw[lH,aw aa,aw aa,aw aa,aw aa,aw hs]
theorem zI(q:List Bool)(p:Nat){n:Nat}(hn:n≤64):oG q p n<2^n:=by
 unfold oG;split
 ·exact vS n
 ·split
  ·exact vS n
  ·exact qj q p n
theorem aoG{v:Nat}(hv:v<256)(l:al):bv l++[Value.int .u8 (v:Int)]=bv (l++[UInt8.ofNat v]):=by
 have:(UInt8.ofNat v).toNat=v:=by rw[od];exact ja hv
 simp[bv,this]
theorem aa_(l:al)(m:Nat):bv l++List.replicate m (Value.int .u8 0)=bv (l++List.replicate m 0):=by
 simp[bv]
theorem alq(h:chk acc=0):fin acc p=(acc,0,p):=by
 unfold fin;by_cases hg:Good acc
 ·rw[ao hg]
 ·rw[Cr hg]at h;omega
theorem alp(h:¬chk acc=0):fin acc p=([],7,p)∧chk acc=7:=by
 unfold fin;by_cases hg:Good acc
 ·exact absurd (xz hg) h
 ·exact⟨aw hg,Cr hg⟩
end
theorem abT{q:List Bool}{acc:al}{p:Nat}(h:p≤q.length):(fin acc p).2.2≤q.length:=by
 unfold fin;split<;>exact h
theorem SA(q:List Bool)(N:Nat):∀f p acc s,p≤q.length→(lH q N f p acc s).2.2≤q.length
 |0,p,acc,s,h=>abT h
 |f+1,p,acc,s,h=>by
  have h4:=qw (q:=q) (p:=p) 4 h;have h6:=qw (q:=q) (p:=iE q p 4) 6 h4;rw[lH];split
  ·exact abT h
  ·split
   ·exact h4
   ·split
    ·exact SA q N f _ _ _ h4
    ·split
     ·exact h6
     ·split
      ·exact h6
      ·exact SA q N f _ _ _ h6
theorem E6{q:List Bool}{p:Nat}(n:Int)(h:p≤q.length):(qG q p n).2.2≤q.length:=by
 unfold qG;split
 ·exact h
 ·exact SA q _ _ _ _ _ h
end
theorem aos{P:Prop}(h:P:=by(rw[show p+1+i=p+(i+1) by omega];exact h0 _ (by omega))):P:=h
theorem x_:type_of% @List.length_replicate:= @List.length_replicate
theorem Iy:type_of% @List.getElem?_replicate:= @List.getElem?_replicate
theorem mQ{q r:List Bool}{i:Nat}(h:i<q.length):gZ (q++r) i=gZ q i:=by
 simp[gZ,bk,List.getElem?_append,h]
theorem kj(q r:List Bool)(i:Nat):gZ (q++r) (q.length+i)=gZ r i:=by
 simp[gZ,bk,List.getElem?_append,show¬q.length+i<q.length by omega]
theorem acI(v n:Nat){j:Nat}(h:j<n):gZ (hi v n n) j=v/2^(n-1-j)%2:=by
 rw[Qs];simp[gZ,hi,bk,h]
theorem KM(q r:List Bool)(v n:Nat)(hv:v<2^n):∀m,m≤n→part (q++(hi v n n++r)) q.length m=v/2^(n-m)
 |0,_=>by rw[part,El,BC hv]
 |m+1,h=>by
  rw[part,KM q r v n hv m aa,kj,mQ (by rw[dM];omega),acI v n aa,show n-m=(n-1-m)+1 by omega,show n-(m+1)=n-1-m by omega,nD,←Nat.div_div_eq_div_mul];omega
theorem ES(q r:List Bool)(v n:Nat)(hv:v<2^n):part (q++(hi v n n++r)) q.length n=v:=by
 rw[KM q r v n hv n (gj _),nx,Nat.pow_zero,Nat.div_one]
theorem akK(Q:List Bool):∀m p,(∀i,i<m→gZ Q (p+i)=0)→gZ Q (p+m)=1→p+m<Q.length→Z Q p=p+m
 |0,p,_,h1,hl=>af5 h1 hl
 |m+1,p,h0,h1,hl=>by
  have:=h0 0 aa;rw[Lm (by rw[ta]at this;omega) aa,akK Q m (p+1) (fun i hi=>aos) (by rw[show p+1+m=p+(m+1) by omega];exact h1) aa];omega
theorem anA(n:Nat){j:Nat}(h:j<n):gZ (un n) j=0:=by
 rw[un,mQ nr];simp[gZ,bk,h]
theorem ajj(n:Nat):gZ (un n) n=1:=by
 have:=kj (List.replicate n false) [true] 0;rw[x_,ta]at this;rw[un,this];rfl
theorem atq(q r:List Bool)(n:Nat):Z (q++(un n++r)) q.length=q.length+n:=by
 refine akK _ n _ (fun i hi=>?_) ?_ ?_
 ·rw[kj,mQ (by rw[oM];omega),anA n hi]
 ·rw[kj,mQ (by rw[oM];omega),ajj]
 ·simp[oM];omega
theorem af6(Q:List Bool):∀m p,p+m=Q.length→(∀i,i<m→gZ Q (p+i)=0)→Z Q p=Q.length
 |0,p,h,_=>by rw[W6 aa];omega
 |m+1,p,h,h0=>by
  have:=h0 0 aa;rw[Lm (by rw[ta]at this;omega) aa];exact af6 Q m (p+1) aa (fun i hi=>aos)
def pad(q:List Bool):List Bool:=List.replicate (8*((q.length+7)/8)-q.length) false
theorem wW(q:List Bool):(pad q).length=8*((q.length+7)/8)-q.length:=by simp[pad]
theorem toNat_inj{a b:Bool}(h:a.toNat=b.toNat):a=b:=by cases a<;>cases b<;>simp_all
theorem xV{q:List Bool}{i:Nat}(h:i<q.length):gZ q i=(q[i]).toNat:=by simp[gZ,bk,h]
theorem qD(q:List Bool):gi (packed q)=q++pad q:=by
 apply pV
 ·rw[dO,dJ,aY,wW];omega
 ·intro i h1 h2;apply toNat_inj;rw[←xV h1,←xV h2];have hl:i<8*(packed q).length:=by rw[dO]at h1;exact h1
  have hl':=hl;rw[dJ]at hl';have hp:((packed q).getD (i/8) 0).toNat=part q (8*(i/8)) 8:=by rw[packed,se q aa,u6]
  rw[yR _ hl,hp];have e:=pD q (8*(i/8)) (i%8+1) (7-i%8);rw[show i%8+1+(7-i%8)=8 by omega]at e;rw[e,part,show 8*(i/8)+i%8=i by omega];have hb:=rP q i;by_cases hq:i<q.length
  ·rw[mQ hq];omega
  ·rw[xr q aa];have:=kj q (pad q) (i-q.length);rw[show q.length+(i-q.length)=i by omega]at this;rw[this,gZ];have hz:(pad q).getD (i-q.length) false=false:=by
    rw[pad,bk,Iy];split<;>rfl
   rw[hz];simp
theorem ark(q:List Bool):Z (q++pad q) q.length=(q++pad q).length:=by
 refine af6 _ (pad q).length _ ak (fun i hi=>?_);rw[kj,gZ];have hz:(pad q).getD i false=false:=by
  rw[pad,bk,Iy];split<;>rfl
 rw[hz];rfl
abbrev BO:=UInt8×Nat×Int
def enc(x:BO):List Bool:=if x.1.toNat%2=0 then hi x.2.1 x.2.2.toNat x.2.2.toNat else un x.2.2.toNat
def acc(x:BO):Prop:=if x.1.toNat%2=0 then anV x.2.1 x.2.2 else 0≤x.2.2∧x.2.2≤300
theorem ra:type_of% @UInt8.toNat_inj:= @UInt8.toNat_inj
theorem Ux(l:al):∀f i j,j<cz l i f→(l.getD (i+j) 0).toNat=0
 |0,i,j,h=>by simp[cz]at h
 |f+1,i,j,h=>by
  rw[cz]at h;split at h
  ·rename_i h0;cases j with
   |zero=>exact h0.2
   |succ j=>
    have:=Ux l f (i+1) j aa
    rwa [show i+1+j=i+(j+1) by omega]at this
  ·omega
theorem Uw(l:al):∀f i,cz l i f<f→i+cz l i f<l.length→¬(l.getD (i+cz l i f) 0).toNat=0
 |0,i,h,_=>by omega
 |f+1,i,h,h2=>by
  rw[cz]at h h2⊢;split at h
  ·rename_i h0;rw[ao h0]at h2⊢;have:=Uw l f (i+1) aa aa
   rwa [show i+1+cz l (i+1) f=i+(cz l (i+1) f+1) by omega]at this
  ·rename_i h0;rw[aw h0]at h2⊢;intro hz;exact h0 ⟨aa,by simpa using hz⟩
theorem Pe(l:al)(i:Nat):∀m,i+m≤l.length→(∀j,j<m→(l.getD (i+j) 0).toNat=0)→l.take (i+m)=l.take i++List.replicate m 0
 |0,_,_=>by simp
 |m+1,h,hz=>by
  have h0:l.getD (i+m) 0=0:=by
   have:=hz m aa;exact ra.1 (by simpa using this)
  rw[←NL,ba aa 0,Pe l i m aa (fun j hj=>hz j aa),h0,List.replicate_succ',bV]
theorem got(q pre r:List Bool)(v:Nat){n:Nat}(hn:n≤64)(hv:v<2^n)(hq:q=pre++(hi v n n++r)):rY q pre.length n=0∧oG q pre.length n=v∧iE q pre.length n=(pre++hi v n n).length:=by
 have hl:pre.length+n≤q.length:=by rw[hq];simp[dM]
 have hp:=ES pre r v n hv;rw[←hq]at hp;unfold rY oG iE;rw[aw aa,aw aa,aw aa,aw aa,aw aa,aw aa,nB,hp];exact⟨rfl,rfl,by simp[dM]⟩
theorem back(l:al)(hg:Good l)(r:List Bool):∀n i f (pre:List Bool) s q,l.length-i≤n→i≤l.length→q=pre++(ik l i++r)→l.length≤i+f→(s=true→i<l.length→¬(l.getD i 0).toNat=0)→
  lH q l.length f pre.length (l.take i) s=(l,0,(pre++ik l i).length):=by
 intro n;induction n with
 |zero=>
  intro i f pre s q h1 h2 hq hf hs;have he:i=l.length:=by omega
  subst he;have:=V7 (q:=q) (N:=l.length) (f:=f) (p:=pre.length) (acc:=l.take l.length) (s:=s) rfl ak;rw[this,jU,fin,ao hg,xL aa,gk]
 |succ n ih=>
  intro i f pre s q h1 h2 hq hf hs;by_cases hil:i<l.length
  ·obtain⟨f',rfl⟩:∃f',f=f'+1:=⟨f-1,aa⟩
   have fE:(l.take i).length<l.length:=by rw[eS];omega
   have hu:=hg.1.2 _ (bg (k:=i) hil 0);by_cases h0:(l.getD i 0).toNat=0
   ·obtain⟨m,hm⟩:∃m,cz l (i+1) 63=m:=⟨_,rfl⟩
    have aqe:=aby l 63 (i+1);have hmi:=ajV l 63 (i+1) aa;have sI:=Uw l 63 (i+1);have hzz:=Ux l 63 (i+1);rw[hm]at aqe hmi sI hzz;have hen:=DQ hil h0 hm;rw[hen,bV,bV]at hq;obtain⟨a1,a2,a3⟩:=got q pre _ 0 (n:=4) aa aa hq;have Rz:q=(pre++hi 0 4 4)++(hi m 6 6++(ik l (i+1+m)++r)):=by rw[hq,bV]
    obtain⟨b1,b2,b3⟩:=got q (pre++hi 0 4 4) _ m (n:=6) aa aa Rz;have a1':rY q pre.length 4=0:=a1;have a2':oG q pre.length 4=0:=a2;have a3':iE q pre.length 4=(pre++hi 0 4 4).length:=a3;have b1':rY q (pre++hi 0 4 4).length 6=0:=b1;have b2':oG q (pre++hi 0 4 4).length 6=m:=b2;have b3':iE q (pre++hi 0 4 4).length 6=(pre++hi 0 4 4++hi m 6 6).length:=b3;have hsf:¬(s=true∨l.length≤(l.take i).length+oG q (iE q pre.length 4) 6):=by
     rw[a3',b2',eS];rintro(h|h)
     ·exact hs h hil h0
     ·omega
    have s7:=V9 (q:=q) (N:=l.length) (f:=f') (p:=pre.length) (acc:=l.take i) (s:=s) rfl fE a1' a2' (by rw[a3'];exact b1') hsf;rw[←s7,a3',b2',b3'];have tX:l.take i++List.replicate (m+1) 0=l.take (i+1+m):=by
     rw[show i+1+m=i+(m+1) by omega,Pe l i (m+1) aa (fun j hj=>?_)];cases j with
     |zero=>exact h0
     |succ j=>rw[show i+(j+1)=i+1+j by omega];exact hzz j aa
    rw[tX];have hq3:q=(pre++hi 0 4 4++hi m 6 6)++(ik l (i+1+m)++r):=by rw[Rz];simp[bV]
    have:=ih (i+1+m) f' (pre++hi 0 4 4++hi m 6 6) (decide (((m:Nat):Int)+1<64)) q aa aa hq3 aa (fun hd hl=>sI (by have:=Eu hd;omega) hl);rw[this,hen];simp[bV]
   ·have hen:=DP hil h0;rw[hen,bV]at hq;obtain⟨a1,a2,a3⟩:=got q pre _ (l.getD i 0).toNat (n:=4) aa aa hq;have a1':rY q pre.length 4=0:=a1;have a2':oG q pre.length 4=(l.getD i 0).toNat:=a2;have a3':iE q pre.length 4=(pre++hi (l.getD i 0).toNat 4 4).length:=a3;have s7:=V8 (q:=q) (N:=l.length) (f:=f') (p:=pre.length) (acc:=l.take i) (s:=s) rfl fE a1' (by rw[a2'];exact h0);rw[←s7,a2',a3'];have tX:l.take i++[UInt8.ofNat (l.getD i 0).toNat]=l.take (i+1):=by
     rw[ba hil 0,UInt8.ofNat_toNat]
    rw[tX];have hq3:q=(pre++hi (l.getD i 0).toNat 4 4)++(ik l (i+1)++r):=by rw[hq];simp[bV]
    have:=ih (i+1) f' (pre++hi (l.getD i 0).toNat 4 4) false q aa aa hq3 aa (fun h=>ki);rw[this,hen];simp[bV]
  ·exact ih i f pre s q aa h2 hq hf hs
theorem cZ{P:Prop}(h:P:=by(simp only;omega)):P:=h
theorem Eo:type_of% @List.filter_append:= @List.filter_append
theorem tZ:type_of% @List.filter_cons:= @List.filter_cons
theorem BE:type_of% @List.mem_filter:= @List.mem_filter
def ji(l:al)(s k:Nat):bf:=(List.range s).filter fun i=>(l.getD i 0).toNat==k
def k_(l:al)(k:Nat):bf:=ji l l.length k
theorem m_(l:al)(s k:Nat):ji l (s+1) k=ji l s k++(if (l.getD s 0).toNat=k then [s] else []):=by
 unfold ji;rw[lj,Eo];congr 1;rw[tZ,List.filter_nil];by_cases h:(l.getD s 0).toNat=k
 ·rw[ao h,ao nr]
 ·rw[aw h,aw nr]
theorem vi(l:al)(k:Nat):∀s,s≤l.length→(ji l s k).length=num (l.take s) k
 |0,_=>by simp[ji,num]
 |s+1,h=>by
  rw[m_,aY,vi l k s aa,jQ k aa];split<;>simp
theorem Fy(l:al)(k:Nat):(k_ l k).length=num l k:=by
 unfold k_;rw[vi l k _ (gj _),jU]
theorem Fz(l:al)(k s:Nat):∀d,∃r,ji l (s+d) k=ji l s k++r
 |0=>⟨[],ak⟩
 |d+1=>by
  obtain⟨r,hr⟩:=Fz l k s d;exact⟨_,by rw[←NL,m_,hr,bV]⟩
theorem SS{l:al}{s k:Nat}(hs:s<l.length)(h:(l.getD s 0).toNat=k):(k_ l k).getD (num (l.take s) k) 0=s:=by
 obtain⟨r,hr⟩:=Fz l k (s+1) (l.length-(s+1));rw[show s+1+(l.length-(s+1))=l.length by omega]at hr;unfold k_;have hl:=vi l k s aa;rw[hr,m_,ao h,←hl];simp[bk]
theorem aeX{l:al}{s k i:Nat}(h:i∈ji l s k):i<s∧(l.getD i 0).toNat=k:=by
 unfold ji at h;obtain⟨h1,h2⟩:=BE.1 h;exact⟨kz.1 h1,oQ⟩
def ov(l:al)(k:Nat):Nat:=if num l k=0 then 0 else fst l k
def nv(l:al)(x k:Nat):Option Nat:=if ov l k≤x∧x<ov l k+num l k then some ((k_ l k).getD (x-ov l k) 0) else none
def vP(l:al)(x k:Nat):Nat→Nat→Bool
 |0,_=>false
 |f+1,j=>if 15<j then false else if 0<num l j∧x*2^(j-k)<ov l j+num l j∧ov l j<x*2^(j-k)+2^(j-k) then true else vP l x k f (j+1)
def acp(l:al)(x k:Nat):Bool:=vP l x k 15 (k+1)
def nw(l:al)(q:List Bool)(p n:Nat):Nat→Nat→Option (Nat×Nat)
 |0,_=>none
 |f+1,k=>if n<k then none else match nv l (part q p k) k with
  |some s=>some (s,k)
  |none=>nw l q p n f (k+1)
def there(q:List Bool)(p:Nat):Nat:=min 15 (q.length-p)
def fz(l:al)(q:List Bool)(p:Nat):Int×Int×Nat:=
 match nw l q p (there q p) 15 1 with
 |some (s,k)=>(s,0,p+k)
 |none=>(-1,if there q p<15∧acp l (part q p (there q p)) (there q p)=true then 1 else 7,p)
def hw(l:al)(s:Nat):List Bool:=hi (place l (l.getD s 0).toNat s) (l.getD s 0).toNat (l.getD s 0).toNat
theorem mW(l:al)(s:Nat):(hw l s).length=(l.getD s 0).toNat:=dM _ _ _
theorem acA{l:al}{x k s:Nat}(h:nv l x k=some s):s<l.length∧(l.getD s 0).toNat=k:=by
 unfold nv at h;split at h
 ·rename_i hc;injection h with h;have hl:=Fy l k;have hm:(k_ l k).getD (x-ov l k) 0∈k_ l k:=bg aa 0;rw[h]at hm;exact aeX hm
 ·cases h
theorem Nv{l:al}{q:List Bool}{p n s k:Nat}:∀(f j:Nat),nw l q p n f j=some (s,k)→j≤k∧k≤n∧nv l (part q p k) k=some s
 |0,j,h=>by cases h
 |f+1,j,h=>by
  unfold nw at h;split at h
  ·cases h
  ·split at h
   ·rename_i s' BA;injection h with h;injection h with h1 h2;subst h1;subst h2;exact⟨gj _,aa,BA⟩
   ·obtain⟨h1,h2,h3⟩:=Nv f (j+1) h;exact⟨aa,h2,h3⟩
theorem uY(l:al)(q:List Bool){p:Nat}(hp:p≤q.length):p≤(fz l q p).2.2∧(fz l q p).2.2≤q.length∧((fz l q p).2.1=0→∃s:Nat,(fz l q p).1=s∧s<l.length∧p<(fz l q p).2.2)∧0≤(fz l q p).2.1∧(fz l q p).2.1≤7:=by
 unfold fz;split
 ·rename_i s k h;obtain⟨h1,h2,h3⟩:=Nv _ _ h;have h4:=(acA h3).1;unfold there at h2;exact⟨cZ,cZ,fun _=>⟨s,rfl,h4,cZ⟩,cZ,cZ⟩
 ·refine⟨gj _,hp,fun h=>?_,?_,?_⟩
  ·simp only at h;split at h<;>omega
  ·simp only;split<;>omega
  ·simp only;split<;>omega
theorem Im{l:al}{q:List Bool}{p n s k:Nat}(hk:k≤n)(hf:nv l (part q p k) k=some s)(hn:∀j,1≤j→j<k→nv l (part q p j) j=none):∀(f j:Nat),1≤j→j≤k→k-j<f→nw l q p n f j=some (s,k)
 |0,j,_,_,h=>by omega
 |f+1,j,h1,h2,h3=>by
  unfold nw;rw[aw aa];by_cases e:j=k
  ·subst e;rw[hf]
  ·rw[hn j h1 aa];exact Im hk hf hn f (j+1) aa aa aa
theorem xY{l:al}(hg:Good l){s:Nat}(hs:s<l.length)(h0:(l.getD s 0).toNat≠0)(pre r:List Bool){q:List Bool}(hq:q=pre++(hw l s++r)):
  fz l q pre.length=((s:Int),0,(pre++hw l s).length):=by
 obtain⟨k,hk⟩:=cN ((l.getD s 0).toNat);have Yt:k≤15:=by rw[hk];exact hg.1.2 _ (bg hs 0)
 have hw1:hw l s=hi (place l k s) k k:=by unfold hw;rw[←hk]
 have mJ:=yB hs hk.symm;have hpg:=ad7 l k s;have hb:=qQ hg (k:=k) aa Yt;have asF:¬num l k=0:=by
  unfold place at mJ hpg;omega
 rw[hw1]at hq;have qY:∀j,j≤k→part q pre.length j=place l k s/2^(k-j):=fun j hj=>by rw[hq];exact KM pre r _ k aa j hj
 have asR:=SS hs hk.symm;have hfk:nv l (part q pre.length k) k=some s:=by
  have e1:part q pre.length k=place l k s:=by rw[qY k (gj _),nx,Nat.pow_zero,Nat.div_one]
  have e2:ov l k=fst l k:=aw asF;unfold nv;rw[e1,e2,ao ⟨hpg,aa⟩,show place l k s-fst l k=num (l.take s) k by unfold place;omega,asR]
 have hfj:∀j,1≤j→j<k→nv l (part q pre.length j) j=none:=fun j h1 h2=>by
  unfold nv;refine aw fun hc=>?_;rw[qY j aa]at hc;by_cases hz:num l j=0
  ·omega
  ·have e2:ov l j=fst l j:=aw hz;rw[e2]at hc;have ahr:=UR l h1 (k-j) aa;rw[show j+(k-j)=k by omega]at ahr;have:=(Nat.le_div_iff_mul_le (vS (k-j))).2 (jd ahr hpg);omega
 have hlen:pre.length+k≤q.length:=by rw[hq];simp[dM]
 have:=Im (n:=there q pre.length) (by unfold there;omega) hfk hfj 15 1 (gj _) aa aa;unfold fz;rw[this,hw1,aY,dM]
theorem kQ{P:Prop}(h:P:=by(rw[iG];omega)):P:=h
theorem np{P:Prop}(h:P:=by(rw[eS];omega)):P:=h
theorem vJ{P:Prop}(h:P:=by(simp[hz])):P:=h
theorem C5{P:Prop}(h:P:=by(simpa using hi)):P:=h
theorem vK{P:Prop}(h:P:=by(simp[hy])):P:=h
theorem Vo:type_of% @List.pairwise_singleton:= @List.pairwise_singleton
theorem Ep:type_of% @List.nodup_cons:= @List.nodup_cons
theorem Iz:type_of% @List.drop_eq_nil_of_le:= @List.drop_eq_nil_of_le
theorem NS:type_of% @List.countP_eq_length:= @List.countP_eq_length
theorem BF:type_of% @List.getD_cons_succ:= @List.getD_cons_succ
theorem jZ:type_of% @List.getElem_of_mem:= @List.getElem_of_mem
theorem Er:type_of% @List.getElem_take:= @List.getElem_take
theorem rb:type_of% @List.pairwise_iff_getElem:= @List.pairwise_iff_getElem
theorem j0:type_of% @Nat.succ_mul:= @Nat.succ_mul
theorem t_:type_of% @Nat.mul_add:= @Nat.mul_add
theorem BG:type_of% @List.getElem?_set:= @List.getElem?_set
theorem BH:type_of% @List.length_filter_le:= @List.length_filter_le
theorem jr:type_of% @List.getElem?_map:= @List.getElem?_map
theorem x':type_of% @List.getElem?_range:= @List.getElem?_range
theorem NT:type_of% @List.set_cons_succ:= @List.set_cons_succ
def tv(o:Nat→Nat)(a b:Nat):Prop:=o a<o b∨o a=o b∧a<b
theorem wU(o:Nat→Nat)(a:Nat):¬tv o a a:=fun h=>h.elim (fun h=>Nat.lt_irrefl _ h) fun h=>Nat.lt_irrefl _ h.2
theorem rm{o:Nat→Nat}{a b c:Nat}(h1:tv o a b)(h2:tv o b c):tv o a c:=by unfold tv at*;omega
theorem Y6(o:Nat→Nat)(a b:Nat):tv o a b∨a=b∨tv o b a:=by unfold tv;omega
abbrev tr(o:Nat→Nat)(l:bf):Prop:=l.Pairwise (tv o)
theorem tr.ext{o:Nat→Nat}:∀{a b:bf},tr o a→tr o b→(∀x,x∈a↔x∈b)→a=b
 |[],[],_,_,_=>rfl
 |[],y::b,_,_,h=>absurd ((h y).2 ak) ak
 |x::a,[],_,_,h=>absurd ((h x).1 ak) ak
 |x::a,y::b,ha,hb,h=>by
  obtain⟨ha1,ha2⟩:=kC.1 ha;obtain⟨p9,oH⟩:=kC.1 hb;have Vf:x=y:=by
   rcases fk.1 ((h x).1 ak)with e|e
   ·exact e
   ·rcases fk.1 ((h y).2 ak)with e2|e2
    ·exact e2.symm
    ·exact absurd (rm (ha1 y e2) (p9 x e)) (wU _ _)
  subst Vf;congr 1;refine tr.ext ha2 oH fun z=>⟨fun hz=>?_,fun hz=>?_⟩
  ·rcases fk.1 ((h z).1 (lk _ hz))with e|e
   ·subst e;exact absurd (ha1 _ hz) (wU _ _)
   ·exact e
  ·rcases fk.1 ((h z).2 (lk _ hz))with e|e
   ·subst e;exact absurd (p9 _ hz) (wU _ _)
   ·exact e
instance (o:Nat→Nat)(a b:Nat):Decidable (tv o a b):=inferInstanceAs (Decidable (_∨_))
def YD(o:Nat→Nat)(x:Nat):bf→bf
 |[]=>[x]
 |y::r=>if tv o x y then x::y::r else y::YD o x r
def cU(o:Nat→Nat):bf→bf
 |[]=>[]
 |x::r=>YD o x (cU o r)
theorem zS(o:Nat→Nat)(x:Nat):∀l,(YD o x l).Perm (x::l)
 |[]=>.refl _
 |y::r=>by
  unfold YD;split
  ·exact .refl _
  ·exact((zS o x r).cons y).trans (.swap x y r)
theorem gE(o:Nat→Nat):∀l,(cU o l).Perm l
 |[]=>.refl _
 |x::r=>(zS o x _).trans ((gE o r).cons x)
theorem Vl{o:Nat→Nat}{x:Nat}:∀{l:bf},tr o l→x∉l→tr o (YD o x l)
 |[],_,_=>Vo _ _
 |y::r,h,hx=>by
  obtain⟨h1,h2⟩:=kC.1 h;unfold YD;split
  ·rename_i Vf;exact kC.2 ⟨fun z hz=>(fk.1 hz).elim (fun e=>e▸Vf) fun hz=>rm Vf (h1 z hz),h⟩
  ·rename_i Vf;refine kC.2 ⟨fun z hz=>?_,Vl h2 fun hz=>hx (lk _ hz)⟩;rcases fk.1 ((zS o x r).mem_iff.1 hz)with e|e
   ·subst e;rcases Y6 o z y with k|k|k
    ·exact absurd k Vf
    ·exact absurd (k▸rj ..) hx
    ·exact k
   ·exact h1 z e
theorem lu(o:Nat→Nat):∀{l:bf},l.Nodup→tr o (cU o l)
 |[],_=>List.Pairwise.nil
 |x::r,h=>by
  obtain⟨h1,h2⟩:=Ep.1 h;exact Vl (lu o h2) fun hx=>h1 ((gE o r).mem_iff.1 hx)
abbrev cv:=Nat×Bool
def pB(leaf row:List cv):Nat→Nat→Nat→List cv
 |0,_,_=>[]
 |f+1,i,k=>
  if row.length≤k+1 then (if i<leaf.length then leaf.getD i (0,false)::pB leaf row f (i+1) k else [])
  else if i<leaf.length∧(leaf.getD i (0,false)).1≤(row.getD k (0,false)).1+(row.getD (k+1) (0,false)).1 then leaf.getD i (0,false)::pB leaf row f (i+1) k
  else ((row.getD k (0,false)).1+(row.getD (k+1) (0,false)).1,false)::pB leaf row f i (k+2)
def uu(leaf row:List cv):List cv:=pB leaf row (leaf.length+row.length) 0 0
def EZ:List cv→List cv
 |[]=>[]
 |[_]=>[]
 |a::b::r=>(a.1+b.1,false)::EZ r
def vD:List cv→List cv→List cv
 |[],ys=>ys
 |x::xs,[]=>x::xs
 |x::xs,y::ys=>if x.1≤y.1 then x::vD xs (y::ys) else y::vD (x::xs) ys
theorem CE(xs:List cv):vD xs []=xs:=by cases xs<;>rw[vD]
theorem EJ(ys:List cv):vD [] ys=ys:=by rw[vD]
theorem IW{l:List cv}(h:l.length≤1):EZ l=[]:=by
 match l,h with
 |[],_=>rfl
 |[_],_=>rfl
theorem u4(leaf row:List cv):∀(f i k:Nat),i≤leaf.length→k≤row.length→leaf.length-i+(row.length-k)≤f→pB leaf row f i k=vD (leaf.drop i) (EZ (row.drop k))
 |0,i,k,h1,h2,h3=>by
  rw[Iz aa,Iz aa,EJ];rfl
 |f+1,i,k,h1,h2,h3=>by
  unfold pB;split
  ·rename_i hr;rw[IW kQ,CE];split
   ·rename_i hi;rw[u4 leaf row f (i+1) k aa h2 aa,IW kQ,CE,dx hi (0,false)]
   ·rw[Iz aa]
  ·rename_i hr;have e:EZ (row.drop k)=((row.getD k (0,false)).1+(row.getD (k+1) (0,false)).1,false)::EZ (row.drop (k+2)):=by
    rw[dx (by omega:k<row.length) (0,false),dx (by omega:k+1<row.length) (0,false),EZ]
   rw[e];split
   ·rename_i hc;rw[dx hc.1 (0,false),vD,ao hc.2,u4 leaf row f (i+1) k aa h2 aa,e]
   ·rename_i hc;rw[u4 leaf row f i (k+2) h1 aa aa];by_cases hi:i<leaf.length
    ·rw[dx hi (0,false),vD,aw fun h=>hc ⟨hi,h⟩]
    ·rw[Iz aa,EJ,EJ]
theorem u5(leaf row:List cv):uu leaf row=vD leaf (EZ row):=by
 unfold uu;rw[u4 leaf row _ 0 0 (bT _) (bT _) aa];rfl
theorem KE:∀xs ys:List cv,(vD xs ys).length=xs.length+ys.length
 |[],ys=>by simp[vD]
 |x::xs,[]=>by simp[vD]
 |x::xs,y::ys=>by
  rw[vD];split
  ·rw[ef,KE xs (y::ys)];simp;omega
  ·rw[ef,KE (x::xs) ys];simp;omega
theorem KN:∀l:List cv,(EZ l).length=l.length/2
 |[]=>rfl
 |[_]=>by simp[EZ]
 |a::b::r=>by simp only[EZ,ef,KN r];omega
theorem yr{z:cv}:∀{xs ys:List cv},z∈vD xs ys→z∈xs∨z∈ys
 |[],ys,h=>.inr (by rwa [EJ]at h)
 |x::xs,[],h=>.inl (by rwa [CE]at h)
 |x::xs,y::ys,h=>by
  rw[vD]at h;split at h
  ·rcases fk.1 h with e|e
   ·exact .inl (by simp[e])
   ·rcases yr e with k|k
    ·exact .inl (lk _ k)
    ·exact .inr k
  ·rcases fk.1 h with e|e
   ·exact .inr (by simp[e])
   ·rcases yr e with k|k
    ·exact .inl k
    ·exact .inr (lk _ k)
abbrev Wt(l:List cv):Prop:=l.Pairwise fun a b=>a.1≤b.1
theorem V0{z:cv}{W:Nat}:∀{l:List cv},(∀x∈l,x.1≤W)→z∈EZ l→z.1≤2*W∧z.2=false
 |[],_,h=>by cases h
 |[_],_,h=>by cases h
 |a::b::r,hw,h=>by
  rw[EZ]at h;rcases fk.1 h with e|e
  ·have h1:=hw a ak;have h2:=hw b ak;subst e;exact⟨cZ,rfl⟩
  ·exact V0 (fun x hx=>hw x oa) e
theorem OI{a:Nat}:∀{l:List cv},Wt l→(∀x∈l,a≤2*x.1)→∀z∈EZ l,a≤z.1
 |[],_,_,z,h=>by cases h
 |[_],_,_,z,h=>by cases h
 |x::y::r,hw,ha,z,h=>by
  rw[EZ]at h;rcases fk.1 h with e|e
  ·have h1:=ha x ak;have h2:=ha y ak;subst e;simp only;omega
  ·obtain⟨_,h2⟩:=kC.1 hw;obtain⟨_,h3⟩:=kC.1 h2;exact OI h3 (fun q hq=>ha q (by simp[hq])) z e
theorem ad_:∀{l:List cv},Wt l→Wt (EZ l)
 |[],_=>List.Pairwise.nil
 |[_],_=>List.Pairwise.nil
 |a::b::r,h=>by
  obtain⟨h1,h2⟩:=kC.1 h;obtain⟨h3,h4⟩:=kC.1 h2;refine kC.2 ⟨fun z hz=>?_,ad_ h4⟩;have hab:=h1 b ak;exact OI h4 (fun x hx=>by
   have:=h3 x hx;have:a.1+b.1≤2*x.1:=by omega
   exact this) z hz
theorem Sb:∀{xs ys:List cv},Wt xs→Wt ys→Wt (vD xs ys)
 |[],ys,_,h=>by rwa [EJ]
 |x::xs,[],h,_=>by rwa [CE]
 |x::xs,y::ys,hx,hy=>by
  obtain⟨h1,h2⟩:=kC.1 hx;obtain⟨h3,h4⟩:=kC.1 hy;rw[vD];split
  ·rename_i hc;refine kC.2 ⟨fun z hz=>?_,Sb h2 hy⟩;rcases yr hz with e|e
   ·exact h1 z e
   ·rcases fk.1 e with e|e
    ·subst e;exact hc
    ·have:=h3 z e;omega
  ·rename_i hc;refine kC.2 ⟨fun z hz=>?_,Sb hx h4⟩;rcases yr hz with e|e
   ·rcases fk.1 e with e|e
    ·subst e;omega
    ·have:=h1 z e;omega
   ·exact h3 z e
def gJ(row:List cv)(t:Nat):Nat:=(row.take t).countP (·.2)
theorem Uk(row:List cv)(t:Nat):gJ row t≤t:=jd ac9 np
theorem lN(x:cv)(r:List cv)(t:Nat):gJ (x::r) (t+1)=(if x.2 then 1 else 0)+gJ r t:=by
 unfold gJ;rw[q9,N5];omega
def anX(leaf row:List cv):Prop:=Wt row∧∀t,(row.take t).filter (·.2)=leaf.take (gJ row t)
theorem EI:∀{xs ys:List cv},(∀x∈xs,x.2=true)→(∀y∈ys,y.2=false)→∀t,((vD xs ys).take t).filter (·.2)=xs.take (gJ (vD xs ys) t)
 |[],ys,_,hy,t=>by
  rw[vD,List.take_nil];exact List.filter_eq_nil_iff.2 fun z hz=>by simp[hy z (lX hz)]
 |x::xs,[],hx,_,t=>by
  rw[vD];have:∀z∈(x::xs).take t,z.2=true:=fun z hz=>hx z (lX hz);rw[List.filter_eq_self.2 this];have e:gJ (x::xs) t=min t (x::xs).length:=by
   unfold gJ;rw[NS.2 this,eS]
  rw[e,List.take_eq_take_iff];omega
 |x::xs,y::ys,hx,hy,t=>by
  cases t with
  |zero=>simp[gJ]
  |succ t=>
   have LD:=hx x ak;have NF:=hy y ak;rw[vD];split
   ·rw[lN,LD,q9,tZ,ao (by simpa using LD),EI (fun z hz=>hx z vJ) hy t,ao rfl,sL,q9]
   ·rw[lN,NF,q9,tZ,aw (by simp[NF]),EI hx (fun z hz=>hy z vJ) t,aw ak,mq]
theorem Aw:∀{xs ys:List cv},(∀x∈xs,x.2=true)→(∀y∈ys,y.2=false)→∀t,t≤(vD xs ys).length→t-gJ (vD xs ys) t≤ys.length
 |[],ys,_,hy,t,h=>by rw[vD]at h⊢;omega
 |x::xs,[],hx,_,t,h=>by
  rw[vD]at h⊢;have e:gJ (x::xs) t=min t (x::xs).length:=by
   unfold gJ;rw[NS.2 (fun z hz=>hx z (lX hz)),eS]
  rw[e];omega
 |x::xs,y::ys,hx,hy,t,h=>by
  cases t with
  |zero=>omega
  |succ t=>
   have LD:=hx x ak;have NF:=hy y ak;rw[vD]at h⊢;split
   ·rename_i hc;rw[ao hc,ef]at h;have:=Aw (xs:=xs) (ys:=y::ys) (fun z hz=>hx z vJ) hy t aa;rw[lN,LD,ao rfl];omega
   ·rename_i hc;rw[aw hc,ef]at h;have:=Aw (xs:=x::xs) (ys:=ys) hx (fun z hz=>hy z vJ) t aa;rw[lN,NF,aw ak,ef];omega
theorem Az:∀{xs ys:List cv},Wt xs→(∀x∈xs,x.2=true)→(∀y∈ys,y.2=false)→∀t p,t≤(vD xs ys).length→t-gJ (vD xs ys) t=p+1→∀i,i<xs.length→(xs.getD i (0,false)).1≤(ys.getD p (0,false)).1→i<gJ (vD xs ys) t
 |[],ys,_,_,hy,t,p,h,hp,i,hi,_=>by simp at hi
 |x::xs,[],_,hx,_,t,p,h,hp,i,hi,_=>by
  rw[vD]at h hp;have e:gJ (x::xs) t=min t (x::xs).length:=by
   unfold gJ;rw[NS.2 (fun z hz=>hx z (lX hz)),eS]
  rw[e]at hp;omega
 |x::xs,y::ys,hw,hx,hy,t,p,h,hp,i,hi,hle=>by
  cases t with
  |zero=>omega
  |succ t=>
   have LD:=hx x ak;have NF:=hy y ak;obtain⟨hw1,hw2⟩:=kC.1 hw;rw[vD]at h hp⊢;split
   ·rename_i hc;rw[ao hc,ef]at h;rw[ao hc,lN,LD,ao rfl]at hp;rw[lN,LD,ao rfl];cases i with
    |zero=>omega
    |succ i=>
     have:=Az (xs:=xs) (ys:=y::ys) hw2 (fun z hz=>hx z vJ) hy t p aa aa i C5 (by simpa using hle);omega
   ·rename_i hc;rw[aw hc,ef]at h;rw[aw hc,lN,NF,aw ak]at hp;rw[lN,NF,aw ak,mq];cases p with
    |zero=>
     have h1:x.1≤((x::xs).getD i (0,false)).1:=by
      cases i with
      |zero=>simp
      |succ i=>
       have:=hw1 _ (bg (l:=xs) (k:=i) C5 (0,false));simpa using this
     simp only[List.getD_cons_zero]at hle;omega
    |succ p=>
     exact Az (xs:=x::xs) (ys:=ys) hw hx (fun z hz=>hy z vJ) t p aa aa i hi (by simpa using hle)
def dS(leaf:List cv):Nat→List cv
 |0=>leaf
 |r+1=>uu leaf (dS leaf r)
theorem yD:∀{l:List cv} {y:cv},y∈EZ l→y.2=false
 |[],_,h=>by cases h
 |[_],_,h=>by cases h
 |a::b::r,y,h=>by
  rw[EZ]at h;rcases fk.1 h with e|e
  ·subst e;rfl
  ·exact yD e
theorem VZ:∀{l:List cv} {p:Nat},p<(EZ l).length→(EZ l).getD p (0,false)=((l.getD (2*p) (0,false)).1+(l.getD (2*p+1) (0,false)).1,false)
 |[],p,h=>by simp[EZ]at h
 |[_],p,h=>by simp[EZ]at h
 |a::b::r,0,_=>rfl
 |a::b::r,p+1,h=>by
  rw[EZ,BF,VZ (by simpa[EZ]using h),show 2*(p+1)=2*p+1+1 by omega,BF,BF,BF,BF]
theorem ajs{l:List cv}(h:Wt l){m:Nat}(hm:m<l.length){z:cv}(hz:z∈l.take (m+1)):z.1≤(l.getD m (0,false)).1:=by
 obtain⟨i,hi,rfl⟩:=jZ hz;rw[eS]at hi;rw[Er,bk,fm hm,vB];by_cases e:i=m
 ·subst e;exact gj _
 ·exact rb.1 h i m aa hm aa
theorem KR{leaf:List cv}(hl:∀x∈leaf,x.2=true)(hw:Wt leaf):∀r,anX leaf (dS leaf r)
 |0=>⟨hw,fun t=>by
  have:∀z∈leaf.take t,z.2=true:=fun z hz=>hl z (lX hz);have e:gJ leaf t=min t leaf.length:=by
   unfold gJ;rw[NS.2 this,eS]
  rw[dS,List.filter_eq_self.2 this,e,List.take_eq_take_iff];omega⟩
 |r+1=>by
  have ih:=KR hl hw r;rw[dS,u5];exact⟨Sb hw (ad_ ih.1),EI hl (fun y hy=>yD hy)⟩
theorem aeo{leaf:List cv}(hl:∀x∈leaf,x.2=true)(hw:Wt leaf){r t n:Nat}(ht:t≤(dS leaf (r+1)).length)(hn:n=gJ (dS leaf (r+1)) t):
  2*(t-n)≤(dS leaf r).length∧gJ (dS leaf r) (2*(t-n))≤n:=by
 obtain⟨h1,h2⟩:=KR hl hw r;rw[dS,u5]at ht hn;have hp:=Aw hl (fun y hy=>yD (l:=dS leaf r) hy) t ht;rw[←hn]at hp;have mJ:=KN (dS leaf r);refine⟨aa,?_⟩;cases hpp:t-n with
 |zero=>simp[gJ]
 |succ p=>
  obtain⟨m,hm⟩:=cN (gJ (dS leaf r) (2*(p+1)));rw[←hm];cases m with
  |zero=>omega
  |succ m=>
   have hf:=h2 (2*(p+1));rw[←hm]at hf;have hlen:(leaf.take (m+1)).length=m+1:=by rw[←hf,←List.countP_eq_length_filter];exact hm.symm
   rw[eS]at hlen;have y9:m<leaf.length:=by omega
   have pS:leaf.getD m (0,false)∈leaf.take (m+1):=by rw[ba y9 (0,false)];simp
   rw[←hf]at pS;have Ys:=(BE.1 pS).1;rw[show 2*(p+1)=(2*p+1)+1 by omega]at Ys;have hle:=ajs h1 (m:=2*p+1) aa Ys;have hg:=VZ (l:=dS leaf r) (p:=p) aa;have:=Az hw hl (fun y hy=>yD (l:=dS leaf r) hy) t p ht (by rw[←hn];exact hpp) m y9 (by rw[hg];simp only;omega);omega
def CH(leaf:List cv):Nat→Nat→bf
 |0,_=>[]
 |r+1,t=>gJ (dS leaf r) t::CH leaf r (2*(t-gJ (dS leaf r) t))
def mN(leaf:List cv):Nat→Nat→Nat→Prop
 |0,t,_=>t=0
 |r+1,t,M=>t≤(dS leaf r).length∧gJ (dS leaf r) t≤M
theorem mN.step{leaf:List cv}(hl:∀x∈leaf,x.2=true)(hw:Wt leaf){r t M:Nat}(h:mN leaf (r+1) t M):mN leaf r (2*(t-gJ (dS leaf r) t)) (gJ (dS leaf r) t):=by
 cases r with
 |zero=>
  obtain⟨h1,h2⟩:=h;have e:gJ leaf t=min t leaf.length:=by
   unfold gJ;rw[NS.2 (fun z hz=>hl z (lX hz)),eS]
  show 2*(t-gJ leaf t)=0;have Ya:t≤leaf.length:=h1;rw[e];omega
 |succ r=>exact aeo hl hw h.1 rfl
theorem Se{leaf:List cv}(hl:∀x∈leaf,x.2=true)(hw:Wt leaf):∀(R t M:Nat),mN leaf R t M→∀n∈CH leaf R t,n≤M
 |0,_,_,_,n,hn=>by cases hn
 |r+1,t,M,h,n,hn=>by
  rcases fk.1 hn with e|e
  ·subst e;exact h.2
  ·exact jd (Se hl hw r _ _ (h.step hl hw) n e) h.2
def MI(ns:bf)(j:Nat):Nat:=ns.countP fun n=>decide (j<n)
theorem Du(n:Nat)(ns:bf)(j:Nat):MI (n::ns) j=MI ns j+if j<n then 1 else 0:=by
 unfold MI;rw[N5];simp
theorem abz{ns:bf}{M j:Nat}(h:∀n∈ns,n≤M)(hj:M≤j):MI ns j=0:=by
 unfold MI;refine List.countP_eq_zero.2 fun n hn=>?_;have:=h n hn;simp;omega
theorem alm(ns:bf)(j:Nat):MI ns j≤ns.length:=ac9
theorem VO(leaf:List cv):∀R t,(CH leaf R t).length=R
 |0,_=>rfl
 |r+1,t=>by rw[CH,ef,VO leaf r]
def nI(f:Nat→Nat):Nat→Nat
 |0=>0
 |m+1=>nI f m+f m
theorem pH{f g:Nat→Nat}:∀{m:Nat},(∀j,j<m→f j=g j)→nI f m=nI g m
 |0,_=>rfl
 |m+1,h=>by rw[nI,nI,pH fun j hj=>h j aa,h m aa]
theorem AY{f:Nat→Nat}{n c:Nat}:∀d,(∀j,n≤j→j<n+d→f j=c)→nI f (n+d)=nI f n+d*c
 |0,_=>by simp
 |d+1,h=>by
  rw[←NL,nI,AY d (fun j h1 h2=>h j h1 aa),h (n+d) aa aa,j0];omega
theorem aeP{leaf:List cv}(hl:∀x∈leaf,x.2=true)(hw:Wt leaf):∀(R t M:Nat),mN leaf R t M→2*nI (fun j=>2^(R-MI (CH leaf R t) j)) M+t*2^R=2*M*2^R
 |0,t,M,h=>by
  have h0:t=0:=h;have:=AY (f:=fun j=>2^(0-MI (CH leaf 0 t) j)) (n:=0) (c:=1) M (fun j _ _=>rfl);rw[mq]at this;rw[this,h0];simp[nI]
 |r+1,t,M,h=>by
  obtain⟨n,hn⟩:=cN (gJ (dS leaf r) t);have hs:=h.step hl hw;have h2:n≤M:=hn▸h.2;have hnt:n≤t:=hn▸Uk _ _;have hle:=Se hl hw r _ _ hs;have ih:=aeP hl hw r _ _ hs;rw[←hn]at hs hle ih;have e:CH leaf (r+1) t=n::CH leaf r (2*(t-n)):=by rw[CH,←hn]
  rw[e];have Kk:=AY (f:=fun j=>2^(r+1-MI (n::CH leaf r (2*(t-n))) j)) (n:=n) (c:=2^(r+1)) (M-n) (fun j h1 _=>by
   rw[Du,abz hle h1,aw aa];rfl)
  rw[show n+(M-n)=M by omega]at Kk;have hc:=pH (f:=fun j=>2^(r+1-MI (n::CH leaf r (2*(t-n))) j)) (g:=fun j=>2^(r-MI (CH leaf r (2*(t-n))) j)) (m:=n) (fun j hj=>by
   rw[Du,ao hj];congr 1;omega)
  rw[Kk,hc,nD];generalize nI (fun j=>2^(r-MI (CH leaf r (2*(t-n))) j)) n=S at*;generalize 2^r=P at*;obtain⟨a,rfl⟩:∃a,M=n+a:=⟨M-n,aa⟩
  obtain⟨b,rfl⟩:∃b,t=n+b:=⟨t-n,aa⟩
  rw[show n+a-n=a by omega];rw[show n+b-n=b by omega]at ih;have i1:2*b*P=2*(b*P):=by rw[tc]
  have i2:2*n*P=2*(n*P):=by rw[tc]
  have i3:a*(P*2)=2*(a*P):=by rw[←tc,nE]
  have i4:(n+b)*(P*2)=2*(n*P)+2*(b*P):=by rw[←tc,mH,nE];omega
  have i5:2*(n+a)*(P*2)=4*(n*P)+4*(a*P):=by
   rw[t_,mH,←tc,←tc,tc 2 n P,tc 2 a P];omega
  omega
def s8(syms:bf):Nat→bf→bf
 |0,out=>out
 |j+1,out=>(s8 syms j out).set (syms.getD j 0) ((s8 syms j out).getD (syms.getD j 0) 0+1)
theorem q8(syms:bf)(out:bf):∀n,(s8 syms n out).length=out.length
 |0=>rfl
 |j+1=>by rw[s8,List.length_set,q8 syms out j]
theorem Zc:∀{l:bf},l.Nodup→∀(i j:Nat) (hi:i<l.length) (hj:j<l.length),l[i]=l[j]→i=j:=by
 intro l h i j hi hj e;rcases Nat.lt_trichotomy i j with k|k|k
 ·exact absurd e (rb.1 h i j hi hj k)
 ·exact k
 ·exact absurd e.symm (rb.1 h j i hj hi k)
theorem Zb{l:bf}(h:l.Nodup){i j:Nat}(hi:i<l.length)(hj:j<l.length)(e:l.getD i 0=l.getD j 0):i=j:=by
 rw[bk,bk,fm hi,fm hj]at e;exact Zc h i j hi hj (by simpa using e)
theorem Eg{syms out:bf}(hd:syms.Nodup)(hs:∀s∈syms,s<out.length):∀(n:Nat),n≤syms.length→
  (∀j,j<syms.length→(s8 syms n out).getD (syms.getD j 0) 0=out.getD (syms.getD j 0) 0+if j<n then 1 else 0)∧∀s,s∉syms→(s8 syms n out).getD s 0=out.getD s 0
 |0,_=>⟨fun j _=>by rw[s8,aw aa];rfl,fun s _=>rfl⟩
 |n+1,h=>by
  obtain⟨h1,h2⟩:=Eg hd hs n aa;have hl:=q8 syms out n;have hm:syms.getD n 0∈syms:=bg aa 0;have fE:=hs _ hm;refine⟨fun j hj=>?_,fun s hn=>?_⟩
  ·rw[s8];by_cases e:j=n
   ·subst e;rw[h1 j hj,aw aa,ao aa];rw[bk,BG,ao rfl,hl,ao fE];rfl
   ·have r8:syms.getD n 0≠syms.getD j 0:=fun k=>e (Zb hd aa hj k).symm;have:=h1 j hj;have e2:(if j<n then 1 else 0)=(if j<n+1 then 1 else 0:Nat):=by
     by_cases k:j<n
     ·rw[ao k,ao aa]
     ·rw[aw k,aw aa]
    rw[←e2,←this];simp only[bk,BG];rw[aw (by simpa[bk]using r8)]
  ·have r8:syms.getD n 0≠s:=fun k=>hn (k▸hm);rw[s8,←h2 s hn];simp only[bk,BG];rw[aw (by simpa[bk]using r8)]
def sG(syms:bf):bf→bf→bf
 |[],out=>out
 |n::ns,out=>sG syms ns (s8 syms n out)
theorem If(syms:bf):∀ns out,(sG syms ns out).length=out.length
 |[],_=>rfl
 |n::ns,out=>by rw[sG,If syms ns,q8]
theorem Ie{syms:bf}(hd:syms.Nodup):∀(ns out:bf),(∀s∈syms,s<out.length)→(∀n∈ns,n≤syms.length)→
  (∀j,j<syms.length→(sG syms ns out).getD (syms.getD j 0) 0=out.getD (syms.getD j 0) 0+MI ns j)∧∀s,s∉syms→(sG syms ns out).getD s 0=out.getD s 0
 |[],out,_,_=>⟨fun j _=>rfl,fun s _=>rfl⟩
 |n::ns,out,hs,hn=>by
  obtain⟨h1,h2⟩:=Eg hd hs n (hn n ak);obtain⟨h3,h4⟩:=Ie hd ns (s8 syms n out) (fun s BA=>by rw[q8];exact hs s BA) (fun m hm=>hn m (by simp[hm]));refine⟨fun j hj=>?_,fun s BA=>?_⟩
  ·rw[sG,h3 j hj,h1 j hj,Du];omega
  ·rw[sG,h4 s BA,h2 s BA]
def mx(o:Nat→Nat)(N:Nat):bf:=(List.range N).filter fun s=>decide (0<o s)
def dA(o:Nat→Nat)(N:Nat):bf:=cU o (mx o N)
def oh(o:Nat→Nat)(N:Nat):List cv:=(dA o N).map fun s=>(o s,true)
def js(o:Nat→Nat)(N:Nat):bf:=
 if (dA o N).length<2 then (if (dA o N).length=1 then (List.replicate N 0).set ((dA o N).getD 0 0) 1 else List.replicate N 0)
 else sG (dA o N) (CH (oh o N) 15 (2*(dA o N).length-2)) (List.replicate N 0)
theorem PG(o:Nat→Nat)(N:Nat):(mx o N).Nodup:=List.Nodup.sublist List.filter_sublist List.nodup_range
theorem m9{o:Nat→Nat}{N s:Nat}:s∈dA o N↔s<N∧0<o s:=by
 unfold dA;rw[(gE o _).mem_iff];unfold mx;rw[BE,kz];simp
theorem aeW(o:Nat→Nat)(N:Nat):tr o (dA o N):=lu o (PG o N)
theorem Pa(o:Nat→Nat)(N:Nat):(dA o N).Nodup:=(gE o _).nodup_iff.2 (PG o N)
theorem I_(o:Nat→Nat)(N:Nat):(dA o N).length≤N:=by
 unfold dA;rw[(gE o _).length_eq];exact jd (BH _ _) ak
theorem sa{o:Nat→Nat}{N:Nat}:∀x∈oh o N,x.2=true:=fun x hx=>by
 obtain⟨s,_,rfl⟩:=pM.1 hx;rfl
theorem yk(o:Nat→Nat)(N:Nat):Wt (oh o N):=List.Pairwise.map _ (fun a b h=>by
 rcases h with h|h
 ·exact Nat.le_of_lt h
 ·exact Nat.le_of_eq h.1) (aeW o N)
theorem ib(leaf:List cv)(r:Nat):(dS leaf (r+1)).length=leaf.length+(dS leaf r).length/2:=by
 rw[dS,u5,KE,KN]
theorem We(leaf:List cv):∀r,leaf.length≤(dS leaf r).length∧(dS leaf r).length≤2*leaf.length
 |0=>⟨gj _,by rw[dS];omega⟩
 |r+1=>by
  have ih:=We leaf r;rw[ib];omega
theorem gw{n a b d e:Nat}(h:2*n≤a+d)(hb:b=n+a/2)(hd:d≤2*e):2*n≤b+e:=by omega
theorem ZB{leaf:List cv}(h:leaf.length≤300):2*leaf.length-2≤(dS leaf 14).length:=by
 have a0:2*leaf.length≤(dS leaf 0).length+300:=by rw[dS];omega
 have a1:=gw (e:=150) a0 (ib leaf 0) aA;have a2:=gw (e:=75) a1 (ib leaf 1) aA;have a3:=gw (e:=38) a2 (ib leaf 2) aA;have a4:=gw (e:=19) a3 (ib leaf 3) aA;have a5:=gw (e:=10) a4 (ib leaf 4) aA;have a6:=gw (e:=5) a5 (ib leaf 5) aA;have a7:=gw (e:=3) a6 (ib leaf 6) aA;have a8:=gw (e:=2) a7 (ib leaf 7) aA;have a9:=gw (e:=1) a8 (ib leaf 8) aA;have a10:=gw (e:=1) a9 (ib leaf 9) aA;have a11:=gw (e:=1) a10 (ib leaf 10) aA;have a12:=gw (e:=1) a11 (ib leaf 11) aA;have a13:=gw (e:=1) a12 (ib leaf 12) aA;have a14:2*leaf.length≤(dS leaf 14).length+1:=gw (e:=1) a13 (ib leaf 13) aA;omega
theorem w6{o:Nat→Nat}{N:Nat}(hN:N≤300):mN (oh o N) 15 (2*(dA o N).length-2) (dA o N).length:=by
 have hl:(oh o N).length=(dA o N).length:=by simp[oh]
 have hs:=I_ o N;refine⟨by rw[←hl];exact ZB aa,?_⟩;have hf:=(KR sa (yk o N) 14).2 (2*(dA o N).length-2);have:((oh o N).take (gJ (dS (oh o N) 14) (2*(dA o N).length-2))).length=gJ (dS (oh o N) 14) (2*(dA o N).length-2):=by
  rw[←hf,←List.countP_eq_length_filter];rfl
 rw[eS,hl]at this;exact jd (Nat.le_of_eq this.symm) (Nat.min_le_right _ _)
def qC(f:Nat→Nat):bf→Nat
 |[]=>0
 |x::r=>f x+qC f r
theorem ZP{f:Nat→Nat}{a b:bf}(h:a.Perm b):qC f a=qC f b:=by
 induction h with
 |nil=>rfl
 |cons x _ ih=>rw[qC,qC,ih]
 |swap x y l=>simp only[qC];omega
 |trans _ _ h1 h2=>rw[h1,h2]
theorem BT{f:Nat→Nat}{p:Nat→Bool}:∀{l:bf},(∀x∈l,p x=false→f x=0)→qC f l=qC f (l.filter p)
 |[],_=>rfl
 |x::r,h=>by
  rw[qC,tZ,BT fun y hy=>h y vK];split
  ·rfl
  ·rename_i hp;rw[h x ak (by simpa using hp)];omega
theorem O_(f:Nat→Nat):∀a b,qC f (a++b)=qC f a+qC f b
 |[],b=>by simp[qC]
 |x::a,b=>by rw[nC,qC,qC,O_ f a b];omega
theorem Fv(f:Nat→Nat)(l:bf):∀m,m≤l.length→qC f (l.take m)=nI (fun j=>f (l.getD j 0)) m
 |0,_=>rfl
 |m+1,h=>by rw[ba aa 0,O_,Fv f l m aa,nI];simp[qC]
def gK(c:Nat):Nat:=if c=0 then 0 else 2^(15-c)
def kS(o:Nat→Nat)(N:Nat):al:=(js o N).map UInt8.ofNat
theorem IF(o:Nat→Nat)(N:Nat):(js o N).length=N:=by
 unfold js;split
 ·split<;>simp
 ·rw[If];simp
@[simp] theorem gz(o:Nat→Nat)(N:Nat):(kS o N).length=N:=by rw[kS,eK,IF]
theorem Am{o:Nat→Nat}{N:Nat}(hN:N≤300)(h2:2≤(dA o N).length):
  (∀j,j<(dA o N).length→(js o N).getD ((dA o N).getD j 0) 0=MI (CH (oh o N) 15 (2*(dA o N).length-2)) j)∧∀s,s∉dA o N→(js o N).getD s 0=0:=by
 have hle:=Se sa (yk o N) 15 _ _ (w6 (o:=o) hN);obtain⟨h3,h4⟩:=Ie (Pa o N) (CH (oh o N) 15 (2*(dA o N).length-2)) (List.replicate N 0) (fun s hs=>by rw[x_];exact(m9.1 hs).1) hle;have hz:∀s,(List.replicate N 0).getD s 0=0:=fun s=>by
  rw[bk,Iy];split<;>rfl
 unfold js;rw[aw aa];exact⟨fun j hj=>by rw[h3 j hj,hz,mq],fun s hs=>by rw[h4 s hs,hz]⟩
theorem aeO{f:Nat→Nat}{j m:Nat}(hj:j<m)(h:0<f j){i:Nat}(hi:i<m)(Io:i≠j):f i<nI f m:=by
 induction m with
 |zero=>omega
 |succ m ih=>
  rw[nI];by_cases e1:j=m
  ·subst e1;have:f i≤nI f j:=Fu aa;omega
  ·by_cases e2:i=m
   ·subst e2;have:f j≤nI f i:=Fu aa;omega
   ·have:=ih aa aa;omega
where Fu {f:Nat→Nat}:∀{m j:Nat},j<m→f j≤nI f m
 |m+1,j,h=>by
  rw[nI];by_cases e:j=m
  ·subst e;omega
  ·have:=Fu (f:=f) (m:=m) (j:=j) aa;omega
theorem Od{o:Nat→Nat}{N:Nat}(hN:N≤300)(h2:2≤(dA o N).length):
  nI (fun j=>2^(15-MI (CH (oh o N) 15 (2*(dA o N).length-2)) j)) (dA o N).length=32768:=by
 have h:=aeP sa (yk o N) 15 _ _ (w6 (o:=o) hN);rw[show(2:Nat)^15=32768 from rfl]at h;omega
theorem Oc{o:Nat→Nat}{N:Nat}(hN:N≤300){s:Nat}(hs:s<N)(ho:0<o s):1≤(js o N).getD s 0:=by
 have hm:s∈dA o N:=m9.2 ⟨hs,ho⟩;obtain⟨j,hj,hje⟩:=jZ hm;have hjd:(dA o N).getD j 0=s:=by rw[bk,fm hj,←hje];rfl
 by_cases h2:2≤(dA o N).length
 ·have h:=(Am hN h2).1 j hj;rw[hjd]at h;rw[h];have wO:=Od (o:=o) hN h2;obtain⟨i,hi,Io⟩:∃i,i<(dA o N).length∧i≠j:=by
   by_cases e:j=0
   ·exact⟨1,aa,aa⟩
   ·exact⟨0,aa,aa⟩
  have:=aeO (f:=fun j=>2^(15-MI (CH (oh o N) 15 (2*(dA o N).length-2)) j)) hi (vS _) hj Io.symm;rw[wO]at this;rcases wQ (MI (CH (oh o N) 15 (2*(dA o N).length-2)) j)with e|e
  ·rw[e]at this;simp at this
  ·exact e
 ·have h1:(dA o N).length=1:=by omega
  have hj0:j=0:=by omega
  subst hj0;unfold js;rw[ao aa,ao h1,hjd];simp[bk,BG,hs]
theorem Ez{o:Nat→Nat}{N:Nat}(hN:N≤300)(s:Nat):(js o N).getD s 0≤15:=by
 by_cases h2:2≤(dA o N).length
 ·obtain⟨h3,h4⟩:=Am (o:=o) hN h2;by_cases hm:s∈dA o N
  ·obtain⟨j,hj,hje⟩:=jZ hm;have hjd:(dA o N).getD j 0=s:=by rw[bk,fm hj,←hje];rfl
   have:=h3 j hj;rw[hjd]at this;rw[this];have:=alm (CH (oh o N) 15 (2*(dA o N).length-2)) j
   rwa [VO]at this
  ·rw[h4 s hm];omega
 ·unfold js;rw[ao aa];split
  ·rw[bk,BG];split
   ·split<;>simp
   ·rw[Iy];split<;>simp
  ·rw[bk,Iy];split<;>simp
theorem YQ:∀l:al,qc l=nI (fun s=>gK (l.getD s 0).toNat) l.length:=by
 intro l;have:∀m,m≤l.length→qc (l.take m)=nI (fun s=>gK (l.getD s 0).toNat) m:=by
  intro m;induction m with
  |zero=>intro _;rfl
  |succ m ih=>intro h;rw[ba aa 0,RS,ih aa,nI];rfl
 have h:=this l.length (gj _)
 rwa [jU]at h
theorem Aj{o:Nat→Nat}{N:Nat}(hN:N≤300){s:Nat}(hs:s<N):((kS o N).getD s 0).toNat=(js o N).getD s 0:=by
 have hl:=IF o N;have jG:=Ez (o:=o) hN s;unfold kS;rw[bk,jr];rw[bk]at jG⊢;rw[fm aa]at jG⊢;simp only[sK,vB]at jG⊢;rw[od];exact ja aa
theorem YU{o:Nat→Nat}{N:Nat}(hN:N≤300):Fit (kS o N):=by
 refine⟨by rw[gz];exact hN,fun c hc=>?_⟩;obtain⟨i,hi,rfl⟩:=jZ hc;have P6:i<N:=by rwa [gz]at hi
 have:=Aj (o:=o) hN P6;rw[bk,fm hi,vB]at this;rw[this];exact Ez hN i
theorem RR{o:Nat→Nat}{N:Nat}(hN:N≤300)(h2:2≤(dA o N).length):qc (kS o N)=32768:=by
 obtain⟨h3,h4⟩:=Am (o:=o) hN h2;rw[YQ,gz];have e1:nI (fun s=>gK ((kS o N).getD s 0).toNat) N=nI (fun s=>gK ((js o N).getD s 0)) N:=pH fun s hs=>by rw[Aj hN hs]
 have e2:nI (fun s=>gK ((js o N).getD s 0)) N=qC (fun s=>gK ((js o N).getD s 0)) (List.range N):=by
  have:=Fv (fun s=>gK ((js o N).getD s 0)) (List.range N) N ak;rw[fL ak]at this;rw[this];exact pH fun j hj=>by simp[bk,x' hj]
 have e3:qC (fun s=>gK ((js o N).getD s 0)) (List.range N)=qC (fun s=>gK ((js o N).getD s 0)) (mx o N):=BT fun x hx hp=>by
  have:x∉dA o N:=fun hm=>by
   have:=(m9.1 hm).2;simp only[decide_eq_false_iff_not]at hp;exact hp this
  rw[h4 x this];rfl
 have e4:=ZP (f:=fun s=>gK ((js o N).getD s 0)) (gE o (mx o N));have e5:=Fv (fun s=>gK ((js o N).getD s 0)) (dA o N) (dA o N).length (gj _);rw[jU]at e5;rw[e1,e2,e3,←e4];show qC _ (dA o N)=_;rw[e5,←Od (o:=o) hN h2];refine pH fun j hj=>?_;have hp:=Oc hN (o:=o) (m9.1 (bg hj 0)).1 (m9.1 (bg hj 0)).2;rw[h3 j hj]at hp⊢;unfold gK;rw[aw aa]
theorem F5:∀N:Nat,nz ((List.replicate N 0).map UInt8.ofNat)=0∧num ((List.replicate N 0).map UInt8.ofNat) 1=0
 |0=>⟨rfl,rfl⟩
 |N+1=>by
  obtain⟨h1,h2⟩:=F5 N;rw[zV,kA,CI,yw,h1,h2];exact⟨rfl,rfl⟩
theorem one_set:∀N s:Nat,s<N→nz (((List.replicate N 0).set s 1).map UInt8.ofNat)=1∧num (((List.replicate N 0).set s 1).map UInt8.ofNat) 1=1
 |0,s,h=>by omega
 |N+1,0,h=>by
  obtain⟨h1,h2⟩:=F5 N;rw[zV,List.set_cons_zero,kA,CI,yw,h1,h2];exact⟨rfl,rfl⟩
 |N+1,s+1,h=>by
  obtain⟨h1,h2⟩:=one_set N s aa;rw[zV,NT,kA,CI,yw,h1,h2];exact⟨rfl,rfl⟩
theorem lR{o:Nat→Nat}{N:Nat}(hN:N≤300):Good (kS o N):=by
 have hf:=YU (o:=o) hN;by_cases h2:2≤(dA o N).length
 ·exact(D4 hf).2 (.inr (RR hN h2))
 ·refine(D4 hf).2 (.inl ?_);unfold kS js;rw[ao aa];split
  ·rename_i h1;right;have hm:(dA o N).getD 0 0∈dA o N:=bg aa 0;have fE:=(m9.1 hm).1;obtain⟨s,hs⟩:=cN ((dA o N).getD 0 0);rw[←hs]at fE⊢;obtain⟨k1,k2⟩:=one_set N s fE;exact⟨k1,k2⟩
  ·left;exact(F5 N).1
theorem ak4{P:Prop}(h:P:=by(rw[hl];simp only;omega)):P:=h
theorem Vp:type_of% @List.getElem?_take_of_lt:= @List.getElem?_take_of_lt
theorem sM:type_of% @List.take_add_one:= @List.take_add_one
abbrev bO:=UInt8×Int×Int
def mO(b:al)(p a:Nat):Nat→Nat→Nat
 |0,n=>n
 |f+1,n=>if n<257∧a+n<b.length∧b.getD (p+n) 0=b.getD (a+n) 0 then mO b p a f (n+1) else n
def oP(b:al)(p a:Nat):Nat:=mO b p a 257 0
theorem zg(b:al)(p a:Nat):∀(f n:Nat),n≤257→n≤mO b p a f n∧mO b p a f n≤257∧∀i,n≤i→i<mO b p a f n→a+i<b.length∧b.getD (p+i) 0=b.getD (a+i) 0
 |0,n,h=>⟨gj _,h,fun i h1 h2=>absurd h2 (by simp only[mO];omega)⟩
 |f+1,n,h=>by
  unfold mO;by_cases hc:n<257∧a+n<b.length∧b.getD (p+n) 0=b.getD (a+n) 0
  ·rw[ao hc];obtain⟨h1,h2,h3⟩:=zg b p a f (n+1) aa;refine⟨aa,h2,fun i hi hi2=>?_⟩;rcases ub n i with h4|h4
   ·exact h3 i aa hi2
   ·obtain rfl:i=n:=by omega
    exact⟨hc.2.1,hc.2.2⟩
  ·rw[aw hc];exact⟨gj _,h,fun i h1 h2=>absurd h2 aa⟩
theorem Hh(b:al)(p a:Nat):oP b p a≤257:=(zg b p a 257 0 aa).2.1
theorem Xe{b:al}{p a i:Nat}(h:i<oP b p a):a+i<b.length∧b.getD (p+i) 0=b.getD (a+i) 0:=(zg b p a 257 0 aa).2.2 i (bT _) h
def iC(b:al)(a:Nat):UInt8×UInt8×UInt8:=(b.getD a 0,b.getD (a+1) 0,b.getD (a+2) 0)
def eT(b:al)(k:UInt8×UInt8×UInt8):Nat→Option Nat
 |0=>none
 |m+1=>if m+3≤b.length∧iC b m=k then some m else eT b k m
theorem ll{b:al}{k:UInt8×UInt8×UInt8}:∀{m p:Nat},eT b k m=some p→p<m
 |0,p,h=>by cases h
 |m+1,p,h=>by
  unfold eT at h;split at h
  ·injection h with h;omega
  ·have:=ll h;omega
def sR(b:al)(a:Nat):Nat→Option Nat→Nat→Nat→Nat×Nat
 |0,_,n,d=>(n,d)
 |_+1,none,n,d=>(n,d)
 |f+1,some p,n,d=>
  if a-p≤4095∧n<257 then
   (if n<oP b p a then sR b a f (eT b (iC b p) p) (oP b p a) (a-p) else sR b a f (eT b (iC b p) p) n d)
  else (n,d)
def dC(b:al)(a:Nat):Nat×Nat:=if b.length<a+3 then (0,0) else sR b a a (eT b (iC b a) a) 0 0
def Jn(b:al)(a:Nat)(r:Nat×Nat):Prop:=r.1≤257∧(0<r.1→1≤r.2∧r.2≤a∧r.2≤4095∧∀i,i<r.1→a+i<b.length∧b.getD (a-r.2+i) 0=b.getD (a+i) 0)
theorem EB(b:al)(a:Nat):∀(f:Nat) (p:Option Nat) (n d:Nat),(∀x,p=some x→x<a)→Jn b a (n,d)→Jn b a (sR b a f p n d)
 |0,_,n,d,_,h=>h
 |_+1,none,n,d,_,h=>h
 |f+1,some p,n,d,hp,h=>by
  have hpa:=hp p rfl;have hnx:∀x,eT b (iC b p) p=some x→x<a:=fun x hx=>by have:=ll hx;omega
  unfold sR;split
  ·rename_i hc;split
   ·refine EB b a f _ _ _ hnx ⟨Hh b p a,fun _=>⟨cZ,cZ,hc.1,fun i hi=>?_⟩⟩;have:=Xe hi
    rwa [show a-(a,a-p).2+i=p+i by simp only;omega]
   ·exact EB b a f _ _ _ hnx h
  ·exact h
theorem pv(b:al)(a:Nat):Jn b a (dC b a):=by
 unfold dC;split
 ·exact⟨ak,fun h=>absurd h ak⟩
 ·exact EB b a a _ 0 0 (fun x hx=>ll hx) ⟨ak,fun h=>absurd h ak⟩
def findF(b:al):Nat→Nat→List bO
 |0,_=>[]
 |f+1,a=>if a<b.length then (if 3≤(dC b a).1 then (0,((dC b a).1:Int),((dC b a).2:Int))::findF b f (a+(dC b a).1) else (b.getD a 0,0,0)::findF b f (a+1)) else []
def jq(b:al):List bO:=findF b b.length 0
def e_(t:bO):Prop:=if t.2.1=0 then t.2.2=0 else t.1=0∧3≤t.2.1∧t.2.1≤257∧1≤t.2.2∧t.2.2≤4095
instance (t:bO):Decidable (e_ t):=by unfold e_;infer_instance
def lO(d:Nat):Nat→al→al
 |0,out=>out
 |n+1,out=>lO d n (out++[out.getD (out.length-d) 0])
theorem oB(d:Nat):∀(n:Nat) (out:al),(lO d n out).length=out.length+n
 |0,out=>rfl
 |n+1,out=>by rw[lO,oB d n];simp;omega
def ia(most:Int):al→List bO→al×Int
 |out,[]=>(out,0)
 |out,t::r=>
  if¬e_ t then ([],7)
  else if (out.length:Int)<t.2.2 then ([],8)
  else if most-out.length<max 1 t.2.1 then ([],6)
  else if t.2.1=0 then ia most (out++[t.1]) r
  else ia most (lO t.2.2.toNat t.2.1.toNat out) r
def kF(l:List bO)(most:Int):al×Int:=if most<0 then ([],13) else ia most [] l
theorem HQ{b:al}{d:Nat}:∀(n a:Nat),1≤d→d≤a→(∀i,i<n→a+i<b.length∧b.getD (a-d+i) 0=b.getD (a+i) 0)→a≤b.length→lO d n (b.take a)=b.take (a+n)
 |0,a,_,_,_,_=>rfl
 |n+1,a,h1,h2,h3,h4=>by
  obtain⟨h5,h6⟩:=h3 0 aa;rw[ta]at h5 h6;rw[ta]at h6;have e:(b.take a).getD ((b.take a).length-d) 0=b.getD a 0:=by
   rw[eS,za h4,←h6];simp only[bk];rw[Vp aa]
  have e2:b.take a++[b.getD a 0]=b.take (a+1):=by
   rw[sM,fm h5];simp[List.getD,fm h5]
  rw[lO,e,e2,HQ n (a+1) h1 aa (fun i hi=>by
   have:=h3 (i+1) aa;rw[show a+1+i=a+(i+1) by omega,show a+1-d+i=a-d+(i+1) by omega];exact this) aa]
  congr 1;omega
theorem AK(b:al)(most:Int)(hm:(b.length:Int)≤most):∀(f a:Nat),a≤b.length→b.length-a≤f→ia most (b.take a) (findF b f a)=(b,0)
 |0,a,h1,h2=>by
  obtain rfl:a=b.length:=by omega
  simp[findF,ia]
 |f+1,a,h1,h2=>by
  unfold findF;split
  ·rename_i ha;have hl:(b.take a).length=a:=by rw[eS];omega
   split
   ·rename_i h3;obtain⟨k1,k2⟩:=pv b a;obtain⟨k3,k4,k5,k6⟩:=k2 aa;have aj2:=(k6 ((dC b a).1-1) aa).1;generalize dC b a=r at*;obtain⟨n,d⟩:=r;simp only at*;have hl:(b.take a).length=a:=by rw[eS];omega
    have fG:e_ (0,(n:Int),(d:Int)):=by unfold e_;rw[aw cZ];exact⟨rfl,cZ,cZ,cZ,cZ⟩
    have hmx:max (1:Int) (n:Int)=n:=Int.max_eq_right aa;unfold ia;rw[aw (fun h=>h fG),aw ak4,aw (by rw[hl];simp only;rw[hmx];omega),aw cZ];show ia most (lO d n (b.take a)) _=_;rw[HQ n a k3 k4 k6 h1];exact AK b most hm f (a+n) aa aa
   ·have fG:e_ (b.getD a 0,0,0):=by unfold e_;rw[ao rfl]
    unfold ia;rw[aw (fun h=>h fG),aw ak4,aw ak4,ao rfl];have e2:b.take a++[b.getD a 0]=b.take (a+1):=by
     rw[sM,fm ha];simp[List.getD,fm ha]
    show ia most (b.take a++[b.getD a 0]) _=_;rw[e2];exact AK b most hm f (a+1) aa aa
  ·obtain rfl:a=b.length:=by omega
   simp[ia]
theorem wX(b:al)(most:Int)(hm:(b.length:Int)≤most):kF (jq b) most=(b,0):=by
 unfold kF jq;rw[aw aa];have:=AK b most hm b.length 0 (bT _) aa
 rwa [z_]at this
theorem DV(b:al):∀(f a:Nat),a≤b.length→(findF b f a).length≤b.length-a
 |0,a,_=>bT _
 |f+1,a,h=>by
  unfold findF;split
  ·rename_i ha;split
   ·rename_i h3;obtain⟨k1,k2⟩:=pv b a;obtain⟨k3,k4,k5,k6⟩:=k2 aa;have aj2:=(k6 ((dC b a).1-1) aa).1;have:=DV b f (a+(dC b a).1) aa;rw[ef];omega
   ·have:=DV b f (a+1) aa;rw[ef];omega
  ·exact bT _
theorem L3{P:Prop}(h:P:=by(simp only at h;omega)):P:=h
theorem L5{P:Prop}(h:P:=by(rw[hq];simp[bV])):P:=h
abbrev Qf:=Nat×Nat×Nat×Nat
def pO(v:Nat):Nat:=v.log2
def JM(v:Nat):Nat:=v-2^v.log2
def bK(t:bO):Qf:=if t.2.1=0 then (t.1.toNat,0,0,0) else (257+pO (t.2.1-2).toNat,JM (t.2.1-2).toNat,pO t.2.2.toNat,JM t.2.2.toNat)
theorem QD{v:Nat}(h:v≠0):2^pO v+JM v=v∧JM v<2^pO v:=by
 unfold pO JM;have h1:=Nat.log2_self_le h;have h2:= @Nat.lt_log2_self v;rw[nD]at h2;omega
theorem JN{v k:Nat}(h:v<2^(k+1))(hv:v≠0):pO v≤k:=by
 unfold pO;have h1:=Nat.log2_self_le hv;rcases ub k v.log2 with h2|h2
 ·have:=kZ (show 1≤2 by omega) (show k+1≤v.log2 by omega);omega
 ·exact h2
theorem nF{t:bO}(h:e_ t)(h0:¬t.2.1=0):257≤(bK t).1∧(bK t).1≤264∧(bK t).2.2.1≤11∧(bK t).2.1<2^((bK t).1-257)∧(bK t).2.2.2<2^(bK t).2.2.1∧
  (2:Int)+2^((bK t).1-257)+(bK t).2.1=t.2.1∧(2:Int)^(bK t).2.2.1+(bK t).2.2.2=t.2.2∧t.1=0:=by
 unfold e_ at h;rw[aw h0]at h;obtain⟨h1,h2,h3,h4,h5⟩:=h;unfold bK;rw[aw h0];simp only;obtain⟨n,hn⟩:=cN ((t.2.1-2).toNat);obtain⟨d,hd⟩:=cN (t.2.2.toNat);rw[←hn,←hd];have a1:=QD (v:=n) aa;have a2:=QD (v:=d) aa;have a3:=JN (v:=n) (k:=7) aa aa;have a4:=JN (v:=d) (k:=11) aa aa;rw[show 257+pO n-257=pO n by omega];have e1:((2:Int)^pO n)=((2^pO n:Nat):Int):=by simp
 have e2:((2:Int)^pO d)=((2^pO d:Nat):Int):=by simp
 rw[e1,e2];exact⟨aa,aa,a4,a1.2,a2.2,aa,aa,h1⟩
theorem u7{t:bO}(h:e_ t)(h0:t.2.1=0):bK t=(t.1.toNat,0,0,0)∧t=(t.1,0,0):=by
 unfold e_ at h;rw[ao h0]at h;refine⟨ao h0,?_⟩;obtain⟨x,n,d⟩:=t;simp only at h h0;subst h;subst h0;rfl
def JO(l:List bO)(s:Nat):Nat:=l.countP (fun t=>(bK t).1==s)+if s=256 then 1 else 0
def wB(l:List bO)(s:Nat):Nat:=l.countP (fun t=>decide (256<(bK t).1)&&(bK t).2.2.1==s)
def fh(l:List bO):al:=kS (JO l) 265
def im(l:List bO):al:=kS (wB l) 12
def vF(sl fl:al)(t:bO):List Bool:=hw sl (bK t).1++if (bK t).1<256 then [] else hi (bK t).2.1 ((bK t).1-257) ((bK t).1-257)++(hw fl (bK t).2.2.1++hi (bK t).2.2.2 (bK t).2.2.1 (bK t).2.2.1)
def mL(sl fl:al)(l:List bO):List Bool:=l.flatMap (vF sl fl)
def qm(l:List bO):List Bool:=ik (fh l) 0++(ik (im l) 0++(mL (fh l) (im l) l++hw (fh l) 256))
def lx(l:List bO):al×Int:=if 32768<l.length then ([],6) else if∀t∈l,e_ t then (packed (qm l),0) else ([],7)
def arN(x:Int)(b:Nat):Prop:=0≤x∧x<2^b
instance (x:Int)(b:Nat):Decidable (arN x b):=inferInstanceAs (Decidable (_∧_))
def mY(fl:al)(q:List Bool)(p:Nat)(s:Int):bO×Int×Nat:=
 if¬rY q p (s-257)=0 then ((0,0,0),rY q p (s-257),iE q p (s-257))
 else if¬(fz fl q (iE q p (s-257))).2.1=0 then ((0,0,0),(fz fl q (iE q p (s-257))).2.1,(fz fl q (iE q p (s-257))).2.2)
 else if¬rY q (fz fl q (iE q p (s-257))).2.2 (fz fl q (iE q p (s-257))).1=0 then ((0,0,0),rY q (fz fl q (iE q p (s-257))).2.2 (fz fl q (iE q p (s-257))).1,iE q (fz fl q (iE q p (s-257))).2.2 (fz fl q (iE q p (s-257))).1)
 else ((0,2+2^(s-257).toNat+(oG q p (s-257):Int),2^(fz fl q (iE q p (s-257))).1.toNat+(oG q (fz fl q (iE q p (s-257))).2.2 (fz fl q (iE q p (s-257))).1:Int)),0,iE q (fz fl q (iE q p (s-257))).2.2 (fz fl q (iE q p (s-257))).1)
def ke(sl fl:al)(q:List Bool)(p:Nat):bO×Bool×Int×Nat:=
 if¬(fz sl q p).2.1=0∨(fz sl q p).1=256 then ((0,0,0),false,(fz sl q p).2.1,(fz sl q p).2.2)
 else if (fz sl q p).1<256 then ((UInt8.ofNat (fz sl q p).1.toNat,0,0),true,0,(fz sl q p).2.2)
 else ((mY fl q (fz sl q p).2.2 (fz sl q p).1).1,decide ((mY fl q (fz sl q p).2.2 (fz sl q p).1).2.1=0),(mY fl q (fz sl q p).2.2 (fz sl q p).1).2.1,(mY fl q (fz sl q p).2.2 (fz sl q p).1).2.2)
def rD(sl fl:al)(q:List Bool):Nat→Int→Nat→List bO→List bO×Int
 |0,most,p,acc=>([],6)
 |f+1,most,p,acc=>
  if¬(ke sl fl q p).2.2.1=0 then ([],(ke sl fl q p).2.2.1)
  else if (ke sl fl q p).2.1=false then (if paE q (ke sl fl q p).2.2.2=0 then (acc,0) else ([],paE q (ke sl fl q p).2.2.2))
  else if most-max 1 (ke sl fl q p).1.2.1<0 then ([],6)
  else rD sl fl q f (most-max 1 (ke sl fl q p).1.2.1) (ke sl fl q p).2.2.2 (acc++[(ke sl fl q p).1])
noncomputable def fK(b:al)(most:Int):List bO×Int:=
 if most<0 then ([],13)
 else if¬(qG (gi b) 0 265).2.1=0 then ([],(qG (gi b) 0 265).2.1)
 else if¬(qG (gi b) (qG (gi b) 0 265).2.2 12).2.1=0 then ([],(qG (gi b) (qG (gi b) 0 265).2.2 12).2.1)
 else rD (qG (gi b) 0 265).1 (qG (gi b) (qG (gi b) 0 265).2.2 12).1 (gi b) (most.toNat+1) most (qG (gi b) (qG (gi b) 0 265).2.2 12).2.2 []
def gS:List bO→Int
 |[]=>0
 |t::r=>max 1 t.2.1+gS r
theorem kK{o:Nat→Nat}{N s:Nat}(hN:N≤300)(hs:s<N)(ho:0<o s):((kS o N).getD s 0).toNat≠0:=by
 rw[Aj hN hs];have:=Oc hN hs ho;omega
theorem Dk{l:List bO}{t:bO}(h:t∈l):0<JO l (bK t).1:=by
 unfold JO;have:0<l.countP fun u=>(bK u).1==(bK t).1:=List.countP_pos_iff.2 ⟨t,h,ak⟩;omega
theorem Di{l:List bO}{t:bO}(h:t∈l)(h2:256<(bK t).1):0<wB l (bK t).2.2.1:=by
 unfold wB;exact List.countP_pos_iff.2 ⟨t,h,by simp[h2]⟩
theorem afs{l:List bO}(hm:∀t∈l,e_ t){t:bO}(ht:t∈l)(pre r:List Bool){q:List Bool}(hq:q=pre++(vF (fh l) (im l) t++r)):
  ke (fh l) (im l) q pre.length=(t,true,0,(pre++vF (fh l) (im l) t).length):=by
 have hsg:Good (fh l):=lR aa;have hfg:Good (im l):=lR aa;have fG:=hm t ht;have hc:=Dk ht;by_cases h0:t.2.1=0
 ·obtain⟨e1,e2⟩:=u7 fG h0;have hx:=lQ t.1;have fE:(bK t).1<256:=by rw[e1];exact hx
  have hb:vF (fh l) (im l) t=hw (fh l) (bK t).1:=by unfold vF;rw[ao fE,gk]
  rw[hb]at hq⊢;have hg:=xY hsg (s:=(bK t).1) (by rw[fh,gz];omega) (kK aa aa hc) pre r hq;unfold ke;rw[hg,aw (fun h=>h.elim (fun h=>h rfl) fun h=>L3),ao cZ];simp only[e1];rw[e2];simp
 ·obtain⟨k1,k2,k3,k4,k5,k6,k7,k8⟩:=nF fG h0;have hf:=Di ht (by omega:256<(bK t).1);obtain⟨P,hP⟩:=cN (bK t);unfold vF at hq⊢;rw[←hP]at k1 k2 k3 k4 k5 k6 k7 hf hc hq⊢;obtain⟨s,x,c,y⟩:=P;simp only at k1 k2 k3 k4 k5 k6 k7 hf hc hq⊢;rw[aw aa]at hq⊢;have hg:=xY hsg (s:=s) (by rw[fh,gz];omega) (kK aa aa hc) pre (hi x (s-257) (s-257)++(hw (im l) c++(hi y c c++r))) (q:=q) L5;obtain⟨b1,b2,b3⟩:=got q (pre++hw (fh l) s) (hw (im l) c++(hi y c c++r)) x (n:=s-257) aa k4 L5;have Nu:=xY hfg (s:=c) (by rw[im,gz];omega) (kK aa aa hf) (pre++hw (fh l) s++hi x (s-257) (s-257)) (hi y c c++r) (q:=q) L5;obtain⟨c1,c2,c3⟩:=got q (pre++hw (fh l) s++hi x (s-257) (s-257)++hw (im l) c) r y (n:=c) aa k5 L5;have es:((s:Int)-257)=((s-257:Nat):Int):=by omega
  have asy:mY (im l) q (pre++hw (fh l) s).length (s:Int)=(t,0,(pre++hw (fh l) s++hi x (s-257) (s-257)++hw (im l) c++hi y c c).length):=by
   unfold mY;rw[es,b1,b3,Nu];simp only;rw[c1,c3,b2,c2,aw ak,aw ak,aw ak,nB,nB,k6,k7,←k8]
  unfold ke;rw[hg];simp only;rw[aw (fun h=>h.elim (fun h=>by simp at h) fun h=>aa),aw aa,asy];simp[bV]
theorem w7(sl fl:al)(t:bO)(r:List bO):mL sl fl (t::r)=vF sl fl t++mL sl fl r:=rfl
theorem afr{l:List bO}(pre r:List Bool){q:List Bool}(hq:q=pre++(hw (fh l) 256++r)):
  ke (fh l) (im l) q pre.length=((0,0,0),false,0,(pre++hw (fh l) 256).length):=by
 have hg:=xY (lR (o:=JO l) (N:=265) aa) (s:=256) (by rw[gz];omega) (kK aa aa (by unfold JO;rw[ao rfl];omega)) pre r hq;unfold ke;unfold fh at*;rw[hg,ao (.inr rfl)]
theorem nG:∀r:List bO,0≤gS r
 |[]=>Int.le_refl _
 |t::r=>by have:=nG r;unfold gS;omega
theorem Pq{l:List bO}(hm:∀t∈l,e_ t){q:List Bool}{r:List Bool}(hr:paE q (q.length-r.length)=0):∀(ts:List bO) (f:Nat) (most:Int) (pre:List Bool) (acc:List bO),(∀t∈ts,t∈l)→gS ts≤most→most<f→
  q=pre++(mL (fh l) (im l) ts++(hw (fh l) 256++r))→rD (fh l) (im l) q f most pre.length acc=(acc++ts,0)
 |ts,0,most,pre,acc,_,h2,h3,_=>by have:=nG ts;omega
 |[],f+1,most,pre,acc,_,h2,h3,hq=>by
  have hq':q=pre++(hw (fh l) 256++r):=hq;have h:=afr pre r hq';unfold rD;rw[h,aw ak,ao rfl];have:(pre++hw (fh l) 256).length=q.length-r.length:=by rw[hq'];simp;omega
  simp only[this];rw[ao hr,gk]
 |t::ts,f+1,most,pre,acc,h1,h2,h3,hq=>by
  rw[w7,bV]at hq;have h:=afs hm (h1 t ak) pre _ hq;unfold gS at h2;have hp:=nG ts;unfold rD;rw[h,aw ak,aw ak,aw cZ];simp only;rw[Pq hm hr ts f _ (pre++vF (fh l) (im l) t) (acc++[t]) (fun u hu=>h1 u (by simp[hu])) aa aa L5,bV];rfl
theorem aii(q:List Bool):paE (q++pad q) ((q++pad q).length-(pad q).length)=0:=by
 have e:(q++pad q).length-(pad q).length=q.length:=by simp
 have hl:=wW q;unfold paE;rw[e,ark,ao ⟨by rw[aY,hl];omega,rfl⟩]
theorem Z_{l:List bO}(hm:∀t∈l,e_ t){most:Int}(hp:gS l≤most):fK (packed (qm l)) most=(l,0):=by
 have hsg:Good (fh l):=lR aa;have hfg:Good (im l):=lR aa;have tV:=nG l;obtain⟨q,hq⟩:=cN (gi (packed (qm l)));have Rz:=hq;rw[qD]at hq;have nN:(fh l).length=265:=gz _ _;have l0:(im l).length=12:=gz _ _;obtain⟨T,hT⟩:=cN (mL (fh l) (im l) l++(hw (fh l) 256++pad (qm l)));have hq3:q=ik (fh l) 0++(ik (im l) 0++T):=by rw[hq,hT];unfold qm;simp[bV]
 have r1:qG q 0 265=(fh l,0,(ik (fh l) 0).length):=by
  have:=back (fh l) hsg (ik (im l) 0++T) (fh l).length 0 (fh l).length [] false q aa aa hq3 aa (fun h=>ki);rw[nN]at this;rw[qG,aw aa];simpa using this
 have r2:qG q (ik (fh l) 0).length 12=(im l,0,(ik (fh l) 0++ik (im l) 0).length):=by
  have:=back (im l) hfg T (im l).length 0 (im l).length (ik (fh l) 0) false q aa aa hq3 aa (fun h=>ki);rw[l0]at this;rw[qG,aw aa];simpa using this
 unfold fK;rw[←Rz,aw aa,r1];simp only;rw[r2];simp only;rw[aw ak,aw ak];have hpe:=aii (qm l);rw[←hq]at hpe;have:=Pq hm (q:=q) (r:=pad (qm l)) hpe l (most.toNat+1) most (ik (fh l) 0++ik (im l) 0) [] (fun t h=>h) hp aa (by rw[hq3,hT];simp[bV])
 rwa [nA]at this
theorem zA(b:al):∀(f a:Nat),a≤b.length→gS (findF b f a)≤((b.length-a:Nat):Int)
 |0,a,h=>by simp only[findF,gS];omega
 |f+1,a,h=>by
  unfold findF;split
  ·rename_i ha;split
   ·rename_i h3;obtain⟨k1,k2⟩:=pv b a;obtain⟨k3,k4,k5,k6⟩:=k2 aa;have aj2:=(k6 ((dC b a).1-1) aa).1;have:=zA b f (a+(dC b a).1) aa;unfold gS;simp only;omega
   ·have:=zA b f (a+1) aa;unfold gS;simp only;omega
  ·simp only[gS];omega
theorem xQ(b:al):∀(f a:Nat),∀t∈findF b f a,e_ t
 |0,a,t,h=>by cases h
 |f+1,a,t,h=>by
  unfold findF at h;split at h
  ·rename_i ha;split at h
   ·rename_i h3;obtain⟨k1,k2⟩:=pv b a;obtain⟨k3,k4,k5,k6⟩:=k2 aa;rcases fk.1 h with e|e
    ·subst e;unfold e_;rw[aw cZ];exact⟨rfl,cZ,cZ,cZ,cZ⟩
    ·exact xQ b f _ t e
   ·rcases fk.1 h with e|e
    ·subst e;unfold e_;rw[ao rfl]
    ·exact xQ b f _ t e
  ·cases h
theorem IA:type_of% @BitVec.toNat_ofInt:= @BitVec.toNat_ofInt
theorem Vq:type_of% @Nat.shiftRight_eq_div_pow:= @Nat.shiftRight_eq_div_pow
theorem yW{x:Int}(h1:0≤x)(h2:x<4294967296):IntKind.u32.wrap x=x:=by
 have e:IntKind.u32.wrap x=x%2^32:=rfl;rw[e];omega
theorem anO{k:IntKind}{a b:Nat}(ha:a<2^k.bits)(hb:b<2^k.bits):(BitVec.ofInt k.bits (a:Int) ^^^ BitVec.ofInt k.bits (b:Int)).toNat=a ^^^ b:=by
 rw[BitVec.toNat_xor,IA,IA];have h1:((a:Int)%((2^k.bits:Nat):Int)).toNat=a:=by
  rw[←Int.natCast_emod,ja ha];rfl
 have h2:((b:Int)%((2^k.bits:Nat):Int)).toNat=b:=by
  rw[←Int.natCast_emod,ja hb];rfl
 rw[h1,h2]
theorem akU{k:IntKind}{a b:Nat}(ha:a<2^k.bits)(hb:b<2^k.bits):(BitVec.ofInt k.bits (a:Int) &&& BitVec.ofInt k.bits (b:Int)).toNat=a &&& b:=by
 rw[BitVec.toNat_and,IA,IA];have h1:((a:Int)%((2^k.bits:Nat):Int)).toNat=a:=by
  rw[←Int.natCast_emod,ja ha];rfl
 have h2:((b:Int)%((2^k.bits:Nat):Int)).toNat=b:=by
  rw[←Int.natCast_emod,ja hb];rfl
 rw[h1,h2]
theorem Jm{a b:Nat}(ha:a<4294967296)(hb:b<4294967296):IntKind.u32.wrap ((BitVec.ofInt IntKind.u32.bits (a:Int) ^^^ BitVec.ofInt IntKind.u32.bits (b:Int)).toNat:Int)=((a ^^^ b:Nat):Int):=by
 rw[anO (k:=.u32) ha hb];have:=vR (n:=32) ha hb;exact yW aa aa
theorem aaJ{a b:Nat}(ha:a<4294967296)(hb:b<4294967296):IntKind.u32.wrap ((BitVec.ofInt IntKind.u32.bits (a:Int) &&& BitVec.ofInt IntKind.u32.bits (b:Int)).toNat:Int)=((a &&& b:Nat):Int):=by
 rw[akU (k:=.u32) ha hb];have:=NO (n:=32) a hb;exact yW aa aa
theorem ajt{a b:Nat}(ha:a<256)(hb:b<256):IntKind.u8.wrap ((BitVec.ofInt IntKind.u8.bits (a:Int) ^^^ BitVec.ofInt IntKind.u8.bits (b:Int)).toNat:Int)=((a ^^^ b:Nat):Int):=by
 rw[anO (k:=.u8) ha hb];have:=vR (n:=8) ha hb;exact aat aa aa
theorem an1{a b:Nat}(ha:a<256)(hb:b<256):IntKind.u8.wrap ((BitVec.ofInt IntKind.u8.bits (a:Int) &&& BitVec.ofInt IntKind.u8.bits (b:Int)).toNat:Int)=((a &&& b:Nat):Int):=by
 rw[akU (k:=.u8) ha hb];have:=NO (n:=8) a hb;exact aat aa aa
theorem G4(a k:Nat):((a:Nat):Int).fdiv (2^k)=((a >>> k:Nat):Int):=by
 rw[vT _ (Int.le_of_lt (Int.pow_pos aA)),Vq];rw[Int.natCast_ediv];congr 1
theorem SN(a k:Nat):a >>> k≤a:=by rw[Vq];exact q_ _ _
theorem ya:type_of% @Nat.le_of_not_lt:= @Nat.le_of_not_lt
theorem vV:type_of% @Nat.add_sub_cancel:= @Nat.add_sub_cancel
theorem BI:type_of% @List.drop_left:= @List.drop_left
def yN:bf:=[0,498536548,997073096,651767980,1994146192,1802195444,1303535960,1342533948,3988292384,4027552580,3604390888,3412177804,2607071920,2262029012,2685067896,3183342108]
def zq(x:Nat):Nat:=(x >>> 4) ^^^ yN.getD (x &&& 15) 0
def QJ(x:Nat)(c:UInt8):Nat:=zq (zq (x ^^^ c.toNat))
def pP(s:Nat)(b:al):Nat:=4294967295 ^^^ b.foldl QJ (4294967295 ^^^ s)
theorem FA(k:Nat):yN.getD k 0<4294967296:=by
 have mF:∀x∈yN,x<4294967296:=by decide
 by_cases h:k<yN.length
 ·rw[bk,fm h];exact mF _ (tY h)
 ·rw[bk,zX (ya h)];decide
theorem JP{x:Nat}(h:x<4294967296):zq x<4294967296:=by
 have h1:=SN x 4;exact vR (n:=32) aa (FA _)
theorem agU{x:Nat}(h:x<4294967296)(c:UInt8):QJ x c<4294967296:=by
 have h1:=c.toNat_lt;exact JP (JP (vR (n:=32) h aa))
def mu(s:Nat):al:=[UInt8.ofNat s,UInt8.ofNat (s >>> 8),UInt8.ofNat (s >>> 16),UInt8.ofNat (s >>> 24)]
def cX(b:al):al:=b++mu (pP 0 b)
def aI(b:al):al×Int:=
 if b.length<4 then ([],1) else if b.drop (b.length-4)=mu (pP 0 (b.take (b.length-4))) then (b.take (b.length-4),0) else ([],5)
theorem ZW(s:Nat):(mu s).length=4:=rfl
theorem du(b:al):(cX b).length=b.length+4:=by simp[cX,ZW]
theorem ju(b:al):aI (cX b)=(b,0):=by
 unfold aI;rw[aw (by rw[du];omega),du,vV];have h1:(cX b).take b.length=b:=by unfold cX;rw[yf]
 have h2:(cX b).drop b.length=mu (pP 0 b):=by unfold cX;rw[BI]
 rw[h1,h2,ao rfl]
theorem sN:type_of% @Nat.mod_lt:= @Nat.mod_lt
def aS:Nat→al
 |x=>if h:128≤x then UInt8.ofNat (128+x%128)::aS (x/128) else [UInt8.ofNat x]
 termination_by x=>x
 decreasing_by omega
theorem ot{x:Nat}(h:x<128):aS x=[UInt8.ofNat x]:=by
 rw[aS];simp;omega
theorem uR{x:Nat}(h:128≤x):aS x=UInt8.ofNat (128+x%128)::aS (x/128):=by
 rw[aS];simp[h]
theorem M3(k:Nat):∀x,x<128^(k+1)→(aS x).length≤k+1:=by
 induction k with
 |zero=>intro x h;rw[ot nr];simp
 |succ k ih=>
  intro x h;by_cases hx:128≤x
  ·rw[uR hx];have:=ih (x/128) (by rw[nD]at h;omega);simp;omega
  ·rw[ot aa];simp
theorem aT{x:Nat}(h:x<18446744073709551616):(aS x).length≤10:=by
 have:(128:Nat)^10=1180591620717411303424:=by decide+kernel
 exact M3 9 x aa
theorem u8n(x:Nat)(h:x<256):(UInt8.ofNat x).toNat=x:=by simp;omega
theorem JF(x:Nat)(h:x<256):bv [UInt8.ofNat x]=[.int .u8 (x:Int)]:=by simp only[bv,kA,GU,u8n x h]
def fo(l:al):al:=aS l.length++l
def fF(x:Nat):Nat→al
 |0=>[]
 |k+1=>fF x k++[UInt8.ofNat (x/2^(8*k)%256)]
@[simp] theorem p8(x k:Nat):(fF x k).length=k:=by induction k with
 |zero=>rfl
 |succ k ih=>simp[fF,ih]
theorem UM{x n k:Nat}(h:k<n)(u:Value)(hu:u= .int .u8 ((x/2^(8*k)%256:Nat):Int)):
  (bv (fF x k)++List.replicate (n-k) (Value.int .u8 0)).set k u=bv (fF x (k+1))++List.replicate (n-(k+1)) (Value.int .u8 0):=by
 rw[Wb _ h,KV _ _ _ _ ak,hu,fF,gv,JF _ (sN _ aa)];simp
theorem Wp:sC Tryz.prog 27 5 1 1 (.int .u8 0):=k9 underlying27 ag rfl aa
theorem adE{x k:Nat}{pre:al}(h:aS x=pre++aS k)(hk:128≤k):aS x=(pre++[UInt8.ofNat (128+k%128)])++aS (k/128):=by
 rw[h,uR hk];simp
theorem aie(k:Nat):bits .or .u8 ((k:Int)%256) 128=((128+k%128:Nat):Int):=by
 have h:=u8_or (k%256) 128 aa aa;rw[adT _ aa]at h;rw[show((k:Int)%256)=((k%256:Nat):Int) from by omega];refine h.trans ?_;omega
def He(x k:Nat)(pre:al):Prop:=aS x=pre++aS k∧k≤x
theorem He.am4{x k:Nat}{pre:al}(h:He x k pre)(hx:x<18446744073709551616):pre.length≤10:=by
 have h1:=ek List.length h.1;have h2:=aT hx;simp at h1;omega
theorem He.more{x k:Nat}{pre:al}(h:He x k pre)(hk:128≤k):He x (k/128) (pre++[UInt8.ofNat (128+k%128)]):=
 ⟨adE h.1 hk,(by have:=h.2;omega)⟩
set_option maxRecDepth 100000 in
set_option maxHeartbeats 400000 in
theorem aqG(x:Nat)(hx:x<18446744073709551616)(w:World):
  Calls Tryz.prog 63 #[.int .u64 x] w fun e w'=>∃v,e= .returned v∧w'.ownsRow w.heap.size 5 1 v (aS x).length (bv (aS x))∧Below w.heap.size w w':=by
 go_enter func63,Tryz.ntmps63
 go_wp2
 go_loopw [0,3] (fun xv v wr=>∃(k:Nat) (pre:al),xv= .int .u64 k∧He x k pre∧wr.ownsRow w.heap.size 5 1 v pre.length (bv pre)∧Below w.heap.size w wr)
  (fun xv _ _=>(intOf xv).toNat)
 case atStart=>exact⟨x,[],rfl,⟨rfl,gj _⟩,World.ownsRow_nil _ _ _ _,GW _ _⟩
 case round=>
  obtain⟨k,pre,rfl,GI,mj,hb⟩:=hrel;have hlen:=GI.am4 hx;have hkx:k≤x:=GI.2;have hB:=hb.size;have hob:=aie k;by_cases arV:128≤k
  ·go_wp2_with (first|(at_builtin;refine W3 Wp rfl (.tmp 6) (.tmp 10) rfl rfl mj rfl rfl hb (gj _) hB aa aa ?_;intro v1 w1 Eb p9 kY hg1))
   go_roundw
   case rel=>exact⟨k/128,pre++[UInt8.ofNat (128+k%128)],by go_num,GI.more arV,St Eb ak (by rw[gv,JF _ aa];congr 2),p9⟩
   case measure=>simp[intOf];omega
  ·go_wp2_with (first|(at_builtin;refine W3 Wp rfl (.tmp 14) (.tmp 17) rfl rfl mj rfl rfl hb (gj _) hB aa aa ?_;intro v1 w1 Eb p9 kY hg1))
   go_ret
   have e:=GI.1;rw[ot (by omega:k<128)]at e;refine⟨v1,rfl,St Eb (by rw[e];simp) ?_,p9⟩;rw[e,gv,JF _ aa]
theorem WV:∃i,Tryz.prog.info? 5=some i∧i.zero=some (.int .u8 0)∧i.size=1∧i.bytes=1:=Wp.hi
set_option maxRecDepth 100000 in
set_option maxHeartbeats 400000 in
theorem anu(s:ByteArray)(hs:s.size≤1099511627776)(w:World):
  Calls Tryz.prog 143 #[.string s] w fun e w'=>∃v,e= .returned v∧w'.ownsRow w.heap.size 5 1 v (fo s.data.toList).length (bv (fo s.data.toList))∧Below w.heap.size w w':=by
 obtain⟨i0,hi,hz0,Kl,vz⟩:=WV;have i_:s.data.toList.length=s.size:=N1;have Hsz:=jI i_;clear i_;have hl:(aS s.size).length≤10:=aT aa
 go_enter func143,Tryz.ntmps143
 go_wp2_with (first|(go_at_call 63;refine(aqG _ aa _).mono ?_;rintro e w1 ⟨v1,rfl,mj,hb⟩)|(at_builtin;refine Lib.wpList_append_own_string _ rfl (.tmp 6) (.tmp 7) 27 9 rfl w.heap.size 5 i0 underlying27 underlying9 hi hz0 Kl vz _ _ _ rfl mj s rfl Bl aa hb.size ?_;intro v2 w2 Is Nu _))
 go_ret
 refine⟨v2,rfl,St Is (by rw[fo,aY,Hsz.out]) (by rw[fo,gv,Hsz.out];rfl),hb.grown Nu hb.size fun k hk=>(mj.lt k hk).1⟩
theorem aaP{P:Prop}(h:P:=by(simp only[ef];omega)):P:=h
def dp:Nat→Nat→al→Nat×Nat×Int
 |_,_,[]=>(0,0,1)
 |i,acc,c::r=>
  if i=9∧c.toNat≠1∨0<i∧c.toNat=0 then (0,0,2)
  else if c.toNat<128 then (acc+c.toNat%128*128^i,i+1,0)
  else dp (i+1) (acc+c.toNat%128*128^i) r
def cM(l:al):Nat×Nat×Int:=dp 0 0 l
def et(l:al)(most:Int):Nat×Nat×Int:=
 if (cM l).2.2≠0 then (0,0,(cM l).2.2)
 else if most<0∨most<(cM l).1 then (0,0,6)
 else ((cM l).1,(cM l).2.1,0)
structure Cs where
 b:al
 at_:Nat
 e:Int
def Cs.rest(s:Cs):al:=s.b.drop s.at_
def Cs.left(s:Cs):Nat:=s.b.length-s.at_
def Cs.failed(s:Cs)(e:Int):Cs:=if s.e=0 then {s with e:=e} else s
def Cs.eu(s:Cs)(n:Nat)(e:Int):Cs:=if s.e≠0 then s else if e≠0 then {s with e:=e} else {s with at_:=s.at_+n}
def Cs.num(s:Cs):Nat:=if s.e≠0 then 0 else (cM s.rest).1
def Cs.lY(s:Cs):Cs:=s.eu (cM s.rest).2.1 (cM s.rest).2.2
def Cs.int(s:Cs)(most:Int):Nat:=if s.e≠0 then 0 else (et s.rest most).1
def Cs.bX(s:Cs)(most:Int):Cs:=s.eu (et s.rest most).2.1 (et s.rest most).2.2
def ij(l:al)(n:Int):Int:=if n<0 then 13 else if (l.length:Int)<n then 1 else 0
def Cs.take(s:Cs)(n:Int):al:=if s.e≠0 then [] else if ij s.rest n≠0 then [] else s.rest.take n.toNat
def Cs.b_(s:Cs)(n:Int):Cs:=s.eu n.toNat (ij s.rest n)
def Cs.byte(s:Cs):UInt8:=((s.take 1).head?).getD 0
def Cs.eJ(s:Cs):Cs:=s.b_ 1
def iM:al→Nat
 |[]=>0
 |c::r=>c.toNat+256*iM r
def Cs.fixed(s:Cs)(n:Int):Nat:=if n<1∨8<n then 0 else iM (s.take n)
def Cs.kX(s:Cs)(n:Int):Cs:=if n<1∨8<n then s.failed 13 else s.b_ n
def jO(l:al)(most:Int):al×Nat×Int:=
 if (et l most).2.2≠0 then ([],0,(et l most).2.2)
 else if l.length-(et l most).2.1<(et l most).1 then ([],0,1)
 else ((l.drop (et l most).2.1).take (et l most).1,(et l most).2.1+(et l most).1,0)
def Cs.text(s:Cs)(most:Int):al:=if s.e≠0 then [] else (jO s.rest most).1
def Cs.ew(s:Cs)(most:Int):Cs:=s.eu (jO s.rest most).2.1 (jO s.rest most).2.2
def Cs.xO(s:Cs):Cs:=if 0<s.left then s.failed 2 else s
theorem Fj:∀(l:al) (i acc:Nat),i≤9→acc<128^i→
  (dp i acc l).1<18446744073709551616∧(dp i acc l).2.1≤i+l.length∧0≤(dp i acc l).2.2∧(dp i acc l).2.2≤2:=by
 intro l;induction l with
 |nil=>intro i acc _ _;simp[dp]
 |cons c r ih=>
  intro i acc hi ha;unfold dp;have hp:128^(i+1)=128^i*128:=nD ..;by_cases h1:i=9∧c.toNat≠1∨0<i∧c.toNat=0
  ·rw[ao h1];simp
  ·rw[aw h1];have vQ:acc+c.toNat%128*128^i<128^(i+1):=by
    have:c.toNat%128*128^i≤127*128^i:=ow _ aa;omega
   by_cases h2:c.toNat<128
   ·rw[ao h2];refine⟨?_,aaP,ak,ak⟩;show acc+c.toNat%128*128^i<_;rcases ub i 9 with h9|h9
    ·have:128^(i+1)≤128^9:=kZ aa aa;have e9:(128:Nat)^9=9223372036854775808:=by decide+kernel
     omega
    ·have h9':i=9:=by omega
     subst h9';have hc:c.toNat=1:=by omega
     have e9:(128:Nat)^9=9223372036854775808:=by decide+kernel
     have zN:acc<9223372036854775808:=Nat.lt_of_lt_of_eq ha e9;rw[hc,e9];clear hp vQ ha e9;omega
   ·rw[aw h2];have h9:i<9:=by
     rcases ub i 9 with h9|h9
     ·exact h9
     ·exfalso;omega
    obtain⟨a,b,c',d⟩:=ih (i+1) _ aa vQ;exact⟨a,by simp at b⊢;omega,c',d⟩
theorem fg(l:al):(cM l).1<18446744073709551616∧(cM l).2.1≤l.length∧0≤(cM l).2.2∧(cM l).2.2≤2:=by
 have:=Fj l 0 0 aa ak;simpa[cM]using this
theorem jz(l:al)(most:Int)(hm:most≤9223372036854775807):
  (et l most).1≤9223372036854775807∧(et l most).2.1≤l.length∧0≤(et l most).2.2∧((et l most).2.2=0→((et l most).1:Int)≤most):=by
 have h:=fg l;unfold et;split
 ·exact⟨ak,ak,h.2.2.1,fun h0=>by rename_i r8;exact absurd h0 r8⟩
 ·split
  ·exact⟨ak,ak,ak,ak⟩
  ·rename_i h2;exact⟨cZ,h.2.1,ak,fun _=>cZ⟩
theorem re:type_of% @beq_eq_false_iff_ne:= @beq_eq_false_iff_ne
theorem mn:type_of% @List.drop_of_length_le:= @List.drop_of_length_le
theorem Ql(u:UInt8):bits .andNot .u8 (u.toNat:Int) 128=((u.toNat%128:Nat):Int):=by
 have:∀x:Fin 256,bits .andNot .u8 (x.val:Int) 128=((x.val%128:Nat):Int):=by decide+kernel
 exact this ⟨u.toNat,u.toNat_lt⟩
theorem OD(m y k:Nat)(h:m<2^k):m ||| y*2^k=m+y*2^k:=by
 rw[Nat.or_comm,nE,←NP h];omega
theorem ZH(m k:Nat)(u:UInt8)(hk:k≤9)(hm:m<128^k)(h9:k=9→u.toNat=1):
  bits .or .u64 (m:Int) (IntKind.u64.wrap (IntKind.u64.wrap (bits .andNot .u8 (u.toNat:Int) 128)*2^(7*k)))=((m+u.toNat%128*128^k:Nat):Int)∧
   (k<9→m+u.toNat%128*128^k<128^(k+1))∧m+u.toNat%128*128^k<18446744073709551616:=by
 have e7:(128:Nat)^k=2^(7*k):=by rw[show(128:Nat)=2^7 from rfl,←Nat.pow_mul]
 have vQ:m+u.toNat%128*128^k<128^(k+1):=by
  have:u.toNat%128*128^k≤127*128^k:=ow _ aa;rw[nD];omega
 have e9:(128:Nat)^9=9223372036854775808:=by decide+kernel
 have fE:m+u.toNat%128*128^k<18446744073709551616:=by
  rcases ub k 9 with h|h
  ·have:(128:Nat)^(k+1)≤128^9:=kZ aa aa;rw[e9]at this;clear e9 e7;omega
  ·have hk9:k=9:=by omega
   have hu:=h9 hk9;have hm':m<9223372036854775808:=by rw[←e9,←hk9];exact hm
   rw[hu,hk9,e9];clear vQ hm e7 e9;omega
 refine⟨?_,fun _=>vQ,fE⟩;rw[Ql,wrap_u64 _ aa];have ep:((u.toNat%128:Nat):Int)*2^(7*k)=((u.toNat%128*2^(7*k):Nat):Int):=by
  rw[z6];congr 1
 rw[e7]at hm fE⊢;rw[ep,wrap_u64 _ aa,u64_or _ _ aa aa,OD _ _ _ hm]
def Qg(l:al)(k m:Nat):Prop:=cM l=dp k m (l.drop k)∧m<128^k∧k≤9
theorem drop_cons{l:al}{k:Nat}{u:UInt8}(h:l[k]? =some u):l.drop k=u::l.drop (k+1):=by
 have hk:=(zY.1 h)
 rw[N4 hk.1,hk.2]
theorem am7{a a' b b' c c':Value}(h1:a=a')(h2:b=b')(h3:c=c'):Ending.returned (.tuple #[a,b,c])= .returned (.tuple #[a',b',c']):=by rw[h1,h2,h3]
theorem int_eq{k:IntKind}{a b:Int}(h:a=b):Value.int k a= .int k b:=by rw[h]
set_option maxRecDepth 100000 in
set_option maxHeartbeats 1600000 in
theorem anc{B:Nat}{A:bj}{n c:Nat}{l:al}(w:World)(h:Rd w B 1 (.slice A n c) n (bv l))(hn:n≤1099511627776):
  Calls Tryz.prog 263 #[.slice A n c] w fun e w'=>e= .returned (.tuple #[.int .u64 ((cM l).1:Nat),ah ((cM l).2.1:Nat),ah (cM l).2.2])∧w=w':=by
 have Hr:=jI h;have Hl:=jI h.aml;clear h
 go_enter func263,Tryz.ntmps263
 go_wp2
 go_loop [2,5,6,9] (fun x i6 c6 i=>∃k m:Nat,k≤n∧i=ah k∧x= .int .u64 m∧Hid (Qg l k m)) (fun _ _ _ i=>n-(intOf i).toNat)
 case atStart=>exact⟨0,0,bT _,rfl,rfl,by simp[Hid,Qg,cM]⟩
 case round=>
  obtain⟨k,m,hk,rfl,rfl,HS⟩:=hrel;by_cases fE:k<n
  ·obtain⟨ad,u,rfl,_,hlu,fy⟩:=Hr.out.agG fE;have hs:=HS.out.1;have h9:=HS.out.2.2;rw[drop_cons hlu,dp]at hs;have HL:=jI hs;clear hs hlu;by_cases c1:k=9∧u.toNat≠1∨0<k∧u.toNat=0
   ·have e:=HL.out;rw[ao c1]at e;have HE:=jI e;clear e;by_cases hk9:k=9
    ·have b1:((u.toNat:Int) != 1)=true:=by rw[bne_iff_ne];omega
     have b9:((k:Int)==9)=true:=by rw[beq_iff_eq];omega
     clear hk9 c1
     go_wp2_with fail
     go_ret3
     rw[HE.out];exact⟨rfl,rfl⟩
    ·have b9:((k:Int)==9)=false:=by rw[re];omega
     have b0:((u.toNat:Int)==0)=true:=by rw[beq_iff_eq];omega
     have k0:(0:Int)<k:=by omega
     go_wp2_with fail
     go_ret3
     rw[HE.out];exact⟨rfl,rfl⟩
   ·have sI:=ZH m k u h9 HS.out.2.1 aa;have HT:=jI sI;clear sI;by_cases c2:u.toNat<128
    ·have e:=HL.out;rw[aw c1,ao c2]at e;have HE:=jI e;clear e;have b9:((k:Int)==9&&(u.toNat:Int) != 1)=false:=by
      rw[Bool.and_eq_false_iff,re,bne_eq_false_iff_eq];omega
     by_cases hk9:k=9
     ·have b1:((u.toNat:Int) != 1)=false:=by rw[bne_eq_false_iff_eq];omega
      have b0:((u.toNat:Int)==0)=false:=by rw[re];omega
      clear b9;have b9:((k:Int)==9)=true:=by rw[beq_iff_eq];omega
      have k0:(0:Int)<k:=by omega
      clear hk9 c1
      go_wp2_with fail
      go_ret3
      rw[HE.out];exact⟨am7 (int_eq HT.out.1) rfl rfl,rfl⟩
     ·have b9:((k:Int)==9)=false:=by rw[re];omega
      by_cases CB:k=0
      ·have k0:¬((0:Int)<k):=by omega
       have HK:=jI CB;clear CB
       go_wp2_with fail
       go_ret3
       rw[HE.out];exact⟨am7 (int_eq HT.out.1) rfl rfl,rfl⟩
      ·have k0:(0:Int)<k:=by omega
       have b0:((u.toNat:Int)==0)=false:=by rw[re];omega
       go_wp2_with fail
       go_ret3
       rw[HE.out];exact⟨am7 (int_eq HT.out.1) rfl rfl,rfl⟩
    ·have e:=HL.out;rw[aw c1,aw c2]at e;have hk9:k<9:=by omega
     have HE:Hid (Qg l (k+1) (m+u.toNat%128*128^k)):=⟨e,HT.out.2.1 hk9,aa⟩
     clear e;have b9:((k:Int)==9)=false:=by rw[re];omega
     by_cases CB:k=0
     ·have k0:¬((0:Int)<k):=by omega
      have HK:=jI CB;clear CB
      go_wp2_with fail
      go_round
      case rel=>exact⟨k+1,_,aa,by go_num,int_eq HT.out.1,HE⟩
      case measure=>simp[intOf];omega
     ·have k0:(0:Int)<k:=by omega
      have b0:((u.toNat:Int)==0)=false:=by rw[re];omega
      go_wp2_with fail
      go_round
      case rel=>exact⟨k+1,_,aa,by go_num,int_eq HT.out.1,HE⟩
      case measure=>simp[intOf];omega
  ·have e:=HS.out.1;rw[mn (by have:=Hl.out;omega),dp]at e;have HE:=jI e;clear e
   go_wp2_with fail
   go_ret3
   rw[HE.out];exact⟨rfl,rfl⟩
section
variable{s:Cs}
theorem Hk{P:Prop}(h:P:=by(simp[Cs.failed,mA])):P:=h
structure cu(s:Cs):Prop where
 at_:s.at_≤s.b.length
 len:s.b.length≤1099511627776
theorem cu.rest{s:Cs}(h:cu s):s.rest.length=s.left∧s.left≤1099511627776:=by
 have:=h.at_;have:=h.len;exact⟨by simp[Cs.rest,Cs.left],by unfold Cs.left;omega⟩
theorem cu.eu{s:Cs}(h:cu s){k:Nat}{e:Int}(hk:e=0→k≤s.left):cu (s.eu k e):=by
 unfold Cs.eu;split
 ·exact h
 ·split
  ·exact⟨h.at_,h.len⟩
  ·rename_i h1;have:=hk C4;have:=h.at_;unfold Cs.left at*;exact⟨cZ,h.len⟩
theorem cu.lY{s:Cs}(h:cu s):cu s.lY:=h.eu fun _=>by have:=(fg s.rest).2.1;rw[h.rest.1]at this;exact this
theorem cu.bX{s:Cs}(h:cu s){m:Int}(hm:m≤9223372036854775807):cu (s.bX m):=h.eu fun _=>by have:=(jz s.rest m hm).2.1;rw[h.rest.1]at this;exact this
theorem w5{l:al}{n:Int}(h:ij l n=0):0≤n∧n.toNat≤l.length:=by
 unfold ij at h;split at h
 ·cases h
 ·split at h
  ·cases h
  ·omega
theorem cu.b_{s:Cs}(h:cu s){n:Int}:cu (s.b_ n):=h.eu fun he=>by have:=(w5 he).2;rw[h.rest.1]at this;exact this
theorem Pf(l:al)(m:Int)(h:(jO l m).2.2=0):(jO l m).2.1≤l.length∨(jO l m).2.1=0:=by
 unfold jO at h⊢;split
 ·exact .inr rfl
 ·split
  ·exact .inr rfl
  ·rename_i h1 h2;by_cases hz:(et l m).1=0
   ·left;have hk:(et l m).2.1≤l.length:=by
     unfold et;split
     ·simp
     ·split
      ·simp
      ·exact(fg l).2.1
    simp only;omega
   ·left;simp only;omega
theorem cu.ew{s:Cs}(h:cu s){m:Int}:cu (s.ew m):=h.eu fun he=>by
 have:=Pf s.rest m he;rw[h.rest.1]at this;omega
theorem cu.failed{s:Cs}(h:cu s)(e:Int):cu (s.failed e):=by
 unfold Cs.failed;split
 ·exact⟨h.at_,h.len⟩
 ·exact h
theorem cu.eJ{s:Cs}(h:cu s):cu s.eJ:=h.b_
theorem Cs.cK(s:Cs)(k:Nat)(e:Int):(s.eu k e).b=s.b:=by unfold Cs.eu;split<;>first|rfl|(split<;>rfl)
abbrev Cv(g:Nat)(A:bj)(c:Nat)(s:Cs):Ch:=.bD g 258 [.slice A s.b.length c,ah s.at_,ah s.e]
theorem Uv{T:Nat}{s s':Cs}{a e:Int}{L:aP}{m:Nat}(hb:s'.b=s.b)(ha:a=s'.at_)(he:e=s'.e){M:aP}(k:Wk L M):Wk (.bD g T [.slice A s.b.length c,ah a,ah e]::L) (.bD g T [.slice A s'.b.length c,ah s'.at_,ah s'.e]::M):=by
 rw[hb,←ha,←he];exact k.cons
theorem Uu(ho:cu s)(hb:aJ B w0 F 1 (.slice A s.b.length c) s.b.length (bv s.b)):
  a_ B w0 238 [br g] (Cv g A c s::F) (fun r L=>∃A' c',r= .slice A' s.left c'∧aJ B w0 F 1 (.slice A' s.left c') s.left (bv s.rest)∧L=Cv g A c s::F):=by
 have GI:=ho.at_;have hcut:=hb.cut GI;have e:(bv s.b).drop (s.at_*1)=bv s.rest:=by rw[cE,jt];rfl
 rw[e]at hcut;refine fw func238 12 [0] ?_;refine jy ?_;refine b7 (bP (i:=s.at_) (size:=1) underlying27 ag rfl rfl rfl aa) rfl ?_;refine bG ?_;exact⟨_,_,rfl,hcut,rfl⟩
theorem JK(ho:cu s)(hb:aJ B w0 F 1 (.slice A s.b.length c) s.b.length (bv s.b)):
  a_ B w0 194 [br g] (Cv g A c s::F) (fun r L=>r=ah s.left∧L=Cv g A c s::F):=by
 refine fw func194 10 [0] ?_;refine alD ?_;refine aX ajM rfl (Uu ho hb) rfl ?_;rintro _ _ ⟨Ar,cr,rfl,CA,cA⟩;obtain rfl:=cA.symm;refine bz ?_;exact⟨rfl,rfl⟩
theorem gO:a_ B w0 175 [br g] (Cv g A c s::F) (fun r L=>r=ah s.e∧L=Cv g A c s::F):=by
 refine fw func175 9 [0] ?_;refine ahh ?_;exact⟨rfl,rfl⟩
theorem uP(h:s.e≠0){fv:Value}:a_ B w0 219 [br g,fv] (Cv g A c s::F) (fun r L=>r= .bool false∧L=Cv g A c s::F):=by
 refine fw func219 35 [0,1] ?_;refine bQ ?_;refine ai rfl (gO) ?_;refine bF ?_;refine aj (fun h9=>?_) fun h9=>?_
 ·refine bJ ?_;exact⟨rfl,rfl⟩
 ·exfalso;exact h9 h
theorem xF(ho:cu s)(hb:aJ B w0 F 1 (.slice A s.b.length c) s.b.length (bv s.b))(h0:s.e=0){ff:FuncId}{caps:cV}{R':aP→Prop}{k:Nat}{er:Int}(Yk:aH Tryz.prog ff)(hk:k≤1099511627776)(vQ:∀A' c',aJ B w0 F 1 (.slice A' s.left c') s.left (bv s.rest)→a_ B w0 ff (.slice A' s.left c'::caps) (Cv g A c s::F) (fun r L=>r= .tuple #[ah k,ah er]∧∃F',R' F'∧L=Cv g A c s::F')):
  a_ B w0 219 [br g,.func (.func ff) #[] caps.toArray] (Cv g A c s::F) (fun r L=>r= .bool (decide (er=0))∧∃F',R' F'∧L=Cv g A c (s.eu k er)::F'):=by
 have GI:=ho.at_;have hlen:=ho.len;refine fw func219 35 [0,1] ?_;refine bQ ?_;refine ai rfl (gO) ?_;refine bF ?_;refine aj (fun h9=>?_) fun h9=>?_
 ·exfalso;exact h9 h0
 ·refine bJ ?_;refine aX ajM rfl (Uu ho hb) rfl ?_;rintro _ _ ⟨Ar,cr,rfl,CA,cA⟩;obtain rfl:=cA.symm;refine uH Yk rfl rfl (vQ _ _ CA) rfl ?_;rintro _ _ ⟨rfl,F1,hF1,cA⟩;obtain rfl:=cA.symm;refine dQ ?_;refine aj (fun iY=>?_) fun iY=>?_
  ·refine bL ?_;refine ve [] ?_;refine bJ ?_;refine aq (L':=Cv g A c (s.eu k er)::F1) (Uv (m:=0) (Cs.cK s k er) (by simp[Cs.eu,h0,iY]) (by simp[Cs.eu,h0,iY]) (.refl _)) ?_;refine aF ?_;exact⟨by rw[nT iY],F1,hF1,rfl⟩
  ·refine jy ?_;refine ve [] ?_;refine bL ?_;have Kf:er=0:=by omega
   refine aq (L':=Cv g A c (s.eu k er)::F1) (Uv (m:=0) (Cs.cK s k er) (by simp[Cs.eu,h0,Kf]) (by simp[Cs.eu,h0,Kf]) (.refl _)) ?_;refine aF ?_;exact⟨by rw[ox Kf],F1,hF1,rfl⟩
theorem ng(er:Int):a_ B w0 174 [br g,ah er] (Cv g A c s::F) (fun r L=>r= .tuple #[]∧L=Cv g A c (s.failed er)::F):=by
 refine fw func174 17 [0,1] ?_;refine tP ?_;refine aj (fun mA=>?_) fun mA=>?_
 ·refine bJ ?_;refine aq (L':=Cv g A c (s.failed er)::F) (Uv (m:=0) Hk Hk Hk (.refl _)) ?_;refine aF ?_;exact⟨rfl,rfl⟩
 ·refine be ?_;refine aq (L':=Cv g A c (s.failed er)::F) (Uv (m:=0) Hk Hk Hk (.refl _)) ?_;refine aF ?_;exact⟨rfl,rfl⟩
theorem aeA{l:al}(hb:aJ B w0 L0 1 (.slice A n c) n (bv l))(hn:n≤1099511627776):a_ B w0 263 [.slice A n c] L0 (fun r L=>r= .tuple #[.int .u64 (cM l).1,ah (cM l).2.1,ah (cM l).2.2]∧L=L0):=
 dL.of_same fun w hw=>anc w (hb w hw) hn
theorem KU:∀(l:al) (i acc:Nat),(dp i acc l).2.2≠0→(dp i acc l).1=0∧(dp i acc l).2.1=0:=by
 intro l;induction l with
 |nil=>intro i acc _;exact⟨rfl,rfl⟩
 |cons c r ih=>
  intro i acc h;unfold dp at h⊢;split
  ·exact⟨rfl,rfl⟩
  ·rename_i h1;rw[aw h1]at h;split
   ·rename_i h2;rw[ao h2]at h;exact absurd rfl h
   ·rename_i h2;rw[aw h2]at h;exact ih _ _ h
theorem ZG{l:al}(h:(cM l).2.2≠0):(cM l).1=0∧(cM l).2.1=0:=KU l 0 0 h
theorem pt{l:al}{m:Int}(h:(et l m).2.2≠0):(et l m).1=0∧(et l m).2.1=0:=by
 unfold et at h⊢;split
 ·exact⟨rfl,rfl⟩
 ·split
  ·exact⟨rfl,rfl⟩
  ·rename_i h1 h2;rw[aw h1,aw h2]at h;exact absurd rfl h
theorem Zd{x0:Value}{l:al}(hb:aJ B w0 (.bD h3 60 [x0]::F) 1 (.slice A n c) n (bv l))(hn:n≤1099511627776):
  a_ B w0 320 [.slice A n c,br h3] (C0:: .bD h3 60 [x0]::F) (fun r L=>r= .tuple #[ah (cM l).2.1,ah (cM l).2.2]∧L=C0:: .bD h3 60 [.int .u64 (cM l).1]::F):=by
 refine fw func320 13 [0,1] ?_;refine bQ ?_;refine ai rfl (aeA aB hn) ?_;refine zH ?_;exact⟨rfl,rfl⟩
theorem abo(ho:cu s)(hb:aJ B w0 F 1 (.slice A s.b.length c) s.b.length (bv s.b)):
  a_ B w0 296 [br g] (Cv g A c s::F) (fun r L=>r= .int .u64 s.num∧L=Cv g A c s.lY::F):=by
 by_cases h0:s.e=0
 ·have hkb:=(fg s.rest).2.1;rw[ho.rest.1]at hkb;have hlb:=ho.rest.2;refine fw func296 11 [0] ?_;refine bL ?_;refine bc fun g3=>?_;refine bz ?_;refine aX Uo rfl ((xF (F:=.bD g3 60 [.int .u64 0]::F) ho (aJ.cons hb) h0 (caps:=[br g3]) (R':=fun F'=>F'= .bD g3 60 [.int .u64 (cM s.rest).1]::F) (k:=(cM s.rest).2.1) (er:=(cM s.rest).2.2) apl aa (fun A' c' CA=>(Zd CA aa).mono fun r L ⟨h1,h2⟩=>⟨h1,_,rfl,h2⟩)).perm swp) rfl ?_;rintro _ _ ⟨rfl,_,cA,rfl⟩;obtain rfl:=cA.symm;refine bA ?_;refine aj (fun h9=>?_) fun h9=>?_
  ·refine bL ?_;refine aq (L':=Cv g A c s.lY::F) (.cons (.skip (.refl _))) ?_;refine aF ?_;exact⟨by simp[Cs.num,h0,(ZG (show(cM s.rest).2.2≠0 from h9)).1],rfl⟩
  ·refine bQ ?_;refine aq (L':=Cv g A c s.lY::F) (.cons (.skip (.refl _))) ?_;refine aF ?_;exact⟨by simp[Cs.num,h0],rfl⟩
 ·have e1:s.lY=s:=by simp[Cs.lY,Cs.eu,h0]
  have e2:s.num=0:=by simp[Cs.num,h0]
  rw[e1,e2];refine fw func296 11 [0] ?_;refine bL ?_;refine bc fun g3=>?_;refine bz ?_;refine ai rfl ((uP h0).perm swp) ?_;refine tP ?_;refine aq (L':=Cv g A c s::F) (.cons (.skip (.refl _))) ?_;refine aF ?_;exact⟨rfl,rfl⟩
end
end Go.Proofs.YtaodmbolhoafcaaGreatDoor
