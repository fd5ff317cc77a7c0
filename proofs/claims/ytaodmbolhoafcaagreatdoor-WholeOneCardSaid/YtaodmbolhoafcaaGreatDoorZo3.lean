/-
  Texts of one proof, joined: part 3. No condition.
-/
import Derived.Test.YtaodmbolhoafcaaGreatDoorZo2
import Derived.Test.YtaodmbolhoafcaaGreatDoorRows
import Derived.Lib.AppendStr
import Derived.Lib.SliceRun
open Go.RowKit Go.Proofs.Tryz
namespace Go.Proofs.YtaodmbolhoafcaaGreatDoor
set_option linter.unusedVariables false
set_option linter.unusedSimpArgs false
set_option maxRecDepth 20000
variable{X:cV}{B:Nat}{w0:World}{F:aQ}{A:bj}{n c g:Nat}{bt:TypeId}{f:Ch→aQ}{Al:bj}{cl:Nat}{L0:aQ}{h3 h5:Nat}{C0:Ch}
theorem aos{P:Prop}(h:P:=by(exact dN (by first|(exact⟨fun h=>OM h hp,False.elim⟩)|omega|(simp at jx;done)))):P:=h
theorem agA{P:Prop}(h:P:=by(exact ej (by first|(exact⟨fun h=>OM h hp,False.elim⟩)|omega|(simp at jx;done)))):P:=h
theorem Ho{P:Prop}(h:P:=by(rw[ahI,gj])):P:=h
theorem aoT{P:Prop}(h:P:=by(rintro _ _ ⟨rfl,TQ,c41,rfl⟩;exact gD)):P:=h
theorem Hp{P:Prop}(h:P:=by(rw[ahH,bV])):P:=h
theorem an4(q:List Bool)(b:Bool)(hq:q.length≤8000000):
  a_ B w0 212 [br g,.int .u64 b.toNat] (.bE g bt (.slice A (packed q).length c::ah q.length::X):: .own 5 1 A (packed q).length c (bv (packed q))::F)
   (fun r L=>r= .tuple #[]∧∃A' c',L= .bE g bt (.slice A' (packed (q++[b])).length c'::ah (q++[b]).length::X):: .own 5 1 A' (packed (q++[b])).length c' (bv (packed (q++[b])))::F):=by
 have mN:=dJ q;have hrl:=BP q;have oL:=Bool.toNat_le b;refine fw func212 48 [0,1] ?_;refine d_ (fun zf zL=>∃(A':bj) (c':Nat),Sub zf [(0,br g),(1,.int .u64 b.toNat)]∧Wk zL (.bE g bt (.slice A' (room q).length c'::ah q.length::X):: .own 5 1 A' (room q).length c' (bv (room q))::F)) ?_ ?_
 ·refine bz ?_;refine ab (nt rfl rfl aa (Po _)) rfl ?_;refine bA ?_;refine aj (fun h9=>?_) fun h9=>?_
  ·refine bz ?_;refine dF cD rfl rfl rfl rfl rfl (fun _=>rfl) aV aa aa ?_;intro _ Xk c16;refine b8 ?_;exact bD ⟨Xk,c16,bp,bq aoN (ax aa (by rw[←OZ aa];simp[bv]) (.refl _))⟩
  ·refine aF ?_;exact bD ⟨A,c,bp,bq Hk (ax Hk Hk (.refl _))⟩
 ·rintro _ _ ⟨A',c',hs,hp⟩;refine aU hs hp ?_;clear hs hp;refine aF ?_;refine kJ (A:=A') (n:=(room q).length) (xs:=bv (room q)) (.tail _ (.head _)) aa ?_;intro ad hA;subst hA;refine cF (.bE g bt (.slice (some ad) (room q).length c'::ah q.length::X)::F) ?_;refine ae 0 ?_;refine ae 1 ?_;refine ae 2 ?_;refine ae 3 ?_;refine ae 4 ?_;refine ae 5 ?_;refine ae 6 ?_;refine ae 7 ?_;refine aW 8 rfl (mh rfl rfl aa (aiF aa)) ?_;refine aW 9 rfl (aO (size:=1) (i:=q.length/8) underlying27 ag rfl rfl rfl aa) ?_;refine ae 11 ?_;refine ae 12 ?_;refine ae 13 ?_;refine ae 14 ?_;refine ae 15 ?_;refine ae 16 ?_;refine aW 17 rfl (nt rfl rfl aa (Po _)) ?_;refine ae 18 ?_;refine aW 19 rfl (ga rfl rfl aa (akF aa)) ?_;refine az 10 ?_;refine aF ?_;refine aW 20 rfl (tN rfl rfl (ad9 q b)) ?_;refine aW 21 rfl (aO (size:=1) (i:=q.length/8) underlying27 ag rfl rfl rfl aa) ?_;refine az 22 ?_;refine kR rfl .no (iK ag rfl rfl rfl aV (by rw[abk];omega)) Gs ?_;rintro _ _ rfl;refine cQ [0] ?_;refine cH ?_;refine aq (L':=.bE g bt (.slice (some ad) (packed (q++[b])).length c'::ah (q++[b]).length::X):: .own 5 1 (some ad) (packed (q++[b])).length c' (bv (packed (q++[b])))::F) (bq agE (ax agE (by rw[cE,abl,Fg]) (.refl _))) ?_;refine aF ?_;exact⟨rfl,_,c',rfl⟩
abbrev Wx(X:cV)(g:Nat)(bt:TypeId)(A:bj)(c:Nat)(q:List Bool)(F:aQ):aQ:=.bE g bt (.slice A (packed q).length c::ah q.length::X):: .own 5 1 A (packed q).length c (bv (packed q))::F
theorem Bd(q:List Bool)(v:Nat)(hv:v<18446744073709551616)(n:Nat)(hn:n≤64)(hp:v<2^n)(hq:q.length≤7000000):
  a_ B w0 153 [br g,.int .u64 v,ah n] (Wx X g bt A c q F)
   (fun r L=>r=ah 0∧∃A' c',L=Wx X g bt A' c' (q++hi v n n) F):=by
 refine fw func153 42 [0,1,2] ?_;refine bI ?_;refine bU 20 27 [0,1,2] (False) ?_ ?_
 ·refine bO ?_;refine aL rfl rfl rfl (fun jZ=>?_) (fun jZ=>?_)
  ·refine bG ?_;refine aL rfl rfl rfl (fun jj=>?_) (fun jj=>?_)
   ·refine bG ?_;refine cM (fun l0=>?_) fun l0=>?_
    ·refine b8 ?_;refine ab (dj rfl rfl aa (Fp v (e:=n) rfl aa)) rfl ?_;refine bG ?_;exact aP aos
    ·refine bz ?_;exact aP (by rfl)
   ·refine bI ?_;exact aP agA
  ·refine cH ?_;exact aP agA
 ·refine be ?_;refine dm fun kg=>?_;refine cZ ?_;refine aE (fun zf zL zm=>∃(m:Nat) (A':bj) (c':Nat),(m≤n)∧n-m=zm∧Sub zf [(0,br g),(1,.int .u64 v),(7,ah ((n:Int)-m-1))]∧Wk zL (Wx X g bt A' c' (q++hi v n m) F)) _ ⟨0,A,c,bS _,rfl,bp,bq Ho (ax Ho Ho (.refl _))⟩ ?_;rintro _ _ _ ⟨m,A',c',hm,rfl,hs,hp⟩;refine aU hs hp ?_;clear hs hp;have wR:(q++hi v n m).length=q.length+m:=by rw[aY,dM]
  refine bK ?_;refine aj (fun D8=>?_) fun D8=>?_
  ·refine b8 ?_;refine cF F ?_;refine ae 0 ?_;refine ae 1 ?_;refine ae 2 ?_;refine ae 3 ?_;refine ae 4 ?_;refine aW 5 rfl (dj rfl rfl aa (Fp v (e:=n-1-m) aa aa)) ?_;refine aW 6 rfl (jY rfl rfl (WA v _ hv)) ?_;refine az 7 ?_;refine gz rfl .no Uv rfl (an4 (q++hi v n m) (v.testBit (n-1-m)) aa) rfl aoT ?_;rintro _ _ ⟨rfl,TQ,c41,cA⟩;obtain rfl:=cA.symm;refine bI ?_;refine av ⟨_,aa,m+1,TQ,c41,aa,rfl,bp,bq Hp (ax Hp Hp (.refl _))⟩
  ·refine cH ?_;have hm':m=n:=by omega
   subst hm';exact⟨rfl,A',c',rfl⟩
theorem agf(q:List Bool)(hq:q.length≤8000000):a_ B w0 155 [br g] (Wx X g bt A c q F) (fun r L=>∃A' c',r= .slice A' (packed q).length c'∧L= .own 5 1 A' (packed q).length c' (bv (packed q))::Wx X g bt A c q F):=by
 have mN:=dJ q;refine fw func155 11 [0] ?_;refine GD ?_;refine ay rfl (me (packed q) aA aa) fun wu F8=>?_;refine bG ?_;exact⟨wu,F8,rfl,rfl⟩
theorem aba{P:Prop}(h:P:=by(exact dN (by first|omega|(exact⟨fun h=>by omega,fun h=>by omega⟩)))):P:=h
theorem aoB{P:Prop}(h:P:=by(exact eU (by first|omega|(exact⟨fun h=>by omega,fun h=>by omega⟩)))):P:=h
theorem abt{l:al}(hg:Good l)(hb:eM B w0 F Al cl l):a_ B w0 286 [.slice Al l.length cl] F (fun r L=>r=ah 0∧L=F):=by
 have h:=zn l hb;rw[xE hg]at h;exact h
def cz(l:al):Nat→Nat→Nat
 |_,0=>0
 |i,f+1=>if i<l.length∧(l.getD i 0).toNat=0 then cz l (i+1) f+1 else 0
theorem abM(l:al):∀f i,cz l i f≤f
 |0,i=>gi _
 |f+1,i=>by
  rw[cz];split
  ·have:=abM l f (i+1);omega
  ·omega
theorem aj6(l:al):∀f i,i≤l.length→i+cz l i f≤l.length
 |0,i,h=>h
 |f+1,i,h=>by
  rw[cz];split
  ·have:=aj6 l f (i+1) aa;omega
  ·omega
theorem apJ{l:al}{i m:Nat}(hm:m<63)(h1:i+m<l.length)(h2:(l.getD (i+m) 0).toNat=0)(h:cz l i 63=m+cz l (i+m) (63-m)):cz l i 63=(m+1)+cz l (i+(m+1)) (63-(m+1)):=by
 rw[h,show 63-m=(63-(m+1))+1 by omega,cz,ao ⟨h1,h2⟩,show i+m+1=i+(m+1) by omega];omega
theorem alA{l:al}{i m:Nat}(hn:¬(m<63∧i+m<l.length∧(l.getD (i+m) 0).toNat=0))(h:cz l i 63=m+cz l (i+m) (63-m)):cz l i 63=m:=by
 rw[h];by_cases hm:m<63
 ·rw[show 63-m=(63-(m+1))+1 by omega,cz,aw (fun h=>hn ⟨hm,h.1,h.2⟩)];rfl
 ·rw[show 63-m=0 by omega];rfl
def ik(l:al)(i:Nat):List Bool:=
 if h:i<l.length then if (l.getD i 0).toNat=0 then hi 0 4 4++(hi (cz l (i+1) 63) 6 6++ik l (i+1+cz l (i+1) 63)) else hi (l.getD i 0).toNat 4 4++ik l (i+1) else []
termination_by l.length-i
theorem xQ{l:al}{i:Nat}(h:¬i<l.length):ik l i=[]:=by rw[ik,dif_neg h]
theorem DR{l:al}{i:Nat}(h:i<l.length)(h0:¬(l.getD i 0).toNat=0):ik l i=hi (l.getD i 0).toNat 4 4++ik l (i+1):=by
 conv=>lhs;rw[ik,dif_pos h,aw h0]
theorem DS{l:al}{i m:Nat}(h:i<l.length)(h0:(l.getD i 0).toNat=0)(hm:cz l (i+1) 63=m):ik l i=hi 0 4 4++(hi m 6 6++ik l (i+1+m)):=by
 subst hm
 conv=>lhs;rw[ik,dif_pos h,ao h0]
theorem run_eq{q q' Q:List Bool}{l:al}{i m:Nat}(hq:q'++ik l i=Q)(h:i<l.length)(h0:(l.getD i 0).toNat=0)(hm:cz l (i+1) 63=m):q'++hi 0 4 4++hi m 6 6++ik l (i+1+m)=Q:=by
 rw[←hq,DS h h0 hm];simp[bV]
theorem am_{q' Q:List Bool}{l:al}{i:Nat}(hq:q'++ik l i=Q)(h:i<l.length)(h0:¬(l.getD i 0).toNat=0):q'++hi (l.getD i 0).toNat 4 4++ik l (i+1)=Q:=by
 rw[←hq,DR h h0];simp[bV]
theorem XL(l:al)(q:List Bool)(hb:eM B w0 F Al cl l)(hg:Good l)(hq:q.length≤1000000):
  a_ B w0 247 [br g,.slice Al l.length cl] (Wx X g bt A c q F) (fun r L=>r=ah 0∧∃A' c',L=Wx X g bt A' c' (q++ik l 0) F):=by
 have hf:=hg.1;have hf1:=hf.1;refine fw func247 64 [0,1] ?_;refine zI ?_;refine ai rfl (abt hg aA) ?_;refine bO ?_;refine dm fun mE=>?_;refine bO ?_;refine aE (fun zf zL zm=>∃(i:Nat) (q':List Bool) (A':bj) (c':Nat),(i≤l.length∧q'.length≤1000000+10*i∧q'++ik l i=q++ik l 0)∧l.length-i=zm∧Sub zf [(0,br g),(1,.slice Al l.length cl),(6,ah i)]∧Wk zL (Wx X g bt A' c' q' F)) _ ⟨0,q,A,c,⟨bS _,aa,rfl⟩,rfl,bp,.refl _⟩ ?_;rintro _ _ _ ⟨i,q',A',c',⟨hik,hql,heq⟩,rfl,hs,hp⟩;refine aU hs hp ?_;clear hs hp;refine bO ?_;refine aj (fun jj=>?_) fun jj=>?_
 ·have hu:=hf.2 _ (bg (k:=i) aa 0);have tB:=abM l 63 (i+1);refine dc ?_;refine aj (fun m7=>?_) fun m7=>?_
  ·refine bI ?_;refine aX Dp rfl (Bd q' (l.getD i 0).toNat aa 4 aa aa aa) rfl ?_;rintro _ _ ⟨rfl,Qf,c30,cA⟩;obtain rfl:=cA.symm;refine bK ?_;refine ve [0,1,6] ?_;refine b8 ?_;refine av ⟨_,aa,i+1,q'++hi (l.getD i 0).toNat 4 4,Qf,c30,⟨aa,by rw[aY,dM];omega,am_ heq aa aa⟩,rfl,bp,.refl _⟩
  ·refine bO ?_;refine aE (fun zf zL zm=>∃(m:Nat),(m≤63∧i+1+m≤l.length∧cz l (i+1) 63=m+cz l (i+1+m) (63-m))∧63-m=zm∧Sub zf [(0,br g),(1,.slice Al l.length cl),(6,ah i),(7,ah (m+1:Nat))]∧Wk zL (Wx X g bt A' c' q' F)) _ ⟨0,⟨aa,aa,ak⟩,rfl,bp,.refl _⟩ ?_;rintro _ _ _ ⟨m,⟨aqt,hmi,hcz⟩,rfl,hs,hp⟩;refine aU hs hp ?_;clear hs hp;refine bA ?_;refine bU 19 51 [0,1,6,7] (m<63∧i+1+m<l.length∧(l.getD (i+1+m) 0).toNat=0) ?_ ?_
   ·refine bA ?_;refine cM (fun tT=>?_) fun tT=>?_
    ·refine dc ?_;refine cM (fun Rf=>?_) fun Rf=>?_
     ·refine bI ?_;refine ab (aC (i:=i+1+m) underlying27 ag rfl rfl aa aa aA) rfl ?_;refine bG ?_;exact aP aba
     ·refine bK ?_;exact aP aoB
    ·refine jk ?_;exact aP aoB
   ·refine be ?_;refine aj (fun h51=>?_) fun h51=>?_
    ·refine bO ?_;refine av ⟨_,aa,m+1,⟨aa,aa,apJ aa aa aa hcz⟩,rfl,bp,.refl _⟩
    ·have hce:=alA h51 hcz;refine bI ?_;refine aX Dp rfl (Bd q' 0 aa 4 aa aa aa) rfl ?_;rintro _ _ ⟨rfl,A55,c55,cA⟩;obtain rfl:=cA.symm;refine bK ?_;refine ab (bm underlying3 underlying60 rfl ((f_ aa aa).trans (show _=((m:Nat):Int) by omega))) rfl ?_;refine aX Dp rfl (Bd (q'++hi 0 4 4) m aa 6 aa aa (by rw[aY,dM];omega)) rfl ?_;rintro _ _ ⟨rfl,A60,c60,cA⟩;obtain rfl:=cA.symm;refine bO ?_;refine av ⟨_,aa,i+1+m,q'++hi 0 4 4++hi m 6 6,A60,c60,⟨aa,by rw[aY,aY,dM,dM];omega,run_eq (q:=q) heq aa aa hce⟩,rfl,bp,.refl _⟩
 ·refine cZ ?_;have asA:q'=q++ik l 0:=by rw[←heq,xQ aa,gj]
  subst asA;refine aF ?_;exact⟨rfl,A',c',rfl⟩
theorem xR(l:al):∀n i,l.length-i≤n→(ik l i).length≤10*n
 |0,i,h=>by rw[xQ aa];simp
 |n+1,i,h=>by
  by_cases P9:i<l.length
  ·by_cases h0:(l.getD i 0).toNat=0
   ·rw[DS P9 h0 rfl,aY,aY,dM,dM];have:=xR l n (i+1+cz l (i+1) 63) aa;omega
   ·rw[DR P9 h0,aY,dM];have:=xR l n (i+1) aa;omega
  ·rw[xQ P9];simp
def gh(l:al):List Bool:=(List.range (8*l.length)).map fun i=>(l.getD (i/8) 0).toNat.testBit (7-i%8)
theorem dO(l:al):(gh l).length=8*l.length:=by simp[gh]
theorem yV(l:al){i:Nat}(h:i<8*l.length):gX (gh l) i=(l.getD (i/8) 0).toNat/2^(7-i%8)%2:=by
 rw[Qx,gX,gh];congr 1;simp[bk,h]
theorem PG(l:al){k:Nat}(h:k<l.length):∀m,m≤8→part (gh l) (8*k) m=(l.getD k 0).toNat/2^(8-m)
 |0,_=>by
  have:=lT (l.getD k 0);rw[part];exact(BB aa).symm
 |m+1,hm=>by
  rw[part,PG l h m aa,yV l aa,show(8*k+m)/8=k by omega,show 7-(8*k+m)%8=7-m by omega,show 8-m=(7-m)+1 by omega,show 8-(m+1)=7-m by omega,nK,←Nat.div_div_eq_div_mul];omega
theorem pN(l:al):packed (gh l)=l:=by
 apply pZ
 ·rw[dJ,dO];omega
 ·intro k h1 h2;have hk:k<l.length:=h2;have e:(packed (gh l)).getD k 0=l.getD k 0:=by
   rw[packed,sj _ (by rw[dO];omega),rz,PG l hk 8 aa];simp
  rwa [bk,fm h1,bk,fm h2]at e
def Fm(q:List Bool):Nat→Nat→Nat
 |i,0=>i
 |i,f+1=>if gX q i=1 then i else Fm q (i+1) f
def Z(q:List Bool)(p:Nat):Nat:=Fm q p (q.length-p)
theorem agh{q:List Bool}{k:Nat}(h:gX q k=1)(hk:k<q.length):Z q k=k:=by
 rw[Z,show q.length-k=(q.length-(k+1))+1 by omega,Fm,ao h]
theorem Lo{q:List Bool}{k:Nat}(h:¬gX q k=1)(hk:k<q.length):Z q k=Z q (k+1):=by
 rw[Z,show q.length-k=(q.length-(k+1))+1 by omega,Fm,aw h];rfl
theorem Xi{q:List Bool}{k:Nat}(hk:q.length≤k):Z q k=k:=by
 rw[Z,show q.length-k=0 by omega];rfl
theorem an7(q:List Bool):∀f i,i≤Fm q i f
 |0,i=>gi _
 |f+1,i=>by
  rw[Fm];split
  ·exact gi _
  ·have:=an7 q f (i+1);omega
theorem arx(q:List Bool):∀f i,Fm q i f≤i+f
 |0,i=>gi _
 |f+1,i=>by
  rw[Fm];split
  ·omega
  ·have:=arx q f (i+1);omega
theorem ak2(q:List Bool)(p:Nat):p≤Z q p:=an7 q _ p
theorem arB(q:List Bool){p:Nat}(h:p≤q.length):Z q p≤q.length:=by have:=arx q (q.length-p) p;unfold Z;omega
theorem V9(q:List Bool):∀m i,part q i (m+1)=gX q i*2^m+part q (i+1) m
 |0,i=>by simp[part]
 |m+1,i=>by
  rw[part,V9 q m i,part,show i+(m+1)=i+1+m by omega,nK];have:gX q i*(2^m*2)=2*(gX q i*2^m):=by rw[←tq,nL]
  omega
theorem IS(q:List Bool):∀f i,part q i f=0↔Fm q i f=i+f
 |0,i=>by simp[part,Fm]
 |f+1,i=>by
  rw[V9,Fm];have hb:=rT q i;split
  ·rename_i h;rw[h];have:=v_ f;omega
  ·rename_i h;have h0:gX q i=0:=by omega
   rw[h0,se,mw,IS q f (i+1)];omega
theorem aiw(q:List Bool){p:Nat}(h:p≤q.length):part q p (q.length-p)=0↔Z q p=q.length:=by
 rw[IS,Z,show p+(q.length-p)=q.length by omega]
def skE(q:List Bool)(p:Nat)(n:Int):Int:=if n<0 then 13 else if (q.length:Int)<p+n then 1 else 0
def skP(q:List Bool)(p:Nat)(n:Int):Nat:=if n<0 then p else if (q.length:Int)<p+n then p else p+n.toNat
def r_(q:List Bool)(p:Nat)(n:Int):Int:=if n<0∨64<n then 13 else if (q.length:Int)<p+n then 1 else 0
def oK(q:List Bool)(p:Nat)(n:Int):Nat:=if n<0∨64<n then 0 else if (q.length:Int)<p+n then 0 else part q p n.toNat
def iE(q:List Bool)(p:Nat)(n:Int):Nat:=if n<0∨64<n then p else if (q.length:Int)<p+n then p else p+n.toNat
def pkV(q:List Bool)(p:Nat)(n:Int):Nat:=if n<0∨64<n then 0 else part q p n.toNat
def pkN(q:List Bool)(p:Nat)(n:Int):Int:=if n<0∨64<n then 0 else min n (q.length-p)
def unV(q:List Bool)(p:Nat):Int:=if Z q p<q.length then Z q p-p else 0
def unR(q:List Bool)(p:Nat):Int:=if Z q p<q.length then 0 else 1
def unP(q:List Bool)(p:Nat):Nat:=if Z q p<q.length then Z q p+1 else p
def paE(q:List Bool)(p:Nat):Int:=if (q.length:Int)-p<8∧Z q p=q.length then 0 else 2
theorem qE{q:List Bool}{p:Nat}(n:Int)(h:p≤q.length):iE q p n≤q.length:=by
 unfold iE;split;· exact h
 split<;>omega
section
open Classical in
noncomputable def fin(acc:al)(p:Nat):al×Int×Nat:=if Good acc then (acc,0,p) else ([],7,p)
noncomputable def lL(q:List Bool)(N:Nat):Nat→Nat→al→Bool→al×Int×Nat
 |0,p,acc,s=>fin acc p
 |f+1,p,acc,s=>
  if N≤acc.length then fin acc p
  else if¬r_ q p 4=0 then ([],r_ q p 4,iE q p 4)
  else if¬oK q p 4=0 then lL q N f (iE q p 4) (acc++[UInt8.ofNat (oK q p 4)]) false
  else if¬r_ q (iE q p 4) 6=0 then ([],r_ q (iE q p 4) 6,iE q (iE q p 4) 6)
  else if s=true∨N≤acc.length+oK q (iE q p 4) 6 then ([],7,iE q (iE q p 4) 6)
  else lL q N f (iE q (iE q p 4) 6) (acc++List.replicate (oK q (iE q p 4) 6+1) 0) (decide (((oK q (iE q p 4) 6:Nat):Int)+1<64))
noncomputable def qN(q:List Bool)(p:Nat)(n:Int):al×Int×Nat:=if n<0∨300<n then ([],13,p) else lL q n.toNat n.toNat p [] false
section
variable{q:List Bool}{N f p:Nat}{acc:al}{s:Bool}{R:al×Int×Nat}
theorem Wg(h:lL q N f p acc s=R)(hl:N≤acc.length):R=fin acc p:=by
 subst h;cases f with
 |zero=>rfl
 |succ f=>rw[lL,ao hl]
theorem aet(h:lL q N f p acc s=R)(hf:N≤acc.length+f)(hl:acc.length<N):∃f',f=f'+1∧N≤acc.length+f'+1∧lL q N (f'+1) p acc s=R:=by
 cases f with
 |zero=>omega
 |succ f=>exact⟨f,rfl,aa,h⟩
theorem aiI(h:lL q N (f+1) p acc s=R)(hl:acc.length<N)(he:¬r_ q p 4=0):R=([],r_ q p 4,iE q p 4):=by
 rw[←h,lL,aw aa,ao he]
theorem Wh(h:lL q N (f+1) p acc s=R)(hl:acc.length<N)(he:r_ q p 4=0)(hv:¬oK q p 4=0):lL q N f (iE q p 4) (acc++[UInt8.ofNat (oK q p 4)]) false=R:=by
 rw[←h];conv=>rhs;rw[lL,aw aa,aw aa,ao hv]
theorem aer(h:lL q N (f+1) p acc s=R)(hl:acc.length<N)(he:r_ q p 4=0)(hv:oK q p 4=0)(he2:¬r_ q (iE q p 4) 6=0):R=([],r_ q (iE q p 4) 6,iE q (iE q p 4) 6):=by
 rw[←h,lL,aw aa,aw aa,aw aa,ao he2]
theorem aes(h:lL q N (f+1) p acc s=R)(hl:acc.length<N)(he:r_ q p 4=0)(hv:oK q p 4=0)(he2:r_ q (iE q p 4) 6=0)(hs:s=true∨N≤acc.length+oK q (iE q p 4) 6):R=([],7,iE q (iE q p 4) 6):=by
 rw[←h,lL,aw aa,aw aa,aw aa,aw aa,ao hs]
theorem Wi(h:lL q N (f+1) p acc s=R)(hl:acc.length<N)(he:r_ q p 4=0)(hv:oK q p 4=0)(he2:r_ q (iE q p 4) 6=0)(hs:¬(s=true∨N≤acc.length+oK q (iE q p 4) 6)):lL q N f (iE q (iE q p 4) 6) (acc++List.replicate (oK q (iE q p 4) 6+1) 0) (decide (((oK q (iE q p 4) 6:Nat):Int)+1<64))=R:=by
 rw[←h];conv=>rhs;rw[lL,aw aa,aw aa,aw aa,aw aa,aw hs]
theorem zJ(q:List Bool)(p:Nat){n:Nat}(hn:n≤64):oK q p n<2^n:=by
 unfold oK;split
 ·exact v_ n
 ·split
  ·exact v_ n
  ·exact qq q p n
theorem aoW{v:Nat}(hv:v<256)(l:al):bv l++[Value.int .u8 (v:Int)]=bv (l++[UInt8.ofNat v]):=by
 have:(UInt8.ofNat v).toNat=v:=by rw[oi];exact i_ hv
 simp[bv,this]
theorem abm(l:al)(m:Nat):bv l++List.replicate m (Value.int .u8 0)=bv (l++List.replicate m 0):=by
 simp[bv]
theorem alH(h:chk acc=0):fin acc p=(acc,0,p):=by
 unfold fin;by_cases hg:Good acc
 ·rw[ao hg]
 ·rw[Cr hg]at h;omega
theorem alG(h:¬chk acc=0):fin acc p=([],7,p)∧chk acc=7:=by
 unfold fin;by_cases hg:Good acc
 ·exact absurd (xE hg) h
 ·exact⟨aw hg,Cr hg⟩
end
theorem ab8{q:List Bool}{acc:al}{p:Nat}(h:p≤q.length):(fin acc p).2.2≤q.length:=by
 unfold fin;split<;>exact h
theorem SH(q:List Bool)(N:Nat):∀f p acc s,p≤q.length→(lL q N f p acc s).2.2≤q.length
 |0,p,acc,s,h=>ab8 h
 |f+1,p,acc,s,h=>by
  have h4:=qE (q:=q) (p:=p) 4 h;have h6:=qE (q:=q) (p:=iE q p 4) 6 h4;rw[lL];split
  ·exact ab8 h
  ·split
   ·exact h4
   ·split
    ·exact SH q N f _ _ _ h4
    ·split
     ·exact h6
     ·split
      ·exact h6
      ·exact SH q N f _ _ _ h6
theorem E8{q:List Bool}{p:Nat}(n:Int)(h:p≤q.length):(qN q p n).2.2≤q.length:=by
 unfold qN;split
 ·exact h
 ·exact SH q _ _ _ _ _ h
end
theorem aoJ{P:Prop}(h:P:=by(rw[show p+1+i=p+(i+1) by omega];exact h0 _ (by omega))):P:=h
theorem yd:type_of% @List.length_replicate:= @List.length_replicate
theorem IA:type_of% @List.getElem?_replicate:= @List.getElem?_replicate
theorem mU{q r:List Bool}{i:Nat}(h:i<q.length):gX (q++r) i=gX q i:=by
 simp[gX,bk,List.getElem?_append,h]
theorem ko(q r:List Bool)(i:Nat):gX (q++r) (q.length+i)=gX r i:=by
 simp[gX,bk,List.getElem?_append,show¬q.length+i<q.length by omega]
theorem acX(v n:Nat){j:Nat}(h:j<n):gX (hi v n n) j=v/2^(n-1-j)%2:=by
 rw[Qx];simp[gX,hi,bk,h]
theorem KO(q r:List Bool)(v n:Nat)(hv:v<2^n):∀m,m≤n→part (q++(hi v n n++r)) q.length m=v/2^(n-m)
 |0,_=>by rw[part,Eo,BB hv]
 |m+1,h=>by
  rw[part,KO q r v n hv m aa,ko,mU (by rw[dM];omega),acX v n aa,show n-m=(n-1-m)+1 by omega,show n-(m+1)=n-1-m by omega,nK,←Nat.div_div_eq_div_mul];omega
theorem EU(q r:List Bool)(v n:Nat)(hv:v<2^n):part (q++(hi v n n++r)) q.length n=v:=by
 rw[KO q r v n hv n (gi _),nE,Nat.pow_zero,Nat.div_one]
theorem ak1(Q:List Bool):∀m p,(∀i,i<m→gX Q (p+i)=0)→gX Q (p+m)=1→p+m<Q.length→Z Q p=p+m
 |0,p,_,h1,hl=>agh h1 hl
 |m+1,p,h0,h1,hl=>by
  have:=h0 0 aa;rw[Lo (by rw[tk]at this;omega) aa,ak1 Q m (p+1) (fun i hi=>aoJ) (by rw[show p+1+m=p+(m+1) by omega];exact h1) aa];omega
theorem anR(n:Nat){j:Nat}(h:j<n):gX (un n) j=0:=by
 rw[un,mU ny];simp[gX,bk,h]
theorem aju(n:Nat):gX (un n) n=1:=by
 have:=ko (List.replicate n false) [true] 0;rw[yd,tk]at this;rw[un,this];rfl
theorem atF(q r:List Bool)(n:Nat):Z (q++(un n++r)) q.length=q.length+n:=by
 refine ak1 _ n _ (fun i hi=>?_) ?_ ?_
 ·rw[ko,mU (by rw[oQ];omega),anR n hi]
 ·rw[ko,mU (by rw[oQ];omega),aju]
 ·simp[oQ];omega
theorem agi(Q:List Bool):∀m p,p+m=Q.length→(∀i,i<m→gX Q (p+i)=0)→Z Q p=Q.length
 |0,p,h,_=>by rw[Xi aa];omega
 |m+1,p,h,h0=>by
  have:=h0 0 aa;rw[Lo (by rw[tk]at this;omega) aa];exact agi Q m (p+1) aa (fun i hi=>aoJ)
def pad(q:List Bool):List Bool:=List.replicate (8*((q.length+7)/8)-q.length) false
theorem w4(q:List Bool):(pad q).length=8*((q.length+7)/8)-q.length:=by simp[pad]
theorem toNat_inj{a b:Bool}(h:a.toNat=b.toNat):a=b:=by cases a<;>cases b<;>simp_all
theorem x6{q:List Bool}{i:Nat}(h:i<q.length):gX q i=(q[i]).toNat:=by simp[gX,bk,h]
theorem qK(q:List Bool):gh (packed q)=q++pad q:=by
 apply pZ
 ·rw[dO,dJ,aY,w4];omega
 ·intro i h1 h2;apply toNat_inj;rw[←x6 h1,←x6 h2];have hl:i<8*(packed q).length:=by rw[dO]at h1;exact h1
  have hl':=hl;rw[dJ]at hl';have hp:((packed q).getD (i/8) 0).toNat=part q (8*(i/8)) 8:=by rw[packed,sj q aa,vf]
  rw[yV _ hl,hp];have e:=pH q (8*(i/8)) (i%8+1) (7-i%8);rw[show i%8+1+(7-i%8)=8 by omega]at e;rw[e,part,show 8*(i/8)+i%8=i by omega];have hb:=rT q i;by_cases hq:i<q.length
  ·rw[mU hq];omega
  ·rw[xA q aa];have:=ko q (pad q) (i-q.length);rw[show q.length+(i-q.length)=i by omega]at this;rw[this,gX];have hz:(pad q).getD (i-q.length) false=false:=by
    rw[pad,bk,IA];split<;>rfl
   rw[hz];simp
theorem ary(q:List Bool):Z (q++pad q) q.length=(q++pad q).length:=by
 refine agi _ (pad q).length _ ak (fun i hi=>?_);rw[ko,gX];have hz:(pad q).getD i false=false:=by
  rw[pad,bk,IA];split<;>rfl
 rw[hz];rfl
abbrev BO:=UInt8×Nat×Int
def enc(x:BO):List Bool:=if x.1.toNat%2=0 then hi x.2.1 x.2.2.toNat x.2.2.toNat else un x.2.2.toNat
def acc(x:BO):Prop:=if x.1.toNat%2=0 then aob x.2.1 x.2.2 else 0≤x.2.2∧x.2.2≤300
theorem qf:type_of% @UInt8.toNat_inj:= @UInt8.toNat_inj
theorem UF(l:al):∀f i j,j<cz l i f→(l.getD (i+j) 0).toNat=0
 |0,i,j,h=>by simp[cz]at h
 |f+1,i,j,h=>by
  rw[cz]at h;split at h
  ·rename_i h0;cases j with
   |zero=>exact h0.2
   |succ j=>
    have:=UF l f (i+1) j aa
    rwa [show i+1+j=i+(j+1) by omega]at this
  ·omega
theorem UE(l:al):∀f i,cz l i f<f→i+cz l i f<l.length→¬(l.getD (i+cz l i f) 0).toNat=0
 |0,i,h,_=>by omega
 |f+1,i,h,h2=>by
  rw[cz]at h h2⊢;split at h
  ·rename_i h0;rw[ao h0]at h2⊢;have:=UE l f (i+1) aa aa
   rwa [show i+1+cz l (i+1) f=i+(cz l (i+1) f+1) by omega]at this
  ·rename_i h0;rw[aw h0]at h2⊢;intro hz;exact h0 ⟨aa,by simpa using hz⟩
theorem Pg(l:al)(i:Nat):∀m,i+m≤l.length→(∀j,j<m→(l.getD (i+j) 0).toNat=0)→l.take (i+m)=l.take i++List.replicate m 0
 |0,_,_=>by simp
 |m+1,h,hz=>by
  have h0:l.getD (i+m) 0=0:=by
   have:=hz m aa;exact qf.1 (by simpa using this)
  rw[←NM,ba aa 0,Pg l i m aa (fun j hj=>hz j aa),h0,List.replicate_succ',bV]
theorem got(q pre r:List Bool)(v:Nat){n:Nat}(hn:n≤64)(hv:v<2^n)(hq:q=pre++(hi v n n++r)):r_ q pre.length n=0∧oK q pre.length n=v∧iE q pre.length n=(pre++hi v n n).length:=by
 have hl:pre.length+n≤q.length:=by rw[hq];simp[dM]
 have hp:=EU pre r v n hv;rw[←hq]at hp;unfold r_ oK iE;rw[aw aa,aw aa,aw aa,aw aa,aw aa,aw aa,nH,hp];exact⟨rfl,rfl,by simp[dM]⟩
theorem back(l:al)(hg:Good l)(r:List Bool):∀n i f (pre:List Bool) s q,l.length-i≤n→i≤l.length→q=pre++(ik l i++r)→l.length≤i+f→(s=true→i<l.length→¬(l.getD i 0).toNat=0)→
  lL q l.length f pre.length (l.take i) s=(l,0,(pre++ik l i).length):=by
 intro n;induction n with
 |zero=>
  intro i f pre s q h1 h2 hq hf hs;have he:i=l.length:=by omega
  subst he;have:=Wg (q:=q) (N:=l.length) (f:=f) (p:=pre.length) (acc:=l.take l.length) (s:=s) rfl ak;rw[this,jS,fin,ao hg,xQ aa,gj]
 |succ n ih=>
  intro i f pre s q h1 h2 hq hf hs;by_cases hil:i<l.length
  ·obtain⟨f',rfl⟩:∃f',f=f'+1:=⟨f-1,aa⟩
   have fN:(l.take i).length<l.length:=by rw[eS];omega
   have hu:=hg.1.2 _ (bg (k:=i) hil 0);by_cases h0:(l.getD i 0).toNat=0
   ·obtain⟨m,hm⟩:∃m,cz l (i+1) 63=m:=⟨_,rfl⟩
    have aqt:=abM l 63 (i+1);have hmi:=aj6 l 63 (i+1) aa;have sQ:=UE l 63 (i+1);have hzz:=UF l 63 (i+1);rw[hm]at aqt hmi sQ hzz;have hen:=DS hil h0 hm;rw[hen,bV,bV]at hq;obtain⟨a1,a2,a3⟩:=got q pre _ 0 (n:=4) aa aa hq;have RI:q=(pre++hi 0 4 4)++(hi m 6 6++(ik l (i+1+m)++r)):=by rw[hq,bV]
    obtain⟨b1,b2,b3⟩:=got q (pre++hi 0 4 4) _ m (n:=6) aa aa RI;have a1':r_ q pre.length 4=0:=a1;have a2':oK q pre.length 4=0:=a2;have a3':iE q pre.length 4=(pre++hi 0 4 4).length:=a3;have b1':r_ q (pre++hi 0 4 4).length 6=0:=b1;have b2':oK q (pre++hi 0 4 4).length 6=m:=b2;have b3':iE q (pre++hi 0 4 4).length 6=(pre++hi 0 4 4++hi m 6 6).length:=b3;have hsf:¬(s=true∨l.length≤(l.take i).length+oK q (iE q pre.length 4) 6):=by
     rw[a3',b2',eS];rintro(h|h)
     ·exact hs h hil h0
     ·omega
    have th:=Wi (q:=q) (N:=l.length) (f:=f') (p:=pre.length) (acc:=l.take i) (s:=s) rfl fN a1' a2' (by rw[a3'];exact b1') hsf;rw[←th,a3',b2',b3'];have ua:l.take i++List.replicate (m+1) 0=l.take (i+1+m):=by
     rw[show i+1+m=i+(m+1) by omega,Pg l i (m+1) aa (fun j hj=>?_)];cases j with
     |zero=>exact h0
     |succ j=>rw[show i+(j+1)=i+1+j by omega];exact hzz j aa
    rw[ua];have hq3:q=(pre++hi 0 4 4++hi m 6 6)++(ik l (i+1+m)++r):=by rw[RI];simp[bV]
    have:=ih (i+1+m) f' (pre++hi 0 4 4++hi m 6 6) (decide (((m:Nat):Int)+1<64)) q aa aa hq3 aa (fun hd hl=>sQ (by have:=zW hd;omega) hl);rw[this,hen];simp[bV]
   ·have hen:=DR hil h0;rw[hen,bV]at hq;obtain⟨a1,a2,a3⟩:=got q pre _ (l.getD i 0).toNat (n:=4) aa aa hq;have a1':r_ q pre.length 4=0:=a1;have a2':oK q pre.length 4=(l.getD i 0).toNat:=a2;have a3':iE q pre.length 4=(pre++hi (l.getD i 0).toNat 4 4).length:=a3;have th:=Wh (q:=q) (N:=l.length) (f:=f') (p:=pre.length) (acc:=l.take i) (s:=s) rfl fN a1' (by rw[a2'];exact h0);rw[←th,a2',a3'];have ua:l.take i++[UInt8.ofNat (l.getD i 0).toNat]=l.take (i+1):=by
     rw[ba hil 0,UInt8.ofNat_toNat]
    rw[ua];have hq3:q=(pre++hi (l.getD i 0).toNat 4 4)++(ik l (i+1)++r):=by rw[hq];simp[bV]
    have:=ih (i+1) f' (pre++hi (l.getD i 0).toNat 4 4) false q aa aa hq3 aa (fun h=>kl);rw[this,hen];simp[bV]
  ·exact ih i f pre s q aa h2 hq hf hs
theorem cY{P:Prop}(h:P:=by(simp only;omega)):P:=h
theorem Es:type_of% @List.filter_append:= @List.filter_append
theorem ud:type_of% @List.filter_cons:= @List.filter_cons
theorem BC:type_of% @List.mem_filter:= @List.mem_filter
def jh(l:al)(s k:Nat):bf:=(List.range s).filter fun i=>(l.getD i 0).toNat==k
def lf(l:al)(k:Nat):bf:=jh l l.length k
theorem nh(l:al)(s k:Nat):jh l (s+1) k=jh l s k++(if (l.getD s 0).toNat=k then [s] else []):=by
 unfold jh;rw[lq,Es];congr 1;rw[ud,List.filter_nil];by_cases h:(l.getD s 0).toNat=k
 ·rw[ao h,ao ny]
 ·rw[aw h,aw ny]
theorem vq(l:al)(k:Nat):∀s,s≤l.length→(jh l s k).length=num (l.take s) k
 |0,_=>by simp[jh,num]
 |s+1,h=>by
  rw[nh,aY,vq l k s aa,jP k aa];split<;>simp
theorem FA(l:al)(k:Nat):(lf l k).length=num l k:=by
 unfold lf;rw[vq l k _ (gi _),jS]
theorem FC(l:al)(k s:Nat):∀d,∃r,jh l (s+d) k=jh l s k++r
 |0=>⟨[],ak⟩
 |d+1=>by
  obtain⟨r,hr⟩:=FC l k s d;exact⟨_,by rw[←NM,nh,hr,bV]⟩
theorem S1{l:al}{s k:Nat}(hs:s<l.length)(h:(l.getD s 0).toNat=k):(lf l k).getD (num (l.take s) k) 0=s:=by
 obtain⟨r,hr⟩:=FC l k (s+1) (l.length-(s+1));rw[show s+1+(l.length-(s+1))=l.length by omega]at hr;unfold lf;have hl:=vq l k s aa;rw[hr,nh,ao h,←hl];simp[bk]
theorem afb{l:al}{s k i:Nat}(h:i∈jh l s k):i<s∧(l.getD i 0).toNat=k:=by
 unfold jh at h;obtain⟨h1,h2⟩:=BC.1 h;exact⟨kB.1 h1,oS⟩
def oz(l:al)(k:Nat):Nat:=if num l k=0 then 0 else fst l k
def nC(l:al)(x k:Nat):Option Nat:=if oz l k≤x∧x<oz l k+num l k then some ((lf l k).getD (x-oz l k) 0) else none
def vW(l:al)(x k:Nat):Nat→Nat→Bool
 |0,_=>false
 |f+1,j=>if 15<j then false else if 0<num l j∧x*2^(j-k)<oz l j+num l j∧oz l j<x*2^(j-k)+2^(j-k) then true else vW l x k f (j+1)
def acF(l:al)(x k:Nat):Bool:=vW l x k 15 (k+1)
def nD(l:al)(q:List Bool)(p n:Nat):Nat→Nat→Option (Nat×Nat)
 |0,_=>none
 |f+1,k=>if n<k then none else match nC l (part q p k) k with
  |some s=>some (s,k)
  |none=>nD l q p n f (k+1)
def there(q:List Bool)(p:Nat):Nat:=min 15 (q.length-p)
def fz(l:al)(q:List Bool)(p:Nat):Int×Int×Nat:=
 match nD l q p (there q p) 15 1 with
 |some (s,k)=>(s,0,p+k)
 |none=>(-1,if there q p<15∧acF l (part q p (there q p)) (there q p)=true then 1 else 7,p)
def hw(l:al)(s:Nat):List Bool:=hi (place l (l.getD s 0).toNat s) (l.getD s 0).toNat (l.getD s 0).toNat
theorem m8(l:al)(s:Nat):(hw l s).length=(l.getD s 0).toNat:=dM _ _ _
theorem acP{l:al}{x k s:Nat}(h:nC l x k=some s):s<l.length∧(l.getD s 0).toNat=k:=by
 unfold nC at h;split at h
 ·rename_i hc;injection h with h;have hl:=FA l k;have hm:(lf l k).getD (x-oz l k) 0∈lf l k:=bg aa 0;rw[h]at hm;exact afb hm
 ·cases h
theorem Nw{l:al}{q:List Bool}{p n s k:Nat}:∀(f j:Nat),nD l q p n f j=some (s,k)→j≤k∧k≤n∧nC l (part q p k) k=some s
 |0,j,h=>by cases h
 |f+1,j,h=>by
  unfold nD at h;split at h
  ·cases h
  ·split at h
   ·rename_i s' Bz;injection h with h;injection h with h1 h2;subst h1;subst h2;exact⟨gi _,aa,Bz⟩
   ·obtain⟨h1,h2,h3⟩:=Nw f (j+1) h;exact⟨aa,h2,h3⟩
theorem u9(l:al)(q:List Bool){p:Nat}(hp:p≤q.length):p≤(fz l q p).2.2∧(fz l q p).2.2≤q.length∧((fz l q p).2.1=0→∃s:Nat,(fz l q p).1=s∧s<l.length∧p<(fz l q p).2.2)∧0≤(fz l q p).2.1∧(fz l q p).2.1≤7:=by
 unfold fz;split
 ·rename_i s k h;obtain⟨h1,h2,h3⟩:=Nw _ _ h;have h4:=(acP h3).1;unfold there at h2;exact⟨cY,cY,fun _=>⟨s,rfl,h4,cY⟩,cY,cY⟩
 ·refine⟨gi _,hp,fun h=>?_,?_,?_⟩
  ·simp only at h;split at h<;>omega
  ·simp only;split<;>omega
  ·simp only;split<;>omega
theorem Ip{l:al}{q:List Bool}{p n s k:Nat}(hk:k≤n)(hf:nC l (part q p k) k=some s)(hn:∀j,1≤j→j<k→nC l (part q p j) j=none):∀(f j:Nat),1≤j→j≤k→k-j<f→nD l q p n f j=some (s,k)
 |0,j,_,_,h=>by omega
 |f+1,j,h1,h2,h3=>by
  unfold nD;rw[aw aa];by_cases e:j=k
  ·subst e;rw[hf]
  ·rw[hn j h1 aa];exact Ip hk hf hn f (j+1) aa aa aa
theorem x8{l:al}(hg:Good l){s:Nat}(hs:s<l.length)(h0:(l.getD s 0).toNat≠0)(pre r:List Bool){q:List Bool}(hq:q=pre++(hw l s++r)):
  fz l q pre.length=((s:Int),0,(pre++hw l s).length):=by
 obtain⟨k,hk⟩:=cK ((l.getD s 0).toNat);have YG:k≤15:=by rw[hk];exact hg.1.2 _ (bg hs 0)
 have hw1:hw l s=hi (place l k s) k k:=by unfold hw;rw[←hk]
 have mN:=yG hs hk.symm;have hpg:=ael l k s;have hb:=qX hg (k:=k) aa YG;have asR:¬num l k=0:=by
  unfold place at mN hpg;omega
 rw[hw1]at hq;have ra:∀j,j≤k→part q pre.length j=place l k s/2^(k-j):=fun j hj=>by rw[hq];exact KO pre r _ k aa j hj
 have as3:=S1 hs hk.symm;have hfk:nC l (part q pre.length k) k=some s:=by
  have e1:part q pre.length k=place l k s:=by rw[ra k (gi _),nE,Nat.pow_zero,Nat.div_one]
  have e2:oz l k=fst l k:=aw asR;unfold nC;rw[e1,e2,ao ⟨hpg,aa⟩,show place l k s-fst l k=num (l.take s) k by unfold place;omega,as3]
 have hfj:∀j,1≤j→j<k→nC l (part q pre.length j) j=none:=fun j h1 h2=>by
  unfold nC;refine aw fun hc=>?_;rw[ra j aa]at hc;by_cases hz:num l j=0
  ·omega
  ·have e2:oz l j=fst l j:=aw hz;rw[e2]at hc;have ahE:=U0 l h1 (k-j) aa;rw[show j+(k-j)=k by omega]at ahE;have:=(Nat.le_div_iff_mul_le (v_ (k-j))).2 (jc ahE hpg);omega
 have hlen:pre.length+k≤q.length:=by rw[hq];simp[dM]
 have:=Ip (n:=there q pre.length) (by unfold there;omega) hfk hfj 15 1 (gi _) aa aa;unfold fz;rw[this,hw1,aY,dM]
theorem kU{P:Prop}(h:P:=by(rw[iG];omega)):P:=h
theorem nx{P:Prop}(h:P:=by(rw[eS];omega)):P:=h
theorem vP{P:Prop}(h:P:=by(simp[hz])):P:=h
theorem C8{P:Prop}(h:P:=by(simpa using hi)):P:=h
theorem vQ{P:Prop}(h:P:=by(simp[hy])):P:=h
theorem Vy:type_of% @List.pairwise_singleton:= @List.pairwise_singleton
theorem Et:type_of% @List.nodup_cons:= @List.nodup_cons
theorem IB:type_of% @List.drop_eq_nil_of_le:= @List.drop_eq_nil_of_le
theorem NT:type_of% @List.countP_eq_length:= @List.countP_eq_length
theorem BE:type_of% @List.getD_cons_succ:= @List.getD_cons_succ
theorem j0:type_of% @List.getElem_of_mem:= @List.getElem_of_mem
theorem Eu:type_of% @List.getElem_take:= @List.getElem_take
theorem rj:type_of% @List.pairwise_iff_getElem:= @List.pairwise_iff_getElem
theorem j8:type_of% @Nat.succ_mul:= @Nat.succ_mul
theorem ue:type_of% @Nat.mul_add:= @Nat.mul_add
theorem BF:type_of% @List.getElem?_set:= @List.getElem?_set
theorem BG:type_of% @List.length_filter_le:= @List.length_filter_le
theorem jq:type_of% @List.getElem?_map:= @List.getElem?_map
theorem ye:type_of% @List.getElem?_range:= @List.getElem?_range
theorem NU:type_of% @List.set_cons_succ:= @List.set_cons_succ
def tD(o:Nat→Nat)(a b:Nat):Prop:=o a<o b∨o a=o b∧a<b
theorem wZ(o:Nat→Nat)(a:Nat):¬tD o a a:=fun h=>h.elim (fun h=>Nat.lt_irrefl _ h) fun h=>Nat.lt_irrefl _ h.2
theorem rr{o:Nat→Nat}{a b c:Nat}(h1:tD o a b)(h2:tD o b c):tD o a c:=by unfold tD at*;omega
theorem Zi(o:Nat→Nat)(a b:Nat):tD o a b∨a=b∨tD o b a:=by unfold tD;omega
abbrev tA(o:Nat→Nat)(l:bf):Prop:=l.Pairwise (tD o)
theorem tA.ext{o:Nat→Nat}:∀{a b:bf},tA o a→tA o b→(∀x,x∈a↔x∈b)→a=b
 |[],[],_,_,_=>rfl
 |[],y::b,_,_,h=>absurd ((h y).2 ak) ak
 |x::a,[],_,_,h=>absurd ((h x).1 ak) ak
 |x::a,y::b,ha,hb,h=>by
  obtain⟨ha1,ha2⟩:=kE.1 ha;obtain⟨qd,oL⟩:=kE.1 hb;have Vp:x=y:=by
   rcases fk.1 ((h x).1 ak)with e|e
   ·exact e
   ·rcases fk.1 ((h y).2 ak)with e2|e2
    ·exact e2.symm
    ·exact absurd (rr (ha1 y e2) (qd x e)) (wZ _ _)
  subst Vp;congr 1;refine tA.ext ha2 oL fun z=>⟨fun hz=>?_,fun hz=>?_⟩
  ·rcases fk.1 ((h z).1 (lr _ hz))with e|e
   ·subst e;exact absurd (ha1 _ hz) (wZ _ _)
   ·exact e
  ·rcases fk.1 ((h z).2 (lr _ hz))with e|e
   ·subst e;exact absurd (qd _ hz) (wZ _ _)
   ·exact e
instance (o:Nat→Nat)(a b:Nat):Decidable (tD o a b):=inferInstanceAs (Decidable (_∨_))
def YQ(o:Nat→Nat)(x:Nat):bf→bf
 |[]=>[x]
 |y::r=>if tD o x y then x::y::r else y::YQ o x r
def cU(o:Nat→Nat):bf→bf
 |[]=>[]
 |x::r=>YQ o x (cU o r)
theorem zR(o:Nat→Nat)(x:Nat):∀l,(YQ o x l).Perm (x::l)
 |[]=>.refl _
 |y::r=>by
  unfold YQ;split
  ·exact .refl _
  ·exact((zR o x r).cons y).trans (.swap x y r)
theorem gC(o:Nat→Nat):∀l,(cU o l).Perm l
 |[]=>.refl _
 |x::r=>(zR o x _).trans ((gC o r).cons x)
theorem Vv{o:Nat→Nat}{x:Nat}:∀{l:bf},tA o l→x∉l→tA o (YQ o x l)
 |[],_,_=>Vy _ _
 |y::r,h,hx=>by
  obtain⟨h1,h2⟩:=kE.1 h;unfold YQ;split
  ·rename_i Vp;exact kE.2 ⟨fun z hz=>(fk.1 hz).elim (fun e=>e▸Vp) fun hz=>rr Vp (h1 z hz),h⟩
  ·rename_i Vp;refine kE.2 ⟨fun z hz=>?_,Vv h2 fun hz=>hx (lr _ hz)⟩;rcases fk.1 ((zR o x r).mem_iff.1 hz)with e|e
   ·subst e;rcases Zi o z y with k|k|k
    ·exact absurd k Vp
    ·exact absurd (k▸rn ..) hx
    ·exact k
   ·exact h1 z e
theorem lA(o:Nat→Nat):∀{l:bf},l.Nodup→tA o (cU o l)
 |[],_=>List.Pairwise.nil
 |x::r,h=>by
  obtain⟨h1,h2⟩:=Et.1 h;exact Vv (lA o h2) fun hx=>h1 ((gC o r).mem_iff.1 hx)
abbrev cv:=Nat×Bool
def pF(leaf row:List cv):Nat→Nat→Nat→List cv
 |0,_,_=>[]
 |f+1,i,k=>
  if row.length≤k+1 then (if i<leaf.length then leaf.getD i (0,false)::pF leaf row f (i+1) k else [])
  else if i<leaf.length∧(leaf.getD i (0,false)).1≤(row.getD k (0,false)).1+(row.getD (k+1) (0,false)).1 then leaf.getD i (0,false)::pF leaf row f (i+1) k
  else ((row.getD k (0,false)).1+(row.getD (k+1) (0,false)).1,false)::pF leaf row f i (k+2)
def uz(leaf row:List cv):List cv:=pF leaf row (leaf.length+row.length) 0 0
def E1:List cv→List cv
 |[]=>[]
 |[_]=>[]
 |a::b::r=>(a.1+b.1,false)::E1 r
def vK:List cv→List cv→List cv
 |[],ys=>ys
 |x::xs,[]=>x::xs
 |x::xs,y::ys=>if x.1≤y.1 then x::vK xs (y::ys) else y::vK (x::xs) ys
theorem CF(xs:List cv):vK xs []=xs:=by cases xs<;>rw[vK]
theorem EL(ys:List cv):vK [] ys=ys:=by rw[vK]
theorem IY{l:List cv}(h:l.length≤1):E1 l=[]:=by
 match l,h with
 |[],_=>rfl
 |[_],_=>rfl
theorem u_(leaf row:List cv):∀(f i k:Nat),i≤leaf.length→k≤row.length→leaf.length-i+(row.length-k)≤f→pF leaf row f i k=vK (leaf.drop i) (E1 (row.drop k))
 |0,i,k,h1,h2,h3=>by
  rw[IB aa,IB aa,EL];rfl
 |f+1,i,k,h1,h2,h3=>by
  unfold pF;split
  ·rename_i hr;rw[IY kU,CF];split
   ·rename_i hi;rw[u_ leaf row f (i+1) k aa h2 aa,IY kU,CF,dx hi (0,false)]
   ·rw[IB aa]
  ·rename_i hr;have e:E1 (row.drop k)=((row.getD k (0,false)).1+(row.getD (k+1) (0,false)).1,false)::E1 (row.drop (k+2)):=by
    rw[dx (by omega:k<row.length) (0,false),dx (by omega:k+1<row.length) (0,false),E1]
   rw[e];split
   ·rename_i hc;rw[dx hc.1 (0,false),vK,ao hc.2,u_ leaf row f (i+1) k aa h2 aa,e]
   ·rename_i hc;rw[u_ leaf row f i (k+2) h1 aa aa];by_cases hi:i<leaf.length
    ·rw[dx hi (0,false),vK,aw fun h=>hc ⟨hi,h⟩]
    ·rw[IB aa,EL,EL]
theorem vd(leaf row:List cv):uz leaf row=vK leaf (E1 row):=by
 unfold uz;rw[u_ leaf row _ 0 0 (bS _) (bS _) aa];rfl
theorem KG:∀xs ys:List cv,(vK xs ys).length=xs.length+ys.length
 |[],ys=>by simp[vK]
 |x::xs,[]=>by simp[vK]
 |x::xs,y::ys=>by
  rw[vK];split
  ·rw[ef,KG xs (y::ys)];simp;omega
  ·rw[ef,KG (x::xs) ys];simp;omega
theorem KP:∀l:List cv,(E1 l).length=l.length/2
 |[]=>rfl
 |[_]=>by simp[E1]
 |a::b::r=>by simp only[E1,ef,KP r];omega
theorem yz{z:cv}:∀{xs ys:List cv},z∈vK xs ys→z∈xs∨z∈ys
 |[],ys,h=>.inr (by rwa [EL]at h)
 |x::xs,[],h=>.inl (by rwa [CF]at h)
 |x::xs,y::ys,h=>by
  rw[vK]at h;split at h
  ·rcases fk.1 h with e|e
   ·exact .inl (by simp[e])
   ·rcases yz e with k|k
    ·exact .inl (lr _ k)
    ·exact .inr k
  ·rcases fk.1 h with e|e
   ·exact .inr (by simp[e])
   ·rcases yz e with k|k
    ·exact .inl k
    ·exact .inr (lr _ k)
abbrev Wt(l:List cv):Prop:=l.Pairwise fun a b=>a.1≤b.1
theorem Wb{z:cv}{W:Nat}:∀{l:List cv},(∀x∈l,x.1≤W)→z∈E1 l→z.1≤2*W∧z.2=false
 |[],_,h=>by cases h
 |[_],_,h=>by cases h
 |a::b::r,hw,h=>by
  rw[E1]at h;rcases fk.1 h with e|e
  ·have h1:=hw a ak;have h2:=hw b ak;subst e;exact⟨cY,rfl⟩
  ·exact Wb (fun x hx=>hw x oe) e
theorem OK{a:Nat}:∀{l:List cv},Wt l→(∀x∈l,a≤2*x.1)→∀z∈E1 l,a≤z.1
 |[],_,_,z,h=>by cases h
 |[_],_,_,z,h=>by cases h
 |x::y::r,hw,ha,z,h=>by
  rw[E1]at h;rcases fk.1 h with e|e
  ·have h1:=ha x ak;have h2:=ha y ak;subst e;simp only;omega
  ·obtain⟨_,h2⟩:=kE.1 hw;obtain⟨_,h3⟩:=kE.1 h2;exact OK h3 (fun q hq=>ha q (by simp[hq])) z e
theorem aeo:∀{l:List cv},Wt l→Wt (E1 l)
 |[],_=>List.Pairwise.nil
 |[_],_=>List.Pairwise.nil
 |a::b::r,h=>by
  obtain⟨h1,h2⟩:=kE.1 h;obtain⟨h3,h4⟩:=kE.1 h2;refine kE.2 ⟨fun z hz=>?_,aeo h4⟩;have hab:=h1 b ak;exact OK h4 (fun x hx=>by
   have:=h3 x hx;have:a.1+b.1≤2*x.1:=by omega
   exact this) z hz
theorem Sj:∀{xs ys:List cv},Wt xs→Wt ys→Wt (vK xs ys)
 |[],ys,_,h=>by rwa [EL]
 |x::xs,[],h,_=>by rwa [CF]
 |x::xs,y::ys,hx,hy=>by
  obtain⟨h1,h2⟩:=kE.1 hx;obtain⟨h3,h4⟩:=kE.1 hy;rw[vK];split
  ·rename_i hc;refine kE.2 ⟨fun z hz=>?_,Sj h2 hy⟩;rcases yz hz with e|e
   ·exact h1 z e
   ·rcases fk.1 e with e|e
    ·subst e;exact hc
    ·have:=h3 z e;omega
  ·rename_i hc;refine kE.2 ⟨fun z hz=>?_,Sj hx h4⟩;rcases yz hz with e|e
   ·rcases fk.1 e with e|e
    ·subst e;omega
    ·have:=h1 z e;omega
   ·exact h3 z e
def gH(row:List cv)(t:Nat):Nat:=(row.take t).countP (·.2)
theorem Us(row:List cv)(t:Nat):gH row t≤t:=jc ado nx
theorem lQ(x:cv)(r:List cv)(t:Nat):gH (x::r) (t+1)=(if x.2 then 1 else 0)+gH r t:=by
 unfold gH;rw[rh,N6];omega
def aod(leaf row:List cv):Prop:=Wt row∧∀t,(row.take t).filter (·.2)=leaf.take (gH row t)
theorem EK:∀{xs ys:List cv},(∀x∈xs,x.2=true)→(∀y∈ys,y.2=false)→∀t,((vK xs ys).take t).filter (·.2)=xs.take (gH (vK xs ys) t)
 |[],ys,_,hy,t=>by
  rw[vK,List.take_nil];exact List.filter_eq_nil_iff.2 fun z hz=>by simp[hy z (l6 hz)]
 |x::xs,[],hx,_,t=>by
  rw[vK];have:∀z∈(x::xs).take t,z.2=true:=fun z hz=>hx z (l6 hz);rw[List.filter_eq_self.2 this];have e:gH (x::xs) t=min t (x::xs).length:=by
   unfold gH;rw[NT.2 this,eS]
  rw[e,List.take_eq_take_iff];omega
 |x::xs,y::ys,hx,hy,t=>by
  cases t with
  |zero=>simp[gH]
  |succ t=>
   have LG:=hx x ak;have NG:=hy y ak;rw[vK];split
   ·rw[lQ,LG,rh,ud,ao (by simpa using LG),EK (fun z hz=>hx z vP) hy t,ao rfl,sT,rh]
   ·rw[lQ,NG,rh,ud,aw (by simp[NG]),EK hx (fun z hz=>hy z vP) t,aw ak,mw]
theorem Av:∀{xs ys:List cv},(∀x∈xs,x.2=true)→(∀y∈ys,y.2=false)→∀t,t≤(vK xs ys).length→t-gH (vK xs ys) t≤ys.length
 |[],ys,_,hy,t,h=>by rw[vK]at h⊢;omega
 |x::xs,[],hx,_,t,h=>by
  rw[vK]at h⊢;have e:gH (x::xs) t=min t (x::xs).length:=by
   unfold gH;rw[NT.2 (fun z hz=>hx z (l6 hz)),eS]
  rw[e];omega
 |x::xs,y::ys,hx,hy,t,h=>by
  cases t with
  |zero=>omega
  |succ t=>
   have LG:=hx x ak;have NG:=hy y ak;rw[vK]at h⊢;split
   ·rename_i hc;rw[ao hc,ef]at h;have:=Av (xs:=xs) (ys:=y::ys) (fun z hz=>hx z vP) hy t aa;rw[lQ,LG,ao rfl];omega
   ·rename_i hc;rw[aw hc,ef]at h;have:=Av (xs:=x::xs) (ys:=ys) hx (fun z hz=>hy z vP) t aa;rw[lQ,NG,aw ak,ef];omega
theorem Aw:∀{xs ys:List cv},Wt xs→(∀x∈xs,x.2=true)→(∀y∈ys,y.2=false)→∀t p,t≤(vK xs ys).length→t-gH (vK xs ys) t=p+1→∀i,i<xs.length→(xs.getD i (0,false)).1≤(ys.getD p (0,false)).1→i<gH (vK xs ys) t
 |[],ys,_,_,hy,t,p,h,hp,i,hi,_=>by simp at hi
 |x::xs,[],_,hx,_,t,p,h,hp,i,hi,_=>by
  rw[vK]at h hp;have e:gH (x::xs) t=min t (x::xs).length:=by
   unfold gH;rw[NT.2 (fun z hz=>hx z (l6 hz)),eS]
  rw[e]at hp;omega
 |x::xs,y::ys,hw,hx,hy,t,p,h,hp,i,hi,hle=>by
  cases t with
  |zero=>omega
  |succ t=>
   have LG:=hx x ak;have NG:=hy y ak;obtain⟨hw1,hw2⟩:=kE.1 hw;rw[vK]at h hp⊢;split
   ·rename_i hc;rw[ao hc,ef]at h;rw[ao hc,lQ,LG,ao rfl]at hp;rw[lQ,LG,ao rfl];cases i with
    |zero=>omega
    |succ i=>
     have:=Aw (xs:=xs) (ys:=y::ys) hw2 (fun z hz=>hx z vP) hy t p aa aa i C8 (by simpa using hle);omega
   ·rename_i hc;rw[aw hc,ef]at h;rw[aw hc,lQ,NG,aw ak]at hp;rw[lQ,NG,aw ak,mw];cases p with
    |zero=>
     have h1:x.1≤((x::xs).getD i (0,false)).1:=by
      cases i with
      |zero=>simp
      |succ i=>
       have:=hw1 _ (bg (l:=xs) (k:=i) C8 (0,false));simpa using this
     simp only[List.getD_cons_zero]at hle;omega
    |succ p=>
     exact Aw (xs:=x::xs) (ys:=ys) hw hx (fun z hz=>hy z vP) t p aa aa i hi (by simpa using hle)
def dS(leaf:List cv):Nat→List cv
 |0=>leaf
 |r+1=>uz leaf (dS leaf r)
theorem yI:∀{l:List cv} {y:cv},y∈E1 l→y.2=false
 |[],_,h=>by cases h
 |[_],_,h=>by cases h
 |a::b::r,y,h=>by
  rw[E1]at h;rcases fk.1 h with e|e
  ·subst e;rfl
  ·exact yI e
theorem Wa:∀{l:List cv} {p:Nat},p<(E1 l).length→(E1 l).getD p (0,false)=((l.getD (2*p) (0,false)).1+(l.getD (2*p+1) (0,false)).1,false)
 |[],p,h=>by simp[E1]at h
 |[_],p,h=>by simp[E1]at h
 |a::b::r,0,_=>rfl
 |a::b::r,p+1,h=>by
  rw[E1,BE,Wa (by simpa[E1]using h),show 2*(p+1)=2*p+1+1 by omega,BE,BE,BE,BE]
theorem ajD{l:List cv}(h:Wt l){m:Nat}(hm:m<l.length){z:cv}(hz:z∈l.take (m+1)):z.1≤(l.getD m (0,false)).1:=by
 obtain⟨i,hi,rfl⟩:=j0 hz;rw[eS]at hi;rw[Eu,bk,fm hm,vI];by_cases e:i=m
 ·subst e;exact gi _
 ·exact rj.1 h i m aa hm aa
theorem KT{leaf:List cv}(hl:∀x∈leaf,x.2=true)(hw:Wt leaf):∀r,aod leaf (dS leaf r)
 |0=>⟨hw,fun t=>by
  have:∀z∈leaf.take t,z.2=true:=fun z hz=>hl z (l6 hz);have e:gH leaf t=min t leaf.length:=by
   unfold gH;rw[NT.2 this,eS]
  rw[dS,List.filter_eq_self.2 this,e,List.take_eq_take_iff];omega⟩
 |r+1=>by
  have ih:=KT hl hw r;rw[dS,vd];exact⟨Sj hw (aeo ih.1),EK hl (fun y hy=>yI hy)⟩
theorem aeD{leaf:List cv}(hl:∀x∈leaf,x.2=true)(hw:Wt leaf){r t n:Nat}(ht:t≤(dS leaf (r+1)).length)(hn:n=gH (dS leaf (r+1)) t):
  2*(t-n)≤(dS leaf r).length∧gH (dS leaf r) (2*(t-n))≤n:=by
 obtain⟨h1,h2⟩:=KT hl hw r;rw[dS,vd]at ht hn;have hp:=Av hl (fun y hy=>yI (l:=dS leaf r) hy) t ht;rw[←hn]at hp;have mN:=KP (dS leaf r);refine⟨aa,?_⟩;cases hpp:t-n with
 |zero=>simp[gH]
 |succ p=>
  obtain⟨m,hm⟩:=cK (gH (dS leaf r) (2*(p+1)));rw[←hm];cases m with
  |zero=>omega
  |succ m=>
   have hf:=h2 (2*(p+1));rw[←hm]at hf;have hlen:(leaf.take (m+1)).length=m+1:=by rw[←hf,←List.countP_eq_length_filter];exact hm.symm
   rw[eS]at hlen;have y':m<leaf.length:=by omega
   have pW:leaf.getD m (0,false)∈leaf.take (m+1):=by rw[ba y' (0,false)];simp
   rw[←hf]at pW;have YF:=(BC.1 pW).1;rw[show 2*(p+1)=(2*p+1)+1 by omega]at YF;have hle:=ajD h1 (m:=2*p+1) aa YF;have hg:=Wa (l:=dS leaf r) (p:=p) aa;have:=Aw hw hl (fun y hy=>yI (l:=dS leaf r) hy) t p ht (by rw[←hn];exact hpp) m y' (by rw[hg];simp only;omega);omega
def CI(leaf:List cv):Nat→Nat→bf
 |0,_=>[]
 |r+1,t=>gH (dS leaf r) t::CI leaf r (2*(t-gH (dS leaf r) t))
def mR(leaf:List cv):Nat→Nat→Nat→Prop
 |0,t,_=>t=0
 |r+1,t,M=>t≤(dS leaf r).length∧gH (dS leaf r) t≤M
theorem mR.step{leaf:List cv}(hl:∀x∈leaf,x.2=true)(hw:Wt leaf){r t M:Nat}(h:mR leaf (r+1) t M):mR leaf r (2*(t-gH (dS leaf r) t)) (gH (dS leaf r) t):=by
 cases r with
 |zero=>
  obtain⟨h1,h2⟩:=h;have e:gH leaf t=min t leaf.length:=by
   unfold gH;rw[NT.2 (fun z hz=>hl z (l6 hz)),eS]
  show 2*(t-gH leaf t)=0;have Rc:t≤leaf.length:=h1;rw[e];omega
 |succ r=>exact aeD hl hw h.1 rfl
theorem Sn{leaf:List cv}(hl:∀x∈leaf,x.2=true)(hw:Wt leaf):∀(R t M:Nat),mR leaf R t M→∀n∈CI leaf R t,n≤M
 |0,_,_,_,n,hn=>by cases hn
 |r+1,t,M,h,n,hn=>by
  rcases fk.1 hn with e|e
  ·subst e;exact h.2
  ·exact jc (Sn hl hw r _ _ (h.step hl hw) n e) h.2
def MJ(ns:bf)(j:Nat):Nat:=ns.countP fun n=>decide (j<n)
theorem Dw(n:Nat)(ns:bf)(j:Nat):MJ (n::ns) j=MJ ns j+if j<n then 1 else 0:=by
 unfold MJ;rw[N6];simp
theorem abO{ns:bf}{M j:Nat}(h:∀n∈ns,n≤M)(hj:M≤j):MJ ns j=0:=by
 unfold MJ;refine List.countP_eq_zero.2 fun n hn=>?_;have:=h n hn;simp;omega
theorem alD(ns:bf)(j:Nat):MJ ns j≤ns.length:=ado
theorem V3(leaf:List cv):∀R t,(CI leaf R t).length=R
 |0,_=>rfl
 |r+1,t=>by rw[CI,ef,V3 leaf r]
def nP(f:Nat→Nat):Nat→Nat
 |0=>0
 |m+1=>nP f m+f m
theorem pL{f g:Nat→Nat}:∀{m:Nat},(∀j,j<m→f j=g j)→nP f m=nP g m
 |0,_=>rfl
 |m+1,h=>by rw[nP,nP,pL fun j hj=>h j aa,h m aa]
theorem AW{f:Nat→Nat}{n c:Nat}:∀d,(∀j,n≤j→j<n+d→f j=c)→nP f (n+d)=nP f n+d*c
 |0,_=>by simp
 |d+1,h=>by
  rw[←NM,nP,AW d (fun j h1 h2=>h j h1 aa),h (n+d) aa aa,j8];omega
theorem ae5{leaf:List cv}(hl:∀x∈leaf,x.2=true)(hw:Wt leaf):∀(R t M:Nat),mR leaf R t M→2*nP (fun j=>2^(R-MJ (CI leaf R t) j)) M+t*2^R=2*M*2^R
 |0,t,M,h=>by
  have h0:t=0:=h;have:=AW (f:=fun j=>2^(0-MJ (CI leaf 0 t) j)) (n:=0) (c:=1) M (fun j _ _=>rfl);rw[mw]at this;rw[this,h0];simp[nP]
 |r+1,t,M,h=>by
  obtain⟨n,hn⟩:=cK (gH (dS leaf r) t);have hs:=h.step hl hw;have h2:n≤M:=hn▸h.2;have hnt:n≤t:=hn▸Us _ _;have hle:=Sn hl hw r _ _ hs;have ih:=ae5 hl hw r _ _ hs;rw[←hn]at hs hle ih;have e:CI leaf (r+1) t=n::CI leaf r (2*(t-n)):=by rw[CI,←hn]
  rw[e];have Km:=AW (f:=fun j=>2^(r+1-MJ (n::CI leaf r (2*(t-n))) j)) (n:=n) (c:=2^(r+1)) (M-n) (fun j h1 _=>by
   rw[Dw,abO hle h1,aw aa];rfl)
  rw[show n+(M-n)=M by omega]at Km;have hc:=pL (f:=fun j=>2^(r+1-MJ (n::CI leaf r (2*(t-n))) j)) (g:=fun j=>2^(r-MJ (CI leaf r (2*(t-n))) j)) (m:=n) (fun j hj=>by
   rw[Dw,ao hj];congr 1;omega)
  rw[Km,hc,nK];generalize nP (fun j=>2^(r-MJ (CI leaf r (2*(t-n))) j)) n=S at*;generalize 2^r=P at*;obtain⟨a,rfl⟩:∃a,M=n+a:=⟨M-n,aa⟩
  obtain⟨b,rfl⟩:∃b,t=n+b:=⟨t-n,aa⟩
  rw[show n+a-n=a by omega];rw[show n+b-n=b by omega]at ih;have i1:2*b*P=2*(b*P):=by rw[tq]
  have i2:2*n*P=2*(n*P):=by rw[tq]
  have i3:a*(P*2)=2*(a*P):=by rw[←tq,nL]
  have i4:(n+b)*(P*2)=2*(n*P)+2*(b*P):=by rw[←tq,mL,nL];omega
  have i5:2*(n+a)*(P*2)=4*(n*P)+4*(a*P):=by
   rw[ue,mL,←tq,←tq,tq 2 n P,tq 2 a P];omega
  omega
def tj(syms:bf):Nat→bf→bf
 |0,out=>out
 |j+1,out=>(tj syms j out).set (syms.getD j 0) ((tj syms j out).getD (syms.getD j 0) 0+1)
theorem rf(syms:bf)(out:bf):∀n,(tj syms n out).length=out.length
 |0=>rfl
 |j+1=>by rw[tj,List.length_set,rf syms out j]
theorem Zq:∀{l:bf},l.Nodup→∀(i j:Nat) (hi:i<l.length) (hj:j<l.length),l[i]=l[j]→i=j:=by
 intro l h i j hi hj e;rcases Nat.lt_trichotomy i j with k|k|k
 ·exact absurd e (rj.1 h i j hi hj k)
 ·exact k
 ·exact absurd e.symm (rj.1 h j i hj hi k)
theorem Zo{l:bf}(h:l.Nodup){i j:Nat}(hi:i<l.length)(hj:j<l.length)(e:l.getD i 0=l.getD j 0):i=j:=by
 rw[bk,bk,fm hi,fm hj]at e;exact Zq h i j hi hj (by simpa using e)
theorem Ej{syms out:bf}(hd:syms.Nodup)(hs:∀s∈syms,s<out.length):∀(n:Nat),n≤syms.length→
  (∀j,j<syms.length→(tj syms n out).getD (syms.getD j 0) 0=out.getD (syms.getD j 0) 0+if j<n then 1 else 0)∧∀s,s∉syms→(tj syms n out).getD s 0=out.getD s 0
 |0,_=>⟨fun j _=>by rw[tj,aw aa];rfl,fun s _=>rfl⟩
 |n+1,h=>by
  obtain⟨h1,h2⟩:=Ej hd hs n aa;have hl:=rf syms out n;have hm:syms.getD n 0∈syms:=bg aa 0;have fN:=hs _ hm;refine⟨fun j hj=>?_,fun s hn=>?_⟩
  ·rw[tj];by_cases e:j=n
   ·subst e;rw[h1 j hj,aw aa,ao aa];rw[bk,BF,ao rfl,hl,ao fN];rfl
   ·have sa:syms.getD n 0≠syms.getD j 0:=fun k=>e (Zo hd aa hj k).symm;have:=h1 j hj;have e2:(if j<n then 1 else 0)=(if j<n+1 then 1 else 0:Nat):=by
     by_cases k:j<n
     ·rw[ao k,ao aa]
     ·rw[aw k,aw aa]
    rw[←e2,←this];simp only[bk,BF];rw[aw (by simpa[bk]using sa)]
  ·have sa:syms.getD n 0≠s:=fun k=>hn (k▸hm);rw[tj,←h2 s hn];simp only[bk,BF];rw[aw (by simpa[bk]using sa)]
def sO(syms:bf):bf→bf→bf
 |[],out=>out
 |n::ns,out=>sO syms ns (tj syms n out)
theorem Ih(syms:bf):∀ns out,(sO syms ns out).length=out.length
 |[],_=>rfl
 |n::ns,out=>by rw[sO,Ih syms ns,rf]
theorem Ig{syms:bf}(hd:syms.Nodup):∀(ns out:bf),(∀s∈syms,s<out.length)→(∀n∈ns,n≤syms.length)→
  (∀j,j<syms.length→(sO syms ns out).getD (syms.getD j 0) 0=out.getD (syms.getD j 0) 0+MJ ns j)∧∀s,s∉syms→(sO syms ns out).getD s 0=out.getD s 0
 |[],out,_,_=>⟨fun j _=>rfl,fun s _=>rfl⟩
 |n::ns,out,hs,hn=>by
  obtain⟨h1,h2⟩:=Ej hd hs n (hn n ak);obtain⟨h3,h4⟩:=Ig hd ns (tj syms n out) (fun s Bz=>by rw[rf];exact hs s Bz) (fun m hm=>hn m (by simp[hm]));refine⟨fun j hj=>?_,fun s Bz=>?_⟩
  ·rw[sO,h3 j hj,h1 j hj,Dw];omega
  ·rw[sO,h4 s Bz,h2 s Bz]
def mB(o:Nat→Nat)(N:Nat):bf:=(List.range N).filter fun s=>decide (0<o s)
def dA(o:Nat→Nat)(N:Nat):bf:=cU o (mB o N)
def oo(o:Nat→Nat)(N:Nat):List cv:=(dA o N).map fun s=>(o s,true)
def jr(o:Nat→Nat)(N:Nat):bf:=
 if (dA o N).length<2 then (if (dA o N).length=1 then (List.replicate N 0).set ((dA o N).getD 0 0) 1 else List.replicate N 0)
 else sO (dA o N) (CI (oo o N) 15 (2*(dA o N).length-2)) (List.replicate N 0)
theorem PI(o:Nat→Nat)(N:Nat):(mB o N).Nodup:=List.Nodup.sublist List.filter_sublist List.nodup_range
theorem ng{o:Nat→Nat}{N s:Nat}:s∈dA o N↔s<N∧0<o s:=by
 unfold dA;rw[(gC o _).mem_iff];unfold mB;rw[BC,kB];simp
theorem afa(o:Nat→Nat)(N:Nat):tA o (dA o N):=lA o (PI o N)
theorem Pc(o:Nat→Nat)(N:Nat):(dA o N).Nodup:=(gC o _).nodup_iff.2 (PI o N)
theorem Ja(o:Nat→Nat)(N:Nat):(dA o N).length≤N:=by
 unfold dA;rw[(gC o _).length_eq];exact jc (BG _ _) ak
theorem sf{o:Nat→Nat}{N:Nat}:∀x∈oo o N,x.2=true:=fun x hx=>by
 obtain⟨s,_,rfl⟩:=pQ.1 hx;rfl
theorem yq(o:Nat→Nat)(N:Nat):Wt (oo o N):=List.Pairwise.map _ (fun a b h=>by
 rcases h with h|h
 ·exact Nat.le_of_lt h
 ·exact Nat.le_of_eq h.1) (afa o N)
theorem ib(leaf:List cv)(r:Nat):(dS leaf (r+1)).length=leaf.length+(dS leaf r).length/2:=by
 rw[dS,vd,KG,KP]
theorem Wq(leaf:List cv):∀r,leaf.length≤(dS leaf r).length∧(dS leaf r).length≤2*leaf.length
 |0=>⟨gi _,by rw[dS];omega⟩
 |r+1=>by
  have ih:=Wq leaf r;rw[ib];omega
theorem gv{n a b d e:Nat}(h:2*n≤a+d)(hb:b=n+a/2)(hd:d≤2*e):2*n≤b+e:=by omega
theorem ZO{leaf:List cv}(h:leaf.length≤300):2*leaf.length-2≤(dS leaf 14).length:=by
 have a0:2*leaf.length≤(dS leaf 0).length+300:=by rw[dS];omega
 have a1:=gv (e:=150) a0 (ib leaf 0) aB;have a2:=gv (e:=75) a1 (ib leaf 1) aB;have a3:=gv (e:=38) a2 (ib leaf 2) aB;have a4:=gv (e:=19) a3 (ib leaf 3) aB;have a5:=gv (e:=10) a4 (ib leaf 4) aB;have a6:=gv (e:=5) a5 (ib leaf 5) aB;have a7:=gv (e:=3) a6 (ib leaf 6) aB;have a8:=gv (e:=2) a7 (ib leaf 7) aB;have a9:=gv (e:=1) a8 (ib leaf 8) aB;have a10:=gv (e:=1) a9 (ib leaf 9) aB;have a11:=gv (e:=1) a10 (ib leaf 10) aB;have a12:=gv (e:=1) a11 (ib leaf 11) aB;have a13:=gv (e:=1) a12 (ib leaf 12) aB;have a14:2*leaf.length≤(dS leaf 14).length+1:=gv (e:=1) a13 (ib leaf 13) aB;omega
theorem xa{o:Nat→Nat}{N:Nat}(hN:N≤300):mR (oo o N) 15 (2*(dA o N).length-2) (dA o N).length:=by
 have hl:(oo o N).length=(dA o N).length:=by simp[oo]
 have hs:=Ja o N;refine⟨by rw[←hl];exact ZO aa,?_⟩;have hf:=(KT sf (yq o N) 14).2 (2*(dA o N).length-2);have:((oo o N).take (gH (dS (oo o N) 14) (2*(dA o N).length-2))).length=gH (dS (oo o N) 14) (2*(dA o N).length-2):=by
  rw[←hf,←List.countP_eq_length_filter];rfl
 rw[eS,hl]at this;exact jc (Nat.le_of_eq this.symm) (Nat.min_le_right _ _)
def qJ(f:Nat→Nat):bf→Nat
 |[]=>0
 |x::r=>f x+qJ f r
theorem Z2{f:Nat→Nat}{a b:bf}(h:a.Perm b):qJ f a=qJ f b:=by
 induction h with
 |nil=>rfl
 |cons x _ ih=>rw[qJ,qJ,ih]
 |swap x y l=>simp only[qJ];omega
 |trans _ _ h1 h2=>rw[h1,h2]
theorem BS{f:Nat→Nat}{p:Nat→Bool}:∀{l:bf},(∀x∈l,p x=false→f x=0)→qJ f l=qJ f (l.filter p)
 |[],_=>rfl
 |x::r,h=>by
  rw[qJ,ud,BS fun y hy=>h y vQ];split
  ·rfl
  ·rename_i hp;rw[h x ak (by simpa using hp)];omega
theorem Pa(f:Nat→Nat):∀a b,qJ f (a++b)=qJ f a+qJ f b
 |[],b=>by simp[qJ]
 |x::a,b=>by rw[nI,qJ,qJ,Pa f a b];omega
theorem Fx(f:Nat→Nat)(l:bf):∀m,m≤l.length→qJ f (l.take m)=nP (fun j=>f (l.getD j 0)) m
 |0,_=>rfl
 |m+1,h=>by rw[ba aa 0,Pa,Fx f l m aa,nP];simp[qJ]
def gK(c:Nat):Nat:=if c=0 then 0 else 2^(15-c)
def kV(o:Nat→Nat)(N:Nat):al:=(jr o N).map UInt8.ofNat
theorem IH(o:Nat→Nat)(N:Nat):(jr o N).length=N:=by
 unfold jr;split
 ·split<;>simp
 ·rw[Ih];simp
@[simp] theorem gy(o:Nat→Nat)(N:Nat):(kV o N).length=N:=by rw[kV,eK,IH]
theorem Aj{o:Nat→Nat}{N:Nat}(hN:N≤300)(h2:2≤(dA o N).length):
  (∀j,j<(dA o N).length→(jr o N).getD ((dA o N).getD j 0) 0=MJ (CI (oo o N) 15 (2*(dA o N).length-2)) j)∧∀s,s∉dA o N→(jr o N).getD s 0=0:=by
 have hle:=Sn sf (yq o N) 15 _ _ (xa (o:=o) hN);obtain⟨h3,h4⟩:=Ig (Pc o N) (CI (oo o N) 15 (2*(dA o N).length-2)) (List.replicate N 0) (fun s hs=>by rw[yd];exact(ng.1 hs).1) hle;have hz:∀s,(List.replicate N 0).getD s 0=0:=fun s=>by
  rw[bk,IA];split<;>rfl
 unfold jr;rw[aw aa];exact⟨fun j hj=>by rw[h3 j hj,hz,mw],fun s hs=>by rw[h4 s hs,hz]⟩
theorem ae4{f:Nat→Nat}{j m:Nat}(hj:j<m)(h:0<f j){i:Nat}(hi:i<m)(Iq:i≠j):f i<nP f m:=by
 induction m with
 |zero=>omega
 |succ m ih=>
  rw[nP];by_cases e1:j=m
  ·subst e1;have:f i≤nP f j:=Fw aa;omega
  ·by_cases e2:i=m
   ·subst e2;have:f j≤nP f i:=Fw aa;omega
   ·have:=ih aa aa;omega
where Fw {f:Nat→Nat}:∀{m j:Nat},j<m→f j≤nP f m
 |m+1,j,h=>by
  rw[nP];by_cases e:j=m
  ·subst e;omega
  ·have:=Fw (f:=f) (m:=m) (j:=j) aa;omega
theorem Oe{o:Nat→Nat}{N:Nat}(hN:N≤300)(h2:2≤(dA o N).length):
  nP (fun j=>2^(15-MJ (CI (oo o N) 15 (2*(dA o N).length-2)) j)) (dA o N).length=32768:=by
 have h:=ae5 sf (yq o N) 15 _ _ (xa (o:=o) hN);rw[show(2:Nat)^15=32768 from rfl]at h;omega
theorem Od{o:Nat→Nat}{N:Nat}(hN:N≤300){s:Nat}(hs:s<N)(ho:0<o s):1≤(jr o N).getD s 0:=by
 have hm:s∈dA o N:=ng.2 ⟨hs,ho⟩;obtain⟨j,hj,hje⟩:=j0 hm;have hjd:(dA o N).getD j 0=s:=by rw[bk,fm hj,←hje];rfl
 by_cases h2:2≤(dA o N).length
 ·have h:=(Aj hN h2).1 j hj;rw[hjd]at h;rw[h];have wT:=Oe (o:=o) hN h2;obtain⟨i,hi,Iq⟩:∃i,i<(dA o N).length∧i≠j:=by
   by_cases e:j=0
   ·exact⟨1,aa,aa⟩
   ·exact⟨0,aa,aa⟩
  have:=ae4 (f:=fun j=>2^(15-MJ (CI (oo o N) 15 (2*(dA o N).length-2)) j)) hi (v_ _) hj Iq.symm;rw[wT]at this;rcases wV (MJ (CI (oo o N) 15 (2*(dA o N).length-2)) j)with e|e
  ·rw[e]at this;simp at this
  ·exact e
 ·have h1:(dA o N).length=1:=by omega
  have hj0:j=0:=by omega
  subst hj0;unfold jr;rw[ao aa,ao h1,hjd];simp[bk,BF,hs]
theorem EB{o:Nat→Nat}{N:Nat}(hN:N≤300)(s:Nat):(jr o N).getD s 0≤15:=by
 by_cases h2:2≤(dA o N).length
 ·obtain⟨h3,h4⟩:=Aj (o:=o) hN h2;by_cases hm:s∈dA o N
  ·obtain⟨j,hj,hje⟩:=j0 hm;have hjd:(dA o N).getD j 0=s:=by rw[bk,fm hj,←hje];rfl
   have:=h3 j hj;rw[hjd]at this;rw[this];have:=alD (CI (oo o N) 15 (2*(dA o N).length-2)) j
   rwa [V3]at this
  ·rw[h4 s hm];omega
 ·unfold jr;rw[ao aa];split
  ·rw[bk,BF];split
   ·split<;>simp
   ·rw[IA];split<;>simp
  ·rw[bk,IA];split<;>simp
theorem Y5:∀l:al,qj l=nP (fun s=>gK (l.getD s 0).toNat) l.length:=by
 intro l;have:∀m,m≤l.length→qj (l.take m)=nP (fun s=>gK (l.getD s 0).toNat) m:=by
  intro m;induction m with
  |zero=>intro _;rfl
  |succ m ih=>intro h;rw[ba aa 0,RZ,ih aa,nP];rfl
 have h:=this l.length (gi _)
 rwa [jS]at h
theorem Ah{o:Nat→Nat}{N:Nat}(hN:N≤300){s:Nat}(hs:s<N):((kV o N).getD s 0).toNat=(jr o N).getD s 0:=by
 have hl:=IH o N;have kL:=EB (o:=o) hN s;unfold kV;rw[bk,jq];rw[bk]at kL⊢;rw[fm aa]at kL⊢;simp only[sS,vI]at kL⊢;rw[oi];exact i_ aa
theorem Y9{o:Nat→Nat}{N:Nat}(hN:N≤300):Fit (kV o N):=by
 refine⟨by rw[gy];exact hN,fun c hc=>?_⟩;obtain⟨i,hi,rfl⟩:=j0 hc;have P9:i<N:=by rwa [gy]at hi
 have:=Ah (o:=o) hN P9;rw[bk,fm hi,vI]at this;rw[this];exact EB hN i
theorem RY{o:Nat→Nat}{N:Nat}(hN:N≤300)(h2:2≤(dA o N).length):qj (kV o N)=32768:=by
 obtain⟨h3,h4⟩:=Aj (o:=o) hN h2;rw[Y5,gy];have e1:nP (fun s=>gK ((kV o N).getD s 0).toNat) N=nP (fun s=>gK ((jr o N).getD s 0)) N:=pL fun s hs=>by rw[Ah hN hs]
 have e2:nP (fun s=>gK ((jr o N).getD s 0)) N=qJ (fun s=>gK ((jr o N).getD s 0)) (List.range N):=by
  have:=Fx (fun s=>gK ((jr o N).getD s 0)) (List.range N) N ak;rw[fA ak]at this;rw[this];exact pL fun j hj=>by simp[bk,ye hj]
 have e3:qJ (fun s=>gK ((jr o N).getD s 0)) (List.range N)=qJ (fun s=>gK ((jr o N).getD s 0)) (mB o N):=BS fun x hx hp=>by
  have:x∉dA o N:=fun hm=>by
   have:=(ng.1 hm).2;simp only[decide_eq_false_iff_not]at hp;exact hp this
  rw[h4 x this];rfl
 have e4:=Z2 (f:=fun s=>gK ((jr o N).getD s 0)) (gC o (mB o N));have e5:=Fx (fun s=>gK ((jr o N).getD s 0)) (dA o N) (dA o N).length (gi _);rw[jS]at e5;rw[e1,e2,e3,←e4];show qJ _ (dA o N)=_;rw[e5,←Oe (o:=o) hN h2];refine pL fun j hj=>?_;have hp:=Od hN (o:=o) (ng.1 (bg hj 0)).1 (ng.1 (bg hj 0)).2;rw[h3 j hj]at hp⊢;unfold gK;rw[aw aa]
theorem F7:∀N:Nat,nz ((List.replicate N 0).map UInt8.ofNat)=0∧num ((List.replicate N 0).map UInt8.ofNat) 1=0
 |0=>⟨rfl,rfl⟩
 |N+1=>by
  obtain⟨h1,h2⟩:=F7 N;rw[zU,kC,CJ,yB,h1,h2];exact⟨rfl,rfl⟩
theorem one_set:∀N s:Nat,s<N→nz (((List.replicate N 0).set s 1).map UInt8.ofNat)=1∧num (((List.replicate N 0).set s 1).map UInt8.ofNat) 1=1
 |0,s,h=>by omega
 |N+1,0,h=>by
  obtain⟨h1,h2⟩:=F7 N;rw[zU,List.set_cons_zero,kC,CJ,yB,h1,h2];exact⟨rfl,rfl⟩
 |N+1,s+1,h=>by
  obtain⟨h1,h2⟩:=one_set N s aa;rw[zU,NU,kC,CJ,yB,h1,h2];exact⟨rfl,rfl⟩
theorem lU{o:Nat→Nat}{N:Nat}(hN:N≤300):Good (kV o N):=by
 have hf:=Y9 (o:=o) hN;by_cases h2:2≤(dA o N).length
 ·exact(D7 hf).2 (.inr (RY hN h2))
 ·refine(D7 hf).2 (.inl ?_);unfold kV jr;rw[ao aa];split
  ·rename_i h1;right;have hm:(dA o N).getD 0 0∈dA o N:=bg aa 0;have fN:=(ng.1 hm).1;obtain⟨s,hs⟩:=cK ((dA o N).getD 0 0);rw[←hs]at fN⊢;obtain⟨k1,k2⟩:=one_set N s fN;exact⟨k1,k2⟩
  ·left;exact(F7 N).1
theorem alk{P:Prop}(h:P:=by(rw[hl];simp only;omega)):P:=h
theorem Vz:type_of% @List.getElem?_take_of_lt:= @List.getElem?_take_of_lt
theorem sW:type_of% @List.take_add_one:= @List.take_add_one
abbrev bP:=UInt8×Int×Int
def mS(b:al)(p a:Nat):Nat→Nat→Nat
 |0,n=>n
 |f+1,n=>if n<257∧a+n<b.length∧b.getD (p+n) 0=b.getD (a+n) 0 then mS b p a f (n+1) else n
def oR(b:al)(p a:Nat):Nat:=mS b p a 257 0
theorem zh(b:al)(p a:Nat):∀(f n:Nat),n≤257→n≤mS b p a f n∧mS b p a f n≤257∧∀i,n≤i→i<mS b p a f n→a+i<b.length∧b.getD (p+i) 0=b.getD (a+i) 0
 |0,n,h=>⟨gi _,h,fun i h1 h2=>absurd h2 (by simp only[mS];omega)⟩
 |f+1,n,h=>by
  unfold mS;by_cases hc:n<257∧a+n<b.length∧b.getD (p+n) 0=b.getD (a+n) 0
  ·rw[ao hc];obtain⟨h1,h2,h3⟩:=zh b p a f (n+1) aa;refine⟨aa,h2,fun i hi hi2=>?_⟩;rcases uh n i with h4|h4
   ·exact h3 i aa hi2
   ·obtain rfl:i=n:=by omega
    exact⟨hc.2.1,hc.2.2⟩
  ·rw[aw hc];exact⟨gi _,h,fun i h1 h2=>absurd h2 aa⟩
theorem Hi(b:al)(p a:Nat):oR b p a≤257:=(zh b p a 257 0 aa).2.1
theorem Xq{b:al}{p a i:Nat}(h:i<oR b p a):a+i<b.length∧b.getD (p+i) 0=b.getD (a+i) 0:=(zh b p a 257 0 aa).2.2 i (bS _) h
def iC(b:al)(a:Nat):UInt8×UInt8×UInt8:=(b.getD a 0,b.getD (a+1) 0,b.getD (a+2) 0)
def eT(b:al)(k:UInt8×UInt8×UInt8):Nat→Option Nat
 |0=>none
 |m+1=>if m+3≤b.length∧iC b m=k then some m else eT b k m
theorem lx{b:al}{k:UInt8×UInt8×UInt8}:∀{m p:Nat},eT b k m=some p→p<m
 |0,p,h=>by cases h
 |m+1,p,h=>by
  unfold eT at h;split at h
  ·injection h with h;omega
  ·have:=lx h;omega
def s7(b:al)(a:Nat):Nat→Option Nat→Nat→Nat→Nat×Nat
 |0,_,n,d=>(n,d)
 |_+1,none,n,d=>(n,d)
 |f+1,some p,n,d=>
  if a-p≤4095∧n<257 then
   (if n<oR b p a then s7 b a f (eT b (iC b p) p) (oR b p a) (a-p) else s7 b a f (eT b (iC b p) p) n d)
  else (n,d)
def dD(b:al)(a:Nat):Nat×Nat:=if b.length<a+3 then (0,0) else s7 b a a (eT b (iC b a) a) 0 0
def Jp(b:al)(a:Nat)(r:Nat×Nat):Prop:=r.1≤257∧(0<r.1→1≤r.2∧r.2≤a∧r.2≤4095∧∀i,i<r.1→a+i<b.length∧b.getD (a-r.2+i) 0=b.getD (a+i) 0)
theorem ED(b:al)(a:Nat):∀(f:Nat) (p:Option Nat) (n d:Nat),(∀x,p=some x→x<a)→Jp b a (n,d)→Jp b a (s7 b a f p n d)
 |0,_,n,d,_,h=>h
 |_+1,none,n,d,_,h=>h
 |f+1,some p,n,d,hp,h=>by
  have hpa:=hp p rfl;have hnx:∀x,eT b (iC b p) p=some x→x<a:=fun x hx=>by have:=lx hx;omega
  unfold s7;split
  ·rename_i hc;split
   ·refine ED b a f _ _ _ hnx ⟨Hi b p a,fun _=>⟨cY,cY,hc.1,fun i hi=>?_⟩⟩;have:=Xq hi
    rwa [show a-(a,a-p).2+i=p+i by simp only;omega]
   ·exact ED b a f _ _ _ hnx h
  ·exact h
theorem pB(b:al)(a:Nat):Jp b a (dD b a):=by
 unfold dD;split
 ·exact⟨ak,fun h=>absurd h ak⟩
 ·exact ED b a a _ 0 0 (fun x hx=>lx hx) ⟨ak,fun h=>absurd h ak⟩
def findF(b:al):Nat→Nat→List bP
 |0,_=>[]
 |f+1,a=>if a<b.length then (if 3≤(dD b a).1 then (0,((dD b a).1:Int),((dD b a).2:Int))::findF b f (a+(dD b a).1) else (b.getD a 0,0,0)::findF b f (a+1)) else []
def jo(b:al):List bP:=findF b b.length 0
def e_(t:bP):Prop:=if t.2.1=0 then t.2.2=0 else t.1=0∧3≤t.2.1∧t.2.1≤257∧1≤t.2.2∧t.2.2≤4095
instance (t:bP):Decidable (e_ t):=by unfold e_;infer_instance
def lR(d:Nat):Nat→al→al
 |0,out=>out
 |n+1,out=>lR d n (out++[out.getD (out.length-d) 0])
theorem oF(d:Nat):∀(n:Nat) (out:al),(lR d n out).length=out.length+n
 |0,out=>rfl
 |n+1,out=>by rw[lR,oF d n];simp;omega
def ia(most:Int):al→List bP→al×Int
 |out,[]=>(out,0)
 |out,t::r=>
  if¬e_ t then ([],7)
  else if (out.length:Int)<t.2.2 then ([],8)
  else if most-out.length<max 1 t.2.1 then ([],6)
  else if t.2.1=0 then ia most (out++[t.1]) r
  else ia most (lR t.2.2.toNat t.2.1.toNat out) r
def kH(l:List bP)(most:Int):al×Int:=if most<0 then ([],13) else ia most [] l
theorem HU{b:al}{d:Nat}:∀(n a:Nat),1≤d→d≤a→(∀i,i<n→a+i<b.length∧b.getD (a-d+i) 0=b.getD (a+i) 0)→a≤b.length→lR d n (b.take a)=b.take (a+n)
 |0,a,_,_,_,_=>rfl
 |n+1,a,h1,h2,h3,h4=>by
  obtain⟨h5,h6⟩:=h3 0 aa;rw[tk]at h5 h6;rw[tk]at h6;have e:(b.take a).getD ((b.take a).length-d) 0=b.getD a 0:=by
   rw[eS,zb h4,←h6];simp only[bk];rw[Vz aa]
  have e2:b.take a++[b.getD a 0]=b.take (a+1):=by
   rw[sW,fm h5];simp[List.getD,fm h5]
  rw[lR,e,e2,HU n (a+1) h1 aa (fun i hi=>by
   have:=h3 (i+1) aa;rw[show a+1+i=a+(i+1) by omega,show a+1-d+i=a-d+(i+1) by omega];exact this) aa]
  congr 1;omega
theorem AJ(b:al)(most:Int)(hm:(b.length:Int)≤most):∀(f a:Nat),a≤b.length→b.length-a≤f→ia most (b.take a) (findF b f a)=(b,0)
 |0,a,h1,h2=>by
  obtain rfl:a=b.length:=by omega
  simp[findF,ia]
 |f+1,a,h1,h2=>by
  unfold findF;split
  ·rename_i ha;have hl:(b.take a).length=a:=by rw[eS];omega
   split
   ·rename_i h3;obtain⟨k1,k2⟩:=pB b a;obtain⟨k3,k4,k5,k6⟩:=k2 aa;have akb:=(k6 ((dD b a).1-1) aa).1;generalize dD b a=r at*;obtain⟨n,d⟩:=r;simp only at*;have hl:(b.take a).length=a:=by rw[eS];omega
    have fG:e_ (0,(n:Int),(d:Int)):=by unfold e_;rw[aw cY];exact⟨rfl,cY,cY,cY,cY⟩
    have hmx:max (1:Int) (n:Int)=n:=Int.max_eq_right aa;unfold ia;rw[aw (fun h=>h fG),aw alk,aw (by rw[hl];simp only;rw[hmx];omega),aw cY];show ia most (lR d n (b.take a)) _=_;rw[HU n a k3 k4 k6 h1];exact AJ b most hm f (a+n) aa aa
   ·have fG:e_ (b.getD a 0,0,0):=by unfold e_;rw[ao rfl]
    unfold ia;rw[aw (fun h=>h fG),aw alk,aw alk,ao rfl];have e2:b.take a++[b.getD a 0]=b.take (a+1):=by
     rw[sW,fm ha];simp[List.getD,fm ha]
    show ia most (b.take a++[b.getD a 0]) _=_;rw[e2];exact AJ b most hm f (a+1) aa aa
  ·obtain rfl:a=b.length:=by omega
   simp[ia]
theorem w5(b:al)(most:Int)(hm:(b.length:Int)≤most):kH (jo b) most=(b,0):=by
 unfold kH jo;rw[aw aa];have:=AJ b most hm b.length 0 (bS _) aa
 rwa [z8]at this
theorem DX(b:al):∀(f a:Nat),a≤b.length→(findF b f a).length≤b.length-a
 |0,a,_=>bS _
 |f+1,a,h=>by
  unfold findF;split
  ·rename_i ha;split
   ·rename_i h3;obtain⟨k1,k2⟩:=pB b a;obtain⟨k3,k4,k5,k6⟩:=k2 aa;have akb:=(k6 ((dD b a).1-1) aa).1;have:=DX b f (a+(dD b a).1) aa;rw[ef];omega
   ·have:=DX b f (a+1) aa;rw[ef];omega
  ·exact bS _
theorem L4{P:Prop}(h:P:=by(simp only at h;omega)):P:=h
theorem L6{P:Prop}(h:P:=by(rw[hq];simp[bV])):P:=h
abbrev Qj:=Nat×Nat×Nat×Nat
def pS(v:Nat):Nat:=v.log2
def JP(v:Nat):Nat:=v-2^v.log2
def bJ(t:bP):Qj:=if t.2.1=0 then (t.1.toNat,0,0,0) else (257+pS (t.2.1-2).toNat,JP (t.2.1-2).toNat,pS t.2.2.toNat,JP t.2.2.toNat)
theorem QJ{v:Nat}(h:v≠0):2^pS v+JP v=v∧JP v<2^pS v:=by
 unfold pS JP;have h1:=Nat.log2_self_le h;have h2:= @Nat.lt_log2_self v;rw[nK]at h2;omega
theorem JQ{v k:Nat}(h:v<2^(k+1))(hv:v≠0):pS v≤k:=by
 unfold pS;have h1:=Nat.log2_self_le hv;rcases uh k v.log2 with h2|h2
 ·have:=la (show 1≤2 by omega) (show k+1≤v.log2 by omega);omega
 ·exact h2
theorem nM{t:bP}(h:e_ t)(h0:¬t.2.1=0):257≤(bJ t).1∧(bJ t).1≤264∧(bJ t).2.2.1≤11∧(bJ t).2.1<2^((bJ t).1-257)∧(bJ t).2.2.2<2^(bJ t).2.2.1∧
  (2:Int)+2^((bJ t).1-257)+(bJ t).2.1=t.2.1∧(2:Int)^(bJ t).2.2.1+(bJ t).2.2.2=t.2.2∧t.1=0:=by
 unfold e_ at h;rw[aw h0]at h;obtain⟨h1,h2,h3,h4,h5⟩:=h;unfold bJ;rw[aw h0];simp only;obtain⟨n,hn⟩:=cK ((t.2.1-2).toNat);obtain⟨d,hd⟩:=cK (t.2.2.toNat);rw[←hn,←hd];have a1:=QJ (v:=n) aa;have a2:=QJ (v:=d) aa;have a3:=JQ (v:=n) (k:=7) aa aa;have a4:=JQ (v:=d) (k:=11) aa aa;rw[show 257+pS n-257=pS n by omega];have e1:((2:Int)^pS n)=((2^pS n:Nat):Int):=by simp
 have e2:((2:Int)^pS d)=((2^pS d:Nat):Int):=by simp
 rw[e1,e2];exact⟨aa,aa,a4,a1.2,a2.2,aa,aa,h1⟩
theorem vg{t:bP}(h:e_ t)(h0:t.2.1=0):bJ t=(t.1.toNat,0,0,0)∧t=(t.1,0,0):=by
 unfold e_ at h;rw[ao h0]at h;refine⟨ao h0,?_⟩;obtain⟨x,n,d⟩:=t;simp only at h h0;subst h;subst h0;rfl
def JR(l:List bP)(s:Nat):Nat:=l.countP (fun t=>(bJ t).1==s)+if s=256 then 1 else 0
def wH(l:List bP)(s:Nat):Nat:=l.countP (fun t=>decide (256<(bJ t).1)&&(bJ t).2.2.1==s)
def fh(l:List bP):al:=kV (JR l) 265
def im(l:List bP):al:=kV (wH l) 12
def vM(sl fl:al)(t:bP):List Bool:=hw sl (bJ t).1++if (bJ t).1<256 then [] else hi (bJ t).2.1 ((bJ t).1-257) ((bJ t).1-257)++(hw fl (bJ t).2.2.1++hi (bJ t).2.2.2 (bJ t).2.2.1 (bJ t).2.2.1)
def mP(sl fl:al)(l:List bP):List Bool:=l.flatMap (vM sl fl)
def qu(l:List bP):List Bool:=ik (fh l) 0++(ik (im l) 0++(mP (fh l) (im l) l++hw (fh l) 256))
def lB(l:List bP):al×Int:=if 32768<l.length then ([],6) else if∀t∈l,e_ t then (packed (qu l),0) else ([],7)
def arY(x:Int)(b:Nat):Prop:=0≤x∧x<2^b
instance (x:Int)(b:Nat):Decidable (arY x b):=inferInstanceAs (Decidable (_∧_))
def m_(fl:al)(q:List Bool)(p:Nat)(s:Int):bP×Int×Nat:=
 if¬r_ q p (s-257)=0 then ((0,0,0),r_ q p (s-257),iE q p (s-257))
 else if¬(fz fl q (iE q p (s-257))).2.1=0 then ((0,0,0),(fz fl q (iE q p (s-257))).2.1,(fz fl q (iE q p (s-257))).2.2)
 else if¬r_ q (fz fl q (iE q p (s-257))).2.2 (fz fl q (iE q p (s-257))).1=0 then ((0,0,0),r_ q (fz fl q (iE q p (s-257))).2.2 (fz fl q (iE q p (s-257))).1,iE q (fz fl q (iE q p (s-257))).2.2 (fz fl q (iE q p (s-257))).1)
 else ((0,2+2^(s-257).toNat+(oK q p (s-257):Int),2^(fz fl q (iE q p (s-257))).1.toNat+(oK q (fz fl q (iE q p (s-257))).2.2 (fz fl q (iE q p (s-257))).1:Int)),0,iE q (fz fl q (iE q p (s-257))).2.2 (fz fl q (iE q p (s-257))).1)
def kh(sl fl:al)(q:List Bool)(p:Nat):bP×Bool×Int×Nat:=
 if¬(fz sl q p).2.1=0∨(fz sl q p).1=256 then ((0,0,0),false,(fz sl q p).2.1,(fz sl q p).2.2)
 else if (fz sl q p).1<256 then ((UInt8.ofNat (fz sl q p).1.toNat,0,0),true,0,(fz sl q p).2.2)
 else ((m_ fl q (fz sl q p).2.2 (fz sl q p).1).1,decide ((m_ fl q (fz sl q p).2.2 (fz sl q p).1).2.1=0),(m_ fl q (fz sl q p).2.2 (fz sl q p).1).2.1,(m_ fl q (fz sl q p).2.2 (fz sl q p).1).2.2)
def rH(sl fl:al)(q:List Bool):Nat→Int→Nat→List bP→List bP×Int
 |0,most,p,acc=>([],6)
 |f+1,most,p,acc=>
  if¬(kh sl fl q p).2.2.1=0 then ([],(kh sl fl q p).2.2.1)
  else if (kh sl fl q p).2.1=false then (if paE q (kh sl fl q p).2.2.2=0 then (acc,0) else ([],paE q (kh sl fl q p).2.2.2))
  else if most-max 1 (kh sl fl q p).1.2.1<0 then ([],6)
  else rH sl fl q f (most-max 1 (kh sl fl q p).1.2.1) (kh sl fl q p).2.2.2 (acc++[(kh sl fl q p).1])
noncomputable def fK(b:al)(most:Int):List bP×Int:=
 if most<0 then ([],13)
 else if¬(qN (gh b) 0 265).2.1=0 then ([],(qN (gh b) 0 265).2.1)
 else if¬(qN (gh b) (qN (gh b) 0 265).2.2 12).2.1=0 then ([],(qN (gh b) (qN (gh b) 0 265).2.2 12).2.1)
 else rH (qN (gh b) 0 265).1 (qN (gh b) (qN (gh b) 0 265).2.2 12).1 (gh b) (most.toNat+1) most (qN (gh b) (qN (gh b) 0 265).2.2 12).2.2 []
def gO:List bP→Int
 |[]=>0
 |t::r=>max 1 t.2.1+gO r
theorem kO{o:Nat→Nat}{N s:Nat}(hN:N≤300)(hs:s<N)(ho:0<o s):((kV o N).getD s 0).toNat≠0:=by
 rw[Ah hN hs];have:=Od hN hs ho;omega
theorem Dm{l:List bP}{t:bP}(h:t∈l):0<JR l (bJ t).1:=by
 unfold JR;have:0<l.countP fun u=>(bJ u).1==(bJ t).1:=List.countP_pos_iff.2 ⟨t,h,ak⟩;omega
theorem Dk{l:List bP}{t:bP}(h:t∈l)(h2:256<(bJ t).1):0<wH l (bJ t).2.2.1:=by
 unfold wH;exact List.countP_pos_iff.2 ⟨t,h,by simp[h2]⟩
theorem afI{l:List bP}(hm:∀t∈l,e_ t){t:bP}(ht:t∈l)(pre r:List Bool){q:List Bool}(hq:q=pre++(vM (fh l) (im l) t++r)):
  kh (fh l) (im l) q pre.length=(t,true,0,(pre++vM (fh l) (im l) t).length):=by
 have hsg:Good (fh l):=lU aa;have hfg:Good (im l):=lU aa;have fG:=hm t ht;have hc:=Dm ht;by_cases h0:t.2.1=0
 ·obtain⟨e1,e2⟩:=vg fG h0;have hx:=lT t.1;have fN:(bJ t).1<256:=by rw[e1];exact hx
  have hb:vM (fh l) (im l) t=hw (fh l) (bJ t).1:=by unfold vM;rw[ao fN,gj]
  rw[hb]at hq⊢;have hg:=x8 hsg (s:=(bJ t).1) (by rw[fh,gy];omega) (kO aa aa hc) pre r hq;unfold kh;rw[hg,aw (fun h=>h.elim (fun h=>h rfl) fun h=>L4),ao cY];simp only[e1];rw[e2];simp
 ·obtain⟨k1,k2,k3,k4,k5,k6,k7,k8⟩:=nM fG h0;have hf:=Dk ht (by omega:256<(bJ t).1);obtain⟨P,hP⟩:=cK (bJ t);unfold vM at hq⊢;rw[←hP]at k1 k2 k3 k4 k5 k6 k7 hf hc hq⊢;obtain⟨s,x,c,y⟩:=P;simp only at k1 k2 k3 k4 k5 k6 k7 hf hc hq⊢;rw[aw aa]at hq⊢;have hg:=x8 hsg (s:=s) (by rw[fh,gy];omega) (kO aa aa hc) pre (hi x (s-257) (s-257)++(hw (im l) c++(hi y c c++r))) (q:=q) L6;obtain⟨b1,b2,b3⟩:=got q (pre++hw (fh l) s) (hw (im l) c++(hi y c c++r)) x (n:=s-257) aa k4 L6;have Nv:=x8 hfg (s:=c) (by rw[im,gy];omega) (kO aa aa hf) (pre++hw (fh l) s++hi x (s-257) (s-257)) (hi y c c++r) (q:=q) L6;obtain⟨c1,c2,c3⟩:=got q (pre++hw (fh l) s++hi x (s-257) (s-257)++hw (im l) c) r y (n:=c) aa k5 L6;have es:((s:Int)-257)=((s-257:Nat):Int):=by omega
  have asK:m_ (im l) q (pre++hw (fh l) s).length (s:Int)=(t,0,(pre++hw (fh l) s++hi x (s-257) (s-257)++hw (im l) c++hi y c c).length):=by
   unfold m_;rw[es,b1,b3,Nv];simp only;rw[c1,c3,b2,c2,aw ak,aw ak,aw ak,nH,nH,k6,k7,←k8]
  unfold kh;rw[hg];simp only;rw[aw (fun h=>h.elim (fun h=>by simp at h) fun h=>aa),aw aa,asK];simp[bV]
theorem xc(sl fl:al)(t:bP)(r:List bP):mP sl fl (t::r)=vM sl fl t++mP sl fl r:=rfl
theorem afH{l:List bP}(pre r:List Bool){q:List Bool}(hq:q=pre++(hw (fh l) 256++r)):
  kh (fh l) (im l) q pre.length=((0,0,0),false,0,(pre++hw (fh l) 256).length):=by
 have hg:=x8 (lU (o:=JR l) (N:=265) aa) (s:=256) (by rw[gy];omega) (kO aa aa (by unfold JR;rw[ao rfl];omega)) pre r hq;unfold kh;unfold fh at*;rw[hg,ao (.inr rfl)]
theorem nN:∀r:List bP,0≤gO r
 |[]=>Int.le_refl _
 |t::r=>by have:=nN r;unfold gO;omega
theorem Ps{l:List bP}(hm:∀t∈l,e_ t){q:List Bool}{r:List Bool}(hr:paE q (q.length-r.length)=0):∀(ts:List bP) (f:Nat) (most:Int) (pre:List Bool) (acc:List bP),(∀t∈ts,t∈l)→gO ts≤most→most<f→
  q=pre++(mP (fh l) (im l) ts++(hw (fh l) 256++r))→rH (fh l) (im l) q f most pre.length acc=(acc++ts,0)
 |ts,0,most,pre,acc,_,h2,h3,_=>by have:=nN ts;omega
 |[],f+1,most,pre,acc,_,h2,h3,hq=>by
  have hq':q=pre++(hw (fh l) 256++r):=hq;have h:=afH pre r hq';unfold rH;rw[h,aw ak,ao rfl];have:(pre++hw (fh l) 256).length=q.length-r.length:=by rw[hq'];simp;omega
  simp only[this];rw[ao hr,gj]
 |t::ts,f+1,most,pre,acc,h1,h2,h3,hq=>by
  rw[xc,bV]at hq;have h:=afI hm (h1 t ak) pre _ hq;unfold gO at h2;have hp:=nN ts;unfold rH;rw[h,aw ak,aw ak,aw cY];simp only;rw[Ps hm hr ts f _ (pre++vM (fh l) (im l) t) (acc++[t]) (fun u hu=>h1 u (by simp[hu])) aa aa L6,bV];rfl
theorem aiv(q:List Bool):paE (q++pad q) ((q++pad q).length-(pad q).length)=0:=by
 have e:(q++pad q).length-(pad q).length=q.length:=by simp
 have hl:=w4 q;unfold paE;rw[e,ary,ao ⟨by rw[aY,hl];omega,rfl⟩]
theorem aak{l:List bP}(hm:∀t∈l,e_ t){most:Int}(hp:gO l≤most):fK (packed (qu l)) most=(l,0):=by
 have hsg:Good (fh l):=lU aa;have hfg:Good (im l):=lU aa;have tZ:=nN l;obtain⟨q,hq⟩:=cK (gh (packed (qu l)));have RI:=hq;rw[qK]at hq;have nS:(fh l).length=265:=gy _ _;have l9:(im l).length=12:=gy _ _;obtain⟨T,hT⟩:=cK (mP (fh l) (im l) l++(hw (fh l) 256++pad (qu l)));have hq3:q=ik (fh l) 0++(ik (im l) 0++T):=by rw[hq,hT];unfold qu;simp[bV]
 have r1:qN q 0 265=(fh l,0,(ik (fh l) 0).length):=by
  have:=back (fh l) hsg (ik (im l) 0++T) (fh l).length 0 (fh l).length [] false q aa aa hq3 aa (fun h=>kl);rw[nS]at this;rw[qN,aw aa];simpa using this
 have r2:qN q (ik (fh l) 0).length 12=(im l,0,(ik (fh l) 0++ik (im l) 0).length):=by
  have:=back (im l) hfg T (im l).length 0 (im l).length (ik (fh l) 0) false q aa aa hq3 aa (fun h=>kl);rw[l9]at this;rw[qN,aw aa];simpa using this
 unfold fK;rw[←RI,aw aa,r1];simp only;rw[r2];simp only;rw[aw ak,aw ak];have hpe:=aiv (qu l);rw[←hq]at hpe;have:=Ps hm (q:=q) (r:=pad (qu l)) hpe l (most.toNat+1) most (ik (fh l) 0++ik (im l) 0) [] (fun t h=>h) hp aa (by rw[hq3,hT];simp[bV])
 rwa [nG]at this
theorem zB(b:al):∀(f a:Nat),a≤b.length→gO (findF b f a)≤((b.length-a:Nat):Int)
 |0,a,h=>by simp only[findF,gO];omega
 |f+1,a,h=>by
  unfold findF;split
  ·rename_i ha;split
   ·rename_i h3;obtain⟨k1,k2⟩:=pB b a;obtain⟨k3,k4,k5,k6⟩:=k2 aa;have akb:=(k6 ((dD b a).1-1) aa).1;have:=zB b f (a+(dD b a).1) aa;unfold gO;simp only;omega
   ·have:=zB b f (a+1) aa;unfold gO;simp only;omega
  ·simp only[gO];omega
theorem xV(b:al):∀(f a:Nat),∀t∈findF b f a,e_ t
 |0,a,t,h=>by cases h
 |f+1,a,t,h=>by
  unfold findF at h;split at h
  ·rename_i ha;split at h
   ·rename_i h3;obtain⟨k1,k2⟩:=pB b a;obtain⟨k3,k4,k5,k6⟩:=k2 aa;rcases fk.1 h with e|e
    ·subst e;unfold e_;rw[aw cY];exact⟨rfl,cY,cY,cY,cY⟩
    ·exact xV b f _ t e
   ·rcases fk.1 h with e|e
    ·subst e;unfold e_;rw[ao rfl]
    ·exact xV b f _ t e
  ·cases h
theorem IC:type_of% @BitVec.toNat_ofInt:= @BitVec.toNat_ofInt
theorem VA:type_of% @Nat.shiftRight_eq_div_pow:= @Nat.shiftRight_eq_div_pow
theorem yZ{x:Int}(h1:0≤x)(h2:x<4294967296):IntKind.u32.wrap x=x:=by
 have e:IntKind.u32.wrap x=x%2^32:=rfl;rw[e];omega
theorem an6{k:IntKind}{a b:Nat}(ha:a<2^k.bits)(hb:b<2^k.bits):(BitVec.ofInt k.bits (a:Int) ^^^ BitVec.ofInt k.bits (b:Int)).toNat=a ^^^ b:=by
 rw[BitVec.toNat_xor,IC,IC];have h1:((a:Int)%((2^k.bits:Nat):Int)).toNat=a:=by
  rw[←Int.natCast_emod,i_ ha];rfl
 have h2:((b:Int)%((2^k.bits:Nat):Int)).toNat=b:=by
  rw[←Int.natCast_emod,i_ hb];rfl
 rw[h1,h2]
theorem ak'{k:IntKind}{a b:Nat}(ha:a<2^k.bits)(hb:b<2^k.bits):(BitVec.ofInt k.bits (a:Int) &&& BitVec.ofInt k.bits (b:Int)).toNat=a &&& b:=by
 rw[BitVec.toNat_and,IC,IC];have h1:((a:Int)%((2^k.bits:Nat):Int)).toNat=a:=by
  rw[←Int.natCast_emod,i_ ha];rfl
 have h2:((b:Int)%((2^k.bits:Nat):Int)).toNat=b:=by
  rw[←Int.natCast_emod,i_ hb];rfl
 rw[h1,h2]
theorem Jo{a b:Nat}(ha:a<4294967296)(hb:b<4294967296):IntKind.u32.wrap ((BitVec.ofInt IntKind.u32.bits (a:Int) ^^^ BitVec.ofInt IntKind.u32.bits (b:Int)).toNat:Int)=((a ^^^ b:Nat):Int):=by
 rw[an6 (k:=.u32) ha hb];have:=vZ (n:=32) ha hb;exact yZ aa aa
theorem aaW{a b:Nat}(ha:a<4294967296)(hb:b<4294967296):IntKind.u32.wrap ((BitVec.ofInt IntKind.u32.bits (a:Int) &&& BitVec.ofInt IntKind.u32.bits (b:Int)).toNat:Int)=((a &&& b:Nat):Int):=by
 rw[ak' (k:=.u32) ha hb];have:=NP (n:=32) a hb;exact yZ aa aa
theorem ajE{a b:Nat}(ha:a<256)(hb:b<256):IntKind.u8.wrap ((BitVec.ofInt IntKind.u8.bits (a:Int) ^^^ BitVec.ofInt IntKind.u8.bits (b:Int)).toNat:Int)=((a ^^^ b:Nat):Int):=by
 rw[an6 (k:=.u8) ha hb];have:=vZ (n:=8) ha hb;exact aaF aa aa
theorem aoh{a b:Nat}(ha:a<256)(hb:b<256):IntKind.u8.wrap ((BitVec.ofInt IntKind.u8.bits (a:Int) &&& BitVec.ofInt IntKind.u8.bits (b:Int)).toNat:Int)=((a &&& b:Nat):Int):=by
 rw[ak' (k:=.u8) ha hb];have:=NP (n:=8) a hb;exact aaF aa aa
theorem G5(a k:Nat):((a:Nat):Int).fdiv (2^k)=((a >>> k:Nat):Int):=by
 rw[we _ (Int.le_of_lt (Int.pow_pos aB)),VA];rw[Int.natCast_ediv];congr 1
theorem SV(a k:Nat):a >>> k≤a:=by rw[VA];exact ri _ _
theorem yf:type_of% @Nat.le_of_not_lt:= @Nat.le_of_not_lt
theorem wh:type_of% @Nat.add_sub_cancel:= @Nat.add_sub_cancel
theorem BH:type_of% @List.drop_left:= @List.drop_left
def yR:bf:=[0,498536548,997073096,651767980,1994146192,1802195444,1303535960,1342533948,3988292384,4027552580,3604390888,3412177804,2607071920,2262029012,2685067896,3183342108]
def zr(x:Nat):Nat:=(x >>> 4) ^^^ yR.getD (x &&& 15) 0
def QO(x:Nat)(c:UInt8):Nat:=zr (zr (x ^^^ c.toNat))
def pT(s:Nat)(b:al):Nat:=4294967295 ^^^ b.foldl QO (4294967295 ^^^ s)
theorem FD(k:Nat):yR.getD k 0<4294967296:=by
 have mJ:∀x∈yR,x<4294967296:=by decide
 by_cases h:k<yR.length
 ·rw[bk,fm h];exact mJ _ (ub h)
 ·rw[bk,zX (yf h)];decide
theorem JS{x:Nat}(h:x<4294967296):zr x<4294967296:=by
 have h1:=SV x 4;exact vZ (n:=32) aa (FD _)
theorem ag7{x:Nat}(h:x<4294967296)(c:UInt8):QO x c<4294967296:=by
 have h1:=c.toNat_lt;exact JS (JS (vZ (n:=32) h aa))
def my(s:Nat):al:=[UInt8.ofNat s,UInt8.ofNat (s >>> 8),UInt8.ofNat (s >>> 16),UInt8.ofNat (s >>> 24)]
def cX(b:al):al:=b++my (pT 0 b)
def aJ(b:al):al×Int:=
 if b.length<4 then ([],1) else if b.drop (b.length-4)=my (pT 0 (b.take (b.length-4))) then (b.take (b.length-4),0) else ([],5)
theorem Z9(s:Nat):(my s).length=4:=rfl
theorem du(b:al):(cX b).length=b.length+4:=by simp[cX,Z9]
theorem jt(b:al):aJ (cX b)=(b,0):=by
 unfold aJ;rw[aw (by rw[du];omega),du,wh];have h1:(cX b).take b.length=b:=by unfold cX;rw[yk]
 have h2:(cX b).drop b.length=my (pT 0 b):=by unfold cX;rw[BH]
 rw[h1,h2,ao rfl]
theorem sX:type_of% @Nat.mod_lt:= @Nat.mod_lt
def aS:Nat→al
 |x=>if h:128≤x then UInt8.ofNat (128+x%128)::aS (x/128) else [UInt8.ofNat x]
 termination_by x=>x
 decreasing_by omega
theorem ox{x:Nat}(h:x<128):aS x=[UInt8.ofNat x]:=by
 rw[aS];simp;omega
theorem uX{x:Nat}(h:128≤x):aS x=UInt8.ofNat (128+x%128)::aS (x/128):=by
 rw[aS];simp[h]
theorem M4(k:Nat):∀x,x<128^(k+1)→(aS x).length≤k+1:=by
 induction k with
 |zero=>intro x h;rw[ox ny];simp
 |succ k ih=>
  intro x h;by_cases hx:128≤x
  ·rw[uX hx];have:=ih (x/128) (by rw[nK]at h;omega);simp;omega
  ·rw[ox aa];simp
theorem aT{x:Nat}(h:x<18446744073709551616):(aS x).length≤10:=by
 have:(128:Nat)^10=1180591620717411303424:=by decide+kernel
 exact M4 9 x aa
theorem u8n(x:Nat)(h:x<256):(UInt8.ofNat x).toNat=x:=by simp;omega
theorem JI(x:Nat)(h:x<256):bv [UInt8.ofNat x]=[.int .u8 (x:Int)]:=by simp only[bv,kC,GV,u8n x h]
def fo(l:al):al:=aS l.length++l
def fF(x:Nat):Nat→al
 |0=>[]
 |k+1=>fF x k++[UInt8.ofNat (x/2^(8*k)%256)]
@[simp] theorem qb(x k:Nat):(fF x k).length=k:=by induction k with
 |zero=>rfl
 |succ k ih=>simp[fF,ih]
theorem UU{x n k:Nat}(h:k<n)(u:Value)(hu:u= .int .u8 ((x/2^(8*k)%256:Nat):Int)):
  (bv (fF x k)++List.replicate (n-k) (Value.int .u8 0)).set k u=bv (fF x (k+1))++List.replicate (n-(k+1)) (Value.int .u8 0):=by
 rw[Wn _ h,KX _ _ _ _ ak,hu,fF,gl,JI _ (sX _ aa)];simp
theorem WD:sJ Tryz.prog 27 5 1 1 (.int .u8 0):=ld underlying27 ag rfl aa
theorem adT{x k:Nat}{pre:al}(h:aS x=pre++aS k)(hk:128≤k):aS x=(pre++[UInt8.ofNat (128+k%128)])++aS (k/128):=by
 rw[h,uX hk];simp
theorem ais(k:Nat):bits .or .u8 ((k:Int)%256) 128=((128+k%128:Nat):Int):=by
 have h:=u8_or (k%256) 128 aa aa;rw[ad8 _ aa]at h;rw[show((k:Int)%256)=((k%256:Nat):Int) from by omega];refine h.trans ?_;omega
def Hf(x k:Nat)(pre:al):Prop:=aS x=pre++aS k∧k≤x
theorem Hf.ank{x k:Nat}{pre:al}(h:Hf x k pre)(hx:x<18446744073709551616):pre.length≤10:=by
 have h1:=dB List.length h.1;have h2:=aT hx;simp at h1;omega
theorem Hf.more{x k:Nat}{pre:al}(h:Hf x k pre)(hk:128≤k):Hf x (k/128) (pre++[UInt8.ofNat (128+k%128)]):=
 ⟨adT h.1 hk,(by have:=h.2;omega)⟩
set_option maxRecDepth 100000 in
set_option maxHeartbeats 400000 in
theorem aqS(x:Nat)(hx:x<18446744073709551616)(w:World):
  Calls Tryz.prog 63 #[.int .u64 x] w fun e w'=>∃v,e= .returned v∧w'.ownsRow w.heap.size 5 1 v (aS x).length (bv (aS x))∧Below w.heap.size w w':=by
 go_enter func63,Tryz.ntmps63
 go_wp2
 go_loopw [0,3] (fun xv v wr=>∃(k:Nat) (pre:al),xv= .int .u64 k∧Hf x k pre∧wr.ownsRow w.heap.size 5 1 v pre.length (bv pre)∧Below w.heap.size w wr)
  (fun xv _ _=>(intOf xv).toNat)
 case atStart=>exact⟨x,[],rfl,⟨rfl,gi _⟩,World.ownsRow_nil _ _ _ _,GX _ _⟩
 case round=>
  obtain⟨k,pre,rfl,GJ,mo,hb⟩:=hrel;have hlen:=GJ.ank hx;have hkx:k≤x:=GJ.2;have hB:=hb.size;have hob:=ais k;by_cases ar6:128≤k
  ·go_wp2_with (first|(at_builtin;refine Xf WD rfl (.tmp 6) (.tmp 10) rfl rfl mo rfl rfl hb (gi _) hB aa aa ?_;intro v1 w1 Ee qd k_ hg1))
   go_roundw
   case rel=>exact⟨k/128,pre++[UInt8.ofNat (128+k%128)],by go_num,GJ.more ar6,SA Ee ak (by rw[gl,JI _ aa];congr 2),qd⟩
   case measure=>simp[intOf];omega
  ·go_wp2_with (first|(at_builtin;refine Xf WD rfl (.tmp 14) (.tmp 17) rfl rfl mo rfl rfl hb (gi _) hB aa aa ?_;intro v1 w1 Ee qd k_ hg1))
   go_ret
   have e:=GJ.1;rw[ox (by omega:k<128)]at e;refine⟨v1,rfl,SA Ee (by rw[e];simp) ?_,qd⟩;rw[e,gl,JI _ aa]
theorem W8:∃i,Tryz.prog.info? 5=some i∧i.zero=some (.int .u8 0)∧i.size=1∧i.bytes=1:=WD.hi
set_option maxRecDepth 100000 in
set_option maxHeartbeats 400000 in
theorem anM(s:ByteArray)(hs:s.size≤1099511627776)(w:World):
  Calls Tryz.prog 143 #[.string s] w fun e w'=>∃v,e= .returned v∧w'.ownsRow w.heap.size 5 1 v (fo s.data.toList).length (bv (fo s.data.toList))∧Below w.heap.size w w':=by
 obtain⟨i0,hi,hz0,Kn,vG⟩:=W8;have iZ:s.data.toList.length=s.size:=N2;have Hsz:=jH iZ;clear iZ;have hl:(aS s.size).length≤10:=aT aa
 go_enter func143,Tryz.ntmps143
 go_wp2_with (first|(go_at_call 63;refine(aqS _ aa _).mono ?_;rintro e w1 ⟨v1,rfl,mo,hb⟩)|(at_builtin;refine Lib.wpList_append_own_string _ rfl (.tmp 6) (.tmp 7) 27 9 rfl w.heap.size 5 i0 underlying27 underlying9 hi hz0 Kn vG _ _ _ rfl mo s rfl Bj aa hb.size ?_;intro v2 w2 Iu Nv _))
 go_ret
 refine⟨v2,rfl,SA Iu (by rw[fo,aY,Hsz.out]) (by rw[fo,gl,Hsz.out];rfl),hb.grown Nv hb.size fun k hk=>(mo.lt k hk).1⟩
theorem aa3{P:Prop}(h:P:=by(simp only[ef];omega)):P:=h
def dp:Nat→Nat→al→Nat×Nat×Int
 |_,_,[]=>(0,0,1)
 |i,acc,c::r=>
  if i=9∧c.toNat≠1∨0<i∧c.toNat=0 then (0,0,2)
  else if c.toNat<128 then (acc+c.toNat%128*128^i,i+1,0)
  else dp (i+1) (acc+c.toNat%128*128^i) r
def cO(l:al):Nat×Nat×Int:=dp 0 0 l
def eu(l:al)(most:Int):Nat×Nat×Int:=
 if (cO l).2.2≠0 then (0,0,(cO l).2.2)
 else if most<0∨most<(cO l).1 then (0,0,6)
 else ((cO l).1,(cO l).2.1,0)
structure Cs where
 b:al
 at_:Nat
 e:Int
def Cs.rest(s:Cs):al:=s.b.drop s.at_
def Cs.left(s:Cs):Nat:=s.b.length-s.at_
def Cs.failed(s:Cs)(e:Int):Cs:=if s.e=0 then {s with e:=e} else s
def Cs.ew(s:Cs)(n:Nat)(e:Int):Cs:=if s.e≠0 then s else if e≠0 then {s with e:=e} else {s with at_:=s.at_+n}
def Cs.num(s:Cs):Nat:=if s.e≠0 then 0 else (cO s.rest).1
def Cs.l7(s:Cs):Cs:=s.ew (cO s.rest).2.1 (cO s.rest).2.2
def Cs.int(s:Cs)(most:Int):Nat:=if s.e≠0 then 0 else (eu s.rest most).1
def Cs.bW(s:Cs)(most:Int):Cs:=s.ew (eu s.rest most).2.1 (eu s.rest most).2.2
def ij(l:al)(n:Int):Int:=if n<0 then 13 else if (l.length:Int)<n then 1 else 0
def Cs.take(s:Cs)(n:Int):al:=if s.e≠0 then [] else if ij s.rest n≠0 then [] else s.rest.take n.toNat
def Cs.b_(s:Cs)(n:Int):Cs:=s.ew n.toNat (ij s.rest n)
def Cs.byte(s:Cs):UInt8:=((s.take 1).head?).getD 0
def Cs.eJ(s:Cs):Cs:=s.b_ 1
def iN:al→Nat
 |[]=>0
 |c::r=>c.toNat+256*iN r
def Cs.fixed(s:Cs)(n:Int):Nat:=if n<1∨8<n then 0 else iN (s.take n)
def Cs.k9(s:Cs)(n:Int):Cs:=if n<1∨8<n then s.failed 13 else s.b_ n
def jN(l:al)(most:Int):al×Nat×Int:=
 if (eu l most).2.2≠0 then ([],0,(eu l most).2.2)
 else if l.length-(eu l most).2.1<(eu l most).1 then ([],0,1)
 else ((l.drop (eu l most).2.1).take (eu l most).1,(eu l most).2.1+(eu l most).1,0)
def Cs.text(s:Cs)(most:Int):al:=if s.e≠0 then [] else (jN s.rest most).1
def Cs.ey(s:Cs)(most:Int):Cs:=s.ew (jN s.rest most).2.1 (jN s.rest most).2.2
def Cs.xT(s:Cs):Cs:=if 0<s.left then s.failed 2 else s
theorem Fl:∀(l:al) (i acc:Nat),i≤9→acc<128^i→
  (dp i acc l).1<18446744073709551616∧(dp i acc l).2.1≤i+l.length∧0≤(dp i acc l).2.2∧(dp i acc l).2.2≤2:=by
 intro l;induction l with
 |nil=>intro i acc _ _;simp[dp]
 |cons c r ih=>
  intro i acc hi ha;unfold dp;have hp:128^(i+1)=128^i*128:=nK ..;by_cases h1:i=9∧c.toNat≠1∨0<i∧c.toNat=0
  ·rw[ao h1];simp
  ·rw[aw h1];have vX:acc+c.toNat%128*128^i<128^(i+1):=by
    have:c.toNat%128*128^i≤127*128^i:=oA _ aa;omega
   by_cases h2:c.toNat<128
   ·rw[ao h2];refine⟨?_,aa3,ak,ak⟩;show acc+c.toNat%128*128^i<_;rcases uh i 9 with h9|h9
    ·have:128^(i+1)≤128^9:=la aa aa;have e9:(128:Nat)^9=9223372036854775808:=by decide+kernel
     omega
    ·have h9':i=9:=by omega
     subst h9';have hc:c.toNat=1:=by omega
     have e9:(128:Nat)^9=9223372036854775808:=by decide+kernel
     have zM:acc<9223372036854775808:=Nat.lt_of_lt_of_eq ha e9;rw[hc,e9];clear hp vX ha e9;omega
   ·rw[aw h2];have h9:i<9:=by
     rcases uh i 9 with h9|h9
     ·exact h9
     ·exfalso;omega
    obtain⟨a,b,c',d⟩:=ih (i+1) _ aa vX;exact⟨a,by simp at b⊢;omega,c',d⟩
theorem fg(l:al):(cO l).1<18446744073709551616∧(cO l).2.1≤l.length∧0≤(cO l).2.2∧(cO l).2.2≤2:=by
 have:=Fl l 0 0 aa ak;simpa[cO]using this
theorem jy(l:al)(most:Int)(hm:most≤9223372036854775807):
  (eu l most).1≤9223372036854775807∧(eu l most).2.1≤l.length∧0≤(eu l most).2.2∧((eu l most).2.2=0→((eu l most).1:Int)≤most):=by
 have h:=fg l;unfold eu;split
 ·exact⟨ak,ak,h.2.2.1,fun h0=>by rename_i sa;exact absurd h0 sa⟩
 ·split
  ·exact⟨ak,ak,ak,ak⟩
  ·rename_i h2;exact⟨cY,h.2.1,ak,fun _=>cY⟩
theorem qg:type_of% @beq_eq_false_iff_ne:= @beq_eq_false_iff_ne
theorem mu:type_of% @List.drop_of_length_le:= @List.drop_of_length_le
theorem Qp(u:UInt8):bits .andNot .u8 (u.toNat:Int) 128=((u.toNat%128:Nat):Int):=by
 have:∀x:Fin 256,bits .andNot .u8 (x.val:Int) 128=((x.val%128:Nat):Int):=by decide+kernel
 exact this ⟨u.toNat,u.toNat_lt⟩
theorem OF(m y k:Nat)(h:m<2^k):m ||| y*2^k=m+y*2^k:=by
 rw[Nat.or_comm,nL,←NR h];omega
theorem ZU(m k:Nat)(u:UInt8)(hk:k≤9)(hm:m<128^k)(h9:k=9→u.toNat=1):
  bits .or .u64 (m:Int) (IntKind.u64.wrap (IntKind.u64.wrap (bits .andNot .u8 (u.toNat:Int) 128)*2^(7*k)))=((m+u.toNat%128*128^k:Nat):Int)∧
   (k<9→m+u.toNat%128*128^k<128^(k+1))∧m+u.toNat%128*128^k<18446744073709551616:=by
 have e7:(128:Nat)^k=2^(7*k):=by rw[show(128:Nat)=2^7 from rfl,←Nat.pow_mul]
 have vX:m+u.toNat%128*128^k<128^(k+1):=by
  have:u.toNat%128*128^k≤127*128^k:=oA _ aa;rw[nK];omega
 have e9:(128:Nat)^9=9223372036854775808:=by decide+kernel
 have fN:m+u.toNat%128*128^k<18446744073709551616:=by
  rcases uh k 9 with h|h
  ·have:(128:Nat)^(k+1)≤128^9:=la aa aa;rw[e9]at this;clear e9 e7;omega
  ·have hk9:k=9:=by omega
   have hu:=h9 hk9;have hm':m<9223372036854775808:=by rw[←e9,←hk9];exact hm
   rw[hu,hk9,e9];clear vX hm e7 e9;omega
 refine⟨?_,fun _=>vX,fN⟩;rw[Qp,wrap_u64 _ aa];have ep:((u.toNat%128:Nat):Int)*2^(7*k)=((u.toNat%128*2^(7*k):Nat):Int):=by
  rw[z6];congr 1
 rw[e7]at hm fN⊢;rw[ep,wrap_u64 _ aa,u64_or _ _ aa aa,OF _ _ _ hm]
def Qk(l:al)(k m:Nat):Prop:=cO l=dp k m (l.drop k)∧m<128^k∧k≤9
theorem drop_cons{l:al}{k:Nat}{u:UInt8}(h:l[k]? =some u):l.drop k=u::l.drop (k+1):=by
 have hk:=(zY.1 h)
 rw[N5 hk.1,hk.2]
theorem ann{a a' b b' c c':Value}(h1:a=a')(h2:b=b')(h3:c=c'):Ending.returned (.tuple #[a,b,c])= .returned (.tuple #[a',b',c']):=by rw[h1,h2,h3]
theorem int_eq{k:IntKind}{a b:Int}(h:a=b):Value.int k a= .int k b:=by rw[h]
set_option maxRecDepth 100000 in
set_option maxHeartbeats 1600000 in
theorem anu{B:Nat}{A:bj}{n c:Nat}{l:al}(w:World)(h:Rd w B 1 (.slice A n c) n (bv l))(hn:n≤1099511627776):
  Calls Tryz.prog 263 #[.slice A n c] w fun e w'=>e= .returned (.tuple #[.int .u64 ((cO l).1:Nat),ah ((cO l).2.1:Nat),ah (cO l).2.2])∧w=w':=by
 have Hr:=jH h;have Hl:=jH h.amC;clear h
 go_enter func263,Tryz.ntmps263
 go_wp2
 go_loop [2,5,6,9] (fun x i6 c6 i=>∃k m:Nat,k≤n∧i=ah k∧x= .int .u64 m∧Hid (Qk l k m)) (fun _ _ _ i=>n-(intOf i).toNat)
 case atStart=>exact⟨0,0,bS _,rfl,rfl,by simp[Hid,Qk,cO]⟩
 case round=>
  obtain⟨k,m,hk,rfl,rfl,HS⟩:=hrel;by_cases fN:k<n
  ·obtain⟨ad,u,rfl,_,hlu,fy⟩:=Hr.out.agT fN;have hs:=HS.out.1;have h9:=HS.out.2.2;rw[drop_cons hlu,dp]at hs;have HL:=jH hs;clear hs hlu;by_cases c1:k=9∧u.toNat≠1∨0<k∧u.toNat=0
   ·have e:=HL.out;rw[ao c1]at e;have HE:=jH e;clear e;by_cases hk9:k=9
    ·have b1:((u.toNat:Int) != 1)=true:=by rw[bne_iff_ne];omega
     have b9:((k:Int)==9)=true:=by rw[beq_iff_eq];omega
     clear hk9 c1
     go_wp2_with fail
     go_ret3
     rw[HE.out];exact⟨rfl,rfl⟩
    ·have b9:((k:Int)==9)=false:=by rw[qg];omega
     have b0:((u.toNat:Int)==0)=true:=by rw[beq_iff_eq];omega
     have k0:(0:Int)<k:=by omega
     go_wp2_with fail
     go_ret3
     rw[HE.out];exact⟨rfl,rfl⟩
   ·have sQ:=ZU m k u h9 HS.out.2.1 aa;have HT:=jH sQ;clear sQ;by_cases c2:u.toNat<128
    ·have e:=HL.out;rw[aw c1,ao c2]at e;have HE:=jH e;clear e;have b9:((k:Int)==9&&(u.toNat:Int) != 1)=false:=by
      rw[Bool.and_eq_false_iff,qg,bne_eq_false_iff_eq];omega
     by_cases hk9:k=9
     ·have b1:((u.toNat:Int) != 1)=false:=by rw[bne_eq_false_iff_eq];omega
      have b0:((u.toNat:Int)==0)=false:=by rw[qg];omega
      clear b9;have b9:((k:Int)==9)=true:=by rw[beq_iff_eq];omega
      have k0:(0:Int)<k:=by omega
      clear hk9 c1
      go_wp2_with fail
      go_ret3
      rw[HE.out];exact⟨ann (int_eq HT.out.1) rfl rfl,rfl⟩
     ·have b9:((k:Int)==9)=false:=by rw[qg];omega
      by_cases CC:k=0
      ·have k0:¬((0:Int)<k):=by omega
       have HK:=jH CC;clear CC
       go_wp2_with fail
       go_ret3
       rw[HE.out];exact⟨ann (int_eq HT.out.1) rfl rfl,rfl⟩
      ·have k0:(0:Int)<k:=by omega
       have b0:((u.toNat:Int)==0)=false:=by rw[qg];omega
       go_wp2_with fail
       go_ret3
       rw[HE.out];exact⟨ann (int_eq HT.out.1) rfl rfl,rfl⟩
    ·have e:=HL.out;rw[aw c1,aw c2]at e;have hk9:k<9:=by omega
     have HE:Hid (Qk l (k+1) (m+u.toNat%128*128^k)):=⟨e,HT.out.2.1 hk9,aa⟩
     clear e;have b9:((k:Int)==9)=false:=by rw[qg];omega
     by_cases CC:k=0
     ·have k0:¬((0:Int)<k):=by omega
      have HK:=jH CC;clear CC
      go_wp2_with fail
      go_round
      case rel=>exact⟨k+1,_,aa,by go_num,int_eq HT.out.1,HE⟩
      case measure=>simp[intOf];omega
     ·have k0:(0:Int)<k:=by omega
      have b0:((u.toNat:Int)==0)=false:=by rw[qg];omega
      go_wp2_with fail
      go_round
      case rel=>exact⟨k+1,_,aa,by go_num,int_eq HT.out.1,HE⟩
      case measure=>simp[intOf];omega
  ·have e:=HS.out.1;rw[mu (by have:=Hl.out;omega),dp]at e;have HE:=jH e;clear e
   go_wp2_with fail
   go_ret3
   rw[HE.out];exact⟨rfl,rfl⟩
section
variable{s:Cs}
theorem Hm{P:Prop}(h:P:=by(simp[Cs.failed,mD])):P:=h
structure ct(s:Cs):Prop where
 at_:s.at_≤s.b.length
 len:s.b.length≤1099511627776
theorem ct.rest{s:Cs}(h:ct s):s.rest.length=s.left∧s.left≤1099511627776:=by
 have:=h.at_;have:=h.len;exact⟨by simp[Cs.rest,Cs.left],by unfold Cs.left;omega⟩
theorem ct.ew{s:Cs}(h:ct s){k:Nat}{e:Int}(hk:e=0→k≤s.left):ct (s.ew k e):=by
 unfold Cs.ew;split
 ·exact h
 ·split
  ·exact⟨h.at_,h.len⟩
  ·rename_i h1;have:=hk C7;have:=h.at_;unfold Cs.left at*;exact⟨cY,h.len⟩
theorem ct.l7{s:Cs}(h:ct s):ct s.l7:=h.ew fun _=>by have:=(fg s.rest).2.1;rw[h.rest.1]at this;exact this
theorem ct.bW{s:Cs}(h:ct s){m:Int}(hm:m≤9223372036854775807):ct (s.bW m):=h.ew fun _=>by have:=(jy s.rest m hm).2.1;rw[h.rest.1]at this;exact this
theorem w_{l:al}{n:Int}(h:ij l n=0):0≤n∧n.toNat≤l.length:=by
 unfold ij at h;split at h
 ·cases h
 ·split at h
  ·cases h
  ·omega
theorem ct.b_{s:Cs}(h:ct s){n:Int}:ct (s.b_ n):=h.ew fun he=>by have:=(w_ he).2;rw[h.rest.1]at this;exact this
theorem Ph(l:al)(m:Int)(h:(jN l m).2.2=0):(jN l m).2.1≤l.length∨(jN l m).2.1=0:=by
 unfold jN at h⊢;split
 ·exact .inr rfl
 ·split
  ·exact .inr rfl
  ·rename_i h1 h2;by_cases hz:(eu l m).1=0
   ·left;have hk:(eu l m).2.1≤l.length:=by
     unfold eu;split
     ·simp
     ·split
      ·simp
      ·exact(fg l).2.1
    simp only;omega
   ·left;simp only;omega
theorem ct.ey{s:Cs}(h:ct s){m:Int}:ct (s.ey m):=h.ew fun he=>by
 have:=Ph s.rest m he;rw[h.rest.1]at this;omega
theorem ct.failed{s:Cs}(h:ct s)(e:Int):ct (s.failed e):=by
 unfold Cs.failed;split
 ·exact⟨h.at_,h.len⟩
 ·exact h
theorem ct.eJ{s:Cs}(h:ct s):ct s.eJ:=h.b_
theorem Cs.cN(s:Cs)(k:Nat)(e:Int):(s.ew k e).b=s.b:=by unfold Cs.ew;split<;>first|rfl|(split<;>rfl)
abbrev Cv(g:Nat)(A:bj)(c:Nat)(s:Cs):Ch:=.bE g 258 [.slice A s.b.length c,ah s.at_,ah s.e]
theorem UD{T:Nat}{s s':Cs}{a e:Int}{L:aQ}{m:Nat}(hb:s'.b=s.b)(ha:a=s'.at_)(he:e=s'.e){M:aQ}(k:Wk L M):Wk (.bE g T [.slice A s.b.length c,ah a,ah e]::L) (.bE g T [.slice A s'.b.length c,ah s'.at_,ah s'.e]::M):=by
 rw[hb,←ha,←he];exact k.cons
theorem UC(ho:ct s)(hb:aK B w0 F 1 (.slice A s.b.length c) s.b.length (bv s.b)):
  a_ B w0 238 [br g] (Cv g A c s::F) (fun r L=>∃A' c',r= .slice A' s.left c'∧aK B w0 F 1 (.slice A' s.left c') s.left (bv s.rest)∧L=Cv g A c s::F):=by
 have GJ:=ho.at_;have hcut:=hb.cut GJ;have e:(bv s.b).drop (s.at_*1)=bv s.rest:=by rw[cE,js];rfl
 rw[e]at hcut;refine fw func238 12 [0] ?_;refine jk ?_;refine bZ (bQ (i:=s.at_) (size:=1) underlying27 ag rfl rfl rfl aa) rfl ?_;refine bG ?_;exact⟨_,_,rfl,hcut,rfl⟩
theorem JN(ho:ct s)(hb:aK B w0 F 1 (.slice A s.b.length c) s.b.length (bv s.b)):
  a_ B w0 194 [br g] (Cv g A c s::F) (fun r L=>r=ah s.left∧L=Cv g A c s::F):=by
 refine fw func194 10 [0] ?_;refine alV ?_;refine aX ajX rfl (UC ho hb) rfl ?_;rintro _ _ ⟨Ar,cr,rfl,CB,cA⟩;obtain rfl:=cA.symm;refine bz ?_;exact⟨rfl,rfl⟩
theorem gM:a_ B w0 175 [br g] (Cv g A c s::F) (fun r L=>r=ah s.e∧L=Cv g A c s::F):=by
 refine fw func175 9 [0] ?_;refine ahu ?_;exact⟨rfl,rfl⟩
theorem uV(h:s.e≠0){fv:Value}:a_ B w0 219 [br g,fv] (Cv g A c s::F) (fun r L=>r= .bool false∧L=Cv g A c s::F):=by
 refine fw func219 35 [0,1] ?_;refine bO ?_;refine ai rfl (gM) ?_;refine bA ?_;refine aj (fun h9=>?_) fun h9=>?_
 ·refine bI ?_;exact⟨rfl,rfl⟩
 ·exfalso;exact h9 h
theorem xK(ho:ct s)(hb:aK B w0 F 1 (.slice A s.b.length c) s.b.length (bv s.b))(h0:s.e=0){ff:FuncId}{caps:cV}{R':aQ→Prop}{k:Nat}{er:Int}(Yx:aH Tryz.prog ff)(hk:k≤1099511627776)(vX:∀A' c',aK B w0 F 1 (.slice A' s.left c') s.left (bv s.rest)→a_ B w0 ff (.slice A' s.left c'::caps) (Cv g A c s::F) (fun r L=>r= .tuple #[ah k,ah er]∧∃F',R' F'∧L=Cv g A c s::F')):
  a_ B w0 219 [br g,.func (.func ff) #[] caps.toArray] (Cv g A c s::F) (fun r L=>r= .bool (decide (er=0))∧∃F',R' F'∧L=Cv g A c (s.ew k er)::F'):=by
 have GJ:=ho.at_;have hlen:=ho.len;refine fw func219 35 [0,1] ?_;refine bO ?_;refine ai rfl (gM) ?_;refine bA ?_;refine aj (fun h9=>?_) fun h9=>?_
 ·exfalso;exact h9 h0
 ·refine bI ?_;refine aX ajX rfl (UC ho hb) rfl ?_;rintro _ _ ⟨Ar,cr,rfl,CB,cA⟩;obtain rfl:=cA.symm;refine uN Yx rfl rfl (vX _ _ CB) rfl ?_;rintro _ _ ⟨rfl,F1,hF1,cA⟩;obtain rfl:=cA.symm;refine dQ ?_;refine aj (fun iM=>?_) fun iM=>?_
  ·refine bK ?_;refine ve [] ?_;refine bI ?_;refine aq (L':=Cv g A c (s.ew k er)::F1) (UD (m:=0) (Cs.cN s k er) (by simp[Cs.ew,h0,iM]) (by simp[Cs.ew,h0,iM]) (.refl _)) ?_;refine aF ?_;exact⟨by rw[lu iM],F1,hF1,rfl⟩
  ·refine jk ?_;refine ve [] ?_;refine bK ?_;have Kh:er=0:=by omega
   refine aq (L':=Cv g A c (s.ew k er)::F1) (UD (m:=0) (Cs.cN s k er) (by simp[Cs.ew,h0,Kh]) (by simp[Cs.ew,h0,Kh]) (.refl _)) ?_;refine aF ?_;exact⟨by rw[jT Kh],F1,hF1,rfl⟩
theorem nr(er:Int):a_ B w0 174 [br g,ah er] (Cv g A c s::F) (fun r L=>r= .tuple #[]∧L=Cv g A c (s.failed er)::F):=by
 refine fw func174 17 [0,1] ?_;refine tS ?_;refine aj (fun mD=>?_) fun mD=>?_
 ·refine bI ?_;refine aq (L':=Cv g A c (s.failed er)::F) (UD (m:=0) Hm Hm Hm (.refl _)) ?_;refine aF ?_;exact⟨rfl,rfl⟩
 ·refine be ?_;refine aq (L':=Cv g A c (s.failed er)::F) (UD (m:=0) Hm Hm Hm (.refl _)) ?_;refine aF ?_;exact⟨rfl,rfl⟩
theorem aeQ{l:al}(hb:aK B w0 L0 1 (.slice A n c) n (bv l))(hn:n≤1099511627776):a_ B w0 263 [.slice A n c] L0 (fun r L=>r= .tuple #[.int .u64 (cO l).1,ah (cO l).2.1,ah (cO l).2.2]∧L=L0):=
 dL.of_same fun w hw=>anu w (hb w hw) hn
theorem KW:∀(l:al) (i acc:Nat),(dp i acc l).2.2≠0→(dp i acc l).1=0∧(dp i acc l).2.1=0:=by
 intro l;induction l with
 |nil=>intro i acc _;exact⟨rfl,rfl⟩
 |cons c r ih=>
  intro i acc h;unfold dp at h⊢;split
  ·exact⟨rfl,rfl⟩
  ·rename_i h1;rw[aw h1]at h;split
   ·rename_i h2;rw[ao h2]at h;exact absurd rfl h
   ·rename_i h2;rw[aw h2]at h;exact ih _ _ h
theorem ZT{l:al}(h:(cO l).2.2≠0):(cO l).1=0∧(cO l).2.1=0:=KW l 0 0 h
theorem pA{l:al}{m:Int}(h:(eu l m).2.2≠0):(eu l m).1=0∧(eu l m).2.1=0:=by
 unfold eu at h⊢;split
 ·exact⟨rfl,rfl⟩
 ·split
  ·exact⟨rfl,rfl⟩
  ·rename_i h1 h2;rw[aw h1,aw h2]at h;exact absurd rfl h
theorem Zr{x0:Value}{l:al}(hb:aK B w0 (.bE h3 60 [x0]::F) 1 (.slice A n c) n (bv l))(hn:n≤1099511627776):
  a_ B w0 320 [.slice A n c,br h3] (C0:: .bE h3 60 [x0]::F) (fun r L=>r= .tuple #[ah (cO l).2.1,ah (cO l).2.2]∧L=C0:: .bE h3 60 [.int .u64 (cO l).1]::F):=by
 refine fw func320 13 [0,1] ?_;refine bO ?_;refine ai rfl (aeQ aA hn) ?_;refine zI ?_;exact⟨rfl,rfl⟩
theorem abD(ho:ct s)(hb:aK B w0 F 1 (.slice A s.b.length c) s.b.length (bv s.b)):
  a_ B w0 296 [br g] (Cv g A c s::F) (fun r L=>r= .int .u64 s.num∧L=Cv g A c s.l7::F):=by
 by_cases h0:s.e=0
 ·have hkb:=(fg s.rest).2.1;rw[ho.rest.1]at hkb;have hlb:=ho.rest.2;refine fw func296 11 [0] ?_;refine bK ?_;refine bc fun g3=>?_;refine bz ?_;refine aX Uw rfl ((xK (F:=.bE g3 60 [.int .u64 0]::F) ho (aK.cons hb) h0 (caps:=[br g3]) (R':=fun F'=>F'= .bE g3 60 [.int .u64 (cO s.rest).1]::F) (k:=(cO s.rest).2.1) (er:=(cO s.rest).2.2) apC aa (fun A' c' CB=>(Zr CB aa).mono fun r L ⟨h1,h2⟩=>⟨h1,_,rfl,h2⟩)).perm swp) rfl ?_;rintro _ _ ⟨rfl,_,cA,rfl⟩;obtain rfl:=cA.symm;refine bB ?_;refine aj (fun h9=>?_) fun h9=>?_
  ·refine bK ?_;refine aq (L':=Cv g A c s.l7::F) (.cons (.skip (.refl _))) ?_;refine aF ?_;exact⟨by simp[Cs.num,h0,(ZT (show(cO s.rest).2.2≠0 from h9)).1],rfl⟩
  ·refine bO ?_;refine aq (L':=Cv g A c s.l7::F) (.cons (.skip (.refl _))) ?_;refine aF ?_;exact⟨by simp[Cs.num,h0],rfl⟩
 ·have e1:s.l7=s:=by simp[Cs.l7,Cs.ew,h0]
  have e2:s.num=0:=by simp[Cs.num,h0]
  rw[e1,e2];refine fw func296 11 [0] ?_;refine bK ?_;refine bc fun g3=>?_;refine bz ?_;refine ai rfl ((uV h0).perm swp) ?_;refine tS ?_;refine aq (L':=Cv g A c s::F) (.cons (.skip (.refl _))) ?_;refine aF ?_;exact⟨rfl,rfl⟩
end
end Go.Proofs.YtaodmbolhoafcaaGreatDoor
