/-
  Texts of one proof, joined: part 3. No condition.
-/
import Derived.Test.YtaodmbolhoafcaaGreatDoorZr2
import Derived.Test.YtaodmbolhoafcaaGreatDoorRows
import Derived.Lib.AppendStr
import Derived.Lib.SliceRun
open Go.RowKit Go.Proofs.Tryz
namespace Go.Proofs.YtaodmbolhoafcaaGreatDoor
set_option linter.unusedVariables false
set_option linter.unusedSimpArgs false
set_option maxRecDepth 20000
variable{X:cV}{B:Nat}{w0:World}{F:aR}{A:bj}{n c g:Nat}{bt:TypeId}{f:Ch→aR}{Al:bj}{cl:Nat}{L0:aR}{h3 h5:Nat}{C0:Ch}
theorem aom{P:Prop}(h:P:=by(exact dU (by first|(exact⟨fun h=>OT h hp,False.elim⟩)|omega|(simp at jB;done)))):P:=h
theorem agB{P:Prop}(h:P:=by(exact eU (by first|(exact⟨fun h=>OT h hp,False.elim⟩)|omega|(simp at jB;done)))):P:=h
theorem Ht{P:Prop}(h:P:=by(rw[ahM,gk])):P:=h
theorem aoL{P:Prop}(h:P:=by(rintro _ _ ⟨rfl,T5,c41,rfl⟩;exact gF)):P:=h
theorem Hu{P:Prop}(h:P:=by(rw[ahL,bV])):P:=h
theorem anY(q:List Bool)(b:Bool)(hq:q.length≤8000000):
  a_ B w0 212 [bq g,.int .u64 b.toNat] (.bE g bt (.slice A (packed q).length c::ah q.length::X):: .own 5 1 A (packed q).length c (bv (packed q))::F)
   (fun r L=>r= .tuple #[]∧∃A' c',L= .bE g bt (.slice A' (packed (q++[b])).length c'::ah (q++[b]).length::X):: .own 5 1 A' (packed (q++[b])).length c' (bv (packed (q++[b])))::F):=by
 have mG:=dJ q;have hrl:=BQ q;have oP:=Bool.toNat_le b;refine fw func212 48 [0,1] ?_;refine d_ (fun zf zL=>∃(A':bj) (c':Nat),Sub zf [(0,bq g),(1,.int .u64 b.toNat)]∧Wk zL (.bE g bt (.slice A' (room q).length c'::ah q.length::X):: .own 5 1 A' (room q).length c' (bv (room q))::F)) ?_ ?_
 ·refine bB ?_;refine ae (qd rfl rfl aa (PE _)) rfl ?_;refine bH ?_;refine aj (fun h9=>?_) fun h9=>?_
  ·refine bB ?_;refine dK cN rfl rfl rfl rfl rfl (fun _=>rfl) aV aa aa ?_;intro _ A16 c16;refine b8 ?_;exact bC ⟨A16,c16,bm,bp aoF (ax aa (by rw[←O' aa];simp[bv]) (.refl _))⟩
  ·refine aE ?_;exact bC ⟨A,c,bm,bp Xz (ax Xz Xz (.refl _))⟩
 ·rintro _ _ ⟨A',c',hs,hp⟩;refine aU hs hp ?_;clear hs hp;refine aE ?_;refine kG (A:=A') (n:=(room q).length) (xs:=bv (room q)) (.tail _ (.head _)) aa ?_;intro ad hA;subst hA;refine cC (.bE g bt (.slice (some ad) (room q).length c'::ah q.length::X)::F) ?_;refine ab 0 ?_;refine ab 1 ?_;refine ab 2 ?_;refine ab 3 ?_;refine ab 4 ?_;refine ab 5 ?_;refine ab 6 ?_;refine ab 7 ?_;refine aW 8 rfl (qc rfl rfl aa (aiJ aa)) ?_;refine aW 9 rfl (aP (size:=1) (i:=q.length/8) underlying27 ag rfl rfl rfl aa) ?_;refine ab 11 ?_;refine ab 12 ?_;refine ab 13 ?_;refine ab 14 ?_;refine ab 15 ?_;refine ab 16 ?_;refine aW 17 rfl (qd rfl rfl aa (PE _)) ?_;refine ab 18 ?_;refine aW 19 rfl (gb rfl rfl aa (akG aa)) ?_;refine az 10 ?_;refine aE ?_;refine aW 20 rfl (tL rfl rfl (ad7 q b)) ?_;refine aW 21 rfl (aP (size:=1) (i:=q.length/8) underlying27 ag rfl rfl rfl aa) ?_;refine az 22 ?_;refine kO rfl .no (iL ag rfl rfl rfl aV (by rw[abi];omega)) Gy ?_;rintro _ _ rfl;refine cP [0] ?_;refine cD ?_;refine ao (L':=.bE g bt (.slice (some ad) (packed (q++[b])).length c'::ah (q++[b]).length::X):: .own 5 1 (some ad) (packed (q++[b])).length c' (bv (packed (q++[b])))::F) (bp agE (ax agE (by rw[cE,abj,Ff]) (.refl _))) ?_;refine aE ?_;exact⟨rfl,_,c',rfl⟩
abbrev Wx(X:cV)(g:Nat)(bt:TypeId)(A:bj)(c:Nat)(q:List Bool)(F:aR):aR:=.bE g bt (.slice A (packed q).length c::ah q.length::X):: .own 5 1 A (packed q).length c (bv (packed q))::F
theorem Be(q:List Bool)(v:Nat)(hv:v<18446744073709551616)(n:Nat)(hn:n≤64)(hp:v<2^n)(hq:q.length≤7000000):
  a_ B w0 153 [bq g,.int .u64 v,ah n] (Wx X g bt A c q F)
   (fun r L=>r=ah 0∧∃A' c',L=Wx X g bt A' c' (q++hi v n n) F):=by
 refine fw func153 42 [0,1,2] ?_;refine bM ?_;refine bR 20 27 [0,1,2] (False) ?_ ?_
 ·refine bP ?_;refine aI rfl rfl rfl (fun jC=>?_) (fun jC=>?_)
  ·refine bI ?_;refine aI rfl rfl rfl (fun iU=>?_) (fun iU=>?_)
   ·refine bI ?_;refine ct (fun lV=>?_) fun lV=>?_
    ·refine b8 ?_;refine ae (di rfl rfl aa (Fo v (e:=n) rfl aa)) rfl ?_;refine bI ?_;exact aM aom
    ·refine bB ?_;exact aM (by rfl)
   ·refine bM ?_;exact aM agB
  ·refine cD ?_;exact aM agB
 ·refine be ?_;refine dj fun ku=>?_;refine dm ?_;refine aD (fun zf zL zm=>∃(m:Nat) (A':bj) (c':Nat),(m≤n)∧n-m=zm∧Sub zf [(0,bq g),(1,.int .u64 v),(7,ah ((n:Int)-m-1))]∧Wk zL (Wx X g bt A' c' (q++hi v n m) F)) _ ⟨0,A,c,bS _,rfl,bm,bp Ht (ax Ht Ht (.refl _))⟩ ?_;rintro _ _ _ ⟨m,A',c',hm,rfl,hs,hp⟩;refine aU hs hp ?_;clear hs hp;have wR:(q++hi v n m).length=q.length+m:=by rw[aX,dM]
  refine bD ?_;refine aj (fun D4=>?_) fun D4=>?_
  ·refine b8 ?_;refine cC F ?_;refine ab 0 ?_;refine ab 1 ?_;refine ab 2 ?_;refine ab 3 ?_;refine ab 4 ?_;refine aW 5 rfl (di rfl rfl aa (Fo v (e:=n-1-m) aa aa)) ?_;refine aW 6 rfl (jZ rfl rfl (WB v _ hv)) ?_;refine az 7 ?_;refine gC rfl .no UC rfl (anY (q++hi v n m) (v.testBit (n-1-m)) aa) rfl aoL ?_;rintro _ _ ⟨rfl,T5,c41,cJ⟩;obtain rfl:=cJ.symm;refine bM ?_;refine av ⟨_,aa,m+1,T5,c41,aa,rfl,bm,bp Hu (ax Hu Hu (.refl _))⟩
  ·refine cD ?_;have hm':m=n:=by omega
   subst hm';exact⟨rfl,A',c',rfl⟩
theorem agh(q:List Bool)(hq:q.length≤8000000):a_ B w0 155 [bq g] (Wx X g bt A c q F) (fun r L=>∃A' c',r= .slice A' (packed q).length c'∧L= .own 5 1 A' (packed q).length c' (bv (packed q))::Wx X g bt A c q F):=by
 have mG:=dJ q;refine fw func155 11 [0] ?_;refine D3 ?_;refine ay rfl (l9 (packed q) aB aa) fun xq HI=>?_;refine bI ?_;exact⟨xq,HI,rfl,rfl⟩
theorem Xx{P:Prop}(h:P:=by(exact dU (by first|omega|(exact⟨fun h=>by omega,fun h=>by omega⟩)))):P:=h
theorem aov{P:Prop}(h:P:=by(exact eT (by first|omega|(exact⟨fun h=>by omega,fun h=>by omega⟩)))):P:=h
theorem abq{l:al}(hg:Good l)(hb:fq B w0 F Al cl l):a_ B w0 286 [.slice Al l.length cl] F (fun r L=>r=ah 0∧L=F):=by
 have h:=zp l hb;rw[xF hg]at h;exact h
def cz(l:al):Nat→Nat→Nat
 |_,0=>0
 |i,f+1=>if i<l.length∧(l.getD i 0).toNat=0 then cz l (i+1) f+1 else 0
theorem abK(l:al):∀f i,cz l i f≤f
 |0,i=>gj _
 |f+1,i=>by
  rw[cz];split
  ·have:=abK l f (i+1);omega
  ·omega
theorem akb(l:al):∀f i,i≤l.length→i+cz l i f≤l.length
 |0,i,h=>h
 |f+1,i,h=>by
  rw[cz];split
  ·have:=akb l f (i+1) aa;omega
  ·omega
theorem apx{l:al}{i m:Nat}(hm:m<63)(h1:i+m<l.length)(h2:(l.getD (i+m) 0).toNat=0)(h:cz l i 63=m+cz l (i+m) (63-m)):cz l i 63=(m+1)+cz l (i+(m+1)) (63-(m+1)):=by
 rw[h,show 63-m=(63-(m+1))+1 by omega,cz,aq ⟨h1,h2⟩,show i+m+1=i+(m+1) by omega];omega
theorem alC{l:al}{i m:Nat}(hn:¬(m<63∧i+m<l.length∧(l.getD (i+m) 0).toNat=0))(h:cz l i 63=m+cz l (i+m) (63-m)):cz l i 63=m:=by
 rw[h];by_cases hm:m<63
 ·rw[show 63-m=(63-(m+1))+1 by omega,cz,aw (fun h=>hn ⟨hm,h.1,h.2⟩)];rfl
 ·rw[show 63-m=0 by omega];rfl
def iq(l:al)(i:Nat):List Bool:=
 if h:i<l.length then if (l.getD i 0).toNat=0 then hi 0 4 4++(hi (cz l (i+1) 63) 6 6++iq l (i+1+cz l (i+1) 63)) else hi (l.getD i 0).toNat 4 4++iq l (i+1) else []
termination_by l.length-i
theorem xS{l:al}{i:Nat}(h:¬i<l.length):iq l i=[]:=by rw[iq,dif_neg h]
theorem DN{l:al}{i:Nat}(h:i<l.length)(h0:¬(l.getD i 0).toNat=0):iq l i=hi (l.getD i 0).toNat 4 4++iq l (i+1):=by
 conv=>lhs;rw[iq,dif_pos h,aw h0]
theorem DO{l:al}{i m:Nat}(h:i<l.length)(h0:(l.getD i 0).toNat=0)(hm:cz l (i+1) 63=m):iq l i=hi 0 4 4++(hi m 6 6++iq l (i+1+m)):=by
 subst hm
 conv=>lhs;rw[iq,dif_pos h,aq h0]
theorem run_eq{q q' Q:List Bool}{l:al}{i m:Nat}(hq:q'++iq l i=Q)(h:i<l.length)(h0:(l.getD i 0).toNat=0)(hm:cz l (i+1) 63=m):q'++hi 0 4 4++hi m 6 6++iq l (i+1+m)=Q:=by
 rw[←hq,DO h h0 hm];simp[bV]
theorem ana{q' Q:List Bool}{l:al}{i:Nat}(hq:q'++iq l i=Q)(h:i<l.length)(h0:¬(l.getD i 0).toNat=0):q'++hi (l.getD i 0).toNat 4 4++iq l (i+1)=Q:=by
 rw[←hq,DN h h0];simp[bV]
theorem XJ(l:al)(q:List Bool)(hb:fq B w0 F Al cl l)(hg:Good l)(hq:q.length≤1000000):
  a_ B w0 247 [bq g,.slice Al l.length cl] (Wx X g bt A c q F) (fun r L=>r=ah 0∧∃A' c',L=Wx X g bt A' c' (q++iq l 0) F):=by
 have hf:=hg.1;have hf1:=hf.1;refine fw func247 64 [0,1] ?_;refine zM ?_;refine ai rfl (abq hg aB) ?_;refine bP ?_;refine dj fun nh=>?_;refine bP ?_;refine aD (fun zf zL zm=>∃(i:Nat) (q':List Bool) (A':bj) (c':Nat),(i≤l.length∧q'.length≤1000000+10*i∧q'++iq l i=q++iq l 0)∧l.length-i=zm∧Sub zf [(0,bq g),(1,.slice Al l.length cl),(6,ah i)]∧Wk zL (Wx X g bt A' c' q' F)) _ ⟨0,q,A,c,⟨bS _,aa,rfl⟩,rfl,bm,.refl _⟩ ?_;rintro _ _ _ ⟨i,q',A',c',⟨hik,hql,heq⟩,rfl,hs,hp⟩;refine aU hs hp ?_;clear hs hp;refine bP ?_;refine aj (fun iU=>?_) fun iU=>?_
 ·have hu:=hf.2 _ (bh (k:=i) aa 0);have tz:=abK l 63 (i+1);refine c_ ?_;refine aj (fun oO=>?_) fun oO=>?_
  ·refine bM ?_;refine ba Dk rfl (Be q' (l.getD i 0).toNat aa 4 aa aa aa) rfl ?_;rintro _ _ ⟨rfl,Qp,c30,cJ⟩;obtain rfl:=cJ.symm;refine bD ?_;refine ve [0,1,6] ?_;refine b8 ?_;refine av ⟨_,aa,i+1,q'++hi (l.getD i 0).toNat 4 4,Qp,c30,⟨aa,by rw[aX,dM];omega,ana heq aa aa⟩,rfl,bm,.refl _⟩
  ·refine bP ?_;refine aD (fun zf zL zm=>∃(m:Nat),(m≤63∧i+1+m≤l.length∧cz l (i+1) 63=m+cz l (i+1+m) (63-m))∧63-m=zm∧Sub zf [(0,bq g),(1,.slice Al l.length cl),(6,ah i),(7,ah (m+1:Nat))]∧Wk zL (Wx X g bt A' c' q' F)) _ ⟨0,⟨aa,aa,ak⟩,rfl,bm,.refl _⟩ ?_;rintro _ _ _ ⟨m,⟨aqj,hmi,hcz⟩,rfl,hs,hp⟩;refine aU hs hp ?_;clear hs hp;refine bH ?_;refine bR 19 51 [0,1,6,7] (m<63∧i+1+m<l.length∧(l.getD (i+1+m) 0).toNat=0) ?_ ?_
   ·refine bH ?_;refine ct (fun tR=>?_) fun tR=>?_
    ·refine c_ ?_;refine ct (fun Yn=>?_) fun Yn=>?_
     ·refine bM ?_;refine ae (aG (i:=i+1+m) underlying27 ag rfl rfl aa aa aB) rfl ?_;refine bI ?_;exact aM Xx
     ·refine bD ?_;exact aM aov
    ·refine i_ ?_;exact aM aov
   ·refine be ?_;refine aj (fun h51=>?_) fun h51=>?_
    ·refine bP ?_;refine av ⟨_,aa,m+1,⟨aa,aa,apx aa aa aa hcz⟩,rfl,bm,.refl _⟩
    ·have hce:=alC h51 hcz;refine bM ?_;refine ba Dk rfl (Be q' 0 aa 4 aa aa aa) rfl ?_;rintro _ _ ⟨rfl,A55,c55,cJ⟩;obtain rfl:=cJ.symm;refine bD ?_;refine ae (bw underlying3 underlying60 rfl ((ga aa aa).trans (show _=((m:Nat):Int) by omega))) rfl ?_;refine ba Dk rfl (Be (q'++hi 0 4 4) m aa 6 aa aa (by rw[aX,dM];omega)) rfl ?_;rintro _ _ ⟨rfl,A60,c60,cJ⟩;obtain rfl:=cJ.symm;refine bP ?_;refine av ⟨_,aa,i+1+m,q'++hi 0 4 4++hi m 6 6,A60,c60,⟨aa,by rw[aX,aX,dM,dM];omega,run_eq (q:=q) heq aa aa hce⟩,rfl,bm,.refl _⟩
 ·refine dm ?_;have ass:q'=q++iq l 0:=by rw[←heq,xS aa,gk]
  subst ass;refine aE ?_;exact⟨rfl,A',c',rfl⟩
theorem xT(l:al):∀n i,l.length-i≤n→(iq l i).length≤10*n
 |0,i,h=>by rw[xS aa];simp
 |n+1,i,h=>by
  by_cases Qh:i<l.length
  ·by_cases h0:(l.getD i 0).toNat=0
   ·rw[DO Qh h0 rfl,aX,aX,dM,dM];have:=xT l n (i+1+cz l (i+1) 63) aa;omega
   ·rw[DN Qh h0,aX,dM];have:=xT l n (i+1) aa;omega
  ·rw[xS Qh];simp
def gi(l:al):List Bool:=(List.range (8*l.length)).map fun i=>(l.getD (i/8) 0).toNat.testBit (7-i%8)
theorem dN(l:al):(gi l).length=8*l.length:=by simp[gi]
theorem yW(l:al){i:Nat}(h:i<8*l.length):gZ (gi l) i=(l.getD (i/8) 0).toNat/2^(7-i%8)%2:=by
 rw[QH,gZ,gi];congr 1;simp[bk,h]
theorem PT(l:al){k:Nat}(h:k<l.length):∀m,m≤8→part (gi l) (8*k) m=(l.getD k 0).toNat/2^(8-m)
 |0,_=>by
  have:=mH (l.getD k 0);rw[part];exact(BC aa).symm
 |m+1,hm=>by
  rw[part,PT l h m aa,yW l aa,show(8*k+m)/8=k by omega,show 7-(8*k+m)%8=7-m by omega,show 8-m=(7-m)+1 by omega,show 8-(m+1)=7-m by omega,nF,←Nat.div_div_eq_div_mul];omega
theorem pP(l:al):packed (gi l)=l:=by
 apply p6
 ·rw[dJ,dN];omega
 ·intro k h1 h2;have hk:k<l.length:=h2;have e:(packed (gi l)).getD k 0=l.getD k 0:=by
   rw[packed,sh _ (by rw[dN];omega),rA,PT l hk 8 aa];simp
  rwa [bk,fo h1,bk,fo h2]at e
def Fl(q:List Bool):Nat→Nat→Nat
 |i,0=>i
 |i,f+1=>if gZ q i=1 then i else Fl q (i+1) f
def Z(q:List Bool)(p:Nat):Nat:=Fl q p (q.length-p)
theorem agi{q:List Bool}{k:Nat}(h:gZ q k=1)(hk:k<q.length):Z q k=k:=by
 rw[Z,show q.length-k=(q.length-(k+1))+1 by omega,Fl,aq h]
theorem Lq{q:List Bool}{k:Nat}(h:¬gZ q k=1)(hk:k<q.length):Z q k=Z q (k+1):=by
 rw[Z,show q.length-k=(q.length-(k+1))+1 by omega,Fl,aw h];rfl
theorem Xh{q:List Bool}{k:Nat}(hk:q.length≤k):Z q k=k:=by
 rw[Z,show q.length-k=0 by omega];rfl
theorem an1(q:List Bool):∀f i,i≤Fl q i f
 |0,i=>gj _
 |f+1,i=>by
  rw[Fl];split
  ·exact gj _
  ·have:=an1 q f (i+1);omega
theorem aro(q:List Bool):∀f i,Fl q i f≤i+f
 |0,i=>gj _
 |f+1,i=>by
  rw[Fl];split
  ·omega
  ·have:=aro q f (i+1);omega
theorem ak3(q:List Bool)(p:Nat):p≤Z q p:=an1 q _ p
theorem art(q:List Bool){p:Nat}(h:p≤q.length):Z q p≤q.length:=by have:=aro q (q.length-p) p;unfold Z;omega
theorem V_(q:List Bool):∀m i,part q i (m+1)=gZ q i*2^m+part q (i+1) m
 |0,i=>by simp[part]
 |m+1,i=>by
  rw[part,V_ q m i,part,show i+(m+1)=i+1+m by omega,nF];have:gZ q i*(2^m*2)=2*(gZ q i*2^m):=by rw[←th,nG]
  omega
theorem IW(q:List Bool):∀f i,part q i f=0↔Fl q i f=i+f
 |0,i=>by simp[part,Fl]
 |f+1,i=>by
  rw[V_,Fl];have hb:=rT q i;split
  ·rename_i h;rw[h];have:=we f;omega
  ·rename_i h;have h0:gZ q i=0:=by omega
   rw[h0,sc,mC,IW q f (i+1)];omega
theorem aiA(q:List Bool){p:Nat}(h:p≤q.length):part q p (q.length-p)=0↔Z q p=q.length:=by
 rw[IW,Z,show p+(q.length-p)=q.length by omega]
def skE(q:List Bool)(p:Nat)(n:Int):Int:=if n<0 then 13 else if (q.length:Int)<p+n then 1 else 0
def skP(q:List Bool)(p:Nat)(n:Int):Nat:=if n<0 then p else if (q.length:Int)<p+n then p else p+n.toNat
def r_(q:List Bool)(p:Nat)(n:Int):Int:=if n<0∨64<n then 13 else if (q.length:Int)<p+n then 1 else 0
def oM(q:List Bool)(p:Nat)(n:Int):Nat:=if n<0∨64<n then 0 else if (q.length:Int)<p+n then 0 else part q p n.toNat
def iH(q:List Bool)(p:Nat)(n:Int):Nat:=if n<0∨64<n then p else if (q.length:Int)<p+n then p else p+n.toNat
def pkV(q:List Bool)(p:Nat)(n:Int):Nat:=if n<0∨64<n then 0 else part q p n.toNat
def pkN(q:List Bool)(p:Nat)(n:Int):Int:=if n<0∨64<n then 0 else min n (q.length-p)
def unV(q:List Bool)(p:Nat):Int:=if Z q p<q.length then Z q p-p else 0
def unR(q:List Bool)(p:Nat):Int:=if Z q p<q.length then 0 else 1
def unP(q:List Bool)(p:Nat):Nat:=if Z q p<q.length then Z q p+1 else p
def paE(q:List Bool)(p:Nat):Int:=if (q.length:Int)-p<8∧Z q p=q.length then 0 else 2
theorem qF{q:List Bool}{p:Nat}(n:Int)(h:p≤q.length):iH q p n≤q.length:=by
 unfold iH;split;· exact h
 split<;>omega
section
open Classical in
noncomputable def fin(acc:al)(p:Nat):al×Int×Nat:=if Good acc then (acc,0,p) else ([],7,p)
noncomputable def lG(q:List Bool)(N:Nat):Nat→Nat→al→Bool→al×Int×Nat
 |0,p,acc,s=>fin acc p
 |f+1,p,acc,s=>
  if N≤acc.length then fin acc p
  else if¬r_ q p 4=0 then ([],r_ q p 4,iH q p 4)
  else if¬oM q p 4=0 then lG q N f (iH q p 4) (acc++[UInt8.ofNat (oM q p 4)]) false
  else if¬r_ q (iH q p 4) 6=0 then ([],r_ q (iH q p 4) 6,iH q (iH q p 4) 6)
  else if s=true∨N≤acc.length+oM q (iH q p 4) 6 then ([],7,iH q (iH q p 4) 6)
  else lG q N f (iH q (iH q p 4) 6) (acc++List.replicate (oM q (iH q p 4) 6+1) 0) (decide (((oM q (iH q p 4) 6:Nat):Int)+1<64))
noncomputable def qP(q:List Bool)(p:Nat)(n:Int):al×Int×Nat:=if n<0∨300<n then ([],13,p) else lG q n.toNat n.toNat p [] false
section
variable{q:List Bool}{N f p:Nat}{acc:al}{s:Bool}{R:al×Int×Nat}
theorem Wh(h:lG q N f p acc s=R)(hl:N≤acc.length):R=fin acc p:=by
 subst h;cases f with
 |zero=>rfl
 |succ f=>rw[lG,aq hl]
theorem aer(h:lG q N f p acc s=R)(hf:N≤acc.length+f)(hl:acc.length<N):∃f',f=f'+1∧N≤acc.length+f'+1∧lG q N (f'+1) p acc s=R:=by
 cases f with
 |zero=>omega
 |succ f=>exact⟨f,rfl,aa,h⟩
theorem aiM(h:lG q N (f+1) p acc s=R)(hl:acc.length<N)(he:¬r_ q p 4=0):R=([],r_ q p 4,iH q p 4):=by
 rw[←h,lG,aw aa,aq he]
theorem Wi(h:lG q N (f+1) p acc s=R)(hl:acc.length<N)(he:r_ q p 4=0)(hv:¬oM q p 4=0):lG q N f (iH q p 4) (acc++[UInt8.ofNat (oM q p 4)]) false=R:=by
 rw[←h];conv=>rhs;rw[lG,aw aa,aw aa,aq hv]
theorem aep(h:lG q N (f+1) p acc s=R)(hl:acc.length<N)(he:r_ q p 4=0)(hv:oM q p 4=0)(he2:¬r_ q (iH q p 4) 6=0):R=([],r_ q (iH q p 4) 6,iH q (iH q p 4) 6):=by
 rw[←h,lG,aw aa,aw aa,aw aa,aq he2]
theorem aeq(h:lG q N (f+1) p acc s=R)(hl:acc.length<N)(he:r_ q p 4=0)(hv:oM q p 4=0)(he2:r_ q (iH q p 4) 6=0)(hs:s=true∨N≤acc.length+oM q (iH q p 4) 6):R=([],7,iH q (iH q p 4) 6):=by
 rw[←h,lG,aw aa,aw aa,aw aa,aw aa,aq hs]
theorem Wj(h:lG q N (f+1) p acc s=R)(hl:acc.length<N)(he:r_ q p 4=0)(hv:oM q p 4=0)(he2:r_ q (iH q p 4) 6=0)(hs:¬(s=true∨N≤acc.length+oM q (iH q p 4) 6)):lG q N f (iH q (iH q p 4) 6) (acc++List.replicate (oM q (iH q p 4) 6+1) 0) (decide (((oM q (iH q p 4) 6:Nat):Int)+1<64))=R:=by
 rw[←h];conv=>rhs;rw[lG,aw aa,aw aa,aw aa,aw aa,aw hs]
theorem zN(q:List Bool)(p:Nat){n:Nat}(hn:n≤64):oM q p n<2^n:=by
 unfold oM;split
 ·exact we n
 ·split
  ·exact we n
  ·exact qt q p n
theorem aoO{v:Nat}(hv:v<256)(l:al):bv l++[Value.int .u8 (v:Int)]=bv (l++[UInt8.ofNat v]):=by
 have:(UInt8.ofNat v).toNat=v:=by rw[oi];exact jc hv
 simp[bv,this]
theorem abk(l:al)(m:Nat):bv l++List.replicate m (Value.int .u8 0)=bv (l++List.replicate m 0):=by
 simp[bv]
theorem alK(h:chk acc=0):fin acc p=(acc,0,p):=by
 unfold fin;by_cases hg:Good acc
 ·rw[aq hg]
 ·rw[Cq hg]at h;omega
theorem alJ(h:¬chk acc=0):fin acc p=([],7,p)∧chk acc=7:=by
 unfold fin;by_cases hg:Good acc
 ·exact absurd (xF hg) h
 ·exact⟨aw hg,Cq hg⟩
end
theorem ab6{q:List Bool}{acc:al}{p:Nat}(h:p≤q.length):(fin acc p).2.2≤q.length:=by
 unfold fin;split<;>exact h
theorem SU(q:List Bool)(N:Nat):∀f p acc s,p≤q.length→(lG q N f p acc s).2.2≤q.length
 |0,p,acc,s,h=>ab6 h
 |f+1,p,acc,s,h=>by
  have h4:=qF (q:=q) (p:=p) 4 h;have h6:=qF (q:=q) (p:=iH q p 4) 6 h4;rw[lG];split
  ·exact ab6 h
  ·split
   ·exact h4
   ·split
    ·exact SU q N f _ _ _ h4
    ·split
     ·exact h6
     ·split
      ·exact h6
      ·exact SU q N f _ _ _ h6
theorem E7{q:List Bool}{p:Nat}(n:Int)(h:p≤q.length):(qP q p n).2.2≤q.length:=by
 unfold qP;split
 ·exact h
 ·exact SU q _ _ _ _ _ h
end
theorem aoB{P:Prop}(h:P:=by(rw[show p+1+i=p+(i+1) by omega];exact h0 _ (by omega))):P:=h
theorem yf:type_of% @List.length_replicate:= @List.length_replicate
theorem IF:type_of% @List.getElem?_replicate:= @List.getElem?_replicate
theorem mP{q r:List Bool}{i:Nat}(h:i<q.length):gZ (q++r) i=gZ q i:=by
 simp[gZ,bk,List.getElem?_append,h]
theorem kh(q r:List Bool)(i:Nat):gZ (q++r) (q.length+i)=gZ r i:=by
 simp[gZ,bk,List.getElem?_append,show¬q.length+i<q.length by omega]
theorem acV(v n:Nat){j:Nat}(h:j<n):gZ (hi v n n) j=v/2^(n-1-j)%2:=by
 rw[QH];simp[gZ,hi,bk,h]
theorem KP(q r:List Bool)(v n:Nat)(hv:v<2^n):∀m,m≤n→part (q++(hi v n n++r)) q.length m=v/2^(n-m)
 |0,_=>by rw[part,Ek,BC hv]
 |m+1,h=>by
  rw[part,KP q r v n hv m aa,kh,mP (by rw[dM];omega),acV v n aa,show n-m=(n-1-m)+1 by omega,show n-(m+1)=n-1-m by omega,nF,←Nat.div_div_eq_div_mul];omega
theorem ES(q r:List Bool)(v n:Nat)(hv:v<2^n):part (q++(hi v n n++r)) q.length n=v:=by
 rw[KP q r v n hv n (gj _),nA,Nat.pow_zero,Nat.div_one]
theorem ak2(Q:List Bool):∀m p,(∀i,i<m→gZ Q (p+i)=0)→gZ Q (p+m)=1→p+m<Q.length→Z Q p=p+m
 |0,p,_,h1,hl=>agi h1 hl
 |m+1,p,h0,h1,hl=>by
  have:=h0 0 aa;rw[Lq (by rw[tf]at this;omega) aa,ak2 Q m (p+1) (fun i hi=>aoB) (by rw[show p+1+m=p+(m+1) by omega];exact h1) aa];omega
theorem anM(n:Nat){j:Nat}(h:j<n):gZ (un n) j=0:=by
 rw[un,mP nu];simp[gZ,bk,h]
theorem ajz(n:Nat):gZ (un n) n=1:=by
 have:=kh (List.replicate n false) [true] 0;rw[yf,tf]at this;rw[un,this];rfl
theorem atw(q r:List Bool)(n:Nat):Z (q++(un n++r)) q.length=q.length+n:=by
 refine ak2 _ n _ (fun i hi=>?_) ?_ ?_
 ·rw[kh,mP (by rw[oT];omega),anM n hi]
 ·rw[kh,mP (by rw[oT];omega),ajz]
 ·simp[oT];omega
theorem agj(Q:List Bool):∀m p,p+m=Q.length→(∀i,i<m→gZ Q (p+i)=0)→Z Q p=Q.length
 |0,p,h,_=>by rw[Xh aa];omega
 |m+1,p,h,h0=>by
  have:=h0 0 aa;rw[Lq (by rw[tf]at this;omega) aa];exact agj Q m (p+1) aa (fun i hi=>aoB)
def pad(q:List Bool):List Bool:=List.replicate (8*((q.length+7)/8)-q.length) false
theorem w5(q:List Bool):(pad q).length=8*((q.length+7)/8)-q.length:=by simp[pad]
theorem toNat_inj{a b:Bool}(h:a.toNat=b.toNat):a=b:=by cases a<;>cases b<;>simp_all
theorem x8{q:List Bool}{i:Nat}(h:i<q.length):gZ q i=(q[i]).toNat:=by simp[gZ,bk,h]
theorem qM(q:List Bool):gi (packed q)=q++pad q:=by
 apply p6
 ·rw[dN,dJ,aX,w5];omega
 ·intro i h1 h2;apply toNat_inj;rw[←x8 h1,←x8 h2];have hl:i<8*(packed q).length:=by rw[dN]at h1;exact h1
  have hl':=hl;rw[dJ]at hl';have hp:((packed q).getD (i/8) 0).toNat=part q (8*(i/8)) 8:=by rw[packed,sh q aa,u9]
  rw[yW _ hl,hp];have e:=pJ q (8*(i/8)) (i%8+1) (7-i%8);rw[show i%8+1+(7-i%8)=8 by omega]at e;rw[e,part,show 8*(i/8)+i%8=i by omega];have hb:=rT q i;by_cases hq:i<q.length
  ·rw[mP hq];omega
  ·rw[xB q aa];have:=kh q (pad q) (i-q.length);rw[show q.length+(i-q.length)=i by omega]at this;rw[this,gZ];have hz:(pad q).getD (i-q.length) false=false:=by
    rw[pad,bk,IF];split<;>rfl
   rw[hz];simp
theorem arp(q:List Bool):Z (q++pad q) q.length=(q++pad q).length:=by
 refine agj _ (pad q).length _ ak (fun i hi=>?_);rw[kh,gZ];have hz:(pad q).getD i false=false:=by
  rw[pad,bk,IF];split<;>rfl
 rw[hz];rfl
abbrev BO:=UInt8×Nat×Int
def enc(x:BO):List Bool:=if x.1.toNat%2=0 then hi x.2.1 x.2.2.toNat x.2.2.toNat else un x.2.2.toNat
def acc(x:BO):Prop:=if x.1.toNat%2=0 then an7 x.2.1 x.2.2 else 0≤x.2.2∧x.2.2≤300
theorem qh:type_of% @UInt8.toNat_inj:= @UInt8.toNat_inj
theorem UK(l:al):∀f i j,j<cz l i f→(l.getD (i+j) 0).toNat=0
 |0,i,j,h=>by simp[cz]at h
 |f+1,i,j,h=>by
  rw[cz]at h;split at h
  ·rename_i h0;cases j with
   |zero=>exact h0.2
   |succ j=>
    have:=UK l f (i+1) j aa
    rwa [show i+1+j=i+(j+1) by omega]at this
  ·omega
theorem UJ(l:al):∀f i,cz l i f<f→i+cz l i f<l.length→¬(l.getD (i+cz l i f) 0).toNat=0
 |0,i,h,_=>by omega
 |f+1,i,h,h2=>by
  rw[cz]at h h2⊢;split at h
  ·rename_i h0;rw[aq h0]at h2⊢;have:=UJ l f (i+1) aa aa
   rwa [show i+1+cz l (i+1) f=i+(cz l (i+1) f+1) by omega]at this
  ·rename_i h0;rw[aw h0]at h2⊢;intro hz;exact h0 ⟨aa,by simpa using hz⟩
theorem Pv(l:al)(i:Nat):∀m,i+m≤l.length→(∀j,j<m→(l.getD (i+j) 0).toNat=0)→l.take (i+m)=l.take i++List.replicate m 0
 |0,_,_=>by simp
 |m+1,h,hz=>by
  have h0:l.getD (i+m) 0=0:=by
   have:=hz m aa;exact qh.1 (by simpa using this)
  rw[←NU,aZ aa 0,Pv l i m aa (fun j hj=>hz j aa),h0,List.replicate_succ',bV]
theorem got(q pre r:List Bool)(v:Nat){n:Nat}(hn:n≤64)(hv:v<2^n)(hq:q=pre++(hi v n n++r)):r_ q pre.length n=0∧oM q pre.length n=v∧iH q pre.length n=(pre++hi v n n).length:=by
 have hl:pre.length+n≤q.length:=by rw[hq];simp[dM]
 have hp:=ES pre r v n hv;rw[←hq]at hp;unfold r_ oM iH;rw[aw aa,aw aa,aw aa,aw aa,aw aa,aw aa,nC,hp];exact⟨rfl,rfl,by simp[dM]⟩
theorem back(l:al)(hg:Good l)(r:List Bool):∀n i f (pre:List Bool) s q,l.length-i≤n→i≤l.length→q=pre++(iq l i++r)→l.length≤i+f→(s=true→i<l.length→¬(l.getD i 0).toNat=0)→
  lG q l.length f pre.length (l.take i) s=(l,0,(pre++iq l i).length):=by
 intro n;induction n with
 |zero=>
  intro i f pre s q h1 h2 hq hf hs;have he:i=l.length:=by omega
  subst he;have:=Wh (q:=q) (N:=l.length) (f:=f) (p:=pre.length) (acc:=l.take l.length) (s:=s) rfl ak;rw[this,jN,fin,aq hg,xS aa,gk]
 |succ n ih=>
  intro i f pre s q h1 h2 hq hf hs;by_cases hil:i<l.length
  ·obtain⟨f',rfl⟩:∃f',f=f'+1:=⟨f-1,aa⟩
   have fP:(l.take i).length<l.length:=by rw[eV];omega
   have hu:=hg.1.2 _ (bh (k:=i) hil 0);by_cases h0:(l.getD i 0).toNat=0
   ·obtain⟨m,hm⟩:∃m,cz l (i+1) 63=m:=⟨_,rfl⟩
    have aqj:=abK l 63 (i+1);have hmi:=akb l 63 (i+1) aa;have sN:=UJ l 63 (i+1);have hzz:=UK l 63 (i+1);rw[hm]at aqj hmi sN hzz;have hen:=DO hil h0 hm;rw[hen,bV,bV]at hq;obtain⟨a1,a2,a3⟩:=got q pre _ 0 (n:=4) aa aa hq;have YJ:q=(pre++hi 0 4 4)++(hi m 6 6++(iq l (i+1+m)++r)):=by rw[hq,bV]
    obtain⟨b1,b2,b3⟩:=got q (pre++hi 0 4 4) _ m (n:=6) aa aa YJ;have a1':r_ q pre.length 4=0:=a1;have a2':oM q pre.length 4=0:=a2;have a3':iH q pre.length 4=(pre++hi 0 4 4).length:=a3;have b1':r_ q (pre++hi 0 4 4).length 6=0:=b1;have b2':oM q (pre++hi 0 4 4).length 6=m:=b2;have b3':iH q (pre++hi 0 4 4).length 6=(pre++hi 0 4 4++hi m 6 6).length:=b3;have hsf:¬(s=true∨l.length≤(l.take i).length+oM q (iH q pre.length 4) 6):=by
     rw[a3',b2',eV];rintro(h|h)
     ·exact hs h hil h0
     ·omega
    have tc:=Wj (q:=q) (N:=l.length) (f:=f') (p:=pre.length) (acc:=l.take i) (s:=s) rfl fP a1' a2' (by rw[a3'];exact b1') hsf;rw[←tc,a3',b2',b3'];have tZ:l.take i++List.replicate (m+1) 0=l.take (i+1+m):=by
     rw[show i+1+m=i+(m+1) by omega,Pv l i (m+1) aa (fun j hj=>?_)];cases j with
     |zero=>exact h0
     |succ j=>rw[show i+(j+1)=i+1+j by omega];exact hzz j aa
    rw[tZ];have hq3:q=(pre++hi 0 4 4++hi m 6 6)++(iq l (i+1+m)++r):=by rw[YJ];simp[bV]
    have:=ih (i+1+m) f' (pre++hi 0 4 4++hi m 6 6) (decide (((m:Nat):Int)+1<64)) q aa aa hq3 aa (fun hd hl=>sN (by have:=yn hd;omega) hl);rw[this,hen];simp[bV]
   ·have hen:=DN hil h0;rw[hen,bV]at hq;obtain⟨a1,a2,a3⟩:=got q pre _ (l.getD i 0).toNat (n:=4) aa aa hq;have a1':r_ q pre.length 4=0:=a1;have a2':oM q pre.length 4=(l.getD i 0).toNat:=a2;have a3':iH q pre.length 4=(pre++hi (l.getD i 0).toNat 4 4).length:=a3;have tc:=Wi (q:=q) (N:=l.length) (f:=f') (p:=pre.length) (acc:=l.take i) (s:=s) rfl fP a1' (by rw[a2'];exact h0);rw[←tc,a2',a3'];have tZ:l.take i++[UInt8.ofNat (l.getD i 0).toNat]=l.take (i+1):=by
     rw[aZ hil 0,UInt8.ofNat_toNat]
    rw[tZ];have hq3:q=(pre++hi (l.getD i 0).toNat 4 4)++(iq l (i+1)++r):=by rw[hq];simp[bV]
    have:=ih (i+1) f' (pre++hi (l.getD i 0).toNat 4 4) false q aa aa hq3 aa (fun h=>jY);rw[this,hen];simp[bV]
  ·exact ih i f pre s q aa h2 hq hf hs
theorem cZ{P:Prop}(h:P:=by(simp only;omega)):P:=h
theorem En:type_of% @List.filter_append:= @List.filter_append
theorem ua:type_of% @List.filter_cons:= @List.filter_cons
theorem BE:type_of% @List.mem_filter:= @List.mem_filter
def jl(l:al)(s k:Nat):bc:=(List.range s).filter fun i=>(l.getD i 0).toNat==k
def ld(l:al)(k:Nat):bc:=jl l l.length k
theorem m9(l:al)(s k:Nat):jl l (s+1) k=jl l s k++(if (l.getD s 0).toNat=k then [s] else []):=by
 unfold jl;rw[lk,En];congr 1;rw[ua,List.filter_nil];by_cases h:(l.getD s 0).toNat=k
 ·rw[aq h,aq nu]
 ·rw[aw h,aw nu]
theorem vn(l:al)(k:Nat):∀s,s≤l.length→(jl l s k).length=num (l.take s) k
 |0,_=>by simp[jl,num]
 |s+1,h=>by
  rw[m9,aX,vn l k s aa,jT k aa];split<;>simp
theorem Fz(l:al)(k:Nat):(ld l k).length=num l k:=by
 unfold ld;rw[vn l k _ (gj _),jN]
theorem FA(l:al)(k s:Nat):∀d,∃r,jl l (s+d) k=jl l s k++r
 |0=>⟨[],ak⟩
 |d+1=>by
  obtain⟨r,hr⟩:=FA l k s d;exact⟨_,by rw[←NU,m9,hr,bV]⟩
theorem Tc{l:al}{s k:Nat}(hs:s<l.length)(h:(l.getD s 0).toNat=k):(ld l k).getD (num (l.take s) k) 0=s:=by
 obtain⟨r,hr⟩:=FA l k (s+1) (l.length-(s+1));rw[show s+1+(l.length-(s+1))=l.length by omega]at hr;unfold ld;have hl:=vn l k s aa;rw[hr,m9,aq h,←hl];simp[bk]
theorem afa{l:al}{s k i:Nat}(h:i∈jl l s k):i<s∧(l.getD i 0).toNat=k:=by
 unfold jl at h;obtain⟨h1,h2⟩:=BE.1 h;exact⟨ky.1 h1,oW⟩
def oz(l:al)(k:Nat):Nat:=if num l k=0 then 0 else fst l k
def nx(l:al)(x k:Nat):Option Nat:=if oz l k≤x∧x<oz l k+num l k then some ((ld l k).getD (x-oz l k) 0) else none
def vX(l:al)(x k:Nat):Nat→Nat→Bool
 |0,_=>false
 |f+1,j=>if 15<j then false else if 0<num l j∧x*2^(j-k)<oz l j+num l j∧oz l j<x*2^(j-k)+2^(j-k) then true else vX l x k f (j+1)
def acD(l:al)(x k:Nat):Bool:=vX l x k 15 (k+1)
def ny(l:al)(q:List Bool)(p n:Nat):Nat→Nat→Option (Nat×Nat)
 |0,_=>none
 |f+1,k=>if n<k then none else match nx l (part q p k) k with
  |some s=>some (s,k)
  |none=>ny l q p n f (k+1)
def there(q:List Bool)(p:Nat):Nat:=min 15 (q.length-p)
def fC(l:al)(q:List Bool)(p:Nat):Int×Int×Nat:=
 match ny l q p (there q p) 15 1 with
 |some (s,k)=>(s,0,p+k)
 |none=>(-1,if there q p<15∧acD l (part q p (there q p)) (there q p)=true then 1 else 7,p)
def hw(l:al)(s:Nat):List Bool:=hi (place l (l.getD s 0).toNat s) (l.getD s 0).toNat (l.getD s 0).toNat
theorem mV(l:al)(s:Nat):(hw l s).length=(l.getD s 0).toNat:=dM _ _ _
theorem acN{l:al}{x k s:Nat}(h:nx l x k=some s):s<l.length∧(l.getD s 0).toNat=k:=by
 unfold nx at h;split at h
 ·rename_i hc;injection h with h;have hl:=Fz l k;have hm:(ld l k).getD (x-oz l k) 0∈ld l k:=bh aa 0;rw[h]at hm;exact afa hm
 ·cases h
theorem ND{l:al}{q:List Bool}{p n s k:Nat}:∀(f j:Nat),ny l q p n f j=some (s,k)→j≤k∧k≤n∧nx l (part q p k) k=some s
 |0,j,h=>by cases h
 |f+1,j,h=>by
  unfold ny at h;split at h
  ·cases h
  ·split at h
   ·rename_i s' Bz;injection h with h;injection h with h1 h2;subst h1;subst h2;exact⟨gj _,aa,Bz⟩
   ·obtain⟨h1,h2,h3⟩:=ND f (j+1) h;exact⟨aa,h2,h3⟩
theorem u4(l:al)(q:List Bool){p:Nat}(hp:p≤q.length):p≤(fC l q p).2.2∧(fC l q p).2.2≤q.length∧((fC l q p).2.1=0→∃s:Nat,(fC l q p).1=s∧s<l.length∧p<(fC l q p).2.2)∧0≤(fC l q p).2.1∧(fC l q p).2.1≤7:=by
 unfold fC;split
 ·rename_i s k h;obtain⟨h1,h2,h3⟩:=ND _ _ h;have h4:=(acN h3).1;unfold there at h2;exact⟨cZ,cZ,fun _=>⟨s,rfl,h4,cZ⟩,cZ,cZ⟩
 ·refine⟨gj _,hp,fun h=>?_,?_,?_⟩
  ·simp only at h;split at h<;>omega
  ·simp only;split<;>omega
  ·simp only;split<;>omega
theorem Iu{l:al}{q:List Bool}{p n s k:Nat}(hk:k≤n)(hf:nx l (part q p k) k=some s)(hn:∀j,1≤j→j<k→nx l (part q p j) j=none):∀(f j:Nat),1≤j→j≤k→k-j<f→ny l q p n f j=some (s,k)
 |0,j,_,_,h=>by omega
 |f+1,j,h1,h2,h3=>by
  unfold ny;rw[aw aa];by_cases e:j=k
  ·subst e;rw[hf]
  ·rw[hn j h1 aa];exact Iu hk hf hn f (j+1) aa aa aa
theorem x_{l:al}(hg:Good l){s:Nat}(hs:s<l.length)(h0:(l.getD s 0).toNat≠0)(pre r:List Bool){q:List Bool}(hq:q=pre++(hw l s++r)):
  fC l q pre.length=((s:Int),0,(pre++hw l s).length):=by
 obtain⟨k,hk⟩:=cR ((l.getD s 0).toNat);have YG:k≤15:=by rw[hk];exact hg.1.2 _ (bh hs 0)
 have hw1:hw l s=hi (place l k s) k k:=by unfold hw;rw[←hk]
 have mG:=yI hs hk.symm;have hpg:=aej l k s;have hb:=qY hg (k:=k) aa YG;have asJ:¬num l k=0:=by
  unfold place at mG hpg;omega
 rw[hw1]at hq;have rb:∀j,j≤k→part q pre.length j=place l k s/2^(k-j):=fun j hj=>by rw[hq];exact KP pre r _ k aa j hj
 have asV:=Tc hs hk.symm;have hfk:nx l (part q pre.length k) k=some s:=by
  have e1:part q pre.length k=place l k s:=by rw[rb k (gj _),nA,Nat.pow_zero,Nat.div_one]
  have e2:oz l k=fst l k:=aw asJ;unfold nx;rw[e1,e2,aq ⟨hpg,aa⟩,show place l k s-fst l k=num (l.take s) k by unfold place;omega,asV]
 have hfj:∀j,1≤j→j<k→nx l (part q pre.length j) j=none:=fun j h1 h2=>by
  unfold nx;refine aw fun hc=>?_;rw[rb j aa]at hc;by_cases hz:num l j=0
  ·omega
  ·have e2:oz l j=fst l j:=aw hz;rw[e2]at hc;have ahI:=U7 l h1 (k-j) aa;rw[show j+(k-j)=k by omega]at ahI;have:=(Nat.le_div_iff_mul_le (we (k-j))).2 (jf ahI hpg);omega
 have hlen:pre.length+k≤q.length:=by rw[hq];simp[dM]
 have:=Iu (n:=there q pre.length) (by unfold there;omega) hfk hfj 15 1 (gj _) aa aa;unfold fC;rw[this,hw1,aX,dM]
theorem kR{P:Prop}(h:P:=by(rw[iN];omega)):P:=h
theorem nt{P:Prop}(h:P:=by(rw[eV];omega)):P:=h
theorem vQ{P:Prop}(h:P:=by(simp[hz])):P:=h
theorem C3{P:Prop}(h:P:=by(simpa using hi)):P:=h
theorem vR{P:Prop}(h:P:=by(simp[hy])):P:=h
theorem VA:type_of% @List.pairwise_singleton:= @List.pairwise_singleton
theorem Eo:type_of% @List.nodup_cons:= @List.nodup_cons
theorem IG:type_of% @List.drop_eq_nil_of_le:= @List.drop_eq_nil_of_le
theorem N1:type_of% @List.countP_eq_length:= @List.countP_eq_length
theorem BF:type_of% @List.getD_cons_succ:= @List.getD_cons_succ
theorem j8:type_of% @List.getElem_of_mem:= @List.getElem_of_mem
theorem Ep:type_of% @List.getElem_take:= @List.getElem_take
theorem rk:type_of% @List.pairwise_iff_getElem:= @List.pairwise_iff_getElem
theorem j9:type_of% @Nat.succ_mul:= @Nat.succ_mul
theorem ub:type_of% @Nat.mul_add:= @Nat.mul_add
theorem BG:type_of% @List.getElem?_set:= @List.getElem?_set
theorem BH:type_of% @List.length_filter_le:= @List.length_filter_le
theorem jt:type_of% @List.getElem?_map:= @List.getElem?_map
theorem yg:type_of% @List.getElem?_range:= @List.getElem?_range
theorem N2:type_of% @List.set_cons_succ:= @List.set_cons_succ
def tB(o:Nat→Nat)(a b:Nat):Prop:=o a<o b∨o a=o b∧a<b
theorem wZ(o:Nat→Nat)(a:Nat):¬tB o a a:=fun h=>h.elim (fun h=>Nat.lt_irrefl _ h) fun h=>Nat.lt_irrefl _ h.2
theorem rs{o:Nat→Nat}{a b c:Nat}(h1:tB o a b)(h2:tB o b c):tB o a c:=by unfold tB at*;omega
theorem Zg(o:Nat→Nat)(a b:Nat):tB o a b∨a=b∨tB o b a:=by unfold tB;omega
abbrev tx(o:Nat→Nat)(l:bc):Prop:=l.Pairwise (tB o)
theorem tx.ext{o:Nat→Nat}:∀{a b:bc},tx o a→tx o b→(∀x,x∈a↔x∈b)→a=b
 |[],[],_,_,_=>rfl
 |[],y::b,_,_,h=>absurd ((h y).2 ak) ak
 |x::a,[],_,_,h=>absurd ((h x).1 ak) ak
 |x::a,y::b,ha,hb,h=>by
  obtain⟨ha1,ha2⟩:=kB.1 ha;obtain⟨qf,oP⟩:=kB.1 hb;have Vr:x=y:=by
   rcases fm.1 ((h x).1 ak)with e|e
   ·exact e
   ·rcases fm.1 ((h y).2 ak)with e2|e2
    ·exact e2.symm
    ·exact absurd (rs (ha1 y e2) (qf x e)) (wZ _ _)
  subst Vr;congr 1;refine tx.ext ha2 oP fun z=>⟨fun hz=>?_,fun hz=>?_⟩
  ·rcases fm.1 ((h z).1 (ll _ hz))with e|e
   ·subst e;exact absurd (ha1 _ hz) (wZ _ _)
   ·exact e
  ·rcases fm.1 ((h z).2 (ll _ hz))with e|e
   ·subst e;exact absurd (qf _ hz) (wZ _ _)
   ·exact e
instance (o:Nat→Nat)(a b:Nat):Decidable (tB o a b):=inferInstanceAs (Decidable (_∨_))
def YP(o:Nat→Nat)(x:Nat):bc→bc
 |[]=>[x]
 |y::r=>if tB o x y then x::y::r else y::YP o x r
def cW(o:Nat→Nat):bc→bc
 |[]=>[]
 |x::r=>YP o x (cW o r)
theorem zU(o:Nat→Nat)(x:Nat):∀l,(YP o x l).Perm (x::l)
 |[]=>.refl _
 |y::r=>by
  unfold YP;split
  ·exact .refl _
  ·exact((zU o x r).cons y).trans (.swap x y r)
theorem gE(o:Nat→Nat):∀l,(cW o l).Perm l
 |[]=>.refl _
 |x::r=>(zU o x _).trans ((gE o r).cons x)
theorem Vx{o:Nat→Nat}{x:Nat}:∀{l:bc},tx o l→x∉l→tx o (YP o x l)
 |[],_,_=>VA _ _
 |y::r,h,hx=>by
  obtain⟨h1,h2⟩:=kB.1 h;unfold YP;split
  ·rename_i Vr;exact kB.2 ⟨fun z hz=>(fm.1 hz).elim (fun e=>e▸Vr) fun hz=>rs Vr (h1 z hz),h⟩
  ·rename_i Vr;refine kB.2 ⟨fun z hz=>?_,Vx h2 fun hz=>hx (ll _ hz)⟩;rcases fm.1 ((zU o x r).mem_iff.1 hz)with e|e
   ·subst e;rcases Zg o z y with k|k|k
    ·exact absurd k Vr
    ·exact absurd (k▸rp ..) hx
    ·exact k
   ·exact h1 z e
theorem lx(o:Nat→Nat):∀{l:bc},l.Nodup→tx o (cW o l)
 |[],_=>List.Pairwise.nil
 |x::r,h=>by
  obtain⟨h1,h2⟩:=Eo.1 h;exact Vx (lx o h2) fun hx=>h1 ((gE o r).mem_iff.1 hx)
abbrev cw:=Nat×Bool
def pH(leaf row:List cw):Nat→Nat→Nat→List cw
 |0,_,_=>[]
 |f+1,i,k=>
  if row.length≤k+1 then (if i<leaf.length then leaf.getD i (0,false)::pH leaf row f (i+1) k else [])
  else if i<leaf.length∧(leaf.getD i (0,false)).1≤(row.getD k (0,false)).1+(row.getD (k+1) (0,false)).1 then leaf.getD i (0,false)::pH leaf row f (i+1) k
  else ((row.getD k (0,false)).1+(row.getD (k+1) (0,false)).1,false)::pH leaf row f i (k+2)
def uw(leaf row:List cw):List cw:=pH leaf row (leaf.length+row.length) 0 0
def EZ:List cw→List cw
 |[]=>[]
 |[_]=>[]
 |a::b::r=>(a.1+b.1,false)::EZ r
def vI:List cw→List cw→List cw
 |[],ys=>ys
 |x::xs,[]=>x::xs
 |x::xs,y::ys=>if x.1≤y.1 then x::vI xs (y::ys) else y::vI (x::xs) ys
theorem CD(xs:List cw):vI xs []=xs:=by cases xs<;>rw[vI]
theorem EJ(ys:List cw):vI [] ys=ys:=by rw[vI]
theorem I2{l:List cw}(h:l.length≤1):EZ l=[]:=by
 match l,h with
 |[],_=>rfl
 |[_],_=>rfl
theorem u6(leaf row:List cw):∀(f i k:Nat),i≤leaf.length→k≤row.length→leaf.length-i+(row.length-k)≤f→pH leaf row f i k=vI (leaf.drop i) (EZ (row.drop k))
 |0,i,k,h1,h2,h3=>by
  rw[IG aa,IG aa,EJ];rfl
 |f+1,i,k,h1,h2,h3=>by
  unfold pH;split
  ·rename_i hr;rw[I2 kR,CD];split
   ·rename_i hi;rw[u6 leaf row f (i+1) k aa h2 aa,I2 kR,CD,dw hi (0,false)]
   ·rw[IG aa]
  ·rename_i hr;have e:EZ (row.drop k)=((row.getD k (0,false)).1+(row.getD (k+1) (0,false)).1,false)::EZ (row.drop (k+2)):=by
    rw[dw (by omega:k<row.length) (0,false),dw (by omega:k+1<row.length) (0,false),EZ]
   rw[e];split
   ·rename_i hc;rw[dw hc.1 (0,false),vI,aq hc.2,u6 leaf row f (i+1) k aa h2 aa,e]
   ·rename_i hc;rw[u6 leaf row f i (k+2) h1 aa aa];by_cases hi:i<leaf.length
    ·rw[dw hi (0,false),vI,aw fun h=>hc ⟨hi,h⟩]
    ·rw[IG aa,EJ,EJ]
theorem u7(leaf row:List cw):uw leaf row=vI leaf (EZ row):=by
 unfold uw;rw[u6 leaf row _ 0 0 (bS _) (bS _) aa];rfl
theorem KH:∀xs ys:List cw,(vI xs ys).length=xs.length+ys.length
 |[],ys=>by simp[vI]
 |x::xs,[]=>by simp[vI]
 |x::xs,y::ys=>by
  rw[vI];split
  ·rw[eh,KH xs (y::ys)];simp;omega
  ·rw[eh,KH (x::xs) ys];simp;omega
theorem KQ:∀l:List cw,(EZ l).length=l.length/2
 |[]=>rfl
 |[_]=>by simp[EZ]
 |a::b::r=>by simp only[EZ,eh,KQ r];omega
theorem yC{z:cw}:∀{xs ys:List cw},z∈vI xs ys→z∈xs∨z∈ys
 |[],ys,h=>.inr (by rwa [EJ]at h)
 |x::xs,[],h=>.inl (by rwa [CD]at h)
 |x::xs,y::ys,h=>by
  rw[vI]at h;split at h
  ·rcases fm.1 h with e|e
   ·exact .inl (by simp[e])
   ·rcases yC e with k|k
    ·exact .inl (ll _ k)
    ·exact .inr k
  ·rcases fm.1 h with e|e
   ·exact .inr (by simp[e])
   ·rcases yC e with k|k
    ·exact .inl k
    ·exact .inr (ll _ k)
abbrev Wt(l:List cw):Prop:=l.Pairwise fun a b=>a.1≤b.1
theorem Wc{z:cw}{W:Nat}:∀{l:List cw},(∀x∈l,x.1≤W)→z∈EZ l→z.1≤2*W∧z.2=false
 |[],_,h=>by cases h
 |[_],_,h=>by cases h
 |a::b::r,hw,h=>by
  rw[EZ]at h;rcases fm.1 h with e|e
  ·have h1:=hw a ak;have h2:=hw b ak;subst e;exact⟨cZ,rfl⟩
  ·exact Wc (fun x hx=>hw x oe) e
theorem OR{a:Nat}:∀{l:List cw},Wt l→(∀x∈l,a≤2*x.1)→∀z∈EZ l,a≤z.1
 |[],_,_,z,h=>by cases h
 |[_],_,_,z,h=>by cases h
 |x::y::r,hw,ha,z,h=>by
  rw[EZ]at h;rcases fm.1 h with e|e
  ·have h1:=ha x ak;have h2:=ha y ak;subst e;simp only;omega
  ·obtain⟨_,h2⟩:=kB.1 hw;obtain⟨_,h3⟩:=kB.1 h2;exact OR h3 (fun q hq=>ha q (by simp[hq])) z e
theorem aem:∀{l:List cw},Wt l→Wt (EZ l)
 |[],_=>List.Pairwise.nil
 |[_],_=>List.Pairwise.nil
 |a::b::r,h=>by
  obtain⟨h1,h2⟩:=kB.1 h;obtain⟨h3,h4⟩:=kB.1 h2;refine kB.2 ⟨fun z hz=>?_,aem h4⟩;have hab:=h1 b ak;exact OR h4 (fun x hx=>by
   have:=h3 x hx;have:a.1+b.1≤2*x.1:=by omega
   exact this) z hz
theorem Sx:∀{xs ys:List cw},Wt xs→Wt ys→Wt (vI xs ys)
 |[],ys,_,h=>by rwa [EJ]
 |x::xs,[],h,_=>by rwa [CD]
 |x::xs,y::ys,hx,hy=>by
  obtain⟨h1,h2⟩:=kB.1 hx;obtain⟨h3,h4⟩:=kB.1 hy;rw[vI];split
  ·rename_i hc;refine kB.2 ⟨fun z hz=>?_,Sx h2 hy⟩;rcases yC hz with e|e
   ·exact h1 z e
   ·rcases fm.1 e with e|e
    ·subst e;exact hc
    ·have:=h3 z e;omega
  ·rename_i hc;refine kB.2 ⟨fun z hz=>?_,Sx hx h4⟩;rcases yC hz with e|e
   ·rcases fm.1 e with e|e
    ·subst e;omega
    ·have:=h1 z e;omega
   ·exact h3 z e
def gJ(row:List cw)(t:Nat):Nat:=(row.take t).countP (·.2)
theorem Uz(row:List cw)(t:Nat):gJ row t≤t:=jf adm nt
theorem lM(x:cw)(r:List cw)(t:Nat):gJ (x::r) (t+1)=(if x.2 then 1 else 0)+gJ r t:=by
 unfold gJ;rw[ri,Oc];omega
def an9(leaf row:List cw):Prop:=Wt row∧∀t,(row.take t).filter (·.2)=leaf.take (gJ row t)
theorem EI:∀{xs ys:List cw},(∀x∈xs,x.2=true)→(∀y∈ys,y.2=false)→∀t,((vI xs ys).take t).filter (·.2)=xs.take (gJ (vI xs ys) t)
 |[],ys,_,hy,t=>by
  rw[vI,List.take_nil];exact List.filter_eq_nil_iff.2 fun z hz=>by simp[hy z (lW hz)]
 |x::xs,[],hx,_,t=>by
  rw[vI];have:∀z∈(x::xs).take t,z.2=true:=fun z hz=>hx z (lW hz);rw[List.filter_eq_self.2 this];have e:gJ (x::xs) t=min t (x::xs).length:=by
   unfold gJ;rw[N1.2 this,eV]
  rw[e,List.take_eq_take_iff];omega
 |x::xs,y::ys,hx,hy,t=>by
  cases t with
  |zero=>simp[gJ]
  |succ t=>
   have LK:=hx x ak;have NN:=hy y ak;rw[vI];split
   ·rw[lM,LK,ri,ua,aq (by simpa using LK),EI (fun z hz=>hx z vQ) hy t,aq rfl,sQ,ri]
   ·rw[lM,NN,ri,ua,aw (by simp[NN]),EI hx (fun z hz=>hy z vQ) t,aw ak,mC]
theorem AA:∀{xs ys:List cw},(∀x∈xs,x.2=true)→(∀y∈ys,y.2=false)→∀t,t≤(vI xs ys).length→t-gJ (vI xs ys) t≤ys.length
 |[],ys,_,hy,t,h=>by rw[vI]at h⊢;omega
 |x::xs,[],hx,_,t,h=>by
  rw[vI]at h⊢;have e:gJ (x::xs) t=min t (x::xs).length:=by
   unfold gJ;rw[N1.2 (fun z hz=>hx z (lW hz)),eV]
  rw[e];omega
 |x::xs,y::ys,hx,hy,t,h=>by
  cases t with
  |zero=>omega
  |succ t=>
   have LK:=hx x ak;have NN:=hy y ak;rw[vI]at h⊢;split
   ·rename_i hc;rw[aq hc,eh]at h;have:=AA (xs:=xs) (ys:=y::ys) (fun z hz=>hx z vQ) hy t aa;rw[lM,LK,aq rfl];omega
   ·rename_i hc;rw[aw hc,eh]at h;have:=AA (xs:=x::xs) (ys:=ys) hx (fun z hz=>hy z vQ) t aa;rw[lM,NN,aw ak,eh];omega
theorem AD:∀{xs ys:List cw},Wt xs→(∀x∈xs,x.2=true)→(∀y∈ys,y.2=false)→∀t p,t≤(vI xs ys).length→t-gJ (vI xs ys) t=p+1→∀i,i<xs.length→(xs.getD i (0,false)).1≤(ys.getD p (0,false)).1→i<gJ (vI xs ys) t
 |[],ys,_,_,hy,t,p,h,hp,i,hi,_=>by simp at hi
 |x::xs,[],_,hx,_,t,p,h,hp,i,hi,_=>by
  rw[vI]at h hp;have e:gJ (x::xs) t=min t (x::xs).length:=by
   unfold gJ;rw[N1.2 (fun z hz=>hx z (lW hz)),eV]
  rw[e]at hp;omega
 |x::xs,y::ys,hw,hx,hy,t,p,h,hp,i,hi,hle=>by
  cases t with
  |zero=>omega
  |succ t=>
   have LK:=hx x ak;have NN:=hy y ak;obtain⟨hw1,hw2⟩:=kB.1 hw;rw[vI]at h hp⊢;split
   ·rename_i hc;rw[aq hc,eh]at h;rw[aq hc,lM,LK,aq rfl]at hp;rw[lM,LK,aq rfl];cases i with
    |zero=>omega
    |succ i=>
     have:=AD (xs:=xs) (ys:=y::ys) hw2 (fun z hz=>hx z vQ) hy t p aa aa i C3 (by simpa using hle);omega
   ·rename_i hc;rw[aw hc,eh]at h;rw[aw hc,lM,NN,aw ak]at hp;rw[lM,NN,aw ak,mC];cases p with
    |zero=>
     have h1:x.1≤((x::xs).getD i (0,false)).1:=by
      cases i with
      |zero=>simp
      |succ i=>
       have:=hw1 _ (bh (l:=xs) (k:=i) C3 (0,false));simpa using this
     simp only[List.getD_cons_zero]at hle;omega
    |succ p=>
     exact AD (xs:=x::xs) (ys:=ys) hw hx (fun z hz=>hy z vQ) t p aa aa i hi (by simpa using hle)
def dS(leaf:List cw):Nat→List cw
 |0=>leaf
 |r+1=>uw leaf (dS leaf r)
theorem yK:∀{l:List cw} {y:cw},y∈EZ l→y.2=false
 |[],_,h=>by cases h
 |[_],_,h=>by cases h
 |a::b::r,y,h=>by
  rw[EZ]at h;rcases fm.1 h with e|e
  ·subst e;rfl
  ·exact yK e
theorem Wb:∀{l:List cw} {p:Nat},p<(EZ l).length→(EZ l).getD p (0,false)=((l.getD (2*p) (0,false)).1+(l.getD (2*p+1) (0,false)).1,false)
 |[],p,h=>by simp[EZ]at h
 |[_],p,h=>by simp[EZ]at h
 |a::b::r,0,_=>rfl
 |a::b::r,p+1,h=>by
  rw[EZ,BF,Wb (by simpa[EZ]using h),show 2*(p+1)=2*p+1+1 by omega,BF,BF,BF,BF]
theorem ajI{l:List cw}(h:Wt l){m:Nat}(hm:m<l.length){z:cw}(hz:z∈l.take (m+1)):z.1≤(l.getD m (0,false)).1:=by
 obtain⟨i,hi,rfl⟩:=j8 hz;rw[eV]at hi;rw[Ep,bk,fo hm,vG];by_cases e:i=m
 ·subst e;exact gj _
 ·exact rk.1 h i m aa hm aa
theorem KV{leaf:List cw}(hl:∀x∈leaf,x.2=true)(hw:Wt leaf):∀r,an9 leaf (dS leaf r)
 |0=>⟨hw,fun t=>by
  have:∀z∈leaf.take t,z.2=true:=fun z hz=>hl z (lW hz);have e:gJ leaf t=min t leaf.length:=by
   unfold gJ;rw[N1.2 this,eV]
  rw[dS,List.filter_eq_self.2 this,e,List.take_eq_take_iff];omega⟩
 |r+1=>by
  have ih:=KV hl hw r;rw[dS,u7];exact⟨Sx hw (aem ih.1),EI hl (fun y hy=>yK hy)⟩
theorem aeD{leaf:List cw}(hl:∀x∈leaf,x.2=true)(hw:Wt leaf){r t n:Nat}(ht:t≤(dS leaf (r+1)).length)(hn:n=gJ (dS leaf (r+1)) t):
  2*(t-n)≤(dS leaf r).length∧gJ (dS leaf r) (2*(t-n))≤n:=by
 obtain⟨h1,h2⟩:=KV hl hw r;rw[dS,u7]at ht hn;have hp:=AA hl (fun y hy=>yK (l:=dS leaf r) hy) t ht;rw[←hn]at hp;have mG:=KQ (dS leaf r);refine⟨aa,?_⟩;cases hpp:t-n with
 |zero=>simp[gJ]
 |succ p=>
  obtain⟨m,hm⟩:=cR (gJ (dS leaf r) (2*(p+1)));rw[←hm];cases m with
  |zero=>omega
  |succ m=>
   have hf:=h2 (2*(p+1));rw[←hm]at hf;have hlen:(leaf.take (m+1)).length=m+1:=by rw[←hf,←List.countP_eq_length_filter];exact hm.symm
   rw[eV]at hlen;have By:m<leaf.length:=by omega
   have pY:leaf.getD m (0,false)∈leaf.take (m+1):=by rw[aZ By (0,false)];simp
   rw[←hf]at pY;have YF:=(BE.1 pY).1;rw[show 2*(p+1)=(2*p+1)+1 by omega]at YF;have hle:=ajI h1 (m:=2*p+1) aa YF;have hg:=Wb (l:=dS leaf r) (p:=p) aa;have:=AD hw hl (fun y hy=>yK (l:=dS leaf r) hy) t p ht (by rw[←hn];exact hpp) m By (by rw[hg];simp only;omega);omega
def CG(leaf:List cw):Nat→Nat→bc
 |0,_=>[]
 |r+1,t=>gJ (dS leaf r) t::CG leaf r (2*(t-gJ (dS leaf r) t))
def mL(leaf:List cw):Nat→Nat→Nat→Prop
 |0,t,_=>t=0
 |r+1,t,M=>t≤(dS leaf r).length∧gJ (dS leaf r) t≤M
theorem mL.step{leaf:List cw}(hl:∀x∈leaf,x.2=true)(hw:Wt leaf){r t M:Nat}(h:mL leaf (r+1) t M):mL leaf r (2*(t-gJ (dS leaf r) t)) (gJ (dS leaf r) t):=by
 cases r with
 |zero=>
  obtain⟨h1,h2⟩:=h;have e:gJ leaf t=min t leaf.length:=by
   unfold gJ;rw[N1.2 (fun z hz=>hl z (lW hz)),eV]
  show 2*(t-gJ leaf t)=0;have Rq:t≤leaf.length:=h1;rw[e];omega
 |succ r=>exact aeD hl hw h.1 rfl
theorem SA{leaf:List cw}(hl:∀x∈leaf,x.2=true)(hw:Wt leaf):∀(R t M:Nat),mL leaf R t M→∀n∈CG leaf R t,n≤M
 |0,_,_,_,n,hn=>by cases hn
 |r+1,t,M,h,n,hn=>by
  rcases fm.1 hn with e|e
  ·subst e;exact h.2
  ·exact jf (SA hl hw r _ _ (h.step hl hw) n e) h.2
def MS(ns:bc)(j:Nat):Nat:=ns.countP fun n=>decide (j<n)
theorem Ds(n:Nat)(ns:bc)(j:Nat):MS (n::ns) j=MS ns j+if j<n then 1 else 0:=by
 unfold MS;rw[Oc];simp
theorem abM{ns:bc}{M j:Nat}(h:∀n∈ns,n≤M)(hj:M≤j):MS ns j=0:=by
 unfold MS;refine List.countP_eq_zero.2 fun n hn=>?_;have:=h n hn;simp;omega
theorem alG(ns:bc)(j:Nat):MS ns j≤ns.length:=adm
theorem V5(leaf:List cw):∀R t,(CG leaf R t).length=R
 |0,_=>rfl
 |r+1,t=>by rw[CG,eh,V5 leaf r]
def nL(f:Nat→Nat):Nat→Nat
 |0=>0
 |m+1=>nL f m+f m
theorem pN{f g:Nat→Nat}:∀{m:Nat},(∀j,j<m→f j=g j)→nL f m=nL g m
 |0,_=>rfl
 |m+1,h=>by rw[nL,nL,pN fun j hj=>h j aa,h m aa]
theorem AX{f:Nat→Nat}{n c:Nat}:∀d,(∀j,n≤j→j<n+d→f j=c)→nL f (n+d)=nL f n+d*c
 |0,_=>by simp
 |d+1,h=>by
  rw[←NU,nL,AX d (fun j h1 h2=>h j h1 aa),h (n+d) aa aa,j9];omega
theorem ae4{leaf:List cw}(hl:∀x∈leaf,x.2=true)(hw:Wt leaf):∀(R t M:Nat),mL leaf R t M→2*nL (fun j=>2^(R-MS (CG leaf R t) j)) M+t*2^R=2*M*2^R
 |0,t,M,h=>by
  have h0:t=0:=h;have:=AX (f:=fun j=>2^(0-MS (CG leaf 0 t) j)) (n:=0) (c:=1) M (fun j _ _=>rfl);rw[mC]at this;rw[this,h0];simp[nL]
 |r+1,t,M,h=>by
  obtain⟨n,hn⟩:=cR (gJ (dS leaf r) t);have hs:=h.step hl hw;have h2:n≤M:=hn▸h.2;have hnt:n≤t:=hn▸Uz _ _;have hle:=SA hl hw r _ _ hs;have ih:=ae4 hl hw r _ _ hs;rw[←hn]at hs hle ih;have e:CG leaf (r+1) t=n::CG leaf r (2*(t-n)):=by rw[CG,←hn]
  rw[e];have Km:=AX (f:=fun j=>2^(r+1-MS (n::CG leaf r (2*(t-n))) j)) (n:=n) (c:=2^(r+1)) (M-n) (fun j h1 _=>by
   rw[Ds,abM hle h1,aw aa];rfl)
  rw[show n+(M-n)=M by omega]at Km;have hc:=pN (f:=fun j=>2^(r+1-MS (n::CG leaf r (2*(t-n))) j)) (g:=fun j=>2^(r-MS (CG leaf r (2*(t-n))) j)) (m:=n) (fun j hj=>by
   rw[Ds,aq hj];congr 1;omega)
  rw[Km,hc,nF];generalize nL (fun j=>2^(r-MS (CG leaf r (2*(t-n))) j)) n=S at*;generalize 2^r=P at*;obtain⟨a,rfl⟩:∃a,M=n+a:=⟨M-n,aa⟩
  obtain⟨b,rfl⟩:∃b,t=n+b:=⟨t-n,aa⟩
  rw[show n+a-n=a by omega];rw[show n+b-n=b by omega]at ih;have i1:2*b*P=2*(b*P):=by rw[th]
  have i2:2*n*P=2*(n*P):=by rw[th]
  have i3:a*(P*2)=2*(a*P):=by rw[←th,nG]
  have i4:(n+b)*(P*2)=2*(n*P)+2*(b*P):=by rw[←th,mD,nG];omega
  have i5:2*(n+a)*(P*2)=4*(n*P)+4*(a*P):=by
   rw[ub,mD,←th,←th,th 2 n P,th 2 a P];omega
  omega
def te(syms:bc):Nat→bc→bc
 |0,out=>out
 |j+1,out=>(te syms j out).set (syms.getD j 0) ((te syms j out).getD (syms.getD j 0) 0+1)
theorem rh(syms:bc)(out:bc):∀n,(te syms n out).length=out.length
 |0=>rfl
 |j+1=>by rw[te,List.length_set,rh syms out j]
theorem Zn:∀{l:bc},l.Nodup→∀(i j:Nat) (hi:i<l.length) (hj:j<l.length),l[i]=l[j]→i=j:=by
 intro l h i j hi hj e;rcases Nat.lt_trichotomy i j with k|k|k
 ·exact absurd e (rk.1 h i j hi hj k)
 ·exact k
 ·exact absurd e.symm (rk.1 h j i hj hi k)
theorem Zm{l:bc}(h:l.Nodup){i j:Nat}(hi:i<l.length)(hj:j<l.length)(e:l.getD i 0=l.getD j 0):i=j:=by
 rw[bk,bk,fo hi,fo hj]at e;exact Zn h i j hi hj (by simpa using e)
theorem Ef{syms out:bc}(hd:syms.Nodup)(hs:∀s∈syms,s<out.length):∀(n:Nat),n≤syms.length→
  (∀j,j<syms.length→(te syms n out).getD (syms.getD j 0) 0=out.getD (syms.getD j 0) 0+if j<n then 1 else 0)∧∀s,s∉syms→(te syms n out).getD s 0=out.getD s 0
 |0,_=>⟨fun j _=>by rw[te,aw aa];rfl,fun s _=>rfl⟩
 |n+1,h=>by
  obtain⟨h1,h2⟩:=Ef hd hs n aa;have hl:=rh syms out n;have hm:syms.getD n 0∈syms:=bh aa 0;have fP:=hs _ hm;refine⟨fun j hj=>?_,fun s hn=>?_⟩
  ·rw[te];by_cases e:j=n
   ·subst e;rw[h1 j hj,aw aa,aq aa];rw[bk,BG,aq rfl,hl,aq fP];rfl
   ·have r':syms.getD n 0≠syms.getD j 0:=fun k=>e (Zm hd aa hj k).symm;have:=h1 j hj;have e2:(if j<n then 1 else 0)=(if j<n+1 then 1 else 0:Nat):=by
     by_cases k:j<n
     ·rw[aq k,aq aa]
     ·rw[aw k,aw aa]
    rw[←e2,←this];simp only[bk,BG];rw[aw (by simpa[bk]using r')]
  ·have r':syms.getD n 0≠s:=fun k=>hn (k▸hm);rw[te,←h2 s hn];simp only[bk,BG];rw[aw (by simpa[bk]using r')]
def sK(syms:bc):bc→bc→bc
 |[],out=>out
 |n::ns,out=>sK syms ns (te syms n out)
theorem Il(syms:bc):∀ns out,(sK syms ns out).length=out.length
 |[],_=>rfl
 |n::ns,out=>by rw[sK,Il syms ns,rh]
theorem Ik{syms:bc}(hd:syms.Nodup):∀(ns out:bc),(∀s∈syms,s<out.length)→(∀n∈ns,n≤syms.length)→
  (∀j,j<syms.length→(sK syms ns out).getD (syms.getD j 0) 0=out.getD (syms.getD j 0) 0+MS ns j)∧∀s,s∉syms→(sK syms ns out).getD s 0=out.getD s 0
 |[],out,_,_=>⟨fun j _=>rfl,fun s _=>rfl⟩
 |n::ns,out,hs,hn=>by
  obtain⟨h1,h2⟩:=Ef hd hs n (hn n ak);obtain⟨h3,h4⟩:=Ik hd ns (te syms n out) (fun s Bz=>by rw[rh];exact hs s Bz) (fun m hm=>hn m (by simp[hm]));refine⟨fun j hj=>?_,fun s Bz=>?_⟩
  ·rw[sK,h3 j hj,h1 j hj,Ds];omega
  ·rw[sK,h4 s Bz,h2 s Bz]
def mr(o:Nat→Nat)(N:Nat):bc:=(List.range N).filter fun s=>decide (0<o s)
def dz(o:Nat→Nat)(N:Nat):bc:=cW o (mr o N)
def oo(o:Nat→Nat)(N:Nat):List cw:=(dz o N).map fun s=>(o s,true)
def ju(o:Nat→Nat)(N:Nat):bc:=
 if (dz o N).length<2 then (if (dz o N).length=1 then (List.replicate N 0).set ((dz o N).getD 0 0) 1 else List.replicate N 0)
 else sK (dz o N) (CG (oo o N) 15 (2*(dz o N).length-2)) (List.replicate N 0)
theorem PV(o:Nat→Nat)(N:Nat):(mr o N).Nodup:=List.Nodup.sublist List.filter_sublist List.nodup_range
theorem m8{o:Nat→Nat}{N s:Nat}:s∈dz o N↔s<N∧0<o s:=by
 unfold dz;rw[(gE o _).mem_iff];unfold mr;rw[BE,ky];simp
theorem ae'(o:Nat→Nat)(N:Nat):tx o (dz o N):=lx o (PV o N)
theorem Pq(o:Nat→Nat)(N:Nat):(dz o N).Nodup:=(gE o _).nodup_iff.2 (PV o N)
theorem Jd(o:Nat→Nat)(N:Nat):(dz o N).length≤N:=by
 unfold dz;rw[(gE o _).length_eq];exact jf (BH _ _) ak
theorem sd{o:Nat→Nat}{N:Nat}:∀x∈oo o N,x.2=true:=fun x hx=>by
 obtain⟨s,_,rfl⟩:=pS.1 hx;rfl
theorem yw(o:Nat→Nat)(N:Nat):Wt (oo o N):=List.Pairwise.map _ (fun a b h=>by
 rcases h with h|h
 ·exact Nat.le_of_lt h
 ·exact Nat.le_of_eq h.1) (ae' o N)
theorem ig(leaf:List cw)(r:Nat):(dS leaf (r+1)).length=leaf.length+(dS leaf r).length/2:=by
 rw[dS,u7,KH,KQ]
theorem Ws(leaf:List cw):∀r,leaf.length≤(dS leaf r).length∧(dS leaf r).length≤2*leaf.length
 |0=>⟨gj _,by rw[dS];omega⟩
 |r+1=>by
  have ih:=Ws leaf r;rw[ig];omega
theorem gx{n a b d e:Nat}(h:2*n≤a+d)(hb:b=n+a/2)(hd:d≤2*e):2*n≤b+e:=by omega
theorem ZM{leaf:List cw}(h:leaf.length≤300):2*leaf.length-2≤(dS leaf 14).length:=by
 have a0:2*leaf.length≤(dS leaf 0).length+300:=by rw[dS];omega
 have a1:=gx (e:=150) a0 (ig leaf 0) aA;have a2:=gx (e:=75) a1 (ig leaf 1) aA;have a3:=gx (e:=38) a2 (ig leaf 2) aA;have a4:=gx (e:=19) a3 (ig leaf 3) aA;have a5:=gx (e:=10) a4 (ig leaf 4) aA;have a6:=gx (e:=5) a5 (ig leaf 5) aA;have a7:=gx (e:=3) a6 (ig leaf 6) aA;have a8:=gx (e:=2) a7 (ig leaf 7) aA;have a9:=gx (e:=1) a8 (ig leaf 8) aA;have a10:=gx (e:=1) a9 (ig leaf 9) aA;have a11:=gx (e:=1) a10 (ig leaf 10) aA;have a12:=gx (e:=1) a11 (ig leaf 11) aA;have a13:=gx (e:=1) a12 (ig leaf 12) aA;have a14:2*leaf.length≤(dS leaf 14).length+1:=gx (e:=1) a13 (ig leaf 13) aA;omega
theorem xc{o:Nat→Nat}{N:Nat}(hN:N≤300):mL (oo o N) 15 (2*(dz o N).length-2) (dz o N).length:=by
 have hl:(oo o N).length=(dz o N).length:=by simp[oo]
 have hs:=Jd o N;refine⟨by rw[←hl];exact ZM aa,?_⟩;have hf:=(KV sd (yw o N) 14).2 (2*(dz o N).length-2);have:((oo o N).take (gJ (dS (oo o N) 14) (2*(dz o N).length-2))).length=gJ (dS (oo o N) 14) (2*(dz o N).length-2):=by
  rw[←hf,←List.countP_eq_length_filter];rfl
 rw[eV,hl]at this;exact jf (Nat.le_of_eq this.symm) (Nat.min_le_right _ _)
def qL(f:Nat→Nat):bc→Nat
 |[]=>0
 |x::r=>f x+qL f r
theorem Z1{f:Nat→Nat}{a b:bc}(h:a.Perm b):qL f a=qL f b:=by
 induction h with
 |nil=>rfl
 |cons x _ ih=>rw[qL,qL,ih]
 |swap x y l=>simp only[qL];omega
 |trans _ _ h1 h2=>rw[h1,h2]
theorem BT{f:Nat→Nat}{p:Nat→Bool}:∀{l:bc},(∀x∈l,p x=false→f x=0)→qL f l=qL f (l.filter p)
 |[],_=>rfl
 |x::r,h=>by
  rw[qL,ua,BT fun y hy=>h y vR];split
  ·rfl
  ·rename_i hp;rw[h x ak (by simpa using hp)];omega
theorem Po(f:Nat→Nat):∀a b,qL f (a++b)=qL f a+qL f b
 |[],b=>by simp[qL]
 |x::a,b=>by rw[nE,qL,qL,Po f a b];omega
theorem Fw(f:Nat→Nat)(l:bc):∀m,m≤l.length→qL f (l.take m)=nL (fun j=>f (l.getD j 0)) m
 |0,_=>rfl
 |m+1,h=>by rw[aZ aa 0,Po,Fw f l m aa,nL];simp[qL]
def gK(c:Nat):Nat:=if c=0 then 0 else 2^(15-c)
def kU(o:Nat→Nat)(N:Nat):al:=(ju o N).map UInt8.ofNat
theorem IL(o:Nat→Nat)(N:Nat):(ju o N).length=N:=by
 unfold ju;split
 ·split<;>simp
 ·rw[Il];simp
@[simp] theorem gA(o:Nat→Nat)(N:Nat):(kU o N).length=N:=by rw[kU,eM,IL]
theorem Av{o:Nat→Nat}{N:Nat}(hN:N≤300)(h2:2≤(dz o N).length):
  (∀j,j<(dz o N).length→(ju o N).getD ((dz o N).getD j 0) 0=MS (CG (oo o N) 15 (2*(dz o N).length-2)) j)∧∀s,s∉dz o N→(ju o N).getD s 0=0:=by
 have hle:=SA sd (yw o N) 15 _ _ (xc (o:=o) hN);obtain⟨h3,h4⟩:=Ik (Pq o N) (CG (oo o N) 15 (2*(dz o N).length-2)) (List.replicate N 0) (fun s hs=>by rw[yf];exact(m8.1 hs).1) hle;have hz:∀s,(List.replicate N 0).getD s 0=0:=fun s=>by
  rw[bk,IF];split<;>rfl
 unfold ju;rw[aw aa];exact⟨fun j hj=>by rw[h3 j hj,hz,mC],fun s hs=>by rw[h4 s hs,hz]⟩
theorem ae3{f:Nat→Nat}{j m:Nat}(hj:j<m)(h:0<f j){i:Nat}(hi:i<m)(Iv:i≠j):f i<nL f m:=by
 induction m with
 |zero=>omega
 |succ m ih=>
  rw[nL];by_cases e1:j=m
  ·subst e1;have:f i≤nL f j:=Fv aa;omega
  ·by_cases e2:i=m
   ·subst e2;have:f j≤nL f i:=Fv aa;omega
   ·have:=ih aa aa;omega
where Fv {f:Nat→Nat}:∀{m j:Nat},j<m→f j≤nL f m
 |m+1,j,h=>by
  rw[nL];by_cases e:j=m
  ·subst e;omega
  ·have:=Fv (f:=f) (m:=m) (j:=j) aa;omega
theorem Om{o:Nat→Nat}{N:Nat}(hN:N≤300)(h2:2≤(dz o N).length):
  nL (fun j=>2^(15-MS (CG (oo o N) 15 (2*(dz o N).length-2)) j)) (dz o N).length=32768:=by
 have h:=ae4 sd (yw o N) 15 _ _ (xc (o:=o) hN);rw[show(2:Nat)^15=32768 from rfl]at h;omega
theorem Ol{o:Nat→Nat}{N:Nat}(hN:N≤300){s:Nat}(hs:s<N)(ho:0<o s):1≤(ju o N).getD s 0:=by
 have hm:s∈dz o N:=m8.2 ⟨hs,ho⟩;obtain⟨j,hj,hje⟩:=j8 hm;have hjd:(dz o N).getD j 0=s:=by rw[bk,fo hj,←hje];rfl
 by_cases h2:2≤(dz o N).length
 ·have h:=(Av hN h2).1 j hj;rw[hjd]at h;rw[h];have wT:=Om (o:=o) hN h2;obtain⟨i,hi,Iv⟩:∃i,i<(dz o N).length∧i≠j:=by
   by_cases e:j=0
   ·exact⟨1,aa,aa⟩
   ·exact⟨0,aa,aa⟩
  have:=ae3 (f:=fun j=>2^(15-MS (CG (oo o N) 15 (2*(dz o N).length-2)) j)) hi (we _) hj Iv.symm;rw[wT]at this;rcases wV (MS (CG (oo o N) 15 (2*(dz o N).length-2)) j)with e|e
  ·rw[e]at this;simp at this
  ·exact e
 ·have h1:(dz o N).length=1:=by omega
  have hj0:j=0:=by omega
  subst hj0;unfold ju;rw[aq aa,aq h1,hjd];simp[bk,BG,hs]
theorem Ey{o:Nat→Nat}{N:Nat}(hN:N≤300)(s:Nat):(ju o N).getD s 0≤15:=by
 by_cases h2:2≤(dz o N).length
 ·obtain⟨h3,h4⟩:=Av (o:=o) hN h2;by_cases hm:s∈dz o N
  ·obtain⟨j,hj,hje⟩:=j8 hm;have hjd:(dz o N).getD j 0=s:=by rw[bk,fo hj,←hje];rfl
   have:=h3 j hj;rw[hjd]at this;rw[this];have:=alG (CG (oo o N) 15 (2*(dz o N).length-2)) j
   rwa [V5]at this
  ·rw[h4 s hm];omega
 ·unfold ju;rw[aq aa];split
  ·rw[bk,BG];split
   ·split<;>simp
   ·rw[IF];split<;>simp
  ·rw[bk,IF];split<;>simp
theorem Y3:∀l:al,ql l=nL (fun s=>gK (l.getD s 0).toNat) l.length:=by
 intro l;have:∀m,m≤l.length→ql (l.take m)=nL (fun s=>gK (l.getD s 0).toNat) m:=by
  intro m;induction m with
  |zero=>intro _;rfl
  |succ m ih=>intro h;rw[aZ aa 0,Sb,ih aa,nL];rfl
 have h:=this l.length (gj _)
 rwa [jN]at h
theorem Au{o:Nat→Nat}{N:Nat}(hN:N≤300){s:Nat}(hs:s<N):((kU o N).getD s 0).toNat=(ju o N).getD s 0:=by
 have hl:=IL o N;have kS:=Ey (o:=o) hN s;unfold kU;rw[bk,jt];rw[bk]at kS⊢;rw[fo aa]at kS⊢;simp only[sP,vG]at kS⊢;rw[oi];exact jc aa
theorem Y7{o:Nat→Nat}{N:Nat}(hN:N≤300):Fit (kU o N):=by
 refine⟨by rw[gA];exact hN,fun c hc=>?_⟩;obtain⟨i,hi,rfl⟩:=j8 hc;have Qh:i<N:=by rwa [gA]at hi
 have:=Au (o:=o) hN Qh;rw[bk,fo hi,vG]at this;rw[this];exact Ey hN i
theorem Sa{o:Nat→Nat}{N:Nat}(hN:N≤300)(h2:2≤(dz o N).length):ql (kU o N)=32768:=by
 obtain⟨h3,h4⟩:=Av (o:=o) hN h2;rw[Y3,gA];have e1:nL (fun s=>gK ((kU o N).getD s 0).toNat) N=nL (fun s=>gK ((ju o N).getD s 0)) N:=pN fun s hs=>by rw[Au hN hs]
 have e2:nL (fun s=>gK ((ju o N).getD s 0)) N=qL (fun s=>gK ((ju o N).getD s 0)) (List.range N):=by
  have:=Fw (fun s=>gK ((ju o N).getD s 0)) (List.range N) N ak;rw[fD ak]at this;rw[this];exact pN fun j hj=>by simp[bk,yg hj]
 have e3:qL (fun s=>gK ((ju o N).getD s 0)) (List.range N)=qL (fun s=>gK ((ju o N).getD s 0)) (mr o N):=BT fun x hx hp=>by
  have:x∉dz o N:=fun hm=>by
   have:=(m8.1 hm).2;simp only[decide_eq_false_iff_not]at hp;exact hp this
  rw[h4 x this];rfl
 have e4:=Z1 (f:=fun s=>gK ((ju o N).getD s 0)) (gE o (mr o N));have e5:=Fw (fun s=>gK ((ju o N).getD s 0)) (dz o N) (dz o N).length (gj _);rw[jN]at e5;rw[e1,e2,e3,←e4];show qL _ (dz o N)=_;rw[e5,←Om (o:=o) hN h2];refine pN fun j hj=>?_;have hp:=Ol hN (o:=o) (m8.1 (bh hj 0)).1 (m8.1 (bh hj 0)).2;rw[h3 j hj]at hp⊢;unfold gK;rw[aw aa]
theorem Gb:∀N:Nat,nz ((List.replicate N 0).map UInt8.ofNat)=0∧num ((List.replicate N 0).map UInt8.ofNat) 1=0
 |0=>⟨rfl,rfl⟩
 |N+1=>by
  obtain⟨h1,h2⟩:=Gb N;rw[zX,kz,CH,yE,h1,h2];exact⟨rfl,rfl⟩
theorem one_set:∀N s:Nat,s<N→nz (((List.replicate N 0).set s 1).map UInt8.ofNat)=1∧num (((List.replicate N 0).set s 1).map UInt8.ofNat) 1=1
 |0,s,h=>by omega
 |N+1,0,h=>by
  obtain⟨h1,h2⟩:=Gb N;rw[zX,List.set_cons_zero,kz,CH,yE,h1,h2];exact⟨rfl,rfl⟩
 |N+1,s+1,h=>by
  obtain⟨h1,h2⟩:=one_set N s aa;rw[zX,N2,kz,CH,yE,h1,h2];exact⟨rfl,rfl⟩
theorem lP{o:Nat→Nat}{N:Nat}(hN:N≤300):Good (kU o N):=by
 have hf:=Y7 (o:=o) hN;by_cases h2:2≤(dz o N).length
 ·exact(D1 hf).2 (.inr (Sa hN h2))
 ·refine(D1 hf).2 (.inl ?_);unfold kU ju;rw[aq aa];split
  ·rename_i h1;right;have hm:(dz o N).getD 0 0∈dz o N:=bh aa 0;have fP:=(m8.1 hm).1;obtain⟨s,hs⟩:=cR ((dz o N).getD 0 0);rw[←hs]at fP⊢;obtain⟨k1,k2⟩:=one_set N s fP;exact⟨k1,k2⟩
  ·left;exact(Gb N).1
theorem alm{P:Prop}(h:P:=by(rw[hl];simp only;omega)):P:=h
theorem VB:type_of% @List.getElem?_take_of_lt:= @List.getElem?_take_of_lt
theorem sR:type_of% @List.take_add_one:= @List.take_add_one
abbrev bN:=UInt8×Int×Int
def mM(b:al)(p a:Nat):Nat→Nat→Nat
 |0,n=>n
 |f+1,n=>if n<257∧a+n<b.length∧b.getD (p+n) 0=b.getD (a+n) 0 then mM b p a f (n+1) else n
def oV(b:al)(p a:Nat):Nat:=mM b p a 257 0
theorem zj(b:al)(p a:Nat):∀(f n:Nat),n≤257→n≤mM b p a f n∧mM b p a f n≤257∧∀i,n≤i→i<mM b p a f n→a+i<b.length∧b.getD (p+i) 0=b.getD (a+i) 0
 |0,n,h=>⟨gj _,h,fun i h1 h2=>absurd h2 (by simp only[mM];omega)⟩
 |f+1,n,h=>by
  unfold mM;by_cases hc:n<257∧a+n<b.length∧b.getD (p+n) 0=b.getD (a+n) 0
  ·rw[aq hc];obtain⟨h1,h2,h3⟩:=zj b p a f (n+1) aa;refine⟨aa,h2,fun i hi hi2=>?_⟩;rcases ue n i with h4|h4
   ·exact h3 i aa hi2
   ·obtain rfl:i=n:=by omega
    exact⟨hc.2.1,hc.2.2⟩
  ·rw[aw hc];exact⟨gj _,h,fun i h1 h2=>absurd h2 aa⟩
theorem Ho(b:al)(p a:Nat):oV b p a≤257:=(zj b p a 257 0 aa).2.1
theorem Xo{b:al}{p a i:Nat}(h:i<oV b p a):a+i<b.length∧b.getD (p+i) 0=b.getD (a+i) 0:=(zj b p a 257 0 aa).2.2 i (bS _) h
def iF(b:al)(a:Nat):UInt8×UInt8×UInt8:=(b.getD a 0,b.getD (a+1) 0,b.getD (a+2) 0)
def eS(b:al)(k:UInt8×UInt8×UInt8):Nat→Option Nat
 |0=>none
 |m+1=>if m+3≤b.length∧iF b m=k then some m else eS b k m
theorem lq{b:al}{k:UInt8×UInt8×UInt8}:∀{m p:Nat},eS b k m=some p→p<m
 |0,p,h=>by cases h
 |m+1,p,h=>by
  unfold eS at h;split at h
  ·injection h with h;omega
  ·have:=lq h;omega
def sY(b:al)(a:Nat):Nat→Option Nat→Nat→Nat→Nat×Nat
 |0,_,n,d=>(n,d)
 |_+1,none,n,d=>(n,d)
 |f+1,some p,n,d=>
  if a-p≤4095∧n<257 then
   (if n<oV b p a then sY b a f (eS b (iF b p) p) (oV b p a) (a-p) else sY b a f (eS b (iF b p) p) n d)
  else (n,d)
def dD(b:al)(a:Nat):Nat×Nat:=if b.length<a+3 then (0,0) else sY b a a (eS b (iF b a) a) 0 0
def Jr(b:al)(a:Nat)(r:Nat×Nat):Prop:=r.1≤257∧(0<r.1→1≤r.2∧r.2≤a∧r.2≤4095∧∀i,i<r.1→a+i<b.length∧b.getD (a-r.2+i) 0=b.getD (a+i) 0)
theorem EB(b:al)(a:Nat):∀(f:Nat) (p:Option Nat) (n d:Nat),(∀x,p=some x→x<a)→Jr b a (n,d)→Jr b a (sY b a f p n d)
 |0,_,n,d,_,h=>h
 |_+1,none,n,d,_,h=>h
 |f+1,some p,n,d,hp,h=>by
  have hpa:=hp p rfl;have hnx:∀x,eS b (iF b p) p=some x→x<a:=fun x hx=>by have:=lq hx;omega
  unfold sY;split
  ·rename_i hc;split
   ·refine EB b a f _ _ _ hnx ⟨Ho b p a,fun _=>⟨cZ,cZ,hc.1,fun i hi=>?_⟩⟩;have:=Xo hi
    rwa [show a-(a,a-p).2+i=p+i by simp only;omega]
   ·exact EB b a f _ _ _ hnx h
  ·exact h
theorem pD(b:al)(a:Nat):Jr b a (dD b a):=by
 unfold dD;split
 ·exact⟨ak,fun h=>absurd h ak⟩
 ·exact EB b a a _ 0 0 (fun x hx=>lq hx) ⟨ak,fun h=>absurd h ak⟩
def findF(b:al):Nat→Nat→List bN
 |0,_=>[]
 |f+1,a=>if a<b.length then (if 3≤(dD b a).1 then (0,((dD b a).1:Int),((dD b a).2:Int))::findF b f (a+(dD b a).1) else (b.getD a 0,0,0)::findF b f (a+1)) else []
def jr(b:al):List bN:=findF b b.length 0
def fa(t:bN):Prop:=if t.2.1=0 then t.2.2=0 else t.1=0∧3≤t.2.1∧t.2.1≤257∧1≤t.2.2∧t.2.2≤4095
instance (t:bN):Decidable (fa t):=by unfold fa;infer_instance
def lN(d:Nat):Nat→al→al
 |0,out=>out
 |n+1,out=>lN d n (out++[out.getD (out.length-d) 0])
theorem oH(d:Nat):∀(n:Nat) (out:al),(lN d n out).length=out.length+n
 |0,out=>rfl
 |n+1,out=>by rw[lN,oH d n];simp;omega
def ic(most:Int):al→List bN→al×Int
 |out,[]=>(out,0)
 |out,t::r=>
  if¬fa t then ([],7)
  else if (out.length:Int)<t.2.2 then ([],8)
  else if most-out.length<max 1 t.2.1 then ([],6)
  else if t.2.1=0 then ic most (out++[t.1]) r
  else ic most (lN t.2.2.toNat t.2.1.toNat out) r
def kE(l:List bN)(most:Int):al×Int:=if most<0 then ([],13) else ic most [] l
theorem HZ{b:al}{d:Nat}:∀(n a:Nat),1≤d→d≤a→(∀i,i<n→a+i<b.length∧b.getD (a-d+i) 0=b.getD (a+i) 0)→a≤b.length→lN d n (b.take a)=b.take (a+n)
 |0,a,_,_,_,_=>rfl
 |n+1,a,h1,h2,h3,h4=>by
  obtain⟨h5,h6⟩:=h3 0 aa;rw[tf]at h5 h6;rw[tf]at h6;have e:(b.take a).getD ((b.take a).length-d) 0=b.getD a 0:=by
   rw[eV,zd h4,←h6];simp only[bk];rw[VB aa]
  have e2:b.take a++[b.getD a 0]=b.take (a+1):=by
   rw[sR,fo h5];simp[List.getD,fo h5]
  rw[lN,e,e2,HZ n (a+1) h1 aa (fun i hi=>by
   have:=h3 (i+1) aa;rw[show a+1+i=a+(i+1) by omega,show a+1-d+i=a-d+(i+1) by omega];exact this) aa]
  congr 1;omega
theorem AM(b:al)(most:Int)(hm:(b.length:Int)≤most):∀(f a:Nat),a≤b.length→b.length-a≤f→ic most (b.take a) (findF b f a)=(b,0)
 |0,a,h1,h2=>by
  obtain rfl:a=b.length:=by omega
  simp[findF,ic]
 |f+1,a,h1,h2=>by
  unfold findF;split
  ·rename_i ha;have hl:(b.take a).length=a:=by rw[eV];omega
   split
   ·rename_i h3;obtain⟨k1,k2⟩:=pD b a;obtain⟨k3,k4,k5,k6⟩:=k2 aa;have aki:=(k6 ((dD b a).1-1) aa).1;generalize dD b a=r at*;obtain⟨n,d⟩:=r;simp only at*;have hl:(b.take a).length=a:=by rw[eV];omega
    have fJ:fa (0,(n:Int),(d:Int)):=by unfold fa;rw[aw cZ];exact⟨rfl,cZ,cZ,cZ,cZ⟩
    have hmx:max (1:Int) (n:Int)=n:=Int.max_eq_right aa;unfold ic;rw[aw (fun h=>h fJ),aw alm,aw (by rw[hl];simp only;rw[hmx];omega),aw cZ];show ic most (lN d n (b.take a)) _=_;rw[HZ n a k3 k4 k6 h1];exact AM b most hm f (a+n) aa aa
   ·have fJ:fa (b.getD a 0,0,0):=by unfold fa;rw[aq rfl]
    unfold ic;rw[aw (fun h=>h fJ),aw alm,aw alm,aq rfl];have e2:b.take a++[b.getD a 0]=b.take (a+1):=by
     rw[sR,fo ha];simp[List.getD,fo ha]
    show ic most (b.take a++[b.getD a 0]) _=_;rw[e2];exact AM b most hm f (a+1) aa aa
  ·obtain rfl:a=b.length:=by omega
   simp[ic]
theorem w6(b:al)(most:Int)(hm:(b.length:Int)≤most):kE (jr b) most=(b,0):=by
 unfold kE jr;rw[aw aa];have:=AM b most hm b.length 0 (bS _) aa
 rwa [Ah]at this
theorem DT(b:al):∀(f a:Nat),a≤b.length→(findF b f a).length≤b.length-a
 |0,a,_=>bS _
 |f+1,a,h=>by
  unfold findF;split
  ·rename_i ha;split
   ·rename_i h3;obtain⟨k1,k2⟩:=pD b a;obtain⟨k3,k4,k5,k6⟩:=k2 aa;have aki:=(k6 ((dD b a).1-1) aa).1;have:=DT b f (a+(dD b a).1) aa;rw[eh];omega
   ·have:=DT b f (a+1) aa;rw[eh];omega
  ·exact bS _
theorem L8{P:Prop}(h:P:=by(simp only at h;omega)):P:=h
theorem L_{P:Prop}(h:P:=by(rw[hq];simp[bV])):P:=h
abbrev Qs:=Nat×Nat×Nat×Nat
def pU(v:Nat):Nat:=v.log2
def JP(v:Nat):Nat:=v-2^v.log2
def bJ(t:bN):Qs:=if t.2.1=0 then (t.1.toNat,0,0,0) else (257+pU (t.2.1-2).toNat,JP (t.2.1-2).toNat,pU t.2.2.toNat,JP t.2.2.toNat)
theorem QT{v:Nat}(h:v≠0):2^pU v+JP v=v∧JP v<2^pU v:=by
 unfold pU JP;have h1:=Nat.log2_self_le h;have h2:= @Nat.lt_log2_self v;rw[nF]at h2;omega
theorem JQ{v k:Nat}(h:v<2^(k+1))(hv:v≠0):pU v≤k:=by
 unfold pU;have h1:=Nat.log2_self_le hv;rcases ue k v.log2 with h2|h2
 ·have:=k_ (show 1≤2 by omega) (show k+1≤v.log2 by omega);omega
 ·exact h2
theorem nH{t:bN}(h:fa t)(h0:¬t.2.1=0):257≤(bJ t).1∧(bJ t).1≤264∧(bJ t).2.2.1≤11∧(bJ t).2.1<2^((bJ t).1-257)∧(bJ t).2.2.2<2^(bJ t).2.2.1∧
  (2:Int)+2^((bJ t).1-257)+(bJ t).2.1=t.2.1∧(2:Int)^(bJ t).2.2.1+(bJ t).2.2.2=t.2.2∧t.1=0:=by
 unfold fa at h;rw[aw h0]at h;obtain⟨h1,h2,h3,h4,h5⟩:=h;unfold bJ;rw[aw h0];simp only;obtain⟨n,hn⟩:=cR ((t.2.1-2).toNat);obtain⟨d,hd⟩:=cR (t.2.2.toNat);rw[←hn,←hd];have a1:=QT (v:=n) aa;have a2:=QT (v:=d) aa;have a3:=JQ (v:=n) (k:=7) aa aa;have a4:=JQ (v:=d) (k:=11) aa aa;rw[show 257+pU n-257=pU n by omega];have e1:((2:Int)^pU n)=((2^pU n:Nat):Int):=by simp
 have e2:((2:Int)^pU d)=((2^pU d:Nat):Int):=by simp
 rw[e1,e2];exact⟨aa,aa,a4,a1.2,a2.2,aa,aa,h1⟩
theorem vd{t:bN}(h:fa t)(h0:t.2.1=0):bJ t=(t.1.toNat,0,0,0)∧t=(t.1,0,0):=by
 unfold fa at h;rw[aq h0]at h;refine⟨aq h0,?_⟩;obtain⟨x,n,d⟩:=t;simp only at h h0;subst h;subst h0;rfl
def JR(l:List bN)(s:Nat):Nat:=l.countP (fun t=>(bJ t).1==s)+if s=256 then 1 else 0
def wH(l:List bN)(s:Nat):Nat:=l.countP (fun t=>decide (256<(bJ t).1)&&(bJ t).2.2.1==s)
def fi(l:List bN):al:=kU (JR l) 265
def ir(l:List bN):al:=kU (wH l) 12
def vK(sl fl:al)(t:bN):List Bool:=hw sl (bJ t).1++if (bJ t).1<256 then [] else hi (bJ t).2.1 ((bJ t).1-257) ((bJ t).1-257)++(hw fl (bJ t).2.2.1++hi (bJ t).2.2.2 (bJ t).2.2.1 (bJ t).2.2.1)
def mJ(sl fl:al)(l:List bN):List Bool:=l.flatMap (vK sl fl)
def qx(l:List bN):List Bool:=iq (fi l) 0++(iq (ir l) 0++(mJ (fi l) (ir l) l++hw (fi l) 256))
def ly(l:List bN):al×Int:=if 32768<l.length then ([],6) else if∀t∈l,fa t then (packed (qx l),0) else ([],7)
def arQ(x:Int)(b:Nat):Prop:=0≤x∧x<2^b
instance (x:Int)(b:Nat):Decidable (arQ x b):=inferInstanceAs (Decidable (_∧_))
def mX(fl:al)(q:List Bool)(p:Nat)(s:Int):bN×Int×Nat:=
 if¬r_ q p (s-257)=0 then ((0,0,0),r_ q p (s-257),iH q p (s-257))
 else if¬(fC fl q (iH q p (s-257))).2.1=0 then ((0,0,0),(fC fl q (iH q p (s-257))).2.1,(fC fl q (iH q p (s-257))).2.2)
 else if¬r_ q (fC fl q (iH q p (s-257))).2.2 (fC fl q (iH q p (s-257))).1=0 then ((0,0,0),r_ q (fC fl q (iH q p (s-257))).2.2 (fC fl q (iH q p (s-257))).1,iH q (fC fl q (iH q p (s-257))).2.2 (fC fl q (iH q p (s-257))).1)
 else ((0,2+2^(s-257).toNat+(oM q p (s-257):Int),2^(fC fl q (iH q p (s-257))).1.toNat+(oM q (fC fl q (iH q p (s-257))).2.2 (fC fl q (iH q p (s-257))).1:Int)),0,iH q (fC fl q (iH q p (s-257))).2.2 (fC fl q (iH q p (s-257))).1)
def kg(sl fl:al)(q:List Bool)(p:Nat):bN×Bool×Int×Nat:=
 if¬(fC sl q p).2.1=0∨(fC sl q p).1=256 then ((0,0,0),false,(fC sl q p).2.1,(fC sl q p).2.2)
 else if (fC sl q p).1<256 then ((UInt8.ofNat (fC sl q p).1.toNat,0,0),true,0,(fC sl q p).2.2)
 else ((mX fl q (fC sl q p).2.2 (fC sl q p).1).1,decide ((mX fl q (fC sl q p).2.2 (fC sl q p).1).2.1=0),(mX fl q (fC sl q p).2.2 (fC sl q p).1).2.1,(mX fl q (fC sl q p).2.2 (fC sl q p).1).2.2)
def rI(sl fl:al)(q:List Bool):Nat→Int→Nat→List bN→List bN×Int
 |0,most,p,acc=>([],6)
 |f+1,most,p,acc=>
  if¬(kg sl fl q p).2.2.1=0 then ([],(kg sl fl q p).2.2.1)
  else if (kg sl fl q p).2.1=false then (if paE q (kg sl fl q p).2.2.2=0 then (acc,0) else ([],paE q (kg sl fl q p).2.2.2))
  else if most-max 1 (kg sl fl q p).1.2.1<0 then ([],6)
  else rI sl fl q f (most-max 1 (kg sl fl q p).1.2.1) (kg sl fl q p).2.2.2 (acc++[(kg sl fl q p).1])
noncomputable def fN(b:al)(most:Int):List bN×Int:=
 if most<0 then ([],13)
 else if¬(qP (gi b) 0 265).2.1=0 then ([],(qP (gi b) 0 265).2.1)
 else if¬(qP (gi b) (qP (gi b) 0 265).2.2 12).2.1=0 then ([],(qP (gi b) (qP (gi b) 0 265).2.2 12).2.1)
 else rI (qP (gi b) 0 265).1 (qP (gi b) (qP (gi b) 0 265).2.2 12).1 (gi b) (most.toNat+1) most (qP (gi b) (qP (gi b) 0 265).2.2 12).2.2 []
def gR:List bN→Int
 |[]=>0
 |t::r=>max 1 t.2.1+gR r
theorem kL{o:Nat→Nat}{N s:Nat}(hN:N≤300)(hs:s<N)(ho:0<o s):((kU o N).getD s 0).toNat≠0:=by
 rw[Au hN hs];have:=Ol hN hs ho;omega
theorem Di{l:List bN}{t:bN}(h:t∈l):0<JR l (bJ t).1:=by
 unfold JR;have:0<l.countP fun u=>(bJ u).1==(bJ t).1:=List.countP_pos_iff.2 ⟨t,h,ak⟩;omega
theorem Dg{l:List bN}{t:bN}(h:t∈l)(h2:256<(bJ t).1):0<wH l (bJ t).2.2.1:=by
 unfold wH;exact List.countP_pos_iff.2 ⟨t,h,by simp[h2]⟩
theorem afH{l:List bN}(hm:∀t∈l,fa t){t:bN}(ht:t∈l)(pre r:List Bool){q:List Bool}(hq:q=pre++(vK (fi l) (ir l) t++r)):
  kg (fi l) (ir l) q pre.length=(t,true,0,(pre++vK (fi l) (ir l) t).length):=by
 have hsg:Good (fi l):=lP aa;have hfg:Good (ir l):=lP aa;have fJ:=hm t ht;have hc:=Di ht;by_cases h0:t.2.1=0
 ·obtain⟨e1,e2⟩:=vd fJ h0;have hx:=mH t.1;have fP:(bJ t).1<256:=by rw[e1];exact hx
  have hb:vK (fi l) (ir l) t=hw (fi l) (bJ t).1:=by unfold vK;rw[aq fP,gk]
  rw[hb]at hq⊢;have hg:=x_ hsg (s:=(bJ t).1) (by rw[fi,gA];omega) (kL aa aa hc) pre r hq;unfold kg;rw[hg,aw (fun h=>h.elim (fun h=>h rfl) fun h=>L8),aq cZ];simp only[e1];rw[e2];simp
 ·obtain⟨k1,k2,k3,k4,k5,k6,k7,k8⟩:=nH fJ h0;have hf:=Dg ht (by omega:256<(bJ t).1);obtain⟨P,hP⟩:=cR (bJ t);unfold vK at hq⊢;rw[←hP]at k1 k2 k3 k4 k5 k6 k7 hf hc hq⊢;obtain⟨s,x,c,y⟩:=P;simp only at k1 k2 k3 k4 k5 k6 k7 hf hc hq⊢;rw[aw aa]at hq⊢;have hg:=x_ hsg (s:=s) (by rw[fi,gA];omega) (kL aa aa hc) pre (hi x (s-257) (s-257)++(hw (ir l) c++(hi y c c++r))) (q:=q) L_;obtain⟨b1,b2,b3⟩:=got q (pre++hw (fi l) s) (hw (ir l) c++(hi y c c++r)) x (n:=s-257) aa k4 L_;have NC:=x_ hfg (s:=c) (by rw[ir,gA];omega) (kL aa aa hf) (pre++hw (fi l) s++hi x (s-257) (s-257)) (hi y c c++r) (q:=q) L_;obtain⟨c1,c2,c3⟩:=got q (pre++hw (fi l) s++hi x (s-257) (s-257)++hw (ir l) c) r y (n:=c) aa k5 L_;have es:((s:Int)-257)=((s-257:Nat):Int):=by omega
  have asC:mX (ir l) q (pre++hw (fi l) s).length (s:Int)=(t,0,(pre++hw (fi l) s++hi x (s-257) (s-257)++hw (ir l) c++hi y c c).length):=by
   unfold mX;rw[es,b1,b3,NC];simp only;rw[c1,c3,b2,c2,aw ak,aw ak,aw ak,nC,nC,k6,k7,←k8]
  unfold kg;rw[hg];simp only;rw[aw (fun h=>h.elim (fun h=>by simp at h) fun h=>aa),aw aa,asC];simp[bV]
theorem xd(sl fl:al)(t:bN)(r:List bN):mJ sl fl (t::r)=vK sl fl t++mJ sl fl r:=rfl
theorem afG{l:List bN}(pre r:List Bool){q:List Bool}(hq:q=pre++(hw (fi l) 256++r)):
  kg (fi l) (ir l) q pre.length=((0,0,0),false,0,(pre++hw (fi l) 256).length):=by
 have hg:=x_ (lP (o:=JR l) (N:=265) aa) (s:=256) (by rw[gA];omega) (kL aa aa (by unfold JR;rw[aq rfl];omega)) pre r hq;unfold kg;unfold fi at*;rw[hg,aq (.inr rfl)]
theorem nI:∀r:List bN,0≤gR r
 |[]=>Int.le_refl _
 |t::r=>by have:=nI r;unfold gR;omega
theorem PI{l:List bN}(hm:∀t∈l,fa t){q:List Bool}{r:List Bool}(hr:paE q (q.length-r.length)=0):∀(ts:List bN) (f:Nat) (most:Int) (pre:List Bool) (acc:List bN),(∀t∈ts,t∈l)→gR ts≤most→most<f→
  q=pre++(mJ (fi l) (ir l) ts++(hw (fi l) 256++r))→rI (fi l) (ir l) q f most pre.length acc=(acc++ts,0)
 |ts,0,most,pre,acc,_,h2,h3,_=>by have:=nI ts;omega
 |[],f+1,most,pre,acc,_,h2,h3,hq=>by
  have hq':q=pre++(hw (fi l) 256++r):=hq;have h:=afG pre r hq';unfold rI;rw[h,aw ak,aq rfl];have:(pre++hw (fi l) 256).length=q.length-r.length:=by rw[hq'];simp;omega
  simp only[this];rw[aq hr,gk]
 |t::ts,f+1,most,pre,acc,h1,h2,h3,hq=>by
  rw[xd,bV]at hq;have h:=afH hm (h1 t ak) pre _ hq;unfold gR at h2;have hp:=nI ts;unfold rI;rw[h,aw ak,aw ak,aw cZ];simp only;rw[PI hm hr ts f _ (pre++vK (fi l) (ir l) t) (acc++[t]) (fun u hu=>h1 u (by simp[hu])) aa aa L_,bV];rfl
theorem aiz(q:List Bool):paE (q++pad q) ((q++pad q).length-(pad q).length)=0:=by
 have e:(q++pad q).length-(pad q).length=q.length:=by simp
 have hl:=w5 q;unfold paE;rw[e,arp,aq ⟨by rw[aX,hl];omega,rfl⟩]
theorem aaj{l:List bN}(hm:∀t∈l,fa t){most:Int}(hp:gR l≤most):fN (packed (qx l)) most=(l,0):=by
 have hsg:Good (fi l):=lP aa;have hfg:Good (ir l):=lP aa;have tX:=nI l;obtain⟨q,hq⟩:=cR (gi (packed (qx l)));have YJ:=hq;rw[qM]at hq;have nP:(fi l).length=265:=gA _ _;have lZ:(ir l).length=12:=gA _ _;obtain⟨T,hT⟩:=cR (mJ (fi l) (ir l) l++(hw (fi l) 256++pad (qx l)));have hq3:q=iq (fi l) 0++(iq (ir l) 0++T):=by rw[hq,hT];unfold qx;simp[bV]
 have r1:qP q 0 265=(fi l,0,(iq (fi l) 0).length):=by
  have:=back (fi l) hsg (iq (ir l) 0++T) (fi l).length 0 (fi l).length [] false q aa aa hq3 aa (fun h=>jY);rw[nP]at this;rw[qP,aw aa];simpa using this
 have r2:qP q (iq (fi l) 0).length 12=(ir l,0,(iq (fi l) 0++iq (ir l) 0).length):=by
  have:=back (ir l) hfg T (ir l).length 0 (ir l).length (iq (fi l) 0) false q aa aa hq3 aa (fun h=>jY);rw[lZ]at this;rw[qP,aw aa];simpa using this
 unfold fN;rw[←YJ,aw aa,r1];simp only;rw[r2];simp only;rw[aw ak,aw ak];have hpe:=aiz (qx l);rw[←hq]at hpe;have:=PI hm (q:=q) (r:=pad (qx l)) hpe l (most.toNat+1) most (iq (fi l) 0++iq (ir l) 0) [] (fun t h=>h) hp aa (by rw[hq3,hT];simp[bV])
 rwa [nU]at this
theorem zD(b:al):∀(f a:Nat),a≤b.length→gR (findF b f a)≤((b.length-a:Nat):Int)
 |0,a,h=>by simp only[findF,gR];omega
 |f+1,a,h=>by
  unfold findF;split
  ·rename_i ha;split
   ·rename_i h3;obtain⟨k1,k2⟩:=pD b a;obtain⟨k3,k4,k5,k6⟩:=k2 aa;have aki:=(k6 ((dD b a).1-1) aa).1;have:=zD b f (a+(dD b a).1) aa;unfold gR;simp only;omega
   ·have:=zD b f (a+1) aa;unfold gR;simp only;omega
  ·simp only[gR];omega
theorem xX(b:al):∀(f a:Nat),∀t∈findF b f a,fa t
 |0,a,t,h=>by cases h
 |f+1,a,t,h=>by
  unfold findF at h;split at h
  ·rename_i ha;split at h
   ·rename_i h3;obtain⟨k1,k2⟩:=pD b a;obtain⟨k3,k4,k5,k6⟩:=k2 aa;rcases fm.1 h with e|e
    ·subst e;unfold fa;rw[aw cZ];exact⟨rfl,cZ,cZ,cZ,cZ⟩
    ·exact xX b f _ t e
   ·rcases fm.1 h with e|e
    ·subst e;unfold fa;rw[aq rfl]
    ·exact xX b f _ t e
  ·cases h
theorem IH:type_of% @BitVec.toNat_ofInt:= @BitVec.toNat_ofInt
theorem VD:type_of% @Nat.shiftRight_eq_div_pow:= @Nat.shiftRight_eq_div_pow
theorem aga{x:Int}(h1:0≤x)(h2:x<4294967296):IntKind.u32.wrap x=x:=by
 have e:IntKind.u32.wrap x=x%2^32:=rfl;rw[e];omega
theorem an0{k:IntKind}{a b:Nat}(ha:a<2^k.bits)(hb:b<2^k.bits):(BitVec.ofInt k.bits (a:Int) ^^^ BitVec.ofInt k.bits (b:Int)).toNat=a ^^^ b:=by
 rw[BitVec.toNat_xor,IH,IH];have h1:((a:Int)%((2^k.bits:Nat):Int)).toNat=a:=by
  rw[←Int.natCast_emod,jc ha];rfl
 have h2:((b:Int)%((2^k.bits:Nat):Int)).toNat=b:=by
  rw[←Int.natCast_emod,jc hb];rfl
 rw[h1,h2]
theorem alb{k:IntKind}{a b:Nat}(ha:a<2^k.bits)(hb:b<2^k.bits):(BitVec.ofInt k.bits (a:Int) &&& BitVec.ofInt k.bits (b:Int)).toNat=a &&& b:=by
 rw[BitVec.toNat_and,IH,IH];have h1:((a:Int)%((2^k.bits:Nat):Int)).toNat=a:=by
  rw[←Int.natCast_emod,jc ha];rfl
 have h2:((b:Int)%((2^k.bits:Nat):Int)).toNat=b:=by
  rw[←Int.natCast_emod,jc hb];rfl
 rw[h1,h2]
theorem Xf{a b:Nat}(ha:a<4294967296)(hb:b<4294967296):IntKind.u32.wrap ((BitVec.ofInt IntKind.u32.bits (a:Int) ^^^ BitVec.ofInt IntKind.u32.bits (b:Int)).toNat:Int)=((a ^^^ b:Nat):Int):=by
 rw[an0 (k:=.u32) ha hb];have:=BB (n:=32) ha hb;exact aga aa aa
theorem aaV{a b:Nat}(ha:a<4294967296)(hb:b<4294967296):IntKind.u32.wrap ((BitVec.ofInt IntKind.u32.bits (a:Int) &&& BitVec.ofInt IntKind.u32.bits (b:Int)).toNat:Int)=((a &&& b:Nat):Int):=by
 rw[alb (k:=.u32) ha hb];have:=NY (n:=32) a hb;exact aga aa aa
theorem ajJ{a b:Nat}(ha:a<256)(hb:b<256):IntKind.u8.wrap ((BitVec.ofInt IntKind.u8.bits (a:Int) ^^^ BitVec.ofInt IntKind.u8.bits (b:Int)).toNat:Int)=((a ^^^ b:Nat):Int):=by
 rw[an0 (k:=.u8) ha hb];have:=BB (n:=8) ha hb;exact aaE aa aa
theorem aob{a b:Nat}(ha:a<256)(hb:b<256):IntKind.u8.wrap ((BitVec.ofInt IntKind.u8.bits (a:Int) &&& BitVec.ofInt IntKind.u8.bits (b:Int)).toNat:Int)=((a &&& b:Nat):Int):=by
 rw[alb (k:=.u8) ha hb];have:=NY (n:=8) a hb;exact aaE aa aa
theorem G'(a k:Nat):((a:Nat):Int).fdiv (2^k)=((a >>> k:Nat):Int):=by
 rw[wg _ (Int.le_of_lt (Int.pow_pos aA)),VD];rw[Int.natCast_ediv];congr 1
theorem S7(a k:Nat):a >>> k≤a:=by rw[VD];exact rj _ _
theorem yh:type_of% @Nat.le_of_not_lt:= @Nat.le_of_not_lt
theorem wi:type_of% @Nat.add_sub_cancel:= @Nat.add_sub_cancel
theorem BI:type_of% @List.drop_left:= @List.drop_left
def yS:bc:=[0,498536548,997073096,651767980,1994146192,1802195444,1303535960,1342533948,3988292384,4027552580,3604390888,3412177804,2607071920,2262029012,2685067896,3183342108]
def zu(x:Nat):Nat:=(x >>> 4) ^^^ yS.getD (x &&& 15) 0
def QY(x:Nat)(c:UInt8):Nat:=zu (zu (x ^^^ c.toNat))
def pV(s:Nat)(b:al):Nat:=4294967295 ^^^ b.foldl QY (4294967295 ^^^ s)
theorem FC(k:Nat):yS.getD k 0<4294967296:=by
 have mA:∀x∈yS,x<4294967296:=by decide
 by_cases h:k<yS.length
 ·rw[bk,fo h];exact mA _ (t_ h)
 ·rw[bk,zZ (yh h)];decide
theorem JS{x:Nat}(h:x<4294967296):zu x<4294967296:=by
 have h1:=S7 x 4;exact BB (n:=32) aa (FC _)
theorem ag7{x:Nat}(h:x<4294967296)(c:UInt8):QY x c<4294967296:=by
 have h1:=c.toNat_lt;exact JS (JS (BB (n:=32) h aa))
def mn(s:Nat):al:=[UInt8.ofNat s,UInt8.ofNat (s >>> 8),UInt8.ofNat (s >>> 16),UInt8.ofNat (s >>> 24)]
def cY(b:al):al:=b++mn (pV 0 b)
def aK(b:al):al×Int:=
 if b.length<4 then ([],1) else if b.drop (b.length-4)=mn (pV 0 (b.take (b.length-4))) then (b.take (b.length-4),0) else ([],5)
theorem Z8(s:Nat):(mn s).length=4:=rfl
theorem du(b:al):(cY b).length=b.length+4:=by simp[cY,Z8]
theorem jw(b:al):aK (cY b)=(b,0):=by
 unfold aK;rw[aw (by rw[du];omega),du,wi];have h1:(cY b).take b.length=b:=by unfold cY;rw[yo]
 have h2:(cY b).drop b.length=mn (pV 0 b):=by unfold cY;rw[BI]
 rw[h1,h2,aq rfl]
theorem sS:type_of% @Nat.mod_lt:= @Nat.mod_lt
def aS:Nat→al
 |x=>if h:128≤x then UInt8.ofNat (128+x%128)::aS (x/128) else [UInt8.ofNat x]
 termination_by x=>x
 decreasing_by omega
theorem ox{x:Nat}(h:x<128):aS x=[UInt8.ofNat x]:=by
 rw[aS];simp;omega
theorem uU{x:Nat}(h:128≤x):aS x=UInt8.ofNat (128+x%128)::aS (x/128):=by
 rw[aS];simp[h]
theorem Nb(k:Nat):∀x,x<128^(k+1)→(aS x).length≤k+1:=by
 induction k with
 |zero=>intro x h;rw[ox nu];simp
 |succ k ih=>
  intro x h;by_cases hx:128≤x
  ·rw[uU hx];have:=ih (x/128) (by rw[nF]at h;omega);simp;omega
  ·rw[ox aa];simp
theorem aT{x:Nat}(h:x<18446744073709551616):(aS x).length≤10:=by
 have:(128:Nat)^10=1180591620717411303424:=by decide+kernel
 exact Nb 9 x aa
theorem u8n(x:Nat)(h:x<256):(UInt8.ofNat x).toNat=x:=by simp;omega
theorem JJ(x:Nat)(h:x<256):bv [UInt8.ofNat x]=[.int .u8 (x:Int)]:=by simp only[bv,kz,G1,u8n x h]
def ft(l:al):al:=aS l.length++l
def fI(x:Nat):Nat→al
 |0=>[]
 |k+1=>fI x k++[UInt8.ofNat (x/2^(8*k)%256)]
@[simp] theorem qe(x k:Nat):(fI x k).length=k:=by induction k with
 |zero=>rfl
 |succ k ih=>simp[fI,ih]
theorem U0{x n k:Nat}(h:k<n)(u:Value)(hu:u= .int .u8 ((x/2^(8*k)%256:Nat):Int)):
  (bv (fI x k)++List.replicate (n-k) (Value.int .u8 0)).set k u=bv (fI x (k+1))++List.replicate (n-(k+1)) (Value.int .u8 0):=by
 rw[Wo _ h,KZ _ _ _ _ ak,hu,fI,gv,JJ _ (sS _ aa)];simp
theorem WE:sF Tryz.prog 27 5 1 1 (.int .u8 0):=la underlying27 ag rfl aa
theorem adR{x k:Nat}{pre:al}(h:aS x=pre++aS k)(hk:128≤k):aS x=(pre++[UInt8.ofNat (128+k%128)])++aS (k/128):=by
 rw[h,uU hk];simp
theorem aiw(k:Nat):bits .or .u8 ((k:Int)%256) 128=((128+k%128:Nat):Int):=by
 have h:=u8_or (k%256) 128 aa aa;rw[ad6 _ aa]at h;rw[show((k:Int)%256)=((k%256:Nat):Int) from by omega];refine h.trans ?_;omega
def Hj(x k:Nat)(pre:al):Prop:=aS x=pre++aS k∧k≤x
theorem Hj.anm{x k:Nat}{pre:al}(h:Hj x k pre)(hx:x<18446744073709551616):pre.length≤10:=by
 have h1:=dC List.length h.1;have h2:=aT hx;simp at h1;omega
theorem Hj.more{x k:Nat}{pre:al}(h:Hj x k pre)(hk:128≤k):Hj x (k/128) (pre++[UInt8.ofNat (128+k%128)]):=
 ⟨adR h.1 hk,(by have:=h.2;omega)⟩
set_option maxRecDepth 100000 in
set_option maxHeartbeats 400000 in
theorem aqK(x:Nat)(hx:x<18446744073709551616)(w:World):
  Calls Tryz.prog 63 #[.int .u64 x] w fun e w'=>∃v,e= .returned v∧w'.ownsRow w.heap.size 5 1 v (aS x).length (bv (aS x))∧Below w.heap.size w w':=by
 go_enter func63,Tryz.ntmps63
 go_wp2
 go_loopw [0,3] (fun xv v wr=>∃(k:Nat) (pre:al),xv= .int .u64 k∧Hj x k pre∧wr.ownsRow w.heap.size 5 1 v pre.length (bv pre)∧Below w.heap.size w wr)
  (fun xv _ _=>(intOf xv).toNat)
 case atStart=>exact⟨x,[],rfl,⟨rfl,gj _⟩,World.ownsRow_nil _ _ _ _,G3 _ _⟩
 case round=>
  obtain⟨k,pre,rfl,GQ,mg,hb⟩:=hrel;have hlen:=GQ.anm hx;have hkx:k≤x:=GQ.2;have hB:=hb.size;have hob:=aiw k;by_cases arZ:128≤k
  ·go_wp2_with (first|(at_builtin;refine Xd WE rfl (.tmp 6) (.tmp 10) rfl rfl mg rfl rfl hb (gj _) hB aa aa ?_;intro v1 w1 Ea qf k9 hg1))
   go_roundw
   case rel=>exact⟨k/128,pre++[UInt8.ofNat (128+k%128)],by go_num,GQ.more arZ,SM Ea ak (by rw[gv,JJ _ aa];congr 2),qf⟩
   case measure=>simp[intOf];omega
  ·go_wp2_with (first|(at_builtin;refine Xd WE rfl (.tmp 14) (.tmp 17) rfl rfl mg rfl rfl hb (gj _) hB aa aa ?_;intro v1 w1 Ea qf k9 hg1))
   go_ret
   have e:=GQ.1;rw[ox (by omega:k<128)]at e;refine⟨v1,rfl,SM Ea (by rw[e];simp) ?_,qf⟩;rw[e,gv,JJ _ aa]
theorem W6:∃i,Tryz.prog.info? 5=some i∧i.zero=some (.int .u8 0)∧i.size=1∧i.bytes=1:=WE.hi
set_option maxRecDepth 100000 in
set_option maxHeartbeats 400000 in
theorem anH(s:ByteArray)(hs:s.size≤1099511627776)(w:World):
  Calls Tryz.prog 143 #[.string s] w fun e w'=>∃v,e= .returned v∧w'.ownsRow w.heap.size 5 1 v (ft s.data.toList).length (bv (ft s.data.toList))∧Below w.heap.size w w':=by
 obtain⟨i0,hi,hz0,Kn,vD⟩:=W6;have jb:s.data.toList.length=s.size:=Kw;have Hsz:=jL jb;clear jb;have hl:(aS s.size).length≤10:=aT aa
 go_enter func143,Tryz.ntmps143
 go_wp2_with (first|(go_at_call 63;refine(aqK _ aa _).mono ?_;rintro e w1 ⟨v1,rfl,mg,hb⟩)|(at_builtin;refine Lib.wpList_append_own_string _ rfl (.tmp 6) (.tmp 7) 27 9 rfl w.heap.size 5 i0 underlying27 underlying9 hi hz0 Kn vD _ _ _ rfl mg s rfl Bk aa hb.size ?_;intro v2 w2 Iz NC _))
 go_ret
 refine⟨v2,rfl,SM Iz (by rw[ft,aX,Hsz.out]) (by rw[ft,gv,Hsz.out];rfl),hb.grown NC hb.size fun k hk=>(mg.lt k hk).1⟩
theorem alo{P:Prop}(h:P:=by(simp only[eh];omega)):P:=h
def dp:Nat→Nat→al→Nat×Nat×Int
 |_,_,[]=>(0,0,1)
 |i,acc,c::r=>
  if i=9∧c.toNat≠1∨0<i∧c.toNat=0 then (0,0,2)
  else if c.toNat<128 then (acc+c.toNat%128*128^i,i+1,0)
  else dp (i+1) (acc+c.toNat%128*128^i) r
def cM(l:al):Nat×Nat×Int:=dp 0 0 l
def eu(l:al)(most:Int):Nat×Nat×Int:=
 if (cM l).2.2≠0 then (0,0,(cM l).2.2)
 else if most<0∨most<(cM l).1 then (0,0,6)
 else ((cM l).1,(cM l).2.1,0)
structure Cs where
 b:al
 at_:Nat
 e:Int
def Cs.rest(s:Cs):al:=s.b.drop s.at_
def Cs.left(s:Cs):Nat:=s.b.length-s.at_
def Cs.failed(s:Cs)(e:Int):Cs:=if s.e=0 then {s with e:=e} else s
def Cs.ew(s:Cs)(n:Nat)(e:Int):Cs:=if s.e≠0 then s else if e≠0 then {s with e:=e} else {s with at_:=s.at_+n}
def Cs.num(s:Cs):Nat:=if s.e≠0 then 0 else (cM s.rest).1
def Cs.lX(s:Cs):Cs:=s.ew (cM s.rest).2.1 (cM s.rest).2.2
def Cs.int(s:Cs)(most:Int):Nat:=if s.e≠0 then 0 else (eu s.rest most).1
def Cs.bX(s:Cs)(most:Int):Cs:=s.ew (eu s.rest most).2.1 (eu s.rest most).2.2
def im(l:al)(n:Int):Int:=if n<0 then 13 else if (l.length:Int)<n then 1 else 0
def Cs.take(s:Cs)(n:Int):al:=if s.e≠0 then [] else if im s.rest n≠0 then [] else s.rest.take n.toNat
def Cs.b_(s:Cs)(n:Int):Cs:=s.ew n.toNat (im s.rest n)
def Cs.byte(s:Cs):UInt8:=((s.take 1).head?).getD 0
def Cs.eJ(s:Cs):Cs:=s.b_ 1
def iO:al→Nat
 |[]=>0
 |c::r=>c.toNat+256*iO r
def Cs.fixed(s:Cs)(n:Int):Nat:=if n<1∨8<n then 0 else iO (s.take n)
def Cs.kZ(s:Cs)(n:Int):Cs:=if n<1∨8<n then s.failed 13 else s.b_ n
def jS(l:al)(most:Int):al×Nat×Int:=
 if (eu l most).2.2≠0 then ([],0,(eu l most).2.2)
 else if l.length-(eu l most).2.1<(eu l most).1 then ([],0,1)
 else ((l.drop (eu l most).2.1).take (eu l most).1,(eu l most).2.1+(eu l most).1,0)
def Cs.text(s:Cs)(most:Int):al:=if s.e≠0 then [] else (jS s.rest most).1
def Cs.ey(s:Cs)(most:Int):Cs:=s.ew (jS s.rest most).2.1 (jS s.rest most).2.2
def Cs.xV(s:Cs):Cs:=if 0<s.left then s.failed 2 else s
theorem Fk:∀(l:al) (i acc:Nat),i≤9→acc<128^i→
  (dp i acc l).1<18446744073709551616∧(dp i acc l).2.1≤i+l.length∧0≤(dp i acc l).2.2∧(dp i acc l).2.2≤2:=by
 intro l;induction l with
 |nil=>intro i acc _ _;simp[dp]
 |cons c r ih=>
  intro i acc hi ha;unfold dp;have hp:128^(i+1)=128^i*128:=nF ..;by_cases h1:i=9∧c.toNat≠1∨0<i∧c.toNat=0
  ·rw[aq h1];simp
  ·rw[aw h1];have v_:acc+c.toNat%128*128^i<128^(i+1):=by
    have:c.toNat%128*128^i≤127*128^i:=oC _ aa;omega
   by_cases h2:c.toNat<128
   ·rw[aq h2];refine⟨?_,alo,ak,ak⟩;show acc+c.toNat%128*128^i<_;rcases ue i 9 with h9|h9
    ·have:128^(i+1)≤128^9:=k_ aa aa;have e9:(128:Nat)^9=9223372036854775808:=by decide+kernel
     omega
    ·have h9':i=9:=by omega
     subst h9';have hc:c.toNat=1:=by omega
     have e9:(128:Nat)^9=9223372036854775808:=by decide+kernel
     have zO:acc<9223372036854775808:=Nat.lt_of_lt_of_eq ha e9;rw[hc,e9];clear hp v_ ha e9;omega
   ·rw[aw h2];have h9:i<9:=by
     rcases ue i 9 with h9|h9
     ·exact h9
     ·exfalso;omega
    obtain⟨a,b,c',d⟩:=ih (i+1) _ aa v_;exact⟨a,by simp at b⊢;omega,c',d⟩
theorem fh(l:al):(cM l).1<18446744073709551616∧(cM l).2.1≤l.length∧0≤(cM l).2.2∧(cM l).2.2≤2:=by
 have:=Fk l 0 0 aa ak;simpa[cM]using this
theorem jD(l:al)(most:Int)(hm:most≤9223372036854775807):
  (eu l most).1≤9223372036854775807∧(eu l most).2.1≤l.length∧0≤(eu l most).2.2∧((eu l most).2.2=0→((eu l most).1:Int)≤most):=by
 have h:=fh l;unfold eu;split
 ·exact⟨ak,ak,h.2.2.1,fun h0=>by rename_i r';exact absurd h0 r'⟩
 ·split
  ·exact⟨ak,ak,ak,ak⟩
  ·rename_i h2;exact⟨cZ,h.2.1,ak,fun _=>cZ⟩
theorem qi:type_of% @beq_eq_false_iff_ne:= @beq_eq_false_iff_ne
theorem mj:type_of% @List.drop_of_length_le:= @List.drop_of_length_le
theorem Qy(u:UInt8):bits .andNot .u8 (u.toNat:Int) 128=((u.toNat%128:Nat):Int):=by
 have:∀x:Fin 256,bits .andNot .u8 (x.val:Int) 128=((x.val%128:Nat):Int):=by decide+kernel
 exact this ⟨u.toNat,u.toNat_lt⟩
theorem OM(m y k:Nat)(h:m<2^k):m ||| y*2^k=m+y*2^k:=by
 rw[Nat.or_comm,nG,←NZ h];omega
theorem ZT(m k:Nat)(u:UInt8)(hk:k≤9)(hm:m<128^k)(h9:k=9→u.toNat=1):
  bits .or .u64 (m:Int) (IntKind.u64.wrap (IntKind.u64.wrap (bits .andNot .u8 (u.toNat:Int) 128)*2^(7*k)))=((m+u.toNat%128*128^k:Nat):Int)∧
   (k<9→m+u.toNat%128*128^k<128^(k+1))∧m+u.toNat%128*128^k<18446744073709551616:=by
 have e7:(128:Nat)^k=2^(7*k):=by rw[show(128:Nat)=2^7 from rfl,←Nat.pow_mul]
 have v_:m+u.toNat%128*128^k<128^(k+1):=by
  have:u.toNat%128*128^k≤127*128^k:=oC _ aa;rw[nF];omega
 have e9:(128:Nat)^9=9223372036854775808:=by decide+kernel
 have fP:m+u.toNat%128*128^k<18446744073709551616:=by
  rcases ue k 9 with h|h
  ·have:(128:Nat)^(k+1)≤128^9:=k_ aa aa;rw[e9]at this;clear e9 e7;omega
  ·have hk9:k=9:=by omega
   have hu:=h9 hk9;have hm':m<9223372036854775808:=by rw[←e9,←hk9];exact hm
   rw[hu,hk9,e9];clear v_ hm e7 e9;omega
 refine⟨?_,fun _=>v_,fP⟩;rw[Qy,wrap_u64 _ aa];have ep:((u.toNat%128:Nat):Int)*2^(7*k)=((u.toNat%128*2^(7*k):Nat):Int):=by
  rw[z8];congr 1
 rw[e7]at hm fP⊢;rw[ep,wrap_u64 _ aa,u64_or _ _ aa aa,OM _ _ _ hm]
def Qt(l:al)(k m:Nat):Prop:=cM l=dp k m (l.drop k)∧m<128^k∧k≤9
theorem drop_cons{l:al}{k:Nat}{u:UInt8}(h:l[k]? =some u):l.drop k=u::l.drop (k+1):=by
 have hk:=(z6.1 h)
 rw[Oa hk.1,hk.2]
theorem ann{a a' b b' c c':Value}(h1:a=a')(h2:b=b')(h3:c=c'):Ending.returned (.tuple #[a,b,c])= .returned (.tuple #[a',b',c']):=by rw[h1,h2,h3]
theorem int_eq{k:IntKind}{a b:Int}(h:a=b):Value.int k a= .int k b:=by rw[h]
set_option maxRecDepth 100000 in
set_option maxHeartbeats 1600000 in
theorem anq{B:Nat}{A:bj}{n c:Nat}{l:al}(w:World)(h:Rd w B 1 (.slice A n c) n (bv l))(hn:n≤1099511627776):
  Calls Tryz.prog 263 #[.slice A n c] w fun e w'=>e= .returned (.tuple #[.int .u64 ((cM l).1:Nat),ah ((cM l).2.1:Nat),ah (cM l).2.2])∧w=w':=by
 have Hr:=jL h;have Hl:=jL h.amE;clear h
 go_enter func263,Tryz.ntmps263
 go_wp2
 go_loop [2,5,6,9] (fun x i6 c6 i=>∃k m:Nat,k≤n∧i=ah k∧x= .int .u64 m∧Hid (Qt l k m)) (fun _ _ _ i=>n-(intOf i).toNat)
 case atStart=>exact⟨0,0,bS _,rfl,rfl,by simp[Hid,Qt,cM]⟩
 case round=>
  obtain⟨k,m,hk,rfl,rfl,HS⟩:=hrel;by_cases fP:k<n
  ·obtain⟨ad,u,rfl,_,hlu,fB⟩:=Hr.out.agT fP;have hs:=HS.out.1;have h9:=HS.out.2.2;rw[drop_cons hlu,dp]at hs;have HL:=jL hs;clear hs hlu;by_cases c1:k=9∧u.toNat≠1∨0<k∧u.toNat=0
   ·have e:=HL.out;rw[aq c1]at e;have HE:=jL e;clear e;by_cases hk9:k=9
    ·have b1:((u.toNat:Int) != 1)=true:=by rw[bne_iff_ne];omega
     have b9:((k:Int)==9)=true:=by rw[beq_iff_eq];omega
     clear hk9 c1
     go_wp2_with fail
     go_ret3
     rw[HE.out];exact⟨rfl,rfl⟩
    ·have b9:((k:Int)==9)=false:=by rw[qi];omega
     have b0:((u.toNat:Int)==0)=true:=by rw[beq_iff_eq];omega
     have k0:(0:Int)<k:=by omega
     go_wp2_with fail
     go_ret3
     rw[HE.out];exact⟨rfl,rfl⟩
   ·have sN:=ZT m k u h9 HS.out.2.1 aa;have HT:=jL sN;clear sN;by_cases c2:u.toNat<128
    ·have e:=HL.out;rw[aw c1,aq c2]at e;have HE:=jL e;clear e;have b9:((k:Int)==9&&(u.toNat:Int) != 1)=false:=by
      rw[Bool.and_eq_false_iff,qi,bne_eq_false_iff_eq];omega
     by_cases hk9:k=9
     ·have b1:((u.toNat:Int) != 1)=false:=by rw[bne_eq_false_iff_eq];omega
      have b0:((u.toNat:Int)==0)=false:=by rw[qi];omega
      clear b9;have b9:((k:Int)==9)=true:=by rw[beq_iff_eq];omega
      have k0:(0:Int)<k:=by omega
      clear hk9 c1
      go_wp2_with fail
      go_ret3
      rw[HE.out];exact⟨ann (int_eq HT.out.1) rfl rfl,rfl⟩
     ·have b9:((k:Int)==9)=false:=by rw[qi];omega
      by_cases CA:k=0
      ·have k0:¬((0:Int)<k):=by omega
       have HK:=jL CA;clear CA
       go_wp2_with fail
       go_ret3
       rw[HE.out];exact⟨ann (int_eq HT.out.1) rfl rfl,rfl⟩
      ·have k0:(0:Int)<k:=by omega
       have b0:((u.toNat:Int)==0)=false:=by rw[qi];omega
       go_wp2_with fail
       go_ret3
       rw[HE.out];exact⟨ann (int_eq HT.out.1) rfl rfl,rfl⟩
    ·have e:=HL.out;rw[aw c1,aw c2]at e;have hk9:k<9:=by omega
     have HE:Hid (Qt l (k+1) (m+u.toNat%128*128^k)):=⟨e,HT.out.2.1 hk9,aa⟩
     clear e;have b9:((k:Int)==9)=false:=by rw[qi];omega
     by_cases CA:k=0
     ·have k0:¬((0:Int)<k):=by omega
      have HK:=jL CA;clear CA
      go_wp2_with fail
      go_round
      case rel=>exact⟨k+1,_,aa,by go_num,int_eq HT.out.1,HE⟩
      case measure=>simp[intOf];omega
     ·have k0:(0:Int)<k:=by omega
      have b0:((u.toNat:Int)==0)=false:=by rw[qi];omega
      go_wp2_with fail
      go_round
      case rel=>exact⟨k+1,_,aa,by go_num,int_eq HT.out.1,HE⟩
      case measure=>simp[intOf];omega
  ·have e:=HS.out.1;rw[mj (by have:=Hl.out;omega),dp]at e;have HE:=jL e;clear e
   go_wp2_with fail
   go_ret3
   rw[HE.out];exact⟨rfl,rfl⟩
section
variable{s:Cs}
theorem Hs{P:Prop}(h:P:=by(simp[Cs.failed,mF])):P:=h
structure cu(s:Cs):Prop where
 at_:s.at_≤s.b.length
 len:s.b.length≤1099511627776
theorem cu.rest{s:Cs}(h:cu s):s.rest.length=s.left∧s.left≤1099511627776:=by
 have:=h.at_;have:=h.len;exact⟨by simp[Cs.rest,Cs.left],by unfold Cs.left;omega⟩
theorem cu.ew{s:Cs}(h:cu s){k:Nat}{e:Int}(hk:e=0→k≤s.left):cu (s.ew k e):=by
 unfold Cs.ew;split
 ·exact h
 ·split
  ·exact⟨h.at_,h.len⟩
  ·rename_i h1;have:=hk C2;have:=h.at_;unfold Cs.left at*;exact⟨cZ,h.len⟩
theorem cu.lX{s:Cs}(h:cu s):cu s.lX:=h.ew fun _=>by have:=(fh s.rest).2.1;rw[h.rest.1]at this;exact this
theorem cu.bX{s:Cs}(h:cu s){m:Int}(hm:m≤9223372036854775807):cu (s.bX m):=h.ew fun _=>by have:=(jD s.rest m hm).2.1;rw[h.rest.1]at this;exact this
theorem xa{l:al}{n:Int}(h:im l n=0):0≤n∧n.toNat≤l.length:=by
 unfold im at h;split at h
 ·cases h
 ·split at h
  ·cases h
  ·omega
theorem cu.b_{s:Cs}(h:cu s){n:Int}:cu (s.b_ n):=h.ew fun he=>by have:=(xa he).2;rw[h.rest.1]at this;exact this
theorem Pw(l:al)(m:Int)(h:(jS l m).2.2=0):(jS l m).2.1≤l.length∨(jS l m).2.1=0:=by
 unfold jS at h⊢;split
 ·exact .inr rfl
 ·split
  ·exact .inr rfl
  ·rename_i h1 h2;by_cases hz:(eu l m).1=0
   ·left;have hk:(eu l m).2.1≤l.length:=by
     unfold eu;split
     ·simp
     ·split
      ·simp
      ·exact(fh l).2.1
    simp only;omega
   ·left;simp only;omega
theorem cu.ey{s:Cs}(h:cu s){m:Int}:cu (s.ey m):=h.ew fun he=>by
 have:=Pw s.rest m he;rw[h.rest.1]at this;omega
theorem cu.failed{s:Cs}(h:cu s)(e:Int):cu (s.failed e):=by
 unfold Cs.failed;split
 ·exact⟨h.at_,h.len⟩
 ·exact h
theorem cu.eJ{s:Cs}(h:cu s):cu s.eJ:=h.b_
theorem Cs.cK(s:Cs)(k:Nat)(e:Int):(s.ew k e).b=s.b:=by unfold Cs.ew;split<;>first|rfl|(split<;>rfl)
abbrev Cv(g:Nat)(A:bj)(c:Nat)(s:Cs):Ch:=.bE g 258 [.slice A s.b.length c,ah s.at_,ah s.e]
theorem UI{T:Nat}{s s':Cs}{a e:Int}{L:aR}{m:Nat}(hb:s'.b=s.b)(ha:a=s'.at_)(he:e=s'.e){M:aR}(k:Wk L M):Wk (.bE g T [.slice A s.b.length c,ah a,ah e]::L) (.bE g T [.slice A s'.b.length c,ah s'.at_,ah s'.e]::M):=by
 rw[hb,←ha,←he];exact k.cons
theorem UH(ho:cu s)(hb:aL B w0 F 1 (.slice A s.b.length c) s.b.length (bv s.b)):
  a_ B w0 238 [bq g] (Cv g A c s::F) (fun r L=>∃A' c',r= .slice A' s.left c'∧aL B w0 F 1 (.slice A' s.left c') s.left (bv s.rest)∧L=Cv g A c s::F):=by
 have GQ:=ho.at_;have hcut:=hb.cut GQ;have e:(bv s.b).drop (s.at_*1)=bv s.rest:=by rw[cE,jv];rfl
 rw[e]at hcut;refine fw func238 12 [0] ?_;refine i_ ?_;refine bU (bT (i:=s.at_) (size:=1) underlying27 ag rfl rfl rfl aa) rfl ?_;refine bI ?_;exact⟨_,_,rfl,hcut,rfl⟩
theorem JN(ho:cu s)(hb:aL B w0 F 1 (.slice A s.b.length c) s.b.length (bv s.b)):
  a_ B w0 194 [bq g] (Cv g A c s::F) (fun r L=>r=ah s.left∧L=Cv g A c s::F):=by
 refine fw func194 10 [0] ?_;refine alY ?_;refine ba aj2 rfl (UH ho hb) rfl ?_;rintro _ _ ⟨Ar,cr,rfl,Cz,cJ⟩;obtain rfl:=cJ.symm;refine bB ?_;exact⟨rfl,rfl⟩
theorem gO:a_ B w0 175 [bq g] (Cv g A c s::F) (fun r L=>r=ah s.e∧L=Cv g A c s::F):=by
 refine fw func175 9 [0] ?_;refine ahy ?_;exact⟨rfl,rfl⟩
theorem uS(h:s.e≠0){fv:Value}:a_ B w0 219 [bq g,fv] (Cv g A c s::F) (fun r L=>r= .bool false∧L=Cv g A c s::F):=by
 refine fw func219 35 [0,1] ?_;refine bP ?_;refine ai rfl (gO) ?_;refine bH ?_;refine aj (fun h9=>?_) fun h9=>?_
 ·refine bM ?_;exact⟨rfl,rfl⟩
 ·exfalso;exact h9 h
theorem xL(ho:cu s)(hb:aL B w0 F 1 (.slice A s.b.length c) s.b.length (bv s.b))(h0:s.e=0){ff:FuncId}{caps:cV}{R':aR→Prop}{k:Nat}{er:Int}(Yx:aJ Tryz.prog ff)(hk:k≤1099511627776)(v_:∀A' c',aL B w0 F 1 (.slice A' s.left c') s.left (bv s.rest)→a_ B w0 ff (.slice A' s.left c'::caps) (Cv g A c s::F) (fun r L=>r= .tuple #[ah k,ah er]∧∃F',R' F'∧L=Cv g A c s::F')):
  a_ B w0 219 [bq g,.func (.func ff) #[] caps.toArray] (Cv g A c s::F) (fun r L=>r= .bool (decide (er=0))∧∃F',R' F'∧L=Cv g A c (s.ew k er)::F'):=by
 have GQ:=ho.at_;have hlen:=ho.len;refine fw func219 35 [0,1] ?_;refine bP ?_;refine ai rfl (gO) ?_;refine bH ?_;refine aj (fun h9=>?_) fun h9=>?_
 ·exfalso;exact h9 h0
 ·refine bM ?_;refine ba aj2 rfl (UH ho hb) rfl ?_;rintro _ _ ⟨Ar,cr,rfl,Cz,cJ⟩;obtain rfl:=cJ.symm;refine uK Yx rfl rfl (v_ _ _ Cz) rfl ?_;rintro _ _ ⟨rfl,F1,hF1,cJ⟩;obtain rfl:=cJ.symm;refine dX ?_;refine aj (fun ja=>?_) fun ja=>?_
  ·refine bD ?_;refine ve [] ?_;refine bM ?_;refine ao (L':=Cv g A c (s.ew k er)::F1) (UI (m:=0) (Cs.cK s k er) (by simp[Cs.ew,h0,ja]) (by simp[Cs.ew,h0,ja]) (.refl _)) ?_;refine aE ?_;exact⟨by rw[nD ja],F1,hF1,rfl⟩
  ·refine i_ ?_;refine ve [] ?_;refine bD ?_;have Kg:er=0:=by omega
   refine ao (L':=Cv g A c (s.ew k er)::F1) (UI (m:=0) (Cs.cK s k er) (by simp[Cs.ew,h0,Kg]) (by simp[Cs.ew,h0,Kg]) (.refl _)) ?_;refine aE ?_;exact⟨by rw[lD Kg],F1,hF1,rfl⟩
theorem nf(er:Int):a_ B w0 174 [bq g,ah er] (Cv g A c s::F) (fun r L=>r= .tuple #[]∧L=Cv g A c (s.failed er)::F):=by
 refine fw func174 17 [0,1] ?_;refine tQ ?_;refine aj (fun mF=>?_) fun mF=>?_
 ·refine bM ?_;refine ao (L':=Cv g A c (s.failed er)::F) (UI (m:=0) Hs Hs Hs (.refl _)) ?_;refine aE ?_;exact⟨rfl,rfl⟩
 ·refine be ?_;refine ao (L':=Cv g A c (s.failed er)::F) (UI (m:=0) Hs Hs Hs (.refl _)) ?_;refine aE ?_;exact⟨rfl,rfl⟩
theorem aeP{l:al}(hb:aL B w0 L0 1 (.slice A n c) n (bv l))(hn:n≤1099511627776):a_ B w0 263 [.slice A n c] L0 (fun r L=>r= .tuple #[.int .u64 (cM l).1,ah (cM l).2.1,ah (cM l).2.2]∧L=L0):=
 dP.of_same fun w hw=>anq w (hb w hw) hn
theorem KY:∀(l:al) (i acc:Nat),(dp i acc l).2.2≠0→(dp i acc l).1=0∧(dp i acc l).2.1=0:=by
 intro l;induction l with
 |nil=>intro i acc _;exact⟨rfl,rfl⟩
 |cons c r ih=>
  intro i acc h;unfold dp at h⊢;split
  ·exact⟨rfl,rfl⟩
  ·rename_i h1;rw[aw h1]at h;split
   ·rename_i h2;rw[aq h2]at h;exact absurd rfl h
   ·rename_i h2;rw[aw h2]at h;exact ih _ _ h
theorem ZS{l:al}(h:(cM l).2.2≠0):(cM l).1=0∧(cM l).2.1=0:=KY l 0 0 h
theorem pC{l:al}{m:Int}(h:(eu l m).2.2≠0):(eu l m).1=0∧(eu l m).2.1=0:=by
 unfold eu at h⊢;split
 ·exact⟨rfl,rfl⟩
 ·split
  ·exact⟨rfl,rfl⟩
  ·rename_i h1 h2;rw[aw h1,aw h2]at h;exact absurd rfl h
theorem Zo{x0:Value}{l:al}(hb:aL B w0 (.bE h3 60 [x0]::F) 1 (.slice A n c) n (bv l))(hn:n≤1099511627776):
  a_ B w0 320 [.slice A n c,bq h3] (C0:: .bE h3 60 [x0]::F) (fun r L=>r= .tuple #[ah (cM l).2.1,ah (cM l).2.2]∧L=C0:: .bE h3 60 [.int .u64 (cM l).1]::F):=by
 refine fw func320 13 [0,1] ?_;refine bP ?_;refine ai rfl (aeP aB hn) ?_;refine zM ?_;exact⟨rfl,rfl⟩
theorem abB(ho:cu s)(hb:aL B w0 F 1 (.slice A s.b.length c) s.b.length (bv s.b)):
  a_ B w0 296 [bq g] (Cv g A c s::F) (fun r L=>r= .int .u64 s.num∧L=Cv g A c s.lX::F):=by
 by_cases h0:s.e=0
 ·have hkb:=(fh s.rest).2.1;rw[ho.rest.1]at hkb;have hlb:=ho.rest.2;refine fw func296 11 [0] ?_;refine bD ?_;refine bg fun g3=>?_;refine bB ?_;refine ba UD rfl ((xL (F:=.bE g3 60 [.int .u64 0]::F) ho (aL.cons hb) h0 (caps:=[bq g3]) (R':=fun F'=>F'= .bE g3 60 [.int .u64 (cM s.rest).1]::F) (k:=(cM s.rest).2.1) (er:=(cM s.rest).2.2) apq aa (fun A' c' Cz=>(Zo Cz aa).mono fun r L ⟨h1,h2⟩=>⟨h1,_,rfl,h2⟩)).perm swp) rfl ?_;rintro _ _ ⟨rfl,_,cJ,rfl⟩;obtain rfl:=cJ.symm;refine bz ?_;refine aj (fun h9=>?_) fun h9=>?_
  ·refine bD ?_;refine ao (L':=Cv g A c s.lX::F) (.cons (.skip (.refl _))) ?_;refine aE ?_;exact⟨by simp[Cs.num,h0,(ZS (show(cM s.rest).2.2≠0 from h9)).1],rfl⟩
  ·refine bP ?_;refine ao (L':=Cv g A c s.lX::F) (.cons (.skip (.refl _))) ?_;refine aE ?_;exact⟨by simp[Cs.num,h0],rfl⟩
 ·have e1:s.lX=s:=by simp[Cs.lX,Cs.ew,h0]
  have e2:s.num=0:=by simp[Cs.num,h0]
  rw[e1,e2];refine fw func296 11 [0] ?_;refine bD ?_;refine bg fun g3=>?_;refine bB ?_;refine ai rfl ((uS h0).perm swp) ?_;refine tQ ?_;refine ao (L':=Cv g A c s::F) (.cons (.skip (.refl _))) ?_;refine aE ?_;exact⟨rfl,rfl⟩
end
end Go.Proofs.YtaodmbolhoafcaaGreatDoor
