/-
  Texts of one proof, joined: part 7. No condition.
-/
import Derived.Test.YtaodmbolhoafcaaGreatDoorZc6
open Go.RowKit Go.Proofs.Tryz
namespace Go.Proofs.YtaodmbolhoafcaaGreatDoor
set_option linter.unusedVariables false
set_option linter.unusedSimpArgs false
set_option maxRecDepth 20000
variable{B:Nat}{w0:World}{F:aP}{A A1 A2:bj}{n c c1 c2 g:Nat}{B1 B2:bj}{b1 b2:Nat}{bound size:Int}{T:List cm}{LL:List Lq}{s:Cs}{sz:Nat}{o h:List cm}
theorem po:type_of% @List.take_left':= @List.take_left'
theorem Me{a b:List Bool}(hl:a.length=b.length)(h:∀i,i<a.length→gZ a i=gZ b i):a=b:=by
 apply pV hl;intro i h1 h2;apply toNat_inj;rw[←xV h1,←xV h2];exact h i h1
theorem Ht{q:List Bool}{n i:Nat}(h:i<n):gZ (q.take n) i=gZ q i:=by
 simp[gZ,bk,h]
theorem FQ(a b:al):gi (a++b)=gi a++gi b:=by
 refine Me (by simp[dO];omega) (fun i hi=>?_);rw[dO,aY]at hi;rw[yR _ (by rw[aY];exact hi)];by_cases h:i<8*a.length
 ·rw[mQ (by rw[dO];exact h),yR _ h];congr 2;rw[bk,bk,z8 aa]
 ·have e:=kj (gi a) (gi b) (i-8*a.length);rw[dO,show 8*a.length+(i-8*a.length)=i by omega]at e;rw[e,yR _ aa,show(i-8*a.length)%8=i%8 by omega,show(i-8*a.length)/8=i/8-a.length by omega];congr 2;rw[bk,bk,sO aa]
theorem afG(l:al){k:Nat}(h:k≤l.length):gi (l.take k)=(gi l).take (8*k):=by
 have e:gi l=gi (l.take k)++gi (l.drop k):=by rw[←FQ,jK]
 rw[e,po (by rw[dO,eS];omega)]
theorem Nw(m:Nat):hi 0 m m=List.replicate m false:=by
 apply pV
 ·simp[hi]
 ·intro i h1 h2;simp[hi]
theorem Sv(q r:List Bool)(m:Nat):part (q++(List.replicate m false++r)) q.length m=0:=by
 rw[←Nw];exact ES q r 0 m (vS m)
theorem I'(q:List Bool)(i m:Nat)(h:i+m≤q.length):q.take (i+m)=q.take i++hi (part q i m) m m:=by
 refine Me (by simp[dM];omega) (fun k hk=>?_);rw[eS]at hk;rw[Ht aa];by_cases fE:k<i
 ·rw[mQ np,Ht fE]
 ·have e:=kj (q.take i) (hi (part q i m) m m) (k-i);rw[eS,za aa,show i+(k-i)=k by omega]at e;rw[e,acI _ _ aa];have e2:=pD q i (k-i+1) (m-1-(k-i));rw[show k-i+1+(m-1-(k-i))=m by omega]at e2;rw[e2,part,show i+(k-i)=k by omega];have:=rP q k;omega
theorem WE(q:List Bool):∀m pos,q.length-pos≤m→Z q pos<q.length→q.take (Z q pos+1)=q.take pos++un (Z q pos-pos)
 |0,pos,h,hz=>absurd hz (by rw[W6 aa];omega)
 |m+1,pos,h,hz=>by
  by_cases hp:pos<q.length
  ·by_cases hb:gZ q pos=1
   ·rw[af5 hb hp,nx,ba hp false];have:q.getD pos false=true:=by
     unfold gZ at hb;cases h:q.getD pos false
     ·rw[h]at hb;simp at hb
     ·rfl
    rw[this];rfl
   ·have hs:=Lm hb hp;rw[hs]at hz⊢;have wH:pos+1≤Z q (pos+1):=anP _ _ _;rw[WE q m (pos+1) aa hz,ba hp false];have:q.getD pos false=false:=by
     unfold gZ at hb;cases h:q.getD pos false
     ·rfl
     ·rw[h]at hb;simp at hb
    rw[this,show Z q (pos+1)-pos=(Z q (pos+1)-(pos+1))+1 by omega];simp[un,zV]
  ·exact absurd hz (by rw[W6 aa];omega)
def up(bound:Nat):Int→bf→Prop
 |_,[]=>True
 |was,x::r=>was<x∧x<bound∧up bound (x:Int) r
theorem akH{bound:Nat}:∀(xs:bf) (was:Int),(∀i,i<xs.length→xs.getD i 0<bound∧(0<i→xs.getD (i-1) 0<xs.getD i 0))→(0<xs.length→was<xs.getD 0 0)→up bound was xs
 |[],_,_,_=>trivial
 |x::r,was,h,h0=>by
  refine⟨h0 ak,(h 0 ak).1,akH r x (fun i hi=>?_) (fun hr=>?_)⟩
  ·have:=h (i+1) bR;refine⟨this.1,fun hp=>?_⟩;have h2:=this.2 aa;rw[vV]at h2;obtain⟨j,rfl⟩:∃j,i=j+1:=⟨i-1,aa⟩
   exact h2
  ·have:=(h 1 bR).2 aa;exact Int.ofNat_lt.2 this
theorem afH{bound:Nat}:∀(xs:bf) (was:Int),up bound was xs→(∀i,i<xs.length→xs.getD i 0<bound∧(0<i→xs.getD (i-1) 0<xs.getD i 0))∧(0<xs.length→was<xs.getD 0 0)
 |[],_,_=>⟨fun i hi=>absurd hi ak,fun h=>absurd h ak⟩
 |x::r,was,⟨h1,h2,h3⟩=>by
  obtain⟨a,b⟩:=afH r x h3;refine⟨fun i hi=>?_,fun _=>h1⟩;cases i with
  |zero=>exact⟨h2,fun h=>absurd h aa⟩
  |succ j=>
   have hj:j<r.length:=by simp at hi;omega
   refine⟨(a j hj).1,fun _=>?_⟩;cases j with
   |zero=>exact Int.ofNat_lt.1 (b hj)
   |succ k=>exact(a (k+1) hj).2 aa
theorem Vx{p w:Nat}(hp:p=2^w):∀(xs:bf) (pre R:List Bool) (i:Nat),i<xs.length→part (pre++(BM p w xs++R)) (pre.length+i*w) w=xs.getD i 0%p
 |[],_,_,_,h=>absurd h ak
 |x::r,pre,R,0,h=>by
  have:=ES pre (BM p w r++R) (x%p) w (by rw[hp];exact sN _ (vS w));rw[r',ta];simpa[BM,bV]using this
 |x::r,pre,R,i+1,h=>by
  have:=Vx hp r (pre++hi (x%p) w w) R i (by simp at h;omega);rw[aY,dM,NL,show w+i*w=(i+1)*w by rw[j0];omega]at this;simpa[BM,bV]using this
theorem adk{p w:Nat}(hp:p=2^w)(xs:bf)(R:List Bool):zb (BM p w xs++R) w xs.length=xs.map (· %p):=by
 apply pV
 ·simp[zb]
 ·intro i h1 h2;have h3:i<xs.length:=by simpa[zb]using h1
  have:=Vx hp xs [] R i h3;rw[nA,r_,mq]at this;simp[zb,this,bk,h3]
theorem Wi{bound p w:Nat}(hp:p=2^w)(q R:List Bool):∀(xs:bf) (pre:List Bool) (high:Nat) (was:Int) (out:bf),q=pre++(Bb p high xs++R)→up bound was xs→high=was.toNat/p→
  KS bound p q (xs.map (· %p)) pre.length high was out=(out++xs,(pre++Bb p high xs).length,0)
 |[],pre,high,was,out,hq,hu,hh=>by simp[KS,Bb]
 |x::r,pre,high,was,out,hq,⟨u1,u2,u3⟩,hh=>by
  have Vb:0<p:=by rw[hp];exact vS w
  have hle:high≤x/p:=by rw[hh];exact Nat.div_le_div_right aa
  have hq':q=pre++(un (x/p-high)++(Bb p (x/p) r++R)):=by rw[hq];simp[Bb,bV]
  have hz:Z q pre.length=pre.length+(x/p-high):=by rw[hq'];exact atq pre _ _
  have fE:Z q pre.length<q.length:=by rw[hz,hq'];simp[oM];omega
  have e1:high+(Z q pre.length-pre.length)=x/p:=by rw[hz];omega
  have e2:x/p*p+x%p=x:=by rw[nE];exact Nat.div_add_mod x p
  have ih:=Wi hp q R r (pre++un (x/p-high)) (x/p) (x:Int) (out++[x]) (by rw[hq',bV]) u3 ak;rw[kA,KS,aw aa,e1,e2,aw aa,aw aa];rw[show Z q pre.length+1=(pre++un (x/p-high)).length by rw[aY,oM,hz];omega,ih];simp[Bb,bV]
theorem QV{bound:Nat}{xs:bf}(hR:kU bound xs)(more:al)(hn:0<xs.length):
  jB bound xs.length (packed (Lv (2^wid bound xs.length) (wid bound xs.length) xs)++more)=(xs,(packed (Lv (2^wid bound xs.length) (wid bound xs.length) xs)).length,0):=by
 obtain⟨w,hw⟩:=cN (wid bound xs.length);obtain⟨p,hp⟩:=cN (2^w);obtain⟨Q,hQ⟩:=cN (Lv p w xs);obtain⟨b,hb⟩:=cN (packed Q++more);rw[←hw,←hp,←hQ,←hb];have hu:gi b=Q++(pad Q++gi more):=by rw[hb,FQ,qD,bV]
 have Rz:gi b=BM p w xs++(Bb p 0 xs++(pad Q++gi more)):=by
  have e:Q=BM p w xs++Bb p 0 xs:=hQ;rw[hu];generalize pad Q=P;rw[e,bV]
 have P7:zb (gi b) w xs.length=xs.map (· %p):=by rw[Rz];exact adk hp xs _
 have hF:B8 bound xs.length b=(xs,Q.length,0):=by
  unfold B8;rw[←hw,←hp,P7];have:=Wi (bound:=bound) hp (gi b) (pad Q++gi more) xs (BM p w xs) 0 (-1) [] Rz (akH xs (-1) hR (fun _=>aa)) ak;rw[mX]at this;rw[this,nA,hQ,Lv]
 have mJ:=wW Q;have y':=dO b;have y9:=dO more;have c_:b.length=(Q.length+7)/8+more.length:=by rw[hb,aY,dJ]
 have hr:kW bound xs.length b=(pad Q).length:=by
  unfold kW;rw[hF];simp only;omega
 have hlen:(BM p w xs).length≤(gi b).length:=by rw[Rz,aY];omega
 rw[mX]at hlen;unfold jB;rw[←hw,aw aa,hr,hF];have hz:=Sv Q (gi more) (pad Q).length;rw[show List.replicate (pad Q).length false=pad Q by simp[pad],←hu]at hz;rw[aw ak,aw (by simp only[hz];simp)];rw[dJ];simp only;congr 2;omega
theorem aex{bound p w:Nat}(hp:p=2^w)(q:List Bool):∀(ls:bf) (pos high:Nat) (was:Int) (out:bf),(∀x∈ls,x<p)→pos≤q.length→(KS bound p q ls pos high was out).2.2=0→
  ∃ys,(KS bound p q ls pos high was out).1=out++ys∧ls=ys.map (· %p)∧up bound was ys∧(KS bound p q ls pos high was out).2.1≤q.length∧q.take (KS bound p q ls pos high was out).2.1=q.take pos++Bb p high ys
 |[],pos,high,was,out,hl,tV,h=>⟨[],by simp[KS],rfl,trivial,by simpa[KS]using tV,by simp[KS,Bb]⟩
 |x::r,pos,high,was,out,hl,tV,h=>by
  have hx:=hl x ak;have Vb:0<p:=by omega
  by_cases h1:Z q pos<q.length
  ·obtain⟨y,hy⟩:=cN ((high+(Z q pos-pos))*p+x);have hyd:y/p=high+(Z q pos-pos):=by rw[hy,nE,Nat.mul_add_div Vb,BC hx,ta]
   have hym:y%p=x:=by rw[hy,nE,Nat.mul_add_mod,ja hx]
   rw[KS,aw aa,←hy]at h⊢;by_cases h2:(y:Int)≤was
   ·rw[ao h2]at h;simp at h
   ·by_cases h3:bound≤y
    ·rw[aw h2,ao h3]at h;simp at h
    ·rw[aw h2,aw h3]at h⊢;obtain⟨ys,e1,e2,e3,e4,e5⟩:=aex hp q r (Z q pos+1) (high+(Z q pos-pos)) y (out++[y]) (fun z hz=>hl z vJ) aa h;refine⟨y::ys,by rw[e1];simp,by rw[kA,hym,←e2],⟨aa,aa,e3⟩,e4,?_⟩;rw[e5,WE q _ pos (gj _) h1,Bb,hyd,show high+(Z q pos-pos)-high=Z q pos-pos by omega,bV]
  ·rw[KS,ao h1]at h;simp at h
theorem Og(q:List Bool)(w:Nat):∀n,n*w≤q.length→q.take (n*w)=(zb q w n).flatMap fun x=>hi x w w
 |0,_=>by simp[zb]
 |n+1,h=>by
  rw[j0]at h⊢;rw[I' q _ _ h,Og q w n aa,Of,ua];simp
theorem XQ{bound n:Nat}{b:al}(h:(jB bound n b).2.2=0):
  (jB bound n b).1.length=n∧kU bound (jB bound n b).1∧packed (Lv (2^wid bound n) (wid bound n) (jB bound n b).1)=b.take (jB bound n b).2.1:=by
 obtain⟨w,hw⟩:=cN (wid bound n);obtain⟨p,hp⟩:=cN (2^w);rw[←hw,←hp];by_cases h1:(gi b).length<n*w
 ·rw[DJ (by rw[←hw];exact h1)]at h;simp at h
 ·have Ya:¬(gi b).length<n*wid bound n:=by rw[←hw];exact h1
  by_cases h2:(B8 bound n b).2.2=0
  ·by_cases h3:part (gi b) (B8 bound n b).2.1 (kW bound n b)=0
   ·rw[MT Ya oQ (by simpa using h3)];have hF:B8 bound n b=KS bound p (gi b) (zb (gi b) w n) (n*w) 0 (-1) []:=by unfold B8;rw[←hw,←hp]
    have fE:∀x∈zb (gi b) w n,x<p:=by
     intro x hx;obtain⟨i,_,rfl⟩:=pM.1 hx;rw[hp];exact qj _ _ _
    obtain⟨ys,e1,e2,e3,e4,e5⟩:=aex (bound:=bound) hp (gi b) (zb (gi b) w n) (n*w) 0 (-1) [] fE aa (by rw[←hF];exact h2);rw[←hF]at e1 e4 e5;rw[nA]at e1;have hyl:ys.length=n:=by
     have:=ek List.length e2;rw[sb,eK]at this;exact this.symm
    have hQ:Lv p w ys=(gi b).take (B8 bound n b).2.1:=by
     rw[e5,Og _ _ _ aa,e2,Lv,BM,List.flatMap_map]
    obtain⟨pos,tV⟩:=cN ((B8 bound n b).2.1);have ND:kW bound n b=((gi b).length-pos)%8:=by unfold kW;rw[tV]
    rw[←tV]at e4 hQ h3;rw[←tV,e1];have y':=dO b;refine⟨hyl,(afH ys _ e3).1,?_⟩;simp only;obtain⟨K,hK⟩:∃K,pos+kW bound n b=8*K:=⟨(pos+kW bound n b)/8,aa⟩
    rw[hK,show b.length-((gi b).length-8*K)/8=K by omega];have hKl:K≤b.length:=by omega
    have hQl:(Lv p w ys).length=pos:=by rw[hQ,eS];omega
    have ez:gi (b.take K)=Lv p w ys++List.replicate (kW bound n b) false:=by
     rw[afG b hKl,←hK,I' _ _ _ aa,h3,Nw,hQ]
    have ep:pad (Lv p w ys)=List.replicate (kW bound n b) false:=by
     unfold pad;rw[hQl];congr 1;omega
    rw[←pJ (packed (Lv p w ys)),qD,ep,←ez,pJ]
   ·rw[UE Ya oQ (by simpa using h3)]at h;simp at h
  ·rw[UD Ya h2]at h;exact absurd h h2
theorem Vs:type_of% @List.length_eq_zero_iff:= @List.length_eq_zero_iff
theorem XP{bound:Nat}{xs:bf}(hR:kU bound xs)(hb:bound≤20000)(more:al):iI (bound:Int) (rI bound xs++more)=(xs,(rI bound xs).length,0):=by
 have hlen:=hR.len;obtain⟨tl,Ce⟩:=cN ((if xs.length=0 then [] else packed (Lv (2^wid bound xs.length) (wid bound xs.length) xs)));have hB:rI bound xs=aS xs.length++tl:=by rw[rI,←Ce]
 obtain⟨b,hbb⟩:=cN (aS xs.length++(tl++more));have zO:rI bound xs++more=b:=by rw[hB,hbb,bV]
 have hs:cM b=(xs.length,(aS xs.length).length,0):=by rw[hbb];exact sj _ aa _
 have hl:et b (bound:Int)=(xs.length,(aS xs.length).length,0):=by
  unfold et;rw[hs,aw ak,aw cZ]
 have hC:sW (bound:Int) b=⟨b,(aS xs.length).length,0⟩:=by
  unfold sW Cs.bX Cs.rest;simp only[tb];rw[hl];simp[Cs.eu]
 have hN:Cj (bound:Int) b=xs.length:=by
  unfold Cj Cs.int Cs.rest;simp only[tb];rw[hl];simp
 rw[zO];by_cases h0:xs.length=0
 ·rw[JY aa (by rw[hC];simp) (by rw[hN];exact h0),hC,Vs.1 h0];rw[ao h0]at Ce;have:rI bound []=aS 0++[]:=by simp[rI]
  rw[this];simp
 ·have Yg:Gf (bound:Int) b=(xs,tl.length,0):=by
   unfold Gf;rw[hN,hC];simp only[nB];rw[aw h0]at Ce;rw[show b.drop (aS xs.length).length=tl++more by rw[hbb];exact qb rfl,Ce];exact QV hR more aa
  rw[QU aa (by rw[hC];simp) (by rw[hN];exact h0) (by rw[Yg];simp),Yg,hC,hB];simp
theorem MS{bound:Int}{b:al}(PZ:bound≤9223372036854775807)(h:(iI bound b).2.2=0):
  ∃bn:Nat,bound=(bn:Int)∧bn≤20000∧kU bn (iI bound b).1∧rI bn (iI bound b).1=b.take (iI bound b).2.1∧(iI bound b).2.1≤b.length:=by
 by_cases h1:bound<0∨20000<bound
 ·rw[DH h1]at h;simp at h
 ·obtain⟨bn,rfl⟩:=gM (show 0≤bound by omega);refine⟨bn,rfl,aa,?_⟩;by_cases h2:(sW bn b).e=0
  ·have hl:(et b (bn:Int)).2.2=0:=by
    unfold sW Cs.bX Cs.rest at h2;simp only[tb]at h2;by_cases hh:(et b (bn:Int)).2.2=0
    ·exact hh
    ·simp[Cs.eu,hh]at h2
   have hsc:(cM b).2.2=0∧et b (bn:Int)=((cM b).1,(cM b).2.1,0):=by
    unfold et at hl⊢;split at hl
    ·rename_i hh;exact absurd hl hh
    ·rename_i hh;split at hl
     ·simp at hl
     ·rename_i h3;rw[aw hh,aw h3];exact⟨by simpa using hh,rfl⟩
   have alT:=vg hsc.1;have hle:=(fg b).2.1;have hC:sW (bn:Int) b=⟨b,(cM b).2.1,0⟩:=by
    unfold sW Cs.bX Cs.rest;simp only[tb];rw[hsc.2];simp[Cs.eu]
   have hN:Cj (bn:Int) b=(cM b).1:=by
    unfold Cj Cs.int Cs.rest;simp only[tb];rw[hsc.2];simp
   by_cases h3:Cj bn b=0
   ·rw[JY h1 oQ h3,hC];refine⟨fun i hi=>absurd hi ak,?_,hle⟩;rw[hN]at h3;rw[h3]at alT;simp only;rw[←alT];simp[rI]
   ·by_cases h4:(Gf bn b).2.2=0
    ·rw[QU h1 oQ h3 (by simpa using h4)];have hR:Gf bn b=jB bn (cM b).1 (b.drop (cM b).2.1):=by unfold Gf;rw[hN,hC,nB]
     rw[hR]at h4;obtain⟨e1,e2,e3⟩:=XQ h4;have e4:=H5 bn (cM b).1 (b.drop (cM b).2.1);rw[iG]at e4;rw[hN]at h3;simp only;rw[hC,hR];refine⟨e2,?_,cZ⟩;rw[rI,e1,aw h3,e3,alT];simp only;rw[List.take_add]
    ·rw[abD h1 oQ h3 (by simpa using h4)]at h;exact absurd h h4
  ·rw[DI h1 h2]at h;exact absurd h h2
theorem UB{bound:Nat}{xs:bf}(h:kU bound xs)(hb:bound≤20000):(rI bound xs).length≤50011:=by
 have h1:=h.len;have h2:=M1 (n:=xs.length) aa;have h3:=UC (p:=2^wid bound xs.length) (w:=wid bound xs.length) h hb (w_ hb);unfold rI;rw[aY];split
 ·simp only[r_];omega
 ·rw[dJ];omega
theorem kU.le{bound:Nat}{xs:bf}(h:kU bound xs)(hb:bound≤20000):∀i,i<xs.length→xs.getD i 0≤1000000:=fun i hi=>by have:=(h i hi).1;omega
theorem akZ{P:Prop}(h:P:=by(rintro(q|q|q);omega;omega;exact q h)):P:=h
theorem an6{P:Prop}(h:P:=by(first|exact .inl (by assumption)|exact⟨fun z=>.inr z,fun q=>q.elim (fun z=>absurd z (by assumption)) (fun z=>z)⟩|omega)):P:=h
theorem Bm{P:Prop}(h:P:=by(simp[OJ];omega)):P:=h
theorem jc:type_of% @List.mem_map_of_mem:= @List.mem_map_of_mem
def xZ(bound:Int)(T:List cm)(I:List (List Int)):Prop:=(0≤bound∧bound≤20000)∧T.length=I.length∧kV T∧∀x∈I,x≠[]∧Hg bound x
instance (bound:Int)(T:List cm)(I:List (List Int)):Decidable (xZ bound T I):=inferInstanceAs (Decidable (_∧_∧_∧_))
def lsB(bound:Int)(I:List (List Int)):al:=I.flatMap fun x=>(PT bound x).1
def Km(sz:Nat)(bound:Int)(T:List cm)(I:List (List Int)):al:=fQ sz T++lsB bound I
def qz(size bound:Int)(T:List cm)(I:List (List Int)):al×Int:=if size<1∨64<size∨¬xZ bound T I then ([],13) else (Km size.toNat bound T I,0)
theorem Ef{I:List (List Int)}(h:size<1∨64<size∨¬xZ bound T I):qz size bound T I=([],13):=ao h
theorem Ko{sz:Nat}{I:List (List Int)}(h1:1≤sz)(h2:sz≤64)(h:xZ bound T I):qz sz bound T I=(Km sz bound T I,0):=by
 unfold qz;rw[aw akZ,nB]
theorem UF{x:List Int}(h0:0≤bound)(h1:bound≤20000):(PT bound x).2=0↔Hg bound x:=by
 constructor
 ·intro h;refine bH fun q=>?_;rw[JZ (.inr (.inr q))]at h;exact absurd h aA
 ·intro h;obtain⟨xs,rfl⟩:=h.adz;obtain⟨b,rfl⟩:=gM h0;rw[J0 akZ]
theorem ag4{x:List Int}(h0:0≤bound)(h1:bound≤20000):(PT bound x).1.length≤50011:=by
 by_cases h:Hg bound x
 ·obtain⟨xs,rfl⟩:=h.adz;obtain⟨b,rfl⟩:=gM h0;rw[J0 akZ];exact UB ((sh b xs).1 h) aa
 ·rw[JZ (.inr (.inr h))];simp
theorem VA(h0:0≤bound)(h1:bound≤20000):∀I:List (List Int),(lsB bound I).length≤I.length*50011
 |[]=>by simp[lsB]
 |x::r=>by
  have:=VA h0 h1 r;have h2:=ag4 (x:=x) h0 h1;unfold lsB at*;rw[jJ,aY,ef,mH];omega
theorem XJ{sz:Nat}(hR:kV T)(h1:1≤sz)(h2:sz≤64):(fQ sz T).length≤4000000000:=by
 have hl:=hR.2;have hB1:=uN (l:=T) (sz:=sz) h2 hR.le (List.range (gU sz T.length));have hH1:=qW (l:=T) (sz:=sz) h2 hR.le (List.range (gU sz T.length));have hN1:=aT (x:=T.length) aa;have hcN:gU sz T.length≤1048639:=by
  unfold gU;exact jd (q_ _ _) aa
 rw[vZ]at hB1 hH1;have h3:gU sz T.length*3000≤1048639*3000:=ow _ hcN;have h4:gU sz T.length*10≤1048639*10:=ow _ hcN;simp only[fQ,aY];omega
abbrev kO:=bj×Nat×al
abbrev dq(e:kO):Value:=.slice e.1 e.2.2.length e.2.1
abbrev fq(e:kO):Ch:=.own 5 1 e.1 e.2.2.length e.2.1 (bv e.2.2)
def OJ(PB:List kO):eh:=PB.map fun e=>(dq e,e.2.2)
theorem E0(PB:List kO):(OJ PB).Co=PB.map dq:=by simp[OJ,eh.Co]
theorem CL(PB:List kO):(OJ PB).all=(PB.map (·.2.2)).flatten:=by
 unfold OJ eh.all;rw[List.flatMap_map,List.flatMap_def]
theorem qn(P:aP){PB:List kO}{e:kO}:Wk (fq e::(P++(PB.map fq++F))) (P++((PB++[e]).map fq++F)):=by
 refine .dD ?_;rw[jb,bV,←bV,←bV];exact yg.symm
abbrev Gh(A1:bj)(n c1:Nat)(B1:bj)(m b1:Nat):Value:=.agg [.slice A1 n c1,.slice B1 m b1].toArray
theorem ad1(hE:(bound<0∨20000<bound)∨¬(T.length:Int)=LL.length):
  a_ B w0 48 [ah size,ah bound,Gh A1 T.length c1 B1 LL.length b1] F (fun r L=>r= .tuple #[.slice none 0 0,ah 13]∧L=F):=by
 refine fw func48 69 [0,1,2] ?_;refine be ?_;refine bh fun g5=>?_;refine bL ?_;refine bW 15 29 [0,1,5] ((bound<0∨20000<bound)∨¬(T.length:Int)=LL.length) ?_ ?_
 ·refine bF ?_;refine aL rfl rfl rfl (fun iF=>?_) (fun iF=>?_)
  ·refine bG ?_;refine aL rfl rfl rfl (fun lW=>?_) (fun lW=>?_)
   ·refine dQ ?_;exact aQ oS
   ·refine bL ?_;exact aQ vu
  ·refine cY ?_;exact aQ vu
 ·refine be ?_;refine aj (fun rZ=>?_) fun rZ=>?_
  ·refine bJ ?_;refine aq (L':=F) (.skip (.refl _)) ?_;refine aF ?_;exact⟨rfl,rfl⟩
  ·exfalso;exact rZ hE
theorem ad2(h1:aJ B w0 F 1 (.slice A1 T.length c1) T.length (strs T))(hb0:0≤bound)(p9:bound≤20000)(hl:T.length=LL.length)(hs:T.length≤1000000000)(hE:size<1∨64<size∨¬kV T):
  a_ B w0 48 [ah size,ah bound,Gh A1 T.length c1 B1 LL.length b1] F (fun r L=>r= .tuple #[.slice none 0 0,ah 13]∧L=F):=by
 refine fw func48 69 [0,1,2] ?_;refine be ?_;refine bh fun g5=>?_;refine bL ?_;refine bW 15 29 [0,1,5] ((bound<0∨20000<bound)∨¬(T.length:Int)=LL.length) ?_ ?_
 ·refine bF ?_;refine aL rfl rfl rfl (fun iF=>?_) (fun iF=>?_)
  ·refine bG ?_;refine aL rfl rfl rfl (fun lW=>?_) (fun lW=>?_)
   ·refine dQ ?_;exact aQ oS
   ·refine bL ?_;exact aQ vu
  ·refine cY ?_;exact aQ vu
 ·refine be ?_;refine dm fun rZ=>?_;refine bL ?_;refine ay rfl (QT aB aa hE) fun wi xh=>?_;refine dQ ?_;refine aj (fun Cz=>?_) fun Cz=>?_
  ·refine bQ ?_;refine aq (L':=F) (.skip (.skip (.refl _))) ?_;refine aF ?_;exact⟨rfl,rfl⟩
  ·exfalso;exact Cz aA
theorem ac0{k:Nat}(hk:k<LL.length):(fT LL).take (k+1)=(fT LL).take k++[(LL.getD k q7).2.2]:=by
 rw[sM,fT,jr,fm hk];simp[List.getD,fm hk]
theorem ac1{x:List Int}(h:x∈fT LL):∃i,i<LL.length∧(LL.getD i q7).2.2=x:=by
 obtain⟨e,he,rfl⟩:=pM.1 h;obtain⟨i,hi,rfl⟩:=jZ he;exact⟨i,hi,by simp[List.getD,fm hi]⟩
theorem ad3{sz:Nat}(h1:aJ B w0 F 1 (.slice A1 T.length c1) T.length (strs T))(hL:aJ B w0 F 1 (.slice B1 LL.length b1) LL.length (LL.map zQ))(hI:l7 B w0 F LL)(wN:∀e∈LL,e.2.2.length≤9000000000000000000)(hb0:0≤bound)(p9:bound≤20000)(hl:T.length=LL.length)(hR:kV T)(Kl:1≤sz)(vz:sz≤64):
  a_ B w0 48 [ah sz,ah bound,Gh A1 T.length c1 B1 LL.length b1] F (fun r L=>∃A' c',r= .tuple #[.slice A' (qz sz bound T (fT LL)).1.length c',ah (qz sz bound T (fT LL)).2]∧L= .own 5 1 A' (qz sz bound T (fT LL)).1.length c' (bv (qz sz bound T (fT LL)).1)::F):=by
 have hTl:=hR.2;have hdl:=XJ hR Kl vz;have wL:=VA hb0 p9 (fT LL);have hil:(fT LL).length=LL.length:=by simp[fT]
 refine dL.xf h1 fun mh _=>?_;refine fw func48 69 [0,1,2] ?_;refine be ?_;refine bh fun g5=>?_;refine bL ?_;refine bW 15 29 [0,1,5] ((bound<0∨20000<bound)∨¬(T.length:Int)=LL.length) ?_ ?_
 ·refine bF ?_;refine aL rfl rfl rfl (fun iF=>?_) (fun iF=>?_)
  ·refine bG ?_;refine aL rfl rfl rfl (fun lW=>?_) (fun lW=>?_)
   ·refine dQ ?_;exact aQ oS
   ·refine bL ?_;exact aQ vu
  ·refine cY ?_;exact aQ vu
 ·refine be ?_;refine dm fun rZ=>?_;refine bL ?_;refine ay rfl (XO aB mh Kl vz hR) fun wi xh=>?_;refine dQ ?_;refine aj (fun Cz=>?_) fun Cz=>?_
  ·exfalso;exact Cz rfl
  ·refine bG ?_;refine cC (aG fD [_] rfl rfl cw aa aa) fun TK=>?_;refine bA ?_;refine ve [1,10,43,44,45] ?_;refine be ?_;refine aE (fun zf zL zm=>∃(k:Nat) (PB:List kO) (wh:bj) (F6:Nat),(k≤LL.length∧PB.map (·.2.2)=fQ sz T::((fT LL).take k).map (fun x=>(PT bound x).1)∧PB.length=k+1∧(∀i,i<k→(LL.getD i q7).2.2≠[]∧Hg bound (LL.getD i q7).2.2))∧LL.length-k=zm∧Sub zf [(1,ah bound),(10,.slice wh PB.length F6),(43,.slice B1 LL.length b1),(44,ah LL.length),(45,ah k)]∧Wk zL (.own 27 1 wh PB.length F6 (PB.map dq):: .bD g5 90 [.slice A1 T.length c1,.slice B1 LL.length b1]::(PB.map fq++F))) _ ⟨0,[(wi,xh,fQ sz T)],TK,1,⟨bT _,rfl,rfl,fun i h=>absurd h aa⟩,rfl,bp,.cons (.swap (.refl _))⟩ ?_;rintro _ _ _ ⟨k,PB,wh,F6,⟨hk,hPB,D6,mF⟩,rfl,hs,hp⟩;refine aU hs hp ?_;clear hs hp;refine bz ?_;refine aj (fun h46=>?_) fun h46=>?_
   ·have Ca:k<LL.length:=by omega
    have hie:=(hI.get Ca).mono (gy (PB.map fq) F);have hLe:=hL.mono (gy (PB.map fq) F);have P_:=wN _ (bg Ca q7);have tX:=ac0 Ca;have pS:(LL.getD k q7).2.2∈fT LL:=jc (bg Ca q7);obtain⟨x,hx⟩:=cN ((LL.getD k q7).2.2);have hig:=amb Ca;obtain⟨eA,ec,he⟩:∃eA ec,LL.getD k q7=(eA,ec,x):=⟨_,_,by rw[hx]⟩
    rw[he]at hie P_ tX pS hig;refine bL ?_;refine ab (au ag rfl aB aa hig) rfl ?_;refine bL ?_;refine ay rfl (XT (ids:=x) aB P_) fun A52 c52=>?_;refine bA ?_;refine bW 7 61 [1,10,13,43,44,45] (¬(PT bound x).2=0∨(x.length:Int)=0) ?_ ?_
    ·refine bF ?_;refine aL rfl rfl rfl (fun h57=>?_) (fun h57=>?_)
     ·refine bz ?_;exact aQ (by exact dN an6)
     ·refine bF ?_;exact aQ (by exact eF an6)
    ·refine be ?_;refine aj (fun h61=>?_) fun h61=>?_
     ·have NC:¬xZ bound T (fT LL):=fun q=>by
       obtain⟨h2,h3⟩:=q.2.2.2 x pS;rcases h61 with h|h
       ·exact h ((UF hb0 p9).2 h3)
       ·exact h2 (mm aa)
      refine de ?_;rw[Ef (.inr (.inr NC))];refine aD 5 1 none ?_;refine aq (L':=.own 5 1 none 0 0 []::F) (.cons (.skip (.skip (.skip (vn (.refl _) _))))) ?_;refine aF ?_;exact⟨none,0,rfl,rfl⟩
     ·have hxr:Hg bound x:=(UF hb0 p9).1 (kR.1 fun q=>h61 (.inl q));have hxn:x≠[]:=fun q=>h61 (.inr (by rw[q];rfl));refine bG ?_;refine dE fD rfl rfl rfl rfl rfl (fun _=>rfl) aV aa aa ?_;intro _ A65 c65;refine bJ ?_;have D9:(PB++[(A52,c52,(PT bound x).1)]).length=PB.length+1:=by simp
      refine av ⟨_,aa,k+1,PB++[(A52,c52,(PT bound x).1)],A65,c65,⟨aa,by rw[jb,hPB,tX,jb];rfl,aa,fun i hi=>by
 rcases ub i k with h|h
 ·exact mF i h
 ·rw[show i=k by omega,he];exact⟨hxn,hxr⟩⟩,rfl,bp,.swap (ax D9.symm ak (qn (PB:=PB) (e:=(A52,c52,(PT bound x).1)) [_]))⟩
   ·obtain rfl:k=LL.length:=by omega
    have lf:xZ bound T (fT LL):=⟨⟨hb0,p9⟩,aa,hR,fun x hx=>by
     obtain⟨i,hi,rfl⟩:=ac1 hx;exact mF i hi⟩
    have apZ:(OJ PB).all=Km sz bound T (fT LL):=by
     rw[CL,hPB,fL aa];simp[Km,lsB,List.flatMap_def]
    have c_:(Km sz bound T (fT LL)).length≤1000000000000:=by
     have:LL.length*50011≤1048576*50011:=ow _ aa;unfold Km;rw[aY];rw[hil]at wL;omega
    rw[Ko Kl vz lf];refine bJ ?_;refine ay rfl (xo (P:=OJ PB) (by rw[E0];exact aB) (fun y hy=>by obtain⟨e,he,rfl⟩:=pM.1 hy;exact aJ.own (lk _ (lk _ (j8 _ (jc he))))) (by simp[OJ]) apZ aa Bm) fun A68 c68=>?_;refine bG ?_;refine aq (L':=.own 5 1 A68 (Km sz bound T (fT LL)).length c68 (bv (Km sz bound T (fT LL)))::F) (.cons (.skip (.skip (vn (.refl _) _)))) ?_;refine aF ?_;exact⟨A68,c68,rfl,rfl⟩
theorem ad4(h1:aJ B w0 F 1 (.slice A1 T.length c1) T.length (strs T))(hL:aJ B w0 F 1 (.slice B1 LL.length b1) LL.length (LL.map zQ))(hI:l7 B w0 F LL)(wN:∀e∈LL,e.2.2.length≤9000000000000000000)(hs:T.length≤1000000000):
  a_ B w0 48 [ah size,ah bound,Gh A1 T.length c1 B1 LL.length b1] F (fun r L=>∃A' c',r= .tuple #[.slice A' (qz size bound T (fT LL)).1.length c',ah (qz size bound T (fT LL)).2]∧L= .own 5 1 A' (qz size bound T (fT LL)).1.length c' (bv (qz size bound T (fT LL)).1)::F):=by
 have hil:(fT LL).length=LL.length:=by simp[fT]
 have al5:∀{L:aP},a_ B w0 48 [ah size,ah bound,Gh A1 T.length c1 B1 LL.length b1] L (fun r K=>r= .tuple #[.slice none 0 0,ah 13]∧K=L)→qz size bound T (fT LL)=([],13)→a_ B w0 48 [ah size,ah bound,Gh A1 T.length c1 B1 LL.length b1] L (fun r K=>∃A' c',r= .tuple #[.slice A' (qz size bound T (fT LL)).1.length c',ah (qz size bound T (fT LL)).2]∧K= .own 5 1 A' (qz size bound T (fT LL)).1.length c' (bv (qz size bound T (fT LL)).1)::L):=fun {L} h e=>by
  rw[e];intro w hw;refine(h w hw).mono fun ee w' ⟨r,K,he,⟨hr,hK⟩,hs⟩=>?_;subst hK;exact⟨r,_,he,⟨none,0,hr,rfl⟩,hs.CF 5 1 none⟩
 by_cases hE:(bound<0∨20000<bound)∨¬(T.length:Int)=LL.length
 ·exact al5 (ad1 hE) (Ef (.inr (.inr fun q=>by
   have h2:=q.1;have h3:=q.2.1;omega)))
 ·by_cases hE2:size<1∨64<size∨¬kV T
  ·refine al5 (ad2 h1 aa aa aa hs hE2) (Ef ?_);rcases hE2 with h|h|h
   ·exact .inl h
   ·exact .inr (.inl h)
   ·exact .inr (.inr fun q=>h q.2.2.1)
  ·have hR:kV T:=bH fun h=>hE2 (.inr (.inr h));obtain⟨sz,rfl⟩:=gM (show 0≤size by omega);exact ad3 h1 hL hI wN aa aa aa hR aa aa
theorem T6{P:Prop}(h:P:=by(rw[ao iY])):P:=h
theorem b_9{P:Prop}(h:P:=by(exact eF (by first|exact hB.2 (.inl (by assumption))|exact hB.2 (.inr (by assumption))|exact fun h=>(hB.1 h).elim (fun q=>absurd q (by assumption)) (fun q=>absurd q (by assumption))))):P:=h
theorem b_4{P:Prop}(h:P:=by(exact eF (by first|exact hB.2 (.inl (by assumption))|exact hB.2 (.inr (.inl (by assumption)))|exact⟨fun h=>hB.2 (.inr (.inr (by omega))),fun h=>(hB.1 h).elim (fun q=>absurd q (by assumption)) (fun q=>q.elim (fun q=>absurd q (by assumption)) (fun q=>by omega))⟩))):P:=h
theorem abc(ho:cu s)(hb:aJ B w0 F 1 (.slice A s.b.length c) s.b.length (bv s.b)):
  a_ B w0 223 [br g] (Cv g A c s::F) (fun r L=>r=ah s.xO.e∧L=Cv g A c s.xO::F):=by
 refine fw func223 10 [0] ?_;refine bQ ?_;refine ai rfl (JK ho hb) ?_;refine bF ?_;refine aj (fun h5=>?_) fun h5=>?_
 ·have he:s.xO=s.failed 2:=ao aa;refine be ?_;refine ai rfl (ng 2) ?_;refine bG ?_;refine ai rfl (gO) ?_;refine bG ?_;rw[he];exact⟨rfl,rfl⟩
 ·have he:s.xO=s:=aw aa;refine bG ?_;refine ai rfl (gO) ?_;refine bG ?_;rw[he];exact⟨rfl,rfl⟩
theorem alj:a_ B w0 177 [br g] (Cv g A c s::F) (fun r L=>r=ah s.at_∧L=Cv g A c s::F):=by
 refine fw func177 10 [0] ?_;refine acg ?_;exact⟨rfl,rfl⟩
def nxN(s:Cs)(was:cm)(first:Bool):Nat:=if first then 0 else s.int was.length
def Ze(s:Cs)(was:cm)(first:Bool):Cs:=if first then s else s.bX was.length
def Sg(s:Cs)(was:cm)(first:Bool):Cs:=(Ze s was first).ew 25
def nxX(s:Cs)(was:cm)(first:Bool):cm:=was.take (nxN s was first)++(Ze s was first).text 25
def qi(s:Cs)(was:cm)(first:Bool):Prop:=(Ze s was first).text 25=[]∨¬uo was (nxX s was first)∨(first=false∧qd was (nxX s was first)≠nxN s was first)
instance (s:Cs)(was:cm)(first:Bool):Decidable (qi s was first):=inferInstanceAs (Decidable (_∨_∨(_∧_)))
def sT(s:Cs)(was:cm)(first:Bool):Cs:=if (Sg s was first).e≠0 then Sg s was first else if qi s was first then (Sg s was first).failed 2 else Sg s was first
def sd(s:Cs)(was:cm)(first:Bool):cm:=if (Sg s was first).e≠0 then [] else nxX s was first
theorem cu.Ze(h:cu s){was:cm}{first:Bool}(hw:was.length≤1000):cu (Ze s was first):=by
 unfold YtaodmbolhoafcaaGreatDoor.Ze;split
 ·exact h
 ·exact h.bX aa
theorem cu.sT(h:cu s){was:cm}{first:Bool}(hw:was.length≤1000):cu (sT s was first):=by
 unfold YtaodmbolhoafcaaGreatDoor.sT Sg;split
 ·exact(h.Ze hw).ew
 ·split
  ·exact(h.Ze hw).ew.failed 2
  ·exact(h.Ze hw).ew
theorem Cs.zT(s:Cs)(m:Int):(s.bX m).b=s.b:=Cs.cK s _ _
theorem Cs.vj(s:Cs)(m:Int):(s.ew m).b=s.b:=Cs.cK s _ _
theorem Cs.DS(s:Cs)(e:Int):(s.failed e).b=s.b:=by unfold Cs.failed;split<;>rfl
theorem adF(s:Cs)(was:cm)(first:Bool):(Ze s was first).b=s.b:=by
 unfold Ze;split
 ·rfl
 ·exact Cs.zT _ _
theorem aqH(s:Cs)(was:cm)(first:Bool):(sT s was first).b=s.b:=by
 unfold sT Sg;split
 ·rw[Cs.vj,adF]
 ·split
  ·rw[Cs.DS,Cs.vj,adF]
  ·rw[Cs.vj,adF]
theorem amB(s:Cs)(was:cm)(first:Bool)(hw:was.length≤1000):nxN s was first≤was.length:=by
 unfold nxN;split
 ·omega
 ·unfold Cs.int;split
  ·omega
  ·by_cases h:(et s.rest was.length).2.2=0
   ·have:=(jz s.rest was.length aa).2.2.2 h;omega
   ·rw[(pt h).1];omega
theorem WH(s:Cs):(s.text 25).length≤25:=by
 unfold Cs.text;split
 ·simp
 ·unfold jO;split
  ·simp
  ·split
   ·simp
   ·rename_i h1 h2;have:=(jz s.rest 25 aa).2.2.2 C4;simp only[eS];omega
theorem ah4{was:cm}(hw:was.length≤1000)(ho:cu s)(hb:aJ B w0 F 1 (.slice A s.b.length c) s.b.length (bv s.b)):
  a_ B w0 298 [br g,.string ⟨was.toArray⟩,.bool true] (Cv g A c s::F) (fun r L=>r= .string ⟨(sd s was true).toArray⟩∧L=Cv g A c (sT s was true)::F):=by
 have hA:Ze s was true=s:=rfl;have hN:nxN s was true=0:=rfl;have hS:Sg s was true=s.ew 25:=rfl;have hX:nxX s was true=s.text 25:=by unfold nxX;rw[hN,hA];rfl
 have hB:qi s was true↔(s.text 25=[]∨¬uo was (s.text 25)):=by unfold qi;rw[hX,hA];simp
 have hC:sT s was true=if (s.ew 25).e≠0 then s.ew 25 else if qi s was true then (s.ew 25).failed 2 else s.ew 25:=rfl
 have hT:sd s was true=if (s.ew 25).e≠0 then [] else s.text 25:=by unfold sd;rw[hX,hS]
 have Ce:=WH s;rw[hC,hT];clear hC hT hS hX hN hA;refine fw func298 48 [0,1,2] ?_;refine arP ?_;refine ai rfl (Ct ho hb (most:=25) aa aa) ?_;refine bL ?_;refine ai rfl (gO) ?_;refine bF ?_;refine aj (fun iY=>?_) fun iY=>?_
 ·refine bJ ?_;exact⟨T6,T6⟩
 ·refine bz ?_;refine ab (DA (i:=0) underlying9 rfl rfl rfl aa) rfl ?_;refine aF ?_;refine ab (zu (s:=[]) (r:=s.text 25) rfl rfl (by simp only[r_];omega)) rfl ?_;refine bz ?_;refine bW 19 44 [0,9] (qi s was true) ?_ ?_
  ·refine bF ?_;refine aL rfl rfl rfl (fun qx=>?_) (fun qx=>?_)
   ·refine b8 ?_;refine ai rfl (QR was (s.text 25)) ?_;refine b8 ?_;refine aL rfl rfl rfl (fun GD=>?_) (fun GD=>?_)
    ·refine de ?_;exact aQ (by exact eU (by first|exact hB.2 (.inl (by assumption))|exact hB.2 (.inr (by assumption))|exact fun h=>(hB.1 h).elim (fun q=>absurd q (by assumption)) (fun q=>absurd q (by assumption))))
    ·refine bQ ?_;exact aQ b_9
   ·refine jy ?_;exact aQ b_9
  ·refine be ?_;refine aj (fun tQ=>?_) fun tQ=>?_
   ·refine be ?_;refine ai rfl (ng 2) ?_;refine bA ?_;exact⟨by rw[aw iY];rfl,by rw[aw iY,ao tQ]⟩
   ·refine bA ?_;exact⟨by rw[aw iY];rfl,by rw[aw iY,aw tQ]⟩
theorem ah5{was:cm}(hw:was.length≤1000)(ho:cu s)(hb:aJ B w0 F 1 (.slice A s.b.length c) s.b.length (bv s.b)):
  a_ B w0 298 [br g,.string ⟨was.toArray⟩,.bool false] (Cv g A c s::F) (fun r L=>r= .string ⟨(sd s was false).toArray⟩∧L=Cv g A c (sT s was false)::F):=by
 have hA:Ze s was false=s.bX was.length:=rfl;have hN:nxN s was false=s.int was.length:=rfl;have hS:Sg s was false=(s.bX was.length).ew 25:=rfl;have hX:nxX s was false=was.take (s.int was.length)++(s.bX was.length).text 25:=rfl;have hB:qi s was false↔((s.bX was.length).text 25=[]∨¬uo was (nxX s was false)∨qd was (nxX s was false)≠s.int was.length):=by unfold qi;rw[hN,hA];simp
 have hC:sT s was false=if ((s.bX was.length).ew 25).e≠0 then (s.bX was.length).ew 25 else if qi s was false then ((s.bX was.length).ew 25).failed 2 else (s.bX was.length).ew 25:=rfl
 have hT:sd s was false=if ((s.bX was.length).ew 25).e≠0 then [] else nxX s was false:=rfl
 have Ce:=WH (s.bX was.length);have Va:=amB s was false hw;have ho2:cu (s.bX was.length):=ho.bX aa;have oH:aJ B w0 F 1 (.slice A (s.bX was.length).b.length c) (s.bX was.length).b.length (bv (s.bX was.length).b):=by rw[Cs.zT];exact hb
 rw[hC,hT];rw[hX]at*;rw[hN]at Va;clear hC hT hS hN hA;refine fw func298 48 [0,1,2] ?_;refine GC ?_;refine ai rfl (iH ho hb (most:=was.length) aa aa) ?_;refine bz ?_;refine ai rfl (Ct ho2 oH (most:=25) aa aa) ?_;refine bL ?_;refine ai rfl (gO) ?_;refine bF ?_;refine aj (fun iY=>?_) fun iY=>?_
 ·refine bF ?_;refine ve [6] ?_;refine b8 ?_;exact⟨T6,T6⟩
 ·refine bz ?_;refine ab (DA (i:=s.int was.length) underlying9 rfl rfl rfl aa) rfl ?_;refine aF ?_;refine ab (zu (s:=was.take (s.int was.length)) (r:=(s.bX was.length).text 25) rfl rfl (by simp only[eS];omega)) rfl ?_;refine aF ?_;refine ve [0,1,2,7,8,9] ?_;refine b8 ?_;refine bW 19 44 [0,9] (qi s was false) ?_ ?_
  ·refine bF ?_;refine aL rfl rfl rfl (fun qx=>?_) (fun qx=>?_)
   ·refine b8 ?_;refine ai rfl (QR was (was.take (s.int was.length)++(s.bX was.length).text 25)) ?_;refine b8 ?_;refine aL rfl rfl rfl (fun GD=>?_) (fun GD=>?_)
    ·refine bA ?_;refine ai rfl (UA was (was.take (s.int was.length)++(s.bX was.length).text 25) aa) ?_;refine bL ?_;exact aQ (by exact dN (by first|exact hB.2 (.inl (by assumption))|exact hB.2 (.inr (.inl (by assumption)))|exact⟨fun h=>hB.2 (.inr (.inr (by omega))),fun h=>(hB.1 h).elim (fun q=>absurd q (by assumption)) (fun q=>q.elim (fun q=>absurd q (by assumption)) (fun q=>by omega))⟩))
    ·refine bQ ?_;exact aQ b_4
   ·refine jy ?_;exact aQ b_4
  ·refine be ?_;refine aj (fun tQ=>?_) fun tQ=>?_
   ·refine be ?_;refine ai rfl (ng 2) ?_;refine bA ?_;exact⟨by rw[aw iY],by rw[aw iY,ao tQ]⟩
   ·refine bA ?_;exact⟨by rw[aw iY],by rw[aw iY,aw tQ]⟩
theorem aoe{P:Prop}(h:P:=by(rw[show m-(i+1)=k by omega,nT (show¬((i+1:Nat):Int)=0 by omega)];exact hF)):P:=h
theorem L7{P:Prop}(h:P:=by(simpa using q)):P:=h
theorem amx{was:cm}(first:Bool)(hw:was.length≤1000)(ho:cu s)(hb:aJ B w0 F 1 (.slice A s.b.length c) s.b.length (bv s.b)):
  a_ B w0 298 [br g,.string ⟨was.toArray⟩,.bool first] (Cv g A c s::F) (fun r L=>r= .string ⟨(sd s was first).toArray⟩∧L=Cv g A c (sT s was first)::F):=by
 cases first
 ·exact ah5 hw ho hb
 ·exact ah4 hw ho hb
theorem adG{was:cm}{first:Bool}(h:(sT s was first).e=0):(Sg s was first).e=0∧¬qi s was first∧sT s was first=Sg s was first∧sd s was first=nxX s was first:=by
 unfold sT at h⊢;by_cases h1:(Sg s was first).e≠0
 ·rw[ao h1]at h;exact absurd h h1
 ·rw[aw h1]at h⊢;have Ya:(Sg s was first).e=0:=by simpa using h1
  by_cases h2:qi s was first
  ·rw[ao h2]at h;unfold Cs.failed at h;rw[ao Ya]at h;exact absurd h ak
  ·rw[aw h2];exact⟨Ya,h2,rfl,aw h1⟩
theorem Sh{was:cm}{first:Bool}(h:(sT s was first).e=0):uo was (sd s was first):=by
 obtain⟨_,h2,_,h4⟩:=adG h;rw[h4];exact kR.1 fun h=>h2 (.inr (.inl h))
def g_:Nat→Bool→Cs→List cm→List cm×Int
 |0,_,s,out=>if s.xO.e≠0 then ([],s.xO.e) else (out,0)
 |k+1,first,s,out=>if (sT s (ft out out.length) first).e≠0 then ([],(sT s (ft out out.length) first).e) else g_ k false (sT s (ft out out.length) first) (out++[sd s (ft out out.length) first])
def Gl(l:List cm):Prop:=∀x∈l,x.length≤25
theorem Gl.prv{l:List cm}(h:Gl l)(i:Nat):(ft l i).length≤25:=by
 unfold ft;split
 ·simp
 ·rw[bk];by_cases hi:i-1<l.length
  ·rw[fm hi];exact h _ (tY _)
  ·rw[zX aa];simp
theorem Gl.snoc{l:List cm}(h:Gl l){x:cm}(hx:x.length≤25):Gl (l++[x]):=by
 intro y hy;simp only[dz,lF]at hy;rcases hy with hy|rfl
 ·exact h y hy
 ·exact hx
abbrev Dd(g:Nat)(sz:Int)(A1:bj)(c1:Nat)(A2:bj)(c2:Nat)(o h:List cm)(F:aP):aP:=
 .bD g 371 [.slice A1 o.length c1,ah sz,.slice A2 h.length c2]:: .own 9 1 A1 o.length c1 (strs o):: .own 9 1 A2 h.length c2 (strs h)::F
theorem Nl{l r:List cm}{i:Nat}(h:i<l.length):(l++r).getD i []=l.getD i []:=by simp[List.getD,z8 h]
theorem alo{b:al}{m:Nat}{sz:Int}{o0 h0:List cm}(hm:1≤m)(wM:m≤64)(hb:aJ B w0 (Dd g sz A1 c1 A2 c2 o0 h0 F) 1 (.slice A b.length c) b.length (bv b))(c_:b.length≤1099511627776)(zJ:Gl o0)(Kj:o0.length≤2000000)(U':h0.length≤2000000):
  a_ B w0 267 [br g,.slice A b.length c,ah m] (Dd g sz A1 c1 A2 c2 o0 h0 F) (fun r L=>∃P1 p1 P2 p2 o h,r=ah (g_ m true ⟨b,0,0⟩ o0).2∧L=Dd g sz P1 p1 P2 p2 o h F∧((g_ m true ⟨b,0,0⟩ o0).2=0→o=(g_ m true ⟨b,0,0⟩ o0).1∧h=h0++[o.getD o0.length []]∧Gl o∧o.length=o0.length+m)):=by
 obtain⟨G,hG⟩:=cN (g_ m true ⟨b,0,0⟩ o0);rw[←hG];refine fw func267 76 [0,1,2] ?_;refine bJ ?_;refine dX rfl (mU hb c_) fun g13 xc F7=>?_;refine cY ?_;refine aE (fun zf zL zm=>∃(i:Nat) (s:Cs) (o h:List cm) (P1:bj) (p1:Nat) (P2:bj) (p2:Nat),(i≤m∧cu s∧o.length=o0.length+i∧Gl o∧(i=0→h=h0)∧(0<i→h=h0++[o.getD o0.length []])∧g_ (m-i) (decide ((i:Int)=0)) s o=G)∧m-i=zm∧Sub zf [(0,br g),(7,br g13),(14,ah m),(15,ah i)]∧Wk zL (Cv g13 xc F7 s:: .own 5 1 xc s.b.length F7 (bv s.b)::Dd g sz P1 p1 P2 p2 o h F)) _ ⟨0,⟨b,0,0⟩,o0,h0,A1,c1,A2,c2,⟨bT _,⟨bT _,c_⟩,rfl,zJ,fun _=>rfl,fun h=>absurd h aa,hG.symm⟩,rfl,bp,.refl _⟩ ?_;rintro _ _ _ ⟨i,s,o,h,P1,p1,P2,p2,⟨hi,ho,hoo,Rv,hh0,hh1,hF⟩,rfl,hs,hp⟩;refine aU hs hp ?_;clear hs hp;refine bz ?_;refine aj (fun kh=>?_) fun kh=>?_
 ·obtain⟨k,hk⟩:∃k,m-i=k+1:=⟨m-i-1,aa⟩
  rw[hk,g_]at hF;have mJ:=Rv.prv o.length;have atK:h.length≤2000001:=by
   by_cases h0i:i=0
   ·rw[hh0 h0i];omega
   ·rw[hh1 aa];simp;omega
  refine jy ?_;refine d_ (fun zf zL=>Sub zf [(0,br g),(7,br g13),(8,ah i),(9,.string ⟨(ft o o.length).toArray⟩),(14,ah m),(15,ah i)]∧Wk zL (Cv g13 xc F7 s:: .own 5 1 xc s.b.length F7 (bv s.b)::Dd g sz P1 p1 P2 p2 o h F)) ?_ ?_
  ·refine cY ?_;refine aj (fun oc=>?_) fun oc=>?_
   ·have alY:o.getD (o.length-1) []=ft o o.length:=(aw aa).symm;refine de ?_;refine b7 (aC (i:=o.length-1) (size:=1) underlying87 ag rfl rfl aa aa aB) rfl ?_;refine b7 (gQ (b:=o) (j:=o.length-1) ag rfl aB aa) rfl ?_;rw[alY];refine aF ?_;refine na [(0,_),(7,_),(8,_),(9,_),(14,_),(15,_)] ⟨rfl,rfl,rfl,rfl,rfl,rfl,trivial⟩ ?_;exact bC ⟨bp,.refl _⟩
   ·have alY:ft o o.length=[]:=ao aa;refine aF ?_;rw[alY];exact bC ⟨bp,.refl _⟩
  ·rintro _ _ ⟨hs,hp⟩;refine aU hs hp ?_;clear hs hp;refine bz ?_;refine ai rfl (amx (decide ((i:Int)=0)) (was:=ft o o.length) aa ho aB) ?_;refine bL ?_;refine ai rfl (gO) ?_;refine bQ ?_;refine aj (fun U3=>?_) fun U3=>?_
   ·rw[ao U3]at hF;refine b8 ?_;refine ve [6] ?_;refine bJ ?_;refine aq (L':=Dd g sz P1 p1 P2 p2 o h F) (.skip (.skip (.refl _))) ?_;refine aF ?_;exact⟨P1,p1,P2,p2,o,h,by rw[←hF],rfl,fun h=>by rw[←hF]at h;exact absurd h U3⟩
   ·rw[aw U3]at hF;have h0:(sT s (ft o o.length) (decide ((i:Int)=0))).e=0:=by omega
    have fG:=Sh h0;have hbb:=aqH s (ft o o.length) (decide ((i:Int)=0));have hoC:cu (sT s (ft o o.length) (decide ((i:Int)=0))):=ho.sT aa;have D9:o.length+1=(o++[sd s (ft o o.length) (decide ((i:Int)=0))]).length:=by simp
    refine cY ?_;refine dE Fp rfl rfl rfl rfl rfl (fun _=>rfl) aV aa aa ?_;intro _ A57 c57;refine b8 ?_;refine ve [0,7,8,10,14,15] ?_;refine bL ?_;refine aj (fun h62=>?_) fun h62=>?_
    ·refine bL ?_;refine dE Fp rfl rfl rfl rfl rfl (fun _=>rfl) aV aa aa ?_;intro _ A70 c70;refine bA ?_;have acz:h.length+1=(h++[sd s (ft o o.length) (decide ((i:Int)=0))]).length:=by simp
     refine av ⟨_,aa,i+1,sT s (ft o o.length) (decide ((i:Int)=0)),o++[sd s (ft o o.length) (decide ((i:Int)=0))],h++[sd s (ft o o.length) (decide ((i:Int)=0))],A57,c57,A70,c70,⟨aa,hoC,bR,Rv.snoc fG.2.1,fun h=>absurd h aa,fun _=>by rw[hh0 aa];simp[hoo,show i=0 by omega],aoe⟩,rfl,bp,.cons (ax (by rw[hbb]) (by rw[hbb]) (bq (by rw[D9,acz];rfl) (ax D9 L9 (ax acz L9 (.refl _)))))⟩
    ·refine bL ?_;refine av ⟨_,aa,i+1,sT s (ft o o.length) (decide ((i:Int)=0)),o++[sd s (ft o o.length) (decide ((i:Int)=0))],h,A57,c57,P2,p2,⟨aa,hoC,bR,Rv.snoc fG.2.1,fun h=>absurd h aa,fun _=>by rw[hh1 aa,Nl aa],aoe⟩,rfl,bp,.cons (ax (by rw[hbb]) (by rw[hbb]) (bq (by rw[D9];rfl) (ax D9 L9 (.refl _))))⟩
 ·rw[show m-i=0 by omega,g_]at hF;refine bJ ?_;refine ai rfl (abc ho aB) ?_;refine b8 ?_;refine aq (L':=Dd g sz P1 p1 P2 p2 o h F) (.skip (.skip (.refl _))) ?_;refine aF ?_;have hG2:G.2=s.xO.e:=by
   rw[←hF];split
   ·rfl
   ·rename_i q;simpa using(kR.1 q).symm
  refine⟨P1,p1,P2,p2,o,h,by rw[hG2],rfl,fun q=>?_⟩;rw[hG2]at q;rw[aw L7]at hF;exact⟨by rw[←hF],hh1 aa,Rv,aa⟩
theorem TV{P:Prop}(h:P:=by(rw[P9];exact aB)):P:=h
def AW:Nat→Cs→bf→Cs×bf
 |0,s,out=>(s,out)
 |k+1,s,out=>if s.e≠0 then (s,out) else AW k (s.bX 2000) (out++[s.int 2000])
def oU(sz n:Nat):bf→Cs→List cm→List cm×Cs×Int
 |[],s,out=>if s.e≠0 then ([],s,s.e) else (out,s,0)
 |k::r,s,out=>
  if (s.b_ k).e≠0 then ([],s,(s.b_ k).e)
  else if (g_ (min sz (n-out.length)) true ⟨s.take k,0,0⟩ out).2≠0 then ([],s,(g_ (min sz (n-out.length)) true ⟨s.take k,0,0⟩ out).2)
  else oU sz n r (s.b_ k) (g_ (min sz (n-out.length)) true ⟨s.take k,0,0⟩ out).1
def tL(b:al):Nat:=Cs.int ⟨b,0,0⟩ 1048576
def lP(sz:Nat)(b:al):Cs×bf:=AW (gU sz (tL b)) (Cs.bX ⟨b,0,0⟩ 1048576) []
def mI(sz:Nat)(b:al):List cm×Cs×Int:=oU sz (tL b) (lP sz b).2 (lP sz b).1 []
def dW(size:Int)(b:al):List cm×Nat×Int:=
 if size<1∨64<size then ([],0,13)
 else if (mI size.toNat b).2.2≠0 then ([],0,(mI size.toNat b).2.2) else ((mI size.toNat b).1,(mI size.toNat b).2.1.at_,0)
theorem uQ{size:Int}{b:al}(h:size<1∨64<size):dW size b=([],0,13):=ao h
theorem HY{sz:Nat}{b:al}(h:¬((sz:Int)<1∨64<(sz:Int)))(he:(mI sz b).2.2≠0):dW sz b=([],0,(mI sz b).2.2):=by unfold dW;rw[aw h,nB,ao he]
theorem DD{sz:Nat}{b:al}(h:¬((sz:Int)<1∨64<(sz:Int)))(he:(mI sz b).2.2=0):dW sz b=((mI sz b).1,(mI sz b).2.1.at_,0):=by unfold dW;rw[aw h,nB,aw L6]
theorem Cs.Kp(s:Cs){m:Int}(h0:0≤m)(hm:m≤9223372036854775807):(s.int m:Int)≤m:=by
 unfold Cs.int;split
 ·simpa using h0
 ·by_cases h:(et s.rest m).2.2=0
  ·exact(jz s.rest m hm).2.2.2 h
  ·rw[(pt h).1];simpa using h0
theorem Cs.aiX(s:Cs)(m:Int):(s.b_ m).b=s.b:=Cs.cK s _ _
theorem Cs.IJ{s:Cs}{k:Nat}{er:Int}(h:(s.eu k er).e=0):s.e=0:=by
 unfold Cs.eu at h;split at h
 ·exact h
 ·split at h
  ·rename_i h1 h2;exact absurd h h2
  ·exact h
theorem H':∀(m:Nat) (f:Bool) (s:Cs) (o:List cm),(g_ m f s o).2=0→∃t,(g_ m f s o).1=o++t∧t.length=m
 |0,f,s,o,h=>by
  unfold g_ at h⊢;split at h
  ·rename_i q;exact absurd h q
  ·rename_i q;rw[aw q];exact⟨[],ak⟩
 |k+1,f,s,o,h=>by
  unfold g_ at h⊢;split at h
  ·rename_i q;exact absurd h q
  ·rename_i q;rw[aw q];obtain⟨t,h1,h2⟩:=H' k _ _ _ h;exact⟨sd s (ft o o.length) f::t,by rw[h1];simp,by simp[h2]⟩
def hdS(sz:Nat)(o:List cm):List cm:=(List.range (gU sz o.length)).map fun j=>o.getD (j*sz) []
theorem Qz{sz n:Nat}(h:1≤sz):n≤gU sz n*sz:=by
 rcases ub (gU sz n*sz) n with h1|h1
 ·exact absurd ((nP h).2 h1) aa
 ·exact h1
theorem Rn{i z sz N:Nat}{o t:List cm}(hz:z=i*sz)(kY:1≤sz)(ho:o.length=min z N)(hzN:z<N):(List.range i).map (fun j=>o.getD (j*sz) [])++[(o++t).getD o.length []]=(List.range (i+1)).map (fun j=>(o++t).getD (j*sz) []):=by
 rw[lj,jb,List.map_singleton];congr 1
 ·apply r9;intro j hj;have hji:=kz.1 hj;have:(j+1)*sz≤i*sz:=ow sz aa;rw[mH,rh]at this;exact(Nl aa).symm
 ·rw[show i*sz=o.length by omega]
theorem XN{l:bf}{i:Nat}(h:i<l.length):l.drop i=l.getD i 0::l.drop (i+1):=by
 rw[N4 h];simp[List.getD,fm h]
def aaB(size:Int)(b:al)(F:aP)(r:Value)(L:aP):Prop:=
 ((dW size b).2.2≠0∧r= .tuple #[.pointer none,ah 0,ah (dW size b).2.2]∧L=F)∨
 ((dW size b).2.2=0∧1≤size∧size≤64∧Gl (dW size b).1∧(dW size b).1.length≤1048576∧∃g A1 c1 A2 c2,r= .tuple #[br g,ah (dW size b).2.1,ah 0]∧L=Dd g size A1 c1 A2 c2 (dW size b).1 (hdS size.toNat (dW size b).1) F)
theorem XL{size:Int}{b:al}(hE:size<1∨64<size):
  a_ B w0 226 [ah size,.slice A n c] F (aaB size b F):=by
 refine fw func226 84 [0,1] ?_;refine bA ?_;refine bW 6 23 [0,1] (size<1∨64<size) ?_ ?_
 ·refine bF ?_;refine aL rfl rfl rfl (fun iY=>?_) (fun iY=>?_)
  ·refine b8 ?_;exact aQ oS
  ·refine be ?_;exact aQ vu
 ·refine be ?_;refine aj (fun nM=>?_) fun nM=>?_
  ·refine bA ?_;exact .inl ⟨by rw[uQ hE];decide,by rw[uQ hE],rfl⟩
  ·exfalso;exact nM hE
theorem MP{sz:Nat}{b:al}(kY:1≤sz)(jH:sz≤64)(hb:eM B w0 F A c b)(c_:b.length≤1000000000):
  a_ B w0 226 [ah sz,.slice A b.length c] F (aaB sz b F):=by
 have hR1:= @HY sz b aa;have Yf:= @DD sz b aa;have hN1:=Cs.Kp ⟨b,0,0⟩ (m:=1048576) aa aa;have hDS:lP sz b=AW (gU sz (tL b)) (Cs.bX ⟨b,0,0⟩ 1048576) []:=rfl;have hDF:mI sz b=oU sz (tL b) (lP sz b).2 (lP sz b).1 []:=rfl;have hNe:Cs.int ⟨b,0,0⟩ 1048576=tL b:=rfl;rw[hNe]at hN1;have hdN:∀l:List cm,mI sz b=mI sz b:=fun _=>rfl;obtain⟨N,hN⟩:=cN (tL b);rw[←hN]at hN1 hDS hDF hNe;have hcN:gU sz N≤1048639:=by
  unfold gU;exact jd (q_ _ _) aa
 have hcz:gU sz N*sz≤1048639*64:=gN hcN jH;have ho1:cu (Cs.bX ⟨b,0,0⟩ 1048576):=cu.bX ⟨bT _,cZ⟩ aa;refine fw func226 84 [0,1] ?_;refine bA ?_;refine bW 6 23 [0,1] ((sz:Int)<1∨64<(sz:Int)) ?_ ?_
 ·refine bF ?_;refine aL rfl rfl rfl (fun iY=>?_) (fun iY=>?_)
  ·refine b8 ?_;exact aQ oS
  ·refine be ?_;exact aQ vu
 ·refine be ?_;refine dm fun nM=>?_;refine bG ?_;refine dX rfl (mU hb aa) fun g25 G' Ls=>?_;refine bz ?_;refine ai rfl (iH (s:=⟨b,0,0⟩) ⟨bT _,cZ⟩ aB (most:=1048576) aa aa) ?_;rw[hNe];refine b8 ?_;refine aZ 3 1 none ?_;refine cY ?_;refine aE (fun zf zL zm=>∃(j q:Nat) (s:Cs) (S:bf) (A9:bj) (c9:Nat),(j≤gU sz N∧q=j*sz∧S.length=j∧cu s∧s.b=b∧(∀i,i<S.length→S.getD i 0≤2000)∧AW (gU sz N-j) s S=lP sz b)∧gU sz N-j=zm∧Sub zf [(0,ah sz),(7,br g25),(8,ah N),(9,.slice A9 S.length c9),(10,ah q)]∧Wk zL (Cv g25 G' Ls s:: .own 5 1 G' b.length Ls (bv b):: .own 3 1 A9 S.length c9 (bx S)::F)) _ ⟨0,0,Cs.bX ⟨b,0,0⟩ 1048576,[],none,0,⟨bT _,(r' _).symm,rfl,ho1,Cs.zT _ _,fun i h=>absurd h ak,hDS.symm⟩,rfl,bp,(gl (gl (ed (.refl _))))⟩ ?_;rintro _ _ _ ⟨j,q,s,S,A9,c9,⟨hj,hq,Yi,ho,P9,hS2,hS⟩,rfl,hs,hp⟩;refine aU hs hp ?_;clear hs hp;refine bF ?_;refine bW 8 35 [0,7,8,9,10] ((q:Int)<N∧s.e=0) ?_ ?_
  ·refine b8 ?_;refine cP (fun D5=>?_) fun D5=>?_
   ·refine be ?_;refine ai rfl (gO) ?_;refine bF ?_;exact aQ oS
   ·refine bF ?_;exact aQ wu
  ·refine be ?_;refine aj (fun qV=>?_) fun qV=>?_
   ·have hjN:j<gU sz N:=(nP kY).2 aa;have hjz:(j+1)*sz≤gU sz N*sz:=ow sz hjN;have hjs:(j+1)*sz=j*sz+sz:=j0 j sz;have hi2:=Cs.Kp s (m:=2000) aa aa;have D9:S.length+1=(S++[s.int 2000]).length:=by simp
    rw[show gU sz N-j=(gU sz N-(j+1))+1 by omega,AW,aw (by simpa using qV.2)]at hS;refine bL ?_;refine ai rfl (iH ho TV (most:=2000) aa aa) ?_;refine dE fJ rfl rfl rfl rfl rfl (fun _=>rfl) aV aa aa ?_;intro _ Lp c43;refine bA ?_;refine av ⟨_,aa,j+1,q+sz,s.bX 2000,S++[s.int 2000],Lp,c43,⟨aa,aa,bR,ho.bX aa,by rw[Cs.zT];exact P9,fun i hi=>by
 rcases ub i S.length with h|h
 ·rw[show(S++[s.int 2000]).getD i 0=S.getD i 0 by simp[List.getD,z8 h]];exact hS2 i h
 ·have:i=S.length:=by simp at hi;omega
  rw[this];simp;omega,hS⟩,rfl,bp,.cons (.cons (ax D9 sD (.refl _)))⟩
   ·have hSS:(s,S)=lP sz b:=by
     rw[←hS];by_cases h:j=gU sz N
     ·rw[h,nx];rfl
     ·rw[show gU sz N-j=(gU sz N-(j+1))+1 by omega,AW,ao];intro h0;exact qV ⟨by have:=(nP kY).1 (show j<gU sz N by omega);omega,h0⟩
    have hcm:s.e=0→S.length=gU sz N:=by
     intro h0;rcases ub j (gU sz N)with h|h
     ·exact absurd ⟨by have:=(nP kY).1 h;omega,h0⟩ qV
     ·omega
    rw[←hSS]at hDF;refine bz ?_;refine aZ 9 1 none ?_;refine aZ 9 1 none ?_;refine be ?_;refine ab (bw [(1,_)] [.slice none 0 0,ah 0,.slice none 0 0] [1] [_,_,_] rfl rfl ag) rfl ?_;refine bh fun US=>?_;refine cJ ?_;refine aE (fun zf zL zm=>∃(i z:Nat) (u:Cs) (o h:List cm) (P1:bj) (p1:Nat) (P2:bj) (p2:Nat),(i≤S.length∧z=i*sz∧o.length=min z N∧cu u∧u.b=b∧(u.e=0→S.length=gU sz N)∧Gl o∧h=(List.range i).map (fun j=>o.getD (j*sz) [])∧oU sz N (S.drop i) u o=mI sz b)∧S.length-i=zm∧Sub zf [(0,ah sz),(7,br g25),(8,ah N),(11,br US),(47,.slice A9 S.length c9),(48,ah S.length),(49,ah i)]∧Wk zL (Cv g25 G' Ls u:: .own 5 1 G' b.length Ls (bv b)::Dd US sz P1 p1 P2 p2 o h (.own 3 1 A9 S.length c9 (bx S)::F))) _ ⟨0,0,s,[],[],none,0,none,0,⟨bT _,(r' _).symm,ak,ho,P9,hcm,fun x hx=>absurd hx ak,rfl,hDF.symm⟩,rfl,bp,(tx (tx (ed (ed (ed (ed (.refl _)))))))⟩ ?_;rintro _ _ _ ⟨i,z,u,o,h,P1,p1,P2,p2,⟨hi,hz,Kj,hou,hub,huc,Rv,hh,hB⟩,rfl,hs,hp⟩;refine aU hs hp ?_;clear hs hp;refine bz ?_;refine aj (fun Ij=>?_) fun Ij=>?_
    ·have hiS:i<S.length:=by omega
     have hzN:z<N:=by have:=(nP kY).1 (show i<gU sz N by omega);omega
     have hoz:o.length=z:=by omega
     have hiz:(i+1)*sz=i*sz+sz:=j0 i sz;have atM:i*sz≤gU sz N*sz:=ow sz aa;have ar_:=hS2 i hiS;rw[XN hiS,oU]at hB;obtain⟨k,hk⟩:=cN (S.getD i 0);have Gc:(bx S)[i*1]? =some (ah (k:Int)):=by rw[hk];simp[bx,List.getD,fm hiS]
     rw[←hk]at hB ar_;obtain⟨M,hM⟩:=cN (min sz (N-o.length));rw[←hM]at hB;have hMe:min (sz:Int) ((N-z:Nat):Int)=(M:Int):=by rw[hM,hoz];omega
     have tX:(u.take k).length≤1000000:=by
      unfold Cs.take;split
      ·simp
      ·split
       ·simp
       ·simp only[eS];omega
     refine bJ ?_;refine ab (au ag rfl aB aa Gc) rfl ?_;refine bJ ?_;refine ay rfl (mb hou (by rw[hub];exact aB) (m:=(k:Int)) aa aa) fun A56 c56=>?_;refine bL ?_;refine ai rfl (gO) ?_;refine bQ ?_;refine aj (fun h60=>?_) fun h60=>?_
     ·rw[ao h60]at hB;refine bz ?_;refine ve [4,5,6] ?_;refine bJ ?_;refine aq (L':=F) (.skip (.skip (.skip (.skip (.skip (.skip (.skip (.refl _)))))))) ?_;refine aF ?_;have vz:=hR1 (by rw[←hB];exact h60);rw[←hB]at vz;exact .inl ⟨by rw[vz];exact h60,by rw[vz],rfl⟩
     ·rw[aw h60]at hB;refine bA ?_;refine ab (eZ rfl rfl (r:=(z:Int)) ((bE (by rw[←z6];omega) (by rw[←z6];omega)).trans (by rw[hz];exact z6 i sz))) rfl ?_;refine ab (dw rfl rfl (r:=((N-z:Nat):Int)) ((bE aa aa).trans aa)) rfl ?_;refine ab (xJ rfl rfl) rfl ?_;rw[hMe];refine aX apc rfl ((alo (b:=u.take k) (m:=M) aa aa aB aa Rv aa (by rw[hh];simp;omega)).perm ((pu3 (pu3 (pu3 (fR (fR (fR (.refl _))))))))) rfl ?_;rintro _ _ ⟨P71,p71,Q71,q71,o2,h2,rfl,cA,hfo⟩;obtain rfl:=cA.symm;refine aF ?_;refine ve [0,7,8,11,16,47,48,49] ?_;refine bL ?_;refine aj (fun h73=>?_) fun h73=>?_
      ·rw[ao h73]at hB;refine dQ ?_;refine aq (L':=F) (.skip (.skip (.skip (.skip (.skip (.skip (.skip (.refl _)))))))) ?_;refine aF ?_;have vz:=hR1 (by rw[←hB];exact h73);rw[←hB]at vz;exact .inl ⟨by rw[vz];exact h73,by rw[vz],rfl⟩
      ·rw[aw h73]at hB;have apU:(g_ M true ⟨u.take k,0,0⟩ o).2=0:=by simpa using h73
       obtain⟨ho2,hh2,aqg,atV⟩:=hfo apU;rw[←ho2]at hB;obtain⟨t,ht,Ce⟩:=H' _ _ _ _ apU;rw[←ho2]at ht;refine bL ?_;refine av ⟨_,aa,i+1,z+sz,u.b_ k,o2,h2,P71,p71,Q71,q71,⟨aa,aa,aa,hou.b_,by rw[Cs.aiX];exact hub,fun q=>huc (Cs.IJ q),aqg,by rw[hh2,hh,ht];exact Rn hz kY Kj hzN,hB⟩,rfl,bp,(tx (wu4 (ed (ed (ed (gl (.skip (.refl _))))))))⟩
    ·have hiS:i=S.length:=by omega
     rw[mn aa,oU]at hB;refine bQ ?_;refine ai rfl (gO) ?_;refine bQ ?_;refine aj (fun h79=>?_) fun h79=>?_
     ·rw[ao h79]at hB;refine bA ?_;refine aq (L':=F) (.skip (.skip (.skip (.skip (.skip (.skip (.refl _))))))) ?_;refine aF ?_;have vz:=hR1 (by rw[←hB];exact h79);rw[←hB]at vz;exact .inl ⟨by rw[vz];exact h79,by rw[vz],rfl⟩
     ·rw[aw h79]at hB;refine bz ?_;refine ai rfl (alj) ?_;refine bz ?_;have vz:=Yf (by rw[←hB]);rw[←hB]at vz;have hn:o.length=N:=by have:=Qz (n:=N) kY;have:=huc (by simpa using h79);rw[Kj,hz,hiS,this];omega
      have wJ:h=hdS sz o:=by unfold hdS;rw[hn,hh,hiS,huc (by simpa using h79)]
      refine aq (L':=Dd US sz P1 p1 P2 p2 o h F) ((rM (rM (rM (.skip (.skip (.skip (.refl _)))))))) ?_;refine aF ?_;exact .inr ⟨by rw[vz],aa,aa,by rw[vz];exact Rv,by rw[vz];simp only;omega,US,P1,p1,P2,p2,by rw[vz],by rw[vz,wJ];rfl⟩
theorem ag2{size:Int}{b:al}(hb:eM B w0 F A c b)(c_:b.length≤1000000000):
  a_ B w0 226 [ah size,.slice A b.length c] F (aaB size b F):=by
 by_cases hE:size<1∨64<size
 ·exact XL hE
 ·obtain⟨sz,rfl⟩:=gM (show 0≤size by omega);exact MP aa aa hb c_
theorem QS{sz k:Nat}{b:al}{l:List cm}(kY:1≤sz)(jH:sz≤64)(hb:eM B w0 F A c b)(c_:b.length≤1000000000)(he:dW sz b=(l,k,0)):
  a_ B w0 226 [ah sz,.slice A b.length c] F (fun r L=>∃g A1 c1 A2 c2,r= .tuple #[br g,ah k,ah 0]∧L=Dd g sz A1 c1 A2 c2 l (hdS sz l) F):=
 (MP kY jH hb c_).mono fun r L h=>by
  rcases h with⟨h,_⟩|⟨_,_,_,_,_,g,A1,c1,A2,c2,h1,h2⟩
  ·rw[he]at h;exact absurd rfl h
  ·rw[he]at h1 h2;exact⟨g,A1,c1,A2,c2,h1,h2⟩
theorem XM{size:Int}{b:al}(hb:eM B w0 F A c b)(c_:b.length≤1000000000)(he:(dW size b).2.2≠0):
  a_ B w0 226 [ah size,.slice A b.length c] F (fun r L=>r= .tuple #[.pointer none,ah 0,ah (dW size b).2.2]∧L=F):=
 (ag2 hb c_).mono fun r L h=>by
  rcases h with⟨_,h1,h2⟩|⟨h,_⟩
  ·exact⟨h1,h2⟩
  ·exact absurd h he
theorem dL.agC{P:Program}{B:Nat}{w0:World}{L:aP}{ff:FuncId}{args:cV}{R:qI}{size nn c:Nat}{xs:cV}(hb:aJ B w0 L size (.slice none nn c) nn xs)(h:nn=0→dL P B w0 ff args L R):dL P B w0 ff args L R:=fun w hw=>by
 obtain⟨A',c',hv,hc,hl,hr⟩:=hb w hw;injection hv with h1 _ h3;subst h1;rcases wQ nn with h0|h0
 ·exact h h0 w hw
 ·obtain⟨ad,e,_⟩:=hr h0;cases e
theorem aeB(l:List cm)(hb:aJ B w0 F 1 (.slice A l.length c) l.length (strs l))(hn:l.length≤1099511627776):
  a_ B w0 271 [.slice A l.length c] F (fun r L=>∃A' c',r= .slice A' l.length c'∧L= .own 9 1 A' l.length c' (strs l)::F):=by
 rcases A with _|ad
 ·refine dL.agC hb fun h0=>?_;have:l=[]:=mm h0;subst this;refine ct func271 8 rfl rfl rfl [(0,.slice none 0 c)] ⟨⟨rfl,rfl⟩,trivial⟩ ?_;refine bQ ?_;refine ab (rV underlying87 rfl rfl) rfl ?_;refine bA ?_;refine aD 9 1 none ?_;refine aF ?_;exact⟨none,0,rfl,rfl⟩
 ·refine ct func271 8 rfl rfl rfl [(0,.slice (some ad) l.length c)] ⟨⟨rfl,rfl⟩,trivial⟩ ?_;refine bQ ?_;refine ab (rV underlying87 rfl rfl) rfl ?_;refine bL ?_;refine cC (lz Fp) fun A5=>?_;refine aF ?_;refine fN (bS Fp rfl aV rfl aB cw aa aa) fun A7 c7=>?_;refine b8 ?_;rw[mq,nA];refine aF ?_;exact⟨_,_,rfl,rfl⟩
theorem ali(hn:o.length≤1048576):
  a_ B w0 229 [br g] (Dd g sz A1 c1 A2 c2 o h F) (fun r L=>∃A' c',r= .slice A' o.length c'∧L=Dd g sz A1 c1 A2 c2 o h (.own 9 1 A' o.length c' (strs o)::F)):=by
 refine fw func229 11 [0] ?_;refine GC ?_;refine ay rfl (aeB o aB aa) fun wh F6=>?_;refine b8 ?_;refine aq (L':=Dd g sz A1 c1 A2 c2 o h (.own 9 1 wh o.length F6 (strs o)::F)) ((gl (gl (gl (ed (.refl _)))))) ?_;refine aF ?_;exact⟨wh,F6,rfl,rfl⟩
theorem aln:a_ B w0 228 [br g] (Dd g sz A1 c1 A2 c2 o h F) (fun r L=>r=ah o.length∧L=Dd g sz A1 c1 A2 c2 o h F):=by
 refine fw func228 11 [0] ?_;refine apP ?_;exact⟨rfl,rfl⟩
theorem plK.find{t:cm}{k:Nat}(hk:plK o t k)(hR:kV o):(k<o.length∧o.getD k []=t)↔t∈o:=by
 constructor
 ·rintro⟨h1,h2⟩;rw[←h2,bk,fm h1];exact tY _
 ·intro h;obtain⟨i,hi,he⟩:=jZ h;have he:o.getD i []=t:=by rw[bk,fm hi];exact he
  have h1:k≤i:=by
   rcases ub i k with h|h
   ·exact absurd (he▸hk.2.1 i h) (fU _)
   ·exact h
  rcases ub k i with h2|h2
  ·exact absurd (he▸hR.lt i k h2 hi) (hk.2.2 k (gj _) aa)
  ·exact⟨aa,by rw[show k=i by omega];exact he⟩
theorem TZ{P:Prop}(h:P:=by(simpa using h4.e1)):P:=h
theorem ID:type_of% @List.range_eq_range':= @List.range_eq_range'
def wj:cm→List cm→Prop
 |_,[]=>True
 |w,s::r=>uo w s∧wj s r
def J4:cm→List cm→cm
 |w,[]=>w
 |_,s::r=>J4 s r
theorem oD:∀(w:cm) (l:List cm) (x:cm),J4 w (l++[x])=x
 |_,[],_=>rfl
 |_,s::r,x=>oD s r x
theorem M6:∀(w:cm) (a b:List cm),J4 w (a++b)=J4 (J4 w a) b
 |_,[],_=>rfl
 |_,s::r,b=>M6 s r b
theorem pE:∀(l:List cm),ft l l.length=J4 [] l:=by
 intro l;rcases List.eq_nil_or_concat l with rfl|⟨l',x,rfl⟩
 ·rfl
 ·rw[List.concat_eq_append,oD];unfold ft;rw[aw ak];simp
theorem wj.app:∀{w:cm} {a b:List cm},wj w a→wj (J4 w a) b→wj w (a++b)
 |_,[],_,_,h=>h
 |_,s::r,b,h,k=>⟨h.1,wj.app h.2 k⟩
theorem wj.left:∀{w:cm} {a b:List cm},wj w (a++b)→wj w a
 |_,[],_,_=>trivial
 |_,s::r,b,h=>⟨h.1,wj.left h.2⟩
theorem wj.right:∀{w:cm} {a b:List cm},wj w (a++b)→wj (J4 w a) b
 |_,[],_,h=>h
 |_,s::r,b,h=>wj.right (a:=r) h.2
theorem wj.get:∀{w:cm} {l:List cm},wj w l→∀i,i<l.length→uo (if i=0 then w else l.getD (i-1) []) (l.getD i [])
 |_,[],_,i,hi=>absurd hi ak
 |w,s::r,h,0,_=>by simpa using h.1
 |w,s::r,h,i+1,hi=>by
  have:=wj.get h.2 i C5;cases i with
  |zero=>simpa using this
  |succ i=>simpa using this
theorem wj.adJ:∀{w:cm} {l:List cm},(∀i,i<l.length→uo (if i=0 then w else l.getD (i-1) []) (l.getD i []))→wj w l
 |_,[],_=>trivial
 |w,s::r,h=>by
  refine⟨by simpa using h 0 ak,wj.adJ fun i hi=>?_⟩;have:=h (i+1) C5;cases i with
  |zero=>simpa using this
  |succ i=>simpa using this
theorem kV.ch{l:List cm}(h:kV l):wj [] l:=wj.adJ h.1
theorem wj.ris{l:List cm}(h:wj [] l)(hl:l.length≤1048576):kV l:=⟨h.get,hl⟩
theorem N':∀a b:cm,a.take (qd a b)=b.take (qd a b)
 |[],b=>by simp[qd]
 |x::a,[]=>by simp[qd]
 |x::a,y::b=>by
  unfold qd;split
  ·rename_i h;simp[h,N' a b]
  ·simp
theorem adb:∀{a b:cm},te a b→qd a b<b.length
 |_,[],h=>absurd h (qh _)
 |[],y::b,_=>by simp[qd]
 |x::a,y::b,h=>by
  unfold qd;rw[ui]at h;split
  ·rename_i he;subst he;rcases h with h|⟨_,h⟩
   ·rw[Pz]at h;omega
   ·have:=adb h;simp;omega
  ·simp
theorem akG{x:Nat}(h:x<128):(aS x).length=1:=by rw[ot h];rfl
theorem H8{t:cm}(h:t.length<128):(fo t).length=t.length+1:=by
 unfold fo;rw[aY,akG h];omega
theorem Pc:∀(was:cm) (r:List cm),was.length≤25→(∀s∈r,s.length≤25)→(iD was r).length≤r.length*27
 |_,[],_,_=>by simp[iD]
 |was,s::r,hw,h=>by
  have hs:=h s ak;have:=Pc s r hs (fun x hx=>h x oa);have hl:=z' was s;unfold iD;rw[aY,aY,akG aa,H8 kQ,iG,ef,mH];omega
theorem Qx{X:List cm}(hl:X.length≤64)(h:∀s∈X,s.length≤25):(dB X).length≤2000:=by
 cases X with
 |nil=>simp[dB]
 |cons t r=>
  have ht:=h t ak;have:=Pc t r ht (fun x hx=>h x oa);simp only[ef]at hl;unfold dB;rw[aY,H8 aa];omega
theorem amD{s:Cs}{was x:cm}{r:al}(h0:s.e=0)(hw:was.length≤1000)(hm:uo was x)(hr:s.rest=aS (qd was x)++fo (x.drop (qd was x))++r):sd s was false=x∧(sT s was false).e=0∧(sT s was false).rest=r:=by
 have hl:=z' was x;have fE:=adb (CG.1 hm.2.2);rw[bV]at hr;obtain⟨h1,h2⟩:=Cs.iB h0 (m:=was.length) aa aa hr;have uZ:=h2.cH hr;obtain⟨h3,h4⟩:=Cs.rC h2.e1 (m:=25) (by rw[iG];have:=hm.2.1;omega) aa uZ;have xm:=h4.cH uZ;have hX:nxX s was false=x:=by
  show was.take (s.int was.length)++(s.bX was.length).text 25=x;rw[h1,h3,N',jK]
 have hS:Sg s was false=(s.bX was.length).ew 25:=rfl;have hB:¬qi s was false:=by
  rintro(h|h|⟨_,h⟩)
  ·have h:(s.bX was.length).text 25=[]:=h;rw[h3]at h;have:=ek List.length h;rw[iG]at this;simp at this;omega
  ·rw[hX]at h;exact h hm
  ·rw[hX]at h;exact h h1.symm
 have hC:sT s was false=(s.bX was.length).ew 25:=by
  unfold sT;rw[hS,aw TZ,aw hB]
 refine⟨?_,by rw[hC];exact h4.e1,by rw[hC];exact xm⟩;unfold sd;rw[hS,aw TZ,hX]
theorem amC{s:Cs}{was x:cm}{r:al}(h0:s.e=0)(hm:uo was x)(hr:s.rest=fo x++r):sd s was true=x∧(sT s was true).e=0∧(sT s was true).rest=r:=by
 obtain⟨h3,h4⟩:=Cs.rC h0 (m:=25) (by have:=hm.2.1;omega) aa hr;have xm:=h4.cH hr;have hX:nxX s was true=x:=by
  show was.take 0++s.text 25=x;rw[h3];rfl
 have hS:Sg s was true=s.ew 25:=rfl;have hB:¬qi s was true:=by
  rintro(h|h|⟨h,_⟩)
  ·have h:s.text 25=[]:=h;rw[h3]at h;exact hm.1 h
  ·rw[hX]at h;exact h hm
  ·cases h
 have hC:sT s was true=s.ew 25:=by
  unfold sT;rw[hS,aw TZ,aw hB]
 refine⟨?_,by rw[hC];exact h4.e1,by rw[hC];exact xm⟩;unfold sd;rw[hS,aw TZ,hX]
theorem Ib:∀(r out:List cm) (s:Cs),s.e=0→(ft out out.length).length≤1000→s.rest=iD (ft out out.length) r→wj (ft out out.length) r→g_ r.length false s out=(out++r,0)
 |[],out,s,h0,_,hr,_=>by
  have:=Cs.abL h0 hr;simp[g_,this]
 |x::r,out,s,h0,hw,hr,hc=>by
  obtain⟨h1,h2,h3⟩:=amD h0 hw hc.1 hr;have hp:ft (out++[x]) (out++[x]).length=x:=by rw[pE,oD]
  show g_ (r.length+1) false s out=_;unfold g_;rw[aw oQ,h1,Ib r (out++[x]) _ h2 (by rw[hp];have:=hc.1.2.1;omega) (by rw[hp];exact h3) (by rw[hp];exact hc.2)];simp
theorem Na{X out:List cm}(r8:X≠[])(hc:wj (ft out out.length) X):g_ X.length true ⟨dB X,0,0⟩ out=(out++X,0):=by
 cases X with
 |nil=>exact absurd rfl r8
 |cons x r=>
  obtain⟨h1,h2,h3⟩:=amC (s:=⟨dB (x::r),0,0⟩) rfl hc.1 (show Cs.rest ⟨dB (x::r),0,0⟩=fo x++iD x r from rfl);have hp:ft (out++[x]) (out++[x]).length=x:=by rw[pE,oD]
  show g_ (r.length+1) true _ out=_;unfold g_;rw[aw oQ,h1,Ib r (out++[x]) _ h2 (by rw[hp];have:=hc.1.2.1;omega) (by rw[hp];exact h3) (by rw[hp];exact hc.2)];simp
theorem Wn:∀(ns:bf) (s:Cs) (out:bf) (r:al),s.e=0→(∀n∈ns,n≤2000)→s.rest=ns.flatMap aS++r→∃s',AW ns.length s out=(s',out++ns)∧nO s s' (ns.flatMap aS)
 |[],s,out,r,h0,_,hr=>⟨s,by simp[AW],nO.nil h0⟩
 |n::ns,s,out,r,h0,hn,hr=>by
  have hn1:=hn n ak;rw[jJ,bV]at hr;obtain⟨h1,h2⟩:=Cs.iB h0 (m:=2000) aa aa hr;obtain⟨s',h3,h4⟩:=Wn ns (s.bX 2000) (out++[n]) r h2.e1 (fun x hx=>hn x oa) (h2.cH hr);refine⟨s',?_,?_⟩
  ·show AW (ns.length+1) s out=_;unfold AW;rw[aw (by simpa using h0),h1,h3];simp
  ·rw[jJ];exact h2.trans h4
theorem aiZ(l:List cm)(sz i:Nat):l.take (i*sz)++ck l sz i=l.take ((i+1)*sz):=by
 unfold ck;rw[mH,rh,List.take_add]
theorem Mk{l:List cm}{sz:Nat}(hR:kV l)(kY:1≤sz):∀(m i:Nat) (s:Cs) (r:al),i+m=gU sz l.length→s.e=0→s.rest=iV l sz (List.range' i m)++r→
  ∃s',oU sz l.length ((List.range' i m).map fun j=>(dB (ck l sz j)).length) s (l.take (i*sz))=(l,s',0)∧nO s s' (iV l sz (List.range' i m))
 |0,i,s,r,hi,h0,hr=>by
  have wH:=Qz (sz:=sz) (n:=l.length) kY;refine⟨s,?_,nO.nil h0⟩;have:i=gU sz l.length:=by omega
  simp only[List.range'_zero,GU,oU];rw[aw (by simpa using h0),this,fL wH]
 |m+1,i,s,r,hi,h0,hr=>by
  rw[List.range'_succ]at hr⊢;have fE:=(nP kY).1 (show i<gU sz l.length by omega);simp only[iV,jJ,bV]at hr;obtain⟨h1,h2⟩:=Cs.mv h0 (n:=((dB (ck l sz i)).length:Int)) rfl hr;have uZ:=h2.cH hr;have Ce:(l.take (i*sz)).length=i*sz:=by rw[eS];omega
  have ap5:(ck l sz i).length=min sz (l.length-i*sz):=by simp[ck]
  have r8:ck l sz i≠[]:=fun h=>by have:=ek List.length h;rw[ap5]at this;simp at this;omega
  have hch:wj (ft (l.take (i*sz)) (l.take (i*sz)).length) (ck l sz i):=by
   rw[pE];have h:=hR.ch;rw[←jK (i*sz) l]at h;have h:=h.right;rw[←jK sz (l.drop (i*sz))]at h;exact h.left
  have hF:=Na (out:=l.take (i*sz)) r8 hch;rw[ap5]at hF;obtain⟨s',h3,h4⟩:=Mk hR kY m (i+1) _ r aa h2.e1 uZ;refine⟨s',?_,?_⟩
  ·simp only[kA,oU];rw[aw (by simpa using h2.e1),h1,Ce,hF,aw ak];show oU _ _ _ _ (l.take (i*sz)++ck l sz i)=_;rw[aiZ];exact h3
  ·show nO s s' (iV l sz (i::List.range' (i+1) m));simp only[iV,jJ];exact h2.trans h4
theorem XK{l:List cm}{sz:Nat}(hR:kV l)(kY:1≤sz)(jH:sz≤64)(more:al):dW sz (fQ sz l++more)=(l,(fQ sz l).length,0):=by
 have zJ:=hR.le;have hb:(Cs.rest ⟨fQ sz l++more,0,0⟩)=aS l.length++(lh l sz (List.range (gU sz l.length))++(iV l sz (List.range (gU sz l.length))++more)):=by simp[Cs.rest,fQ]
 have hl:=hR.2;obtain⟨h1,h2⟩:=Cs.iB (s:=⟨fQ sz l++more,0,0⟩) rfl (m:=1048576) (x:=l.length) aa aa hb;have uZ:=h2.cH hb;have hN:tL (fQ sz l++more)=l.length:=h1;have hH:lh l sz (List.range (gU sz l.length))=((List.range (gU sz l.length)).map fun j=>(dB (ck l sz j)).length).flatMap aS:=by simp[lh,List.flatMap_map]
 rw[hH]at uZ;obtain⟨s2,h3,h4⟩:=Wn _ _ [] _ h2.e1 (fun n hn=>by
  obtain⟨j,_,rfl⟩:=pM.1 hn;exact Qx (by simp[ck];omega) (fun x hx=>zJ x (zk hx))) uZ
 have xm:=h4.cH uZ;rw[ID]at xm;obtain⟨s3,h5,h6⟩:=Mk hR kY _ 0 s2 more aa h4.e1 xm;rw[eK,vZ]at h3;have hS:lP sz (fQ sz l++more)=(s2,(List.range (gU sz l.length)).map fun j=>(dB (ck l sz j)).length):=by
  unfold lP;rw[hN,h3];rfl
 have hF:mI sz (fQ sz l++more)=(l,s3,0):=by
  unfold mI;rw[hN,hS,ID];rw[r',z_]at h5;exact h5
 have GI:s3.at_=(fQ sz l).length:=by
  have h7:=(h2.trans (h4.trans h6)).eq;rw[h7];have hH2:=ek List.length hH;simp only[ID]at hH2;simp only[fQ,aY,ID,hH2];omega
 rw[DD aa (by rw[hF]),hF,←GI]
theorem amE{s:Cs}{was:cm}(hw:was.length≤1000)(h:(sT s was false).e=0):uo was (sd s was false)∧nO s (sT s was false) (aS (qd was (sd s was false))++fo ((sd s was false).drop (qd was (sd s was false)))):=by
 have hm:=Sh h;obtain⟨h1,h2,h3,h4⟩:=adG h;have Ya:((s.bX was.length).ew 25).e=0:=h1;have hS:sT s was false=(s.bX was.length).ew 25:=h3;obtain⟨h5,h6⟩:=Cs.yO Ya;obtain⟨h7,h8,h9⟩:=Cs.Kq h5.e0;have hX:sd s was false=was.take (s.int was.length)++(s.bX was.length).text 25:=h4;have hl:qd was (sd s was false)=s.int was.length:=by
  refine kR.1 fun q=>h2 (.inr (.inr ⟨rfl,fun e=>q ?_⟩));rw[h4];exact e
 refine⟨hm,?_⟩;rw[hl,hS];have hd:(sd s was false).drop (s.int was.length)=(s.bX was.length).text 25:=by
  rw[hX,qb np]
 rw[hd];exact h7.trans h5
theorem ah8{s:Cs}{was:cm}(h:(sT s was true).e=0):uo was (sd s was true)∧nO s (sT s was true) (fo (sd s was true)):=by
 have hm:=Sh h;obtain⟨h1,h2,h3,h4⟩:=adG h;have Ya:(s.ew 25).e=0:=h1;have hS:sT s was true=s.ew 25:=h3;obtain⟨h5,h6⟩:=Cs.yO Ya;have hX:sd s was true=s.text 25:=h4;refine⟨hm,?_⟩;rw[hX,hS];exact h5
theorem abM{s:Cs}(h:s.xO.e=0):s.e=0∧s.rest=[]:=by
 obtain⟨h1,h2⟩:=Cs.ag6 h;refine⟨h1,?_⟩;unfold Cs.left at h2;unfold Cs.rest;exact mn aa
theorem Ia:∀(m:Nat) (s:Cs) (out:List cm),(ft out out.length).length≤1000→(g_ m false s out).2=0→∃r,(g_ m false s out).1=out++r∧r.length=m∧s.rest=iD (ft out out.length) r∧wj (ft out out.length) r∧s.e=0
 |0,s,out,hw,h=>by
  unfold g_ at h⊢;split at h
  ·rename_i q;exact absurd h q
  ·rename_i q;rw[aw q];obtain⟨h1,h2⟩:=abM L7;exact⟨[],ak,rfl,h2,trivial,h1⟩
 |m+1,s,out,hw,h=>by
  unfold g_ at h⊢;split at h
  ·rename_i q;exact absurd h q
  ·rename_i q;rw[aw q];have q':(sT s (ft out out.length) false).e=0:=by simpa using q
   obtain⟨h1,h2⟩:=amE hw q';have hp:ft (out++[sd s (ft out out.length) false]) (out++[sd s (ft out out.length) false]).length=sd s (ft out out.length) false:=by rw[pE,oD]
   obtain⟨r,h3,h4,h5,h6,h7⟩:=Ia m _ (out++[sd s (ft out out.length) false]) (by rw[hp];have:=h1.2.1;omega) h;rw[hp]at h5 h6;refine⟨sd s (ft out out.length) false::r,by rw[h3];simp,by simp[h4],?_,⟨h1,h6⟩,h2.e0⟩;rw[h2.rest,h5];simp only[iD]
theorem XX{m:Nat}{b:al}{out:List cm}(hm:1≤m)(h:(g_ m true ⟨b,0,0⟩ out).2=0):∃r,(g_ m true ⟨b,0,0⟩ out).1=out++r∧r.length=m∧b=dB r∧wj (ft out out.length) r:=by
 obtain⟨k,rfl⟩:∃k,m=k+1:=⟨m-1,aa⟩
 unfold g_ at h⊢;split at h
 ·rename_i q;exact absurd h q
 ·rename_i q;rw[aw q];have q':(sT ⟨b,0,0⟩ (ft out out.length) true).e=0:=by simpa using q
  obtain⟨h1,h2⟩:=ah8 q';have hp:ft (out++[sd ⟨b,0,0⟩ (ft out out.length) true]) (out++[sd ⟨b,0,0⟩ (ft out out.length) true]).length=sd ⟨b,0,0⟩ (ft out out.length) true:=by rw[pE,oD]
  obtain⟨r,h3,h4,h5,h6,h7⟩:=Ia k _ (out++[sd ⟨b,0,0⟩ (ft out out.length) true]) (by rw[hp];have:=h1.2.1;omega) h;rw[hp]at h5 h6;refine⟨sd ⟨b,0,0⟩ (ft out out.length) true::r,by rw[h3];simp,by simp[h4],?_,⟨h1,h6⟩⟩;have:=h2.rest;rw[h5]at this;simpa[Cs.rest,dB]using this
theorem O4:∀(k:Nat) (s s':Cs) (out S:bf),AW k s out=(s',S)→s'.e=0→∃S',S=out++S'∧S'.length=k∧nO s s' (S'.flatMap aS)
 |0,s,s',out,S,h,he=>by
  simp only[AW,Cf]at h;obtain⟨rfl,rfl⟩:=h;exact⟨[],ak,rfl,nO.nil he⟩
 |k+1,s,s',out,S,h,he=>by
  unfold AW at h;split at h
  ·rename_i q;simp only[Cf]at h;obtain⟨rfl,rfl⟩:=h;exact absurd he q
  ·obtain⟨S',h1,h2,h3⟩:=O4 k _ _ _ _ h he;obtain⟨h4,h5,h6⟩:=Cs.Kq h3.e0;refine⟨s.int 2000::S',by rw[h1];simp,by simp[h2],?_⟩;rw[jJ];exact h4.trans h3
theorem Hw{sz n:Nat}(kY:1≤sz):∀(S:bf) (i:Nat) (s s':Cs) (out l:List cm),out.length=min (i*sz) n→S.length+i=gU sz n→oU sz n S s out=(l,s',0)→
  l.length=n∧(∃t,l=out++t∧wj (ft out out.length) t)∧nO s s' (iV l sz (List.range' i S.length))∧S=(List.range' i S.length).map (fun j=>(dB (ck l sz j)).length)
 |[],i,s,s',out,l,ho,hS,h=>by
  unfold oU at h;split at h
  ·rename_i q;simp only[Cf]at h;exact absurd h.2.2 q
  ·rename_i q;simp only[Cf]at h;obtain⟨rfl,rfl,_⟩:=h;have wH:=Qz (sz:=sz) (n:=n) kY;have hi:i=gU sz n:=by simpa using hS
   rw[←hi]at wH;exact⟨aa,⟨[],ak,trivial⟩,nO.nil L7,ak⟩
 |k::S,i,s,s',out,l,ho,hS,h=>by
  simp only[ef]at hS;have fE:=(nP kY).1 (show i<gU sz n by omega);have hoi:out.length=i*sz:=by omega
  have i_:(i+1)*sz=i*sz+sz:=j0 i sz;unfold oU at h;split at h
  ·rename_i q;simp only[Cf]at h;exact absurd h.2.2 q
  ·rename_i q;split at h
   ·rename_i q2;simp only[Cf]at h;exact absurd h.2.2 q2
   ·rename_i q2;obtain⟨h1,h2,_⟩:=Cs.Pd (show(s.b_ k).e=0 by simpa using q);obtain⟨r,h3,h4,h5,h6⟩:=XX aa (show(g_ (min sz (n-out.length)) true ⟨s.take k,0,0⟩ out).2=0 by simpa using q2);rw[h3]at h;obtain⟨h7,⟨t,h8,h9⟩,jF,pg⟩:=Hw kY S (i+1) _ s' (out++r) l (by rw[aY,h4,i_];omega) aa h;have hck:ck l sz i=r:=by
     unfold ck;rw[h8,bV,←hoi,BI];rcases ub (n-out.length) sz with hc|hc
     ·have ht:t=[]:=by
       apply mm;have:=ek List.length h8;rw[h7,aY,aY,h4]at this;omega
      rw[ht,gk,fL aa]
     ·rw[po (by rw[h4];omega)]
    have hpr:ft (out++r) (out++r).length=J4 (ft out out.length) r:=by rw[pE,pE,M6]
    rw[hpr]at h9;refine⟨h7,⟨r++t,by rw[h8,bV],h6.app h9⟩,?_,?_⟩
    ·simp only[ef,List.range'_succ,iV,jJ];rw[hck,←h5];exact h1.trans jF
    ·simp only[ef,List.range'_succ,kA];rw[hck,←h5,h2,←pg];simp
theorem MN{sz:Nat}{b:al}(kY:1≤sz)(jH:sz≤64)(he:(dW sz b).2.2=0):kV (dW sz b).1∧(dW sz b).2.1≤b.length∧fQ sz (dW sz b).1=b.take (dW sz b).2.1:=by
 have hE:¬((sz:Int)<1∨64<(sz:Int)):=by omega
 have hF:(mI sz b).2.2=0:=kR.1 fun h=>by
  rw[HY hE h]at he;exact h he
 rw[DD hE hF];obtain⟨l,s',e⟩:∃l s',mI sz b=(l,s',0):=⟨_,_,Prod.ext rfl (Prod.ext rfl hF)⟩
 have e':=e;unfold mI at e';have Yi:(lP sz b).1.e=0→(lP sz b).2.length=gU sz (tL b)∧nO (Cs.bX ⟨b,0,0⟩ 1048576) (lP sz b).1 ((lP sz b).2.flatMap aS):=by
  intro h0;obtain⟨S',h1,h2,h3⟩:=O4 (gU sz (tL b)) (Cs.bX ⟨b,0,0⟩ 1048576) (lP sz b).1 [] (lP sz b).2 rfl h0;rw[nA]at h1;rw[h1];exact⟨h2,h3⟩
 have h0:(lP sz b).1.e=0:=by
  generalize (lP sz b).2=S at e';generalize (lP sz b).1=u at e'⊢;cases S with
  |nil=>
   unfold oU at e';split at e'
   ·rename_i q;simp only[Cf]at e';exact absurd e'.2.2 q
   ·rename_i q;simpa using q
  |cons k S=>
   unfold oU at e';split at e'
   ·rename_i q;simp only[Cf]at e';exact absurd e'.2.2 q
   ·rename_i q;exact Cs.IJ (s:=u) (k:=(k:Int).toNat) (er:=ij u.rest k) (show(u.b_ k).e=0 by simpa using q)
 obtain⟨h1,h2⟩:=Yi h0;obtain⟨h3,⟨t,h4,h5⟩,h6,h7⟩:=Hw kY _ 0 _ s' [] l ak aa e';rw[nA]at h4;subst h4;obtain⟨h8,h9,_⟩:=Cs.Kq h2.e0;have jF:=h8.trans (h2.trans h6);rw[h1]at h6 h7 jF;have hH:lh l sz (List.range (gU sz l.length))=(lP sz b).2.flatMap aS:=by
  rw[h7,ID,h3];simp[lh,List.flatMap_map]
 have hD:fQ sz l=aS (Cs.int ⟨b,0,0⟩ 1048576)++((lP sz b).2.flatMap aS++iV l sz (List.range' 0 (gU sz (tL b)))):=by
  unfold fQ;rw[hH,h3,ID,bV];rfl
 rw[←hD]at jF;have GI:s'.at_=(fQ sz l).length:=by rw[jF.eq];simp
 have zO:b=fQ sz l++s'.rest:=by simpa[Cs.rest]using jF.rest
 rw[e];simp only;rw[GI];have hN:(tL b:Int)≤1048576:=h9;refine⟨wj.ris (by simpa[ft]using h5) (by rw[h3];omega),?_,?_⟩
 ·conv=>rhs;rw[zO]
  simp
 ·conv=>rhs;rw[zO]
  rw[yf]
def LF(bound:Int):Nat→al→List (bf)→List (bf)×Int
 |0,b,out=>if b.length≠0 then ([],2) else (out,0)
 |k+1,b,out=>
  if (iI bound b).2.2≠0 then ([],(iI bound b).2.2)
  else if (iI bound b).1.length=0 then ([],2)
  else LF bound k (b.drop (iI bound b).2.1) (out++[(iI bound b).1])
def zR(size bound:Int)(b:al):List (bf)×Int:=LF bound (dW size b).1.length (b.drop (dW size b).2.1) []
def ey(size bound:Int)(b:al):List cm×List (bf)×Int:=
 if bound<0∨20000<bound then ([],[],13)
 else if (dW size b).2.2≠0 then ([],[],(dW size b).2.2)
 else if (zR size bound b).2≠0 then ([],[],(zR size bound b).2)
 else ((dW size b).1,(zR size bound b).1,0)
theorem Vh{size bound:Int}{b:al}(h:bound<0∨20000<bound):ey size bound b=([],[],13):=ao h
theorem Vi{size bound:Int}{b:al}(h:¬(bound<0∨20000<bound))(h1:(dW size b).2.2≠0):ey size bound b=([],[],(dW size b).2.2):=by unfold ey;rw[aw h,ao h1]
theorem Vj{size bound:Int}{b:al}(h:¬(bound<0∨20000<bound))(h1:(dW size b).2.2=0)(h2:(zR size bound b).2≠0):ey size bound b=([],[],(zR size bound b).2):=by unfold ey;rw[aw h,aw C4,ao h2]
theorem Kn{size bound:Int}{b:al}(h:¬(bound<0∨20000<bound))(h1:(dW size b).2.2=0)(h2:(zR size bound b).2=0):ey size bound b=((dW size b).1,(zR size bound b).1,0):=by unfold ey;rw[aw h,aw C4,aw oQ]
theorem Ol{bn:Nat}(hb:bn≤20000):∀(I out:List (bf)),(∀x∈I,x≠[]∧kU bn x)→LF bn I.length (I.flatMap (rI bn)) out=(out++I,0)
 |[],out,_=>by simp[LF]
 |x::r,out,h=>by
  obtain⟨h1,h2⟩:=h x ak;have hbk:=XP h2 hb (r.flatMap (rI bn));rw[jJ,ef,LF,hbk,aw ak,aw C4];simp only;rw[BI,Ol hb r _ fun y hy=>h y vK];simp
theorem VB{bound:Int}(PZ:bound≤9223372036854775807):∀(k:Nat) (b:al) (out:List (bf)),(LF bound k b out).2=0→∃I,(LF bound k b out).1=out++I∧I.length=k∧(∀x∈I,x≠[]∧kU bound.toNat x)∧I.flatMap (rI bound.toNat)=b
 |0,b,out,h=>by
  unfold LF at h⊢;split at h
  ·exact absurd h aA
  ·rename_i q;rw[aw q];exact⟨[],ak,rfl,ak,by simpa using(mm L7).symm⟩
 |k+1,b,out,h=>by
  unfold LF at h⊢;split at h
  ·rename_i q;exact absurd h q
  ·rename_i q;split at h
   ·exact absurd h aA
   ·rename_i q2;rw[aw q,aw q2];obtain⟨bn,rfl,oH,hR,hB,hl⟩:=MS PZ L7;obtain⟨I,h1,h2,h3,h4⟩:=VB PZ k _ _ h;simp only[nB]at h3 h4⊢;refine⟨(iI bn b).1::I,by rw[h1];simp,by simp[h2],?_,?_⟩
    ·intro x hx;rcases fk.1 hx with rfl|hx
     ·exact⟨fun e=>q2 C6,hR⟩
     ·exact h3 x hx
    ·rw[jJ,hB,h4,jK]
theorem ac4{sz bn:Nat}{T:List cm}{I:List (bf)}(h1:1≤sz)(h2:sz≤64)(hb:bn≤20000)(hR:kV T)(hl:T.length=I.length)(hI:∀x∈I,x≠[]∧kU bn x):ey sz bn (fQ sz T++I.flatMap (rI bn))=(T,I,0):=by
 have hd:=XK hR h1 h2 (I.flatMap (rI bn));have hL:zR sz bn (fQ sz T++I.flatMap (rI bn))=(I,0):=by
  unfold zR;rw[hd];simp only;rw[BI,hl,Ol hb I [] hI];simp
 rw[Kn aa (by rw[hd]) (by rw[hL]),hd,hL]
theorem ahC{size bound:Int}{b:al}(h:(ey size bound b).2.2=0)(hs:size≤9223372036854775807):∃sz bn:Nat,size=sz∧bound=bn∧1≤sz∧sz≤64∧bn≤20000∧kV (ey size bound b).1∧(ey size bound b).1.length=(ey size bound b).2.1.length∧
  (∀x∈(ey size bound b).2.1,x≠[]∧kU bn x)∧fQ sz (ey size bound b).1++(ey size bound b).2.1.flatMap (rI bn)=b:=by
 have q1:¬(bound<0∨20000<bound):=fun q1=>by rw[Vh q1]at h;exact absurd h aA
 have q2:(dW size b).2.2=0:=bH fun q2=>by rw[Vi q1 q2]at h;exact q2 h
 have q3:(zR size bound b).2=0:=bH fun q3=>by rw[Vj q1 q2 q3]at h;exact q3 h
 rw[Kn q1 q2 q3];have q4:¬(size<1∨64<size):=fun q=>by rw[uQ q]at q2;exact absurd q2 aA
 obtain⟨sz,rfl⟩:=gM (show 0≤size by omega);obtain⟨bn,rfl⟩:=gM (show 0≤bound by omega);obtain⟨e1,e2,e3⟩:=MN (sz:=sz) aa aa q2;obtain⟨I,f1,f2,f3,f4⟩:=VB (bound:=bn) aa _ _ _ q3;rw[nA]at f1;have f1':(zR sz bn b).1=I:=f1;rw[nB]at f3 f4;refine⟨sz,bn,rfl,rfl,aa,aa,aa,e1,?_,?_,?_⟩
 ·simp only;rw[f1',f2]
 ·simp only;rw[f1'];exact f3
 ·simp only;rw[f1',f4,e3,jK]
def l9(I:List (bf)):List (List Int):=I.map fun l=>l.map (fun(n:Nat)=>(n:Int))
theorem RH{bn:Nat}{T:List cm}{I:List (bf)}(hb:bn≤20000)(hR:kV T)(hl:T.length=I.length)(hI:∀x∈I,x≠[]∧kU bn x):xZ bn T (l9 I):=by
 refine⟨⟨aa,aa⟩,by simp[l9,hl],hR,fun x hx=>?_⟩;obtain⟨y,hy,rfl⟩:=pM.1 hx;exact⟨fun e=>(hI y hy).1 (List.map_eq_nil_iff.1 e),(sh _ _).2 (hI y hy).2⟩
theorem Oi{bn:Nat}(hb:bn≤20000):∀I:List (bf),(∀x∈I,x≠[]∧kU bn x)→lsB bn (l9 I)=I.flatMap (rI bn)
 |[],_=>by simp[lsB,l9]
 |x::r,h=>by
  have ih:=Oi hb r fun y hy=>h y vK;have e:PT bn (x.map (fun(n:Nat)=>(n:Int)))=(rI bn x,0):=J0 (by rintro(q|q|q);omega;omega;exact q ((sh _ _).2 (h x ak).2));unfold lsB l9 at ih⊢;rw[kA,jJ,jJ,ih,e]
theorem Iv{sz bn:Nat}{T:List cm}{I:List (bf)}(h1:1≤sz)(h2:sz≤64)(hb:bn≤20000)(hR:kV T)(hl:T.length=I.length)(hI:∀x∈I,x≠[]∧kU bn x):qz sz bn T (l9 I)=(fQ sz T++I.flatMap (rI bn),0):=by
 rw[Ko h1 h2 (RH hb hR hl hI)];unfold Km;rw[Oi hb I hI]
theorem Ed{bound:Int}{T:List cm}{I:List (List Int)}(h:xZ bound T I):∃(bn:Nat) (N:List (bf)),bound=bn∧bn≤20000∧I=l9 N∧kV T∧T.length=N.length∧∀x∈N,x≠[]∧kU bn x:=by
 obtain⟨⟨h0,h1⟩,h2,h3,h4⟩:=h;obtain⟨bn,rfl⟩:=gM h0;have e:I=l9 (I.map fun l=>l.map Int.toNat):=by
  unfold l9;rw[vA]
  conv=>lhs;rw[←List.map_id I]
  refine r9 fun x hx=>?_;obtain⟨xs,rfl⟩:=(h4 x hx).2.adz;simp[Function.comp_def]
 refine⟨bn,I.map fun l=>l.map Int.toNat,rfl,aa,e,h3,oQ,fun x hx=>?_⟩;obtain⟨y,hy,rfl⟩:=pM.1 hx;obtain⟨xs,rfl⟩:=(h4 y hy).2.adz;have e2:(xs.map (fun(n:Nat)=>(n:Int))).map Int.toNat=xs:=by simp[Function.comp_def]
 rw[e2];exact⟨fun q=>(h4 _ hy).1 (by rw[q];rfl),(sh _ _).1 (h4 _ hy).2⟩
theorem apv{L1 L2:List Lq}(hL1:aJ B w0 F 1 (.slice B1 L1.length b1) L1.length (L1.map zQ))(hI1:l7 B w0 F L1)(hL2:aJ B w0 F 1 (.slice B2 L2.length b2) L2.length (L2.map zQ))(hI2:l7 B w0 F L2)(jH:L1.length≤1000000000)(wN:∀e∈L1,e.2.2.length≤9223372036854775807):
  a_ B w0 240 [.slice B1 L1.length b1,.slice B2 L2.length b2,.func (.func 241) #[] #[]] F (fun r L=>r= .bool (decide (fT L1=fT L2))∧L=F):=by
 refine fw func240 32 [0,1,2] ?_;refine jy ?_;refine aj (fun kg=>?_) fun kg=>?_
 ·refine bJ ?_;exact⟨by rw[nT fun h=>kg (by have:=ek List.length h;simp only[fT,eK]at this;omega)],rfl⟩
 ·refine cY ?_;refine aE (fun zf zL zm=>∃(k:Nat),(k≤L1.length∧(fT L1).take k=(fT L2).take k)∧L1.length-k=zm∧Sub zf [(1,.slice B2 L2.length b2),(2,.func (.func 241) #[] #[]),(15,.slice B1 L1.length b1),(16,ah L1.length),(17,ah k)]∧Wk zL (F)) _ ⟨0,⟨bT _,rfl⟩,rfl,bp,.refl _⟩ ?_;rintro _ _ _ ⟨k,⟨hk,heq⟩,rfl,hs,hp⟩;refine aU hs hp ?_;clear hs hp;refine bz ?_;refine aj (fun jk=>?_) fun jk=>?_
  ·have xk:k<L1.length:=by omega
   have Ip:k<L2.length:=by omega
   have hi1:=hI1.get xk;have hi2:=hI2.get Ip;have tu:=wN _ (bg xk q7);refine bJ ?_;refine ab (au ag rfl aB aa (amb xk)) rfl ?_;refine bQ ?_;refine ab (au ag rfl aB aa (amb Ip)) rfl ?_;refine bJ ?_;refine uH (aN func241 rfl rfl) rfl rfl (apw aB aB tu) rfl ?_;rintro _ _ ⟨rfl,cA⟩;obtain rfl:=cA.symm;refine bF ?_;refine aj (fun Bv=>?_) fun Bv=>?_
   ·refine bF ?_;refine ve [6] ?_;refine bJ ?_;exact⟨by
     rw[nT];intro h;refine Bv ?_;have:=ek (fun l=>l.getD k []) h;simpa[fT,List.getD,jr,fm xk,fm Ip]using this,rfl⟩
   ·refine bz ?_;refine ve [1,2,15,16,17] ?_;refine av ⟨_,aa,k+1,⟨aa,ac2 heq xk Ip (kR.1 Bv)⟩,rfl,bp,.refl _⟩
  ·refine cJ ?_;exact⟨by
    have h4:fT L1=fT L2:=by
     have:=heq
     rwa [fL (by simp only[fT,eK];omega),fL (by simp only[fT,eK];omega)]at this
    rw[ox h4],rfl⟩
theorem aiq{T1 T2:List cm}{L1 L2:List Lq}(h1:aJ B w0 F 1 (.slice A1 T1.length c1) T1.length (strs T1))(hL1:aJ B w0 F 1 (.slice B1 L1.length b1) L1.length (L1.map zQ))(hI1:l7 B w0 F L1)(h2:aJ B w0 F 1 (.slice A2 T2.length c2) T2.length (strs T2))(hL2:aJ B w0 F 1 (.slice B2 L2.length b2) L2.length (L2.map zQ))(hI2:l7 B w0 F L2)(hs:T1.length≤1000000000)(jH:L1.length≤1000000000)(wN:∀e∈L1,e.2.2.length≤9223372036854775807):
  a_ B w0 195 [.agg [.slice A1 T1.length c1,.slice B1 L1.length b1].toArray,.agg [.slice A2 T2.length c2,.slice B2 L2.length b2].toArray] F (fun r L=>r= .bool (decide (T1=T2∧fT L1=fT L2))∧L=F):=by
 refine fw func195 17 [0,1] ?_;refine be ?_;refine bh fun g2=>?_;refine bh fun g3=>?_;refine bG ?_;refine bW 12 16 [] (T1=T2∧fT L1=fT L2) ?_ ?_
 ·refine b8 ?_;refine ai rfl (apx aB aB aa) ?_;refine aF ?_;refine cP (fun jF=>?_) fun jF=>?_
  ·refine bJ ?_;refine ai rfl (apv aB (hI1.mono (gy [_,_] F)) aB (hI2.mono (gy [_,_] F)) jH wN) ?_;refine aF ?_;exact aQ b_8
  ·refine bG ?_;exact aQ b_8
 ·refine b8 ?_;refine aq (L':=F) (.skip (.skip (.refl _))) ?_;refine aF ?_;exact⟨rfl,rfl⟩
theorem anw{x:aK}{t:cm}(h:t∈trm x):t≠[]:=by
 rcases dz.1 ((ry _ _).1 h)with h|h
 ·have:=(Lh h).1;intro e;rw[e]at this;simp at this
 ·obtain⟨u,hu,rfl⟩:=pM.1 h;simp
theorem ahT{f:Nat→List cm}{n q:Nat}{s:cm}:q∈Oj f n s↔q<n∧s∈f q:=by
 unfold Oj;rw[BE,kz];simp
theorem Mf{f:Nat→List cm}{n:Nat}{s:cm}:s∈rQ f n↔∃q,q<n∧s∈f q:=by
 rw[rQ,ry,List.mem_flatMap];simp only[kz]
theorem Jv{L:List aK}(hw:dU L≤1048576)(hn:L.length≤20000):xZ L.length (rQ (Ba L) L.length) ((Ju (Ba L) L.length).map fun l=>l.map (fun(n:Nat)=>(n:Int))):=by
 have hl:(rQ (Ba L) L.length).length≤dU L:=by
  have h1:=uC ((List.range L.length).flatMap (Ba L));have h2:=C7 L L.length (gj _);rw[jU]at h2;unfold rQ;omega
 have sI:LS (rQ (Ba L) L.length):=yJ _;have hm:∀t∈rQ (Ba L) L.length,t≠[]∧t.length≤25:=fun t h=>by
  obtain⟨q,_,hq⟩:=Mf.1 h;exact⟨anw hq,afu hq⟩
 refine⟨⟨aa,aa⟩,by simp[Ju],⟨fun i hi=>?_,aa⟩,fun x hx=>?_⟩
 ·obtain⟨h1,h2⟩:=hm _ (bg hi []);refine⟨h1,h2,?_⟩;unfold ft;by_cases e:i=0
  ·rw[ao e];exact Ov h1
  ·rw[aw e];refine CG.2 ?_;have:=rb.1 sI (i-1) i aa hi aa;simpa[List.getD,fm hi,fm (show i-1<(rQ (Ba L) L.length).length by omega)]using this
 ·obtain⟨y,hy,rfl⟩:=pM.1 hx;obtain⟨s,hs,rfl⟩:=pM.1 hy;refine⟨fun e=>RY.2 (Mf.1 hs) (List.map_eq_nil_iff.1 e),(sh _ _).2 fun i hi=>⟨(ahT.1 (bg hi 0)).1,fun h0=>?_⟩⟩;have hp:(Oj (Ba L) L.length s).Pairwise (· < ·):=List.Pairwise.sublist List.filter_sublist List.pairwise_lt_range;have:=rb.1 hp (i-1) i aa hi aa;simpa[List.getD,fm hi,fm (show i-1<(Oj (Ba L) L.length s).length by omega)]using this
theorem Xl{P:Prop}(h:P:=by(have:=pz hn;omega)):P:=h
theorem v_:type_of% @List.flatten_cons:= @List.flatten_cons
def o2(o:aR):aR:=(o.1,o.2.1,o.2.2.1,0,0,0)
def mR(L:List aK):List (bf):=Ju (Ba L) L.length
def mS(L:List aK):List cm:=rQ (Ba L) L.length
def qA(o:aR)(L:List aK):al:=(qz o.2.2.1 L.length (mS L) (l9 (mR L))).1
def xK(ns ss:bf)(c i:Nat):al:=aS ns.sum++(aS ns.length++((ns.zip ss).flatMap (fun p=>aS p.1++aS p.2)++(aS c++aS i)))
def eQ(o:aR)(L:List aK):eH:=jv false o.2.1 (dR o false L) L
def oT(L:List aK):al:=cX (kq L)
def oV(o:aR)(L:List aK):al:=cX (qA o L)
def p7(o:aR)(L:List aK):al:=cX (xK (dR o false L) ((eQ o L).map List.length) (oT L).length (oV o L).length)
def dy(o:aR)(L:List aK):al:=(eQ o L).flatten++(oT L++(oV o L++(p7 o L++fF (p7 o L).length 4)))
def fX(o:aR)(L:List aK):al×Int:=if cB 2 (o2 o)≠0 then ([],cB 2 (o2 o)) else if cO L≠0 then ([],cO L) else (dy o L,0)
def ftK(b:al):Nat:=Cs.fixed ⟨b.drop (b.length-4),0,0⟩ 4
def ftD(b:al):al×Int:=aI ((b.take (b.length-4)).drop (b.length-4-ftK b))
def fZ(b:al):al×al×Int:=
 if b.length<4 then ([],[],1) else if b.length-4<ftK b then ([],[],1) else (b.take (b.length-4-ftK b),(ftD b).1,(ftD b).2)
def sZ(m:Nat):Nat→Cs→bf→bf→bf×bf×Cs
 |0,s,ns,ss=>(ns,ss,s)
 |f+1,s,ns,ss=>if s.e≠0 then (ns,ss,s) else sZ m f ((s.bX m).bX 8388608) (ns++[s.int m]) (ss++[(s.bX m).int 8388608])
def Cw(d:al):Nat:=Cs.int ⟨d,0,0⟩ 20000
def dr1(d:al):Cs:=Cs.bX ⟨d,0,0⟩ 20000
def Lu(d:al):Nat:=(dr1 d).int (Cw d)
def dr2(d:al):Cs:=(dr1 d).bX (Cw d)
def fa(d:al):bf×bf×Cs:=sZ (Cw d) (Lu d) (dr2 d) [] []
def Cu(d:al):Nat:=(fa d).2.2.int 8388608
def Uz(d:al):Cs:=(fa d).2.2.bX 8388608
def drI(d:al):Nat:=(Uz d).int 8388608
def dr5(d:al):Cs:=((Uz d).bX 8388608).xO
def Gy(d:al)(room:Nat):Int:=
 if (dr5 d).e≠0 then (dr5 d).e else if 0∈(fa d).1∨(fa d).1.sum≠Cw d∨(fa d).2.1.sum+Cu d+drI d≠room then 2 else 0
def rz:bf→al→eH
 |[],_=>[]
 |n::ss,r=>r.take n::rz ss (r.drop n)
structure ir where
 ns:bf
 ss:bf
 c:Nat
 i:Nat
 times:bf
 levels:al
 T:List cm
 I:List (bf)
 bB:eH
def ir.nil:ir:=⟨[],[],0,0,[],[],[],[],[]⟩
def qq(b:al):al:=(fZ b).1
def dT(b:al):al:=(fZ b).2.1
def boX(b:al):al:=(qq b).drop (fa (dT b)).2.1.sum
def wy(b:al):al:=(boX b).take (Cu (dT b))
def vw(b:al):al:=(boX b).drop (Cu (dT b))
def xE(n:Nat)(ch:al):Int:=
 if (aI ch).2≠0 then (aI ch).2 else if (nW n (aI ch).1).2.2.2≠0 then (nW n (aI ch).1).2.2.2 else if (nW n (aI ch).1).2.2.1<(aI ch).1.length then 2 else 0
def ei(o:aR)(b:al):ir×Int:=
 if cB 2 (o2 o)≠0 then (.nil,cB 2 (o2 o))
 else if (fZ b).2.2≠0 then (.nil,(fZ b).2.2)
 else if Gy (dT b) (qq b).length≠0 then (.nil,Gy (dT b) (qq b).length)
 else if xE (fa (dT b)).1.sum (wy b)≠0 then (.nil,xE (fa (dT b)).1.sum (wy b))
 else if (aI (vw b)).2≠0 then (.nil,(aI (vw b)).2)
 else if (ey o.2.2.1 ((fa (dT b)).1.sum:Nat) (aI (vw b)).1).2.2≠0 then (.nil,(ey o.2.2.1 ((fa (dT b)).1.sum:Nat) (aI (vw b)).1).2.2)
 else (⟨(fa (dT b)).1,(fa (dT b)).2.1,Cu (dT b),drI (dT b),(nW ((fa (dT b)).1.sum:Nat) (aI (wy b)).1).1,(nW ((fa (dT b)).1.sum:Nat) (aI (wy b)).1).2.1,
  (ey o.2.2.1 ((fa (dT b)).1.sum:Nat) (aI (vw b)).1).1,(ey o.2.2.1 ((fa (dT b)).1.sum:Nat) (aI (vw b)).1).2.1,rz (fa (dT b)).2.1 (qq b)⟩,0)
def pF(ts:bf)(lv:al)(a:Nat)(L:List aK):List aK:=(List.range L.length).map fun i=>(ts.getD (a+i) 0,lv.getD (a+i) 0,(recAt L i).2.2.1,(recAt L i).2.2.2)
noncomputable def lV(x:ir)(k:Nat):List aK×Int:=
 if (dK (x.bB.getD k [])).2.2≠0 then ([],(dK (x.bB.getD k [])).2.2)
 else if (dK (x.bB.getD k [])).2.1<(x.bB.getD k []).length then ([],2)
 else if (qH false (dK (x.bB.getD k [])).1).2≠0 then ([],(qH false (dK (x.bB.getD k [])).1).2)
 else if (qH false (dK (x.bB.getD k [])).1).1.length≠x.ns.getD k 0 then ([],2)
 else (pF x.times x.levels (x.ns.take k).sum (qH false (dK (x.bB.getD k [])).1).1,0)
noncomputable def nU(x:ir):Nat→Nat→List aK→List aK×Int
 |0,_,out=>(out,0)
 |f+1,k,out=>if (lV x k).2≠0 then ([],(lV x k).2) else nU x f (k+1) (out++(lV x k).1)
noncomputable def jl(x:ir):List aK×Int:=
 if (nU x x.bB.length 0 []).2≠0 then ([],(nU x x.bB.length 0 []).2)
 else if cO (nU x x.bB.length 0 []).1≠0 then ([],cO (nU x x.bB.length 0 []).1)
 else if¬(x.T=mS (nU x x.bB.length 0 []).1∧x.I=mR (nU x x.bB.length 0 []).1) then ([],15)
 else ((nU x x.bB.length 0 []).1,0)
theorem zi{a b:List (bf)}(h:l9 a=l9 b):a=b:=
 (List.map_inj_right (f:=fun l:bf=>l.map fun(n:Nat)=>(n:Int)) fun x y h=>(List.map_inj_right (f:=fun(n:Nat)=>(n:Int)) fun m n h=>Int.ofNat.inj h).1 h).1 h
theorem DY(b plain:Bool):∀(ns:bf) (L:List aK),(jv b plain ns L).length=ns.length
 |[],_=>rfl
 |n::ns,L=>by simp[jv,DY b plain ns]
theorem HZ{m:Nat}(hm:m≤20000):∀(ns ss:bf) (s:Cs) (r:al) (an tE:bf),ns.length=ss.length→s.e=0→(∀n∈ns,n≤m)→(∀n∈ss,n≤8388608)→
  s.rest=(ns.zip ss).flatMap (fun p=>aS p.1++aS p.2)++r→∃s',sZ m ns.length s an tE=(an++ns,tE++ss,s')∧nO s s' ((ns.zip ss).flatMap fun p=>aS p.1++aS p.2)
 |[],[],s,r,an,tE,_,h0,_,_,_=>⟨s,by simp[sZ],nO.nil h0⟩
 |[],_::_,_,_,_,_,h,_,_,_,_=>by simp at h
 |_::_,[],_,_,_,_,h,_,_,_,_=>by simp at h
 |n::ns,k::ss,s,r,an,tE,hl,h0,h1,h2,hr=>by
  have uZ:s.rest=aS n++(aS k++((ns.zip ss).flatMap (fun p=>aS p.1++aS p.2)++r)):=by rw[hr];simp[bV]
  obtain⟨a1,d1⟩:=Cs.iB (m:=(m:Nat)) h0 (by have:=h1 n ak;omega) aa uZ;have xm:=d1.cH uZ;obtain⟨a2,d2⟩:=Cs.iB (m:=8388608) d1.e1 (by have:=h2 k ak;omega) aa xm;have hr3:=d2.cH xm;obtain⟨s',e1,e2⟩:=HZ hm ns ss _ r (an++[n]) (tE++[k]) vI d2.e1 (fun x hx=>h1 x oa) (fun x hx=>h2 x oa) hr3;refine⟨s',?_,?_⟩
  ·rw[ef,sZ,aw (by simpa using h0),a1,a2,e1];simp[bV]
  ·have:=(d1.trans d2).trans e2;simpa[bV]using this
theorem I7:∀(fs:eH) (r:al),rz (fs.map List.length) (fs.flatten++r)=fs
 |[],_=>rfl
 |f::fs,r=>by
  rw[kA,rz,v_,bV,yf,BI,I7 fs r]
theorem pz{l:bf}{n:Nat}(h:n∈l):n≤l.sum:=by
 induction l with
 |nil=>cases h
 |cons a r ih=>
  rw[IC];rcases fk.1 h with e|e
  ·subst e;omega
  ·have:=ih e;omega
theorem abV(fs:eH):fs.flatten.length=(fs.map List.length).sum:=List.length_flatten
theorem J6{S:Nat}:∀{g l:bf},CW S l g→g.sum=l.length∧∀n∈g,1≤n
 |[],l,h=>by
  have:l=[]:=h;subst this;exact⟨rfl,fun n hn=>by cases hn⟩
 |n::g,l,h=>by
  obtain⟨h1,h2,_,_,h5⟩:=h;obtain⟨i1,i2⟩:=J6 h5;rw[iG]at i1;refine⟨by rw[IC,i1];omega,fun m hm=>?_⟩;rcases fk.1 hm with e|e
  ·subst e;exact h1
  ·exact i2 m e
theorem Cy(o:aR)(b:Bool)(L:List aK):(dR o b L).sum=L.length∧∀n∈dR o b L,1≤n:=by
 have:=J6 (kv o.1.toNat (lens b L))
 rwa [eo]at this
theorem SK(L:List aK):∀(a n:Nat),a+n≤L.length→pF (L.map (·.1)) (lv L) a (((L.drop a).take n).map (norm false))=(L.drop a).take n:=by
 intro a n h;apply pV
 ·simp[pF]
 ·intro i h1 h2;have hi:i<n:=by simp[eS]at h2;omega
  have hl:a+i<L.length:=by omega
  simp only[pF,Ev,GX,Er,List.getElem_drop];have e1:(L.map (·.1)).getD (a+i) 0=L[a+i].1:=by simp[bk,fm hl]
  have e2:(lv L).getD (a+i) 0=L[a+i].2.1:=by simp[lv,bk,fm hl]
  have e3:recAt (((L.drop a).take n).map (norm false)) i=norm false L[a+i]:=by
   unfold recAt;rw[bk,fm oQ];simp
  rw[e1,e2,e3];simp[norm]
theorem IH{S:Nat}(hS:S≤32768){x:ir}{L:List aK}(hx:∀r∈L,r.fits)(plain:Bool)(h1:x.bB=jv false plain x.ns L)(h2:x.times=L.map (·.1))(h3:x.levels=lv L)(hf0:CW S (lens false L) x.ns):
  ∀(f k:Nat),k+f=x.ns.length→(∀M,CW S (lens false (L.drop (x.ns.take k).sum)) (x.ns.drop k)→jv false plain (x.ns.drop k) (L.drop (x.ns.take k).sum)=x.bB.drop k→M=L.take (x.ns.take k).sum→nU x f k M=(L,0))
 |0,k,hk,M,hf,Il,hM=>by
  have:(x.ns.take k)=x.ns:=fL aa;rw[this,(J6 hf0).1,eo,jU]at hM;rw[nU,hM]
 |f+1,k,hk,M,hf,Il,hM=>by
  have Ca:k<x.ns.length:=by omega
  obtain⟨a,ha⟩:=cN ((x.ns.take k).sum);obtain⟨n,hn⟩:=cN (x.ns.getD k 0);rw[←ha]at hf Il hM;have hd:=dx Ca 0;rw[←hn]at hd;rw[hd]at hf Il;obtain⟨f1,f2,f3,f4,f5⟩:=hf;rw[eo,iG]at f2;have It:=oF hS (b:=false) (fun r hr=>hx r (rf hr)) f1 f3;rw[jv]at Il;have hfk:x.bB.getD k []=(jA (dc false ((L.drop a).take n)) plain).1:=by
   have:(x.bB.drop k)[0]? =some (jA (dc false ((L.drop a).take n)) plain).1:=by rw[←Il];rfl
   rw[k_7,ta]at this;rw[bk,this];rfl
  have hbk:=Mh (dc false ((L.drop a).take n)) plain It [];rw[gk]at hbk;have tW:qH false (dc false ((L.drop a).take n))=(((L.drop a).take n).map (norm false),0):=by
   unfold qH;rw[AR _ ((L.drop a).take n) _ [] rfl (by unfold Cs.left;simp only;omega) (fun r hr=>hx r (rf (lX hr))) aaT,nA]
  have xj:lV x k=((L.drop a).take n,0):=by
   unfold lV;rw[hfk,hbk];simp only;rw[tW];simp only;rw[aw ak,aw aa,aw ak,aw (by rw[eK,eS,iG,←hn];omega),h2,h3,←ha,SK L a n aa]
  have wO:(x.ns.take (k+1)).sum=a+n:=by rw[ba Ca 0,vW,←ha,←hn];simp
  rw[nU,xj,aw ak];simp only;refine IH hS hx plain h1 h2 h3 hf0 f (k+1) aa _ ?_ ?_ ?_
  ·rw[wO,←qa,wT];exact f5
  ·have:(x.bB.drop k).tail=x.bB.drop (k+1):=by rw[List.tail_drop]
   rw[←this,←Il,List.tail_cons,wO,qa]
  ·rw[wO,hM,List.take_add]
theorem Hz{o:aR}{L:List aK}(ho:cB 2 (o2 o)=0)(hc:cO L=0)(hx:∀x∈L,x.1<18446744073709551616)(hw:dU L≤1048576)(hlen:(dy o L).length≤8388608):
  ∃x,ei o (dy o L)=(x,0)∧x.ns=dR o false L∧jl x=(L,0):=by
 have fG:nV 2 (o2 o):=by
  unfold cB at ho;rw[ao (.inr (.inl rfl))]at ho;exact bH fun h=>by rw[aw h]at ho;simp at ho
 obtain⟨⟨m1,m2⟩,_,m4,_,_⟩:=fG;obtain⟨m5,m6⟩:=m4 (.inr rfl);have m1:16≤o.1:=m1;have m2:o.1≤32768:=m2;have m5:1≤o.2.2.1:=m5;have m6:o.2.2.1≤64:=m6;have r7:L.length≤20000∧(∀x∈L,x.fits):=by
  unfold cO at hc;have:¬(20000<L.length∨(∃x∈L,uh x)∨1048576<dU L):=fun h=>by rw[ao h]at hc;simp at hc
  refine⟨aa,fun x h=>⟨hx x h,?_,?_⟩⟩
  ·exact ya fun k=>this (.inr (.inl ⟨x,h,.inl k⟩))
  ·exact ya fun k=>this (.inr (.inl ⟨x,h,.inr k⟩))
 obtain⟨hl,hL⟩:=r7;obtain⟨sz,i_⟩:∃sz:Nat,o.2.2.1=sz:=⟨o.2.2.1.toNat,aa⟩
 obtain⟨P5,Rp⟩:=Cy o false L;have GK:=kv o.1.toNat (lens false L);have GL:(dR o false L).length≤L.length:=by unfold dR;have:=mV o.1.toNat (lens false L);rwa [eo]at this
 obtain⟨fl,l0⟩:=cN ((eQ o L).flatten);obtain⟨cs,tR⟩:=cN (oT L);obtain⟨ix,hix⟩:=cN (oV o L);obtain⟨dr,Yn⟩:=cN (p7 o L);obtain⟨b,hb⟩:=cN (dy o L);have zO:b=fl++(cs++(ix++(dr++fF dr.length 4))):=by rw[hb,l0,tR,hix,Yn];rfl
 have c_:b.length=fl.length+cs.length+ix.length+dr.length+4:=by rw[zO];simp;omega
 rw[←hb]at hlen;have ap9:fl.length=((eQ o L).map List.length).sum:=by rw[l0,abV]
 have hk:ftK b=dr.length:=by
  have e:b.drop (b.length-4)=fF dr.length 4:=by
   have:b=(fl++(cs++(ix++dr)))++fF dr.length 4:=by rw[zO];simp[bV]
   rw[this];exact qb bR
  unfold ftK Cs.fixed;rw[e,aw aa];have ht:Cs.take ⟨fF dr.length 4,0,0⟩ 4=fF dr.length 4:=by
   have:=(Cs.mv (s:=⟨fF dr.length 4,0,0⟩) (t:=fF dr.length 4) (r:=[]) rfl (n:=4) ak aaT).1;exact this
  rw[ht,Ex];exact ja aa
 have hbt:b.take (b.length-4)=(fl++(cs++ix))++dr:=by
  have:b=((fl++(cs++ix))++dr)++fF dr.length 4:=by rw[zO];simp[bV]
  rw[this];exact po bR
 have hft:fZ b=(fl++(cs++ix),xK (dR o false L) ((eQ o L).map List.length) cs.length ix.length,0):=by
  have e1:(b.take (b.length-4)).drop (b.length-4-ftK b)=dr:=by
   rw[hbt,hk];exact qb bR
  have e2:b.take (b.length-4-ftK b)=fl++(cs++ix):=by
   have:b=(fl++(cs++ix))++(dr++fF dr.length 4):=by rw[zO];simp[bV]
   rw[hk]
   conv=>lhs;arg 2;rw[this]
   exact po bR
  have e3:ftD b=(xK (dR o false L) ((eQ o L).map List.length) cs.length ix.length,0):=by
   unfold ftD;rw[e1,Yn,tR,hix];exact ju _
  unfold fZ;rw[aw aa,aw (by rw[hk];omega),e2,e3]
 obtain⟨D,hD⟩:=cN (xK (dR o false L) ((eQ o L).map List.length) cs.length ix.length);have r0:Cs.rest ⟨D,0,0⟩=aS (dR o false L).sum++(aS (dR o false L).length++(((dR o false L).zip ((eQ o L).map List.length)).flatMap (fun p=>aS p.1++aS p.2)++(aS cs.length++aS ix.length))):=by
  unfold Cs.rest;rw[tb,hD];rfl
 obtain⟨n1,d1⟩:=Cs.iB (m:=20000) rfl aa aa r0;have r1:=d1.cH r0;have eR:Cw D=L.length:=by unfold Cw;rw[n1,P5]
 obtain⟨n2,d2⟩:=Cs.iB (m:=(L.length:Nat)) d1.e1 aa aa r1;have r2:=d2.cH r1;have eB:Lu D=(dR o false L).length:=by unfold Lu dr1;rw[eR];exact n2
 have e2:dr2 D=(Cs.bX ⟨D,0,0⟩ 20000).bX (L.length:Nat):=by unfold dr2 dr1;rw[eR]
 obtain⟨s3,h3,d3⟩:=HZ (m:=L.length) hl (dR o false L) ((eQ o L).map List.length) _ _ [] [] (by rw[eK];unfold eQ;rw[DY]) d2.e1 (fun n hn=>Xl) (fun n hn=>Xl) r2;have e3:fa D=(dR o false L,(eQ o L).map List.length,s3):=by unfold fa;rw[eR,eB,e2,h3];simp
 have r3:=d3.cH r2;obtain⟨n4,d4⟩:=Cs.iB (x:=cs.length) (m:=8388608) d3.e1 aa aa r3;have r4:=d4.cH r3;obtain⟨n5,d5⟩:=Cs.iB (x:=ix.length) (m:=8388608) d4.e1 aa aa (r:=[]) (by rw[gk];exact r4);have eC:Cu D=cs.length:=by unfold Cu;rw[e3];exact n4
 have e4:Uz D=s3.bX 8388608:=by unfold Uz;rw[e3]
 have eI:drI D=ix.length:=by unfold drI;rw[e4];exact n5
 have e5:(dr5 D).e=0:=by
  unfold dr5;rw[e4];exact Cs.abL d5.e1 (d5.cH (by rw[gk];exact r4))
 have hdE:Gy D (fl++(cs++ix)).length=0:=by
  unfold Gy;rw[e5,aw ak,e3,eR,eC,eI];refine aw fun h=>?_;rcases h with h|h|h
  ·have:=Rp 0 h;omega
  ·exact h P5
  ·apply h;simp only[aY];omega
 have hbx:boX b=cs++ix:=by
  unfold boX qq dT;rw[hft];simp only;rw[←hD,e3];simp only;exact qb ap9
 have hbc:wy b=cs:=by
  unfold wy dT;rw[hbx,hft];simp only;rw[←hD,eC];exact po rfl
 have hbi:vw b=ix:=by
  unfold vw dT;rw[hbx,hft];simp only;rw[←hD,eC];exact qb rfl
 have hcc:aI cs=(kq L,0):=by rw[tR];exact ju _
 have hci:aI ix=(qA o L,0):=by rw[hix];exact ju _
 have RA:nW ((L.length:Nat):Int) (kq L)=(L.map (·.1),lv L,(kq L).length,0):=by
  have:=XC hx hl []
  rwa [gk]at this
 have hio:=Jv hw hl;obtain⟨bn,N,asd,ahn,hN,hRT,hTl,hNI⟩:=Ed hio;have hbn:bn=L.length:=by omega
 subst hbn;have hNe:N=mR L:=by
  have:l9 N=l9 (mR L):=by rw[←hN];rfl
  exact zi this
 subst hNe;have hxe:qA o L=fQ sz (mS L)++(mR L).flatMap (rI L.length):=by
  unfold qA;rw[i_,Iv (T:=mS L) (I:=mR L) aa aa ahn hRT hTl hNI]
 have hir:ey o.2.2.1 ((L.length:Nat):Int) (qA o L)=(mS L,mR L,0):=by
  rw[hxe,i_];exact ac4 (T:=mS L) (I:=mR L) aa aa ahn hRT hTl hNI
 have xX:xE (dR o false L).sum cs=0:=by
  unfold xE;rw[hcc,P5];simp only;rw[RA];simp
 refine⟨⟨dR o false L,(eQ o L).map List.length,cs.length,ix.length,L.map (·.1),lv L,mS L,mR L,eQ o L⟩,?_,rfl,?_⟩
 ·have CA:qq b=fl++(cs++ix):=by unfold qq;rw[hft]
  have PZ:dT b=D:=by unfold dT;rw[hft,hD]
  rw[←hb];unfold ei;rw[ho,aw ak,hft];simp only;rw[aw ak,CA,PZ,hdE,aw ak,e3,hbc,hbi];simp only;rw[xX,aw ak,hci];simp only;rw[aw ak,P5,hir];simp only;rw[aw ak,eC,eI,hcc];simp only;rw[RA,l0,I7]
 ·have Nz:nU ⟨dR o false L,(eQ o L).map List.length,cs.length,ix.length,L.map (·.1),lv L,mS L,mR L,eQ o L⟩ (eQ o L).length 0 []=(L,0):=
   IH (S:=o.1.toNat) aa hL o.2.1 rfl rfl rfl GK (eQ o L).length 0 (by simp only[mq];unfold eQ;rw[DY]) [] (by simp only[z_,List.sum_nil,tb];exact GK) (by simp[eQ]) ak
  unfold jl;simp only;rw[Nz];simp only;rw[aw ak,hc,aw ak,aw ak]
def pQ(a:Nat):Nat:=if a<128 then 2*a else (2*a-256) ^^^ 29
def fj:Nat→Nat→Nat→Nat→Nat
 |0,_,_,out=>out
 |f+1,a,b,out=>if b=0 then out else fj f (pQ a) (b/2) (if b%2=1 then out ^^^ a else out)
def fc(a b:Nat):Nat:=fj 8 a b 0
theorem nR:∀a,a<256→pQ a<256:=by decide+kernel
theorem vp{a b:Nat}(ha:a<256)(hb:b<256):a ^^^ b<256:=vR (n:=8) ha hb
theorem ab6:((List.range 256).all fun a=>(List.range 256).all fun b=>Nat.beq (pQ (a ^^^ b)) (pQ a ^^^ pQ b))=true:=by decide+kernel
theorem UU{a b:Nat}(ha:a<256)(hb:b<256):pQ (a ^^^ b)=pQ a ^^^ pQ b:=by
 have h:=x8.1 (x8.1 ab6 a (kz.2 ha)) b (kz.2 hb);exact ri h
theorem atp(a b c d:Nat):(a ^^^ b) ^^^ (c ^^^ d)=(a ^^^ c) ^^^ (b ^^^ d):=by
 rw[Nat.xor_assoc,Nat.xor_assoc];congr 1;rw[←Nat.xor_assoc,Nat.xor_comm b c,Nat.xor_assoc]
theorem yu:∀(f a a' b o o':Nat),a<256→a'<256→fj f (a ^^^ a') b (o ^^^ o')=fj f a b o ^^^ fj f a' b o'
 |0,a,a',b,o,o',_,_=>rfl
 |f+1,a,a',b,o,o',ha,zN=>by
  unfold fj;by_cases hb:b=0
  ·rw[ao hb,ao hb,ao hb]
  ·rw[aw hb,aw hb,aw hb,UU ha zN];by_cases h1:b%2=1
   ·rw[ao h1,ao h1,ao h1,atp];exact yu f _ _ _ _ _ (nR a ha) (nR a' zN)
   ·rw[aw h1,aw h1,aw h1];exact yu f _ _ _ _ _ (nR a ha) (nR a' zN)
theorem KG:∀(f a b o:Nat),a<256→o<256→fj f a b o<256
 |0,a,b,o,_,ho=>ho
 |f+1,a,b,o,ha,ho=>by
  unfold fj;split
  ·exact ho
  ·split
   ·exact KG f _ _ _ (nR a ha) (vp ho ha)
   ·exact KG f _ _ _ (nR a ha) ho
theorem KF:∀(f a b o:Nat),a<256→o<256→fj f (pQ a) b (pQ o)=pQ (fj f a b o)
 |0,a,b,o,_,_=>rfl
 |f+1,a,b,o,ha,ho=>by
  unfold fj;by_cases hb:b=0
  ·rw[ao hb,ao hb]
  ·rw[aw hb,aw hb];by_cases h1:b%2=1
   ·rw[ao h1,ao h1,←UU ho ha];exact KF f _ _ _ (nR a ha) (vp ho ha)
   ·rw[aw h1,aw h1];exact KF f _ _ _ (nR a ha) ho
theorem ah3{a a':Nat}(b:Nat)(ha:a<256)(zN:a'<256):fc (a ^^^ a') b=fc a b ^^^ fc a' b:=yu 8 a a' b 0 0 ha zN
theorem mul_lt{a:Nat}(b:Nat)(ha:a<256):fc a b<256:=KG 8 a b 0 ha aA
theorem aqE{a:Nat}(b:Nat)(ha:a<256):fc (pQ a) b=pQ (fc a b):=KF 8 a b 0 ha aA
theorem akd:∀b,b<256→fc 1 b=b:=by decide+kernel
theorem EL:∀b,b<256→fc 0 b=0:=by decide+kernel
def gfI:Nat→Nat→Nat
 |0,x=>x
 |i+1,x=>pQ (gfI i x)
def gfP(i:Nat):Nat:=gfI i 1
theorem J_{x:Nat}(h:x<256):∀i,gfI i x<256
 |0=>h
 |i+1=>nR _ (J_ h i)
theorem UW(i j x:Nat):gfI (i+j) x=gfI i (gfI j x):=by
 induction i with
 |zero=>rw[mq];rfl
 |succ i ih=>rw[show i+1+j=(i+j)+1 by omega];show pQ _=pQ _;rw[ih]
theorem Oq{b:Nat}(hb:b<256):∀i,fc (gfP i) b=gfI i b
 |0=>akd b hb
 |i+1=>by
  show fc (pQ (gfP i)) b=pQ (gfI i b);rw[aqE b (show gfP i<256 from J_ aA i),Oq hb i]
theorem alA(i:Nat):gfP i<256:=J_ aA i
theorem aaF(i j:Nat):fc (gfP i) (gfP j)=gfP (i+j):=by
 rw[Oq (alA j)];exact(UW i j 1).symm
def aly:Nat→Nat→bf
 |0,_=>[]
 |f+1,x=>x::aly f (pQ x)
theorem Nm:∀(f i x:Nat),x∈aly f (gfP i)→∃k,k<f∧x=gfP (i+k)
 |0,i,x,h=>by cases h
 |f+1,i,x,h=>by
  rcases fk.1 h with h|h
  ·exact⟨0,aa,h⟩
  ·obtain⟨k,hk,e⟩:=Nm f (i+1) x h;exact⟨k+1,aa,by rw[e];congr 1;omega⟩
theorem ahd:((List.range 256).all fun a=>Nat.beq a 0||(aly 255 1).any (Nat.beq a))=true:=by decide+kernel
theorem J'{a:Nat}(ha:a<256)(h0:a≠0):∃i,i<255∧a=gfP i:=by
 have h:=x8.1 ahd a (kz.2 ha);rw[Bool.or_eq_true]at h;rcases h with h|h
 ·exact absurd (ri h) h0
 ·obtain⟨x,hx,e⟩:=List.any_eq_true.1 h;obtain⟨k,hk,e2⟩:=Nm 255 0 x hx;rw[mq]at e2;exact⟨k,hk,(ri e).trans e2⟩
theorem Y_{a b:Nat}(ha:a<256)(hb:b<256):fc a b=fc b a:=by
 have hz:∀x,x<256→fc x 0=0:=by decide+kernel
 by_cases h1:a=0
 ·subst h1;rw[EL b hb,hz b hb]
 ·by_cases h2:b=0
  ·subst h2;rw[EL a ha,hz a ha]
  ·obtain⟨i,_,rfl⟩:=J' ha h1;obtain⟨j,_,rfl⟩:=J' hb h2;rw[aaF,aaF,sL]
theorem Sc{a b c:Nat}(ha:a<256)(hb:b<256)(hc:c<256):fc (fc a b) c=fc a (fc b c):=by
 by_cases h1:a=0
 ·subst h1;rw[EL b hb,EL c hc,EL _ (mul_lt c hb)]
 ·by_cases h2:b=0
  ·subst h2;have hz:∀x,x<256→fc x 0=0:=by decide+kernel
   rw[hz a ha,EL c hc,hz a ha]
  ·obtain⟨i,_,rfl⟩:=J' ha h1;obtain⟨j,_,rfl⟩:=J' hb h2;rw[aaF,Oq hc,Oq hc,Oq (J_ hc j),UW]
theorem Bp{P:Prop}(h:P:=by(simp[hi])):P:=h
theorem sQ:type_of% @UInt8.xor_assoc:= @UInt8.xor_assoc
def gm(a b:UInt8):UInt8:=UInt8.ofNat (fc a.toNat b.toNat)
theorem sp(a:UInt8):a.toNat<256:=lQ a
theorem iA(a b:UInt8):(gm a b).toNat=fc a.toNat b.toNat:=by
 unfold gm;rw[od];exact ja (mul_lt _ (sp a))
theorem nZ{a b:UInt8}(h:a.toNat=b.toNat):a=b:=ra.1 h
theorem iR(a b:UInt8):gm a b=gm b a:=nZ (by rw[iA,iA];exact Y_ (sp a) (sp b))
theorem jD(a b c:UInt8):gm (gm a b) c=gm a (gm b c):=nZ (by rw[iA,iA,iA,iA];exact Sc (sp a) (sp b) (sp c))
theorem jw(a:UInt8):gm 1 a=a:=nZ (by rw[iA];exact akd _ (sp a))
theorem iS(a:UInt8):gm 0 a=0:=nZ (by rw[iA];exact EL _ (sp a))
theorem UZ(a:UInt8):gm a 1=a:=by rw[iR];exact jw a
theorem jE(a:UInt8):gm a 0=0:=by rw[iR];exact iS a
theorem D3(a b c:UInt8):gm (a ^^^ b) c=gm a c ^^^ gm b c:=nZ (by
 rw[iA,UInt8.toNat_xor,UInt8.toNat_xor,iA,iA];exact ah3 _ (sp a) (sp b))
theorem Kc(a b c:UInt8):gm c (a ^^^ b)=gm c a ^^^ gm c b:=by rw[iR,D3,iR a,iR b]
def tO:Nat→Nat→Nat→Nat→Nat
 |0,_,_,out=>out
 |f+1,a,n,out=>if n=0 then out else tO f (fc a a) (n/2) (if n%2=1 then fc out a else out)
def qT(a:Nat):Nat:=if a=0 then 0 else tO 8 a 254 1
theorem X8:((List.range 256).all fun a=>Nat.blt (qT a) 256)=true:=by decide+kernel
theorem ab7{a:Nat}(h:a<256):qT a<256:=by simpa using x8.1 X8 a (kz.2 h)
theorem alz:((List.range 256).all fun a=>Nat.beq a 0||Nat.beq (fc a (qT a)) 1)=true:=by decide+kernel
def kI(a:UInt8):UInt8:=UInt8.ofNat (qT a.toNat)
theorem wF(a:UInt8):(kI a).toNat=qT a.toNat:=by
 unfold kI;rw[od];exact ja (ab7 (sp a))
theorem uX{a:UInt8}(h:a≠0):gm a (kI a)=1:=nZ (by
 rw[iA,wF];have:=x8.1 alz a.toNat (kz.2 (sp a));rw[Bool.or_eq_true]at this;rcases this with h1|h1
 ·exact absurd (nZ (ri h1)) h
 ·exact ri h1)
theorem D1{a:UInt8}(h:a≠0):gm (kI a) a=1:=by rw[iR];exact uX h
theorem uW{a b:UInt8}(ha:a≠0)(h:gm a b=0):b=0:=by
 have:gm (kI a) (gm a b)=b:=by rw[←jD,D1 ha,jw]
 rw[←this,h,jE]
theorem Kb{a:UInt8}(h:a≠0):kI a≠0:=fun k=>by
 have:=uX h;rw[k,jE]at this;exact absurd this aA
theorem iz(a:UInt8):a ^^^ a=0:=UInt8.xor_self
theorem fi(a:UInt8):a ^^^ 0=a:=UInt8.xor_zero
theorem vr(a:UInt8):0 ^^^ a=a:=UInt8.zero_xor
theorem CT{a b:UInt8}(h:a ^^^ b=0):a=b:=by
 have:(a ^^^ b) ^^^ b=a:=by rw[sQ,iz,fi]
 rw[←this,h,vr]
theorem vq(a b c d:UInt8):(a ^^^ b) ^^^ (c ^^^ d)=(a ^^^ c) ^^^ (b ^^^ d):=by
 rw[sQ,sQ];congr 1;rw[←sQ,UInt8.xor_comm b c,sQ]
def xs:Nat→(Nat→UInt8)→UInt8
 |0,_=>0
 |n+1,f=>xs n f ^^^ f n
theorem pL{f g:Nat→UInt8}:∀{n:Nat},(∀i,i<n→f i=g i)→xs n f=xs n g
 |0,_=>rfl
 |n+1,h=>by rw[xs,xs,pL fun i hi=>h i aa,h n aa]
theorem Ll{f:Nat→UInt8}:∀{n:Nat},(∀i,i<n→f i=0)→xs n f=0
 |0,_=>rfl
 |n+1,h=>by rw[xs,Ll fun i hi=>h i aa,h n aa,iz]
theorem Lj(f g:Nat→UInt8):∀n,xs n (fun i=>f i ^^^ g i)=xs n f ^^^ xs n g
 |0=>(iz 0).symm
 |n+1=>by rw[xs,xs,xs,Lj f g n,vq]
theorem F3(c:UInt8)(f:Nat→UInt8):∀n,xs n (fun i=>gm c (f i))=gm c (xs n f)
 |0=>(jE c).symm
 |n+1=>by rw[xs,xs,F3 c f n,Kc]
theorem F4{f:Nat→UInt8}:∀{n:Nat} (k:Nat),k<n→(∀i,i<n→i≠k→f i=0)→xs n f=f k
 |0,k,h,_=>by omega
 |n+1,k,h,hz=>by
  rw[xs];by_cases hk:k=n
  ·subst hk;rw[Ll fun i hi=>hz i aa aa,vr]
  ·rw[F4 k aa fun i hi hik=>hz i aa hik,hz n aa (Ne.symm hk),fi]
def ls:bf→(Nat→UInt8)→UInt8
 |[],_=>0
 |j::J,f=>f j ^^^ ls J f
theorem yo{f g:Nat→UInt8}:∀{J:bf},(∀j,j∈J→f j=g j)→ls J f=ls J g
 |[],_=>rfl
 |j::J,h=>by rw[ls,ls,h j ak,yo fun i hi=>h i Bp]
theorem KC{f:Nat→UInt8}:∀{J:bf},(∀j,j∈J→f j=0)→ls J f=0
 |[],_=>rfl
 |j::J,h=>by rw[ls,h j ak,KC fun i hi=>h i Bp,iz]
theorem RZ(f g:Nat→UInt8):∀J,ls J (fun i=>f i ^^^ g i)=ls J f ^^^ ls J g
 |[]=>(iz 0).symm
 |j::J=>by rw[ls,ls,ls,RZ f g J,vq]
theorem R0(c:UInt8)(f:Nat→UInt8):∀J,ls J (fun i=>gm c (f i))=gm c (ls J f)
 |[]=>(jE c).symm
 |j::J=>by rw[ls,ls,R0 c f J,Kc]
theorem ahU{f:Nat→UInt8}{J K:bf}(h:J.Perm K):ls J f=ls K f:=by
 induction h with
 |nil=>rfl
 |cons x _ ih=>rw[ls,ls,ih]
 |swap x y l=>rw[ls,ls,ls,ls,←sQ,←sQ,UInt8.xor_comm (f y)]
 |trans _ _ h1 h2=>exact h1.trans h2
theorem Bs:∀(n:Nat) (J X:bf) (v x y:Nat→UInt8),J.length=n→n≤X.length→J.Nodup→X.Nodup→
  (∀i j,i∈J→j∈J→y i=y j→i=j)→(∀i j,i∈X→j∈X→x i=x j→i=j)→(∀i j,i∈X→j∈J→x i≠y j)→
  (∀i,i∈X→ls J (fun j=>gm (v j) (kI (x i ^^^ y j)))=0)→∀j,j∈J→v j=0
 |0,J,X,v,x,y,hJ,hX,nJ,nX,iJ,iX,Vf,h,j,hj=>by
  rw[Vs.1 hJ]at hj;cases hj
 |n+1,[],X,v,x,y,hJ,hX,nJ,nX,iJ,iX,Vf,h,j,hj=>by cases hj
 |n+1,j1::J,[],v,x,y,hJ,hX,nJ,nX,iJ,iX,Vf,h,j,hj=>by simp at hX
 |n+1,j1::J,x0::X,v,x,y,hJ,hX,nJ,nX,iJ,iX,Vf,h,j,hj=>by
  have nJ1:=Ep.1 nJ;have nX1:=Ep.1 nX;have ne0:∀i k,i∈x0::X→k∈j1::J→x i ^^^ y k≠0:=fun i k hi hk e=>Vf i k hi hk (CT e);have hd:∀i,i∈x0::X→ls J (fun k=>gm (gm (v k) (y j1 ^^^ y k)) (kI (x i ^^^ y k)))=v j1 ^^^ ls J v:=by
   intro i hi;have h1:=h i hi;rw[ls]at h1;have h2:gm (x i ^^^ y j1) (gm (v j1) (kI (x i ^^^ y j1)) ^^^ ls J fun k=>gm (v k) (kI (x i ^^^ y k)))=0:=by rw[h1,jE]
   rw[Kc,←R0]at h2;have e1:gm (x i ^^^ y j1) (gm (v j1) (kI (x i ^^^ y j1)))=v j1:=by
    rw[iR (v j1),←jD,uX (ne0 i j1 hi ak),jw]
   have e2:ls J (fun k=>gm (x i ^^^ y j1) (gm (v k) (kI (x i ^^^ y k))))=ls J v ^^^ ls J (fun k=>gm (gm (v k) (y j1 ^^^ y k)) (kI (x i ^^^ y k))):=by
    rw[←RZ];refine yo fun k hk=>?_;have e3:x i ^^^ y j1=(x i ^^^ y k) ^^^ (y j1 ^^^ y k):=by rw[vq,iz,fi]
    rw[e3,D3,iR (v k) (kI _),←jD,uX (ne0 i k hi xp),jw,iR (kI _) (v k),←jD,iR (y j1 ^^^ y k) (v k)]
   rw[e1,e2,←sQ]at h2;exact(CT h2).symm
  have key:∀k,k∈J→gm (gm (v k) (y j1 ^^^ y k)) (kI (x x0 ^^^ y k))=0:=by
   refine Bs n J X (fun k=>gm (gm (v k) (y j1 ^^^ y k)) (kI (x x0 ^^^ y k))) x y (by simpa using hJ) (by simpa using hX) nJ1.2 nX1.2 (fun i k hi hk=>iJ i k Bp xp) (fun i k hi hk=>iX i k Bp xp) (fun i k hi hk=>Vf i k Bp xp) ?_;intro i hi;have r8:x i ^^^ x x0≠0:=fun e=>nX1.1 (iX i x0 Bp ak (CT e)▸hi);have h1:=hd i Bp;have h2:=hd x0 ak;have h3:ls J (fun k=>gm (gm (v k) (y j1 ^^^ y k)) (kI (x i ^^^ y k))) ^^^ ls J (fun k=>gm (gm (v k) (y j1 ^^^ y k)) (kI (x x0 ^^^ y k)))=0:=by rw[h1,h2,iz]
   rw[←RZ]at h3;refine uW r8 ?_;rw[←R0,←h3];refine yo fun k hk=>?_;obtain⟨a,ha⟩:=cN (gm (v k) (y j1 ^^^ y k));obtain⟨p,hp⟩:=cN (x i ^^^ y k);obtain⟨q,hq⟩:=cN (x x0 ^^^ y k);have Vb:p≠0:=hp▸ne0 i k Bp xp;have hq0:q≠0:=hq▸ne0 x0 k ak xp;have e3:x i ^^^ x x0=p ^^^ q:=by rw[hp,hq,vq,iz,fi]
   rw[←ha,←hp,←hq,e3,D3];have e4:gm p (gm (gm a (kI q)) (kI p))=gm a (kI q):=by rw[iR (gm a (kI q)),←jD,uX Vb,jw]
   have e5:gm q (gm (gm a (kI q)) (kI p))=gm a (kI p):=by rw[iR a (kI q),jD,←jD,uX hq0,jw]
   rw[e4,e5,UInt8.xor_comm]
  have hz:∀k,k∈J→v k=0:=by
   intro k hk;have h1:=key k hk;rw[iR]at h1;have h2:=uW (Kb (ne0 x0 k ak xp)) h1;rw[iR]at h2;refine uW ?_ h2;intro e;exact nJ1.1 (iJ j1 k ak xp (CT e)▸hk)
  rcases fk.1 hj with rfl|hj
  ·have h1:=h x0 ak;rw[ls,KC fun k hk=>by rw[hz k hk,iS],fi,iR]at h1;exact uW (Kb (ne0 x0 j ak ak)) h1
  ·exact hz j hj
end Go.Proofs.YtaodmbolhoafcaaGreatDoor
