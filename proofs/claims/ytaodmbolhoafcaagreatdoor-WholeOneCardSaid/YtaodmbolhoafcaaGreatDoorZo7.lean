/-
  Texts of one proof, joined: part 7. No condition.
-/
import Derived.Test.YtaodmbolhoafcaaGreatDoorZo6
open Go.RowKit Go.Proofs.Tryz
namespace Go.Proofs.YtaodmbolhoafcaaGreatDoor
set_option linter.unusedVariables false
set_option linter.unusedSimpArgs false
set_option maxRecDepth 20000
variable{B:Nat}{w0:World}{F:aQ}{A A1 A2:bj}{n c c1 c2 g:Nat}{B1 B2:bj}{b1 b2:Nat}{bound size:Int}{T:List cj}{LL:List Ls}{s:Cs}{sz:Nat}{o h:List cj}
theorem pv:type_of% @List.take_left':= @List.take_left'
theorem Mf{a b:List Bool}(hl:a.length=b.length)(h:∀i,i<a.length→gX a i=gX b i):a=b:=by
 apply pZ hl;intro i h1 h2;apply toNat_inj;rw[←x6 h1,←x6 h2];exact h i h1
theorem Hu{q:List Bool}{n i:Nat}(h:i<n):gX (q.take n) i=gX q i:=by
 simp[gX,bk,h]
theorem FU(a b:al):gh (a++b)=gh a++gh b:=by
 refine Mf (by simp[dO];omega) (fun i hi=>?_);rw[dO,aY]at hi;rw[yV _ (by rw[aY];exact hi)];by_cases h:i<8*a.length
 ·rw[mU (by rw[dO];exact h),yV _ h];congr 2;rw[bk,bk,z7 aa]
 ·have e:=ko (gh a) (gh b) (i-8*a.length);rw[dO,show 8*a.length+(i-8*a.length)=i by omega]at e;rw[e,yV _ aa,show(i-8*a.length)%8=i%8 by omega,show(i-8*a.length)/8=i/8-a.length by omega];congr 2;rw[bk,bk,sY aa]
theorem afW(l:al){k:Nat}(h:k≤l.length):gh (l.take k)=(gh l).take (8*k):=by
 have e:gh l=gh (l.take k)++gh (l.drop k):=by rw[←FU,jJ]
 rw[e,pv (by rw[dO,eS];omega)]
theorem Nx(m:Nat):hi 0 m m=List.replicate m false:=by
 apply pZ
 ·simp[hi]
 ·intro i h1 h2;simp[hi]
theorem SC(q r:List Bool)(m:Nat):part (q++(List.replicate m false++r)) q.length m=0:=by
 rw[←Nx];exact EU q r 0 m (v_ m)
theorem Jb(q:List Bool)(i m:Nat)(h:i+m≤q.length):q.take (i+m)=q.take i++hi (part q i m) m m:=by
 refine Mf (by simp[dM];omega) (fun k hk=>?_);rw[eS]at hk;rw[Hu aa];by_cases fN:k<i
 ·rw[mU nx,Hu fN]
 ·have e:=ko (q.take i) (hi (part q i m) m m) (k-i);rw[eS,zb aa,show i+(k-i)=k by omega]at e;rw[e,acX _ _ aa];have e2:=pH q i (k-i+1) (m-1-(k-i));rw[show k-i+1+(m-1-(k-i))=m by omega]at e2;rw[e2,part,show i+(k-i)=k by omega];have:=rT q k;omega
theorem WR(q:List Bool):∀m pos,q.length-pos≤m→Z q pos<q.length→q.take (Z q pos+1)=q.take pos++un (Z q pos-pos)
 |0,pos,h,hz=>absurd hz (by rw[Xi aa];omega)
 |m+1,pos,h,hz=>by
  by_cases hp:pos<q.length
  ·by_cases hb:gX q pos=1
   ·rw[agh hb hp,nE,ba hp false];have:q.getD pos false=true:=by
     unfold gX at hb;cases h:q.getD pos false
     ·rw[h]at hb;simp at hb
     ·rfl
    rw[this];rfl
   ·have hs:=Lo hb hp;rw[hs]at hz⊢;have wN:pos+1≤Z q (pos+1):=an7 _ _ _;rw[WR q m (pos+1) aa hz,ba hp false];have:q.getD pos false=false:=by
     unfold gX at hb;cases h:q.getD pos false
     ·rfl
     ·rw[h]at hb;simp at hb
    rw[this,show Z q (pos+1)-pos=(Z q (pos+1)-(pos+1))+1 by omega];simp[un,zU]
  ·exact absurd hz (by rw[Xi aa];omega)
def up(bound:Nat):Int→bf→Prop
 |_,[]=>True
 |was,x::r=>was<x∧x<bound∧up bound (x:Int) r
theorem akY{bound:Nat}:∀(xs:bf) (was:Int),(∀i,i<xs.length→xs.getD i 0<bound∧(0<i→xs.getD (i-1) 0<xs.getD i 0))→(0<xs.length→was<xs.getD 0 0)→up bound was xs
 |[],_,_,_=>trivial
 |x::r,was,h,h0=>by
  refine⟨h0 ak,(h 0 ak).1,akY r x (fun i hi=>?_) (fun hr=>?_)⟩
  ·have:=h (i+1) bR;refine⟨this.1,fun hp=>?_⟩;have h2:=this.2 aa;rw[wh]at h2;obtain⟨j,rfl⟩:∃j,i=j+1:=⟨i-1,aa⟩
   exact h2
  ·have:=(h 1 bR).2 aa;exact Int.ofNat_lt.2 this
theorem afX{bound:Nat}:∀(xs:bf) (was:Int),up bound was xs→(∀i,i<xs.length→xs.getD i 0<bound∧(0<i→xs.getD (i-1) 0<xs.getD i 0))∧(0<xs.length→was<xs.getD 0 0)
 |[],_,_=>⟨fun i hi=>absurd hi ak,fun h=>absurd h ak⟩
 |x::r,was,⟨h1,h2,h3⟩=>by
  obtain⟨a,b⟩:=afX r x h3;refine⟨fun i hi=>?_,fun _=>h1⟩;cases i with
  |zero=>exact⟨h2,fun h=>absurd h aa⟩
  |succ j=>
   have hj:j<r.length:=by simp at hi;omega
   refine⟨(a j hj).1,fun _=>?_⟩;cases j with
   |zero=>exact Int.ofNat_lt.1 (b hj)
   |succ k=>exact(a (k+1) hj).2 aa
theorem VK{p w:Nat}(hp:p=2^w):∀(xs:bf) (pre R:List Bool) (i:Nat),i<xs.length→part (pre++(BL p w xs++R)) (pre.length+i*w) w=xs.getD i 0%p
 |[],_,_,_,h=>absurd h ak
 |x::r,pre,R,0,h=>by
  have:=EU pre (BL p w r++R) (x%p) w (by rw[hp];exact sX _ (v_ w));rw[se,tk];simpa[BL,bV]using this
 |x::r,pre,R,i+1,h=>by
  have:=VK hp r (pre++hi (x%p) w w) R i (by simp at h;omega);rw[aY,dM,NM,show w+i*w=(i+1)*w by rw[j8];omega]at this;simpa[BL,bV]using this
theorem adz{p w:Nat}(hp:p=2^w)(xs:bf)(R:List Bool):zc (BL p w xs++R) w xs.length=xs.map (· %p):=by
 apply pZ
 ·simp[zc]
 ·intro i h1 h2;have h3:i<xs.length:=by simpa[zc]using h1
  have:=VK hp xs [] R i h3;rw[nG,sd,mw]at this;simp[zc,this,bk,h3]
theorem Ww{bound p w:Nat}(hp:p=2^w)(q R:List Bool):∀(xs:bf) (pre:List Bool) (high:Nat) (was:Int) (out:bf),q=pre++(A_ p high xs++R)→up bound was xs→high=was.toNat/p→
  KU bound p q (xs.map (· %p)) pre.length high was out=(out++xs,(pre++A_ p high xs).length,0)
 |[],pre,high,was,out,hq,hu,hh=>by simp[KU,A_]
 |x::r,pre,high,was,out,hq,⟨u1,u2,u3⟩,hh=>by
  have Vl:0<p:=by rw[hp];exact v_ w
  have hle:high≤x/p:=by rw[hh];exact Nat.div_le_div_right aa
  have hq':q=pre++(un (x/p-high)++(A_ p (x/p) r++R)):=by rw[hq];simp[A_,bV]
  have hz:Z q pre.length=pre.length+(x/p-high):=by rw[hq'];exact atF pre _ _
  have fN:Z q pre.length<q.length:=by rw[hz,hq'];simp[oQ];omega
  have e1:high+(Z q pre.length-pre.length)=x/p:=by rw[hz];omega
  have e2:x/p*p+x%p=x:=by rw[nL];exact Nat.div_add_mod x p
  have ih:=Ww hp q R r (pre++un (x/p-high)) (x/p) (x:Int) (out++[x]) (by rw[hq',bV]) u3 ak;rw[kC,KU,aw aa,e1,e2,aw aa,aw aa];rw[show Z q pre.length+1=(pre++un (x/p-high)).length by rw[aY,oQ,hz];omega,ih];simp[A_,bV]
theorem Q0{bound:Nat}{xs:bf}(hR:kX bound xs)(more:al)(hn:0<xs.length):
  jB bound xs.length (packed (Lx (2^wid bound xs.length) (wid bound xs.length) xs)++more)=(xs,(packed (Lx (2^wid bound xs.length) (wid bound xs.length) xs)).length,0):=by
 obtain⟨w,hw⟩:=cK (wid bound xs.length);obtain⟨p,hp⟩:=cK (2^w);obtain⟨Q,hQ⟩:=cK (Lx p w xs);obtain⟨b,hb⟩:=cK (packed Q++more);rw[←hw,←hp,←hQ,←hb];have hu:gh b=Q++(pad Q++gh more):=by rw[hb,FU,qK,bV]
 have RI:gh b=BL p w xs++(A_ p 0 xs++(pad Q++gh more)):=by
  have e:Q=BL p w xs++A_ p 0 xs:=hQ;rw[hu];generalize pad Q=P;rw[e,bV]
 have P_:zc (gh b) w xs.length=xs.map (· %p):=by rw[RI];exact adz hp xs _
 have hF:B7 bound xs.length b=(xs,Q.length,0):=by
  unfold B7;rw[←hw,←hp,P_];have:=Ww (bound:=bound) hp (gh b) (pad Q++gh more) xs (BL p w xs) 0 (-1) [] RI (akY xs (-1) hR (fun _=>aa)) ak;rw[m9]at this;rw[this,nG,hQ,Lx]
 have mN:=w4 Q;have za:=dO b;have y':=dO more;have de:b.length=(Q.length+7)/8+more.length:=by rw[hb,aY,dJ]
 have hr:kZ bound xs.length b=(pad Q).length:=by
  unfold kZ;rw[hF];simp only;omega
 have hlen:(BL p w xs).length≤(gh b).length:=by rw[RI,aY];omega
 rw[m9]at hlen;unfold jB;rw[←hw,aw aa,hr,hF];have hz:=SC Q (gh more) (pad Q).length;rw[show List.replicate (pad Q).length false=pad Q by simp[pad],←hu]at hz;rw[aw ak,aw (by simp only[hz];simp)];rw[dJ];simp only;congr 2;omega
theorem aeM{bound p w:Nat}(hp:p=2^w)(q:List Bool):∀(ls:bf) (pos high:Nat) (was:Int) (out:bf),(∀x∈ls,x<p)→pos≤q.length→(KU bound p q ls pos high was out).2.2=0→
  ∃ys,(KU bound p q ls pos high was out).1=out++ys∧ls=ys.map (· %p)∧up bound was ys∧(KU bound p q ls pos high was out).2.1≤q.length∧q.take (KU bound p q ls pos high was out).2.1=q.take pos++A_ p high ys
 |[],pos,high,was,out,hl,tZ,h=>⟨[],by simp[KU],rfl,trivial,by simpa[KU]using tZ,by simp[KU,A_]⟩
 |x::r,pos,high,was,out,hl,tZ,h=>by
  have hx:=hl x ak;have Vl:0<p:=by omega
  by_cases h1:Z q pos<q.length
  ·obtain⟨y,hy⟩:=cK ((high+(Z q pos-pos))*p+x);have hyd:y/p=high+(Z q pos-pos):=by rw[hy,nL,Nat.mul_add_div Vl,BB hx,tk]
   have hym:y%p=x:=by rw[hy,nL,Nat.mul_add_mod,i_ hx]
   rw[KU,aw aa,←hy]at h⊢;by_cases h2:(y:Int)≤was
   ·rw[ao h2]at h;simp at h
   ·by_cases h3:bound≤y
    ·rw[aw h2,ao h3]at h;simp at h
    ·rw[aw h2,aw h3]at h⊢;obtain⟨ys,e1,e2,e3,e4,e5⟩:=aeM hp q r (Z q pos+1) (high+(Z q pos-pos)) y (out++[y]) (fun z hz=>hl z vP) aa h;refine⟨y::ys,by rw[e1];simp,by rw[kC,hym,←e2],⟨aa,aa,e3⟩,e4,?_⟩;rw[e5,WR q _ pos (gi _) h1,A_,hyd,show high+(Z q pos-pos)-high=Z q pos-pos by omega,bV]
  ·rw[KU,ao h1]at h;simp at h
theorem Oh(q:List Bool)(w:Nat):∀n,n*w≤q.length→q.take (n*w)=(zc q w n).flatMap fun x=>hi x w w
 |0,_=>by simp[zc]
 |n+1,h=>by
  rw[j8]at h⊢;rw[Jb q _ _ h,Oh q w n aa,Og,uf];simp
theorem X5{bound n:Nat}{b:al}(h:(jB bound n b).2.2=0):
  (jB bound n b).1.length=n∧kX bound (jB bound n b).1∧packed (Lx (2^wid bound n) (wid bound n) (jB bound n b).1)=b.take (jB bound n b).2.1:=by
 obtain⟨w,hw⟩:=cK (wid bound n);obtain⟨p,hp⟩:=cK (2^w);rw[←hw,←hp];by_cases h1:(gh b).length<n*w
 ·rw[DL (by rw[←hw];exact h1)]at h;simp at h
 ·have Rc:¬(gh b).length<n*wid bound n:=by rw[←hw];exact h1
  by_cases h2:(B7 bound n b).2.2=0
  ·by_cases h3:part (gh b) (B7 bound n b).2.1 (kZ bound n b)=0
   ·rw[MU Rc oS (by simpa using h3)];have hF:B7 bound n b=KU bound p (gh b) (zc (gh b) w n) (n*w) 0 (-1) []:=by unfold B7;rw[←hw,←hp]
    have fN:∀x∈zc (gh b) w n,x<p:=by
     intro x hx;obtain⟨i,_,rfl⟩:=pQ.1 hx;rw[hp];exact qq _ _ _
    obtain⟨ys,e1,e2,e3,e4,e5⟩:=aeM (bound:=bound) hp (gh b) (zc (gh b) w n) (n*w) 0 (-1) [] fN aa (by rw[←hF];exact h2);rw[←hF]at e1 e4 e5;rw[nG]at e1;have hyl:ys.length=n:=by
     have:=dB List.length e2;rw[sg,eK]at this;exact this.symm
    have hQ:Lx p w ys=(gh b).take (B7 bound n b).2.1:=by
     rw[e5,Oh _ _ _ aa,e2,Lx,BL,List.flatMap_map]
    obtain⟨pos,tZ⟩:=cK ((B7 bound n b).2.1);have NF:kZ bound n b=((gh b).length-pos)%8:=by unfold kZ;rw[tZ]
    rw[←tZ]at e4 hQ h3;rw[←tZ,e1];have za:=dO b;refine⟨hyl,(afX ys _ e3).1,?_⟩;simp only;obtain⟨K,hK⟩:∃K,pos+kZ bound n b=8*K:=⟨(pos+kZ bound n b)/8,aa⟩
    rw[hK,show b.length-((gh b).length-8*K)/8=K by omega];have hKl:K≤b.length:=by omega
    have hQl:(Lx p w ys).length=pos:=by rw[hQ,eS];omega
    have ez:gh (b.take K)=Lx p w ys++List.replicate (kZ bound n b) false:=by
     rw[afW b hKl,←hK,Jb _ _ _ aa,h3,Nx,hQ]
    have ep:pad (Lx p w ys)=List.replicate (kZ bound n b) false:=by
     unfold pad;rw[hQl];congr 1;omega
    rw[←pN (packed (Lx p w ys)),qK,ep,←ez,pN]
   ·rw[UM Rc oS (by simpa using h3)]at h;simp at h
  ·rw[UL Rc h2]at h;exact absurd h h2
theorem VD:type_of% @List.length_eq_zero_iff:= @List.length_eq_zero_iff
theorem X4{bound:Nat}{xs:bf}(hR:kX bound xs)(hb:bound≤20000)(more:al):iI (bound:Int) (rM bound xs++more)=(xs,(rM bound xs).length,0):=by
 have hlen:=hR.len;obtain⟨tl,Ce⟩:=cK ((if xs.length=0 then [] else packed (Lx (2^wid bound xs.length) (wid bound xs.length) xs)));have hB:rM bound xs=aS xs.length++tl:=by rw[rM,←Ce]
 obtain⟨b,hbb⟩:=cK (aS xs.length++(tl++more));have zN:rM bound xs++more=b:=by rw[hB,hbb,bV]
 have hs:cO b=(xs.length,(aS xs.length).length,0):=by rw[hbb];exact sq _ aa _
 have hl:eu b (bound:Int)=(xs.length,(aS xs.length).length,0):=by
  unfold eu;rw[hs,aw ak,aw cY]
 have hC:ta (bound:Int) b=⟨b,(aS xs.length).length,0⟩:=by
  unfold ta Cs.bW Cs.rest;simp only[tp];rw[hl];simp[Cs.ew]
 have hN:Cj (bound:Int) b=xs.length:=by
  unfold Cj Cs.int Cs.rest;simp only[tp];rw[hl];simp
 rw[zN];by_cases h0:xs.length=0
 ·rw[J0 aa (by rw[hC];simp) (by rw[hN];exact h0),hC,VD.1 h0];rw[ao h0]at Ce;have:rM bound []=aS 0++[]:=by simp[rM]
  rw[this];simp
 ·have Yt:Gg (bound:Int) b=(xs,tl.length,0):=by
   unfold Gg;rw[hN,hC];simp only[nH];rw[aw h0]at Ce;rw[show b.drop (aS xs.length).length=tl++more by rw[hbb];exact qi rfl,Ce];exact Q0 hR more aa
  rw[QZ aa (by rw[hC];simp) (by rw[hN];exact h0) (by rw[Yt];simp),Yt,hC,hB];simp
theorem MT{bound:Int}{b:al}(P4:bound≤9223372036854775807)(h:(iI bound b).2.2=0):
  ∃bn:Nat,bound=(bn:Int)∧bn≤20000∧kX bn (iI bound b).1∧rM bn (iI bound b).1=b.take (iI bound b).2.1∧(iI bound b).2.1≤b.length:=by
 by_cases h1:bound<0∨20000<bound
 ·rw[DJ h1]at h;simp at h
 ·obtain⟨bn,rfl⟩:=gJ (show 0≤bound by omega);refine⟨bn,rfl,aa,?_⟩;by_cases h2:(ta bn b).e=0
  ·have hl:(eu b (bn:Int)).2.2=0:=by
    unfold ta Cs.bW Cs.rest at h2;simp only[tp]at h2;by_cases hh:(eu b (bn:Int)).2.2=0
    ·exact hh
    ·simp[Cs.ew,hh]at h2
   have hsc:(cO b).2.2=0∧eu b (bn:Int)=((cO b).1,(cO b).2.1,0):=by
    unfold eu at hl⊢;split at hl
    ·rename_i hh;exact absurd hl hh
    ·rename_i hh;split at hl
     ·simp at hl
     ·rename_i h3;rw[aw hh,aw h3];exact⟨by simpa using hh,rfl⟩
   have al9:=vn hsc.1;have hle:=(fg b).2.1;have hC:ta (bn:Int) b=⟨b,(cO b).2.1,0⟩:=by
    unfold ta Cs.bW Cs.rest;simp only[tp];rw[hsc.2];simp[Cs.ew]
   have hN:Cj (bn:Int) b=(cO b).1:=by
    unfold Cj Cs.int Cs.rest;simp only[tp];rw[hsc.2];simp
   by_cases h3:Cj bn b=0
   ·rw[J0 h1 oS h3,hC];refine⟨fun i hi=>absurd hi ak,?_,hle⟩;rw[hN]at h3;rw[h3]at al9;simp only;rw[←al9];simp[rM]
   ·by_cases h4:(Gg bn b).2.2=0
    ·rw[QZ h1 oS h3 (by simpa using h4)];have hR:Gg bn b=jB bn (cO b).1 (b.drop (cO b).2.1):=by unfold Gg;rw[hN,hC,nH]
     rw[hR]at h4;obtain⟨e1,e2,e3⟩:=X5 h4;have e4:=H7 bn (cO b).1 (b.drop (cO b).2.1);rw[iG]at e4;rw[hN]at h3;simp only;rw[hC,hR];refine⟨e2,?_,cY⟩;rw[rM,e1,aw h3,e3,al9];simp only;rw[List.take_add]
    ·rw[abS h1 oS h3 (by simpa using h4)]at h;exact absurd h h4
  ·rw[DK h1 h2]at h;exact absurd h h2
theorem UJ{bound:Nat}{xs:bf}(h:kX bound xs)(hb:bound≤20000):(rM bound xs).length≤50011:=by
 have h1:=h.len;have h2:=M3 (n:=xs.length) aa;have h3:=UK (p:=2^wid bound xs.length) (w:=wid bound xs.length) h hb (xf hb);unfold rM;rw[aY];split
 ·simp only[sd];omega
 ·rw[dJ];omega
theorem kX.le{bound:Nat}{xs:bf}(h:kX bound xs)(hb:bound≤20000):∀i,i<xs.length→xs.getD i 0≤1000000:=fun i hi=>by have:=(h i hi).1;omega
theorem alf{P:Prop}(h:P:=by(rintro(q|q|q);omega;omega;exact q h)):P:=h
theorem aom{P:Prop}(h:P:=by(first|exact .inl (by assumption)|exact⟨fun z=>.inr z,fun q=>q.elim (fun z=>absurd z (by assumption)) (fun z=>z)⟩|omega)):P:=h
theorem Bk{P:Prop}(h:P:=by(simp[OL];omega)):P:=h
theorem jb:type_of% @List.mem_map_of_mem:= @List.mem_map_of_mem
def x'(bound:Int)(T:List cj)(I:List (List Int)):Prop:=(0≤bound∧bound≤20000)∧T.length=I.length∧kY T∧∀x∈I,x≠[]∧Hh bound x
instance (bound:Int)(T:List cj)(I:List (List Int)):Decidable (x' bound T I):=inferInstanceAs (Decidable (_∧_∧_∧_))
def lsB(bound:Int)(I:List (List Int)):al:=I.flatMap fun x=>(PW bound x).1
def Ko(sz:Nat)(bound:Int)(T:List cj)(I:List (List Int)):al:=fQ sz T++lsB bound I
def qG(size bound:Int)(T:List cj)(I:List (List Int)):al×Int:=if size<1∨64<size∨¬x' bound T I then ([],13) else (Ko size.toNat bound T I,0)
theorem Ei{I:List (List Int)}(h:size<1∨64<size∨¬x' bound T I):qG size bound T I=([],13):=ao h
theorem Kq{sz:Nat}{I:List (List Int)}(h1:1≤sz)(h2:sz≤64)(h:x' bound T I):qG sz bound T I=(Ko sz bound T I,0):=by
 unfold qG;rw[aw alf,nH]
theorem UN{x:List Int}(h0:0≤bound)(h1:bound≤20000):(PW bound x).2=0↔Hh bound x:=by
 constructor
 ·intro h;refine bH fun q=>?_;rw[J1 (.inr (.inr q))]at h;exact absurd h aB
 ·intro h;obtain⟨xs,rfl⟩:=h.adO;obtain⟨b,rfl⟩:=gJ h0;rw[J2 alf]
theorem ahf{x:List Int}(h0:0≤bound)(h1:bound≤20000):(PW bound x).1.length≤50011:=by
 by_cases h:Hh bound x
 ·obtain⟨xs,rfl⟩:=h.adO;obtain⟨b,rfl⟩:=gJ h0;rw[J2 alf];exact UJ ((so b xs).1 h) aa
 ·rw[J1 (.inr (.inr h))];simp
theorem VP(h0:0≤bound)(h1:bound≤20000):∀I:List (List Int),(lsB bound I).length≤I.length*50011
 |[]=>by simp[lsB]
 |x::r=>by
  have:=VP h0 h1 r;have h2:=ahf (x:=x) h0 h1;unfold lsB at*;rw[jI,aY,ef,mL];omega
theorem XX{sz:Nat}(hR:kY T)(h1:1≤sz)(h2:sz≤64):(fQ sz T).length≤4000000000:=by
 have hl:=hR.2;have hB1:=uT (l:=T) (sz:=sz) h2 hR.le (List.range (gR sz T.length));have hH1:=q8 (l:=T) (sz:=sz) h2 hR.le (List.range (gR sz T.length));have hN1:=aT (x:=T.length) aa;have hcN:gR sz T.length≤1048639:=by
  unfold gR;exact jc (ri _ _) aa
 rw[wk]at hB1 hH1;have h3:gR sz T.length*3000≤1048639*3000:=oA _ hcN;have h4:gR sz T.length*10≤1048639*10:=oA _ hcN;simp only[fQ,aY];omega
abbrev kS:=bj×Nat×al
abbrev dq(e:kS):Value:=.slice e.1 e.2.2.length e.2.1
abbrev fq(e:kS):Ch:=.own 5 1 e.1 e.2.2.length e.2.1 (bv e.2.2)
def OL(PB:List kS):eh:=PB.map fun e=>(dq e,e.2.2)
theorem E2(PB:List kS):(OL PB).Co=PB.map dq:=by simp[OL,eh.Co]
theorem CM(PB:List kS):(OL PB).all=(PB.map (·.2.2)).flatten:=by
 unfold OL eh.all;rw[List.flatMap_map,List.flatMap_def]
theorem qv(P:aQ){PB:List kS}{e:kS}:Wk (fq e::(P++(PB.map fq++F))) (P++((PB++[e]).map fq++F)):=by
 refine .dE ?_;rw[ja,bV,←bV,←bV];exact ym.symm
abbrev Gj(A1:bj)(n c1:Nat)(B1:bj)(m b1:Nat):Value:=.agg [.slice A1 n c1,.slice B1 m b1].toArray
theorem aef(hE:(bound<0∨20000<bound)∨¬(T.length:Int)=LL.length):
  a_ B w0 48 [ah size,ah bound,Gj A1 T.length c1 B1 LL.length b1] F (fun r L=>r= .tuple #[.slice none 0 0,ah 13]∧L=F):=by
 refine fw func48 69 [0,1,2] ?_;refine be ?_;refine bh fun g5=>?_;refine bK ?_;refine bU 15 29 [0,1,5] ((bound<0∨20000<bound)∨¬(T.length:Int)=LL.length) ?_ ?_
 ·refine bA ?_;refine aL rfl rfl rfl (fun iF=>?_) (fun iF=>?_)
  ·refine bG ?_;refine aL rfl rfl rfl (fun l0=>?_) (fun l0=>?_)
   ·refine dQ ?_;exact aP oV
   ·refine bK ?_;exact aP vA
  ·refine cZ ?_;exact aP vA
 ·refine be ?_;refine aj (fun r'=>?_) fun r'=>?_
  ·refine bI ?_;refine aq (L':=F) (.skip (.refl _)) ?_;refine aF ?_;exact⟨rfl,rfl⟩
  ·exfalso;exact r' hE
theorem aeg(h1:aK B w0 F 1 (.slice A1 T.length c1) T.length (strs T))(hb0:0≤bound)(qd:bound≤20000)(hl:T.length=LL.length)(hs:T.length≤1000000000)(hE:size<1∨64<size∨¬kY T):
  a_ B w0 48 [ah size,ah bound,Gj A1 T.length c1 B1 LL.length b1] F (fun r L=>r= .tuple #[.slice none 0 0,ah 13]∧L=F):=by
 refine fw func48 69 [0,1,2] ?_;refine be ?_;refine bh fun g5=>?_;refine bK ?_;refine bU 15 29 [0,1,5] ((bound<0∨20000<bound)∨¬(T.length:Int)=LL.length) ?_ ?_
 ·refine bA ?_;refine aL rfl rfl rfl (fun iF=>?_) (fun iF=>?_)
  ·refine bG ?_;refine aL rfl rfl rfl (fun l0=>?_) (fun l0=>?_)
   ·refine dQ ?_;exact aP oV
   ·refine bK ?_;exact aP vA
  ·refine cZ ?_;exact aP vA
 ·refine be ?_;refine dm fun r'=>?_;refine bK ?_;refine ay rfl (QY aA aa hE) fun wv xm=>?_;refine dQ ?_;refine aj (fun CA=>?_) fun CA=>?_
  ·refine bO ?_;refine aq (L':=F) (.skip (.skip (.refl _))) ?_;refine aF ?_;exact⟨rfl,rfl⟩
  ·exfalso;exact CA aB
theorem adf{k:Nat}(hk:k<LL.length):(fT LL).take (k+1)=(fT LL).take k++[(LL.getD k re).2.2]:=by
 rw[sW,fT,jq,fm hk];simp[List.getD,fm hk]
theorem adg{x:List Int}(h:x∈fT LL):∃i,i<LL.length∧(LL.getD i re).2.2=x:=by
 obtain⟨e,he,rfl⟩:=pQ.1 h;obtain⟨i,hi,rfl⟩:=j0 he;exact⟨i,hi,by simp[List.getD,fm hi]⟩
theorem aeh{sz:Nat}(h1:aK B w0 F 1 (.slice A1 T.length c1) T.length (strs T))(hL:aK B w0 F 1 (.slice B1 LL.length b1) LL.length (LL.map zP))(hI:ma B w0 F LL)(wS:∀e∈LL,e.2.2.length≤9000000000000000000)(hb0:0≤bound)(qd:bound≤20000)(hl:T.length=LL.length)(hR:kY T)(Kn:1≤sz)(vG:sz≤64):
  a_ B w0 48 [ah sz,ah bound,Gj A1 T.length c1 B1 LL.length b1] F (fun r L=>∃A' c',r= .tuple #[.slice A' (qG sz bound T (fT LL)).1.length c',ah (qG sz bound T (fT LL)).2]∧L= .own 5 1 A' (qG sz bound T (fT LL)).1.length c' (bv (qG sz bound T (fT LL)).1)::F):=by
 have hTl:=hR.2;have hdl:=XX hR Kn vG;have wR:=VP hb0 qd (fT LL);have hil:(fT LL).length=LL.length:=by simp[fT]
 refine dL.xk h1 fun mm _=>?_;refine fw func48 69 [0,1,2] ?_;refine be ?_;refine bh fun g5=>?_;refine bK ?_;refine bU 15 29 [0,1,5] ((bound<0∨20000<bound)∨¬(T.length:Int)=LL.length) ?_ ?_
 ·refine bA ?_;refine aL rfl rfl rfl (fun iF=>?_) (fun iF=>?_)
  ·refine bG ?_;refine aL rfl rfl rfl (fun l0=>?_) (fun l0=>?_)
   ·refine dQ ?_;exact aP oV
   ·refine bK ?_;exact aP vA
  ·refine cZ ?_;exact aP vA
 ·refine be ?_;refine dm fun r'=>?_;refine bK ?_;refine ay rfl (X3 aA mm Kn vG hR) fun wv xm=>?_;refine dQ ?_;refine aj (fun CA=>?_) fun CA=>?_
  ·exfalso;exact CA rfl
  ·refine bG ?_;refine cC (aG fE [_] rfl rfl cw aa aa) fun TQ=>?_;refine bB ?_;refine ve [1,10,43,44,45] ?_;refine be ?_;refine aE (fun zf zL zm=>∃(k:Nat) (PB:List kS) (wu:bj) (F8:Nat),(k≤LL.length∧PB.map (·.2.2)=fQ sz T::((fT LL).take k).map (fun x=>(PW bound x).1)∧PB.length=k+1∧(∀i,i<k→(LL.getD i re).2.2≠[]∧Hh bound (LL.getD i re).2.2))∧LL.length-k=zm∧Sub zf [(1,ah bound),(10,.slice wu PB.length F8),(43,.slice B1 LL.length b1),(44,ah LL.length),(45,ah k)]∧Wk zL (.own 27 1 wu PB.length F8 (PB.map dq):: .bE g5 90 [.slice A1 T.length c1,.slice B1 LL.length b1]::(PB.map fq++F))) _ ⟨0,[(wv,xm,fQ sz T)],TQ,1,⟨bS _,rfl,rfl,fun i h=>absurd h aa⟩,rfl,bp,.cons (.swap (.refl _))⟩ ?_;rintro _ _ _ ⟨k,PB,wu,F8,⟨hk,hPB,D9,mJ⟩,rfl,hs,hp⟩;refine aU hs hp ?_;clear hs hp;refine bz ?_;refine aj (fun h46=>?_) fun h46=>?_
   ·have B_:k<LL.length:=by omega
    have hie:=(hI.get B_).mono (gx (PB.map fq) F);have hLe:=hL.mono (gx (PB.map fq) F);have Qc:=wS _ (bg B_ re);have ua:=adf B_;have pW:(LL.getD k re).2.2∈fT LL:=jb (bg B_ re);obtain⟨x,hx⟩:=cK ((LL.getD k re).2.2);have hig:=ams B_;obtain⟨eA,ec,he⟩:∃eA ec,LL.getD k re=(eA,ec,x):=⟨_,_,by rw[hx]⟩
    rw[he]at hie Qc ua pW hig;refine bK ?_;refine ab (au ag rfl aA aa hig) rfl ?_;refine bK ?_;refine ay rfl (X8 (ids:=x) aA Qc) fun A52 c52=>?_;refine bB ?_;refine bU 7 61 [1,10,13,43,44,45] (¬(PW bound x).2=0∨(x.length:Int)=0) ?_ ?_
    ·refine bA ?_;refine aL rfl rfl rfl (fun h57=>?_) (fun h57=>?_)
     ·refine bz ?_;exact aP (by exact dN aom)
     ·refine bA ?_;exact aP (by exact ej aom)
    ·refine be ?_;refine aj (fun h61=>?_) fun h61=>?_
     ·have ND:¬x' bound T (fT LL):=fun q=>by
       obtain⟨h2,h3⟩:=q.2.2.2 x pW;rcases h61 with h|h
       ·exact h ((UN hb0 qd).2 h3)
       ·exact h2 (mr aa)
      refine dc ?_;rw[Ei (.inr (.inr ND))];refine aD 5 1 none ?_;refine aq (L':=.own 5 1 none 0 0 []::F) (.cons (.skip (.skip (.skip (vv (.refl _) _))))) ?_;refine aF ?_;exact⟨none,0,rfl,rfl⟩
     ·have hxr:Hh bound x:=(UN hb0 qd).1 (jG.1 fun q=>h61 (.inl q));have hxn:x≠[]:=fun q=>h61 (.inr (by rw[q];rfl));refine bG ?_;refine dF fE rfl rfl rfl rfl rfl (fun _=>rfl) aV aa aa ?_;intro _ A65 c65;refine bI ?_;have Eb:(PB++[(A52,c52,(PW bound x).1)]).length=PB.length+1:=by simp
      refine av ⟨_,aa,k+1,PB++[(A52,c52,(PW bound x).1)],A65,c65,⟨aa,by rw[ja,hPB,ua,ja];rfl,aa,fun i hi=>by
 rcases uh i k with h|h
 ·exact mJ i h
 ·rw[show i=k by omega,he];exact⟨hxn,hxr⟩⟩,rfl,bp,.swap (ax Eb.symm ak (qv (PB:=PB) (e:=(A52,c52,(PW bound x).1)) [_]))⟩
   ·obtain rfl:k=LL.length:=by omega
    have lj:x' bound T (fT LL):=⟨⟨hb0,qd⟩,aa,hR,fun x hx=>by
     obtain⟨i,hi,rfl⟩:=adg hx;exact mJ i hi⟩
    have aqd:(OL PB).all=Ko sz bound T (fT LL):=by
     rw[CM,hPB,fA aa];simp[Ko,lsB,List.flatMap_def]
    have de:(Ko sz bound T (fT LL)).length≤1000000000000:=by
     have:LL.length*50011≤1048576*50011:=oA _ aa;unfold Ko;rw[aY];rw[hil]at wR;omega
    rw[Kq Kn vG lj];refine bI ?_;refine ay rfl (xu (P:=OL PB) (by rw[E2];exact aA) (fun y hy=>by obtain⟨e,he,rfl⟩:=pQ.1 hy;exact aK.own (lr _ (lr _ (j9 _ (jb he))))) (by simp[OL]) aqd aa Bk) fun A68 c68=>?_;refine bG ?_;refine aq (L':=.own 5 1 A68 (Ko sz bound T (fT LL)).length c68 (bv (Ko sz bound T (fT LL)))::F) (.cons (.skip (.skip (vv (.refl _) _)))) ?_;refine aF ?_;exact⟨A68,c68,rfl,rfl⟩
theorem aei(h1:aK B w0 F 1 (.slice A1 T.length c1) T.length (strs T))(hL:aK B w0 F 1 (.slice B1 LL.length b1) LL.length (LL.map zP))(hI:ma B w0 F LL)(wS:∀e∈LL,e.2.2.length≤9000000000000000000)(hs:T.length≤1000000000):
  a_ B w0 48 [ah size,ah bound,Gj A1 T.length c1 B1 LL.length b1] F (fun r L=>∃A' c',r= .tuple #[.slice A' (qG size bound T (fT LL)).1.length c',ah (qG size bound T (fT LL)).2]∧L= .own 5 1 A' (qG size bound T (fT LL)).1.length c' (bv (qG size bound T (fT LL)).1)::F):=by
 have hil:(fT LL).length=LL.length:=by simp[fT]
 have amj:∀{L:aQ},a_ B w0 48 [ah size,ah bound,Gj A1 T.length c1 B1 LL.length b1] L (fun r K=>r= .tuple #[.slice none 0 0,ah 13]∧K=L)→qG size bound T (fT LL)=([],13)→a_ B w0 48 [ah size,ah bound,Gj A1 T.length c1 B1 LL.length b1] L (fun r K=>∃A' c',r= .tuple #[.slice A' (qG size bound T (fT LL)).1.length c',ah (qG size bound T (fT LL)).2]∧K= .own 5 1 A' (qG size bound T (fT LL)).1.length c' (bv (qG size bound T (fT LL)).1)::L):=fun {L} h e=>by
  rw[e];intro w hw;refine(h w hw).mono fun ee w' ⟨r,K,he,⟨hr,hK⟩,hs⟩=>?_;subst hK;exact⟨r,_,he,⟨none,0,hr,rfl⟩,hs.CG 5 1 none⟩
 by_cases hE:(bound<0∨20000<bound)∨¬(T.length:Int)=LL.length
 ·exact amj (aef hE) (Ei (.inr (.inr fun q=>by
   have h2:=q.1;have h3:=q.2.1;omega)))
 ·by_cases hE2:size<1∨64<size∨¬kY T
  ·refine amj (aeg h1 aa aa aa hs hE2) (Ei ?_);rcases hE2 with h|h|h
   ·exact .inl h
   ·exact .inr (.inl h)
   ·exact .inr (.inr fun q=>h q.2.2.1)
  ·have hR:kY T:=bH fun h=>hE2 (.inr (.inr h));obtain⟨sz,rfl⟩:=gJ (show 0≤size by omega);exact aeh h1 hL hI wS aa aa aa hR aa aa
theorem Uc{P:Prop}(h:P:=by(rw[ao iM])):P:=h
theorem b_9{P:Prop}(h:P:=by(exact ej (by first|exact hB.2 (.inl (by assumption))|exact hB.2 (.inr (by assumption))|exact fun h=>(hB.1 h).elim (fun q=>absurd q (by assumption)) (fun q=>absurd q (by assumption))))):P:=h
theorem b_4{P:Prop}(h:P:=by(exact ej (by first|exact hB.2 (.inl (by assumption))|exact hB.2 (.inr (.inl (by assumption)))|exact⟨fun h=>hB.2 (.inr (.inr (by omega))),fun h=>(hB.1 h).elim (fun q=>absurd q (by assumption)) (fun q=>q.elim (fun q=>absurd q (by assumption)) (fun q=>by omega))⟩))):P:=h
theorem abq(ho:ct s)(hb:aK B w0 F 1 (.slice A s.b.length c) s.b.length (bv s.b)):
  a_ B w0 223 [br g] (Cv g A c s::F) (fun r L=>r=ah s.xT.e∧L=Cv g A c s.xT::F):=by
 refine fw func223 10 [0] ?_;refine bO ?_;refine ai rfl (JN ho hb) ?_;refine bA ?_;refine aj (fun h5=>?_) fun h5=>?_
 ·have he:s.xT=s.failed 2:=ao aa;refine be ?_;refine ai rfl (nr 2) ?_;refine bG ?_;refine ai rfl (gM) ?_;refine bG ?_;rw[he];exact⟨rfl,rfl⟩
 ·have he:s.xT=s:=aw aa;refine bG ?_;refine ai rfl (gM) ?_;refine bG ?_;rw[he];exact⟨rfl,rfl⟩
theorem alC:a_ B w0 177 [br g] (Cv g A c s::F) (fun r L=>r=ah s.at_∧L=Cv g A c s::F):=by
 refine fw func177 10 [0] ?_;refine acx ?_;exact⟨rfl,rfl⟩
def nxN(s:Cs)(was:cj)(first:Bool):Nat:=if first then 0 else s.int was.length
def Zs(s:Cs)(was:cj)(first:Bool):Cs:=if first then s else s.bW was.length
def Sq(s:Cs)(was:cj)(first:Bool):Cs:=(Zs s was first).ey 25
def nxX(s:Cs)(was:cj)(first:Bool):cj:=was.take (nxN s was first)++(Zs s was first).text 25
def qp(s:Cs)(was:cj)(first:Bool):Prop:=(Zs s was first).text 25=[]∨¬uw was (nxX s was first)∨(first=false∧qk was (nxX s was first)≠nxN s was first)
instance (s:Cs)(was:cj)(first:Bool):Decidable (qp s was first):=inferInstanceAs (Decidable (_∨_∨(_∧_)))
def s_(s:Cs)(was:cj)(first:Bool):Cs:=if (Sq s was first).e≠0 then Sq s was first else if qp s was first then (Sq s was first).failed 2 else Sq s was first
def si(s:Cs)(was:cj)(first:Bool):cj:=if (Sq s was first).e≠0 then [] else nxX s was first
theorem ct.Zs(h:ct s){was:cj}{first:Bool}(hw:was.length≤1000):ct (Zs s was first):=by
 unfold YtaodmbolhoafcaaGreatDoor.Zs;split
 ·exact h
 ·exact h.bW aa
theorem ct.s_(h:ct s){was:cj}{first:Bool}(hw:was.length≤1000):ct (s_ s was first):=by
 unfold YtaodmbolhoafcaaGreatDoor.s_ Sq;split
 ·exact(h.Zs hw).ey
 ·split
  ·exact(h.Zs hw).ey.failed 2
  ·exact(h.Zs hw).ey
theorem Cs.zS(s:Cs)(m:Int):(s.bW m).b=s.b:=Cs.cN s _ _
theorem Cs.vr(s:Cs)(m:Int):(s.ey m).b=s.b:=Cs.cN s _ _
theorem Cs.DU(s:Cs)(e:Int):(s.failed e).b=s.b:=by unfold Cs.failed;split<;>rfl
theorem adU(s:Cs)(was:cj)(first:Bool):(Zs s was first).b=s.b:=by
 unfold Zs;split
 ·rfl
 ·exact Cs.zS _ _
theorem aqT(s:Cs)(was:cj)(first:Bool):(s_ s was first).b=s.b:=by
 unfold s_ Sq;split
 ·rw[Cs.vr,adU]
 ·split
  ·rw[Cs.DU,Cs.vr,adU]
  ·rw[Cs.vr,adU]
theorem amS(s:Cs)(was:cj)(first:Bool)(hw:was.length≤1000):nxN s was first≤was.length:=by
 unfold nxN;split
 ·omega
 ·unfold Cs.int;split
  ·omega
  ·by_cases h:(eu s.rest was.length).2.2=0
   ·have:=(jy s.rest was.length aa).2.2.2 h;omega
   ·rw[(pA h).1];omega
theorem WT(s:Cs):(s.text 25).length≤25:=by
 unfold Cs.text;split
 ·simp
 ·unfold jN;split
  ·simp
  ·split
   ·simp
   ·rename_i h1 h2;have:=(jy s.rest 25 aa).2.2.2 C7;simp only[eS];omega
theorem aie{was:cj}(hw:was.length≤1000)(ho:ct s)(hb:aK B w0 F 1 (.slice A s.b.length c) s.b.length (bv s.b)):
  a_ B w0 298 [br g,.string ⟨was.toArray⟩,.bool true] (Cv g A c s::F) (fun r L=>r= .string ⟨(si s was true).toArray⟩∧L=Cv g A c (s_ s was true)::F):=by
 have hA:Zs s was true=s:=rfl;have hN:nxN s was true=0:=rfl;have hS:Sq s was true=s.ey 25:=rfl;have hX:nxX s was true=s.text 25:=by unfold nxX;rw[hN,hA];rfl
 have hB:qp s was true↔(s.text 25=[]∨¬uw was (s.text 25)):=by unfold qp;rw[hX,hA];simp
 have hC:s_ s was true=if (s.ey 25).e≠0 then s.ey 25 else if qp s was true then (s.ey 25).failed 2 else s.ey 25:=rfl
 have hT:si s was true=if (s.ey 25).e≠0 then [] else s.text 25:=by unfold si;rw[hX,hS]
 have Ce:=WT s;rw[hC,hT];clear hC hT hS hX hN hA;refine fw func298 48 [0,1,2] ?_;refine ar0 ?_;refine ai rfl (Ct ho hb (most:=25) aa aa) ?_;refine bK ?_;refine ai rfl (gM) ?_;refine bA ?_;refine aj (fun iM=>?_) fun iM=>?_
 ·refine bI ?_;exact⟨Uc,Uc⟩
 ·refine bz ?_;refine ab (DD (i:=0) underlying9 rfl rfl rfl aa) rfl ?_;refine aF ?_;refine ab (zw (s:=[]) (r:=s.text 25) rfl rfl (by simp only[sd];omega)) rfl ?_;refine bz ?_;refine bU 19 44 [0,9] (qp s was true) ?_ ?_
  ·refine bA ?_;refine aL rfl rfl rfl (fun qF=>?_) (fun qF=>?_)
   ·refine b8 ?_;refine ai rfl (QW was (s.text 25)) ?_;refine b8 ?_;refine aL rfl rfl rfl (fun GF=>?_) (fun GF=>?_)
    ·refine dc ?_;exact aP (by exact eU (by first|exact hB.2 (.inl (by assumption))|exact hB.2 (.inr (by assumption))|exact fun h=>(hB.1 h).elim (fun q=>absurd q (by assumption)) (fun q=>absurd q (by assumption))))
    ·refine bO ?_;exact aP b_9
   ·refine jk ?_;exact aP b_9
  ·refine be ?_;refine aj (fun tU=>?_) fun tU=>?_
   ·refine be ?_;refine ai rfl (nr 2) ?_;refine bB ?_;exact⟨by rw[aw iM];rfl,by rw[aw iM,ao tU]⟩
   ·refine bB ?_;exact⟨by rw[aw iM];rfl,by rw[aw iM,aw tU]⟩
theorem aif{was:cj}(hw:was.length≤1000)(ho:ct s)(hb:aK B w0 F 1 (.slice A s.b.length c) s.b.length (bv s.b)):
  a_ B w0 298 [br g,.string ⟨was.toArray⟩,.bool false] (Cv g A c s::F) (fun r L=>r= .string ⟨(si s was false).toArray⟩∧L=Cv g A c (s_ s was false)::F):=by
 have hA:Zs s was false=s.bW was.length:=rfl;have hN:nxN s was false=s.int was.length:=rfl;have hS:Sq s was false=(s.bW was.length).ey 25:=rfl;have hX:nxX s was false=was.take (s.int was.length)++(s.bW was.length).text 25:=rfl;have hB:qp s was false↔((s.bW was.length).text 25=[]∨¬uw was (nxX s was false)∨qk was (nxX s was false)≠s.int was.length):=by unfold qp;rw[hN,hA];simp
 have hC:s_ s was false=if ((s.bW was.length).ey 25).e≠0 then (s.bW was.length).ey 25 else if qp s was false then ((s.bW was.length).ey 25).failed 2 else (s.bW was.length).ey 25:=rfl
 have hT:si s was false=if ((s.bW was.length).ey 25).e≠0 then [] else nxX s was false:=rfl
 have Ce:=WT (s.bW was.length);have Vk:=amS s was false hw;have ho2:ct (s.bW was.length):=ho.bW aa;have oL:aK B w0 F 1 (.slice A (s.bW was.length).b.length c) (s.bW was.length).b.length (bv (s.bW was.length).b):=by rw[Cs.zS];exact hb
 rw[hC,hT];rw[hX]at*;rw[hN]at Vk;clear hC hT hS hN hA;refine fw func298 48 [0,1,2] ?_;refine GD ?_;refine ai rfl (iH ho hb (most:=was.length) aa aa) ?_;refine bz ?_;refine ai rfl (Ct ho2 oL (most:=25) aa aa) ?_;refine bK ?_;refine ai rfl (gM) ?_;refine bA ?_;refine aj (fun iM=>?_) fun iM=>?_
 ·refine bA ?_;refine ve [6] ?_;refine b8 ?_;exact⟨Uc,Uc⟩
 ·refine bz ?_;refine ab (DD (i:=s.int was.length) underlying9 rfl rfl rfl aa) rfl ?_;refine aF ?_;refine ab (zw (s:=was.take (s.int was.length)) (r:=(s.bW was.length).text 25) rfl rfl (by simp only[eS];omega)) rfl ?_;refine aF ?_;refine ve [0,1,2,7,8,9] ?_;refine b8 ?_;refine bU 19 44 [0,9] (qp s was false) ?_ ?_
  ·refine bA ?_;refine aL rfl rfl rfl (fun qF=>?_) (fun qF=>?_)
   ·refine b8 ?_;refine ai rfl (QW was (was.take (s.int was.length)++(s.bW was.length).text 25)) ?_;refine b8 ?_;refine aL rfl rfl rfl (fun GF=>?_) (fun GF=>?_)
    ·refine bB ?_;refine ai rfl (UI was (was.take (s.int was.length)++(s.bW was.length).text 25) aa) ?_;refine bK ?_;exact aP (by exact dN (by first|exact hB.2 (.inl (by assumption))|exact hB.2 (.inr (.inl (by assumption)))|exact⟨fun h=>hB.2 (.inr (.inr (by omega))),fun h=>(hB.1 h).elim (fun q=>absurd q (by assumption)) (fun q=>q.elim (fun q=>absurd q (by assumption)) (fun q=>by omega))⟩))
    ·refine bO ?_;exact aP b_4
   ·refine jk ?_;exact aP b_4
  ·refine be ?_;refine aj (fun tU=>?_) fun tU=>?_
   ·refine be ?_;refine ai rfl (nr 2) ?_;refine bB ?_;exact⟨by rw[aw iM],by rw[aw iM,ao tU]⟩
   ·refine bB ?_;exact⟨by rw[aw iM],by rw[aw iM,aw tU]⟩
theorem aov{P:Prop}(h:P:=by(rw[show m-(i+1)=k by omega,lu (show¬((i+1:Nat):Int)=0 by omega)];exact hF)):P:=h
theorem L8{P:Prop}(h:P:=by(simpa using q)):P:=h
theorem amO{was:cj}(first:Bool)(hw:was.length≤1000)(ho:ct s)(hb:aK B w0 F 1 (.slice A s.b.length c) s.b.length (bv s.b)):
  a_ B w0 298 [br g,.string ⟨was.toArray⟩,.bool first] (Cv g A c s::F) (fun r L=>r= .string ⟨(si s was first).toArray⟩∧L=Cv g A c (s_ s was first)::F):=by
 cases first
 ·exact aif hw ho hb
 ·exact aie hw ho hb
theorem adV{was:cj}{first:Bool}(h:(s_ s was first).e=0):(Sq s was first).e=0∧¬qp s was first∧s_ s was first=Sq s was first∧si s was first=nxX s was first:=by
 unfold s_ at h⊢;by_cases h1:(Sq s was first).e≠0
 ·rw[ao h1]at h;exact absurd h h1
 ·rw[aw h1]at h⊢;have Rc:(Sq s was first).e=0:=by simpa using h1
  by_cases h2:qp s was first
  ·rw[ao h2]at h;unfold Cs.failed at h;rw[ao Rc]at h;exact absurd h ak
  ·rw[aw h2];exact⟨Rc,h2,rfl,aw h1⟩
theorem Sr{was:cj}{first:Bool}(h:(s_ s was first).e=0):uw was (si s was first):=by
 obtain⟨_,h2,_,h4⟩:=adV h;rw[h4];exact jG.1 fun h=>h2 (.inr (.inl h))
def gY:Nat→Bool→Cs→List cj→List cj×Int
 |0,_,s,out=>if s.xT.e≠0 then ([],s.xT.e) else (out,0)
 |k+1,first,s,out=>if (s_ s (ft out out.length) first).e≠0 then ([],(s_ s (ft out out.length) first).e) else gY k false (s_ s (ft out out.length) first) (out++[si s (ft out out.length) first])
def Gm(l:List cj):Prop:=∀x∈l,x.length≤25
theorem Gm.prv{l:List cj}(h:Gm l)(i:Nat):(ft l i).length≤25:=by
 unfold ft;split
 ·simp
 ·rw[bk];by_cases hi:i-1<l.length
  ·rw[fm hi];exact h _ (ub _)
  ·rw[zX aa];simp
theorem Gm.snoc{l:List cj}(h:Gm l){x:cj}(hx:x.length≤25):Gm (l++[x]):=by
 intro y hy;simp only[dz,lJ]at hy;rcases hy with hy|rfl
 ·exact h y hy
 ·exact hx
abbrev Dd(g:Nat)(sz:Int)(A1:bj)(c1:Nat)(A2:bj)(c2:Nat)(o h:List cj)(F:aQ):aQ:=
 .bE g 371 [.slice A1 o.length c1,ah sz,.slice A2 h.length c2]:: .own 9 1 A1 o.length c1 (strs o):: .own 9 1 A2 h.length c2 (strs h)::F
theorem Nm{l r:List cj}{i:Nat}(h:i<l.length):(l++r).getD i []=l.getD i []:=by simp[List.getD,z7 h]
theorem alF{b:al}{m:Nat}{sz:Int}{o0 h0:List cj}(hm:1≤m)(vE:m≤64)(hb:aK B w0 (Dd g sz A1 c1 A2 c2 o0 h0 F) 1 (.slice A b.length c) b.length (bv b))(de:b.length≤1099511627776)(vV:Gm o0)(Kl:o0.length≤2000000)(Vi:h0.length≤2000000):
  a_ B w0 267 [br g,.slice A b.length c,ah m] (Dd g sz A1 c1 A2 c2 o0 h0 F) (fun r L=>∃P1 p1 P2 p2 o h,r=ah (gY m true ⟨b,0,0⟩ o0).2∧L=Dd g sz P1 p1 P2 p2 o h F∧((gY m true ⟨b,0,0⟩ o0).2=0→o=(gY m true ⟨b,0,0⟩ o0).1∧h=h0++[o.getD o0.length []]∧Gm o∧o.length=o0.length+m)):=by
 obtain⟨G,hG⟩:=cK (gY m true ⟨b,0,0⟩ o0);rw[←hG];refine fw func267 76 [0,1,2] ?_;refine bI ?_;refine dX rfl (mY hb de) fun g13 xh F9=>?_;refine cZ ?_;refine aE (fun zf zL zm=>∃(i:Nat) (s:Cs) (o h:List cj) (P1:bj) (p1:Nat) (P2:bj) (p2:Nat),(i≤m∧ct s∧o.length=o0.length+i∧Gm o∧(i=0→h=h0)∧(0<i→h=h0++[o.getD o0.length []])∧gY (m-i) (decide ((i:Int)=0)) s o=G)∧m-i=zm∧Sub zf [(0,br g),(7,br g13),(14,ah m),(15,ah i)]∧Wk zL (Cv g13 xh F9 s:: .own 5 1 xh s.b.length F9 (bv s.b)::Dd g sz P1 p1 P2 p2 o h F)) _ ⟨0,⟨b,0,0⟩,o0,h0,A1,c1,A2,c2,⟨bS _,⟨bS _,de⟩,rfl,vV,fun _=>rfl,fun h=>absurd h aa,hG.symm⟩,rfl,bp,.refl _⟩ ?_;rintro _ _ _ ⟨i,s,o,h,P1,p1,P2,p2,⟨hi,ho,hoo,RE,hh0,hh1,hF⟩,rfl,hs,hp⟩;refine aU hs hp ?_;clear hs hp;refine bz ?_;refine aj (fun ki=>?_) fun ki=>?_
 ·obtain⟨k,hk⟩:∃k,m-i=k+1:=⟨m-i-1,aa⟩
  rw[hk,gY]at hF;have mN:=RE.prv o.length;have at3:h.length≤2000001:=by
   by_cases h0i:i=0
   ·rw[hh0 h0i];omega
   ·rw[hh1 aa];simp;omega
  refine jk ?_;refine d_ (fun zf zL=>Sub zf [(0,br g),(7,br g13),(8,ah i),(9,.string ⟨(ft o o.length).toArray⟩),(14,ah m),(15,ah i)]∧Wk zL (Cv g13 xh F9 s:: .own 5 1 xh s.b.length F9 (bv s.b)::Dd g sz P1 p1 P2 p2 o h F)) ?_ ?_
  ·refine cZ ?_;refine aj (fun oh=>?_) fun oh=>?_
   ·have amc:o.getD (o.length-1) []=ft o o.length:=(aw aa).symm;refine dc ?_;refine bZ (aC (i:=o.length-1) (size:=1) underlying87 ag rfl rfl aa aa aA) rfl ?_;refine bZ (gN (b:=o) (j:=o.length-1) ag rfl aA aa) rfl ?_;rw[amc];refine aF ?_;refine nj [(0,_),(7,_),(8,_),(9,_),(14,_),(15,_)] ⟨rfl,rfl,rfl,rfl,rfl,rfl,trivial⟩ ?_;exact bD ⟨bp,.refl _⟩
   ·have amc:ft o o.length=[]:=ao aa;refine aF ?_;rw[amc];exact bD ⟨bp,.refl _⟩
  ·rintro _ _ ⟨hs,hp⟩;refine aU hs hp ?_;clear hs hp;refine bz ?_;refine ai rfl (amO (decide ((i:Int)=0)) (was:=ft o o.length) aa ho aA) ?_;refine bK ?_;refine ai rfl (gM) ?_;refine bO ?_;refine aj (fun Va=>?_) fun Va=>?_
   ·rw[ao Va]at hF;refine b8 ?_;refine ve [6] ?_;refine bI ?_;refine aq (L':=Dd g sz P1 p1 P2 p2 o h F) (.skip (.skip (.refl _))) ?_;refine aF ?_;exact⟨P1,p1,P2,p2,o,h,by rw[←hF],rfl,fun h=>by rw[←hF]at h;exact absurd h Va⟩
   ·rw[aw Va]at hF;have h0:(s_ s (ft o o.length) (decide ((i:Int)=0))).e=0:=by omega
    have fG:=Sr h0;have hbb:=aqT s (ft o o.length) (decide ((i:Int)=0));have hoC:ct (s_ s (ft o o.length) (decide ((i:Int)=0))):=ho.s_ aa;have Eb:o.length+1=(o++[si s (ft o o.length) (decide ((i:Int)=0))]).length:=by simp
    refine cZ ?_;refine dF Fs rfl rfl rfl rfl rfl (fun _=>rfl) aV aa aa ?_;intro _ A57 c57;refine b8 ?_;refine ve [0,7,8,10,14,15] ?_;refine bK ?_;refine aj (fun h62=>?_) fun h62=>?_
    ·refine bK ?_;refine dF Fs rfl rfl rfl rfl rfl (fun _=>rfl) aV aa aa ?_;intro _ A70 c70;refine bB ?_;have acO:h.length+1=(h++[si s (ft o o.length) (decide ((i:Int)=0))]).length:=by simp
     refine av ⟨_,aa,i+1,s_ s (ft o o.length) (decide ((i:Int)=0)),o++[si s (ft o o.length) (decide ((i:Int)=0))],h++[si s (ft o o.length) (decide ((i:Int)=0))],A57,c57,A70,c70,⟨aa,hoC,bR,RE.snoc fG.2.1,fun h=>absurd h aa,fun _=>by rw[hh0 aa];simp[hoo,show i=0 by omega],aov⟩,rfl,bp,.cons (ax (by rw[hbb]) (by rw[hbb]) (bq (by rw[Eb,acO];rfl) (ax Eb L_ (ax acO L_ (.refl _)))))⟩
    ·refine bK ?_;refine av ⟨_,aa,i+1,s_ s (ft o o.length) (decide ((i:Int)=0)),o++[si s (ft o o.length) (decide ((i:Int)=0))],h,A57,c57,P2,p2,⟨aa,hoC,bR,RE.snoc fG.2.1,fun h=>absurd h aa,fun _=>by rw[hh1 aa,Nm aa],aov⟩,rfl,bp,.cons (ax (by rw[hbb]) (by rw[hbb]) (bq (by rw[Eb];rfl) (ax Eb L_ (.refl _))))⟩
 ·rw[show m-i=0 by omega,gY]at hF;refine bI ?_;refine ai rfl (abq ho aA) ?_;refine b8 ?_;refine aq (L':=Dd g sz P1 p1 P2 p2 o h F) (.skip (.skip (.refl _))) ?_;refine aF ?_;have hG2:G.2=s.xT.e:=by
   rw[←hF];split
   ·rfl
   ·rename_i q;simpa using(jG.1 q).symm
  refine⟨P1,p1,P2,p2,o,h,by rw[hG2],rfl,fun q=>?_⟩;rw[hG2]at q;rw[aw L8]at hF;exact⟨by rw[←hF],hh1 aa,RE,aa⟩
theorem T6{P:Prop}(h:P:=by(rw[Qb];exact aA)):P:=h
def AU:Nat→Cs→bf→Cs×bf
 |0,s,out=>(s,out)
 |k+1,s,out=>if s.e≠0 then (s,out) else AU k (s.bW 2000) (out++[s.int 2000])
def oX(sz n:Nat):bf→Cs→List cj→List cj×Cs×Int
 |[],s,out=>if s.e≠0 then ([],s,s.e) else (out,s,0)
 |k::r,s,out=>
  if (s.b_ k).e≠0 then ([],s,(s.b_ k).e)
  else if (gY (min sz (n-out.length)) true ⟨s.take k,0,0⟩ out).2≠0 then ([],s,(gY (min sz (n-out.length)) true ⟨s.take k,0,0⟩ out).2)
  else oX sz n r (s.b_ k) (gY (min sz (n-out.length)) true ⟨s.take k,0,0⟩ out).1
def tO(b:al):Nat:=Cs.int ⟨b,0,0⟩ 1048576
def lS(sz:Nat)(b:al):Cs×bf:=AU (gR sz (tO b)) (Cs.bW ⟨b,0,0⟩ 1048576) []
def mM(sz:Nat)(b:al):List cj×Cs×Int:=oX sz (tO b) (lS sz b).2 (lS sz b).1 []
def dW(size:Int)(b:al):List cj×Nat×Int:=
 if size<1∨64<size then ([],0,13)
 else if (mM size.toNat b).2.2≠0 then ([],0,(mM size.toNat b).2.2) else ((mM size.toNat b).1,(mM size.toNat b).2.1.at_,0)
theorem uW{size:Int}{b:al}(h:size<1∨64<size):dW size b=([],0,13):=ao h
theorem H5{sz:Nat}{b:al}(h:¬((sz:Int)<1∨64<(sz:Int)))(he:(mM sz b).2.2≠0):dW sz b=([],0,(mM sz b).2.2):=by unfold dW;rw[aw h,nH,ao he]
theorem DF{sz:Nat}{b:al}(h:¬((sz:Int)<1∨64<(sz:Int)))(he:(mM sz b).2.2=0):dW sz b=((mM sz b).1,(mM sz b).2.1.at_,0):=by unfold dW;rw[aw h,nH,aw L7]
theorem Cs.Kr(s:Cs){m:Int}(h0:0≤m)(hm:m≤9223372036854775807):(s.int m:Int)≤m:=by
 unfold Cs.int;split
 ·simpa using h0
 ·by_cases h:(eu s.rest m).2.2=0
  ·exact(jy s.rest m hm).2.2.2 h
  ·rw[(pA h).1];simpa using h0
theorem Cs.ai_(s:Cs)(m:Int):(s.b_ m).b=s.b:=Cs.cN s _ _
theorem Cs.IL{s:Cs}{k:Nat}{er:Int}(h:(s.ew k er).e=0):s.e=0:=by
 unfold Cs.ew at h;split at h
 ·exact h
 ·split at h
  ·rename_i h1 h2;exact absurd h h2
  ·exact h
theorem Ib:∀(m:Nat) (f:Bool) (s:Cs) (o:List cj),(gY m f s o).2=0→∃t,(gY m f s o).1=o++t∧t.length=m
 |0,f,s,o,h=>by
  unfold gY at h⊢;split at h
  ·rename_i q;exact absurd h q
  ·rename_i q;rw[aw q];exact⟨[],ak⟩
 |k+1,f,s,o,h=>by
  unfold gY at h⊢;split at h
  ·rename_i q;exact absurd h q
  ·rename_i q;rw[aw q];obtain⟨t,h1,h2⟩:=Ib k _ _ _ h;exact⟨si s (ft o o.length) f::t,by rw[h1];simp,by simp[h2]⟩
def hdS(sz:Nat)(o:List cj):List cj:=(List.range (gR sz o.length)).map fun j=>o.getD (j*sz) []
theorem QE{sz n:Nat}(h:1≤sz):n≤gR sz n*sz:=by
 rcases uh (gR sz n*sz) n with h1|h1
 ·exact absurd ((nU h).2 h1) aa
 ·exact h1
theorem Ru{i z sz N:Nat}{o t:List cj}(hz:z=i*sz)(k_:1≤sz)(ho:o.length=min z N)(hzN:z<N):(List.range i).map (fun j=>o.getD (j*sz) [])++[(o++t).getD o.length []]=(List.range (i+1)).map (fun j=>(o++t).getD (j*sz) []):=by
 rw[lq,ja,List.map_singleton];congr 1
 ·apply sb;intro j hj;have hji:=kB.1 hj;have:(j+1)*sz≤i*sz:=oA sz aa;rw[mL,rl]at this;exact(Nm aa).symm
 ·rw[show i*sz=o.length by omega]
theorem X2{l:bf}{i:Nat}(h:i<l.length):l.drop i=l.getD i 0::l.drop (i+1):=by
 rw[N5 h];simp[List.getD,fm h]
def aaN(size:Int)(b:al)(F:aQ)(r:Value)(L:aQ):Prop:=
 ((dW size b).2.2≠0∧r= .tuple #[.pointer none,ah 0,ah (dW size b).2.2]∧L=F)∨
 ((dW size b).2.2=0∧1≤size∧size≤64∧Gm (dW size b).1∧(dW size b).1.length≤1048576∧∃g A1 c1 A2 c2,r= .tuple #[br g,ah (dW size b).2.1,ah 0]∧L=Dd g size A1 c1 A2 c2 (dW size b).1 (hdS size.toNat (dW size b).1) F)
theorem XZ{size:Int}{b:al}(hE:size<1∨64<size):
  a_ B w0 226 [ah size,.slice A n c] F (aaN size b F):=by
 refine fw func226 84 [0,1] ?_;refine bB ?_;refine bU 6 23 [0,1] (size<1∨64<size) ?_ ?_
 ·refine bA ?_;refine aL rfl rfl rfl (fun iM=>?_) (fun iM=>?_)
  ·refine b8 ?_;exact aP oV
  ·refine be ?_;exact aP vA
 ·refine be ?_;refine aj (fun m7=>?_) fun m7=>?_
  ·refine bB ?_;exact .inl ⟨by rw[uW hE];decide,by rw[uW hE],rfl⟩
  ·exfalso;exact m7 hE
theorem MR{sz:Nat}{b:al}(k_:1≤sz)(jF:sz≤64)(hb:eM B w0 F A c b)(de:b.length≤1000000000):
  a_ B w0 226 [ah sz,.slice A b.length c] F (aaN sz b F):=by
 have hR1:= @H5 sz b aa;have Ys:= @DF sz b aa;have hN1:=Cs.Kr ⟨b,0,0⟩ (m:=1048576) aa aa;have hDS:lS sz b=AU (gR sz (tO b)) (Cs.bW ⟨b,0,0⟩ 1048576) []:=rfl;have hDF:mM sz b=oX sz (tO b) (lS sz b).2 (lS sz b).1 []:=rfl;have hNe:Cs.int ⟨b,0,0⟩ 1048576=tO b:=rfl;rw[hNe]at hN1;have hdN:∀l:List cj,mM sz b=mM sz b:=fun _=>rfl;obtain⟨N,hN⟩:=cK (tO b);rw[←hN]at hN1 hDS hDF hNe;have hcN:gR sz N≤1048639:=by
  unfold gR;exact jc (ri _ _) aa
 have hcz:gR sz N*sz≤1048639*64:=gL hcN jF;have ho1:ct (Cs.bW ⟨b,0,0⟩ 1048576):=ct.bW ⟨bS _,cY⟩ aa;refine fw func226 84 [0,1] ?_;refine bB ?_;refine bU 6 23 [0,1] ((sz:Int)<1∨64<(sz:Int)) ?_ ?_
 ·refine bA ?_;refine aL rfl rfl rfl (fun iM=>?_) (fun iM=>?_)
  ·refine b8 ?_;exact aP oV
  ·refine be ?_;exact aP vA
 ·refine be ?_;refine dm fun m7=>?_;refine bG ?_;refine dX rfl (mY hb aa) fun g25 Ha Lu=>?_;refine bz ?_;refine ai rfl (iH (s:=⟨b,0,0⟩) ⟨bS _,cY⟩ aA (most:=1048576) aa aa) ?_;rw[hNe];refine b8 ?_;refine aZ 3 1 none ?_;refine cZ ?_;refine aE (fun zf zL zm=>∃(j q:Nat) (s:Cs) (S:bf) (A9:bj) (c9:Nat),(j≤gR sz N∧q=j*sz∧S.length=j∧ct s∧s.b=b∧(∀i,i<S.length→S.getD i 0≤2000)∧AU (gR sz N-j) s S=lS sz b)∧gR sz N-j=zm∧Sub zf [(0,ah sz),(7,br g25),(8,ah N),(9,.slice A9 S.length c9),(10,ah q)]∧Wk zL (Cv g25 Ha Lu s:: .own 5 1 Ha b.length Lu (bv b):: .own 3 1 A9 S.length c9 (bx S)::F)) _ ⟨0,0,Cs.bW ⟨b,0,0⟩ 1048576,[],none,0,⟨bS _,(se _).symm,rfl,ho1,Cs.zS _ _,fun i h=>absurd h ak,hDS.symm⟩,rfl,bp,(gk (gk (ed (.refl _))))⟩ ?_;rintro _ _ _ ⟨j,q,s,S,A9,c9,⟨hj,hq,Yv,ho,Qb,hS2,hS⟩,rfl,hs,hp⟩;refine aU hs hp ?_;clear hs hp;refine bA ?_;refine bU 8 35 [0,7,8,9,10] ((q:Int)<N∧s.e=0) ?_ ?_
  ·refine b8 ?_;refine cM (fun D8=>?_) fun D8=>?_
   ·refine be ?_;refine ai rfl (gM) ?_;refine bA ?_;exact aP oV
   ·refine bA ?_;exact aP wA
  ·refine be ?_;refine aj (fun tT=>?_) fun tT=>?_
   ·have hjN:j<gR sz N:=(nU k_).2 aa;have hjz:(j+1)*sz≤gR sz N*sz:=oA sz hjN;have hjs:(j+1)*sz=j*sz+sz:=j8 j sz;have hi2:=Cs.Kr s (m:=2000) aa aa;have Eb:S.length+1=(S++[s.int 2000]).length:=by simp
    rw[show gR sz N-j=(gR sz N-(j+1))+1 by omega,AU,aw (by simpa using tT.2)]at hS;refine bK ?_;refine ai rfl (iH ho T6 (most:=2000) aa aa) ?_;refine dF fJ rfl rfl rfl rfl rfl (fun _=>rfl) aV aa aa ?_;intro _ Lr c43;refine bB ?_;refine av ⟨_,aa,j+1,q+sz,s.bW 2000,S++[s.int 2000],Lr,c43,⟨aa,aa,bR,ho.bW aa,by rw[Cs.zS];exact Qb,fun i hi=>by
 rcases uh i S.length with h|h
 ·rw[show(S++[s.int 2000]).getD i 0=S.getD i 0 by simp[List.getD,z7 h]];exact hS2 i h
 ·have:i=S.length:=by simp at hi;omega
  rw[this];simp;omega,hS⟩,rfl,bp,.cons (.cons (ax Eb sL (.refl _)))⟩
   ·have hSS:(s,S)=lS sz b:=by
     rw[←hS];by_cases h:j=gR sz N
     ·rw[h,nE];rfl
     ·rw[show gR sz N-j=(gR sz N-(j+1))+1 by omega,AU,ao];intro h0;exact tT ⟨by have:=(nU k_).1 (show j<gR sz N by omega);omega,h0⟩
    have hcm:s.e=0→S.length=gR sz N:=by
     intro h0;rcases uh j (gR sz N)with h|h
     ·exact absurd ⟨by have:=(nU k_).1 h;omega,h0⟩ tT
     ·omega
    rw[←hSS]at hDF;refine bz ?_;refine aZ 9 1 none ?_;refine aZ 9 1 none ?_;refine be ?_;refine ab (bw [(1,_)] [.slice none 0 0,ah 0,.slice none 0 0] [1] [_,_,_] rfl rfl ag) rfl ?_;refine bh fun U3=>?_;refine cH ?_;refine aE (fun zf zL zm=>∃(i z:Nat) (u:Cs) (o h:List cj) (P1:bj) (p1:Nat) (P2:bj) (p2:Nat),(i≤S.length∧z=i*sz∧o.length=min z N∧ct u∧u.b=b∧(u.e=0→S.length=gR sz N)∧Gm o∧h=(List.range i).map (fun j=>o.getD (j*sz) [])∧oX sz N (S.drop i) u o=mM sz b)∧S.length-i=zm∧Sub zf [(0,ah sz),(7,br g25),(8,ah N),(11,br U3),(47,.slice A9 S.length c9),(48,ah S.length),(49,ah i)]∧Wk zL (Cv g25 Ha Lu u:: .own 5 1 Ha b.length Lu (bv b)::Dd U3 sz P1 p1 P2 p2 o h (.own 3 1 A9 S.length c9 (bx S)::F))) _ ⟨0,0,s,[],[],none,0,none,0,⟨bS _,(se _).symm,ak,ho,Qb,hcm,fun x hx=>absurd hx ak,rfl,hDF.symm⟩,rfl,bp,(tF (tF (ed (ed (ed (ed (.refl _)))))))⟩ ?_;rintro _ _ _ ⟨i,z,u,o,h,P1,p1,P2,p2,⟨hi,hz,Kl,hou,hub,huc,RE,hh,hB⟩,rfl,hs,hp⟩;refine aU hs hp ?_;clear hs hp;refine bz ?_;refine aj (fun Il=>?_) fun Il=>?_
    ·have hiS:i<S.length:=by omega
     have hzN:z<N:=by have:=(nU k_).1 (show i<gR sz N by omega);omega
     have hoz:o.length=z:=by omega
     have hiz:(i+1)*sz=i*sz+sz:=j8 i sz;have at6:i*sz≤gR sz N*sz:=oA sz aa;have asj:=hS2 i hiS;rw[X2 hiS,oX]at hB;obtain⟨k,hk⟩:=cK (S.getD i 0);have Ge:(bx S)[i*1]? =some (ah (k:Int)):=by rw[hk];simp[bx,List.getD,fm hiS]
     rw[←hk]at hB asj;obtain⟨M,hM⟩:=cK (min sz (N-o.length));rw[←hM]at hB;have hMe:min (sz:Int) ((N-z:Nat):Int)=(M:Int):=by rw[hM,hoz];omega
     have ua:(u.take k).length≤1000000:=by
      unfold Cs.take;split
      ·simp
      ·split
       ·simp
       ·simp only[eS];omega
     refine bI ?_;refine ab (au ag rfl aA aa Ge) rfl ?_;refine bI ?_;refine ay rfl (mg hou (by rw[hub];exact aA) (m:=(k:Int)) aa aa) fun A56 c56=>?_;refine bK ?_;refine ai rfl (gM) ?_;refine bO ?_;refine aj (fun h60=>?_) fun h60=>?_
     ·rw[ao h60]at hB;refine bz ?_;refine ve [4,5,6] ?_;refine bI ?_;refine aq (L':=F) (.skip (.skip (.skip (.skip (.skip (.skip (.skip (.refl _)))))))) ?_;refine aF ?_;have vG:=hR1 (by rw[←hB];exact h60);rw[←hB]at vG;exact .inl ⟨by rw[vG];exact h60,by rw[vG],rfl⟩
     ·rw[aw h60]at hB;refine bB ?_;refine ab (eZ rfl rfl (r:=(z:Int)) ((bF (by rw[←z6];omega) (by rw[←z6];omega)).trans (by rw[hz];exact z6 i sz))) rfl ?_;refine ab (dw rfl rfl (r:=((N-z:Nat):Int)) ((bF aa aa).trans aa)) rfl ?_;refine ab (xO rfl rfl) rfl ?_;rw[hMe];refine aX apt rfl ((alF (b:=u.take k) (m:=M) aa aa aA aa RE aa (by rw[hh];simp;omega)).perm ((pu3 (pu3 (pu3 (fR (fR (fR (.refl _))))))))) rfl ?_;rintro _ _ ⟨P71,p71,Q71,q71,o2,h2,rfl,cA,hfo⟩;obtain rfl:=cA.symm;refine aF ?_;refine ve [0,7,8,11,16,47,48,49] ?_;refine bK ?_;refine aj (fun h73=>?_) fun h73=>?_
      ·rw[ao h73]at hB;refine dQ ?_;refine aq (L':=F) (.skip (.skip (.skip (.skip (.skip (.skip (.skip (.refl _)))))))) ?_;refine aF ?_;have vG:=hR1 (by rw[←hB];exact h73);rw[←hB]at vG;exact .inl ⟨by rw[vG];exact h73,by rw[vG],rfl⟩
      ·rw[aw h73]at hB;have ap_:(gY M true ⟨u.take k,0,0⟩ o).2=0:=by simpa using h73
       obtain⟨ho2,hh2,aqv,aug⟩:=hfo ap_;rw[←ho2]at hB;obtain⟨t,ht,Ce⟩:=Ib _ _ _ _ ap_;rw[←ho2]at ht;refine bK ?_;refine av ⟨_,aa,i+1,z+sz,u.b_ k,o2,h2,P71,p71,Q71,q71,⟨aa,aa,aa,hou.b_,by rw[Cs.ai_];exact hub,fun q=>huc (Cs.IL q),aqv,by rw[hh2,hh,ht];exact Ru hz k_ Kl hzN,hB⟩,rfl,bp,(tF (wu4 (ed (ed (ed (gk (.skip (.refl _))))))))⟩
    ·have hiS:i=S.length:=by omega
     rw[mu aa,oX]at hB;refine bO ?_;refine ai rfl (gM) ?_;refine bO ?_;refine aj (fun h79=>?_) fun h79=>?_
     ·rw[ao h79]at hB;refine bB ?_;refine aq (L':=F) (.skip (.skip (.skip (.skip (.skip (.skip (.refl _))))))) ?_;refine aF ?_;have vG:=hR1 (by rw[←hB];exact h79);rw[←hB]at vG;exact .inl ⟨by rw[vG];exact h79,by rw[vG],rfl⟩
     ·rw[aw h79]at hB;refine bz ?_;refine ai rfl (alC) ?_;refine bz ?_;have vG:=Ys (by rw[←hB]);rw[←hB]at vG;have hn:o.length=N:=by have:=QE (n:=N) k_;have:=huc (by simpa using h79);rw[Kl,hz,hiS,this];omega
      have wP:h=hdS sz o:=by unfold hdS;rw[hn,hh,hiS,huc (by simpa using h79)]
      refine aq (L':=Dd U3 sz P1 p1 P2 p2 o h F) ((rQ (rQ (rQ (.skip (.skip (.skip (.refl _)))))))) ?_;refine aF ?_;exact .inr ⟨by rw[vG],aa,aa,by rw[vG];exact RE,by rw[vG];simp only;omega,U3,P1,p1,P2,p2,by rw[vG],by rw[vG,wP];rfl⟩
theorem ahd{size:Int}{b:al}(hb:eM B w0 F A c b)(de:b.length≤1000000000):
  a_ B w0 226 [ah size,.slice A b.length c] F (aaN size b F):=by
 by_cases hE:size<1∨64<size
 ·exact XZ hE
 ·obtain⟨sz,rfl⟩:=gJ (show 0≤size by omega);exact MR aa aa hb de
theorem QX{sz k:Nat}{b:al}{l:List cj}(k_:1≤sz)(jF:sz≤64)(hb:eM B w0 F A c b)(de:b.length≤1000000000)(he:dW sz b=(l,k,0)):
  a_ B w0 226 [ah sz,.slice A b.length c] F (fun r L=>∃g A1 c1 A2 c2,r= .tuple #[br g,ah k,ah 0]∧L=Dd g sz A1 c1 A2 c2 l (hdS sz l) F):=
 (MR k_ jF hb de).mono fun r L h=>by
  rcases h with⟨h,_⟩|⟨_,_,_,_,_,g,A1,c1,A2,c2,h1,h2⟩
  ·rw[he]at h;exact absurd rfl h
  ·rw[he]at h1 h2;exact⟨g,A1,c1,A2,c2,h1,h2⟩
theorem X1{size:Int}{b:al}(hb:eM B w0 F A c b)(de:b.length≤1000000000)(he:(dW size b).2.2≠0):
  a_ B w0 226 [ah size,.slice A b.length c] F (fun r L=>r= .tuple #[.pointer none,ah 0,ah (dW size b).2.2]∧L=F):=
 (ahd hb de).mono fun r L h=>by
  rcases h with⟨_,h1,h2⟩|⟨h,_⟩
  ·exact⟨h1,h2⟩
  ·exact absurd h he
theorem dL.agP{P:Program}{B:Nat}{w0:World}{L:aQ}{ff:FuncId}{args:cV}{R:qP}{size nn c:Nat}{xs:cV}(hb:aK B w0 L size (.slice none nn c) nn xs)(h:nn=0→dL P B w0 ff args L R):dL P B w0 ff args L R:=fun w hw=>by
 obtain⟨A',c',hv,hc,hl,hr⟩:=hb w hw;injection hv with h1 _ h3;subst h1;rcases wV nn with h0|h0
 ·exact h h0 w hw
 ·obtain⟨ad,e,_⟩:=hr h0;cases e
theorem aeR(l:List cj)(hb:aK B w0 F 1 (.slice A l.length c) l.length (strs l))(hn:l.length≤1099511627776):
  a_ B w0 271 [.slice A l.length c] F (fun r L=>∃A' c',r= .slice A' l.length c'∧L= .own 9 1 A' l.length c' (strs l)::F):=by
 rcases A with _|ad
 ·refine dL.agP hb fun h0=>?_;have:l=[]:=mr h0;subst this;refine cm func271 8 rfl rfl rfl [(0,.slice none 0 c)] ⟨⟨rfl,rfl⟩,trivial⟩ ?_;refine bO ?_;refine ab (r7 underlying87 rfl rfl) rfl ?_;refine bB ?_;refine aD 9 1 none ?_;refine aF ?_;exact⟨none,0,rfl,rfl⟩
 ·refine cm func271 8 rfl rfl rfl [(0,.slice (some ad) l.length c)] ⟨⟨rfl,rfl⟩,trivial⟩ ?_;refine bO ?_;refine ab (r7 underlying87 rfl rfl) rfl ?_;refine bK ?_;refine cC (lE Fs) fun A5=>?_;refine aF ?_;refine fM (bT Fs rfl aV rfl aA cw aa aa) fun A7 c7=>?_;refine b8 ?_;rw[mw,nG];refine aF ?_;exact⟨_,_,rfl,rfl⟩
theorem alB(hn:o.length≤1048576):
  a_ B w0 229 [br g] (Dd g sz A1 c1 A2 c2 o h F) (fun r L=>∃A' c',r= .slice A' o.length c'∧L=Dd g sz A1 c1 A2 c2 o h (.own 9 1 A' o.length c' (strs o)::F)):=by
 refine fw func229 11 [0] ?_;refine GD ?_;refine ay rfl (aeR o aA aa) fun wu F8=>?_;refine b8 ?_;refine aq (L':=Dd g sz A1 c1 A2 c2 o h (.own 9 1 wu o.length F8 (strs o)::F)) ((gk (gk (gk (ed (.refl _)))))) ?_;refine aF ?_;exact⟨wu,F8,rfl,rfl⟩
theorem alE:a_ B w0 228 [br g] (Dd g sz A1 c1 A2 c2 o h F) (fun r L=>r=ah o.length∧L=Dd g sz A1 c1 A2 c2 o h F):=by
 refine fw func228 11 [0] ?_;refine ap5 ?_;exact⟨rfl,rfl⟩
theorem plK.find{t:cj}{k:Nat}(hk:plK o t k)(hR:kY o):(k<o.length∧o.getD k []=t)↔t∈o:=by
 constructor
 ·rintro⟨h1,h2⟩;rw[←h2,bk,fm h1];exact ub _
 ·intro h;obtain⟨i,hi,he⟩:=j0 h;have he:o.getD i []=t:=by rw[bk,fm hi];exact he
  have h1:k≤i:=by
   rcases uh i k with h|h
   ·exact absurd (he▸hk.2.1 i h) (fU _)
   ·exact h
  rcases uh k i with h2|h2
  ·exact absurd (he▸hR.lt i k h2 hi) (hk.2.2 k (gi _) aa)
  ·exact⟨aa,by rw[show k=i by omega];exact he⟩
theorem T_{P:Prop}(h:P:=by(simpa using h4.e1)):P:=h
theorem IF:type_of% @List.range_eq_range':= @List.range_eq_range'
def wx:cj→List cj→Prop
 |_,[]=>True
 |w,s::r=>uw w s∧wx s r
def J6:cj→List cj→cj
 |w,[]=>w
 |_,s::r=>J6 s r
theorem oH:∀(w:cj) (l:List cj) (x:cj),J6 w (l++[x])=x
 |_,[],_=>rfl
 |_,s::r,x=>oH s r x
theorem M7:∀(w:cj) (a b:List cj),J6 w (a++b)=J6 (J6 w a) b
 |_,[],_=>rfl
 |_,s::r,b=>M7 s r b
theorem pI:∀(l:List cj),ft l l.length=J6 [] l:=by
 intro l;rcases List.eq_nil_or_concat l with rfl|⟨l',x,rfl⟩
 ·rfl
 ·rw[List.concat_eq_append,oH];unfold ft;rw[aw ak];simp
theorem wx.app:∀{w:cj} {a b:List cj},wx w a→wx (J6 w a) b→wx w (a++b)
 |_,[],_,_,h=>h
 |_,s::r,b,h,k=>⟨h.1,wx.app h.2 k⟩
theorem wx.left:∀{w:cj} {a b:List cj},wx w (a++b)→wx w a
 |_,[],_,_=>trivial
 |_,s::r,b,h=>⟨h.1,wx.left h.2⟩
theorem wx.right:∀{w:cj} {a b:List cj},wx w (a++b)→wx (J6 w a) b
 |_,[],_,h=>h
 |_,s::r,b,h=>wx.right (a:=r) h.2
theorem wx.get:∀{w:cj} {l:List cj},wx w l→∀i,i<l.length→uw (if i=0 then w else l.getD (i-1) []) (l.getD i [])
 |_,[],_,i,hi=>absurd hi ak
 |w,s::r,h,0,_=>by simpa using h.1
 |w,s::r,h,i+1,hi=>by
  have:=wx.get h.2 i C8;cases i with
  |zero=>simpa using this
  |succ i=>simpa using this
theorem wx.adY:∀{w:cj} {l:List cj},(∀i,i<l.length→uw (if i=0 then w else l.getD (i-1) []) (l.getD i []))→wx w l
 |_,[],_=>trivial
 |w,s::r,h=>by
  refine⟨by simpa using h 0 ak,wx.adY fun i hi=>?_⟩;have:=h (i+1) C8;cases i with
  |zero=>simpa using this
  |succ i=>simpa using this
theorem kY.ch{l:List cj}(h:kY l):wx [] l:=wx.adY h.1
theorem wx.ris{l:List cj}(h:wx [] l)(hl:l.length≤1048576):kY l:=⟨h.get,hl⟩
theorem Oa:∀a b:cj,a.take (qk a b)=b.take (qk a b)
 |[],b=>by simp[qk]
 |x::a,[]=>by simp[qk]
 |x::a,y::b=>by
  unfold qk;split
  ·rename_i h;simp[h,Oa a b]
  ·simp
theorem ads:∀{a b:cj},tr a b→qk a b<b.length
 |_,[],h=>absurd h (qo _)
 |[],y::b,_=>by simp[qk]
 |x::a,y::b,h=>by
  unfold qk;rw[ur]at h;split
  ·rename_i he;subst he;rcases h with h|⟨_,h⟩
   ·rw[PE]at h;omega
   ·have:=ads h;simp;omega
  ·simp
theorem akX{x:Nat}(h:x<128):(aS x).length=1:=by rw[ox h];rfl
theorem H_{t:cj}(h:t.length<128):(fo t).length=t.length+1:=by
 unfold fo;rw[aY,akX h];omega
theorem Pe:∀(was:cj) (r:List cj),was.length≤25→(∀s∈r,s.length≤25)→(iD was r).length≤r.length*27
 |_,[],_,_=>by simp[iD]
 |was,s::r,hw,h=>by
  have hs:=h s ak;have:=Pe s r hs (fun x hx=>h x oe);have hl:=z_ was s;unfold iD;rw[aY,aY,akX aa,H_ kU,iG,ef,mL];omega
theorem QC{X:List cj}(hl:X.length≤64)(h:∀s∈X,s.length≤25):(dC X).length≤2000:=by
 cases X with
 |nil=>simp[dC]
 |cons t r=>
  have ht:=h t ak;have:=Pe t r ht (fun x hx=>h x oe);simp only[ef]at hl;unfold dC;rw[aY,H_ aa];omega
theorem amU{s:Cs}{was x:cj}{r:al}(h0:s.e=0)(hw:was.length≤1000)(hm:uw was x)(hr:s.rest=aS (qk was x)++fo (x.drop (qk was x))++r):si s was false=x∧(s_ s was false).e=0∧(s_ s was false).rest=r:=by
 have hl:=z_ was x;have fN:=ads (CH.1 hm.2.2);rw[bV]at hr;obtain⟨h1,h2⟩:=Cs.iB h0 (m:=was.length) aa aa hr;have tg:=h2.cI hr;obtain⟨h3,h4⟩:=Cs.rG h2.e1 (m:=25) (by rw[iG];have:=hm.2.1;omega) aa tg;have vF:=h4.cI tg;have hX:nxX s was false=x:=by
  show was.take (s.int was.length)++(s.bW was.length).text 25=x;rw[h1,h3,Oa,jJ]
 have hS:Sq s was false=(s.bW was.length).ey 25:=rfl;have hB:¬qp s was false:=by
  rintro(h|h|⟨_,h⟩)
  ·have h:(s.bW was.length).text 25=[]:=h;rw[h3]at h;have:=dB List.length h;rw[iG]at this;simp at this;omega
  ·rw[hX]at h;exact h hm
  ·rw[hX]at h;exact h h1.symm
 have hC:s_ s was false=(s.bW was.length).ey 25:=by
  unfold s_;rw[hS,aw T_,aw hB]
 refine⟨?_,by rw[hC];exact h4.e1,by rw[hC];exact vF⟩;unfold si;rw[hS,aw T_,hX]
theorem amT{s:Cs}{was x:cj}{r:al}(h0:s.e=0)(hm:uw was x)(hr:s.rest=fo x++r):si s was true=x∧(s_ s was true).e=0∧(s_ s was true).rest=r:=by
 obtain⟨h3,h4⟩:=Cs.rG h0 (m:=25) (by have:=hm.2.1;omega) aa hr;have vF:=h4.cI hr;have hX:nxX s was true=x:=by
  show was.take 0++s.text 25=x;rw[h3];rfl
 have hS:Sq s was true=s.ey 25:=rfl;have hB:¬qp s was true:=by
  rintro(h|h|⟨h,_⟩)
  ·have h:s.text 25=[]:=h;rw[h3]at h;exact hm.1 h
  ·rw[hX]at h;exact h hm
  ·cases h
 have hC:s_ s was true=s.ey 25:=by
  unfold s_;rw[hS,aw T_,aw hB]
 refine⟨?_,by rw[hC];exact h4.e1,by rw[hC];exact vF⟩;unfold si;rw[hS,aw T_,hX]
theorem Ie:∀(r out:List cj) (s:Cs),s.e=0→(ft out out.length).length≤1000→s.rest=iD (ft out out.length) r→wx (ft out out.length) r→gY r.length false s out=(out++r,0)
 |[],out,s,h0,_,hr,_=>by
  have:=Cs.ab0 h0 hr;simp[gY,this]
 |x::r,out,s,h0,hw,hr,hc=>by
  obtain⟨h1,h2,h3⟩:=amU h0 hw hc.1 hr;have hp:ft (out++[x]) (out++[x]).length=x:=by rw[pI,oH]
  show gY (r.length+1) false s out=_;unfold gY;rw[aw oS,h1,Ie r (out++[x]) _ h2 (by rw[hp];have:=hc.1.2.1;omega) (by rw[hp];exact h3) (by rw[hp];exact hc.2)];simp
theorem Nb{X out:List cj}(sa:X≠[])(hc:wx (ft out out.length) X):gY X.length true ⟨dC X,0,0⟩ out=(out++X,0):=by
 cases X with
 |nil=>exact absurd rfl sa
 |cons x r=>
  obtain⟨h1,h2,h3⟩:=amT (s:=⟨dC (x::r),0,0⟩) rfl hc.1 (show Cs.rest ⟨dC (x::r),0,0⟩=fo x++iD x r from rfl);have hp:ft (out++[x]) (out++[x]).length=x:=by rw[pI,oH]
  show gY (r.length+1) true _ out=_;unfold gY;rw[aw oS,h1,Ie r (out++[x]) _ h2 (by rw[hp];have:=hc.1.2.1;omega) (by rw[hp];exact h3) (by rw[hp];exact hc.2)];simp
theorem WB:∀(ns:bf) (s:Cs) (out:bf) (r:al),s.e=0→(∀n∈ns,n≤2000)→s.rest=ns.flatMap aS++r→∃s',AU ns.length s out=(s',out++ns)∧nT s s' (ns.flatMap aS)
 |[],s,out,r,h0,_,hr=>⟨s,by simp[AU],nT.nil h0⟩
 |n::ns,s,out,r,h0,hn,hr=>by
  have hn1:=hn n ak;rw[jI,bV]at hr;obtain⟨h1,h2⟩:=Cs.iB h0 (m:=2000) aa aa hr;obtain⟨s',h3,h4⟩:=WB ns (s.bW 2000) (out++[n]) r h2.e1 (fun x hx=>hn x oe) (h2.cI hr);refine⟨s',?_,?_⟩
  ·show AU (ns.length+1) s out=_;unfold AU;rw[aw (by simpa using h0),h1,h3];simp
  ·rw[jI];exact h2.trans h4
theorem aja(l:List cj)(sz i:Nat):l.take (i*sz)++ck l sz i=l.take ((i+1)*sz):=by
 unfold ck;rw[mL,rl,List.take_add]
theorem Ml{l:List cj}{sz:Nat}(hR:kY l)(k_:1≤sz):∀(m i:Nat) (s:Cs) (r:al),i+m=gR sz l.length→s.e=0→s.rest=iV l sz (List.range' i m)++r→
  ∃s',oX sz l.length ((List.range' i m).map fun j=>(dC (ck l sz j)).length) s (l.take (i*sz))=(l,s',0)∧nT s s' (iV l sz (List.range' i m))
 |0,i,s,r,hi,h0,hr=>by
  have wN:=QE (sz:=sz) (n:=l.length) k_;refine⟨s,?_,nT.nil h0⟩;have:i=gR sz l.length:=by omega
  simp only[List.range'_zero,GV,oX];rw[aw (by simpa using h0),this,fA wN]
 |m+1,i,s,r,hi,h0,hr=>by
  rw[List.range'_succ]at hr⊢;have fN:=(nU k_).1 (show i<gR sz l.length by omega);simp only[iV,jI,bV]at hr;obtain⟨h1,h2⟩:=Cs.mz h0 (n:=((dC (ck l sz i)).length:Int)) rfl hr;have tg:=h2.cI hr;have Ce:(l.take (i*sz)).length=i*sz:=by rw[eS];omega
  have aqj:(ck l sz i).length=min sz (l.length-i*sz):=by simp[ck]
  have sa:ck l sz i≠[]:=fun h=>by have:=dB List.length h;rw[aqj]at this;simp at this;omega
  have hch:wx (ft (l.take (i*sz)) (l.take (i*sz)).length) (ck l sz i):=by
   rw[pI];have h:=hR.ch;rw[←jJ (i*sz) l]at h;have h:=h.right;rw[←jJ sz (l.drop (i*sz))]at h;exact h.left
  have hF:=Nb (out:=l.take (i*sz)) sa hch;rw[aqj]at hF;obtain⟨s',h3,h4⟩:=Ml hR k_ m (i+1) _ r aa h2.e1 tg;refine⟨s',?_,?_⟩
  ·simp only[kC,oX];rw[aw (by simpa using h2.e1),h1,Ce,hF,aw ak];show oX _ _ _ _ (l.take (i*sz)++ck l sz i)=_;rw[aja];exact h3
  ·show nT s s' (iV l sz (i::List.range' (i+1) m));simp only[iV,jI];exact h2.trans h4
theorem XY{l:List cj}{sz:Nat}(hR:kY l)(k_:1≤sz)(jF:sz≤64)(more:al):dW sz (fQ sz l++more)=(l,(fQ sz l).length,0):=by
 have vV:=hR.le;have hb:(Cs.rest ⟨fQ sz l++more,0,0⟩)=aS l.length++(ll l sz (List.range (gR sz l.length))++(iV l sz (List.range (gR sz l.length))++more)):=by simp[Cs.rest,fQ]
 have hl:=hR.2;obtain⟨h1,h2⟩:=Cs.iB (s:=⟨fQ sz l++more,0,0⟩) rfl (m:=1048576) (x:=l.length) aa aa hb;have tg:=h2.cI hb;have hN:tO (fQ sz l++more)=l.length:=h1;have hH:ll l sz (List.range (gR sz l.length))=((List.range (gR sz l.length)).map fun j=>(dC (ck l sz j)).length).flatMap aS:=by simp[ll,List.flatMap_map]
 rw[hH]at tg;obtain⟨s2,h3,h4⟩:=WB _ _ [] _ h2.e1 (fun n hn=>by
  obtain⟨j,_,rfl⟩:=pQ.1 hn;exact QC (by simp[ck];omega) (fun x hx=>vV x (zl hx))) tg
 have vF:=h4.cI tg;rw[IF]at vF;obtain⟨s3,h5,h6⟩:=Ml hR k_ _ 0 s2 more aa h4.e1 vF;rw[eK,wk]at h3;have hS:lS sz (fQ sz l++more)=(s2,(List.range (gR sz l.length)).map fun j=>(dC (ck l sz j)).length):=by
  unfold lS;rw[hN,h3];rfl
 have hF:mM sz (fQ sz l++more)=(l,s3,0):=by
  unfold mM;rw[hN,hS,IF];rw[se,z8]at h5;exact h5
 have GJ:s3.at_=(fQ sz l).length:=by
  have h7:=(h2.trans (h4.trans h6)).eq;rw[h7];have hH2:=dB List.length hH;simp only[IF]at hH2;simp only[fQ,aY,IF,hH2];omega
 rw[DF aa (by rw[hF]),hF,←GJ]
theorem amV{s:Cs}{was:cj}(hw:was.length≤1000)(h:(s_ s was false).e=0):uw was (si s was false)∧nT s (s_ s was false) (aS (qk was (si s was false))++fo ((si s was false).drop (qk was (si s was false)))):=by
 have hm:=Sr h;obtain⟨h1,h2,h3,h4⟩:=adV h;have Rc:((s.bW was.length).ey 25).e=0:=h1;have hS:s_ s was false=(s.bW was.length).ey 25:=h3;obtain⟨h5,h6⟩:=Cs.yS Rc;obtain⟨h7,h8,h9⟩:=Cs.Ks h5.e0;have hX:si s was false=was.take (s.int was.length)++(s.bW was.length).text 25:=h4;have hl:qk was (si s was false)=s.int was.length:=by
  refine jG.1 fun q=>h2 (.inr (.inr ⟨rfl,fun e=>q ?_⟩));rw[h4];exact e
 refine⟨hm,?_⟩;rw[hl,hS];have hd:(si s was false).drop (s.int was.length)=(s.bW was.length).text 25:=by
  rw[hX,qi nx]
 rw[hd];exact h7.trans h5
theorem aij{s:Cs}{was:cj}(h:(s_ s was true).e=0):uw was (si s was true)∧nT s (s_ s was true) (fo (si s was true)):=by
 have hm:=Sr h;obtain⟨h1,h2,h3,h4⟩:=adV h;have Rc:(s.ey 25).e=0:=h1;have hS:s_ s was true=s.ey 25:=h3;obtain⟨h5,h6⟩:=Cs.yS Rc;have hX:si s was true=s.text 25:=h4;refine⟨hm,?_⟩;rw[hX,hS];exact h5
theorem ab1{s:Cs}(h:s.xT.e=0):s.e=0∧s.rest=[]:=by
 obtain⟨h1,h2⟩:=Cs.ahh h;refine⟨h1,?_⟩;unfold Cs.left at h2;unfold Cs.rest;exact mu aa
theorem Ic:∀(m:Nat) (s:Cs) (out:List cj),(ft out out.length).length≤1000→(gY m false s out).2=0→∃r,(gY m false s out).1=out++r∧r.length=m∧s.rest=iD (ft out out.length) r∧wx (ft out out.length) r∧s.e=0
 |0,s,out,hw,h=>by
  unfold gY at h⊢;split at h
  ·rename_i q;exact absurd h q
  ·rename_i q;rw[aw q];obtain⟨h1,h2⟩:=ab1 L8;exact⟨[],ak,rfl,h2,trivial,h1⟩
 |m+1,s,out,hw,h=>by
  unfold gY at h⊢;split at h
  ·rename_i q;exact absurd h q
  ·rename_i q;rw[aw q];have q':(s_ s (ft out out.length) false).e=0:=by simpa using q
   obtain⟨h1,h2⟩:=amV hw q';have hp:ft (out++[si s (ft out out.length) false]) (out++[si s (ft out out.length) false]).length=si s (ft out out.length) false:=by rw[pI,oH]
   obtain⟨r,h3,h4,h5,h6,h7⟩:=Ic m _ (out++[si s (ft out out.length) false]) (by rw[hp];have:=h1.2.1;omega) h;rw[hp]at h5 h6;refine⟨si s (ft out out.length) false::r,by rw[h3];simp,by simp[h4],?_,⟨h1,h6⟩,h2.e0⟩;rw[h2.rest,h5];simp only[iD]
theorem Yb{m:Nat}{b:al}{out:List cj}(hm:1≤m)(h:(gY m true ⟨b,0,0⟩ out).2=0):∃r,(gY m true ⟨b,0,0⟩ out).1=out++r∧r.length=m∧b=dC r∧wx (ft out out.length) r:=by
 obtain⟨k,rfl⟩:∃k,m=k+1:=⟨m-1,aa⟩
 unfold gY at h⊢;split at h
 ·rename_i q;exact absurd h q
 ·rename_i q;rw[aw q];have q':(s_ ⟨b,0,0⟩ (ft out out.length) true).e=0:=by simpa using q
  obtain⟨h1,h2⟩:=aij q';have hp:ft (out++[si ⟨b,0,0⟩ (ft out out.length) true]) (out++[si ⟨b,0,0⟩ (ft out out.length) true]).length=si ⟨b,0,0⟩ (ft out out.length) true:=by rw[pI,oH]
  obtain⟨r,h3,h4,h5,h6,h7⟩:=Ic k _ (out++[si ⟨b,0,0⟩ (ft out out.length) true]) (by rw[hp];have:=h1.2.1;omega) h;rw[hp]at h5 h6;refine⟨si ⟨b,0,0⟩ (ft out out.length) true::r,by rw[h3];simp,by simp[h4],?_,⟨h1,h6⟩⟩;have:=h2.rest;rw[h5]at this;simpa[Cs.rest,dC]using this
theorem O6:∀(k:Nat) (s s':Cs) (out S:bf),AU k s out=(s',S)→s'.e=0→∃S',S=out++S'∧S'.length=k∧nT s s' (S'.flatMap aS)
 |0,s,s',out,S,h,he=>by
  simp only[AU,Cf]at h;obtain⟨rfl,rfl⟩:=h;exact⟨[],ak,rfl,nT.nil he⟩
 |k+1,s,s',out,S,h,he=>by
  unfold AU at h;split at h
  ·rename_i q;simp only[Cf]at h;obtain⟨rfl,rfl⟩:=h;exact absurd he q
  ·obtain⟨S',h1,h2,h3⟩:=O6 k _ _ _ _ h he;obtain⟨h4,h5,h6⟩:=Cs.Ks h3.e0;refine⟨s.int 2000::S',by rw[h1];simp,by simp[h2],?_⟩;rw[jI];exact h4.trans h3
theorem Hx{sz n:Nat}(k_:1≤sz):∀(S:bf) (i:Nat) (s s':Cs) (out l:List cj),out.length=min (i*sz) n→S.length+i=gR sz n→oX sz n S s out=(l,s',0)→
  l.length=n∧(∃t,l=out++t∧wx (ft out out.length) t)∧nT s s' (iV l sz (List.range' i S.length))∧S=(List.range' i S.length).map (fun j=>(dC (ck l sz j)).length)
 |[],i,s,s',out,l,ho,hS,h=>by
  unfold oX at h;split at h
  ·rename_i q;simp only[Cf]at h;exact absurd h.2.2 q
  ·rename_i q;simp only[Cf]at h;obtain⟨rfl,rfl,_⟩:=h;have wN:=QE (sz:=sz) (n:=n) k_;have hi:i=gR sz n:=by simpa using hS
   rw[←hi]at wN;exact⟨aa,⟨[],ak,trivial⟩,nT.nil L8,ak⟩
 |k::S,i,s,s',out,l,ho,hS,h=>by
  simp only[ef]at hS;have fN:=(nU k_).1 (show i<gR sz n by omega);have hoi:out.length=i*sz:=by omega
  have iZ:(i+1)*sz=i*sz+sz:=j8 i sz;unfold oX at h;split at h
  ·rename_i q;simp only[Cf]at h;exact absurd h.2.2 q
  ·rename_i q;split at h
   ·rename_i q2;simp only[Cf]at h;exact absurd h.2.2 q2
   ·rename_i q2;obtain⟨h1,h2,_⟩:=Cs.Pf (show(s.b_ k).e=0 by simpa using q);obtain⟨r,h3,h4,h5,h6⟩:=Yb aa (show(gY (min sz (n-out.length)) true ⟨s.take k,0,0⟩ out).2=0 by simpa using q2);rw[h3]at h;obtain⟨h7,⟨t,h8,h9⟩,jx,pn⟩:=Hx k_ S (i+1) _ s' (out++r) l (by rw[aY,h4,iZ];omega) aa h;have hck:ck l sz i=r:=by
     unfold ck;rw[h8,bV,←hoi,BH];rcases uh (n-out.length) sz with hc|hc
     ·have ht:t=[]:=by
       apply mr;have:=dB List.length h8;rw[h7,aY,aY,h4]at this;omega
      rw[ht,gj,fA aa]
     ·rw[pv (by rw[h4];omega)]
    have hpr:ft (out++r) (out++r).length=J6 (ft out out.length) r:=by rw[pI,pI,M7]
    rw[hpr]at h9;refine⟨h7,⟨r++t,by rw[h8,bV],h6.app h9⟩,?_,?_⟩
    ·simp only[ef,List.range'_succ,iV,jI];rw[hck,←h5];exact h1.trans jx
    ·simp only[ef,List.range'_succ,kC];rw[hck,←h5,h2,←pn];simp
theorem MO{sz:Nat}{b:al}(k_:1≤sz)(jF:sz≤64)(he:(dW sz b).2.2=0):kY (dW sz b).1∧(dW sz b).2.1≤b.length∧fQ sz (dW sz b).1=b.take (dW sz b).2.1:=by
 have hE:¬((sz:Int)<1∨64<(sz:Int)):=by omega
 have hF:(mM sz b).2.2=0:=jG.1 fun h=>by
  rw[H5 hE h]at he;exact h he
 rw[DF hE hF];obtain⟨l,s',e⟩:∃l s',mM sz b=(l,s',0):=⟨_,_,Prod.ext rfl (Prod.ext rfl hF)⟩
 have e':=e;unfold mM at e';have Yv:(lS sz b).1.e=0→(lS sz b).2.length=gR sz (tO b)∧nT (Cs.bW ⟨b,0,0⟩ 1048576) (lS sz b).1 ((lS sz b).2.flatMap aS):=by
  intro h0;obtain⟨S',h1,h2,h3⟩:=O6 (gR sz (tO b)) (Cs.bW ⟨b,0,0⟩ 1048576) (lS sz b).1 [] (lS sz b).2 rfl h0;rw[nG]at h1;rw[h1];exact⟨h2,h3⟩
 have h0:(lS sz b).1.e=0:=by
  generalize (lS sz b).2=S at e';generalize (lS sz b).1=u at e'⊢;cases S with
  |nil=>
   unfold oX at e';split at e'
   ·rename_i q;simp only[Cf]at e';exact absurd e'.2.2 q
   ·rename_i q;simpa using q
  |cons k S=>
   unfold oX at e';split at e'
   ·rename_i q;simp only[Cf]at e';exact absurd e'.2.2 q
   ·rename_i q;exact Cs.IL (s:=u) (k:=(k:Int).toNat) (er:=ij u.rest k) (show(u.b_ k).e=0 by simpa using q)
 obtain⟨h1,h2⟩:=Yv h0;obtain⟨h3,⟨t,h4,h5⟩,h6,h7⟩:=Hx k_ _ 0 _ s' [] l ak aa e';rw[nG]at h4;subst h4;obtain⟨h8,h9,_⟩:=Cs.Ks h2.e0;have jx:=h8.trans (h2.trans h6);rw[h1]at h6 h7 jx;have hH:ll l sz (List.range (gR sz l.length))=(lS sz b).2.flatMap aS:=by
  rw[h7,IF,h3];simp[ll,List.flatMap_map]
 have hD:fQ sz l=aS (Cs.int ⟨b,0,0⟩ 1048576)++((lS sz b).2.flatMap aS++iV l sz (List.range' 0 (gR sz (tO b)))):=by
  unfold fQ;rw[hH,h3,IF,bV];rfl
 rw[←hD]at jx;have GJ:s'.at_=(fQ sz l).length:=by rw[jx.eq];simp
 have zN:b=fQ sz l++s'.rest:=by simpa[Cs.rest]using jx.rest
 rw[e];simp only;rw[GJ];have hN:(tO b:Int)≤1048576:=h9;refine⟨wx.ris (by simpa[ft]using h5) (by rw[h3];omega),?_,?_⟩
 ·conv=>rhs;rw[zN]
  simp
 ·conv=>rhs;rw[zN]
  rw[yk]
def LH(bound:Int):Nat→al→List (bf)→List (bf)×Int
 |0,b,out=>if b.length≠0 then ([],2) else (out,0)
 |k+1,b,out=>
  if (iI bound b).2.2≠0 then ([],(iI bound b).2.2)
  else if (iI bound b).1.length=0 then ([],2)
  else LH bound k (b.drop (iI bound b).2.1) (out++[(iI bound b).1])
def zQ(size bound:Int)(b:al):List (bf)×Int:=LH bound (dW size b).1.length (b.drop (dW size b).2.1) []
def eF(size bound:Int)(b:al):List cj×List (bf)×Int:=
 if bound<0∨20000<bound then ([],[],13)
 else if (dW size b).2.2≠0 then ([],[],(dW size b).2.2)
 else if (zQ size bound b).2≠0 then ([],[],(zQ size bound b).2)
 else ((dW size b).1,(zQ size bound b).1,0)
theorem Vr{size bound:Int}{b:al}(h:bound<0∨20000<bound):eF size bound b=([],[],13):=ao h
theorem Vs{size bound:Int}{b:al}(h:¬(bound<0∨20000<bound))(h1:(dW size b).2.2≠0):eF size bound b=([],[],(dW size b).2.2):=by unfold eF;rw[aw h,ao h1]
theorem Vt{size bound:Int}{b:al}(h:¬(bound<0∨20000<bound))(h1:(dW size b).2.2=0)(h2:(zQ size bound b).2≠0):eF size bound b=([],[],(zQ size bound b).2):=by unfold eF;rw[aw h,aw C7,ao h2]
theorem Kp{size bound:Int}{b:al}(h:¬(bound<0∨20000<bound))(h1:(dW size b).2.2=0)(h2:(zQ size bound b).2=0):eF size bound b=((dW size b).1,(zQ size bound b).1,0):=by unfold eF;rw[aw h,aw C7,aw oS]
theorem Om{bn:Nat}(hb:bn≤20000):∀(I out:List (bf)),(∀x∈I,x≠[]∧kX bn x)→LH bn I.length (I.flatMap (rM bn)) out=(out++I,0)
 |[],out,_=>by simp[LH]
 |x::r,out,h=>by
  obtain⟨h1,h2⟩:=h x ak;have hbk:=X4 h2 hb (r.flatMap (rM bn));rw[jI,ef,LH,hbk,aw ak,aw C7];simp only;rw[BH,Om hb r _ fun y hy=>h y vQ];simp
theorem VS{bound:Int}(P4:bound≤9223372036854775807):∀(k:Nat) (b:al) (out:List (bf)),(LH bound k b out).2=0→∃I,(LH bound k b out).1=out++I∧I.length=k∧(∀x∈I,x≠[]∧kX bound.toNat x)∧I.flatMap (rM bound.toNat)=b
 |0,b,out,h=>by
  unfold LH at h⊢;split at h
  ·exact absurd h aB
  ·rename_i q;rw[aw q];exact⟨[],ak,rfl,ak,by simpa using(mr L8).symm⟩
 |k+1,b,out,h=>by
  unfold LH at h⊢;split at h
  ·rename_i q;exact absurd h q
  ·rename_i q;split at h
   ·exact absurd h aB
   ·rename_i q2;rw[aw q,aw q2];obtain⟨bn,rfl,oL,hR,hB,hl⟩:=MT P4 L8;obtain⟨I,h1,h2,h3,h4⟩:=VS P4 k _ _ h;simp only[nH]at h3 h4⊢;refine⟨(iI bn b).1::I,by rw[h1];simp,by simp[h2],?_,?_⟩
    ·intro x hx;rcases fk.1 hx with rfl|hx
     ·exact⟨fun e=>q2 C9,hR⟩
     ·exact h3 x hx
    ·rw[jI,hB,h4,jJ]
theorem adj{sz bn:Nat}{T:List cj}{I:List (bf)}(h1:1≤sz)(h2:sz≤64)(hb:bn≤20000)(hR:kY T)(hl:T.length=I.length)(hI:∀x∈I,x≠[]∧kX bn x):eF sz bn (fQ sz T++I.flatMap (rM bn))=(T,I,0):=by
 have hd:=XY hR h1 h2 (I.flatMap (rM bn));have hL:zQ sz bn (fQ sz T++I.flatMap (rM bn))=(I,0):=by
  unfold zQ;rw[hd];simp only;rw[BH,hl,Om hb I [] hI];simp
 rw[Kp aa (by rw[hd]) (by rw[hL]),hd,hL]
theorem ahO{size bound:Int}{b:al}(h:(eF size bound b).2.2=0)(hs:size≤9223372036854775807):∃sz bn:Nat,size=sz∧bound=bn∧1≤sz∧sz≤64∧bn≤20000∧kY (eF size bound b).1∧(eF size bound b).1.length=(eF size bound b).2.1.length∧
  (∀x∈(eF size bound b).2.1,x≠[]∧kX bn x)∧fQ sz (eF size bound b).1++(eF size bound b).2.1.flatMap (rM bn)=b:=by
 have q1:¬(bound<0∨20000<bound):=fun q1=>by rw[Vr q1]at h;exact absurd h aB
 have q2:(dW size b).2.2=0:=bH fun q2=>by rw[Vs q1 q2]at h;exact q2 h
 have q3:(zQ size bound b).2=0:=bH fun q3=>by rw[Vt q1 q2 q3]at h;exact q3 h
 rw[Kp q1 q2 q3];have q4:¬(size<1∨64<size):=fun q=>by rw[uW q]at q2;exact absurd q2 aB
 obtain⟨sz,rfl⟩:=gJ (show 0≤size by omega);obtain⟨bn,rfl⟩:=gJ (show 0≤bound by omega);obtain⟨e1,e2,e3⟩:=MO (sz:=sz) aa aa q2;obtain⟨I,f1,f2,f3,f4⟩:=VS (bound:=bn) aa _ _ _ q3;rw[nG]at f1;have f1':(zQ sz bn b).1=I:=f1;rw[nH]at f3 f4;refine⟨sz,bn,rfl,rfl,aa,aa,aa,e1,?_,?_,?_⟩
 ·simp only;rw[f1',f2]
 ·simp only;rw[f1'];exact f3
 ·simp only;rw[f1',f4,e3,jJ]
def mc(I:List (bf)):List (List Int):=I.map fun l=>l.map (fun(n:Nat)=>(n:Int))
theorem RQ{bn:Nat}{T:List cj}{I:List (bf)}(hb:bn≤20000)(hR:kY T)(hl:T.length=I.length)(hI:∀x∈I,x≠[]∧kX bn x):x' bn T (mc I):=by
 refine⟨⟨aa,aa⟩,by simp[mc,hl],hR,fun x hx=>?_⟩;obtain⟨y,hy,rfl⟩:=pQ.1 hx;exact⟨fun e=>(hI y hy).1 (List.map_eq_nil_iff.1 e),(so _ _).2 (hI y hy).2⟩
theorem Oj{bn:Nat}(hb:bn≤20000):∀I:List (bf),(∀x∈I,x≠[]∧kX bn x)→lsB bn (mc I)=I.flatMap (rM bn)
 |[],_=>by simp[lsB,mc]
 |x::r,h=>by
  have ih:=Oj hb r fun y hy=>h y vQ;have e:PW bn (x.map (fun(n:Nat)=>(n:Int)))=(rM bn x,0):=J2 (by rintro(q|q|q);omega;omega;exact q ((so _ _).2 (h x ak).2));unfold lsB mc at ih⊢;rw[kC,jI,jI,ih,e]
theorem Ix{sz bn:Nat}{T:List cj}{I:List (bf)}(h1:1≤sz)(h2:sz≤64)(hb:bn≤20000)(hR:kY T)(hl:T.length=I.length)(hI:∀x∈I,x≠[]∧kX bn x):qG sz bn T (mc I)=(fQ sz T++I.flatMap (rM bn),0):=by
 rw[Kq h1 h2 (RQ hb hR hl hI)];unfold Ko;rw[Oj hb I hI]
theorem Eg{bound:Int}{T:List cj}{I:List (List Int)}(h:x' bound T I):∃(bn:Nat) (N:List (bf)),bound=bn∧bn≤20000∧I=mc N∧kY T∧T.length=N.length∧∀x∈N,x≠[]∧kX bn x:=by
 obtain⟨⟨h0,h1⟩,h2,h3,h4⟩:=h;obtain⟨bn,rfl⟩:=gJ h0;have e:I=mc (I.map fun l=>l.map Int.toNat):=by
  unfold mc;rw[vH]
  conv=>lhs;rw[←List.map_id I]
  refine sb fun x hx=>?_;obtain⟨xs,rfl⟩:=(h4 x hx).2.adO;simp[Function.comp_def]
 refine⟨bn,I.map fun l=>l.map Int.toNat,rfl,aa,e,h3,oS,fun x hx=>?_⟩;obtain⟨y,hy,rfl⟩:=pQ.1 hx;obtain⟨xs,rfl⟩:=(h4 y hy).2.adO;have e2:(xs.map (fun(n:Nat)=>(n:Int))).map Int.toNat=xs:=by simp[Function.comp_def]
 rw[e2];exact⟨fun q=>(h4 _ hy).1 (by rw[q];rfl),(so _ _).1 (h4 _ hy).2⟩
theorem apL{L1 L2:List Ls}(hL1:aK B w0 F 1 (.slice B1 L1.length b1) L1.length (L1.map zP))(hI1:ma B w0 F L1)(hL2:aK B w0 F 1 (.slice B2 L2.length b2) L2.length (L2.map zP))(hI2:ma B w0 F L2)(jF:L1.length≤1000000000)(wS:∀e∈L1,e.2.2.length≤9223372036854775807):
  a_ B w0 240 [.slice B1 L1.length b1,.slice B2 L2.length b2,.func (.func 241) #[] #[]] F (fun r L=>r= .bool (decide (fT L1=fT L2))∧L=F):=by
 refine fw func240 32 [0,1,2] ?_;refine jk ?_;refine aj (fun jZ=>?_) fun jZ=>?_
 ·refine bI ?_;exact⟨by rw[lu fun h=>jZ (by have:=dB List.length h;simp only[fT,eK]at this;omega)],rfl⟩
 ·refine cZ ?_;refine aE (fun zf zL zm=>∃(k:Nat),(k≤L1.length∧(fT L1).take k=(fT L2).take k)∧L1.length-k=zm∧Sub zf [(1,.slice B2 L2.length b2),(2,.func (.func 241) #[] #[]),(15,.slice B1 L1.length b1),(16,ah L1.length),(17,ah k)]∧Wk zL (F)) _ ⟨0,⟨bS _,rfl⟩,rfl,bp,.refl _⟩ ?_;rintro _ _ _ ⟨k,⟨hk,heq⟩,rfl,hs,hp⟩;refine aU hs hp ?_;clear hs hp;refine bz ?_;refine aj (fun jj=>?_) fun jj=>?_
  ·have xp:k<L1.length:=by omega
   have Ir:k<L2.length:=by omega
   have hi1:=hI1.get xp;have hi2:=hI2.get Ir;have tC:=wS _ (bg xp re);refine bI ?_;refine ab (au ag rfl aA aa (ams xp)) rfl ?_;refine bO ?_;refine ab (au ag rfl aA aa (ams Ir)) rfl ?_;refine bI ?_;refine uN (aN func241 rfl rfl) rfl rfl (apM aA aA tC) rfl ?_;rintro _ _ ⟨rfl,cA⟩;obtain rfl:=cA.symm;refine bA ?_;refine aj (fun Bu=>?_) fun Bu=>?_
   ·refine bA ?_;refine ve [6] ?_;refine bI ?_;exact⟨by
     rw[lu];intro h;refine Bu ?_;have:=dB (fun l=>l.getD k []) h;simpa[fT,List.getD,jq,fm xp,fm Ir]using this,rfl⟩
   ·refine bz ?_;refine ve [1,2,15,16,17] ?_;refine av ⟨_,aa,k+1,⟨aa,adh heq xp Ir (jG.1 Bu)⟩,rfl,bp,.refl _⟩
  ·refine cH ?_;exact⟨by
    have h4:fT L1=fT L2:=by
     have:=heq
     rwa [fA (by simp only[fT,eK];omega),fA (by simp only[fT,eK];omega)]at this
    rw[jT h4],rfl⟩
theorem aiD{T1 T2:List cj}{L1 L2:List Ls}(h1:aK B w0 F 1 (.slice A1 T1.length c1) T1.length (strs T1))(hL1:aK B w0 F 1 (.slice B1 L1.length b1) L1.length (L1.map zP))(hI1:ma B w0 F L1)(h2:aK B w0 F 1 (.slice A2 T2.length c2) T2.length (strs T2))(hL2:aK B w0 F 1 (.slice B2 L2.length b2) L2.length (L2.map zP))(hI2:ma B w0 F L2)(hs:T1.length≤1000000000)(jF:L1.length≤1000000000)(wS:∀e∈L1,e.2.2.length≤9223372036854775807):
  a_ B w0 195 [.agg [.slice A1 T1.length c1,.slice B1 L1.length b1].toArray,.agg [.slice A2 T2.length c2,.slice B2 L2.length b2].toArray] F (fun r L=>r= .bool (decide (T1=T2∧fT L1=fT L2))∧L=F):=by
 refine fw func195 17 [0,1] ?_;refine be ?_;refine bh fun g2=>?_;refine bh fun g3=>?_;refine bG ?_;refine bU 12 16 [] (T1=T2∧fT L1=fT L2) ?_ ?_
 ·refine b8 ?_;refine ai rfl (apN aA aA aa) ?_;refine aF ?_;refine cM (fun jx=>?_) fun jx=>?_
  ·refine bI ?_;refine ai rfl (apL aA (hI1.mono (gx [_,_] F)) aA (hI2.mono (gx [_,_] F)) jF wS) ?_;refine aF ?_;exact aP b_8
  ·refine bG ?_;exact aP b_8
 ·refine b8 ?_;refine aq (L':=F) (.skip (.skip (.refl _))) ?_;refine aF ?_;exact⟨rfl,rfl⟩
theorem anO{x:aI}{t:cj}(h:t∈trm x):t≠[]:=by
 rcases dz.1 ((rC _ _).1 h)with h|h
 ·have:=(Lj h).1;intro e;rw[e]at this;simp at this
 ·obtain⟨u,hu,rfl⟩:=pQ.1 h;simp
theorem ah5{f:Nat→List cj}{n q:Nat}{s:cj}:q∈Ol f n s↔q<n∧s∈f q:=by
 unfold Ol;rw[BC,kB];simp
theorem Mh{f:Nat→List cj}{n:Nat}{s:cj}:s∈rU f n↔∃q,q<n∧s∈f q:=by
 rw[rU,rC,List.mem_flatMap];simp only[kB]
theorem Jz{L:List aI}(hw:dU L≤1048576)(hn:L.length≤20000):x' L.length (rU (AZ L) L.length) ((Jy (AZ L) L.length).map fun l=>l.map (fun(n:Nat)=>(n:Int))):=by
 have hl:(rU (AZ L) L.length).length≤dU L:=by
  have h1:=uH ((List.range L.length).flatMap (AZ L));have h2:=C_ L L.length (gi _);rw[jS]at h2;unfold rU;omega
 have sQ:LV (rU (AZ L) L.length):=yN _;have hm:∀t∈rU (AZ L) L.length,t≠[]∧t.length≤25:=fun t h=>by
  obtain⟨q,_,hq⟩:=Mh.1 h;exact⟨anO hq,afK hq⟩
 refine⟨⟨aa,aa⟩,by simp[Jy],⟨fun i hi=>?_,aa⟩,fun x hx=>?_⟩
 ·obtain⟨h1,h2⟩:=hm _ (bg hi []);refine⟨h1,h2,?_⟩;unfold ft;by_cases e:i=0
  ·rw[ao e];exact Ow h1
  ·rw[aw e];refine CH.2 ?_;have:=rj.1 sQ (i-1) i aa hi aa;simpa[List.getD,fm hi,fm (show i-1<(rU (AZ L) L.length).length by omega)]using this
 ·obtain⟨y,hy,rfl⟩:=pQ.1 hx;obtain⟨s,hs,rfl⟩:=pQ.1 hy;refine⟨fun e=>R6.2 (Mh.1 hs) (List.map_eq_nil_iff.1 e),(so _ _).2 fun i hi=>⟨(ah5.1 (bg hi 0)).1,fun h0=>?_⟩⟩;have hp:(Ol (AZ L) L.length s).Pairwise (· < ·):=List.Pairwise.sublist List.filter_sublist List.pairwise_lt_range;have:=rj.1 hp (i-1) i aa hi aa;simpa[List.getD,fm hi,fm (show i-1<(Ol (AZ L) L.length s).length by omega)]using this
theorem Xy{P:Prop}(h:P:=by(have:=pD hn;omega)):P:=h
theorem wm:type_of% @List.flatten_cons:= @List.flatten_cons
def o2(o:aR):aR:=(o.1,o.2.1,o.2.2.1,0,0,0)
def mV(L:List aI):List (bf):=Jy (AZ L) L.length
def mW(L:List aI):List cj:=rU (AZ L) L.length
def qH(o:aR)(L:List aI):al:=(qG o.2.2.1 L.length (mW L) (mc (mV L))).1
def xP(ns ss:bf)(c i:Nat):al:=aS ns.sum++(aS ns.length++((ns.zip ss).flatMap (fun p=>aS p.1++aS p.2)++(aS c++aS i)))
def eQ(o:aR)(L:List aI):eH:=ju false o.2.1 (dR o false L) L
def oW(L:List aI):al:=cX (ku L)
def oY(o:aR)(L:List aI):al:=cX (qH o L)
def p_(o:aR)(L:List aI):al:=cX (xP (dR o false L) ((eQ o L).map List.length) (oW L).length (oY o L).length)
def dy(o:aR)(L:List aI):al:=(eQ o L).flatten++(oW L++(oY o L++(p_ o L++fF (p_ o L).length 4)))
def fX(o:aR)(L:List aI):al×Int:=if cB 2 (o2 o)≠0 then ([],cB 2 (o2 o)) else if cP L≠0 then ([],cP L) else (dy o L,0)
def ftK(b:al):Nat:=Cs.fixed ⟨b.drop (b.length-4),0,0⟩ 4
def ftD(b:al):al×Int:=aJ ((b.take (b.length-4)).drop (b.length-4-ftK b))
def fZ(b:al):al×al×Int:=
 if b.length<4 then ([],[],1) else if b.length-4<ftK b then ([],[],1) else (b.take (b.length-4-ftK b),(ftD b).1,(ftD b).2)
def te(m:Nat):Nat→Cs→bf→bf→bf×bf×Cs
 |0,s,ns,ss=>(ns,ss,s)
 |f+1,s,ns,ss=>if s.e≠0 then (ns,ss,s) else te m f ((s.bW m).bW 8388608) (ns++[s.int m]) (ss++[(s.bW m).int 8388608])
def Cw(d:al):Nat:=Cs.int ⟨d,0,0⟩ 20000
def dr1(d:al):Cs:=Cs.bW ⟨d,0,0⟩ 20000
def Lw(d:al):Nat:=(dr1 d).int (Cw d)
def dr2(d:al):Cs:=(dr1 d).bW (Cw d)
def fa(d:al):bf×bf×Cs:=te (Cw d) (Lw d) (dr2 d) [] []
def Cu(d:al):Nat:=(fa d).2.2.int 8388608
def UH(d:al):Cs:=(fa d).2.2.bW 8388608
def drI(d:al):Nat:=(UH d).int 8388608
def dr5(d:al):Cs:=((UH d).bW 8388608).xT
def Gz(d:al)(room:Nat):Int:=
 if (dr5 d).e≠0 then (dr5 d).e else if 0∈(fa d).1∨(fa d).1.sum≠Cw d∨(fa d).2.1.sum+Cu d+drI d≠room then 2 else 0
def rD:bf→al→eH
 |[],_=>[]
 |n::ss,r=>r.take n::rD ss (r.drop n)
structure ir where
 ns:bf
 ss:bf
 c:Nat
 i:Nat
 times:bf
 levels:al
 T:List cj
 I:List (bf)
 bC:eH
def ir.nil:ir:=⟨[],[],0,0,[],[],[],[],[]⟩
def qy(b:al):al:=(fZ b).1
def dT(b:al):al:=(fZ b).2.1
def boX(b:al):al:=(qy b).drop (fa (dT b)).2.1.sum
def wE(b:al):al:=(boX b).take (Cu (dT b))
def vB(b:al):al:=(boX b).drop (Cu (dT b))
def xJ(n:Nat)(ch:al):Int:=
 if (aJ ch).2≠0 then (aJ ch).2 else if (n_ n (aJ ch).1).2.2.2≠0 then (n_ n (aJ ch).1).2.2.2 else if (n_ n (aJ ch).1).2.2.1<(aJ ch).1.length then 2 else 0
def ei(o:aR)(b:al):ir×Int:=
 if cB 2 (o2 o)≠0 then (.nil,cB 2 (o2 o))
 else if (fZ b).2.2≠0 then (.nil,(fZ b).2.2)
 else if Gz (dT b) (qy b).length≠0 then (.nil,Gz (dT b) (qy b).length)
 else if xJ (fa (dT b)).1.sum (wE b)≠0 then (.nil,xJ (fa (dT b)).1.sum (wE b))
 else if (aJ (vB b)).2≠0 then (.nil,(aJ (vB b)).2)
 else if (eF o.2.2.1 ((fa (dT b)).1.sum:Nat) (aJ (vB b)).1).2.2≠0 then (.nil,(eF o.2.2.1 ((fa (dT b)).1.sum:Nat) (aJ (vB b)).1).2.2)
 else (⟨(fa (dT b)).1,(fa (dT b)).2.1,Cu (dT b),drI (dT b),(n_ ((fa (dT b)).1.sum:Nat) (aJ (wE b)).1).1,(n_ ((fa (dT b)).1.sum:Nat) (aJ (wE b)).1).2.1,
  (eF o.2.2.1 ((fa (dT b)).1.sum:Nat) (aJ (vB b)).1).1,(eF o.2.2.1 ((fa (dT b)).1.sum:Nat) (aJ (vB b)).1).2.1,rD (fa (dT b)).2.1 (qy b)⟩,0)
def pJ(ts:bf)(lv:al)(a:Nat)(L:List aI):List aI:=(List.range L.length).map fun i=>(ts.getD (a+i) 0,lv.getD (a+i) 0,(recAt L i).2.2.1,(recAt L i).2.2.2)
noncomputable def lZ(x:ir)(k:Nat):List aI×Int:=
 if (dK (x.bC.getD k [])).2.2≠0 then ([],(dK (x.bC.getD k [])).2.2)
 else if (dK (x.bC.getD k [])).2.1<(x.bC.getD k []).length then ([],2)
 else if (qO false (dK (x.bC.getD k [])).1).2≠0 then ([],(qO false (dK (x.bC.getD k [])).1).2)
 else if (qO false (dK (x.bC.getD k [])).1).1.length≠x.ns.getD k 0 then ([],2)
 else (pJ x.times x.levels (x.ns.take k).sum (qO false (dK (x.bC.getD k [])).1).1,0)
noncomputable def nY(x:ir):Nat→Nat→List aI→List aI×Int
 |0,_,out=>(out,0)
 |f+1,k,out=>if (lZ x k).2≠0 then ([],(lZ x k).2) else nY x f (k+1) (out++(lZ x k).1)
noncomputable def jl(x:ir):List aI×Int:=
 if (nY x x.bC.length 0 []).2≠0 then ([],(nY x x.bC.length 0 []).2)
 else if cP (nY x x.bC.length 0 []).1≠0 then ([],cP (nY x x.bC.length 0 []).1)
 else if¬(x.T=mW (nY x x.bC.length 0 []).1∧x.I=mV (nY x x.bC.length 0 []).1) then ([],15)
 else ((nY x x.bC.length 0 []).1,0)
theorem zj{a b:List (bf)}(h:mc a=mc b):a=b:=
 (List.map_inj_right (f:=fun l:bf=>l.map fun(n:Nat)=>(n:Int)) fun x y h=>(List.map_inj_right (f:=fun(n:Nat)=>(n:Int)) fun m n h=>Int.ofNat.inj h).1 h).1 h
theorem D1(b plain:Bool):∀(ns:bf) (L:List aI),(ju b plain ns L).length=ns.length
 |[],_=>rfl
 |n::ns,L=>by simp[ju,D1 b plain ns]
theorem H6{m:Nat}(hm:m≤20000):∀(ns ss:bf) (s:Cs) (r:al) (an tI:bf),ns.length=ss.length→s.e=0→(∀n∈ns,n≤m)→(∀n∈ss,n≤8388608)→
  s.rest=(ns.zip ss).flatMap (fun p=>aS p.1++aS p.2)++r→∃s',te m ns.length s an tI=(an++ns,tI++ss,s')∧nT s s' ((ns.zip ss).flatMap fun p=>aS p.1++aS p.2)
 |[],[],s,r,an,tI,_,h0,_,_,_=>⟨s,by simp[te],nT.nil h0⟩
 |[],_::_,_,_,_,_,h,_,_,_,_=>by simp at h
 |_::_,[],_,_,_,_,h,_,_,_,_=>by simp at h
 |n::ns,k::ss,s,r,an,tI,hl,h0,h1,h2,hr=>by
  have tg:s.rest=aS n++(aS k++((ns.zip ss).flatMap (fun p=>aS p.1++aS p.2)++r)):=by rw[hr];simp[bV]
  obtain⟨a1,d1⟩:=Cs.iB (m:=(m:Nat)) h0 (by have:=h1 n ak;omega) aa tg;have vF:=d1.cI tg;obtain⟨a2,d2⟩:=Cs.iB (m:=8388608) d1.e1 (by have:=h2 k ak;omega) aa vF;have hr3:=d2.cI vF;obtain⟨s',e1,e2⟩:=H6 hm ns ss _ r (an++[n]) (tI++[k]) vO d2.e1 (fun x hx=>h1 x oe) (fun x hx=>h2 x oe) hr3;refine⟨s',?_,?_⟩
  ·rw[ef,te,aw (by simpa using h0),a1,a2,e1];simp[bV]
  ·have:=(d1.trans d2).trans e2;simpa[bV]using this
theorem I9:∀(fs:eH) (r:al),rD (fs.map List.length) (fs.flatten++r)=fs
 |[],_=>rfl
 |f::fs,r=>by
  rw[kC,rD,wm,bV,yk,BH,I9 fs r]
theorem pD{l:bf}{n:Nat}(h:n∈l):n≤l.sum:=by
 induction l with
 |nil=>cases h
 |cons a r ih=>
  rw[IE];rcases fk.1 h with e|e
  ·subst e;omega
  ·have:=ih e;omega
theorem ab_(fs:eH):fs.flatten.length=(fs.map List.length).sum:=List.length_flatten
theorem J8{S:Nat}:∀{g l:bf},CX S l g→g.sum=l.length∧∀n∈g,1≤n
 |[],l,h=>by
  have:l=[]:=h;subst this;exact⟨rfl,fun n hn=>by cases hn⟩
 |n::g,l,h=>by
  obtain⟨h1,h2,_,_,h5⟩:=h;obtain⟨i1,i2⟩:=J8 h5;rw[iG]at i1;refine⟨by rw[IE,i1];omega,fun m hm=>?_⟩;rcases fk.1 hm with e|e
  ·subst e;exact h1
  ·exact i2 m e
theorem Cz(o:aR)(b:Bool)(L:List aI):(dR o b L).sum=L.length∧∀n∈dR o b L,1≤n:=by
 have:=J8 (ky o.1.toNat (lens b L))
 rwa [et]at this
theorem SS(L:List aI):∀(a n:Nat),a+n≤L.length→pJ (L.map (·.1)) (lv L) a (((L.drop a).take n).map (norm false))=(L.drop a).take n:=by
 intro a n h;apply pZ
 ·simp[pJ]
 ·intro i h1 h2;have hi:i<n:=by simp[eS]at h2;omega
  have hl:a+i<L.length:=by omega
  simp only[pJ,Ex,GY,Eu,List.getElem_drop];have e1:(L.map (·.1)).getD (a+i) 0=L[a+i].1:=by simp[bk,fm hl]
  have e2:(lv L).getD (a+i) 0=L[a+i].2.1:=by simp[lv,bk,fm hl]
  have e3:recAt (((L.drop a).take n).map (norm false)) i=norm false L[a+i]:=by
   unfold recAt;rw[bk,fm oS];simp
  rw[e1,e2,e3];simp[norm]
theorem IJ{S:Nat}(hS:S≤32768){x:ir}{L:List aI}(hx:∀r∈L,r.fits)(plain:Bool)(h1:x.bC=ju false plain x.ns L)(h2:x.times=L.map (·.1))(h3:x.levels=lv L)(hf0:CX S (lens false L) x.ns):
  ∀(f k:Nat),k+f=x.ns.length→(∀M,CX S (lens false (L.drop (x.ns.take k).sum)) (x.ns.drop k)→ju false plain (x.ns.drop k) (L.drop (x.ns.take k).sum)=x.bC.drop k→M=L.take (x.ns.take k).sum→nY x f k M=(L,0))
 |0,k,hk,M,hf,Io,hM=>by
  have:(x.ns.take k)=x.ns:=fA aa;rw[this,(J8 hf0).1,et,jS]at hM;rw[nY,hM]
 |f+1,k,hk,M,hf,Io,hM=>by
  have B_:k<x.ns.length:=by omega
  obtain⟨a,ha⟩:=cK ((x.ns.take k).sum);obtain⟨n,hn⟩:=cK (x.ns.getD k 0);rw[←ha]at hf Io hM;have hd:=dx B_ 0;rw[←hn]at hd;rw[hd]at hf Io;obtain⟨f1,f2,f3,f4,f5⟩:=hf;rw[et,iG]at f2;have Iv:=oJ hS (b:=false) (fun r hr=>hx r (rk hr)) f1 f3;rw[ju]at Io;have hfk:x.bC.getD k []=(jA (c_ false ((L.drop a).take n)) plain).1:=by
   have:(x.bC.drop k)[0]? =some (jA (c_ false ((L.drop a).take n)) plain).1:=by rw[←Io];rfl
   rw[k_7,tk]at this;rw[bk,this];rfl
  have hbk:=Mi (c_ false ((L.drop a).take n)) plain Iv [];rw[gj]at hbk;have t_:qO false (c_ false ((L.drop a).take n))=(((L.drop a).take n).map (norm false),0):=by
   unfold qO;rw[AQ _ ((L.drop a).take n) _ [] rfl (by unfold Cs.left;simp only;omega) (fun r hr=>hx r (rk (l6 hr))) aa7,nG]
  have xo:lZ x k=((L.drop a).take n,0):=by
   unfold lZ;rw[hfk,hbk];simp only;rw[t_];simp only;rw[aw ak,aw aa,aw ak,aw (by rw[eK,eS,iG,←hn];omega),h2,h3,←ha,SS L a n aa]
  have wT:(x.ns.take (k+1)).sum=a+n:=by rw[ba B_ 0,wi,←ha,←hn];simp
  rw[nY,xo,aw ak];simp only;refine IJ hS hx plain h1 h2 h3 hf0 f (k+1) aa _ ?_ ?_ ?_
  ·rw[wT,←qh,wY];exact f5
  ·have:(x.bC.drop k).tail=x.bC.drop (k+1):=by rw[List.tail_drop]
   rw[←this,←Io,List.tail_cons,wT,qh]
  ·rw[wT,hM,List.take_add]
theorem HA{o:aR}{L:List aI}(ho:cB 2 (o2 o)=0)(hc:cP L=0)(hx:∀x∈L,x.1<18446744073709551616)(hw:dU L≤1048576)(hlen:(dy o L).length≤8388608):
  ∃x,ei o (dy o L)=(x,0)∧x.ns=dR o false L∧jl x=(L,0):=by
 have fG:nZ 2 (o2 o):=by
  unfold cB at ho;rw[ao (.inr (.inl rfl))]at ho;exact bH fun h=>by rw[aw h]at ho;simp at ho
 obtain⟨⟨m1,m2⟩,_,m4,_,_⟩:=fG;obtain⟨m5,m6⟩:=m4 (.inr rfl);have m1:16≤o.1:=m1;have m2:o.1≤32768:=m2;have m5:1≤o.2.2.1:=m5;have m6:o.2.2.1≤64:=m6;have tB:L.length≤20000∧(∀x∈L,x.fits):=by
  unfold cP at hc;have:¬(20000<L.length∨(∃x∈L,uq x)∨1048576<dU L):=fun h=>by rw[ao h]at hc;simp at hc
  refine⟨aa,fun x h=>⟨hx x h,?_,?_⟩⟩
  ·exact yf fun k=>this (.inr (.inl ⟨x,h,.inl k⟩))
  ·exact yf fun k=>this (.inr (.inl ⟨x,h,.inr k⟩))
 obtain⟨hl,hL⟩:=tB;obtain⟨sz,iZ⟩:∃sz:Nat,o.2.2.1=sz:=⟨o.2.2.1.toNat,aa⟩
 obtain⟨P8,Rw⟩:=Cz o false L;have GL:=ky o.1.toNat (lens false L);have GM:(dR o false L).length≤L.length:=by unfold dR;have:=mZ o.1.toNat (lens false L);rwa [et]at this
 obtain⟨fl,l9⟩:=cK ((eQ o L).flatten);obtain⟨cs,tV⟩:=cK (oW L);obtain⟨ix,hix⟩:=cK (oY o L);obtain⟨dr,YA⟩:=cK (p_ o L);obtain⟨b,hb⟩:=cK (dy o L);have zN:b=fl++(cs++(ix++(dr++fF dr.length 4))):=by rw[hb,l9,tV,hix,YA];rfl
 have de:b.length=fl.length+cs.length+ix.length+dr.length+4:=by rw[zN];simp;omega
 rw[←hb]at hlen;have aqn:fl.length=((eQ o L).map List.length).sum:=by rw[l9,ab_]
 have hk:ftK b=dr.length:=by
  have e:b.drop (b.length-4)=fF dr.length 4:=by
   have:b=(fl++(cs++(ix++dr)))++fF dr.length 4:=by rw[zN];simp[bV]
   rw[this];exact qi bR
  unfold ftK Cs.fixed;rw[e,aw aa];have ht:Cs.take ⟨fF dr.length 4,0,0⟩ 4=fF dr.length 4:=by
   have:=(Cs.mz (s:=⟨fF dr.length 4,0,0⟩) (t:=fF dr.length 4) (r:=[]) rfl (n:=4) ak aa7).1;exact this
  rw[ht,Ez];exact i_ aa
 have hbt:b.take (b.length-4)=(fl++(cs++ix))++dr:=by
  have:b=((fl++(cs++ix))++dr)++fF dr.length 4:=by rw[zN];simp[bV]
  rw[this];exact pv bR
 have hft:fZ b=(fl++(cs++ix),xP (dR o false L) ((eQ o L).map List.length) cs.length ix.length,0):=by
  have e1:(b.take (b.length-4)).drop (b.length-4-ftK b)=dr:=by
   rw[hbt,hk];exact qi bR
  have e2:b.take (b.length-4-ftK b)=fl++(cs++ix):=by
   have:b=(fl++(cs++ix))++(dr++fF dr.length 4):=by rw[zN];simp[bV]
   rw[hk]
   conv=>lhs;arg 2;rw[this]
   exact pv bR
  have e3:ftD b=(xP (dR o false L) ((eQ o L).map List.length) cs.length ix.length,0):=by
   unfold ftD;rw[e1,YA,tV,hix];exact jt _
  unfold fZ;rw[aw aa,aw (by rw[hk];omega),e2,e3]
 obtain⟨D,hD⟩:=cK (xP (dR o false L) ((eQ o L).map List.length) cs.length ix.length);have r0:Cs.rest ⟨D,0,0⟩=aS (dR o false L).sum++(aS (dR o false L).length++(((dR o false L).zip ((eQ o L).map List.length)).flatMap (fun p=>aS p.1++aS p.2)++(aS cs.length++aS ix.length))):=by
  unfold Cs.rest;rw[tp,hD];rfl
 obtain⟨n1,d1⟩:=Cs.iB (m:=20000) rfl aa aa r0;have r1:=d1.cI r0;have eR:Cw D=L.length:=by unfold Cw;rw[n1,P8]
 obtain⟨n2,d2⟩:=Cs.iB (m:=(L.length:Nat)) d1.e1 aa aa r1;have r2:=d2.cI r1;have eB:Lw D=(dR o false L).length:=by unfold Lw dr1;rw[eR];exact n2
 have e2:dr2 D=(Cs.bW ⟨D,0,0⟩ 20000).bW (L.length:Nat):=by unfold dr2 dr1;rw[eR]
 obtain⟨s3,h3,d3⟩:=H6 (m:=L.length) hl (dR o false L) ((eQ o L).map List.length) _ _ [] [] (by rw[eK];unfold eQ;rw[D1]) d2.e1 (fun n hn=>Xy) (fun n hn=>Xy) r2;have e3:fa D=(dR o false L,(eQ o L).map List.length,s3):=by unfold fa;rw[eR,eB,e2,h3];simp
 have r3:=d3.cI r2;obtain⟨n4,d4⟩:=Cs.iB (x:=cs.length) (m:=8388608) d3.e1 aa aa r3;have r4:=d4.cI r3;obtain⟨n5,d5⟩:=Cs.iB (x:=ix.length) (m:=8388608) d4.e1 aa aa (r:=[]) (by rw[gj];exact r4);have eC:Cu D=cs.length:=by unfold Cu;rw[e3];exact n4
 have e4:UH D=s3.bW 8388608:=by unfold UH;rw[e3]
 have eI:drI D=ix.length:=by unfold drI;rw[e4];exact n5
 have e5:(dr5 D).e=0:=by
  unfold dr5;rw[e4];exact Cs.ab0 d5.e1 (d5.cI (by rw[gj];exact r4))
 have hdE:Gz D (fl++(cs++ix)).length=0:=by
  unfold Gz;rw[e5,aw ak,e3,eR,eC,eI];refine aw fun h=>?_;rcases h with h|h|h
  ·have:=Rw 0 h;omega
  ·exact h P8
  ·apply h;simp only[aY];omega
 have hbx:boX b=cs++ix:=by
  unfold boX qy dT;rw[hft];simp only;rw[←hD,e3];simp only;exact qi aqn
 have hbc:wE b=cs:=by
  unfold wE dT;rw[hbx,hft];simp only;rw[←hD,eC];exact pv rfl
 have hbi:vB b=ix:=by
  unfold vB dT;rw[hbx,hft];simp only;rw[←hD,eC];exact qi rfl
 have hcc:aJ cs=(ku L,0):=by rw[tV];exact jt _
 have hci:aJ ix=(qH o L,0):=by rw[hix];exact jt _
 have RJ:n_ ((L.length:Nat):Int) (ku L)=(L.map (·.1),lv L,(ku L).length,0):=by
  have:=XR hx hl []
  rwa [gj]at this
 have hio:=Jz hw hl;obtain⟨bn,N,asp,ahA,hN,hRT,hTl,hNI⟩:=Eg hio;have hbn:bn=L.length:=by omega
 subst hbn;have hNe:N=mV L:=by
  have:mc N=mc (mV L):=by rw[←hN];rfl
  exact zj this
 subst hNe;have hxe:qH o L=fQ sz (mW L)++(mV L).flatMap (rM L.length):=by
  unfold qH;rw[iZ,Ix (T:=mW L) (I:=mV L) aa aa ahA hRT hTl hNI]
 have hir:eF o.2.2.1 ((L.length:Nat):Int) (qH o L)=(mW L,mV L,0):=by
  rw[hxe,iZ];exact adj (T:=mW L) (I:=mV L) aa aa ahA hRT hTl hNI
 have x7:xJ (dR o false L).sum cs=0:=by
  unfold xJ;rw[hcc,P8];simp only;rw[RJ];simp
 refine⟨⟨dR o false L,(eQ o L).map List.length,cs.length,ix.length,L.map (·.1),lv L,mW L,mV L,eQ o L⟩,?_,rfl,?_⟩
 ·have CB:qy b=fl++(cs++ix):=by unfold qy;rw[hft]
  have P4:dT b=D:=by unfold dT;rw[hft,hD]
  rw[←hb];unfold ei;rw[ho,aw ak,hft];simp only;rw[aw ak,CB,P4,hdE,aw ak,e3,hbc,hbi];simp only;rw[x7,aw ak,hci];simp only;rw[aw ak,P8,hir];simp only;rw[aw ak,eC,eI,hcc];simp only;rw[RJ,l9,I9]
 ·have NA:nY ⟨dR o false L,(eQ o L).map List.length,cs.length,ix.length,L.map (·.1),lv L,mW L,mV L,eQ o L⟩ (eQ o L).length 0 []=(L,0):=
   IJ (S:=o.1.toNat) aa hL o.2.1 rfl rfl rfl GL (eQ o L).length 0 (by simp only[mw];unfold eQ;rw[D1]) [] (by simp only[z8,List.sum_nil,tp];exact GL) (by simp[eQ]) ak
  unfold jl;simp only;rw[NA];simp only;rw[aw ak,hc,aw ak,aw ak]
def pU(a:Nat):Nat:=if a<128 then 2*a else (2*a-256) ^^^ 29
def fj:Nat→Nat→Nat→Nat→Nat
 |0,_,_,out=>out
 |f+1,a,b,out=>if b=0 then out else fj f (pU a) (b/2) (if b%2=1 then out ^^^ a else out)
def fc(a b:Nat):Nat:=fj 8 a b 0
theorem nW:∀a,a<256→pU a<256:=by decide+kernel
theorem vw{a b:Nat}(ha:a<256)(hb:b<256):a ^^^ b<256:=vZ (n:=8) ha hb
theorem ack:((List.range 256).all fun a=>(List.range 256).all fun b=>Nat.beq (pU (a ^^^ b)) (pU a ^^^ pU b))=true:=by decide+kernel
theorem U5{a b:Nat}(ha:a<256)(hb:b<256):pU (a ^^^ b)=pU a ^^^ pU b:=by
 have h:=yc.1 (yc.1 ack a (kB.2 ha)) b (kB.2 hb);exact rm h
theorem atE(a b c d:Nat):(a ^^^ b) ^^^ (c ^^^ d)=(a ^^^ c) ^^^ (b ^^^ d):=by
 rw[Nat.xor_assoc,Nat.xor_assoc];congr 1;rw[←Nat.xor_assoc,Nat.xor_comm b c,Nat.xor_assoc]
theorem yA:∀(f a a' b o o':Nat),a<256→a'<256→fj f (a ^^^ a') b (o ^^^ o')=fj f a b o ^^^ fj f a' b o'
 |0,a,a',b,o,o',_,_=>rfl
 |f+1,a,a',b,o,o',ha,zM=>by
  unfold fj;by_cases hb:b=0
  ·rw[ao hb,ao hb,ao hb]
  ·rw[aw hb,aw hb,aw hb,U5 ha zM];by_cases h1:b%2=1
   ·rw[ao h1,ao h1,ao h1,atE];exact yA f _ _ _ _ _ (nW a ha) (nW a' zM)
   ·rw[aw h1,aw h1,aw h1];exact yA f _ _ _ _ _ (nW a ha) (nW a' zM)
theorem KI:∀(f a b o:Nat),a<256→o<256→fj f a b o<256
 |0,a,b,o,_,ho=>ho
 |f+1,a,b,o,ha,ho=>by
  unfold fj;split
  ·exact ho
  ·split
   ·exact KI f _ _ _ (nW a ha) (vw ho ha)
   ·exact KI f _ _ _ (nW a ha) ho
theorem KH:∀(f a b o:Nat),a<256→o<256→fj f (pU a) b (pU o)=pU (fj f a b o)
 |0,a,b,o,_,_=>rfl
 |f+1,a,b,o,ha,ho=>by
  unfold fj;by_cases hb:b=0
  ·rw[ao hb,ao hb]
  ·rw[aw hb,aw hb];by_cases h1:b%2=1
   ·rw[ao h1,ao h1,←U5 ho ha];exact KH f _ _ _ (nW a ha) (vw ho ha)
   ·rw[aw h1,aw h1];exact KH f _ _ _ (nW a ha) ho
theorem aid{a a':Nat}(b:Nat)(ha:a<256)(zM:a'<256):fc (a ^^^ a') b=fc a b ^^^ fc a' b:=yA 8 a a' b 0 0 ha zM
theorem mul_lt{a:Nat}(b:Nat)(ha:a<256):fc a b<256:=KI 8 a b 0 ha aB
theorem aqQ{a:Nat}(b:Nat)(ha:a<256):fc (pU a) b=pU (fc a b):=KH 8 a b 0 ha aB
theorem aku:∀b,b<256→fc 1 b=b:=by decide+kernel
theorem EN:∀b,b<256→fc 0 b=0:=by decide+kernel
def gfI:Nat→Nat→Nat
 |0,x=>x
 |i+1,x=>pU (gfI i x)
def gfP(i:Nat):Nat:=gfI i 1
theorem Ka{x:Nat}(h:x<256):∀i,gfI i x<256
 |0=>h
 |i+1=>nW _ (Ka h i)
theorem U6(i j x:Nat):gfI (i+j) x=gfI i (gfI j x):=by
 induction i with
 |zero=>rw[mw];rfl
 |succ i ih=>rw[show i+1+j=(i+j)+1 by omega];show pU _=pU _;rw[ih]
theorem Ot{b:Nat}(hb:b<256):∀i,fc (gfP i) b=gfI i b
 |0=>aku b hb
 |i+1=>by
  show fc (pU (gfP i)) b=pU (gfI i b);rw[aqQ b (show gfP i<256 from Ka aB i),Ot hb i]
theorem alS(i:Nat):gfP i<256:=Ka aB i
theorem aaR(i j:Nat):fc (gfP i) (gfP j)=gfP (i+j):=by
 rw[Ot (alS j)];exact(U6 i j 1).symm
def alP:Nat→Nat→bf
 |0,_=>[]
 |f+1,x=>x::alP f (pU x)
theorem Nn:∀(f i x:Nat),x∈alP f (gfP i)→∃k,k<f∧x=gfP (i+k)
 |0,i,x,h=>by cases h
 |f+1,i,x,h=>by
  rcases fk.1 h with h|h
  ·exact⟨0,aa,h⟩
  ·obtain⟨k,hk,e⟩:=Nn f (i+1) x h;exact⟨k+1,aa,by rw[e];congr 1;omega⟩
theorem ahq:((List.range 256).all fun a=>Nat.beq a 0||(alP 255 1).any (Nat.beq a))=true:=by decide+kernel
theorem Kb{a:Nat}(ha:a<256)(h0:a≠0):∃i,i<255∧a=gfP i:=by
 have h:=yc.1 ahq a (kB.2 ha);rw[Bool.or_eq_true]at h;rcases h with h|h
 ·exact absurd (rm h) h0
 ·obtain⟨x,hx,e⟩:=List.any_eq_true.1 h;obtain⟨k,hk,e2⟩:=Nn 255 0 x hx;rw[mw]at e2;exact⟨k,hk,(rm e).trans e2⟩
theorem Zm{a b:Nat}(ha:a<256)(hb:b<256):fc a b=fc b a:=by
 have hz:∀x,x<256→fc x 0=0:=by decide+kernel
 by_cases h1:a=0
 ·subst h1;rw[EN b hb,hz b hb]
 ·by_cases h2:b=0
  ·subst h2;rw[EN a ha,hz a ha]
  ·obtain⟨i,_,rfl⟩:=Kb ha h1;obtain⟨j,_,rfl⟩:=Kb hb h2;rw[aaR,aaR,sT]
theorem Sl{a b c:Nat}(ha:a<256)(hb:b<256)(hc:c<256):fc (fc a b) c=fc a (fc b c):=by
 by_cases h1:a=0
 ·subst h1;rw[EN b hb,EN c hc,EN _ (mul_lt c hb)]
 ·by_cases h2:b=0
  ·subst h2;have hz:∀x,x<256→fc x 0=0:=by decide+kernel
   rw[hz a ha,EN c hc,hz a ha]
  ·obtain⟨i,_,rfl⟩:=Kb ha h1;obtain⟨j,_,rfl⟩:=Kb hb h2;rw[aaR,Ot hc,Ot hc,Ot (Ka hc j),U6]
theorem Bm{P:Prop}(h:P:=by(simp[hi])):P:=h
theorem s6:type_of% @UInt8.xor_assoc:= @UInt8.xor_assoc
def gm(a b:UInt8):UInt8:=UInt8.ofNat (fc a.toNat b.toNat)
theorem sC(a:UInt8):a.toNat<256:=lT a
theorem iA(a b:UInt8):(gm a b).toNat=fc a.toNat b.toNat:=by
 unfold gm;rw[oi];exact i_ (mul_lt _ (sC a))
theorem ob{a b:UInt8}(h:a.toNat=b.toNat):a=b:=qf.1 h
theorem iS(a b:UInt8):gm a b=gm b a:=ob (by rw[iA,iA];exact Zm (sC a) (sC b))
theorem jD(a b c:UInt8):gm (gm a b) c=gm a (gm b c):=ob (by rw[iA,iA,iA,iA];exact Sl (sC a) (sC b) (sC c))
theorem jv(a:UInt8):gm 1 a=a:=ob (by rw[iA];exact aku _ (sC a))
theorem iT(a:UInt8):gm 0 a=0:=ob (by rw[iA];exact EN _ (sC a))
theorem U9(a:UInt8):gm a 1=a:=by rw[iS];exact jv a
theorem jE(a:UInt8):gm a 0=0:=by rw[iS];exact iT a
theorem D6(a b c:UInt8):gm (a ^^^ b) c=gm a c ^^^ gm b c:=ob (by
 rw[iA,UInt8.toNat_xor,UInt8.toNat_xor,iA,iA];exact aid _ (sC a) (sC b))
theorem Ke(a b c:UInt8):gm c (a ^^^ b)=gm c a ^^^ gm c b:=by rw[iS,D6,iS a,iS b]
def tR:Nat→Nat→Nat→Nat→Nat
 |0,_,_,out=>out
 |f+1,a,n,out=>if n=0 then out else tR f (fc a a) (n/2) (if n%2=1 then fc out a else out)
def q7(a:Nat):Nat:=if a=0 then 0 else tR 8 a 254 1
theorem Yl:((List.range 256).all fun a=>Nat.blt (q7 a) 256)=true:=by decide+kernel
theorem acm{a:Nat}(h:a<256):q7 a<256:=by simpa using yc.1 Yl a (kB.2 h)
theorem alQ:((List.range 256).all fun a=>Nat.beq a 0||Nat.beq (fc a (q7 a)) 1)=true:=by decide+kernel
def kM(a:UInt8):UInt8:=UInt8.ofNat (q7 a.toNat)
theorem wL(a:UInt8):(kM a).toNat=q7 a.toNat:=by
 unfold kM;rw[oi];exact i_ (acm (sC a))
theorem u7{a:UInt8}(h:a≠0):gm a (kM a)=1:=ob (by
 rw[iA,wL];have:=yc.1 alQ a.toNat (kB.2 (sC a));rw[Bool.or_eq_true]at this;rcases this with h1|h1
 ·exact absurd (ob (rm h1)) h
 ·exact rm h1)
theorem D5{a:UInt8}(h:a≠0):gm (kM a) a=1:=by rw[iS];exact u7 h
theorem u6{a b:UInt8}(ha:a≠0)(h:gm a b=0):b=0:=by
 have:gm (kM a) (gm a b)=b:=by rw[←jD,D5 ha,jv]
 rw[←this,h,jE]
theorem Kd{a:UInt8}(h:a≠0):kM a≠0:=fun k=>by
 have:=u7 h;rw[k,jE]at this;exact absurd this aB
theorem iz(a:UInt8):a ^^^ a=0:=UInt8.xor_self
theorem fi(a:UInt8):a ^^^ 0=a:=UInt8.xor_zero
theorem vy(a:UInt8):0 ^^^ a=a:=UInt8.zero_xor
theorem CU{a b:UInt8}(h:a ^^^ b=0):a=b:=by
 have:(a ^^^ b) ^^^ b=a:=by rw[s6,iz,fi]
 rw[←this,h,vy]
theorem vx(a b c d:UInt8):(a ^^^ b) ^^^ (c ^^^ d)=(a ^^^ c) ^^^ (b ^^^ d):=by
 rw[s6,s6];congr 1;rw[←s6,UInt8.xor_comm b c,s6]
def xs:Nat→(Nat→UInt8)→UInt8
 |0,_=>0
 |n+1,f=>xs n f ^^^ f n
theorem pP{f g:Nat→UInt8}:∀{n:Nat},(∀i,i<n→f i=g i)→xs n f=xs n g
 |0,_=>rfl
 |n+1,h=>by rw[xs,xs,pP fun i hi=>h i aa,h n aa]
theorem Ln{f:Nat→UInt8}:∀{n:Nat},(∀i,i<n→f i=0)→xs n f=0
 |0,_=>rfl
 |n+1,h=>by rw[xs,Ln fun i hi=>h i aa,h n aa,iz]
theorem Lm(f g:Nat→UInt8):∀n,xs n (fun i=>f i ^^^ g i)=xs n f ^^^ xs n g
 |0=>(iz 0).symm
 |n+1=>by rw[xs,xs,xs,Lm f g n,vx]
theorem F5(c:UInt8)(f:Nat→UInt8):∀n,xs n (fun i=>gm c (f i))=gm c (xs n f)
 |0=>(jE c).symm
 |n+1=>by rw[xs,xs,F5 c f n,Ke]
theorem F6{f:Nat→UInt8}:∀{n:Nat} (k:Nat),k<n→(∀i,i<n→i≠k→f i=0)→xs n f=f k
 |0,k,h,_=>by omega
 |n+1,k,h,hz=>by
  rw[xs];by_cases hk:k=n
  ·subst hk;rw[Ln fun i hi=>hz i aa aa,vy]
  ·rw[F6 k aa fun i hi hik=>hz i aa hik,hz n aa (Ne.symm hk),fi]
def ls:bf→(Nat→UInt8)→UInt8
 |[],_=>0
 |j::J,f=>f j ^^^ ls J f
theorem yw{f g:Nat→UInt8}:∀{J:bf},(∀j,j∈J→f j=g j)→ls J f=ls J g
 |[],_=>rfl
 |j::J,h=>by rw[ls,ls,h j ak,yw fun i hi=>h i Bm]
theorem KE{f:Nat→UInt8}:∀{J:bf},(∀j,j∈J→f j=0)→ls J f=0
 |[],_=>rfl
 |j::J,h=>by rw[ls,h j ak,KE fun i hi=>h i Bm,iz]
theorem R7(f g:Nat→UInt8):∀J,ls J (fun i=>f i ^^^ g i)=ls J f ^^^ ls J g
 |[]=>(iz 0).symm
 |j::J=>by rw[ls,ls,ls,R7 f g J,vx]
theorem R8(c:UInt8)(f:Nat→UInt8):∀J,ls J (fun i=>gm c (f i))=gm c (ls J f)
 |[]=>(jE c).symm
 |j::J=>by rw[ls,ls,R8 c f J,Ke]
theorem ah6{f:Nat→UInt8}{J K:bf}(h:J.Perm K):ls J f=ls K f:=by
 induction h with
 |nil=>rfl
 |cons x _ ih=>rw[ls,ls,ih]
 |swap x y l=>rw[ls,ls,ls,ls,←s6,←s6,UInt8.xor_comm (f y)]
 |trans _ _ h1 h2=>exact h1.trans h2
theorem Bq:∀(n:Nat) (J X:bf) (v x y:Nat→UInt8),J.length=n→n≤X.length→J.Nodup→X.Nodup→
  (∀i j,i∈J→j∈J→y i=y j→i=j)→(∀i j,i∈X→j∈X→x i=x j→i=j)→(∀i j,i∈X→j∈J→x i≠y j)→
  (∀i,i∈X→ls J (fun j=>gm (v j) (kM (x i ^^^ y j)))=0)→∀j,j∈J→v j=0
 |0,J,X,v,x,y,hJ,hX,nJ,nX,iJ,iX,Vp,h,j,hj=>by
  rw[VD.1 hJ]at hj;cases hj
 |n+1,[],X,v,x,y,hJ,hX,nJ,nX,iJ,iX,Vp,h,j,hj=>by cases hj
 |n+1,j1::J,[],v,x,y,hJ,hX,nJ,nX,iJ,iX,Vp,h,j,hj=>by simp at hX
 |n+1,j1::J,x0::X,v,x,y,hJ,hX,nJ,nX,iJ,iX,Vp,h,j,hj=>by
  have nJ1:=Et.1 nJ;have nX1:=Et.1 nX;have ne0:∀i k,i∈x0::X→k∈j1::J→x i ^^^ y k≠0:=fun i k hi hk e=>Vp i k hi hk (CU e);have hd:∀i,i∈x0::X→ls J (fun k=>gm (gm (v k) (y j1 ^^^ y k)) (kM (x i ^^^ y k)))=v j1 ^^^ ls J v:=by
   intro i hi;have h1:=h i hi;rw[ls]at h1;have h2:gm (x i ^^^ y j1) (gm (v j1) (kM (x i ^^^ y j1)) ^^^ ls J fun k=>gm (v k) (kM (x i ^^^ y k)))=0:=by rw[h1,jE]
   rw[Ke,←R8]at h2;have e1:gm (x i ^^^ y j1) (gm (v j1) (kM (x i ^^^ y j1)))=v j1:=by
    rw[iS (v j1),←jD,u7 (ne0 i j1 hi ak),jv]
   have e2:ls J (fun k=>gm (x i ^^^ y j1) (gm (v k) (kM (x i ^^^ y k))))=ls J v ^^^ ls J (fun k=>gm (gm (v k) (y j1 ^^^ y k)) (kM (x i ^^^ y k))):=by
    rw[←R7];refine yw fun k hk=>?_;have e3:x i ^^^ y j1=(x i ^^^ y k) ^^^ (y j1 ^^^ y k):=by rw[vx,iz,fi]
    rw[e3,D6,iS (v k) (kM _),←jD,u7 (ne0 i k hi xy),jv,iS (kM _) (v k),←jD,iS (y j1 ^^^ y k) (v k)]
   rw[e1,e2,←s6]at h2;exact(CU h2).symm
  have key:∀k,k∈J→gm (gm (v k) (y j1 ^^^ y k)) (kM (x x0 ^^^ y k))=0:=by
   refine Bq n J X (fun k=>gm (gm (v k) (y j1 ^^^ y k)) (kM (x x0 ^^^ y k))) x y (by simpa using hJ) (by simpa using hX) nJ1.2 nX1.2 (fun i k hi hk=>iJ i k Bm xy) (fun i k hi hk=>iX i k Bm xy) (fun i k hi hk=>Vp i k Bm xy) ?_;intro i hi;have sa:x i ^^^ x x0≠0:=fun e=>nX1.1 (iX i x0 Bm ak (CU e)▸hi);have h1:=hd i Bm;have h2:=hd x0 ak;have h3:ls J (fun k=>gm (gm (v k) (y j1 ^^^ y k)) (kM (x i ^^^ y k))) ^^^ ls J (fun k=>gm (gm (v k) (y j1 ^^^ y k)) (kM (x x0 ^^^ y k)))=0:=by rw[h1,h2,iz]
   rw[←R7]at h3;refine u6 sa ?_;rw[←R8,←h3];refine yw fun k hk=>?_;obtain⟨a,ha⟩:=cK (gm (v k) (y j1 ^^^ y k));obtain⟨p,hp⟩:=cK (x i ^^^ y k);obtain⟨q,hq⟩:=cK (x x0 ^^^ y k);have Vl:p≠0:=hp▸ne0 i k Bm xy;have hq0:q≠0:=hq▸ne0 x0 k ak xy;have e3:x i ^^^ x x0=p ^^^ q:=by rw[hp,hq,vx,iz,fi]
   rw[←ha,←hp,←hq,e3,D6];have e4:gm p (gm (gm a (kM q)) (kM p))=gm a (kM q):=by rw[iS (gm a (kM q)),←jD,u7 Vl,jv]
   have e5:gm q (gm (gm a (kM q)) (kM p))=gm a (kM p):=by rw[iS a (kM q),jD,←jD,u7 hq0,jv]
   rw[e4,e5,UInt8.xor_comm]
  have hz:∀k,k∈J→v k=0:=by
   intro k hk;have h1:=key k hk;rw[iS]at h1;have h2:=u6 (Kd (ne0 x0 k ak xy)) h1;rw[iS]at h2;refine u6 ?_ h2;intro e;exact nJ1.1 (iJ j1 k ak xy (CU e)▸hk)
  rcases fk.1 hj with rfl|hj
  ·have h1:=h x0 ak;rw[ls,KE fun k hk=>by rw[hz k hk,iT],fi,iS]at h1;exact u6 (Kd (ne0 x0 j ak ak)) h1
  ·exact hz j hj
end Go.Proofs.YtaodmbolhoafcaaGreatDoor
