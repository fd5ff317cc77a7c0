/-
  Texts of one proof, joined: part 7. No condition.
-/
import Derived.Test.YtaodmbolhoafcaaGreatDoorZr6
open Go.RowKit Go.Proofs.Tryz
namespace Go.Proofs.YtaodmbolhoafcaaGreatDoor
set_option linter.unusedVariables false
set_option linter.unusedSimpArgs false
set_option maxRecDepth 20000
variable{B:Nat}{w0:World}{F:aR}{A A1 A2:bj}{n c c1 c2 g:Nat}{B1 B2:bj}{b1 b2:Nat}{bound size:Int}{T:List cj}{LL:List Lv}{s:Cs}{sz:Nat}{o h:List cj}
theorem pz:type_of% @List.take_left':= @List.take_left'
theorem Mk{a b:List Bool}(hl:a.length=b.length)(h:∀i,i<a.length→gZ a i=gZ b i):a=b:=by
 apply p6 hl;intro i h1 h2;apply toNat_inj;rw[←x8 h1,←x8 h2];exact h i h1
theorem Hy{q:List Bool}{n i:Nat}(h:i<n):gZ (q.take n) i=gZ q i:=by
 simp[gZ,bk,h]
theorem FT(a b:al):gi (a++b)=gi a++gi b:=by
 refine Mk (by simp[dN];omega) (fun i hi=>?_);rw[dN,aX]at hi;rw[yW _ (by rw[aX];exact hi)];by_cases h:i<8*a.length
 ·rw[mP (by rw[dN];exact h),yW _ h];congr 2;rw[bk,bk,z' aa]
 ·have e:=kh (gi a) (gi b) (i-8*a.length);rw[dN,show 8*a.length+(i-8*a.length)=i by omega]at e;rw[e,yW _ aa,show(i-8*a.length)%8=i%8 by omega,show(i-8*a.length)/8=i/8-a.length by omega];congr 2;rw[bk,bk,sT aa]
theorem afV(l:al){k:Nat}(h:k≤l.length):gi (l.take k)=(gi l).take (8*k):=by
 have e:gi l=gi (l.take k)++gi (l.drop k):=by rw[←FT,jO]
 rw[e,pz (by rw[dN,eV];omega)]
theorem NF(m:Nat):hi 0 m m=List.replicate m false:=by
 apply p6
 ·simp[hi]
 ·intro i h1 h2;simp[hi]
theorem SO(q r:List Bool)(m:Nat):part (q++(List.replicate m false++r)) q.length m=0:=by
 rw[←NF];exact ES q r 0 m (we m)
theorem Je(q:List Bool)(i m:Nat)(h:i+m≤q.length):q.take (i+m)=q.take i++hi (part q i m) m m:=by
 refine Mk (by simp[dM];omega) (fun k hk=>?_);rw[eV]at hk;rw[Hy aa];by_cases fP:k<i
 ·rw[mP nt,Hy fP]
 ·have e:=kh (q.take i) (hi (part q i m) m m) (k-i);rw[eV,zd aa,show i+(k-i)=k by omega]at e;rw[e,acV _ _ aa];have e2:=pJ q i (k-i+1) (m-1-(k-i));rw[show k-i+1+(m-1-(k-i))=m by omega]at e2;rw[e2,part,show i+(k-i)=k by omega];have:=rT q k;omega
theorem WR(q:List Bool):∀m pos,q.length-pos≤m→Z q pos<q.length→q.take (Z q pos+1)=q.take pos++un (Z q pos-pos)
 |0,pos,h,hz=>absurd hz (by rw[Xh aa];omega)
 |m+1,pos,h,hz=>by
  by_cases hp:pos<q.length
  ·by_cases hb:gZ q pos=1
   ·rw[agi hb hp,nA,aZ hp false];have:q.getD pos false=true:=by
     unfold gZ at hb;cases h:q.getD pos false
     ·rw[h]at hb;simp at hb
     ·rfl
    rw[this];rfl
   ·have hs:=Lq hb hp;rw[hs]at hz⊢;have wN:pos+1≤Z q (pos+1):=an1 _ _ _;rw[WR q m (pos+1) aa hz,aZ hp false];have:q.getD pos false=false:=by
     unfold gZ at hb;cases h:q.getD pos false
     ·rfl
     ·rw[h]at hb;simp at hb
    rw[this,show Z q (pos+1)-pos=(Z q (pos+1)-(pos+1))+1 by omega];simp[un,zX]
  ·exact absurd hz (by rw[Xh aa];omega)
def up(bound:Nat):Int→bc→Prop
 |_,[]=>True
 |was,x::r=>was<x∧x<bound∧up bound (x:Int) r
theorem akZ{bound:Nat}:∀(xs:bc) (was:Int),(∀i,i<xs.length→xs.getD i 0<bound∧(0<i→xs.getD (i-1) 0<xs.getD i 0))→(0<xs.length→was<xs.getD 0 0)→up bound was xs
 |[],_,_,_=>trivial
 |x::r,was,h,h0=>by
  refine⟨h0 ak,(h 0 ak).1,akZ r x (fun i hi=>?_) (fun hr=>?_)⟩
  ·have:=h (i+1) bO;refine⟨this.1,fun hp=>?_⟩;have h2:=this.2 aa;rw[wi]at h2;obtain⟨j,rfl⟩:∃j,i=j+1:=⟨i-1,aa⟩
   exact h2
  ·have:=(h 1 bO).2 aa;exact Int.ofNat_lt.2 this
theorem afW{bound:Nat}:∀(xs:bc) (was:Int),up bound was xs→(∀i,i<xs.length→xs.getD i 0<bound∧(0<i→xs.getD (i-1) 0<xs.getD i 0))∧(0<xs.length→was<xs.getD 0 0)
 |[],_,_=>⟨fun i hi=>absurd hi ak,fun h=>absurd h ak⟩
 |x::r,was,⟨h1,h2,h3⟩=>by
  obtain⟨a,b⟩:=afW r x h3;refine⟨fun i hi=>?_,fun _=>h1⟩;cases i with
  |zero=>exact⟨h2,fun h=>absurd h aa⟩
  |succ j=>
   have hj:j<r.length:=by simp at hi;omega
   refine⟨(a j hj).1,fun _=>?_⟩;cases j with
   |zero=>exact Int.ofNat_lt.1 (b hj)
   |succ k=>exact(a (k+1) hj).2 aa
theorem VO{p w:Nat}(hp:p=2^w):∀(xs:bc) (pre R:List Bool) (i:Nat),i<xs.length→part (pre++(BM p w xs++R)) (pre.length+i*w) w=xs.getD i 0%p
 |[],_,_,_,h=>absurd h ak
 |x::r,pre,R,0,h=>by
  have:=ES pre (BM p w r++R) (x%p) w (by rw[hp];exact sS _ (we w));rw[sc,tf];simpa[BM,bV]using this
 |x::r,pre,R,i+1,h=>by
  have:=VO hp r (pre++hi (x%p) w w) R i (by simp at h;omega);rw[aX,dM,NU,show w+i*w=(i+1)*w by rw[j9];omega]at this;simpa[BM,bV]using this
theorem adx{p w:Nat}(hp:p=2^w)(xs:bc)(R:List Bool):ze (BM p w xs++R) w xs.length=xs.map (· %p):=by
 apply p6
 ·simp[ze]
 ·intro i h1 h2;have h3:i<xs.length:=by simpa[ze]using h1
  have:=VO hp xs [] R i h3;rw[nU,sb,mC]at this;simp[ze,this,bk,h3]
theorem Wy{bound p w:Nat}(hp:p=2^w)(q R:List Bool):∀(xs:bc) (pre:List Bool) (high:Nat) (was:Int) (out:bc),q=pre++(Ba p high xs++R)→up bound was xs→high=was.toNat/p→
  KW bound p q (xs.map (· %p)) pre.length high was out=(out++xs,(pre++Ba p high xs).length,0)
 |[],pre,high,was,out,hq,hu,hh=>by simp[KW,Ba]
 |x::r,pre,high,was,out,hq,⟨u1,u2,u3⟩,hh=>by
  have RS:0<p:=by rw[hp];exact we w
  have hle:high≤x/p:=by rw[hh];exact Nat.div_le_div_right aa
  have hq':q=pre++(un (x/p-high)++(Ba p (x/p) r++R)):=by rw[hq];simp[Ba,bV]
  have hz:Z q pre.length=pre.length+(x/p-high):=by rw[hq'];exact atw pre _ _
  have fP:Z q pre.length<q.length:=by rw[hz,hq'];simp[oT];omega
  have e1:high+(Z q pre.length-pre.length)=x/p:=by rw[hz];omega
  have e2:x/p*p+x%p=x:=by rw[nG];exact Nat.div_add_mod x p
  have ih:=Wy hp q R r (pre++un (x/p-high)) (x/p) (x:Int) (out++[x]) (by rw[hq',bV]) u3 ak;rw[kz,KW,aw aa,e1,e2,aw aa,aw aa];rw[show Z q pre.length+1=(pre++un (x/p-high)).length by rw[aX,oT,hz];omega,ih];simp[Ba,bV]
theorem Q_{bound:Nat}{xs:bc}(hR:kW bound xs)(more:al)(hn:0<xs.length):
  jG bound xs.length (packed (LB (2^wid bound xs.length) (wid bound xs.length) xs)++more)=(xs,(packed (LB (2^wid bound xs.length) (wid bound xs.length) xs)).length,0):=by
 obtain⟨w,hw⟩:=cR (wid bound xs.length);obtain⟨p,hp⟩:=cR (2^w);obtain⟨Q,hQ⟩:=cR (LB p w xs);obtain⟨b,hb⟩:=cR (packed Q++more);rw[←hw,←hp,←hQ,←hb];have hu:gi b=Q++(pad Q++gi more):=by rw[hb,FT,qM,bV]
 have YJ:gi b=BM p w xs++(Ba p 0 xs++(pad Q++gi more)):=by
  have e:Q=BM p w xs++Ba p 0 xs:=hQ;rw[hu];generalize pad Q=P;rw[e,bV]
 have Qi:ze (gi b) w xs.length=xs.map (· %p):=by rw[YJ];exact adx hp xs _
 have hF:B8 bound xs.length b=(xs,Q.length,0):=by
  unfold B8;rw[←hw,←hp,Qi];have:=Wy (bound:=bound) hp (gi b) (pad Q++gi more) xs (BM p w xs) 0 (-1) [] YJ (akZ xs (-1) hR (fun _=>aa)) ak;rw[mW]at this;rw[this,nU,hQ,LB]
 have mG:=w5 Q;have zc:=dN b;have By:=dN more;have dh:b.length=(Q.length+7)/8+more.length:=by rw[hb,aX,dJ]
 have hr:kY bound xs.length b=(pad Q).length:=by
  unfold kY;rw[hF];simp only;omega
 have hlen:(BM p w xs).length≤(gi b).length:=by rw[YJ,aX];omega
 rw[mW]at hlen;unfold jG;rw[←hw,aw aa,hr,hF];have hz:=SO Q (gi more) (pad Q).length;rw[show List.replicate (pad Q).length false=pad Q by simp[pad],←hu]at hz;rw[aw ak,aw (by simp only[hz];simp)];rw[dJ];simp only;congr 2;omega
theorem aeM{bound p w:Nat}(hp:p=2^w)(q:List Bool):∀(ls:bc) (pos high:Nat) (was:Int) (out:bc),(∀x∈ls,x<p)→pos≤q.length→(KW bound p q ls pos high was out).2.2=0→
  ∃ys,(KW bound p q ls pos high was out).1=out++ys∧ls=ys.map (· %p)∧up bound was ys∧(KW bound p q ls pos high was out).2.1≤q.length∧q.take (KW bound p q ls pos high was out).2.1=q.take pos++Ba p high ys
 |[],pos,high,was,out,hl,tX,h=>⟨[],by simp[KW],rfl,trivial,by simpa[KW]using tX,by simp[KW,Ba]⟩
 |x::r,pos,high,was,out,hl,tX,h=>by
  have hx:=hl x ak;have RS:0<p:=by omega
  by_cases h1:Z q pos<q.length
  ·obtain⟨y,hy⟩:=cR ((high+(Z q pos-pos))*p+x);have hyd:y/p=high+(Z q pos-pos):=by rw[hy,nG,Nat.mul_add_div RS,BC hx,tf]
   have hym:y%p=x:=by rw[hy,nG,Nat.mul_add_mod,jc hx]
   rw[KW,aw aa,←hy]at h⊢;by_cases h2:(y:Int)≤was
   ·rw[aq h2]at h;simp at h
   ·by_cases h3:bound≤y
    ·rw[aw h2,aq h3]at h;simp at h
    ·rw[aw h2,aw h3]at h⊢;obtain⟨ys,e1,e2,e3,e4,e5⟩:=aeM hp q r (Z q pos+1) (high+(Z q pos-pos)) y (out++[y]) (fun z hz=>hl z vQ) aa h;refine⟨y::ys,by rw[e1];simp,by rw[kz,hym,←e2],⟨aa,aa,e3⟩,e4,?_⟩;rw[e5,WR q _ pos (gj _) h1,Ba,hyd,show high+(Z q pos-pos)-high=Z q pos-pos by omega,bV]
  ·rw[KW,aq h1]at h;simp at h
theorem Oq(q:List Bool)(w:Nat):∀n,n*w≤q.length→q.take (n*w)=(ze q w n).flatMap fun x=>hi x w w
 |0,_=>by simp[ze]
 |n+1,h=>by
  rw[j9]at h⊢;rw[Je q _ _ h,Oq q w n aa,Oo,ud];simp
theorem X4{bound n:Nat}{b:al}(h:(jG bound n b).2.2=0):
  (jG bound n b).1.length=n∧kW bound (jG bound n b).1∧packed (LB (2^wid bound n) (wid bound n) (jG bound n b).1)=b.take (jG bound n b).2.1:=by
 obtain⟨w,hw⟩:=cR (wid bound n);obtain⟨p,hp⟩:=cR (2^w);rw[←hw,←hp];by_cases h1:(gi b).length<n*w
 ·rw[DH (by rw[←hw];exact h1)]at h;simp at h
 ·have Rq:¬(gi b).length<n*wid bound n:=by rw[←hw];exact h1
  by_cases h2:(B8 bound n b).2.2=0
  ·by_cases h3:part (gi b) (B8 bound n b).2.1 (kY bound n b)=0
   ·rw[M3 Rq oW (by simpa using h3)];have hF:B8 bound n b=KW bound p (gi b) (ze (gi b) w n) (n*w) 0 (-1) []:=by unfold B8;rw[←hw,←hp]
    have fP:∀x∈ze (gi b) w n,x<p:=by
     intro x hx;obtain⟨i,_,rfl⟩:=pS.1 hx;rw[hp];exact qt _ _ _
    obtain⟨ys,e1,e2,e3,e4,e5⟩:=aeM (bound:=bound) hp (gi b) (ze (gi b) w n) (n*w) 0 (-1) [] fP aa (by rw[←hF];exact h2);rw[←hF]at e1 e4 e5;rw[nU]at e1;have hyl:ys.length=n:=by
     have:=dC List.length e2;rw[se,eM]at this;exact this.symm
    have hQ:LB p w ys=(gi b).take (B8 bound n b).2.1:=by
     rw[e5,Oq _ _ _ aa,e2,LB,BM,List.flatMap_map]
    obtain⟨pos,tX⟩:=cR ((B8 bound n b).2.1);have NM:kY bound n b=((gi b).length-pos)%8:=by unfold kY;rw[tX]
    rw[←tX]at e4 hQ h3;rw[←tX,e1];have zc:=dN b;refine⟨hyl,(afW ys _ e3).1,?_⟩;simp only;obtain⟨K,hK⟩:∃K,pos+kY bound n b=8*K:=⟨(pos+kY bound n b)/8,aa⟩
    rw[hK,show b.length-((gi b).length-8*K)/8=K by omega];have hKl:K≤b.length:=by omega
    have hQl:(LB p w ys).length=pos:=by rw[hQ,eV];omega
    have ez:gi (b.take K)=LB p w ys++List.replicate (kY bound n b) false:=by
     rw[afV b hKl,←hK,Je _ _ _ aa,h3,NF,hQ]
    have ep:pad (LB p w ys)=List.replicate (kY bound n b) false:=by
     unfold pad;rw[hQl];congr 1;omega
    rw[←pP (packed (LB p w ys)),qM,ep,←ez,pP]
   ·rw[UR Rq oW (by simpa using h3)]at h;simp at h
  ·rw[UQ Rq h2]at h;exact absurd h h2
theorem VF:type_of% @List.length_eq_zero_iff:= @List.length_eq_zero_iff
theorem X3{bound:Nat}{xs:bc}(hR:kW bound xs)(hb:bound≤20000)(more:al):iK (bound:Int) (rM bound xs++more)=(xs,(rM bound xs).length,0):=by
 have hlen:=hR.len;obtain⟨tl,Cc⟩:=cR ((if xs.length=0 then [] else packed (LB (2^wid bound xs.length) (wid bound xs.length) xs)));have hB:rM bound xs=aS xs.length++tl:=by rw[rM,←Cc]
 obtain⟨b,hbb⟩:=cR (aS xs.length++(tl++more));have zP:rM bound xs++more=b:=by rw[hB,hbb,bV]
 have hs:cM b=(xs.length,(aS xs.length).length,0):=by rw[hbb];exact sn _ aa _
 have hl:eu b (bound:Int)=(xs.length,(aS xs.length).length,0):=by
  unfold eu;rw[hs,aw ak,aw cZ]
 have hC:s7 (bound:Int) b=⟨b,(aS xs.length).length,0⟩:=by
  unfold s7 Cs.bX Cs.rest;simp only[tg];rw[hl];simp[Cs.ew]
 have hN:Cg (bound:Int) b=xs.length:=by
  unfold Cg Cs.int Cs.rest;simp only[tg];rw[hl];simp
 rw[zP];by_cases h0:xs.length=0
 ·rw[J0 aa (by rw[hC];simp) (by rw[hN];exact h0),hC,VF.1 h0];rw[aq h0]at Cc;have:rM bound []=aS 0++[]:=by simp[rM]
  rw[this];simp
 ·have Yt:Gm (bound:Int) b=(xs,tl.length,0):=by
   unfold Gm;rw[hN,hC];simp only[nC];rw[aw h0]at Cc;rw[show b.drop (aS xs.length).length=tl++more by rw[hbb];exact qk rfl,Cc];exact Q_ hR more aa
  rw[Q9 aa (by rw[hC];simp) (by rw[hN];exact h0) (by rw[Yt];simp),Yt,hC,hB];simp
theorem M1{bound:Int}{b:al}(Qd:bound≤9223372036854775807)(h:(iK bound b).2.2=0):
  ∃bn:Nat,bound=(bn:Int)∧bn≤20000∧kW bn (iK bound b).1∧rM bn (iK bound b).1=b.take (iK bound b).2.1∧(iK bound b).2.1≤b.length:=by
 by_cases h1:bound<0∨20000<bound
 ·rw[DF h1]at h;simp at h
 ·obtain⟨bn,rfl⟩:=gM (show 0≤bound by omega);refine⟨bn,rfl,aa,?_⟩;by_cases h2:(s7 bn b).e=0
  ·have hl:(eu b (bn:Int)).2.2=0:=by
    unfold s7 Cs.bX Cs.rest at h2;simp only[tg]at h2;by_cases hh:(eu b (bn:Int)).2.2=0
    ·exact hh
    ·simp[Cs.ew,hh]at h2
   have hsc:(cM b).2.2=0∧eu b (bn:Int)=((cM b).1,(cM b).2.1,0):=by
    unfold eu at hl⊢;split at hl
    ·rename_i hh;exact absurd hl hh
    ·rename_i hh;split at hl
     ·simp at hl
     ·rename_i h3;rw[aw hh,aw h3];exact⟨by simpa using hh,rfl⟩
   have ama:=vk hsc.1;have hle:=(fh b).2.1;have hC:s7 (bn:Int) b=⟨b,(cM b).2.1,0⟩:=by
    unfold s7 Cs.bX Cs.rest;simp only[tg];rw[hsc.2];simp[Cs.ew]
   have hN:Cg (bn:Int) b=(cM b).1:=by
    unfold Cg Cs.int Cs.rest;simp only[tg];rw[hsc.2];simp
   by_cases h3:Cg bn b=0
   ·rw[J0 h1 oW h3,hC];refine⟨fun i hi=>absurd hi ak,?_,hle⟩;rw[hN]at h3;rw[h3]at ama;simp only;rw[←ama];simp[rM]
   ·by_cases h4:(Gm bn b).2.2=0
    ·rw[Q9 h1 oW h3 (by simpa using h4)];have hR:Gm bn b=jG bn (cM b).1 (b.drop (cM b).2.1):=by unfold Gm;rw[hN,hC,nC]
     rw[hR]at h4;obtain⟨e1,e2,e3⟩:=X4 h4;have e4:=H' bn (cM b).1 (b.drop (cM b).2.1);rw[iN]at e4;rw[hN]at h3;simp only;rw[hC,hR];refine⟨e2,?_,cZ⟩;rw[rM,e1,aw h3,e3,ama];simp only;rw[List.take_add]
    ·rw[abQ h1 oW h3 (by simpa using h4)]at h;exact absurd h h4
  ·rw[DG h1 h2]at h;exact absurd h h2
theorem UO{bound:Nat}{xs:bc}(h:kW bound xs)(hb:bound≤20000):(rM bound xs).length≤50011:=by
 have h1:=h.len;have h2:=Na (n:=xs.length) aa;have h3:=UP (p:=2^wid bound xs.length) (w:=wid bound xs.length) h hb (xg hb);unfold rM;rw[aX];split
 ·simp only[sb];omega
 ·rw[dJ];omega
theorem kW.le{bound:Nat}{xs:bc}(h:kW bound xs)(hb:bound≤20000):∀i,i<xs.length→xs.getD i 0≤1000000:=fun i hi=>by have:=(h i hi).1;omega
theorem alh{P:Prop}(h:P:=by(rintro(q|q|q);omega;omega;exact q h)):P:=h
theorem aog{P:Prop}(h:P:=by(first|exact .inl (by assumption)|exact⟨fun z=>.inr z,fun q=>q.elim (fun z=>absurd z (by assumption)) (fun z=>z)⟩|omega)):P:=h
theorem Bl{P:Prop}(h:P:=by(simp[OS];omega)):P:=h
theorem je:type_of% @List.mem_map_of_mem:= @List.mem_map_of_mem
def yb(bound:Int)(T:List cj)(I:List (List Int)):Prop:=(0≤bound∧bound≤20000)∧T.length=I.length∧kX T∧∀x∈I,x≠[]∧Hm bound x
instance (bound:Int)(T:List cj)(I:List (List Int)):Decidable (yb bound T I):=inferInstanceAs (Decidable (_∧_∧_∧_))
def lsB(bound:Int)(I:List (List Int)):al:=I.flatMap fun x=>(P_ bound x).1
def Ko(sz:Nat)(bound:Int)(T:List cj)(I:List (List Int)):al:=fS sz T++lsB bound I
def qI(size bound:Int)(T:List cj)(I:List (List Int)):al×Int:=if size<1∨64<size∨¬yb bound T I then ([],13) else (Ko size.toNat bound T I,0)
theorem Ee{I:List (List Int)}(h:size<1∨64<size∨¬yb bound T I):qI size bound T I=([],13):=aq h
theorem Kq{sz:Nat}{I:List (List Int)}(h1:1≤sz)(h2:sz≤64)(h:yb bound T I):qI sz bound T I=(Ko sz bound T I,0):=by
 unfold qI;rw[aw alh,nC]
theorem US{x:List Int}(h0:0≤bound)(h1:bound≤20000):(P_ bound x).2=0↔Hm bound x:=by
 constructor
 ·intro h;refine bF fun q=>?_;rw[J1 (.inr (.inr q))]at h;exact absurd h aA
 ·intro h;obtain⟨xs,rfl⟩:=h.adM;obtain⟨b,rfl⟩:=gM h0;rw[J2 alh]
theorem ahi{x:List Int}(h0:0≤bound)(h1:bound≤20000):(P_ bound x).1.length≤50011:=by
 by_cases h:Hm bound x
 ·obtain⟨xs,rfl⟩:=h.adM;obtain⟨b,rfl⟩:=gM h0;rw[J2 alh];exact UO ((sk b xs).1 h) aa
 ·rw[J1 (.inr (.inr h))];simp
theorem VU(h0:0≤bound)(h1:bound≤20000):∀I:List (List Int),(lsB bound I).length≤I.length*50011
 |[]=>by simp[lsB]
 |x::r=>by
  have:=VU h0 h1 r;have h2:=ahi (x:=x) h0 h1;unfold lsB at*;rw[jM,aX,eh,mD];omega
theorem XW{sz:Nat}(hR:kX T)(h1:1≤sz)(h2:sz≤64):(fS sz T).length≤4000000000:=by
 have hl:=hR.2;have hB1:=uQ (l:=T) (sz:=sz) h2 hR.le (List.range (gT sz T.length));have hH1:=q_ (l:=T) (sz:=sz) h2 hR.le (List.range (gT sz T.length));have hN1:=aT (x:=T.length) aa;have hcN:gT sz T.length≤1048639:=by
  unfold gT;exact jf (rj _ _) aa
 rw[wm]at hB1 hH1;have h3:gT sz T.length*3000≤1048639*3000:=oC _ hcN;have h4:gT sz T.length*10≤1048639*10:=oC _ hcN;simp only[fS,aX];omega
abbrev kP:=bj×Nat×al
abbrev dq(e:kP):Value:=.slice e.1 e.2.2.length e.2.1
abbrev fx(e:kP):Ch:=.own 5 1 e.1 e.2.2.length e.2.1 (bv e.2.2)
def OS(PB:List kP):ei:=PB.map fun e=>(dq e,e.2.2)
theorem E0(PB:List kP):(OS PB).Cm=PB.map dq:=by simp[OS,ei.Cm]
theorem CK(PB:List kP):(OS PB).all=(PB.map (·.2.2)).flatten:=by
 unfold OS ei.all;rw[List.flatMap_map,List.flatMap_def]
theorem qy(P:aR){PB:List kP}{e:kP}:Wk (fx e::(P++(PB.map fx++F))) (P++((PB++[e]).map fx++F)):=by
 refine .dE ?_;rw[jd,bV,←bV,←bV];exact yp.symm
abbrev Gq(A1:bj)(n c1:Nat)(B1:bj)(m b1:Nat):Value:=.agg [.slice A1 n c1,.slice B1 m b1].toArray
theorem aed(hE:(bound<0∨20000<bound)∨¬(T.length:Int)=LL.length):
  a_ B w0 48 [ah size,ah bound,Gq A1 T.length c1 B1 LL.length b1] F (fun r L=>r= .tuple #[.slice none 0 0,ah 13]∧L=F):=by
 refine fw func48 69 [0,1,2] ?_;refine be ?_;refine bf fun g5=>?_;refine bD ?_;refine bR 15 29 [0,1,5] ((bound<0∨20000<bound)∨¬(T.length:Int)=LL.length) ?_ ?_
 ·refine bH ?_;refine aI rfl rfl rfl (fun iy=>?_) (fun iy=>?_)
  ·refine bI ?_;refine aI rfl rfl rfl (fun lV=>?_) (fun lV=>?_)
   ·refine dX ?_;exact aM oY
   ·refine bD ?_;exact aM vy
  ·refine dm ?_;exact aM vy
 ·refine be ?_;refine aj (fun qH=>?_) fun qH=>?_
  ·refine bM ?_;refine ao (L':=F) (.skip (.refl _)) ?_;refine aE ?_;exact⟨rfl,rfl⟩
  ·exfalso;exact qH hE
theorem aee(h1:aL B w0 F 1 (.slice A1 T.length c1) T.length (strs T))(hb0:0≤bound)(qf:bound≤20000)(hl:T.length=LL.length)(hs:T.length≤1000000000)(hE:size<1∨64<size∨¬kX T):
  a_ B w0 48 [ah size,ah bound,Gq A1 T.length c1 B1 LL.length b1] F (fun r L=>r= .tuple #[.slice none 0 0,ah 13]∧L=F):=by
 refine fw func48 69 [0,1,2] ?_;refine be ?_;refine bf fun g5=>?_;refine bD ?_;refine bR 15 29 [0,1,5] ((bound<0∨20000<bound)∨¬(T.length:Int)=LL.length) ?_ ?_
 ·refine bH ?_;refine aI rfl rfl rfl (fun iy=>?_) (fun iy=>?_)
  ·refine bI ?_;refine aI rfl rfl rfl (fun lV=>?_) (fun lV=>?_)
   ·refine dX ?_;exact aM oY
   ·refine bD ?_;exact aM vy
  ·refine dm ?_;exact aM vy
 ·refine be ?_;refine dj fun qH=>?_;refine bD ?_;refine ay rfl (Q8 aB aa hE) fun vM wE=>?_;refine dX ?_;refine aj (fun Gh=>?_) fun Gh=>?_
  ·refine bP ?_;refine ao (L':=F) (.skip (.skip (.refl _))) ?_;refine aE ?_;exact⟨rfl,rfl⟩
  ·exfalso;exact Gh aA
theorem adb{k:Nat}(hk:k<LL.length):(fU LL).take (k+1)=(fU LL).take k++[(LL.getD k rf).2.2]:=by
 rw[sR,fU,jt,fo hk];simp[List.getD,fo hk]
theorem ade{x:List Int}(h:x∈fU LL):∃i,i<LL.length∧(LL.getD i rf).2.2=x:=by
 obtain⟨e,he,rfl⟩:=pS.1 h;obtain⟨i,hi,rfl⟩:=j8 he;exact⟨i,hi,by simp[List.getD,fo hi]⟩
theorem aef{sz:Nat}(h1:aL B w0 F 1 (.slice A1 T.length c1) T.length (strs T))(hL:aL B w0 F 1 (.slice B1 LL.length b1) LL.length (LL.map zS))(hI:l6 B w0 F LL)(wS:∀e∈LL,e.2.2.length≤9000000000000000000)(hb0:0≤bound)(qf:bound≤20000)(hl:T.length=LL.length)(hR:kX T)(Kn:1≤sz)(vD:sz≤64):
  a_ B w0 48 [ah sz,ah bound,Gq A1 T.length c1 B1 LL.length b1] F (fun r L=>∃A' c',r= .tuple #[.slice A' (qI sz bound T (fU LL)).1.length c',ah (qI sz bound T (fU LL)).2]∧L= .own 5 1 A' (qI sz bound T (fU LL)).1.length c' (bv (qI sz bound T (fU LL)).1)::F):=by
 have hTl:=hR.2;have hdl:=XW hR Kn vD;have wR:=VU hb0 qf (fU LL);have hil:(fU LL).length=LL.length:=by simp[fU]
 refine dP.zk h1 fun oA _=>?_;refine fw func48 69 [0,1,2] ?_;refine be ?_;refine bf fun g5=>?_;refine bD ?_;refine bR 15 29 [0,1,5] ((bound<0∨20000<bound)∨¬(T.length:Int)=LL.length) ?_ ?_
 ·refine bH ?_;refine aI rfl rfl rfl (fun iy=>?_) (fun iy=>?_)
  ·refine bI ?_;refine aI rfl rfl rfl (fun lV=>?_) (fun lV=>?_)
   ·refine dX ?_;exact aM oY
   ·refine bD ?_;exact aM vy
  ·refine dm ?_;exact aM vy
 ·refine be ?_;refine dj fun qH=>?_;refine bD ?_;refine ay rfl (X2 aB oA Kn vD hR) fun vM wE=>?_;refine dX ?_;refine aj (fun Gh=>?_) fun Gh=>?_
  ·exfalso;exact Gh rfl
  ·refine bI ?_;refine cH (aF fH [_] rfl rfl cA aa aa) fun T5=>?_;refine bz ?_;refine ve [1,10,43,44,45] ?_;refine be ?_;refine aD (fun zf zL zm=>∃(k:Nat) (PB:List kP) (xq:bj) (HI:Nat),(k≤LL.length∧PB.map (·.2.2)=fS sz T::((fU LL).take k).map (fun x=>(P_ bound x).1)∧PB.length=k+1∧(∀i,i<k→(LL.getD i rf).2.2≠[]∧Hm bound (LL.getD i rf).2.2))∧LL.length-k=zm∧Sub zf [(1,ah bound),(10,.slice xq PB.length HI),(43,.slice B1 LL.length b1),(44,ah LL.length),(45,ah k)]∧Wk zL (.own 27 1 xq PB.length HI (PB.map dq):: .bE g5 90 [.slice A1 T.length c1,.slice B1 LL.length b1]::(PB.map fx++F))) _ ⟨0,[(vM,wE,fS sz T)],T5,1,⟨bS _,rfl,rfl,fun i h=>absurd h aa⟩,rfl,bm,.cons (.swap (.refl _))⟩ ?_;rintro _ _ _ ⟨k,PB,xq,HI,⟨hk,hPB,D6,mA⟩,rfl,hs,hp⟩;refine aU hs hp ?_;clear hs hp;refine bB ?_;refine aj (fun Yo=>?_) fun Yo=>?_
   ·have zQ:k<LL.length:=by omega
    have hie:=(hI.get zQ).mono (gz (PB.map fx) F);have hLe:=hL.mono (gz (PB.map fx) F);have Ql:=wS _ (bh zQ rf);have tZ:=adb zQ;have pY:(LL.getD k rf).2.2∈fU LL:=je (bh zQ rf);obtain⟨x,hx⟩:=cR ((LL.getD k rf).2.2);have hig:=amu zQ;obtain⟨eA,ec,he⟩:∃eA ec,LL.getD k rf=(eA,ec,x):=⟨_,_,by rw[hx]⟩
    rw[he]at hie Ql tZ pY hig;refine bD ?_;refine ae (au ag rfl aB aa hig) rfl ?_;refine bD ?_;refine ay rfl (X7 (ids:=x) aB Ql) fun A52 c52=>?_;refine bz ?_;refine bR 7 61 [1,10,13,43,44,45] (¬(P_ bound x).2=0∨(x.length:Int)=0) ?_ ?_
    ·refine bH ?_;refine aI rfl rfl rfl (fun h57=>?_) (fun h57=>?_)
     ·refine bB ?_;exact aM (by exact dU aog)
     ·refine bH ?_;exact aM (by exact eU aog)
    ·refine be ?_;refine aj (fun h61=>?_) fun h61=>?_
     ·have NL:¬yb bound T (fU LL):=fun q=>by
       obtain⟨h2,h3⟩:=q.2.2.2 x pY;rcases h61 with h|h
       ·exact h ((US hb0 qf).2 h3)
       ·exact h2 (mi aa)
      refine c_ ?_;rw[Ee (.inr (.inr NL))];refine aC 5 1 none ?_;refine ao (L':=.own 5 1 none 0 0 []::F) (.cons (.skip (.skip (.skip (vt (.refl _) _))))) ?_;refine aE ?_;exact⟨none,0,rfl,rfl⟩
     ·have hxr:Hm bound x:=(US hb0 qf).1 (j0.1 fun q=>h61 (.inl q));have hxn:x≠[]:=fun q=>h61 (.inr (by rw[q];rfl));refine bI ?_;refine dK fH rfl rfl rfl rfl rfl (fun _=>rfl) aV aa aa ?_;intro _ A65 c65;refine bM ?_;have D8:(PB++[(A52,c52,(P_ bound x).1)]).length=PB.length+1:=by simp
      refine av ⟨_,aa,k+1,PB++[(A52,c52,(P_ bound x).1)],A65,c65,⟨aa,by rw[jd,hPB,tZ,jd];rfl,aa,fun i hi=>by
 rcases ue i k with h|h
 ·exact mA i h
 ·rw[show i=k by omega,he];exact⟨hxn,hxr⟩⟩,rfl,bm,.swap (ax D8.symm ak (qy (PB:=PB) (e:=(A52,c52,(P_ bound x).1)) [_]))⟩
   ·obtain rfl:k=LL.length:=by omega
    have kT:yb bound T (fU LL):=⟨⟨hb0,qf⟩,aa,hR,fun x hx=>by
     obtain⟨i,hi,rfl⟩:=ade hx;exact mA i hi⟩
    have ap4:(OS PB).all=Ko sz bound T (fU LL):=by
     rw[CK,hPB,fD aa];simp[Ko,lsB,List.flatMap_def]
    have dh:(Ko sz bound T (fU LL)).length≤1000000000000:=by
     have:LL.length*50011≤1048576*50011:=oC _ aa;unfold Ko;rw[aX];rw[hil]at wR;omega
    rw[Kq Kn vD kT];refine bM ?_;refine ay rfl (xu (P:=OS PB) (by rw[E0];exact aB) (fun y hy=>by obtain⟨e,he,rfl⟩:=pS.1 hy;exact aL.own (ll _ (ll _ (j_ _ (je he))))) (by simp[OS]) ap4 aa Bl) fun A68 c68=>?_;refine bI ?_;refine ao (L':=.own 5 1 A68 (Ko sz bound T (fU LL)).length c68 (bv (Ko sz bound T (fU LL)))::F) (.cons (.skip (.skip (vt (.refl _) _)))) ?_;refine aE ?_;exact⟨A68,c68,rfl,rfl⟩
theorem aeg(h1:aL B w0 F 1 (.slice A1 T.length c1) T.length (strs T))(hL:aL B w0 F 1 (.slice B1 LL.length b1) LL.length (LL.map zS))(hI:l6 B w0 F LL)(wS:∀e∈LL,e.2.2.length≤9000000000000000000)(hs:T.length≤1000000000):
  a_ B w0 48 [ah size,ah bound,Gq A1 T.length c1 B1 LL.length b1] F (fun r L=>∃A' c',r= .tuple #[.slice A' (qI size bound T (fU LL)).1.length c',ah (qI size bound T (fU LL)).2]∧L= .own 5 1 A' (qI size bound T (fU LL)).1.length c' (bv (qI size bound T (fU LL)).1)::F):=by
 have hil:(fU LL).length=LL.length:=by simp[fU]
 have amm:∀{L:aR},a_ B w0 48 [ah size,ah bound,Gq A1 T.length c1 B1 LL.length b1] L (fun r K=>r= .tuple #[.slice none 0 0,ah 13]∧K=L)→qI size bound T (fU LL)=([],13)→a_ B w0 48 [ah size,ah bound,Gq A1 T.length c1 B1 LL.length b1] L (fun r K=>∃A' c',r= .tuple #[.slice A' (qI size bound T (fU LL)).1.length c',ah (qI size bound T (fU LL)).2]∧K= .own 5 1 A' (qI size bound T (fU LL)).1.length c' (bv (qI size bound T (fU LL)).1)::L):=fun {L} h e=>by
  rw[e];intro w hw;refine(h w hw).mono fun ee w' ⟨r,K,he,⟨hr,hK⟩,hs⟩=>?_;subst hK;exact⟨r,_,he,⟨none,0,hr,rfl⟩,hs.CE 5 1 none⟩
 by_cases hE:(bound<0∨20000<bound)∨¬(T.length:Int)=LL.length
 ·exact amm (aed hE) (Ee (.inr (.inr fun q=>by
   have h2:=q.1;have h3:=q.2.1;omega)))
 ·by_cases hE2:size<1∨64<size∨¬kX T
  ·refine amm (aee h1 aa aa aa hs hE2) (Ee ?_);rcases hE2 with h|h|h
   ·exact .inl h
   ·exact .inr (.inl h)
   ·exact .inr (.inr fun q=>h q.2.2.1)
  ·have hR:kX T:=bF fun h=>hE2 (.inr (.inr h));obtain⟨sz,rfl⟩:=gM (show 0≤size by omega);exact aef h1 hL hI wS aa aa aa hR aa aa
theorem Uj{P:Prop}(h:P:=by(rw[aq ja])):P:=h
theorem b_9{P:Prop}(h:P:=by(exact eU (by first|exact hB.2 (.inl (by assumption))|exact hB.2 (.inr (by assumption))|exact fun h=>(hB.1 h).elim (fun q=>absurd q (by assumption)) (fun q=>absurd q (by assumption))))):P:=h
theorem b_4{P:Prop}(h:P:=by(exact eU (by first|exact hB.2 (.inl (by assumption))|exact hB.2 (.inr (.inl (by assumption)))|exact⟨fun h=>hB.2 (.inr (.inr (by omega))),fun h=>(hB.1 h).elim (fun q=>absurd q (by assumption)) (fun q=>q.elim (fun q=>absurd q (by assumption)) (fun q=>by omega))⟩))):P:=h
theorem abo(ho:cu s)(hb:aL B w0 F 1 (.slice A s.b.length c) s.b.length (bv s.b)):
  a_ B w0 223 [bq g] (Cv g A c s::F) (fun r L=>r=ah s.xV.e∧L=Cv g A c s.xV::F):=by
 refine fw func223 10 [0] ?_;refine bP ?_;refine ai rfl (JN ho hb) ?_;refine bH ?_;refine aj (fun h5=>?_) fun h5=>?_
 ·have he:s.xV=s.failed 2:=aq aa;refine be ?_;refine ai rfl (nf 2) ?_;refine bI ?_;refine ai rfl (gO) ?_;refine bI ?_;rw[he];exact⟨rfl,rfl⟩
 ·have he:s.xV=s:=aw aa;refine bI ?_;refine ai rfl (gO) ?_;refine bI ?_;rw[he];exact⟨rfl,rfl⟩
theorem alE:a_ B w0 177 [bq g] (Cv g A c s::F) (fun r L=>r=ah s.at_∧L=Cv g A c s::F):=by
 refine fw func177 10 [0] ?_;refine acv ?_;exact⟨rfl,rfl⟩
def nxN(s:Cs)(was:cj)(first:Bool):Nat:=if first then 0 else s.int was.length
def Zq(s:Cs)(was:cj)(first:Bool):Cs:=if first then s else s.bX was.length
def SB(s:Cs)(was:cj)(first:Bool):Cs:=(Zq s was first).ey 25
def nxX(s:Cs)(was:cj)(first:Bool):cj:=was.take (nxN s was first)++(Zq s was first).text 25
def qs(s:Cs)(was:cj)(first:Bool):Prop:=(Zq s was first).text 25=[]∨¬ur was (nxX s was first)∨(first=false∧qm was (nxX s was first)≠nxN s was first)
instance (s:Cs)(was:cj)(first:Bool):Decidable (qs s was first):=inferInstanceAs (Decidable (_∨_∨(_∧_)))
def s6(s:Cs)(was:cj)(first:Bool):Cs:=if (SB s was first).e≠0 then SB s was first else if qs s was first then (SB s was first).failed 2 else SB s was first
def sg(s:Cs)(was:cj)(first:Bool):cj:=if (SB s was first).e≠0 then [] else nxX s was first
theorem cu.Zq(h:cu s){was:cj}{first:Bool}(hw:was.length≤1000):cu (Zq s was first):=by
 unfold YtaodmbolhoafcaaGreatDoor.Zq;split
 ·exact h
 ·exact h.bX aa
theorem cu.s6(h:cu s){was:cj}{first:Bool}(hw:was.length≤1000):cu (s6 s was first):=by
 unfold YtaodmbolhoafcaaGreatDoor.s6 SB;split
 ·exact(h.Zq hw).ey
 ·split
  ·exact(h.Zq hw).ey.failed 2
  ·exact(h.Zq hw).ey
theorem Cs.zV(s:Cs)(m:Int):(s.bX m).b=s.b:=Cs.cK s _ _
theorem Cs.vp(s:Cs)(m:Int):(s.ey m).b=s.b:=Cs.cK s _ _
theorem Cs.DQ(s:Cs)(e:Int):(s.failed e).b=s.b:=by unfold Cs.failed;split<;>rfl
theorem adS(s:Cs)(was:cj)(first:Bool):(Zq s was first).b=s.b:=by
 unfold Zq;split
 ·rfl
 ·exact Cs.zV _ _
theorem aqL(s:Cs)(was:cj)(first:Bool):(s6 s was first).b=s.b:=by
 unfold s6 SB;split
 ·rw[Cs.vp,adS]
 ·split
  ·rw[Cs.DQ,Cs.vp,adS]
  ·rw[Cs.vp,adS]
theorem amU(s:Cs)(was:cj)(first:Bool)(hw:was.length≤1000):nxN s was first≤was.length:=by
 unfold nxN;split
 ·omega
 ·unfold Cs.int;split
  ·omega
  ·by_cases h:(eu s.rest was.length).2.2=0
   ·have:=(jD s.rest was.length aa).2.2.2 h;omega
   ·rw[(pC h).1];omega
theorem WT(s:Cs):(s.text 25).length≤25:=by
 unfold Cs.text;split
 ·simp
 ·unfold jS;split
  ·simp
  ·split
   ·simp
   ·rename_i h1 h2;have:=(jD s.rest 25 aa).2.2.2 C2;simp only[eV];omega
theorem aik{was:cj}(hw:was.length≤1000)(ho:cu s)(hb:aL B w0 F 1 (.slice A s.b.length c) s.b.length (bv s.b)):
  a_ B w0 298 [bq g,.string ⟨was.toArray⟩,.bool true] (Cv g A c s::F) (fun r L=>r= .string ⟨(sg s was true).toArray⟩∧L=Cv g A c (s6 s was true)::F):=by
 have hA:Zq s was true=s:=rfl;have hN:nxN s was true=0:=rfl;have hS:SB s was true=s.ey 25:=rfl;have hX:nxX s was true=s.text 25:=by unfold nxX;rw[hN,hA];rfl
 have hB:qs s was true↔(s.text 25=[]∨¬ur was (s.text 25)):=by unfold qs;rw[hX,hA];simp
 have hC:s6 s was true=if (s.ey 25).e≠0 then s.ey 25 else if qs s was true then (s.ey 25).failed 2 else s.ey 25:=rfl
 have hT:sg s was true=if (s.ey 25).e≠0 then [] else s.text 25:=by unfold sg;rw[hX,hS]
 have Cc:=WT s;rw[hC,hT];clear hC hT hS hX hN hA;refine fw func298 48 [0,1,2] ?_;refine arS ?_;refine ai rfl (Cr ho hb (most:=25) aa aa) ?_;refine bD ?_;refine ai rfl (gO) ?_;refine bH ?_;refine aj (fun ja=>?_) fun ja=>?_
 ·refine bM ?_;exact⟨Uj,Uj⟩
 ·refine bB ?_;refine ae (Dy (i:=0) underlying9 rfl rfl rfl aa) rfl ?_;refine aE ?_;refine ae (zy (s:=[]) (r:=s.text 25) rfl rfl (by simp only[sb];omega)) rfl ?_;refine bB ?_;refine bR 19 44 [0,9] (qs s was true) ?_ ?_
  ·refine bH ?_;refine aI rfl rfl rfl (fun q9=>?_) (fun q9=>?_)
   ·refine b8 ?_;refine ai rfl (Q6 was (s.text 25)) ?_;refine b8 ?_;refine aI rfl rfl rfl (fun GM=>?_) (fun GM=>?_)
    ·refine c_ ?_;exact aM (by exact eT (by first|exact hB.2 (.inl (by assumption))|exact hB.2 (.inr (by assumption))|exact fun h=>(hB.1 h).elim (fun q=>absurd q (by assumption)) (fun q=>absurd q (by assumption))))
    ·refine bP ?_;exact aM b_9
   ·refine i_ ?_;exact aM b_9
  ·refine be ?_;refine aj (fun tS=>?_) fun tS=>?_
   ·refine be ?_;refine ai rfl (nf 2) ?_;refine bz ?_;exact⟨by rw[aw ja];rfl,by rw[aw ja,aq tS]⟩
   ·refine bz ?_;exact⟨by rw[aw ja];rfl,by rw[aw ja,aw tS]⟩
theorem ail{was:cj}(hw:was.length≤1000)(ho:cu s)(hb:aL B w0 F 1 (.slice A s.b.length c) s.b.length (bv s.b)):
  a_ B w0 298 [bq g,.string ⟨was.toArray⟩,.bool false] (Cv g A c s::F) (fun r L=>r= .string ⟨(sg s was false).toArray⟩∧L=Cv g A c (s6 s was false)::F):=by
 have hA:Zq s was false=s.bX was.length:=rfl;have hN:nxN s was false=s.int was.length:=rfl;have hS:SB s was false=(s.bX was.length).ey 25:=rfl;have hX:nxX s was false=was.take (s.int was.length)++(s.bX was.length).text 25:=rfl;have hB:qs s was false↔((s.bX was.length).text 25=[]∨¬ur was (nxX s was false)∨qm was (nxX s was false)≠s.int was.length):=by unfold qs;rw[hN,hA];simp
 have hC:s6 s was false=if ((s.bX was.length).ey 25).e≠0 then (s.bX was.length).ey 25 else if qs s was false then ((s.bX was.length).ey 25).failed 2 else (s.bX was.length).ey 25:=rfl
 have hT:sg s was false=if ((s.bX was.length).ey 25).e≠0 then [] else nxX s was false:=rfl
 have Cc:=WT (s.bX was.length);have Vn:=amU s was false hw;have ho2:cu (s.bX was.length):=ho.bX aa;have oP:aL B w0 F 1 (.slice A (s.bX was.length).b.length c) (s.bX was.length).b.length (bv (s.bX was.length).b):=by rw[Cs.zV];exact hb
 rw[hC,hT];rw[hX]at*;rw[hN]at Vn;clear hC hT hS hN hA;refine fw func298 48 [0,1,2] ?_;refine D3 ?_;refine ai rfl (iI ho hb (most:=was.length) aa aa) ?_;refine bB ?_;refine ai rfl (Cr ho2 oP (most:=25) aa aa) ?_;refine bD ?_;refine ai rfl (gO) ?_;refine bH ?_;refine aj (fun ja=>?_) fun ja=>?_
 ·refine bH ?_;refine ve [6] ?_;refine b8 ?_;exact⟨Uj,Uj⟩
 ·refine bB ?_;refine ae (Dy (i:=s.int was.length) underlying9 rfl rfl rfl aa) rfl ?_;refine aE ?_;refine ae (zy (s:=was.take (s.int was.length)) (r:=(s.bX was.length).text 25) rfl rfl (by simp only[eV];omega)) rfl ?_;refine aE ?_;refine ve [0,1,2,7,8,9] ?_;refine b8 ?_;refine bR 19 44 [0,9] (qs s was false) ?_ ?_
  ·refine bH ?_;refine aI rfl rfl rfl (fun q9=>?_) (fun q9=>?_)
   ·refine b8 ?_;refine ai rfl (Q6 was (was.take (s.int was.length)++(s.bX was.length).text 25)) ?_;refine b8 ?_;refine aI rfl rfl rfl (fun GM=>?_) (fun GM=>?_)
    ·refine bz ?_;refine ai rfl (UN was (was.take (s.int was.length)++(s.bX was.length).text 25) aa) ?_;refine bD ?_;exact aM (by exact dU (by first|exact hB.2 (.inl (by assumption))|exact hB.2 (.inr (.inl (by assumption)))|exact⟨fun h=>hB.2 (.inr (.inr (by omega))),fun h=>(hB.1 h).elim (fun q=>absurd q (by assumption)) (fun q=>q.elim (fun q=>absurd q (by assumption)) (fun q=>by omega))⟩))
    ·refine bP ?_;exact aM b_4
   ·refine i_ ?_;exact aM b_4
  ·refine be ?_;refine aj (fun tS=>?_) fun tS=>?_
   ·refine be ?_;refine ai rfl (nf 2) ?_;refine bz ?_;exact⟨by rw[aw ja],by rw[aw ja,aq tS]⟩
   ·refine bz ?_;exact⟨by rw[aw ja],by rw[aw ja,aw tS]⟩
theorem aop{P:Prop}(h:P:=by(rw[show m-(i+1)=k by omega,nD (show¬((i+1:Nat):Int)=0 by omega)];exact hF)):P:=h
theorem Mb{P:Prop}(h:P:=by(simpa using q)):P:=h
theorem amQ{was:cj}(first:Bool)(hw:was.length≤1000)(ho:cu s)(hb:aL B w0 F 1 (.slice A s.b.length c) s.b.length (bv s.b)):
  a_ B w0 298 [bq g,.string ⟨was.toArray⟩,.bool first] (Cv g A c s::F) (fun r L=>r= .string ⟨(sg s was first).toArray⟩∧L=Cv g A c (s6 s was first)::F):=by
 cases first
 ·exact ail hw ho hb
 ·exact aik hw ho hb
theorem adT{was:cj}{first:Bool}(h:(s6 s was first).e=0):(SB s was first).e=0∧¬qs s was first∧s6 s was first=SB s was first∧sg s was first=nxX s was first:=by
 unfold s6 at h⊢;by_cases h1:(SB s was first).e≠0
 ·rw[aq h1]at h;exact absurd h h1
 ·rw[aw h1]at h⊢;have Rq:(SB s was first).e=0:=by simpa using h1
  by_cases h2:qs s was first
  ·rw[aq h2]at h;unfold Cs.failed at h;rw[aq Rq]at h;exact absurd h ak
  ·rw[aw h2];exact⟨Rq,h2,rfl,aw h1⟩
theorem SC{was:cj}{first:Bool}(h:(s6 s was first).e=0):ur was (sg s was first):=by
 obtain⟨_,h2,_,h4⟩:=adT h;rw[h4];exact j0.1 fun h=>h2 (.inr (.inl h))
def g_:Nat→Bool→Cs→List cj→List cj×Int
 |0,_,s,out=>if s.xV.e≠0 then ([],s.xV.e) else (out,0)
 |k+1,first,s,out=>if (s6 s (fy out out.length) first).e≠0 then ([],(s6 s (fy out out.length) first).e) else g_ k false (s6 s (fy out out.length) first) (out++[sg s (fy out out.length) first])
def Gt(l:List cj):Prop:=∀x∈l,x.length≤25
theorem Gt.prv{l:List cj}(h:Gt l)(i:Nat):(fy l i).length≤25:=by
 unfold fy;split
 ·simp
 ·rw[bk];by_cases hi:i-1<l.length
  ·rw[fo hi];exact h _ (t_ _)
  ·rw[zZ aa];simp
theorem Gt.snoc{l:List cj}(h:Gt l){x:cj}(hx:x.length≤25):Gt (l++[x]):=by
 intro y hy;simp only[dy,lE]at hy;rcases hy with hy|rfl
 ·exact h y hy
 ·exact hx
abbrev Dd(g:Nat)(sz:Int)(A1:bj)(c1:Nat)(A2:bj)(c2:Nat)(o h:List cj)(F:aR):aR:=
 .bE g 371 [.slice A1 o.length c1,ah sz,.slice A2 h.length c2]:: .own 9 1 A1 o.length c1 (strs o):: .own 9 1 A2 h.length c2 (strs h)::F
theorem Nu{l r:List cj}{i:Nat}(h:i<l.length):(l++r).getD i []=l.getD i []:=by simp[List.getD,z' h]
theorem alI{b:al}{m:Nat}{sz:Int}{o0 h0:List cj}(hm:1≤m)(vC:m≤64)(hb:aL B w0 (Dd g sz A1 c1 A2 c2 o0 h0 F) 1 (.slice A b.length c) b.length (bv b))(dh:b.length≤1099511627776)(vW:Gt o0)(Kl:o0.length≤2000000)(Vm:h0.length≤2000000):
  a_ B w0 267 [bq g,.slice A b.length c,ah m] (Dd g sz A1 c1 A2 c2 o0 h0 F) (fun r L=>∃P1 p1 P2 p2 o h,r=ah (g_ m true ⟨b,0,0⟩ o0).2∧L=Dd g sz P1 p1 P2 p2 o h F∧((g_ m true ⟨b,0,0⟩ o0).2=0→o=(g_ m true ⟨b,0,0⟩ o0).1∧h=h0++[o.getD o0.length []]∧Gt o∧o.length=o0.length+m)):=by
 obtain⟨G,hG⟩:=cR (g_ m true ⟨b,0,0⟩ o0);rw[←hG];refine fw func267 76 [0,1,2] ?_;refine bM ?_;refine eK rfl (mT hb dh) fun g13 xi Gc=>?_;refine dm ?_;refine aD (fun zf zL zm=>∃(i:Nat) (s:Cs) (o h:List cj) (P1:bj) (p1:Nat) (P2:bj) (p2:Nat),(i≤m∧cu s∧o.length=o0.length+i∧Gt o∧(i=0→h=h0)∧(0<i→h=h0++[o.getD o0.length []])∧g_ (m-i) (decide ((i:Int)=0)) s o=G)∧m-i=zm∧Sub zf [(0,bq g),(7,bq g13),(14,ah m),(15,ah i)]∧Wk zL (Cv g13 xi Gc s:: .own 5 1 xi s.b.length Gc (bv s.b)::Dd g sz P1 p1 P2 p2 o h F)) _ ⟨0,⟨b,0,0⟩,o0,h0,A1,c1,A2,c2,⟨bS _,⟨bS _,dh⟩,rfl,vW,fun _=>rfl,fun h=>absurd h aa,hG.symm⟩,rfl,bm,.refl _⟩ ?_;rintro _ _ _ ⟨i,s,o,h,P1,p1,P2,p2,⟨hi,ho,hoo,RR,hh0,hh1,hF⟩,rfl,hs,hp⟩;refine aU hs hp ?_;clear hs hp;refine bB ?_;refine aj (fun kH=>?_) fun kH=>?_
 ·obtain⟨k,hk⟩:∃k,m-i=k+1:=⟨m-i-1,aa⟩
  rw[hk,g_]at hF;have mG:=RR.prv o.length;have atP:h.length≤2000001:=by
   by_cases h0i:i=0
   ·rw[hh0 h0i];omega
   ·rw[hh1 aa];simp;omega
  refine i_ ?_;refine d_ (fun zf zL=>Sub zf [(0,bq g),(7,bq g13),(8,ah i),(9,.string ⟨(fy o o.length).toArray⟩),(14,ah m),(15,ah i)]∧Wk zL (Cv g13 xi Gc s:: .own 5 1 xi s.b.length Gc (bv s.b)::Dd g sz P1 p1 P2 p2 o h F)) ?_ ?_
  ·refine dm ?_;refine aj (fun oh=>?_) fun oh=>?_
   ·have amf:o.getD (o.length-1) []=fy o o.length:=(aw aa).symm;refine c_ ?_;refine bU (aG (i:=o.length-1) (size:=1) underlying87 ag rfl rfl aa aa aB) rfl ?_;refine bU (gQ (b:=o) (j:=o.length-1) ag rfl aB aa) rfl ?_;rw[amf];refine aE ?_;refine mu [(0,_),(7,_),(8,_),(9,_),(14,_),(15,_)] ⟨rfl,rfl,rfl,rfl,rfl,rfl,trivial⟩ ?_;exact bC ⟨bm,.refl _⟩
   ·have amf:fy o o.length=[]:=aq aa;refine aE ?_;rw[amf];exact bC ⟨bm,.refl _⟩
  ·rintro _ _ ⟨hs,hp⟩;refine aU hs hp ?_;clear hs hp;refine bB ?_;refine ai rfl (amQ (decide ((i:Int)=0)) (was:=fy o o.length) aa ho aB) ?_;refine bD ?_;refine ai rfl (gO) ?_;refine bP ?_;refine aj (fun LD=>?_) fun LD=>?_
   ·rw[aq LD]at hF;refine b8 ?_;refine ve [6] ?_;refine bM ?_;refine ao (L':=Dd g sz P1 p1 P2 p2 o h F) (.skip (.skip (.refl _))) ?_;refine aE ?_;exact⟨P1,p1,P2,p2,o,h,by rw[←hF],rfl,fun h=>by rw[←hF]at h;exact absurd h LD⟩
   ·rw[aw LD]at hF;have h0:(s6 s (fy o o.length) (decide ((i:Int)=0))).e=0:=by omega
    have fJ:=SC h0;have hbb:=aqL s (fy o o.length) (decide ((i:Int)=0));have hoC:cu (s6 s (fy o o.length) (decide ((i:Int)=0))):=ho.s6 aa;have D8:o.length+1=(o++[sg s (fy o o.length) (decide ((i:Int)=0))]).length:=by simp
    refine dm ?_;refine dK Fq rfl rfl rfl rfl rfl (fun _=>rfl) aV aa aa ?_;intro _ A57 c57;refine b8 ?_;refine ve [0,7,8,10,14,15] ?_;refine bD ?_;refine aj (fun h62=>?_) fun h62=>?_
    ·refine bD ?_;refine dK Fq rfl rfl rfl rfl rfl (fun _=>rfl) aV aa aa ?_;intro _ A70 c70;refine bz ?_;have acM:h.length+1=(h++[sg s (fy o o.length) (decide ((i:Int)=0))]).length:=by simp
     refine av ⟨_,aa,i+1,s6 s (fy o o.length) (decide ((i:Int)=0)),o++[sg s (fy o o.length) (decide ((i:Int)=0))],h++[sg s (fy o o.length) (decide ((i:Int)=0))],A57,c57,A70,c70,⟨aa,hoC,bO,RR.snoc fJ.2.1,fun h=>absurd h aa,fun _=>by rw[hh0 aa];simp[hoo,show i=0 by omega],aop⟩,rfl,bm,.cons (ax (by rw[hbb]) (by rw[hbb]) (bp (by rw[D8,acM];rfl) (ax D8 Md (ax acM Md (.refl _)))))⟩
    ·refine bD ?_;refine av ⟨_,aa,i+1,s6 s (fy o o.length) (decide ((i:Int)=0)),o++[sg s (fy o o.length) (decide ((i:Int)=0))],h,A57,c57,P2,p2,⟨aa,hoC,bO,RR.snoc fJ.2.1,fun h=>absurd h aa,fun _=>by rw[hh1 aa,Nu aa],aop⟩,rfl,bm,.cons (ax (by rw[hbb]) (by rw[hbb]) (bp (by rw[D8];rfl) (ax D8 Md (.refl _))))⟩
 ·rw[show m-i=0 by omega,g_]at hF;refine bM ?_;refine ai rfl (abo ho aB) ?_;refine b8 ?_;refine ao (L':=Dd g sz P1 p1 P2 p2 o h F) (.skip (.skip (.refl _))) ?_;refine aE ?_;have hG2:G.2=s.xV.e:=by
   rw[←hF];split
   ·rfl
   ·rename_i q;simpa using(j0.1 q).symm
  refine⟨P1,p1,P2,p2,o,h,by rw[hG2],rfl,fun q=>?_⟩;rw[hG2]at q;rw[aw Mb]at hF;exact⟨by rw[←hF],hh1 aa,RR,aa⟩
theorem Ub{P:Prop}(h:P:=by(rw[Qk];exact aB)):P:=h
def AV:Nat→Cs→bc→Cs×bc
 |0,s,out=>(s,out)
 |k+1,s,out=>if s.e≠0 then (s,out) else AV k (s.bX 2000) (out++[s.int 2000])
def o_(sz n:Nat):bc→Cs→List cj→List cj×Cs×Int
 |[],s,out=>if s.e≠0 then ([],s,s.e) else (out,s,0)
 |k::r,s,out=>
  if (s.b_ k).e≠0 then ([],s,(s.b_ k).e)
  else if (g_ (min sz (n-out.length)) true ⟨s.take k,0,0⟩ out).2≠0 then ([],s,(g_ (min sz (n-out.length)) true ⟨s.take k,0,0⟩ out).2)
  else o_ sz n r (s.b_ k) (g_ (min sz (n-out.length)) true ⟨s.take k,0,0⟩ out).1
def tM(b:al):Nat:=Cs.int ⟨b,0,0⟩ 1048576
def lO(sz:Nat)(b:al):Cs×bc:=AV (gT sz (tM b)) (Cs.bX ⟨b,0,0⟩ 1048576) []
def mE(sz:Nat)(b:al):List cj×Cs×Int:=o_ sz (tM b) (lO sz b).2 (lO sz b).1 []
def dW(size:Int)(b:al):List cj×Nat×Int:=
 if size<1∨64<size then ([],0,13)
 else if (mE size.toNat b).2.2≠0 then ([],0,(mE size.toNat b).2.2) else ((mE size.toNat b).1,(mE size.toNat b).2.1.at_,0)
theorem uT{size:Int}{b:al}(h:size<1∨64<size):dW size b=([],0,13):=aq h
theorem H9{sz:Nat}{b:al}(h:¬((sz:Int)<1∨64<(sz:Int)))(he:(mE sz b).2.2≠0):dW sz b=([],0,(mE sz b).2.2):=by unfold dW;rw[aw h,nC,aq he]
theorem DA{sz:Nat}{b:al}(h:¬((sz:Int)<1∨64<(sz:Int)))(he:(mE sz b).2.2=0):dW sz b=((mE sz b).1,(mE sz b).2.1.at_,0):=by unfold dW;rw[aw h,nC,aw Ma]
theorem Cs.Kr(s:Cs){m:Int}(h0:0≤m)(hm:m≤9223372036854775807):(s.int m:Int)≤m:=by
 unfold Cs.int;split
 ·simpa using h0
 ·by_cases h:(eu s.rest m).2.2=0
  ·exact(jD s.rest m hm).2.2.2 h
  ·rw[(pC h).1];simpa using h0
theorem Cs.ajb(s:Cs)(m:Int):(s.b_ m).b=s.b:=Cs.cK s _ _
theorem Cs.IQ{s:Cs}{k:Nat}{er:Int}(h:(s.ew k er).e=0):s.e=0:=by
 unfold Cs.ew at h;split at h
 ·exact h
 ·split at h
  ·rename_i h1 h2;exact absurd h h2
  ·exact h
theorem Ig:∀(m:Nat) (f:Bool) (s:Cs) (o:List cj),(g_ m f s o).2=0→∃t,(g_ m f s o).1=o++t∧t.length=m
 |0,f,s,o,h=>by
  unfold g_ at h⊢;split at h
  ·rename_i q;exact absurd h q
  ·rename_i q;rw[aw q];exact⟨[],ak⟩
 |k+1,f,s,o,h=>by
  unfold g_ at h⊢;split at h
  ·rename_i q;exact absurd h q
  ·rename_i q;rw[aw q];obtain⟨t,h1,h2⟩:=Ig k _ _ _ h;exact⟨sg s (fy o o.length) f::t,by rw[h1];simp,by simp[h2]⟩
def hdS(sz:Nat)(o:List cj):List cj:=(List.range (gT sz o.length)).map fun j=>o.getD (j*sz) []
theorem QO{sz n:Nat}(h:1≤sz):n≤gT sz n*sz:=by
 rcases ue (gT sz n*sz) n with h1|h1
 ·exact absurd ((nR h).2 h1) aa
 ·exact h1
theorem RI{i z sz N:Nat}{o t:List cj}(hz:z=i*sz)(k9:1≤sz)(ho:o.length=min z N)(hzN:z<N):(List.range i).map (fun j=>o.getD (j*sz) [])++[(o++t).getD o.length []]=(List.range (i+1)).map (fun j=>(o++t).getD (j*sz) []):=by
 rw[lk,jd,List.map_singleton];congr 1
 ·apply sa;intro j hj;have hji:=ky.1 hj;have:(j+1)*sz≤i*sz:=oC sz aa;rw[mD,rm]at this;exact(Nu aa).symm
 ·rw[show i*sz=o.length by omega]
theorem X1{l:bc}{i:Nat}(h:i<l.length):l.drop i=l.getD i 0::l.drop (i+1):=by
 rw[Oa h];simp[List.getD,fo h]
def aaM(size:Int)(b:al)(F:aR)(r:Value)(L:aR):Prop:=
 ((dW size b).2.2≠0∧r= .tuple #[.pointer none,ah 0,ah (dW size b).2.2]∧L=F)∨
 ((dW size b).2.2=0∧1≤size∧size≤64∧Gt (dW size b).1∧(dW size b).1.length≤1048576∧∃g A1 c1 A2 c2,r= .tuple #[bq g,ah (dW size b).2.1,ah 0]∧L=Dd g size A1 c1 A2 c2 (dW size b).1 (hdS size.toNat (dW size b).1) F)
theorem XY{size:Int}{b:al}(hE:size<1∨64<size):
  a_ B w0 226 [ah size,.slice A n c] F (aaM size b F):=by
 refine fw func226 84 [0,1] ?_;refine bz ?_;refine bR 6 23 [0,1] (size<1∨64<size) ?_ ?_
 ·refine bH ?_;refine aI rfl rfl rfl (fun ja=>?_) (fun ja=>?_)
  ·refine b8 ?_;exact aM oY
  ·refine be ?_;exact aM vy
 ·refine be ?_;refine aj (fun oO=>?_) fun oO=>?_
  ·refine bz ?_;exact .inl ⟨by rw[uT hE];decide,by rw[uT hE],rfl⟩
  ·exfalso;exact oO hE
theorem MZ{sz:Nat}{b:al}(k9:1≤sz)(jK:sz≤64)(hb:fq B w0 F A c b)(dh:b.length≤1000000000):
  a_ B w0 226 [ah sz,.slice A b.length c] F (aaM sz b F):=by
 have hR1:= @H9 sz b aa;have Ys:= @DA sz b aa;have hN1:=Cs.Kr ⟨b,0,0⟩ (m:=1048576) aa aa;have hDS:lO sz b=AV (gT sz (tM b)) (Cs.bX ⟨b,0,0⟩ 1048576) []:=rfl;have hDF:mE sz b=o_ sz (tM b) (lO sz b).2 (lO sz b).1 []:=rfl;have hNe:Cs.int ⟨b,0,0⟩ 1048576=tM b:=rfl;rw[hNe]at hN1;have hdN:∀l:List cj,mE sz b=mE sz b:=fun _=>rfl;obtain⟨N,hN⟩:=cR (tM b);rw[←hN]at hN1 hDS hDF hNe;have hcN:gT sz N≤1048639:=by
  unfold gT;exact jf (rj _ _) aa
 have hcz:gT sz N*sz≤1048639*64:=gN hcN jK;have ho1:cu (Cs.bX ⟨b,0,0⟩ 1048576):=cu.bX ⟨bS _,cZ⟩ aa;refine fw func226 84 [0,1] ?_;refine bz ?_;refine bR 6 23 [0,1] ((sz:Int)<1∨64<(sz:Int)) ?_ ?_
 ·refine bH ?_;refine aI rfl rfl rfl (fun ja=>?_) (fun ja=>?_)
  ·refine b8 ?_;exact aM oY
  ·refine be ?_;exact aM vy
 ·refine be ?_;refine dj fun oO=>?_;refine bI ?_;refine eK rfl (mT hb aa) fun g25 Hh Lx=>?_;refine bB ?_;refine ai rfl (iI (s:=⟨b,0,0⟩) ⟨bS _,cZ⟩ aB (most:=1048576) aa aa) ?_;rw[hNe];refine b8 ?_;refine aY 3 1 none ?_;refine dm ?_;refine aD (fun zf zL zm=>∃(j q:Nat) (s:Cs) (S:bc) (A9:bj) (c9:Nat),(j≤gT sz N∧q=j*sz∧S.length=j∧cu s∧s.b=b∧(∀i,i<S.length→S.getD i 0≤2000)∧AV (gT sz N-j) s S=lO sz b)∧gT sz N-j=zm∧Sub zf [(0,ah sz),(7,bq g25),(8,ah N),(9,.slice A9 S.length c9),(10,ah q)]∧Wk zL (Cv g25 Hh Lx s:: .own 5 1 Hh b.length Lx (bv b):: .own 3 1 A9 S.length c9 (bx S)::F)) _ ⟨0,0,Cs.bX ⟨b,0,0⟩ 1048576,[],none,0,⟨bS _,(sc _).symm,rfl,ho1,Cs.zV _ _,fun i h=>absurd h ak,hDS.symm⟩,rfl,bm,(gl (gl (ef (.refl _))))⟩ ?_;rintro _ _ _ ⟨j,q,s,S,A9,c9,⟨hj,hq,Yv,ho,Qk,hS2,hS⟩,rfl,hs,hp⟩;refine aU hs hp ?_;clear hs hp;refine bH ?_;refine bR 8 35 [0,7,8,9,10] ((q:Int)<N∧s.e=0) ?_ ?_
  ·refine b8 ?_;refine ct (fun D4=>?_) fun D4=>?_
   ·refine be ?_;refine ai rfl (gO) ?_;refine bH ?_;exact aM oY
   ·refine bH ?_;exact aM wz
  ·refine be ?_;refine aj (fun tR=>?_) fun tR=>?_
   ·have hjN:j<gT sz N:=(nR k9).2 aa;have hjz:(j+1)*sz≤gT sz N*sz:=oC sz hjN;have hjs:(j+1)*sz=j*sz+sz:=j9 j sz;have hi2:=Cs.Kr s (m:=2000) aa aa;have D8:S.length+1=(S++[s.int 2000]).length:=by simp
    rw[show gT sz N-j=(gT sz N-(j+1))+1 by omega,AV,aw (by simpa using tR.2)]at hS;refine bD ?_;refine ai rfl (iI ho Ub (most:=2000) aa aa) ?_;refine dK fM rfl rfl rfl rfl rfl (fun _=>rfl) aV aa aa ?_;intro _ Lu c43;refine bz ?_;refine av ⟨_,aa,j+1,q+sz,s.bX 2000,S++[s.int 2000],Lu,c43,⟨aa,aa,bO,ho.bX aa,by rw[Cs.zV];exact Qk,fun i hi=>by
 rcases ue i S.length with h|h
 ·rw[show(S++[s.int 2000]).getD i 0=S.getD i 0 by simp[List.getD,z' h]];exact hS2 i h
 ·have:i=S.length:=by simp at hi;omega
  rw[this];simp;omega,hS⟩,rfl,bm,.cons (.cons (ax D8 sG (.refl _)))⟩
   ·have hSS:(s,S)=lO sz b:=by
     rw[←hS];by_cases h:j=gT sz N
     ·rw[h,nA];rfl
     ·rw[show gT sz N-j=(gT sz N-(j+1))+1 by omega,AV,aq];intro h0;exact tR ⟨by have:=(nR k9).1 (show j<gT sz N by omega);omega,h0⟩
    have hcm:s.e=0→S.length=gT sz N:=by
     intro h0;rcases ue j (gT sz N)with h|h
     ·exact absurd ⟨by have:=(nR k9).1 h;omega,h0⟩ tR
     ·omega
    rw[←hSS]at hDF;refine bB ?_;refine aY 9 1 none ?_;refine aY 9 1 none ?_;refine be ?_;refine ae (br [(1,_)] [.slice none 0 0,ah 0,.slice none 0 0] [1] [_,_,_] rfl rfl ag) rfl ?_;refine bf fun U8=>?_;refine cD ?_;refine aD (fun zf zL zm=>∃(i z:Nat) (u:Cs) (o h:List cj) (P1:bj) (p1:Nat) (P2:bj) (p2:Nat),(i≤S.length∧z=i*sz∧o.length=min z N∧cu u∧u.b=b∧(u.e=0→S.length=gT sz N)∧Gt o∧h=(List.range i).map (fun j=>o.getD (j*sz) [])∧o_ sz N (S.drop i) u o=mE sz b)∧S.length-i=zm∧Sub zf [(0,ah sz),(7,bq g25),(8,ah N),(11,bq U8),(47,.slice A9 S.length c9),(48,ah S.length),(49,ah i)]∧Wk zL (Cv g25 Hh Lx u:: .own 5 1 Hh b.length Lx (bv b)::Dd U8 sz P1 p1 P2 p2 o h (.own 3 1 A9 S.length c9 (bx S)::F))) _ ⟨0,0,s,[],[],none,0,none,0,⟨bS _,(sc _).symm,ak,ho,Qk,hcm,fun x hx=>absurd hx ak,rfl,hDF.symm⟩,rfl,bm,(tD (tD (ef (ef (ef (ef (.refl _)))))))⟩ ?_;rintro _ _ _ ⟨i,z,u,o,h,P1,p1,P2,p2,⟨hi,hz,Kl,hou,hub,huc,RR,hh,hB⟩,rfl,hs,hp⟩;refine aU hs hp ?_;clear hs hp;refine bB ?_;refine aj (fun Iq=>?_) fun Iq=>?_
    ·have hiS:i<S.length:=by omega
     have hzN:z<N:=by have:=(nR k9).1 (show i<gT sz N by omega);omega
     have hoz:o.length=z:=by omega
     have hiz:(i+1)*sz=i*sz+sz:=j9 i sz;have atS:i*sz≤gT sz N*sz:=oC sz aa;have asc:=hS2 i hiS;rw[X1 hiS,o_]at hB;obtain⟨k,hk⟩:=cR (S.getD i 0);have Gk:(bx S)[i*1]? =some (ah (k:Int)):=by rw[hk];simp[bx,List.getD,fo hiS]
     rw[←hk]at hB asc;obtain⟨M,hM⟩:=cR (min sz (N-o.length));rw[←hM]at hB;have hMe:min (sz:Int) ((N-z:Nat):Int)=(M:Int):=by rw[hM,hoz];omega
     have tZ:(u.take k).length≤1000000:=by
      unfold Cs.take;split
      ·simp
      ·split
       ·simp
       ·simp only[eV];omega
     refine bM ?_;refine ae (au ag rfl aB aa Gk) rfl ?_;refine bM ?_;refine ay rfl (ma hou (by rw[hub];exact aB) (m:=(k:Int)) aa aa) fun A56 c56=>?_;refine bD ?_;refine ai rfl (gO) ?_;refine bP ?_;refine aj (fun h60=>?_) fun h60=>?_
     ·rw[aq h60]at hB;refine bB ?_;refine ve [4,5,6] ?_;refine bM ?_;refine ao (L':=F) (.skip (.skip (.skip (.skip (.skip (.skip (.skip (.refl _)))))))) ?_;refine aE ?_;have vD:=hR1 (by rw[←hB];exact h60);rw[←hB]at vD;exact .inl ⟨by rw[vD];exact h60,by rw[vD],rfl⟩
     ·rw[aw h60]at hB;refine bz ?_;refine ae (e_ rfl rfl (r:=(z:Int)) ((bG (by rw[←z8];omega) (by rw[←z8];omega)).trans (by rw[hz];exact z8 i sz))) rfl ?_;refine ae (dQ rfl rfl (r:=((N-z:Nat):Int)) ((bG aa aa).trans aa)) rfl ?_;refine ae (xQ rfl rfl) rfl ?_;rw[hMe];refine ba apg rfl ((alI (b:=u.take k) (m:=M) aa aa aB aa RR aa (by rw[hh];simp;omega)).perm ((pu3 (pu3 (pu3 (fT (fT (fT (.refl _))))))))) rfl ?_;rintro _ _ ⟨P71,p71,Q71,q71,o2,h2,rfl,cJ,hfo⟩;obtain rfl:=cJ.symm;refine aE ?_;refine ve [0,7,8,11,16,47,48,49] ?_;refine bD ?_;refine aj (fun h73=>?_) fun h73=>?_
      ·rw[aq h73]at hB;refine dX ?_;refine ao (L':=F) (.skip (.skip (.skip (.skip (.skip (.skip (.skip (.refl _)))))))) ?_;refine aE ?_;have vD:=hR1 (by rw[←hB];exact h73);rw[←hB]at vD;exact .inl ⟨by rw[vD];exact h73,by rw[vD],rfl⟩
      ·rw[aw h73]at hB;have apZ:(g_ M true ⟨u.take k,0,0⟩ o).2=0:=by simpa using h73
       obtain⟨ho2,hh2,aql,at0⟩:=hfo apZ;rw[←ho2]at hB;obtain⟨t,ht,Cc⟩:=Ig _ _ _ _ apZ;rw[←ho2]at ht;refine bD ?_;refine av ⟨_,aa,i+1,z+sz,u.b_ k,o2,h2,P71,p71,Q71,q71,⟨aa,aa,aa,hou.b_,by rw[Cs.ajb];exact hub,fun q=>huc (Cs.IQ q),aql,by rw[hh2,hh,ht];exact RI hz k9 Kl hzN,hB⟩,rfl,bm,(tD (wu4 (ef (ef (ef (gl (.skip (.refl _))))))))⟩
    ·have hiS:i=S.length:=by omega
     rw[mj aa,o_]at hB;refine bP ?_;refine ai rfl (gO) ?_;refine bP ?_;refine aj (fun h79=>?_) fun h79=>?_
     ·rw[aq h79]at hB;refine bz ?_;refine ao (L':=F) (.skip (.skip (.skip (.skip (.skip (.skip (.refl _))))))) ?_;refine aE ?_;have vD:=hR1 (by rw[←hB];exact h79);rw[←hB]at vD;exact .inl ⟨by rw[vD];exact h79,by rw[vD],rfl⟩
     ·rw[aw h79]at hB;refine bB ?_;refine ai rfl (alE) ?_;refine bB ?_;have vD:=Ys (by rw[←hB]);rw[←hB]at vD;have hn:o.length=N:=by have:=QO (n:=N) k9;have:=huc (by simpa using h79);rw[Kl,hz,hiS,this];omega
      have zb:h=hdS sz o:=by unfold hdS;rw[hn,hh,hiS,huc (by simpa using h79)]
      refine ao (L':=Dd U8 sz P1 p1 P2 p2 o h F) ((rP (rP (rP (.skip (.skip (.skip (.refl _)))))))) ?_;refine aE ?_;exact .inr ⟨by rw[vD],aa,aa,by rw[vD];exact RR,by rw[vD];simp only;omega,U8,P1,p1,P2,p2,by rw[vD],by rw[vD,zb];rfl⟩
theorem ahg{size:Int}{b:al}(hb:fq B w0 F A c b)(dh:b.length≤1000000000):
  a_ B w0 226 [ah size,.slice A b.length c] F (aaM size b F):=by
 by_cases hE:size<1∨64<size
 ·exact XY hE
 ·obtain⟨sz,rfl⟩:=gM (show 0≤size by omega);exact MZ aa aa hb dh
theorem Q7{sz k:Nat}{b:al}{l:List cj}(k9:1≤sz)(jK:sz≤64)(hb:fq B w0 F A c b)(dh:b.length≤1000000000)(he:dW sz b=(l,k,0)):
  a_ B w0 226 [ah sz,.slice A b.length c] F (fun r L=>∃g A1 c1 A2 c2,r= .tuple #[bq g,ah k,ah 0]∧L=Dd g sz A1 c1 A2 c2 l (hdS sz l) F):=
 (MZ k9 jK hb dh).mono fun r L h=>by
  rcases h with⟨h,_⟩|⟨_,_,_,_,_,g,A1,c1,A2,c2,h1,h2⟩
  ·rw[he]at h;exact absurd rfl h
  ·rw[he]at h1 h2;exact⟨g,A1,c1,A2,c2,h1,h2⟩
theorem XZ{size:Int}{b:al}(hb:fq B w0 F A c b)(dh:b.length≤1000000000)(he:(dW size b).2.2≠0):
  a_ B w0 226 [ah size,.slice A b.length c] F (fun r L=>r= .tuple #[.pointer none,ah 0,ah (dW size b).2.2]∧L=F):=
 (ahg hb dh).mono fun r L h=>by
  rcases h with⟨_,h1,h2⟩|⟨h,_⟩
  ·exact⟨h1,h2⟩
  ·exact absurd h he
theorem dP.agP{P:Program}{B:Nat}{w0:World}{L:aR}{ff:FuncId}{args:cV}{R:qR}{size nn c:Nat}{xs:cV}(hb:aL B w0 L size (.slice none nn c) nn xs)(h:nn=0→dP P B w0 ff args L R):dP P B w0 ff args L R:=fun w hw=>by
 obtain⟨A',c',hv,hc,hl,hr⟩:=hb w hw;injection hv with h1 _ h3;subst h1;rcases wV nn with h0|h0
 ·exact h h0 w hw
 ·obtain⟨ad,e,_⟩:=hr h0;cases e
theorem aeQ(l:List cj)(hb:aL B w0 F 1 (.slice A l.length c) l.length (strs l))(hn:l.length≤1099511627776):
  a_ B w0 271 [.slice A l.length c] F (fun r L=>∃A' c',r= .slice A' l.length c'∧L= .own 9 1 A' l.length c' (strs l)::F):=by
 rcases A with _|ad
 ·refine dP.agP hb fun h0=>?_;have:l=[]:=mi h0;subst this;refine cB func271 8 rfl rfl rfl [(0,.slice none 0 c)] ⟨⟨rfl,rfl⟩,trivial⟩ ?_;refine bP ?_;refine ae (r7 underlying87 rfl rfl) rfl ?_;refine bz ?_;refine aC 9 1 none ?_;refine aE ?_;exact⟨none,0,rfl,rfl⟩
 ·refine cB func271 8 rfl rfl rfl [(0,.slice (some ad) l.length c)] ⟨⟨rfl,rfl⟩,trivial⟩ ?_;refine bP ?_;refine ae (r7 underlying87 rfl rfl) rfl ?_;refine bD ?_;refine cH (sI Fq) fun A5=>?_;refine aE ?_;refine gw (bW Fq rfl aV rfl aB cA aa aa) fun A7 c7=>?_;refine b8 ?_;rw[mC,nU];refine aE ?_;exact⟨_,_,rfl,rfl⟩
theorem alD(hn:o.length≤1048576):
  a_ B w0 229 [bq g] (Dd g sz A1 c1 A2 c2 o h F) (fun r L=>∃A' c',r= .slice A' o.length c'∧L=Dd g sz A1 c1 A2 c2 o h (.own 9 1 A' o.length c' (strs o)::F)):=by
 refine fw func229 11 [0] ?_;refine D3 ?_;refine ay rfl (aeQ o aB aa) fun xq HI=>?_;refine b8 ?_;refine ao (L':=Dd g sz A1 c1 A2 c2 o h (.own 9 1 xq o.length HI (strs o)::F)) ((gl (gl (gl (ef (.refl _)))))) ?_;refine aE ?_;exact⟨xq,HI,rfl,rfl⟩
theorem alH:a_ B w0 228 [bq g] (Dd g sz A1 c1 A2 c2 o h F) (fun r L=>r=ah o.length∧L=Dd g sz A1 c1 A2 c2 o h F):=by
 refine fw func228 11 [0] ?_;refine apT ?_;exact⟨rfl,rfl⟩
theorem plK.find{t:cj}{k:Nat}(hk:plK o t k)(hR:kX o):(k<o.length∧o.getD k []=t)↔t∈o:=by
 constructor
 ·rintro⟨h1,h2⟩;rw[←h2,bk,fo h1];exact t_ _
 ·intro h;obtain⟨i,hi,he⟩:=j8 h;have he:o.getD i []=t:=by rw[bk,fo hi];exact he
  have h1:k≤i:=by
   rcases ue i k with h|h
   ·exact absurd (he▸hk.2.1 i h) (fV _)
   ·exact h
  rcases ue k i with h2|h2
  ·exact absurd (he▸hR.lt i k h2 hi) (hk.2.2 k (gj _) aa)
  ·exact⟨aa,by rw[show k=i by omega];exact he⟩
theorem Uf{P:Prop}(h:P:=by(simpa using h4.e1)):P:=h
theorem IJ:type_of% @List.range_eq_range':= @List.range_eq_range'
def wu:cj→List cj→Prop
 |_,[]=>True
 |w,s::r=>ur w s∧wu s r
def J6:cj→List cj→cj
 |w,[]=>w
 |_,s::r=>J6 s r
theorem oJ:∀(w:cj) (l:List cj) (x:cj),J6 w (l++[x])=x
 |_,[],_=>rfl
 |_,s::r,x=>oJ s r x
theorem Nf:∀(w:cj) (a b:List cj),J6 w (a++b)=J6 (J6 w a) b
 |_,[],_=>rfl
 |_,s::r,b=>Nf s r b
theorem pK:∀(l:List cj),fy l l.length=J6 [] l:=by
 intro l;rcases List.eq_nil_or_concat l with rfl|⟨l',x,rfl⟩
 ·rfl
 ·rw[List.concat_eq_append,oJ];unfold fy;rw[aw ak];simp
theorem wu.app:∀{w:cj} {a b:List cj},wu w a→wu (J6 w a) b→wu w (a++b)
 |_,[],_,_,h=>h
 |_,s::r,b,h,k=>⟨h.1,wu.app h.2 k⟩
theorem wu.left:∀{w:cj} {a b:List cj},wu w (a++b)→wu w a
 |_,[],_,_=>trivial
 |_,s::r,b,h=>⟨h.1,wu.left h.2⟩
theorem wu.right:∀{w:cj} {a b:List cj},wu w (a++b)→wu (J6 w a) b
 |_,[],_,h=>h
 |_,s::r,b,h=>wu.right (a:=r) h.2
theorem wu.get:∀{w:cj} {l:List cj},wu w l→∀i,i<l.length→ur (if i=0 then w else l.getD (i-1) []) (l.getD i [])
 |_,[],_,i,hi=>absurd hi ak
 |w,s::r,h,0,_=>by simpa using h.1
 |w,s::r,h,i+1,hi=>by
  have:=wu.get h.2 i C3;cases i with
  |zero=>simpa using this
  |succ i=>simpa using this
theorem wu.adW:∀{w:cj} {l:List cj},(∀i,i<l.length→ur (if i=0 then w else l.getD (i-1) []) (l.getD i []))→wu w l
 |_,[],_=>trivial
 |w,s::r,h=>by
  refine⟨by simpa using h 0 ak,wu.adW fun i hi=>?_⟩;have:=h (i+1) C3;cases i with
  |zero=>simpa using this
  |succ i=>simpa using this
theorem kX.ch{l:List cj}(h:kX l):wu [] l:=wu.adW h.1
theorem wu.ris{l:List cj}(h:wu [] l)(hl:l.length≤1048576):kX l:=⟨h.get,hl⟩
theorem Oi:∀a b:cj,a.take (qm a b)=b.take (qm a b)
 |[],b=>by simp[qm]
 |x::a,[]=>by simp[qm]
 |x::a,y::b=>by
  unfold qm;split
  ·rename_i h;simp[h,Oi a b]
  ·simp
theorem adq:∀{a b:cj},tj a b→qm a b<b.length
 |_,[],h=>absurd h (qq _)
 |[],y::b,_=>by simp[qm]
 |x::a,y::b,h=>by
  unfold qm;rw[uk]at h;split
  ·rename_i he;subst he;rcases h with h|⟨_,h⟩
   ·rw[PR]at h;omega
   ·have:=adq h;simp;omega
  ·simp
theorem akY{x:Nat}(h:x<128):(aS x).length=1:=by rw[ox h];rfl
theorem Ic{t:cj}(h:t.length<128):(ft t).length=t.length+1:=by
 unfold ft;rw[aX,akY h];omega
theorem Ps:∀(was:cj) (r:List cj),was.length≤25→(∀s∈r,s.length≤25)→(iG was r).length≤r.length*27
 |_,[],_,_=>by simp[iG]
 |was,s::r,hw,h=>by
  have hs:=h s ak;have:=Ps s r hs (fun x hx=>h x oe);have hl:=Aj was s;unfold iG;rw[aX,aX,akY aa,Ic kR,iN,eh,mD];omega
theorem QM{X:List cj}(hl:X.length≤64)(h:∀s∈X,s.length≤25):(dB X).length≤2000:=by
 cases X with
 |nil=>simp[dB]
 |cons t r=>
  have ht:=h t ak;have:=Ps t r ht (fun x hx=>h x oe);simp only[eh]at hl;unfold dB;rw[aX,Ic aa];omega
theorem amW{s:Cs}{was x:cj}{r:al}(h0:s.e=0)(hw:was.length≤1000)(hm:ur was x)(hr:s.rest=aS (qm was x)++ft (x.drop (qm was x))++r):sg s was false=x∧(s6 s was false).e=0∧(s6 s was false).rest=r:=by
 have hl:=Aj was x;have fP:=adq (CF.1 hm.2.2);rw[bV]at hr;obtain⟨h1,h2⟩:=Cs.iE h0 (m:=was.length) aa aa hr;have u5:=h2.cF hr;obtain⟨h3,h4⟩:=Cs.rH h2.e1 (m:=25) (by rw[iN];have:=hm.2.1;omega) aa u5;have vZ:=h4.cF u5;have hX:nxX s was false=x:=by
  show was.take (s.int was.length)++(s.bX was.length).text 25=x;rw[h1,h3,Oi,jO]
 have hS:SB s was false=(s.bX was.length).ey 25:=rfl;have hB:¬qs s was false:=by
  rintro(h|h|⟨_,h⟩)
  ·have h:(s.bX was.length).text 25=[]:=h;rw[h3]at h;have:=dC List.length h;rw[iN]at this;simp at this;omega
  ·rw[hX]at h;exact h hm
  ·rw[hX]at h;exact h h1.symm
 have hC:s6 s was false=(s.bX was.length).ey 25:=by
  unfold s6;rw[hS,aw Uf,aw hB]
 refine⟨?_,by rw[hC];exact h4.e1,by rw[hC];exact vZ⟩;unfold sg;rw[hS,aw Uf,hX]
theorem amV{s:Cs}{was x:cj}{r:al}(h0:s.e=0)(hm:ur was x)(hr:s.rest=ft x++r):sg s was true=x∧(s6 s was true).e=0∧(s6 s was true).rest=r:=by
 obtain⟨h3,h4⟩:=Cs.rH h0 (m:=25) (by have:=hm.2.1;omega) aa hr;have vZ:=h4.cF hr;have hX:nxX s was true=x:=by
  show was.take 0++s.text 25=x;rw[h3];rfl
 have hS:SB s was true=s.ey 25:=rfl;have hB:¬qs s was true:=by
  rintro(h|h|⟨h,_⟩)
  ·have h:s.text 25=[]:=h;rw[h3]at h;exact hm.1 h
  ·rw[hX]at h;exact h hm
  ·cases h
 have hC:s6 s was true=s.ey 25:=by
  unfold s6;rw[hS,aw Uf,aw hB]
 refine⟨?_,by rw[hC];exact h4.e1,by rw[hC];exact vZ⟩;unfold sg;rw[hS,aw Uf,hX]
theorem Ii:∀(r out:List cj) (s:Cs),s.e=0→(fy out out.length).length≤1000→s.rest=iG (fy out out.length) r→wu (fy out out.length) r→g_ r.length false s out=(out++r,0)
 |[],out,s,h0,_,hr,_=>by
  have:=Cs.abY h0 hr;simp[g_,this]
 |x::r,out,s,h0,hw,hr,hc=>by
  obtain⟨h1,h2,h3⟩:=amW h0 hw hc.1 hr;have hp:fy (out++[x]) (out++[x]).length=x:=by rw[pK,oJ]
  show g_ (r.length+1) false s out=_;unfold g_;rw[aw oW,h1,Ii r (out++[x]) _ h2 (by rw[hp];have:=hc.1.2.1;omega) (by rw[hp];exact h3) (by rw[hp];exact hc.2)];simp
theorem Nk{X out:List cj}(r':X≠[])(hc:wu (fy out out.length) X):g_ X.length true ⟨dB X,0,0⟩ out=(out++X,0):=by
 cases X with
 |nil=>exact absurd rfl r'
 |cons x r=>
  obtain⟨h1,h2,h3⟩:=amV (s:=⟨dB (x::r),0,0⟩) rfl hc.1 (show Cs.rest ⟨dB (x::r),0,0⟩=ft x++iG x r from rfl);have hp:fy (out++[x]) (out++[x]).length=x:=by rw[pK,oJ]
  show g_ (r.length+1) true _ out=_;unfold g_;rw[aw oW,h1,Ii r (out++[x]) _ h2 (by rw[hp];have:=hc.1.2.1;omega) (by rw[hp];exact h3) (by rw[hp];exact hc.2)];simp
theorem WC:∀(ns:bc) (s:Cs) (out:bc) (r:al),s.e=0→(∀n∈ns,n≤2000)→s.rest=ns.flatMap aS++r→∃s',AV ns.length s out=(s',out++ns)∧nQ s s' (ns.flatMap aS)
 |[],s,out,r,h0,_,hr=>⟨s,by simp[AV],nQ.nil h0⟩
 |n::ns,s,out,r,h0,hn,hr=>by
  have hn1:=hn n ak;rw[jM,bV]at hr;obtain⟨h1,h2⟩:=Cs.iE h0 (m:=2000) aa aa hr;obtain⟨s',h3,h4⟩:=WC ns (s.bX 2000) (out++[n]) r h2.e1 (fun x hx=>hn x oe) (h2.cF hr);refine⟨s',?_,?_⟩
  ·show AV (ns.length+1) s out=_;unfold AV;rw[aw (by simpa using h0),h1,h3];simp
  ·rw[jM];exact h2.trans h4
theorem ajd(l:List cj)(sz i:Nat):l.take (i*sz)++ck l sz i=l.take ((i+1)*sz):=by
 unfold ck;rw[mD,rm,List.take_add]
theorem Mp{l:List cj}{sz:Nat}(hR:kX l)(k9:1≤sz):∀(m i:Nat) (s:Cs) (r:al),i+m=gT sz l.length→s.e=0→s.rest=iY l sz (List.range' i m)++r→
  ∃s',o_ sz l.length ((List.range' i m).map fun j=>(dB (ck l sz j)).length) s (l.take (i*sz))=(l,s',0)∧nQ s s' (iY l sz (List.range' i m))
 |0,i,s,r,hi,h0,hr=>by
  have wN:=QO (sz:=sz) (n:=l.length) k9;refine⟨s,?_,nQ.nil h0⟩;have:i=gT sz l.length:=by omega
  simp only[List.range'_zero,G1,o_];rw[aw (by simpa using h0),this,fD wN]
 |m+1,i,s,r,hi,h0,hr=>by
  rw[List.range'_succ]at hr⊢;have fP:=(nR k9).1 (show i<gT sz l.length by omega);simp only[iY,jM,bV]at hr;obtain⟨h1,h2⟩:=Cs.mo h0 (n:=((dB (ck l sz i)).length:Int)) rfl hr;have u5:=h2.cF hr;have Cc:(l.take (i*sz)).length=i*sz:=by rw[eV];omega
  have ap_:(ck l sz i).length=min sz (l.length-i*sz):=by simp[ck]
  have r':ck l sz i≠[]:=fun h=>by have:=dC List.length h;rw[ap_]at this;simp at this;omega
  have hch:wu (fy (l.take (i*sz)) (l.take (i*sz)).length) (ck l sz i):=by
   rw[pK];have h:=hR.ch;rw[←jO (i*sz) l]at h;have h:=h.right;rw[←jO sz (l.drop (i*sz))]at h;exact h.left
  have hF:=Nk (out:=l.take (i*sz)) r' hch;rw[ap_]at hF;obtain⟨s',h3,h4⟩:=Mp hR k9 m (i+1) _ r aa h2.e1 u5;refine⟨s',?_,?_⟩
  ·simp only[kz,o_];rw[aw (by simpa using h2.e1),h1,Cc,hF,aw ak];show o_ _ _ _ _ (l.take (i*sz)++ck l sz i)=_;rw[ajd];exact h3
  ·show nQ s s' (iY l sz (i::List.range' (i+1) m));simp only[iY,jM];exact h2.trans h4
theorem XX{l:List cj}{sz:Nat}(hR:kX l)(k9:1≤sz)(jK:sz≤64)(more:al):dW sz (fS sz l++more)=(l,(fS sz l).length,0):=by
 have vW:=hR.le;have hb:(Cs.rest ⟨fS sz l++more,0,0⟩)=aS l.length++(lj l sz (List.range (gT sz l.length))++(iY l sz (List.range (gT sz l.length))++more)):=by simp[Cs.rest,fS]
 have hl:=hR.2;obtain⟨h1,h2⟩:=Cs.iE (s:=⟨fS sz l++more,0,0⟩) rfl (m:=1048576) (x:=l.length) aa aa hb;have u5:=h2.cF hb;have hN:tM (fS sz l++more)=l.length:=h1;have hH:lj l sz (List.range (gT sz l.length))=((List.range (gT sz l.length)).map fun j=>(dB (ck l sz j)).length).flatMap aS:=by simp[lj,List.flatMap_map]
 rw[hH]at u5;obtain⟨s2,h3,h4⟩:=WC _ _ [] _ h2.e1 (fun n hn=>by
  obtain⟨j,_,rfl⟩:=pS.1 hn;exact QM (by simp[ck];omega) (fun x hx=>vW x (zo hx))) u5
 have vZ:=h4.cF u5;rw[IJ]at vZ;obtain⟨s3,h5,h6⟩:=Mp hR k9 _ 0 s2 more aa h4.e1 vZ;rw[eM,wm]at h3;have hS:lO sz (fS sz l++more)=(s2,(List.range (gT sz l.length)).map fun j=>(dB (ck l sz j)).length):=by
  unfold lO;rw[hN,h3];rfl
 have hF:mE sz (fS sz l++more)=(l,s3,0):=by
  unfold mE;rw[hN,hS,IJ];rw[sc,Ah]at h5;exact h5
 have GQ:s3.at_=(fS sz l).length:=by
  have h7:=(h2.trans (h4.trans h6)).eq;rw[h7];have hH2:=dC List.length hH;simp only[IJ]at hH2;simp only[fS,aX,IJ,hH2];omega
 rw[DA aa (by rw[hF]),hF,←GQ]
theorem amX{s:Cs}{was:cj}(hw:was.length≤1000)(h:(s6 s was false).e=0):ur was (sg s was false)∧nQ s (s6 s was false) (aS (qm was (sg s was false))++ft ((sg s was false).drop (qm was (sg s was false)))):=by
 have hm:=SC h;obtain⟨h1,h2,h3,h4⟩:=adT h;have Rq:((s.bX was.length).ey 25).e=0:=h1;have hS:s6 s was false=(s.bX was.length).ey 25:=h3;obtain⟨h5,h6⟩:=Cs.yT Rq;obtain⟨h7,h8,h9⟩:=Cs.Ks h5.e0;have hX:sg s was false=was.take (s.int was.length)++(s.bX was.length).text 25:=h4;have hl:qm was (sg s was false)=s.int was.length:=by
  refine j0.1 fun q=>h2 (.inr (.inr ⟨rfl,fun e=>q ?_⟩));rw[h4];exact e
 refine⟨hm,?_⟩;rw[hl,hS];have hd:(sg s was false).drop (s.int was.length)=(s.bX was.length).text 25:=by
  rw[hX,qk nt]
 rw[hd];exact h7.trans h5
theorem aio{s:Cs}{was:cj}(h:(s6 s was true).e=0):ur was (sg s was true)∧nQ s (s6 s was true) (ft (sg s was true)):=by
 have hm:=SC h;obtain⟨h1,h2,h3,h4⟩:=adT h;have Rq:(s.ey 25).e=0:=h1;have hS:s6 s was true=s.ey 25:=h3;obtain⟨h5,h6⟩:=Cs.yT Rq;have hX:sg s was true=s.text 25:=h4;refine⟨hm,?_⟩;rw[hX,hS];exact h5
theorem abZ{s:Cs}(h:s.xV.e=0):s.e=0∧s.rest=[]:=by
 obtain⟨h1,h2⟩:=Cs.ahk h;refine⟨h1,?_⟩;unfold Cs.left at h2;unfold Cs.rest;exact mj aa
theorem Ih:∀(m:Nat) (s:Cs) (out:List cj),(fy out out.length).length≤1000→(g_ m false s out).2=0→∃r,(g_ m false s out).1=out++r∧r.length=m∧s.rest=iG (fy out out.length) r∧wu (fy out out.length) r∧s.e=0
 |0,s,out,hw,h=>by
  unfold g_ at h⊢;split at h
  ·rename_i q;exact absurd h q
  ·rename_i q;rw[aw q];obtain⟨h1,h2⟩:=abZ Mb;exact⟨[],ak,rfl,h2,trivial,h1⟩
 |m+1,s,out,hw,h=>by
  unfold g_ at h⊢;split at h
  ·rename_i q;exact absurd h q
  ·rename_i q;rw[aw q];have q':(s6 s (fy out out.length) false).e=0:=by simpa using q
   obtain⟨h1,h2⟩:=amX hw q';have hp:fy (out++[sg s (fy out out.length) false]) (out++[sg s (fy out out.length) false]).length=sg s (fy out out.length) false:=by rw[pK,oJ]
   obtain⟨r,h3,h4,h5,h6,h7⟩:=Ih m _ (out++[sg s (fy out out.length) false]) (by rw[hp];have:=h1.2.1;omega) h;rw[hp]at h5 h6;refine⟨sg s (fy out out.length) false::r,by rw[h3];simp,by simp[h4],?_,⟨h1,h6⟩,h2.e0⟩;rw[h2.rest,h5];simp only[iG]
theorem Ya{m:Nat}{b:al}{out:List cj}(hm:1≤m)(h:(g_ m true ⟨b,0,0⟩ out).2=0):∃r,(g_ m true ⟨b,0,0⟩ out).1=out++r∧r.length=m∧b=dB r∧wu (fy out out.length) r:=by
 obtain⟨k,rfl⟩:∃k,m=k+1:=⟨m-1,aa⟩
 unfold g_ at h⊢;split at h
 ·rename_i q;exact absurd h q
 ·rename_i q;rw[aw q];have q':(s6 ⟨b,0,0⟩ (fy out out.length) true).e=0:=by simpa using q
  obtain⟨h1,h2⟩:=aio q';have hp:fy (out++[sg ⟨b,0,0⟩ (fy out out.length) true]) (out++[sg ⟨b,0,0⟩ (fy out out.length) true]).length=sg ⟨b,0,0⟩ (fy out out.length) true:=by rw[pK,oJ]
  obtain⟨r,h3,h4,h5,h6,h7⟩:=Ih k _ (out++[sg ⟨b,0,0⟩ (fy out out.length) true]) (by rw[hp];have:=h1.2.1;omega) h;rw[hp]at h5 h6;refine⟨sg ⟨b,0,0⟩ (fy out out.length) true::r,by rw[h3];simp,by simp[h4],?_,⟨h1,h6⟩⟩;have:=h2.rest;rw[h5]at this;simpa[Cs.rest,dB]using this
theorem Pg:∀(k:Nat) (s s':Cs) (out S:bc),AV k s out=(s',S)→s'.e=0→∃S',S=out++S'∧S'.length=k∧nQ s s' (S'.flatMap aS)
 |0,s,s',out,S,h,he=>by
  simp only[AV,Cd]at h;obtain⟨rfl,rfl⟩:=h;exact⟨[],ak,rfl,nQ.nil he⟩
 |k+1,s,s',out,S,h,he=>by
  unfold AV at h;split at h
  ·rename_i q;simp only[Cd]at h;obtain⟨rfl,rfl⟩:=h;exact absurd he q
  ·obtain⟨S',h1,h2,h3⟩:=Pg k _ _ _ _ h he;obtain⟨h4,h5,h6⟩:=Cs.Ks h3.e0;refine⟨s.int 2000::S',by rw[h1];simp,by simp[h2],?_⟩;rw[jM];exact h4.trans h3
theorem HB{sz n:Nat}(k9:1≤sz):∀(S:bc) (i:Nat) (s s':Cs) (out l:List cj),out.length=min (i*sz) n→S.length+i=gT sz n→o_ sz n S s out=(l,s',0)→
  l.length=n∧(∃t,l=out++t∧wu (fy out out.length) t)∧nQ s s' (iY l sz (List.range' i S.length))∧S=(List.range' i S.length).map (fun j=>(dB (ck l sz j)).length)
 |[],i,s,s',out,l,ho,hS,h=>by
  unfold o_ at h;split at h
  ·rename_i q;simp only[Cd]at h;exact absurd h.2.2 q
  ·rename_i q;simp only[Cd]at h;obtain⟨rfl,rfl,_⟩:=h;have wN:=QO (sz:=sz) (n:=n) k9;have hi:i=gT sz n:=by simpa using hS
   rw[←hi]at wN;exact⟨aa,⟨[],ak,trivial⟩,nQ.nil Mb,ak⟩
 |k::S,i,s,s',out,l,ho,hS,h=>by
  simp only[eh]at hS;have fP:=(nR k9).1 (show i<gT sz n by omega);have hoi:out.length=i*sz:=by omega
  have jb:(i+1)*sz=i*sz+sz:=j9 i sz;unfold o_ at h;split at h
  ·rename_i q;simp only[Cd]at h;exact absurd h.2.2 q
  ·rename_i q;split at h
   ·rename_i q2;simp only[Cd]at h;exact absurd h.2.2 q2
   ·rename_i q2;obtain⟨h1,h2,_⟩:=Cs.Pu (show(s.b_ k).e=0 by simpa using q);obtain⟨r,h3,h4,h5,h6⟩:=Ya aa (show(g_ (min sz (n-out.length)) true ⟨s.take k,0,0⟩ out).2=0 by simpa using q2);rw[h3]at h;obtain⟨h7,⟨t,h8,h9⟩,jB,pq⟩:=HB k9 S (i+1) _ s' (out++r) l (by rw[aX,h4,jb];omega) aa h;have hck:ck l sz i=r:=by
     unfold ck;rw[h8,bV,←hoi,BI];rcases ue (n-out.length) sz with hc|hc
     ·have ht:t=[]:=by
       apply mi;have:=dC List.length h8;rw[h7,aX,aX,h4]at this;omega
      rw[ht,gk,fD aa]
     ·rw[pz (by rw[h4];omega)]
    have hpr:fy (out++r) (out++r).length=J6 (fy out out.length) r:=by rw[pK,pK,Nf]
    rw[hpr]at h9;refine⟨h7,⟨r++t,by rw[h8,bV],h6.app h9⟩,?_,?_⟩
    ·simp only[eh,List.range'_succ,iY,jM];rw[hck,←h5];exact h1.trans jB
    ·simp only[eh,List.range'_succ,kz];rw[hck,←h5,h2,←pq];simp
theorem MX{sz:Nat}{b:al}(k9:1≤sz)(jK:sz≤64)(he:(dW sz b).2.2=0):kX (dW sz b).1∧(dW sz b).2.1≤b.length∧fS sz (dW sz b).1=b.take (dW sz b).2.1:=by
 have hE:¬((sz:Int)<1∨64<(sz:Int)):=by omega
 have hF:(mE sz b).2.2=0:=j0.1 fun h=>by
  rw[H9 hE h]at he;exact h he
 rw[DA hE hF];obtain⟨l,s',e⟩:∃l s',mE sz b=(l,s',0):=⟨_,_,Prod.ext rfl (Prod.ext rfl hF)⟩
 have e':=e;unfold mE at e';have Yv:(lO sz b).1.e=0→(lO sz b).2.length=gT sz (tM b)∧nQ (Cs.bX ⟨b,0,0⟩ 1048576) (lO sz b).1 ((lO sz b).2.flatMap aS):=by
  intro h0;obtain⟨S',h1,h2,h3⟩:=Pg (gT sz (tM b)) (Cs.bX ⟨b,0,0⟩ 1048576) (lO sz b).1 [] (lO sz b).2 rfl h0;rw[nU]at h1;rw[h1];exact⟨h2,h3⟩
 have h0:(lO sz b).1.e=0:=by
  generalize (lO sz b).2=S at e';generalize (lO sz b).1=u at e'⊢;cases S with
  |nil=>
   unfold o_ at e';split at e'
   ·rename_i q;simp only[Cd]at e';exact absurd e'.2.2 q
   ·rename_i q;simpa using q
  |cons k S=>
   unfold o_ at e';split at e'
   ·rename_i q;simp only[Cd]at e';exact absurd e'.2.2 q
   ·rename_i q;exact Cs.IQ (s:=u) (k:=(k:Int).toNat) (er:=im u.rest k) (show(u.b_ k).e=0 by simpa using q)
 obtain⟨h1,h2⟩:=Yv h0;obtain⟨h3,⟨t,h4,h5⟩,h6,h7⟩:=HB k9 _ 0 _ s' [] l ak aa e';rw[nU]at h4;subst h4;obtain⟨h8,h9,_⟩:=Cs.Ks h2.e0;have jB:=h8.trans (h2.trans h6);rw[h1]at h6 h7 jB;have hH:lj l sz (List.range (gT sz l.length))=(lO sz b).2.flatMap aS:=by
  rw[h7,IJ,h3];simp[lj,List.flatMap_map]
 have hD:fS sz l=aS (Cs.int ⟨b,0,0⟩ 1048576)++((lO sz b).2.flatMap aS++iY l sz (List.range' 0 (gT sz (tM b)))):=by
  unfold fS;rw[hH,h3,IJ,bV];rfl
 rw[←hD]at jB;have GQ:s'.at_=(fS sz l).length:=by rw[jB.eq];simp
 have zP:b=fS sz l++s'.rest:=by simpa[Cs.rest]using jB.rest
 rw[e];simp only;rw[GQ];have hN:(tM b:Int)≤1048576:=h9;refine⟨wu.ris (by simpa[fy]using h5) (by rw[h3];omega),?_,?_⟩
 ·conv=>rhs;rw[zP]
  simp
 ·conv=>rhs;rw[zP]
  rw[yo]
def LM(bound:Int):Nat→al→List (bc)→List (bc)×Int
 |0,b,out=>if b.length≠0 then ([],2) else (out,0)
 |k+1,b,out=>
  if (iK bound b).2.2≠0 then ([],(iK bound b).2.2)
  else if (iK bound b).1.length=0 then ([],2)
  else LM bound k (b.drop (iK bound b).2.1) (out++[(iK bound b).1])
def zT(size bound:Int)(b:al):List (bc)×Int:=LM bound (dW size b).1.length (b.drop (dW size b).2.1) []
def eF(size bound:Int)(b:al):List cj×List (bc)×Int:=
 if bound<0∨20000<bound then ([],[],13)
 else if (dW size b).2.2≠0 then ([],[],(dW size b).2.2)
 else if (zT size bound b).2≠0 then ([],[],(zT size bound b).2)
 else ((dW size b).1,(zT size bound b).1,0)
theorem Vt{size bound:Int}{b:al}(h:bound<0∨20000<bound):eF size bound b=([],[],13):=aq h
theorem Vu{size bound:Int}{b:al}(h:¬(bound<0∨20000<bound))(h1:(dW size b).2.2≠0):eF size bound b=([],[],(dW size b).2.2):=by unfold eF;rw[aw h,aq h1]
theorem Vv{size bound:Int}{b:al}(h:¬(bound<0∨20000<bound))(h1:(dW size b).2.2=0)(h2:(zT size bound b).2≠0):eF size bound b=([],[],(zT size bound b).2):=by unfold eF;rw[aw h,aw C2,aq h2]
theorem Kp{size bound:Int}{b:al}(h:¬(bound<0∨20000<bound))(h1:(dW size b).2.2=0)(h2:(zT size bound b).2=0):eF size bound b=((dW size b).1,(zT size bound b).1,0):=by unfold eF;rw[aw h,aw C2,aw oW]
theorem Ow{bn:Nat}(hb:bn≤20000):∀(I out:List (bc)),(∀x∈I,x≠[]∧kW bn x)→LM bn I.length (I.flatMap (rM bn)) out=(out++I,0)
 |[],out,_=>by simp[LM]
 |x::r,out,h=>by
  obtain⟨h1,h2⟩:=h x ak;have hbk:=X3 h2 hb (r.flatMap (rM bn));rw[jM,eh,LM,hbk,aw ak,aw C2];simp only;rw[BI,Ow hb r _ fun y hy=>h y vR];simp
theorem VV{bound:Int}(Qd:bound≤9223372036854775807):∀(k:Nat) (b:al) (out:List (bc)),(LM bound k b out).2=0→∃I,(LM bound k b out).1=out++I∧I.length=k∧(∀x∈I,x≠[]∧kW bound.toNat x)∧I.flatMap (rM bound.toNat)=b
 |0,b,out,h=>by
  unfold LM at h⊢;split at h
  ·exact absurd h aA
  ·rename_i q;rw[aw q];exact⟨[],ak,rfl,ak,by simpa using(mi Mb).symm⟩
 |k+1,b,out,h=>by
  unfold LM at h⊢;split at h
  ·rename_i q;exact absurd h q
  ·rename_i q;split at h
   ·exact absurd h aA
   ·rename_i q2;rw[aw q,aw q2];obtain⟨bn,rfl,oP,hR,hB,hl⟩:=M1 Qd Mb;obtain⟨I,h1,h2,h3,h4⟩:=VV Qd k _ _ h;simp only[nC]at h3 h4⊢;refine⟨(iK bn b).1::I,by rw[h1];simp,by simp[h2],?_,?_⟩
    ·intro x hx;rcases fm.1 hx with rfl|hx
     ·exact⟨fun e=>q2 C4,hR⟩
     ·exact h3 x hx
    ·rw[jM,hB,h4,jO]
theorem adh{sz bn:Nat}{T:List cj}{I:List (bc)}(h1:1≤sz)(h2:sz≤64)(hb:bn≤20000)(hR:kX T)(hl:T.length=I.length)(hI:∀x∈I,x≠[]∧kW bn x):eF sz bn (fS sz T++I.flatMap (rM bn))=(T,I,0):=by
 have hd:=XX hR h1 h2 (I.flatMap (rM bn));have hL:zT sz bn (fS sz T++I.flatMap (rM bn))=(I,0):=by
  unfold zT;rw[hd];simp only;rw[BI,hl,Ow hb I [] hI];simp
 rw[Kp aa (by rw[hd]) (by rw[hL]),hd,hL]
theorem ahT{size bound:Int}{b:al}(h:(eF size bound b).2.2=0)(hs:size≤9223372036854775807):∃sz bn:Nat,size=sz∧bound=bn∧1≤sz∧sz≤64∧bn≤20000∧kX (eF size bound b).1∧(eF size bound b).1.length=(eF size bound b).2.1.length∧
  (∀x∈(eF size bound b).2.1,x≠[]∧kW bn x)∧fS sz (eF size bound b).1++(eF size bound b).2.1.flatMap (rM bn)=b:=by
 have q1:¬(bound<0∨20000<bound):=fun q1=>by rw[Vt q1]at h;exact absurd h aA
 have q2:(dW size b).2.2=0:=bF fun q2=>by rw[Vu q1 q2]at h;exact q2 h
 have q3:(zT size bound b).2=0:=bF fun q3=>by rw[Vv q1 q2 q3]at h;exact q3 h
 rw[Kp q1 q2 q3];have q4:¬(size<1∨64<size):=fun q=>by rw[uT q]at q2;exact absurd q2 aA
 obtain⟨sz,rfl⟩:=gM (show 0≤size by omega);obtain⟨bn,rfl⟩:=gM (show 0≤bound by omega);obtain⟨e1,e2,e3⟩:=MX (sz:=sz) aa aa q2;obtain⟨I,f1,f2,f3,f4⟩:=VV (bound:=bn) aa _ _ _ q3;rw[nU]at f1;have f1':(zT sz bn b).1=I:=f1;rw[nC]at f3 f4;refine⟨sz,bn,rfl,rfl,aa,aa,aa,e1,?_,?_,?_⟩
 ·simp only;rw[f1',f2]
 ·simp only;rw[f1'];exact f3
 ·simp only;rw[f1',f4,e3,jO]
def l8(I:List (bc)):List (List Int):=I.map fun l=>l.map (fun(n:Nat)=>(n:Int))
theorem R1{bn:Nat}{T:List cj}{I:List (bc)}(hb:bn≤20000)(hR:kX T)(hl:T.length=I.length)(hI:∀x∈I,x≠[]∧kW bn x):yb bn T (l8 I):=by
 refine⟨⟨aa,aa⟩,by simp[l8,hl],hR,fun x hx=>?_⟩;obtain⟨y,hy,rfl⟩:=pS.1 hx;exact⟨fun e=>(hI y hy).1 (List.map_eq_nil_iff.1 e),(sk _ _).2 (hI y hy).2⟩
theorem Ou{bn:Nat}(hb:bn≤20000):∀I:List (bc),(∀x∈I,x≠[]∧kW bn x)→lsB bn (l8 I)=I.flatMap (rM bn)
 |[],_=>by simp[lsB,l8]
 |x::r,h=>by
  have ih:=Ou hb r fun y hy=>h y vR;have e:P_ bn (x.map (fun(n:Nat)=>(n:Int)))=(rM bn x,0):=J2 (by rintro(q|q|q);omega;omega;exact q ((sk _ _).2 (h x ak).2));unfold lsB l8 at ih⊢;rw[kz,jM,jM,ih,e]
theorem IC{sz bn:Nat}{T:List cj}{I:List (bc)}(h1:1≤sz)(h2:sz≤64)(hb:bn≤20000)(hR:kX T)(hl:T.length=I.length)(hI:∀x∈I,x≠[]∧kW bn x):qI sz bn T (l8 I)=(fS sz T++I.flatMap (rM bn),0):=by
 rw[Kq h1 h2 (R1 hb hR hl hI)];unfold Ko;rw[Ou hb I hI]
theorem Ec{bound:Int}{T:List cj}{I:List (List Int)}(h:yb bound T I):∃(bn:Nat) (N:List (bc)),bound=bn∧bn≤20000∧I=l8 N∧kX T∧T.length=N.length∧∀x∈N,x≠[]∧kW bn x:=by
 obtain⟨⟨h0,h1⟩,h2,h3,h4⟩:=h;obtain⟨bn,rfl⟩:=gM h0;have e:I=l8 (I.map fun l=>l.map Int.toNat):=by
  unfold l8;rw[vF]
  conv=>lhs;rw[←List.map_id I]
  refine sa fun x hx=>?_;obtain⟨xs,rfl⟩:=(h4 x hx).2.adM;simp[Function.comp_def]
 refine⟨bn,I.map fun l=>l.map Int.toNat,rfl,aa,e,h3,oW,fun x hx=>?_⟩;obtain⟨y,hy,rfl⟩:=pS.1 hx;obtain⟨xs,rfl⟩:=(h4 y hy).2.adM;have e2:(xs.map (fun(n:Nat)=>(n:Int))).map Int.toNat=xs:=by simp[Function.comp_def]
 rw[e2];exact⟨fun q=>(h4 _ hy).1 (by rw[q];rfl),(sk _ _).1 (h4 _ hy).2⟩
theorem apz{L1 L2:List Lv}(hL1:aL B w0 F 1 (.slice B1 L1.length b1) L1.length (L1.map zS))(hI1:l6 B w0 F L1)(hL2:aL B w0 F 1 (.slice B2 L2.length b2) L2.length (L2.map zS))(hI2:l6 B w0 F L2)(jK:L1.length≤1000000000)(wS:∀e∈L1,e.2.2.length≤9223372036854775807):
  a_ B w0 240 [.slice B1 L1.length b1,.slice B2 L2.length b2,.func (.func 241) #[] #[]] F (fun r L=>r= .bool (decide (fU L1=fU L2))∧L=F):=by
 refine fw func240 32 [0,1,2] ?_;refine i_ ?_;refine aj (fun jC=>?_) fun jC=>?_
 ·refine bM ?_;exact⟨by rw[nD fun h=>jC (by have:=dC List.length h;simp only[fU,eM]at this;omega)],rfl⟩
 ·refine dm ?_;refine aD (fun zf zL zm=>∃(k:Nat),(k≤L1.length∧(fU L1).take k=(fU L2).take k)∧L1.length-k=zm∧Sub zf [(1,.slice B2 L2.length b2),(2,.func (.func 241) #[] #[]),(15,.slice B1 L1.length b1),(16,ah L1.length),(17,ah k)]∧Wk zL (F)) _ ⟨0,⟨bS _,rfl⟩,rfl,bm,.refl _⟩ ?_;rintro _ _ _ ⟨k,⟨hk,heq⟩,rfl,hs,hp⟩;refine aU hs hp ?_;clear hs hp;refine bB ?_;refine aj (fun iU=>?_) fun iU=>?_
  ·have xo:k<L1.length:=by omega
   have Iw:k<L2.length:=by omega
   have hi1:=hI1.get xo;have hi2:=hI2.get Iw;have tA:=wS _ (bh xo rf);refine bM ?_;refine ae (au ag rfl aB aa (amu xo)) rfl ?_;refine bP ?_;refine ae (au ag rfl aB aa (amu Iw)) rfl ?_;refine bM ?_;refine uK (aQ func241 rfl rfl) rfl rfl (apA aB aB tA) rfl ?_;rintro _ _ ⟨rfl,cJ⟩;obtain rfl:=cJ.symm;refine bH ?_;refine aj (fun y'=>?_) fun y'=>?_
   ·refine bH ?_;refine ve [6] ?_;refine bM ?_;exact⟨by
     rw[nD];intro h;refine y' ?_;have:=dC (fun l=>l.getD k []) h;simpa[fU,List.getD,jt,fo xo,fo Iw]using this,rfl⟩
   ·refine bB ?_;refine ve [1,2,15,16,17] ?_;refine av ⟨_,aa,k+1,⟨aa,adf heq xo Iw (j0.1 y')⟩,rfl,bm,.refl _⟩
  ·refine cD ?_;exact⟨by
    have h4:fU L1=fU L2:=by
     have:=heq
     rwa [fD (by simp only[fU,eM];omega),fD (by simp only[fU,eM];omega)]at this
    rw[lD h4],rfl⟩
theorem aiH{T1 T2:List cj}{L1 L2:List Lv}(h1:aL B w0 F 1 (.slice A1 T1.length c1) T1.length (strs T1))(hL1:aL B w0 F 1 (.slice B1 L1.length b1) L1.length (L1.map zS))(hI1:l6 B w0 F L1)(h2:aL B w0 F 1 (.slice A2 T2.length c2) T2.length (strs T2))(hL2:aL B w0 F 1 (.slice B2 L2.length b2) L2.length (L2.map zS))(hI2:l6 B w0 F L2)(hs:T1.length≤1000000000)(jK:L1.length≤1000000000)(wS:∀e∈L1,e.2.2.length≤9223372036854775807):
  a_ B w0 195 [.agg [.slice A1 T1.length c1,.slice B1 L1.length b1].toArray,.agg [.slice A2 T2.length c2,.slice B2 L2.length b2].toArray] F (fun r L=>r= .bool (decide (T1=T2∧fU L1=fU L2))∧L=F):=by
 refine fw func195 17 [0,1] ?_;refine be ?_;refine bf fun g2=>?_;refine bf fun g3=>?_;refine bI ?_;refine bR 12 16 [] (T1=T2∧fU L1=fU L2) ?_ ?_
 ·refine b8 ?_;refine ai rfl (apB aB aB aa) ?_;refine aE ?_;refine ct (fun jB=>?_) fun jB=>?_
  ·refine bM ?_;refine ai rfl (apz aB (hI1.mono (gz [_,_] F)) aB (hI2.mono (gz [_,_] F)) jK wS) ?_;refine aE ?_;exact aM b_8
  ·refine bI ?_;exact aM b_8
 ·refine b8 ?_;refine ao (L':=F) (.skip (.skip (.refl _))) ?_;refine aE ?_;exact⟨rfl,rfl⟩
theorem anJ{x:aH}{t:cj}(h:t∈trm x):t≠[]:=by
 rcases dy.1 ((rD _ _).1 h)with h|h
 ·have:=(Lm h).1;intro e;rw[e]at this;simp at this
 ·obtain⟨u,hu,rfl⟩:=pS.1 h;simp
theorem ah_{f:Nat→List cj}{n q:Nat}{s:cj}:q∈Ov f n s↔q<n∧s∈f q:=by
 unfold Ov;rw[BE,ky];simp
theorem Ml{f:Nat→List cj}{n:Nat}{s:cj}:s∈rU f n↔∃q,q<n∧s∈f q:=by
 rw[rU,rD,List.mem_flatMap];simp only[ky]
theorem JB{L:List aH}(hw:dF L≤1048576)(hn:L.length≤20000):yb L.length (rU (A_ L) L.length) ((JA (A_ L) L.length).map fun l=>l.map (fun(n:Nat)=>(n:Int))):=by
 have hl:(rU (A_ L) L.length).length≤dF L:=by
  have h1:=uE ((List.range L.length).flatMap (A_ L));have h2:=C5 L L.length (gj _);rw[jN]at h2;unfold rU;omega
 have sN:L4 (rU (A_ L) L.length):=yO _;have hm:∀t∈rU (A_ L) L.length,t≠[]∧t.length≤25:=fun t h=>by
  obtain⟨q,_,hq⟩:=Ml.1 h;exact⟨anJ hq,afJ hq⟩
 refine⟨⟨aa,aa⟩,by simp[JA],⟨fun i hi=>?_,aa⟩,fun x hx=>?_⟩
 ·obtain⟨h1,h2⟩:=hm _ (bh hi []);refine⟨h1,h2,?_⟩;unfold fy;by_cases e:i=0
  ·rw[aq e];exact OE h1
  ·rw[aw e];refine CF.2 ?_;have:=rk.1 sN (i-1) i aa hi aa;simpa[List.getD,fo hi,fo (show i-1<(rU (A_ L) L.length).length by omega)]using this
 ·obtain⟨y,hy,rfl⟩:=pS.1 hx;obtain⟨s,hs,rfl⟩:=pS.1 hy;refine⟨fun e=>Sh.2 (Ml.1 hs) (List.map_eq_nil_iff.1 e),(sk _ _).2 fun i hi=>⟨(ah_.1 (bh hi 0)).1,fun h0=>?_⟩⟩;have hp:(Ov (A_ L) L.length s).Pairwise (· < ·):=List.Pairwise.sublist List.filter_sublist List.pairwise_lt_range;have:=rk.1 hp (i-1) i aa hi aa;simpa[List.getD,fo hi,fo (show i-1<(Ov (A_ L) L.length s).length by omega)]using this
theorem Xy{P:Prop}(h:P:=by(have:=pF hn;omega)):P:=h
theorem wo:type_of% @List.flatten_cons:= @List.flatten_cons
def o2(o:aO):aO:=(o.1,o.2.1,o.2.2.1,0,0,0)
def mQ(L:List aH):List (bc):=JA (A_ L) L.length
def mR(L:List aH):List cj:=rU (A_ L) L.length
def qJ(o:aO)(L:List aH):al:=(qI o.2.2.1 L.length (mR L) (l8 (mQ L))).1
def xR(ns ss:bc)(c i:Nat):al:=aS ns.sum++(aS ns.length++((ns.zip ss).flatMap (fun p=>aS p.1++aS p.2)++(aS c++aS i)))
def eQ(o:aO)(L:List aH):eH:=jy false o.2.1 (dR o false L) L
def oZ(L:List aH):al:=cY (ko L)
def pb(o:aO)(L:List aH):al:=cY (qJ o L)
def qa(o:aO)(L:List aH):al:=cY (xR (dR o false L) ((eQ o L).map List.length) (oZ L).length (pb o L).length)
def dx(o:aO)(L:List aH):al:=(eQ o L).flatten++(oZ L++(pb o L++(qa o L++fI (qa o L).length 4)))
def fY(o:aO)(L:List aH):al×Int:=if cm 2 (o2 o)≠0 then ([],cm 2 (o2 o)) else if cO L≠0 then ([],cO L) else (dx o L,0)
def ftK(b:al):Nat:=Cs.fixed ⟨b.drop (b.length-4),0,0⟩ 4
def ftD(b:al):al×Int:=aK ((b.take (b.length-4)).drop (b.length-4-ftK b))
def f_(b:al):al×al×Int:=
 if b.length<4 then ([],[],1) else if b.length-4<ftK b then ([],[],1) else (b.take (b.length-4-ftK b),(ftD b).1,(ftD b).2)
def ta(m:Nat):Nat→Cs→bc→bc→bc×bc×Cs
 |0,s,ns,ss=>(ns,ss,s)
 |f+1,s,ns,ss=>if s.e≠0 then (ns,ss,s) else ta m f ((s.bX m).bX 8388608) (ns++[s.int m]) (ss++[(s.bX m).int 8388608])
def Cu(d:al):Nat:=Cs.int ⟨d,0,0⟩ 20000
def dr1(d:al):Cs:=Cs.bX ⟨d,0,0⟩ 20000
def LA(d:al):Nat:=(dr1 d).int (Cu d)
def dr2(d:al):Cs:=(dr1 d).bX (Cu d)
def fb(d:al):bc×bc×Cs:=ta (Cu d) (LA d) (dr2 d) [] []
def Ct(d:al):Nat:=(fb d).2.2.int 8388608
def UM(d:al):Cs:=(fb d).2.2.bX 8388608
def drI(d:al):Nat:=(UM d).int 8388608
def dr5(d:al):Cs:=((UM d).bX 8388608).xV
def GH(d:al)(room:Nat):Int:=
 if (dr5 d).e≠0 then (dr5 d).e else if 0∈(fb d).1∨(fb d).1.sum≠Cu d∨(fb d).2.1.sum+Ct d+drI d≠room then 2 else 0
def rE:bc→al→eH
 |[],_=>[]
 |n::ss,r=>r.take n::rE ss (r.drop n)
structure iv where
 ns:bc
 ss:bc
 c:Nat
 i:Nat
 times:bc
 levels:al
 T:List cj
 I:List (bc)
 bA:eH
def iv.nil:iv:=⟨[],[],0,0,[],[],[],[],[]⟩
def qA(b:al):al:=(f_ b).1
def dT(b:al):al:=(f_ b).2.1
def boX(b:al):al:=(qA b).drop (fb (dT b)).2.1.sum
def wD(b:al):al:=(boX b).take (Ct (dT b))
def vz(b:al):al:=(boX b).drop (Ct (dT b))
def xK(n:Nat)(ch:al):Int:=
 if (aK ch).2≠0 then (aK ch).2 else if (nW n (aK ch).1).2.2.2≠0 then (nW n (aK ch).1).2.2.2 else if (nW n (aK ch).1).2.2.1<(aK ch).1.length then 2 else 0
def ej(o:aO)(b:al):iv×Int:=
 if cm 2 (o2 o)≠0 then (.nil,cm 2 (o2 o))
 else if (f_ b).2.2≠0 then (.nil,(f_ b).2.2)
 else if GH (dT b) (qA b).length≠0 then (.nil,GH (dT b) (qA b).length)
 else if xK (fb (dT b)).1.sum (wD b)≠0 then (.nil,xK (fb (dT b)).1.sum (wD b))
 else if (aK (vz b)).2≠0 then (.nil,(aK (vz b)).2)
 else if (eF o.2.2.1 ((fb (dT b)).1.sum:Nat) (aK (vz b)).1).2.2≠0 then (.nil,(eF o.2.2.1 ((fb (dT b)).1.sum:Nat) (aK (vz b)).1).2.2)
 else (⟨(fb (dT b)).1,(fb (dT b)).2.1,Ct (dT b),drI (dT b),(nW ((fb (dT b)).1.sum:Nat) (aK (wD b)).1).1,(nW ((fb (dT b)).1.sum:Nat) (aK (wD b)).1).2.1,
  (eF o.2.2.1 ((fb (dT b)).1.sum:Nat) (aK (vz b)).1).1,(eF o.2.2.1 ((fb (dT b)).1.sum:Nat) (aK (vz b)).1).2.1,rE (fb (dT b)).2.1 (qA b)⟩,0)
def pL(ts:bc)(lv:al)(a:Nat)(L:List aH):List aH:=(List.range L.length).map fun i=>(ts.getD (a+i) 0,lv.getD (a+i) 0,(recAt L i).2.2.1,(recAt L i).2.2.2)
noncomputable def lU(x:iv)(k:Nat):List aH×Int:=
 if (dL (x.bA.getD k [])).2.2≠0 then ([],(dL (x.bA.getD k [])).2.2)
 else if (dL (x.bA.getD k [])).2.1<(x.bA.getD k []).length then ([],2)
 else if (qQ false (dL (x.bA.getD k [])).1).2≠0 then ([],(qQ false (dL (x.bA.getD k [])).1).2)
 else if (qQ false (dL (x.bA.getD k [])).1).1.length≠x.ns.getD k 0 then ([],2)
 else (pL x.times x.levels (x.ns.take k).sum (qQ false (dL (x.bA.getD k [])).1).1,0)
noncomputable def nV(x:iv):Nat→Nat→List aH→List aH×Int
 |0,_,out=>(out,0)
 |f+1,k,out=>if (lU x k).2≠0 then ([],(lU x k).2) else nV x f (k+1) (out++(lU x k).1)
noncomputable def jn(x:iv):List aH×Int:=
 if (nV x x.bA.length 0 []).2≠0 then ([],(nV x x.bA.length 0 []).2)
 else if cO (nV x x.bA.length 0 []).1≠0 then ([],cO (nV x x.bA.length 0 []).1)
 else if¬(x.T=mR (nV x x.bA.length 0 []).1∧x.I=mQ (nV x x.bA.length 0 []).1) then ([],15)
 else ((nV x x.bA.length 0 []).1,0)
theorem zl{a b:List (bc)}(h:l8 a=l8 b):a=b:=
 (List.map_inj_right (f:=fun l:bc=>l.map fun(n:Nat)=>(n:Int)) fun x y h=>(List.map_inj_right (f:=fun(n:Nat)=>(n:Int)) fun m n h=>Int.ofNat.inj h).1 h).1 h
theorem DW(b plain:Bool):∀(ns:bc) (L:List aH),(jy b plain ns L).length=ns.length
 |[],_=>rfl
 |n::ns,L=>by simp[jy,DW b plain ns]
theorem H_{m:Nat}(hm:m≤20000):∀(ns ss:bc) (s:Cs) (r:al) (an tF:bc),ns.length=ss.length→s.e=0→(∀n∈ns,n≤m)→(∀n∈ss,n≤8388608)→
  s.rest=(ns.zip ss).flatMap (fun p=>aS p.1++aS p.2)++r→∃s',ta m ns.length s an tF=(an++ns,tF++ss,s')∧nQ s s' ((ns.zip ss).flatMap fun p=>aS p.1++aS p.2)
 |[],[],s,r,an,tF,_,h0,_,_,_=>⟨s,by simp[ta],nQ.nil h0⟩
 |[],_::_,_,_,_,_,h,_,_,_,_=>by simp at h
 |_::_,[],_,_,_,_,h,_,_,_,_=>by simp at h
 |n::ns,k::ss,s,r,an,tF,hl,h0,h1,h2,hr=>by
  have u5:s.rest=aS n++(aS k++((ns.zip ss).flatMap (fun p=>aS p.1++aS p.2)++r)):=by rw[hr];simp[bV]
  obtain⟨a1,d1⟩:=Cs.iE (m:=(m:Nat)) h0 (by have:=h1 n ak;omega) aa u5;have vZ:=d1.cF u5;obtain⟨a2,d2⟩:=Cs.iE (m:=8388608) d1.e1 (by have:=h2 k ak;omega) aa vZ;have hr3:=d2.cF vZ;obtain⟨s',e1,e2⟩:=H_ hm ns ss _ r (an++[n]) (tF++[k]) vP d2.e1 (fun x hx=>h1 x oe) (fun x hx=>h2 x oe) hr3;refine⟨s',?_,?_⟩
  ·rw[eh,ta,aw (by simpa using h0),a1,a2,e1];simp[bV]
  ·have:=(d1.trans d2).trans e2;simpa[bV]using this
theorem Ja:∀(fs:eH) (r:al),rE (fs.map List.length) (fs.flatten++r)=fs
 |[],_=>rfl
 |f::fs,r=>by
  rw[kz,rE,wo,bV,yo,BI,Ja fs r]
theorem pF{l:bc}{n:Nat}(h:n∈l):n≤l.sum:=by
 induction l with
 |nil=>cases h
 |cons a r ih=>
  rw[II];rcases fm.1 h with e|e
  ·subst e;omega
  ·have:=ih e;omega
theorem ab8(fs:eH):fs.flatten.length=(fs.map List.length).sum:=List.length_flatten
theorem J8{S:Nat}:∀{g l:bc},CU S l g→g.sum=l.length∧∀n∈g,1≤n
 |[],l,h=>by
  have:l=[]:=h;subst this;exact⟨rfl,fun n hn=>by cases hn⟩
 |n::g,l,h=>by
  obtain⟨h1,h2,_,_,h5⟩:=h;obtain⟨i1,i2⟩:=J8 h5;rw[iN]at i1;refine⟨by rw[II,i1];omega,fun m hm=>?_⟩;rcases fm.1 hm with e|e
  ·subst e;exact h1
  ·exact i2 m e
theorem Cy(o:aO)(b:Bool)(L:List aH):(dR o b L).sum=L.length∧∀n∈dR o b L,1≤n:=by
 have:=J8 (kr o.1.toNat (lens b L))
 rwa [et]at this
theorem S5(L:List aH):∀(a n:Nat),a+n≤L.length→pL (L.map (·.1)) (lv L) a (((L.drop a).take n).map (norm false))=(L.drop a).take n:=by
 intro a n h;apply p6
 ·simp[pL]
 ·intro i h1 h2;have hi:i<n:=by simp[eV]at h2;omega
  have hl:a+i<L.length:=by omega
  simp only[pL,Eu,G4,Ep,List.getElem_drop];have e1:(L.map (·.1)).getD (a+i) 0=L[a+i].1:=by simp[bk,fo hl]
  have e2:(lv L).getD (a+i) 0=L[a+i].2.1:=by simp[lv,bk,fo hl]
  have e3:recAt (((L.drop a).take n).map (norm false)) i=norm false L[a+i]:=by
   unfold recAt;rw[bk,fo oW];simp
  rw[e1,e2,e3];simp[norm]
theorem IN{S:Nat}(hS:S≤32768){x:iv}{L:List aH}(hx:∀r∈L,r.fits)(plain:Bool)(h1:x.bA=jy false plain x.ns L)(h2:x.times=L.map (·.1))(h3:x.levels=lv L)(hf0:CU S (lens false L) x.ns):
  ∀(f k:Nat),k+f=x.ns.length→(∀M,CU S (lens false (L.drop (x.ns.take k).sum)) (x.ns.drop k)→jy false plain (x.ns.drop k) (L.drop (x.ns.take k).sum)=x.bA.drop k→M=L.take (x.ns.take k).sum→nV x f k M=(L,0))
 |0,k,hk,M,hf,It,hM=>by
  have:(x.ns.take k)=x.ns:=fD aa;rw[this,(J8 hf0).1,et,jN]at hM;rw[nV,hM]
 |f+1,k,hk,M,hf,It,hM=>by
  have zQ:k<x.ns.length:=by omega
  obtain⟨a,ha⟩:=cR ((x.ns.take k).sum);obtain⟨n,hn⟩:=cR (x.ns.getD k 0);rw[←ha]at hf It hM;have hd:=dw zQ 0;rw[←hn]at hd;rw[hd]at hf It;obtain⟨f1,f2,f3,f4,f5⟩:=hf;rw[et,iN]at f2;have IA:=oL hS (b:=false) (fun r hr=>hx r (rl hr)) f1 f3;rw[jy]at It;have hfk:x.bA.getD k []=(jF (dc false ((L.drop a).take n)) plain).1:=by
   have:(x.bA.drop k)[0]? =some (jF (dc false ((L.drop a).take n)) plain).1:=by rw[←It];rfl
   rw[k_7,tf]at this;rw[bk,this];rfl
  have hbk:=Mm (dc false ((L.drop a).take n)) plain IA [];rw[gk]at hbk;have tY:qQ false (dc false ((L.drop a).take n))=(((L.drop a).take n).map (norm false),0):=by
   unfold qQ;rw[AR _ ((L.drop a).take n) _ [] rfl (by unfold Cs.left;simp only;omega) (fun r hr=>hx r (rl (lW hr))) aa4,nU]
  have xn:lU x k=((L.drop a).take n,0):=by
   unfold lU;rw[hfk,hbk];simp only;rw[tY];simp only;rw[aw ak,aw aa,aw ak,aw (by rw[eM,eV,iN,←hn];omega),h2,h3,←ha,S5 L a n aa]
  have wT:(x.ns.take (k+1)).sum=a+n:=by rw[aZ zQ 0,wj,←ha,←hn];simp
  rw[nV,xn,aw ak];simp only;refine IN hS hx plain h1 h2 h3 hf0 f (k+1) aa _ ?_ ?_ ?_
  ·rw[wT,←qj,wY];exact f5
  ·have:(x.bA.drop k).tail=x.bA.drop (k+1):=by rw[List.tail_drop]
   rw[←this,←It,List.tail_cons,wT,qj]
  ·rw[wT,hM,List.take_add]
theorem HF{o:aO}{L:List aH}(ho:cm 2 (o2 o)=0)(hc:cO L=0)(hx:∀x∈L,x.1<18446744073709551616)(hw:dF L≤1048576)(hlen:(dx o L).length≤8388608):
  ∃x,ej o (dx o L)=(x,0)∧x.ns=dR o false L∧jn x=(L,0):=by
 have fJ:ji 2 (o2 o):=by
  unfold cm at ho;rw[aq (.inr (.inl rfl))]at ho;exact bF fun h=>by rw[aw h]at ho;simp at ho
 obtain⟨⟨m1,m2⟩,_,m4,_,_⟩:=fJ;obtain⟨m5,m6⟩:=m4 (.inr rfl);have m1:16≤o.1:=m1;have m2:o.1≤32768:=m2;have m5:1≤o.2.2.1:=m5;have m6:o.2.2.1≤64:=m6;have tz:L.length≤20000∧(∀x∈L,x.fits):=by
  unfold cO at hc;have:¬(20000<L.length∨(∃x∈L,uj x)∨1048576<dF L):=fun h=>by rw[aq h]at hc;simp at hc
  refine⟨aa,fun x h=>⟨hx x h,?_,?_⟩⟩
  ·exact yh fun k=>this (.inr (.inl ⟨x,h,.inl k⟩))
  ·exact yh fun k=>this (.inr (.inl ⟨x,h,.inr k⟩))
 obtain⟨hl,hL⟩:=tz;obtain⟨sz,jb⟩:∃sz:Nat,o.2.2.1=sz:=⟨o.2.2.1.toNat,aa⟩
 obtain⟨Qg,RK⟩:=Cy o false L;have GS:=kr o.1.toNat (lens false L);have GU:(dR o false L).length≤L.length:=by unfold dR;have:=mU o.1.toNat (lens false L);rwa [et]at this
 obtain⟨fl,lZ⟩:=cR ((eQ o L).flatten);obtain⟨cs,tT⟩:=cR (oZ L);obtain⟨ix,hix⟩:=cR (pb o L);obtain⟨dr,YA⟩:=cR (qa o L);obtain⟨b,hb⟩:=cR (dx o L);have zP:b=fl++(cs++(ix++(dr++fI dr.length 4))):=by rw[hb,lZ,tT,hix,YA];rfl
 have dh:b.length=fl.length+cs.length+ix.length+dr.length+4:=by rw[zP];simp;omega
 rw[←hb]at hlen;have aqc:fl.length=((eQ o L).map List.length).sum:=by rw[lZ,ab8]
 have hk:ftK b=dr.length:=by
  have e:b.drop (b.length-4)=fI dr.length 4:=by
   have:b=(fl++(cs++(ix++dr)))++fI dr.length 4:=by rw[zP];simp[bV]
   rw[this];exact qk bO
  unfold ftK Cs.fixed;rw[e,aw aa];have ht:Cs.take ⟨fI dr.length 4,0,0⟩ 4=fI dr.length 4:=by
   have:=(Cs.mo (s:=⟨fI dr.length 4,0,0⟩) (t:=fI dr.length 4) (r:=[]) rfl (n:=4) ak aa4).1;exact this
  rw[ht,Ew];exact jc aa
 have hbt:b.take (b.length-4)=(fl++(cs++ix))++dr:=by
  have:b=((fl++(cs++ix))++dr)++fI dr.length 4:=by rw[zP];simp[bV]
  rw[this];exact pz bO
 have hft:f_ b=(fl++(cs++ix),xR (dR o false L) ((eQ o L).map List.length) cs.length ix.length,0):=by
  have e1:(b.take (b.length-4)).drop (b.length-4-ftK b)=dr:=by
   rw[hbt,hk];exact qk bO
  have e2:b.take (b.length-4-ftK b)=fl++(cs++ix):=by
   have:b=(fl++(cs++ix))++(dr++fI dr.length 4):=by rw[zP];simp[bV]
   rw[hk]
   conv=>lhs;arg 2;rw[this]
   exact pz bO
  have e3:ftD b=(xR (dR o false L) ((eQ o L).map List.length) cs.length ix.length,0):=by
   unfold ftD;rw[e1,YA,tT,hix];exact jw _
  unfold f_;rw[aw aa,aw (by rw[hk];omega),e2,e3]
 obtain⟨D,hD⟩:=cR (xR (dR o false L) ((eQ o L).map List.length) cs.length ix.length);have r0:Cs.rest ⟨D,0,0⟩=aS (dR o false L).sum++(aS (dR o false L).length++(((dR o false L).zip ((eQ o L).map List.length)).flatMap (fun p=>aS p.1++aS p.2)++(aS cs.length++aS ix.length))):=by
  unfold Cs.rest;rw[tg,hD];rfl
 obtain⟨n1,d1⟩:=Cs.iE (m:=20000) rfl aa aa r0;have r1:=d1.cF r0;have eR:Cu D=L.length:=by unfold Cu;rw[n1,Qg]
 obtain⟨n2,d2⟩:=Cs.iE (m:=(L.length:Nat)) d1.e1 aa aa r1;have r2:=d2.cF r1;have eB:LA D=(dR o false L).length:=by unfold LA dr1;rw[eR];exact n2
 have e2:dr2 D=(Cs.bX ⟨D,0,0⟩ 20000).bX (L.length:Nat):=by unfold dr2 dr1;rw[eR]
 obtain⟨s3,h3,d3⟩:=H_ (m:=L.length) hl (dR o false L) ((eQ o L).map List.length) _ _ [] [] (by rw[eM];unfold eQ;rw[DW]) d2.e1 (fun n hn=>Xy) (fun n hn=>Xy) r2;have e3:fb D=(dR o false L,(eQ o L).map List.length,s3):=by unfold fb;rw[eR,eB,e2,h3];simp
 have r3:=d3.cF r2;obtain⟨n4,d4⟩:=Cs.iE (x:=cs.length) (m:=8388608) d3.e1 aa aa r3;have r4:=d4.cF r3;obtain⟨n5,d5⟩:=Cs.iE (x:=ix.length) (m:=8388608) d4.e1 aa aa (r:=[]) (by rw[gk];exact r4);have eC:Ct D=cs.length:=by unfold Ct;rw[e3];exact n4
 have e4:UM D=s3.bX 8388608:=by unfold UM;rw[e3]
 have eI:drI D=ix.length:=by unfold drI;rw[e4];exact n5
 have e5:(dr5 D).e=0:=by
  unfold dr5;rw[e4];exact Cs.abY d5.e1 (d5.cF (by rw[gk];exact r4))
 have hdE:GH D (fl++(cs++ix)).length=0:=by
  unfold GH;rw[e5,aw ak,e3,eR,eC,eI];refine aw fun h=>?_;rcases h with h|h|h
  ·have:=RK 0 h;omega
  ·exact h Qg
  ·apply h;simp only[aX];omega
 have hbx:boX b=cs++ix:=by
  unfold boX qA dT;rw[hft];simp only;rw[←hD,e3];simp only;exact qk aqc
 have hbc:wD b=cs:=by
  unfold wD dT;rw[hbx,hft];simp only;rw[←hD,eC];exact pz rfl
 have hbi:vz b=ix:=by
  unfold vz dT;rw[hbx,hft];simp only;rw[←hD,eC];exact qk rfl
 have hcc:aK cs=(ko L,0):=by rw[tT];exact jw _
 have hci:aK ix=(qJ o L,0):=by rw[hix];exact jw _
 have RV:nW ((L.length:Nat):Int) (ko L)=(L.map (·.1),lv L,(ko L).length,0):=by
  have:=XP hx hl []
  rwa [gk]at this
 have hio:=JB hw hl;obtain⟨bn,N,ash,ahE,hN,hRT,hTl,hNI⟩:=Ec hio;have hbn:bn=L.length:=by omega
 subst hbn;have hNe:N=mQ L:=by
  have:l8 N=l8 (mQ L):=by rw[←hN];rfl
  exact zl this
 subst hNe;have hxe:qJ o L=fS sz (mR L)++(mQ L).flatMap (rM L.length):=by
  unfold qJ;rw[jb,IC (T:=mR L) (I:=mQ L) aa aa ahE hRT hTl hNI]
 have hir:eF o.2.2.1 ((L.length:Nat):Int) (qJ o L)=(mR L,mQ L,0):=by
  rw[hxe,jb];exact adh (T:=mR L) (I:=mQ L) aa aa ahE hRT hTl hNI
 have x9:xK (dR o false L).sum cs=0:=by
  unfold xK;rw[hcc,Qg];simp only;rw[RV];simp
 refine⟨⟨dR o false L,(eQ o L).map List.length,cs.length,ix.length,L.map (·.1),lv L,mR L,mQ L,eQ o L⟩,?_,rfl,?_⟩
 ·have Cz:qA b=fl++(cs++ix):=by unfold qA;rw[hft]
  have Qd:dT b=D:=by unfold dT;rw[hft,hD]
  rw[←hb];unfold ej;rw[ho,aw ak,hft];simp only;rw[aw ak,Cz,Qd,hdE,aw ak,e3,hbc,hbi];simp only;rw[x9,aw ak,hci];simp only;rw[aw ak,Qg,hir];simp only;rw[aw ak,eC,eI,hcc];simp only;rw[RV,lZ,Ja]
 ·have NI:nV ⟨dR o false L,(eQ o L).map List.length,cs.length,ix.length,L.map (·.1),lv L,mR L,mQ L,eQ o L⟩ (eQ o L).length 0 []=(L,0):=
   IN (S:=o.1.toNat) aa hL o.2.1 rfl rfl rfl GS (eQ o L).length 0 (by simp only[mC];unfold eQ;rw[DW]) [] (by simp only[Ah,List.sum_nil,tg];exact GS) (by simp[eQ]) ak
  unfold jn;simp only;rw[NI];simp only;rw[aw ak,hc,aw ak,aw ak]
def pW(a:Nat):Nat:=if a<128 then 2*a else (2*a-256) ^^^ 29
def fk:Nat→Nat→Nat→Nat→Nat
 |0,_,_,out=>out
 |f+1,a,b,out=>if b=0 then out else fk f (pW a) (b/2) (if b%2=1 then out ^^^ a else out)
def fg(a b:Nat):Nat:=fk 8 a b 0
theorem nT:∀a,a<256→pW a<256:=by decide+kernel
theorem vu{a b:Nat}(ha:a<256)(hb:b<256):a ^^^ b<256:=BB (n:=8) ha hb
theorem aci:((List.range 256).all fun a=>(List.range 256).all fun b=>Nat.beq (pW (a ^^^ b)) (pW a ^^^ pW b))=true:=by decide+kernel
theorem U_{a b:Nat}(ha:a<256)(hb:b<256):pW (a ^^^ b)=pW a ^^^ pW b:=by
 have h:=ye.1 (ye.1 aci a (ky.2 ha)) b (ky.2 hb);exact rn h
theorem atv(a b c d:Nat):(a ^^^ b) ^^^ (c ^^^ d)=(a ^^^ c) ^^^ (b ^^^ d):=by
 rw[Nat.xor_assoc,Nat.xor_assoc];congr 1;rw[←Nat.xor_assoc,Nat.xor_comm b c,Nat.xor_assoc]
theorem yD:∀(f a a' b o o':Nat),a<256→a'<256→fk f (a ^^^ a') b (o ^^^ o')=fk f a b o ^^^ fk f a' b o'
 |0,a,a',b,o,o',_,_=>rfl
 |f+1,a,a',b,o,o',ha,zO=>by
  unfold fk;by_cases hb:b=0
  ·rw[aq hb,aq hb,aq hb]
  ·rw[aw hb,aw hb,aw hb,U_ ha zO];by_cases h1:b%2=1
   ·rw[aq h1,aq h1,aq h1,atv];exact yD f _ _ _ _ _ (nT a ha) (nT a' zO)
   ·rw[aw h1,aw h1,aw h1];exact yD f _ _ _ _ _ (nT a ha) (nT a' zO)
theorem KJ:∀(f a b o:Nat),a<256→o<256→fk f a b o<256
 |0,a,b,o,_,ho=>ho
 |f+1,a,b,o,ha,ho=>by
  unfold fk;split
  ·exact ho
  ·split
   ·exact KJ f _ _ _ (nT a ha) (vu ho ha)
   ·exact KJ f _ _ _ (nT a ha) ho
theorem KI:∀(f a b o:Nat),a<256→o<256→fk f (pW a) b (pW o)=pW (fk f a b o)
 |0,a,b,o,_,_=>rfl
 |f+1,a,b,o,ha,ho=>by
  unfold fk;by_cases hb:b=0
  ·rw[aq hb,aq hb]
  ·rw[aw hb,aw hb];by_cases h1:b%2=1
   ·rw[aq h1,aq h1,←U_ ho ha];exact KI f _ _ _ (nT a ha) (vu ho ha)
   ·rw[aw h1,aw h1];exact KI f _ _ _ (nT a ha) ho
theorem aij{a a':Nat}(b:Nat)(ha:a<256)(zO:a'<256):fg (a ^^^ a') b=fg a b ^^^ fg a' b:=yD 8 a a' b 0 0 ha zO
theorem mul_lt{a:Nat}(b:Nat)(ha:a<256):fg a b<256:=KJ 8 a b 0 ha aA
theorem aqI{a:Nat}(b:Nat)(ha:a<256):fg (pW a) b=pW (fg a b):=KI 8 a b 0 ha aA
theorem akv:∀b,b<256→fg 1 b=b:=by decide+kernel
theorem EL:∀b,b<256→fg 0 b=0:=by decide+kernel
def gfI:Nat→Nat→Nat
 |0,x=>x
 |i+1,x=>pW (gfI i x)
def gfP(i:Nat):Nat:=gfI i 1
theorem Ka{x:Nat}(h:x<256):∀i,gfI i x<256
 |0=>h
 |i+1=>nT _ (Ka h i)
theorem U'(i j x:Nat):gfI (i+j) x=gfI i (gfI j x):=by
 induction i with
 |zero=>rw[mC];rfl
 |succ i ih=>rw[show i+1+j=(i+j)+1 by omega];show pW _=pW _;rw[ih]
theorem OA{b:Nat}(hb:b<256):∀i,fg (gfP i) b=gfI i b
 |0=>akv b hb
 |i+1=>by
  show fg (pW (gfP i)) b=pW (gfI i b);rw[aqI b (show gfP i<256 from Ka aA i),OA hb i]
theorem alV(i:Nat):gfP i<256:=Ka aA i
theorem aaQ(i j:Nat):fg (gfP i) (gfP j)=gfP (i+j):=by
 rw[OA (alV j)];exact(U' i j 1).symm
def alT:Nat→Nat→bc
 |0,_=>[]
 |f+1,x=>x::alT f (pW x)
theorem Nv:∀(f i x:Nat),x∈alT f (gfP i)→∃k,k<f∧x=gfP (i+k)
 |0,i,x,h=>by cases h
 |f+1,i,x,h=>by
  rcases fm.1 h with h|h
  ·exact⟨0,aa,h⟩
  ·obtain⟨k,hk,e⟩:=Nv f (i+1) x h;exact⟨k+1,aa,by rw[e];congr 1;omega⟩
theorem aht:((List.range 256).all fun a=>Nat.beq a 0||(alT 255 1).any (Nat.beq a))=true:=by decide+kernel
theorem Kb{a:Nat}(ha:a<256)(h0:a≠0):∃i,i<255∧a=gfP i:=by
 have h:=ye.1 aht a (ky.2 ha);rw[Bool.or_eq_true]at h;rcases h with h|h
 ·exact absurd (rn h) h0
 ·obtain⟨x,hx,e⟩:=List.any_eq_true.1 h;obtain⟨k,hk,e2⟩:=Nv 255 0 x hx;rw[mC]at e2;exact⟨k,hk,(rn e).trans e2⟩
theorem Zk{a b:Nat}(ha:a<256)(hb:b<256):fg a b=fg b a:=by
 have hz:∀x,x<256→fg x 0=0:=by decide+kernel
 by_cases h1:a=0
 ·subst h1;rw[EL b hb,hz b hb]
 ·by_cases h2:b=0
  ·subst h2;rw[EL a ha,hz a ha]
  ·obtain⟨i,_,rfl⟩:=Kb ha h1;obtain⟨j,_,rfl⟩:=Kb hb h2;rw[aaQ,aaQ,sQ]
theorem Sy{a b c:Nat}(ha:a<256)(hb:b<256)(hc:c<256):fg (fg a b) c=fg a (fg b c):=by
 by_cases h1:a=0
 ·subst h1;rw[EL b hb,EL c hc,EL _ (mul_lt c hb)]
 ·by_cases h2:b=0
  ·subst h2;have hz:∀x,x<256→fg x 0=0:=by decide+kernel
   rw[hz a ha,EL c hc,hz a ha]
  ·obtain⟨i,_,rfl⟩:=Kb ha h1;obtain⟨j,_,rfl⟩:=Kb hb h2;rw[aaQ,OA hc,OA hc,OA (Ka hc j),U']
theorem Bn{P:Prop}(h:P:=by(simp[hi])):P:=h
theorem sX:type_of% @UInt8.xor_assoc:= @UInt8.xor_assoc
def gm(a b:UInt8):UInt8:=UInt8.ofNat (fg a.toNat b.toNat)
theorem sv(a:UInt8):a.toNat<256:=mH a
theorem iD(a b:UInt8):(gm a b).toNat=fg a.toNat b.toNat:=by
 unfold gm;rw[oi];exact jc (mul_lt _ (sv a))
theorem nZ{a b:UInt8}(h:a.toNat=b.toNat):a=b:=qh.1 h
theorem iS(a b:UInt8):gm a b=gm b a:=nZ (by rw[iD,iD];exact Zk (sv a) (sv b))
theorem jI(a b c:UInt8):gm (gm a b) c=gm a (gm b c):=nZ (by rw[iD,iD,iD,iD];exact Sy (sv a) (sv b) (sv c))
theorem jz(a:UInt8):gm 1 a=a:=nZ (by rw[iD];exact akv _ (sv a))
theorem iT(a:UInt8):gm 0 a=0:=nZ (by rw[iD];exact EL _ (sv a))
theorem Vc(a:UInt8):gm a 1=a:=by rw[iS];exact jz a
theorem jJ(a:UInt8):gm a 0=0:=by rw[iS];exact iT a
theorem D0(a b c:UInt8):gm (a ^^^ b) c=gm a c ^^^ gm b c:=nZ (by
 rw[iD,UInt8.toNat_xor,UInt8.toNat_xor,iD,iD];exact aij _ (sv a) (sv b))
theorem Ke(a b c:UInt8):gm c (a ^^^ b)=gm c a ^^^ gm c b:=by rw[iS,D0,iS a,iS b]
def tP:Nat→Nat→Nat→Nat→Nat
 |0,_,_,out=>out
 |f+1,a,n,out=>if n=0 then out else tP f (fg a a) (n/2) (if n%2=1 then fg out a else out)
def q8(a:Nat):Nat:=if a=0 then 0 else tP 8 a 254 1
theorem Yk:((List.range 256).all fun a=>Nat.blt (q8 a) 256)=true:=by decide+kernel
theorem acj{a:Nat}(h:a<256):q8 a<256:=by simpa using ye.1 Yk a (ky.2 h)
theorem alU:((List.range 256).all fun a=>Nat.beq a 0||Nat.beq (fg a (q8 a)) 1)=true:=by decide+kernel
def kJ(a:UInt8):UInt8:=UInt8.ofNat (q8 a.toNat)
theorem wL(a:UInt8):(kJ a).toNat=q8 a.toNat:=by
 unfold kJ;rw[oi];exact jc (acj (sv a))
theorem u0{a:UInt8}(h:a≠0):gm a (kJ a)=1:=nZ (by
 rw[iD,wL];have:=ye.1 alU a.toNat (ky.2 (sv a));rw[Bool.or_eq_true]at this;rcases this with h1|h1
 ·exact absurd (nZ (rn h1)) h
 ·exact rn h1)
theorem DZ{a:UInt8}(h:a≠0):gm (kJ a) a=1:=by rw[iS];exact u0 h
theorem uZ{a b:UInt8}(ha:a≠0)(h:gm a b=0):b=0:=by
 have:gm (kJ a) (gm a b)=b:=by rw[←jI,DZ ha,jz]
 rw[←this,h,jJ]
theorem Kd{a:UInt8}(h:a≠0):kJ a≠0:=fun k=>by
 have:=u0 h;rw[k,jJ]at this;exact absurd this aA
theorem iC(a:UInt8):a ^^^ a=0:=UInt8.xor_self
theorem fj(a:UInt8):a ^^^ 0=a:=UInt8.xor_zero
theorem vw(a:UInt8):0 ^^^ a=a:=UInt8.zero_xor
theorem CR{a b:UInt8}(h:a ^^^ b=0):a=b:=by
 have:(a ^^^ b) ^^^ b=a:=by rw[sX,iC,fj]
 rw[←this,h,vw]
theorem vv(a b c d:UInt8):(a ^^^ b) ^^^ (c ^^^ d)=(a ^^^ c) ^^^ (b ^^^ d):=by
 rw[sX,sX];congr 1;rw[←sX,UInt8.xor_comm b c,sX]
def xs:Nat→(Nat→UInt8)→UInt8
 |0,_=>0
 |n+1,f=>xs n f ^^^ f n
theorem pR{f g:Nat→UInt8}:∀{n:Nat},(∀i,i<n→f i=g i)→xs n f=xs n g
 |0,_=>rfl
 |n+1,h=>by rw[xs,xs,pR fun i hi=>h i aa,h n aa]
theorem Lp{f:Nat→UInt8}:∀{n:Nat},(∀i,i<n→f i=0)→xs n f=0
 |0,_=>rfl
 |n+1,h=>by rw[xs,Lp fun i hi=>h i aa,h n aa,iC]
theorem Lo(f g:Nat→UInt8):∀n,xs n (fun i=>f i ^^^ g i)=xs n f ^^^ xs n g
 |0=>(iC 0).symm
 |n+1=>by rw[xs,xs,xs,Lo f g n,vv]
theorem F_(c:UInt8)(f:Nat→UInt8):∀n,xs n (fun i=>gm c (f i))=gm c (xs n f)
 |0=>(jJ c).symm
 |n+1=>by rw[xs,xs,F_ c f n,Ke]
theorem Ga{f:Nat→UInt8}:∀{n:Nat} (k:Nat),k<n→(∀i,i<n→i≠k→f i=0)→xs n f=f k
 |0,k,h,_=>by omega
 |n+1,k,h,hz=>by
  rw[xs];by_cases hk:k=n
  ·subst hk;rw[Lp fun i hi=>hz i aa aa,vw]
  ·rw[Ga k aa fun i hi hik=>hz i aa hik,hz n aa (Ne.symm hk),fj]
def ls:bc→(Nat→UInt8)→UInt8
 |[],_=>0
 |j::J,f=>f j ^^^ ls J f
theorem yz{f g:Nat→UInt8}:∀{J:bc},(∀j,j∈J→f j=g j)→ls J f=ls J g
 |[],_=>rfl
 |j::J,h=>by rw[ls,ls,h j ak,yz fun i hi=>h i Bn]
theorem KF{f:Nat→UInt8}:∀{J:bc},(∀j,j∈J→f j=0)→ls J f=0
 |[],_=>rfl
 |j::J,h=>by rw[ls,h j ak,KF fun i hi=>h i Bn,iC]
theorem Si(f g:Nat→UInt8):∀J,ls J (fun i=>f i ^^^ g i)=ls J f ^^^ ls J g
 |[]=>(iC 0).symm
 |j::J=>by rw[ls,ls,ls,Si f g J,vv]
theorem Sj(c:UInt8)(f:Nat→UInt8):∀J,ls J (fun i=>gm c (f i))=gm c (ls J f)
 |[]=>(jJ c).symm
 |j::J=>by rw[ls,ls,Sj c f J,Ke]
theorem ah'{f:Nat→UInt8}{J K:bc}(h:J.Perm K):ls J f=ls K f:=by
 induction h with
 |nil=>rfl
 |cons x _ ih=>rw[ls,ls,ih]
 |swap x y l=>rw[ls,ls,ls,ls,←sX,←sX,UInt8.xor_comm (f y)]
 |trans _ _ h1 h2=>exact h1.trans h2
theorem Br:∀(n:Nat) (J X:bc) (v x y:Nat→UInt8),J.length=n→n≤X.length→J.Nodup→X.Nodup→
  (∀i j,i∈J→j∈J→y i=y j→i=j)→(∀i j,i∈X→j∈X→x i=x j→i=j)→(∀i j,i∈X→j∈J→x i≠y j)→
  (∀i,i∈X→ls J (fun j=>gm (v j) (kJ (x i ^^^ y j)))=0)→∀j,j∈J→v j=0
 |0,J,X,v,x,y,hJ,hX,nJ,nX,iJ,iX,Vr,h,j,hj=>by
  rw[VF.1 hJ]at hj;cases hj
 |n+1,[],X,v,x,y,hJ,hX,nJ,nX,iJ,iX,Vr,h,j,hj=>by cases hj
 |n+1,j1::J,[],v,x,y,hJ,hX,nJ,nX,iJ,iX,Vr,h,j,hj=>by simp at hX
 |n+1,j1::J,x0::X,v,x,y,hJ,hX,nJ,nX,iJ,iX,Vr,h,j,hj=>by
  have nJ1:=Eo.1 nJ;have nX1:=Eo.1 nX;have ne0:∀i k,i∈x0::X→k∈j1::J→x i ^^^ y k≠0:=fun i k hi hk e=>Vr i k hi hk (CR e);have hd:∀i,i∈x0::X→ls J (fun k=>gm (gm (v k) (y j1 ^^^ y k)) (kJ (x i ^^^ y k)))=v j1 ^^^ ls J v:=by
   intro i hi;have h1:=h i hi;rw[ls]at h1;have h2:gm (x i ^^^ y j1) (gm (v j1) (kJ (x i ^^^ y j1)) ^^^ ls J fun k=>gm (v k) (kJ (x i ^^^ y k)))=0:=by rw[h1,jJ]
   rw[Ke,←Sj]at h2;have e1:gm (x i ^^^ y j1) (gm (v j1) (kJ (x i ^^^ y j1)))=v j1:=by
    rw[iS (v j1),←jI,u0 (ne0 i j1 hi ak),jz]
   have e2:ls J (fun k=>gm (x i ^^^ y j1) (gm (v k) (kJ (x i ^^^ y k))))=ls J v ^^^ ls J (fun k=>gm (gm (v k) (y j1 ^^^ y k)) (kJ (x i ^^^ y k))):=by
    rw[←Si];refine yz fun k hk=>?_;have e3:x i ^^^ y j1=(x i ^^^ y k) ^^^ (y j1 ^^^ y k):=by rw[vv,iC,fj]
    rw[e3,D0,iS (v k) (kJ _),←jI,u0 (ne0 i k hi xz),jz,iS (kJ _) (v k),←jI,iS (y j1 ^^^ y k) (v k)]
   rw[e1,e2,←sX]at h2;exact(CR h2).symm
  have key:∀k,k∈J→gm (gm (v k) (y j1 ^^^ y k)) (kJ (x x0 ^^^ y k))=0:=by
   refine Br n J X (fun k=>gm (gm (v k) (y j1 ^^^ y k)) (kJ (x x0 ^^^ y k))) x y (by simpa using hJ) (by simpa using hX) nJ1.2 nX1.2 (fun i k hi hk=>iJ i k Bn xz) (fun i k hi hk=>iX i k Bn xz) (fun i k hi hk=>Vr i k Bn xz) ?_;intro i hi;have r':x i ^^^ x x0≠0:=fun e=>nX1.1 (iX i x0 Bn ak (CR e)▸hi);have h1:=hd i Bn;have h2:=hd x0 ak;have h3:ls J (fun k=>gm (gm (v k) (y j1 ^^^ y k)) (kJ (x i ^^^ y k))) ^^^ ls J (fun k=>gm (gm (v k) (y j1 ^^^ y k)) (kJ (x x0 ^^^ y k)))=0:=by rw[h1,h2,iC]
   rw[←Si]at h3;refine uZ r' ?_;rw[←Sj,←h3];refine yz fun k hk=>?_;obtain⟨a,ha⟩:=cR (gm (v k) (y j1 ^^^ y k));obtain⟨p,hp⟩:=cR (x i ^^^ y k);obtain⟨q,hq⟩:=cR (x x0 ^^^ y k);have RS:p≠0:=hp▸ne0 i k Bn xz;have hq0:q≠0:=hq▸ne0 x0 k ak xz;have e3:x i ^^^ x x0=p ^^^ q:=by rw[hp,hq,vv,iC,fj]
   rw[←ha,←hp,←hq,e3,D0];have e4:gm p (gm (gm a (kJ q)) (kJ p))=gm a (kJ q):=by rw[iS (gm a (kJ q)),←jI,u0 RS,jz]
   have e5:gm q (gm (gm a (kJ q)) (kJ p))=gm a (kJ p):=by rw[iS a (kJ q),jI,←jI,u0 hq0,jz]
   rw[e4,e5,UInt8.xor_comm]
  have hz:∀k,k∈J→v k=0:=by
   intro k hk;have h1:=key k hk;rw[iS]at h1;have h2:=uZ (Kd (ne0 x0 k ak xz)) h1;rw[iS]at h2;refine uZ ?_ h2;intro e;exact nJ1.1 (iJ j1 k ak xz (CR e)▸hk)
  rcases fm.1 hj with rfl|hj
  ·have h1:=h x0 ak;rw[ls,KF fun k hk=>by rw[hz k hk,iT],fj,iS]at h1;exact uZ (Kd (ne0 x0 j ak ak)) h1
  ·exact hz j hj
end Go.Proofs.YtaodmbolhoafcaaGreatDoor
