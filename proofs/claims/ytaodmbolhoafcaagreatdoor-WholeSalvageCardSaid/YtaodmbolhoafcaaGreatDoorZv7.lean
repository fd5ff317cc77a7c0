/-
  Texts of one proof, joined: part 7. No condition.
-/
import Derived.Test.YtaodmbolhoafcaaGreatDoorZv6
open List renaming length→E
open Go.RowKit Go.Proofs.Tryz
namespace Go.Proofs.YtaodmbolhoafcaaGreatDoor
set_option linter.unusedVariables false
set_option linter.unusedSimpArgs false
set_option maxRecDepth 20000
variable{b:aq}{P:Prop}{was:cJ}{i:Nat}{R:oV}{q kk:Nat}{I:List (List Int)}{m nn bn j:Nat}{us:cQ}{fn:Func}{u:Nat}{v:Value}{B:Nat}{w0:World}{F:aN}{A A1 A2:bh}{n c c1 c2 g:Nat}{B1 B2:bh}{b1 b2:Nat}{bound size:Int}{T:List cJ}{LL:List MH}{s:Cs}{sz:Nat}{o h:List cJ}{L M:aN}{A3:bh}{c3:Nat}{l:aq}
theorem qs:type_of% @List.take_left':= @List.take_left'
theorem OZ:type_of% @List.flatMap_map:= @List.flatMap_map
theorem M1{a b:List Bool}(hl:E a=E b)(h:∀i,i<E a->gQ a i=gQ b i):a=b:=by
 apply oQ hl;intro i h1 h2;apply toNat_inj;rw[<-yJ h1,<-yJ h2];exact h i h1
theorem H7{q:List Bool}(h:i<n):gQ (q.take n) i=gQ q i:=by
 simp[gQ,bz,h]
theorem Gl(a b:aq):eM (a++b)=eM a++eM b:=by
 refine M1 (by simp[dm];omega) (λi hi=>?_);rw[dm,bm]at hi;rw[wh _ (by rw[bm];exact hi)];by_cases h:i<8*E a
 ·rw[nc (by rw[dm];exact h),wh _ h];congr 2;rw[bz,bz,Ti aa]
 ·have e:=kL (eM a) (eM b) (i-8*E a);rw[dm,show 8*E a+(i-8*E a)=i by omega]at e;rw[e,wh _ aa,show(i-8*E a)%8=i%8 by omega,show(i-8*E a)/8=i/8-E a by omega];congr 2;rw[bz,bz,I' aa]
theorem agI(l:aq){k:Nat}(h:k<=E l):eM (l.take k)=(eM l).take (8*k):=by
 have e:eM l=eM (l.take k)++eM (l.drop k):=by rw[<-Gl,kH]
 rw[e,qs (by rw[dm,fZ];omega)]
theorem Ot(m:Nat):hi 0 m m=List.replicate m false:=by
 apply oQ
 ·simp[hi]
 ·intro i h1 h2;simp[hi]
theorem TW(q r:List Bool)(m:Nat):part (q++(List.replicate m false++r)) (E q) m=0:=by
 rw[<-Ot];exact Fp q r 0 m (zd m)
theorem JM(q:List Bool)(i m:Nat)(h:i+m<=E q):q.take (i+m)=q.take i++hi (part q i m) m m:=by
 refine M1 (by simp[dK];omega) (λk hk=>?_);rw[fZ]at hk;rw[H7 aa];by_cases gU:k<i
 ·rw[nc jA,H7 gU]
 ·have e:=kL (q.take i) (hi (part q i m) m m) (k-i);rw[fZ,C2 aa,show i+(k-i)=k by omega]at e;rw[e,adE _ _ aa];have e2:=nu q i (k-i+1) (m-1-(k-i));rw[show k-i+1+(m-1-(k-i))=m by omega]at e2;rw[e2,part,show i+(k-i)=k by omega];have:=mn q k;omega
theorem XL(q:List Bool):∀m pos,E q-pos<=m->Z q pos<E q->q.take (Z q pos+1)=q.take pos++un (Z q pos-pos)
 |0,pos,h,hz=>absurd hz (by rw[Q0 aa];omega)
 |m+1,pos,h,hz=>by
  by_cases hp:pos<E q
  ·by_cases hb:gQ q pos=1
   ·rw[X6 hb hp,rE,aP hp false];have:q.getD pos false=true:=by
     unfold gQ at hb;cases h:q.getD pos false
     ·rw[h]at hb;simp at hb
     ·rfl
    rw[this];rfl
   ·have hs:=Mh hb hp;rw[hs]at hz⊢;have x7:pos+1<=Z q (pos+1):=apb _ _ _;rw[XL q m (pos+1) aa hz,aP hp false];have:q.getD pos false=false:=by
     unfold gQ at hb;cases h:q.getD pos false
     ·rfl
     ·rw[h]at hb;simp at hb
    rw[this,show Z q (pos+1)-pos=(Z q (pos+1)-(pos+1))+1 by omega];simp[un,Bf]
  ·exact absurd hz (by rw[Q0 aa];omega)
def up(bound:Nat):Int->br->Prop
 |_,[]=>True
 |was,x::r=>was<x/\x<bound/\up bound (x:Int) r
theorem ama{bound:Nat}:∀(xs:br) (was:Int),(∀i,i<E xs->xs.getD i 0<bound/\(0<i->xs.getD (i-1) 0<xs.getD i 0))->(0<E xs->was<xs.getD 0 0)->up bound was xs
 |[],_,_,_=>trivial
 |x::r,was,h,h0=>by
  refine⟨h0 ao,(h 0 ao).1,ama r x (λi hi=>?_) (λhr=>?_)⟩
  ·have:=h (i+1) bS;refine⟨this.1,λhp=>?_⟩;have h2:=this.2 aa;rw[y7]at h2;obtain⟨j,rfl⟩:∃j,i=j+1:=⟨i-1,aa⟩
   exact h2
  ·have:=(h 1 bS).2 aa;exact Int.ofNat_lt.2 this
theorem agJ{bound:Nat}:∀(xs:br) (was:Int),up bound was xs->(∀i,i<E xs->xs.getD i 0<bound/\(0<i->xs.getD (i-1) 0<xs.getD i 0))/\(0<E xs->was<xs.getD 0 0)
 |[],_,_=>⟨λi hi=>absurd hi ao,λh=>absurd h ao⟩
 |x::r,was,⟨h1,h2,h3⟩=>by
  obtain⟨a,b⟩:=agJ r x h3;refine⟨λi hi=>?_,λ_=>h1⟩;cases i with
  |zero=>exact⟨h2,λh=>absurd h aa⟩
  |succ j=>
   have hj:j<E r:=by simp at hi;omega
   refine⟨(a j hj).1,λ_=>?_⟩;cases j with
   |zero=>exact Int.ofNat_lt.1 (b hj)
   |succ k=>exact(a (k+1) hj).2 aa
theorem WU{p w:Nat}(hp:p=2^w):∀(xs:br) (pre R:List Bool) (i:Nat),i<E xs->part (pre++(CB p w xs++R)) (E pre+i*w) w=xs.getD i 0%p
 |[],_,_,_,h=>absurd h ao
 |x::r,pre,R,0,h=>by
  have:=Fp pre (CB p w r++R) (x%p) w (by rw[hp];exact rG _ (zd w));rw[nJ,rM];simpa[CB,bT]using this
 |x::r,pre,R,i+1,h=>by
  have:=WU hp r (pre++hi (x%p) w w) R i (by simp at h;omega);rw[bm,dK,OJ,show w+i*w=(i+1)*w by rw[jR];omega]at this;simpa[CB,bT]using this
theorem aeh{p w:Nat}(hp:p=2^w)(xs:br)(R:List Bool):z8 (CB p w xs++R) w (E xs)=xs.map (· %p):=by
 apply oQ
 ·simp[z8]
 ·intro i h1 h2;have h3:i<E xs:=by simpa[z8]using h1
  have:=WU hp xs [] R i h3;rw[mh,tT,mH]at this;simp[z8,this,bz,h3]
theorem Xv{bound p w:Nat}(hp:p=2^w)(q R:List Bool):∀(xs:br) (pre:List Bool) (high:Nat) (was:Int) (out:br),q=pre++(BS p high xs++R)->up bound was xs->high=was.toNat/p->
  LA bound p q (xs.map (· %p)) (E pre) high was out=(out++xs,E (pre++BS p high xs),0)
 |[],pre,high,was,out,hq,hu,hh=>by simp[LA,BS]
 |x::r,pre,high,was,out,hq,⟨u1,u2,u3⟩,hh=>by
  have SV:0<p:=by rw[hp];exact zd w
  have hle:high<=x/p:=by rw[hh];exact Nat.div_le_div_right aa
  have hq':q=pre++(un (x/p-high)++(BS p (x/p) r++R)):=by rw[hq];simp[BS,bT]
  have hz:Z q (E pre)=E pre+(x/p-high):=by rw[hq'];exact avV pre _ _
  have gU:Z q (E pre)<E q:=by rw[hz,hq'];simp[pk];omega
  have e1:high+(Z q (E pre)-E pre)=x/p:=by rw[hz];omega
  have e2:x/p*p+x%p=x:=by rw[mi];exact Nat.div_add_mod x p
  have ih:=Xv hp q R r (pre++un (x/p-high)) (x/p) (x:Int) (out++[x]) (by rw[hq',bT]) u3 ao;rw[iN,LA,aB aa,e1,e2,aB aa,aB aa];rw[show Z q (E pre)+1=E (pre++un (x/p-high)) by rw[bm,pk,hz];omega,ih];simp[BS,bT]
theorem Se{bound:Nat}{xs:br}(hR:me bound xs)(more:aq)(hn:0<E xs):
  jQ bound (E xs) (packed (Mr (2^wid bound (E xs)) (wid bound (E xs)) xs)++more)=(xs,E (packed (Mr (2^wid bound (E xs)) (wid bound (E xs)) xs)),0):=by
 obtain⟨w,hw⟩:=cM (wid bound (E xs));obtain⟨p,hp⟩:=cM (2^w);obtain⟨Q,hQ⟩:=cM (Mr p w xs);obtain⟨b,hb⟩:=cM (packed Q++more);rw[<-hw,<-hp,<-hQ,<-hb];have hu:eM b=Q++(pad Q++eM more):=by rw[hb,Gl,qX,bT]
 have Ha:eM b=CB p w xs++(BS p 0 xs++(pad Q++eM more)):=by
  have e:Q=CB p w xs++BS p 0 xs:=hQ;rw[hu];generalize pad Q=P;rw[e,bT]
 have SR:z8 (eM b) w (E xs)=xs.map (· %p):=by rw[Ha];exact aeh hp xs _
 have hF:CR bound (E xs) b=(xs,E Q,0):=by
  unfold CR;rw[<-hw,<-hp,SR];have:=Xv (bound:=bound) hp (eM b) (pad Q++eM more) xs (CB p w xs) 0 (-1) [] Ha (ama xs (-1) hR (λ_=>aa)) ao;rw[nk]at this;rw[this,mh,hQ,Mr]
 have kh:=xG Q;have yU:=dm b;have G7:=dm more;have ey:E b=(E Q+7)/8+E more:=by rw[hb,bm,dz]
 have hr:lz bound (E xs) b=E (pad Q):=by
  unfold lz;rw[hF];simp only;omega
 have hlen:E (CB p w xs)<=E (eM b):=by rw[Ha,bm];omega
 rw[nk]at hlen;unfold jQ;rw[<-hw,aB aa,hr,hF];have hz:=TW Q (eM more) (E (pad Q));rw[show List.replicate (E (pad Q)) false=pad Q by simp[pad],<-hu]at hz;rw[aB ao,aB (by simp only[hz];simp)];rw[dz];simp only;congr 2;omega
theorem afy{bound p w:Nat}(hp:p=2^w)(q:List Bool):∀(ls:br) (pos high:Nat) (was:Int) (out:br),(∀x∈ls,x<p)->pos<=E q->(LA bound p q ls pos high was out).2.2=0->
  ∃ys,(LA bound p q ls pos high was out).1=out++ys/\ls=ys.map (· %p)/\up bound was ys/\(LA bound p q ls pos high was out).2.1<=E q/\q.take (LA bound p q ls pos high was out).2.1=q.take pos++BS p high ys
 |[],pos,high,was,out,hl,sH,h=>⟨[],by simp[LA],rfl,trivial,by simpa[LA]using sH,by simp[LA,BS]⟩
 |x::r,pos,high,was,out,hl,sH,h=>by
  have hx:=hl x ao;have SV:0<p:=by omega
  by_cases h1:Z q pos<E q
  ·obtain⟨y,hy⟩:=cM ((high+(Z q pos-pos))*p+x);have hyd:y/p=high+(Z q pos-pos):=by rw[hy,mi,Nat.mul_add_div SV,yY hx,rM]
   have hym:y%p=x:=by rw[hy,mi,Nat.mul_add_mod,ly hx]
   rw[LA,aB aa,<-hy]at h⊢;by_cases h2:(y:Int)<=was
   ·rw[av h2]at h;simp at h
   ·by_cases h3:bound<=y
    ·rw[aB h2,av h3]at h;simp at h
    ·rw[aB h2,aB h3]at h⊢;obtain⟨ys,e1,e2,e3,e4,e5⟩:=afy hp q r (Z q pos+1) (high+(Z q pos-pos)) y (out++[y]) (λz hz=>hl z yf) aa h;refine⟨y::ys,by rw[e1];simp,by rw[iN,hym,<-e2],⟨aa,aa,e3⟩,e4,?_⟩;rw[e5,XL q _ pos (ga _) h1,BS,hyd,show high+(Z q pos-pos)-high=Z q pos-pos by omega,bT]
  ·rw[LA,av h1]at h;simp at h
theorem Pg(q:List Bool)(w:Nat):∀n,n*w<=E q->q.take (n*w)=(z8 q w n).flatMap λx=>hi x w w
 |0,_=>by simp[z8]
 |n+1,h=>by
  rw[jR]at h⊢;rw[JM q _ _ h,Pg q w n aa,Pf,tB];simp
theorem YO{bound:Nat}(h:(jQ bound n b).2.2=0):
  E (jQ bound n b).1=n/\me bound (jQ bound n b).1/\packed (Mr (2^wid bound n) (wid bound n) (jQ bound n b).1)=b.take (jQ bound n b).2.1:=by
 obtain⟨w,hw⟩:=cM (wid bound n);obtain⟨p,hp⟩:=cM (2^w);rw[<-hw,<-hp];by_cases h1:E (eM b)<n*w
 ·rw[Ej (by rw[<-hw];exact h1)]at h;simp at h
 ·have Su:¬E (eM b)<n*wid bound n:=by rw[<-hw];exact h1
  by_cases h2:(CR bound n b).2.2=0
  ·by_cases h3:part (eM b) (CR bound n b).2.1 (lz bound n b)=0
   ·rw[NC Su qi (by simpa using h3)];have hF:CR bound n b=LA bound p (eM b) (z8 (eM b) w n) (n*w) 0 (-1) []:=by unfold CR;rw[<-hw,<-hp]
    have gU:∀x∈z8 (eM b) w n,x<p:=by
     intro x hx;obtain⟨i,_,rfl⟩:=qd.1 hx;rw[hp];exact lT _ _ _
    obtain⟨ys,e1,e2,e3,e4,e5⟩:=afy (bound:=bound) hp (eM b) (z8 (eM b) w n) (n*w) 0 (-1) [] gU aa (by rw[<-hF];exact h2);rw[<-hF]at e1 e4 e5;rw[mh]at e1;have He:E ys=n:=by
     have:=eG List.length e2;rw[sL,eZ]at this;exact this.symm
    have hQ:Mr p w ys=(eM b).take (CR bound n b).2.1:=by
     rw[e5,Pg _ _ _ aa,e2,Mr,CB,OZ]
    obtain⟨pos,sH⟩:=cM ((CR bound n b).2.1);have Cl:lz bound n b=(E (eM b)-pos)%8:=by unfold lz;rw[sH]
    rw[<-sH]at e4 hQ h3;rw[<-sH,e1];have yU:=dm b;refine⟨He,(agJ ys _ e3).1,?_⟩;simp only;obtain⟨K,hK⟩:∃K,pos+lz bound n b=8*K:=⟨(pos+lz bound n b)/8,aa⟩
    rw[hK,show E b-(E (eM b)-8*K)/8=K by omega];have hKl:K<=E b:=by omega
    have hQl:E (Mr p w ys)=pos:=by rw[hQ,fZ];omega
    have ez:eM (b.take K)=Mr p w ys++List.replicate (lz bound n b) false:=by
     rw[agI b hKl,<-hK,JM _ _ _ aa,h3,Ot,hQ]
    have ep:pad (Mr p w ys)=List.replicate (lz bound n b) false:=by
     unfold pad;rw[hQl];congr 1;omega
    rw[<-p_ (packed (Mr p w ys)),qX,ep,<-ez,p_]
   ·rw[V4 Su qi (by simpa using h3)]at h;simp at h
  ·rw[V3 Su h2]at h;exact absurd h h2
theorem YN{bound:Nat}{xs:br}(hR:me bound xs)(hb:bound<=20000)(more:aq):jc (bound:Int) (si bound xs++more)=(xs,E (si bound xs),0):=by
 have hlen:=hR.len;obtain⟨tl,CW⟩:=cM ((if E xs=0 then [] else packed (Mr (2^wid bound (E xs)) (wid bound (E xs)) xs)));have hB:si bound xs=aW (E xs)++tl:=by rw[si,<-CW]
 obtain⟨b,hbb⟩:=cM (aW (E xs)++(tl++more));have yM:si bound xs++more=b:=by rw[hB,hbb,bT]
 have hs:b8 b=(E xs,E (aW (E xs)),0):=by rw[hbb];exact sX _ aa _
 have hl:eU b (bound:Int)=(E xs,E (aW (E xs)),0):=by
  unfold eU;rw[hs,aB ao,aB cX]
 have hC:tG (bound:Int) b=⟨b,E (aW (E xs)),0⟩:=by
  unfold tG Cs.bX Cs.rest;simp only[qS];rw[hl];simp[Cs.d_]
 have hN:C8 (bound:Int) b=E xs:=by
  unfold C8 Cs.int Cs.rest;simp only[qS];rw[hl];simp
 rw[yM];by_cases h0:E xs=0
 ·rw[Ko aa (by rw[hC];simp) (by rw[hN];exact h0),hC,List.length_eq_zero_iff.1 h0];rw[av h0]at CW;have:si bound []=aW 0++[]:=by simp[si]
  rw[this];simp
 ·have hRR:GH (bound:Int) b=(xs,E tl,0):=by
   unfold GH;rw[hN,hC];simp only[lJ];rw[aB h0]at CW;rw[show b.drop (E (aW (E xs)))=tl++more by rw[hbb];exact rH rfl,CW];exact Se hR more aa
  rw[Sd aa (by rw[hC];simp) (by rw[hN];exact h0) (by rw[hRR];simp),hRR,hC,hB];simp
theorem NB(Oj:bound<=9223372036854775807)(h:(jc bound b).2.2=0):
  ∃bn:Nat,bound=(bn:Int)/\bn<=20000/\me bn (jc bound b).1/\si bn (jc bound b).1=b.take (jc bound b).2.1/\(jc bound b).2.1<=E b:=by
 by_cases h1:bound<0\/20000<bound
 ·rw[Eh h1]at h;simp at h
 ·obtain⟨bn,rfl⟩:=gl (show 0<=bound by omega);refine⟨bn,rfl,aa,?_⟩;by_cases h2:(tG bn b).e=0
  ·have hl:(eU b (bn:Int)).2.2=0:=by
    unfold tG Cs.bX Cs.rest at h2;simp only[qS]at h2;by_cases hh:(eU b (bn:Int)).2.2=0
    ·exact hh
    ·simp[Cs.d_,hh]at h2
   have hsc:(b8 b).2.2=0/\eU b (bn:Int)=((b8 b).1,(b8 b).2.1,0):=by
    unfold eU at hl⊢;split at hl
    ·rename_i hh;exact absurd hl hh
    ·rename_i hh;split at hl
     ·simp at hl
     ·rename_i h3;rw[aB hh,aB h3];exact⟨by simpa using hh,rfl⟩
   have anb:=vV hsc.1;have hle:=(fG b).2.1;have hC:tG (bn:Int) b=⟨b,(b8 b).2.1,0⟩:=by
    unfold tG Cs.bX Cs.rest;simp only[qS];rw[hsc.2];simp[Cs.d_]
   have hN:C8 (bn:Int) b=(b8 b).1:=by
    unfold C8 Cs.int Cs.rest;simp only[qS];rw[hsc.2];simp
   by_cases h3:C8 bn b=0
   ·rw[Ko h1 qi h3,hC];refine⟨λi hi=>absurd hi ao,?_,hle⟩;rw[hN]at h3;rw[h3]at anb;simp only;rw[<-anb];simp[si]
   ·by_cases h4:(GH bn b).2.2=0
    ·rw[Sd h1 qi h3 (by simpa using h4)];have hR:GH bn b=jQ bn (b8 b).1 (b.drop (b8 b).2.1):=by unfold GH;rw[hN,hC,lJ]
     rw[hR]at h4;obtain⟨e1,e2,e3⟩:=YO h4;have e4:=Ix bn (b8 b).1 (b.drop (b8 b).2.1);rw[jM]at e4;rw[hN]at h3;simp only;rw[hC,hR];refine⟨e2,?_,cX⟩;rw[si,e1,aB h3,e3,anb];simp only;rw[I_]
    ·rw[acD h1 qi h3 (by simpa using h4)]at h;exact absurd h h4
  ·rw[Ei h1 h2]at h;exact absurd h h2
theorem VZ{bound:Nat}{xs:br}(h:me bound xs)(hb:bound<=20000):E (si bound xs)<=50011:=by
 have h1:=h.len;have h2:=NL (n:=E xs) aa;have h3:=V0 (p:=2^wid bound (E xs)) (w:=wid bound (E xs)) h hb (xV hb);unfold si;rw[bm];split
 ·simp only[tT];omega
 ·rw[dz];omega
theorem me.le{bound:Nat}{xs:br}(h:me bound xs)(hb:bound<=20000):∀i,i<E xs->xs.getD i 0<=1000000:=λi hi=>by have:=(h i hi).1;omega
theorem amy(h:P:=by(rintro(q|q|q);omega;omega;exact q h)):P:=h
theorem apw(h:P:=by(first|exact .inl (by assumption)|exact⟨λz=>.inr z,λq=>q.elim (λz=>absurd z (by assumption)) (λz=>z)⟩|omega)):P:=h
theorem B7(h:P:=by(simp[PL];omega)):P:=h
theorem jr:type_of% @List.mem_map_of_mem:= @List.mem_map_of_mem
def yV(bound:Int)(T:List cJ)(I:List (List Int)):Prop:=(0<=bound/\bound<=20000)/\E T=E I/\m8 T/\∀x∈I,x≠[]/\HH bound x
instance (bound:Int)(T:List cJ)(I:List (List Int)):Decidable (yV bound T I):=inferInstanceAs (Decidable (_/\_/\_/\_))
def lsB(bound:Int)(I:List (List Int)):aq:=I.flatMap λx=>(Q7 bound x).1
def KO(sz:Nat)(bound:Int)(T:List cJ)(I:List (List Int)):aq:=gi sz T++lsB bound I
def qO(size bound:Int)(T:List cJ)(I:List (List Int)):aq×Int:=if size<1\/64<size\/¬yV bound T I then ([],13) else (KO size.toNat bound T I,0)
theorem EN(h:size<1\/64<size\/¬yV bound T I):qO size bound T I=([],13):=av h
theorem KQ(h1:1<=sz)(h2:sz<=64)(h:yV bound T I):qO sz bound T I=(KO sz bound T I,0):=by
 unfold qO;rw[aB amy,lJ]
theorem V5{x:List Int}(h0:0<=bound)(h1:bound<=20000):(Q7 bound x).2=0↔HH bound x:=by
 constructor
 ·intro h;refine b_ λq=>?_;rw[Kp (.inr (.inr q))]at h;exact absurd h aE
 ·intro h;obtain⟨xs,rfl⟩:=h.aey;obtain⟨b,rfl⟩:=gl h0;rw[Kq amy]
theorem ah'{x:List Int}(h0:0<=bound)(h1:bound<=20000):E (Q7 bound x).1<=50011:=by
 by_cases h:HH bound x
 ·obtain⟨xs,rfl⟩:=h.aey;obtain⟨b,rfl⟩:=gl h0;rw[Kq amy];exact VZ ((sT b xs).1 h) aa
 ·rw[Kp (.inr (.inr h))];simp
theorem WX(h0:0<=bound)(h1:bound<=20000):∀I:List (List Int),E (lsB bound I)<=E I*50011
 |[]=>by simp[lsB]
 |x::r=>by
  have:=WX h0 h1 r;have h2:=ah' (x:=x) h0 h1;unfold lsB at*;rw[iX,bm,ei,qR];omega
theorem YG(hR:m8 T)(h1:1<=sz)(h2:sz<=64):E (gi sz T)<=4000000000:=by
 have hl:=hR.2;have hB1:=vA (l:=T) (sz:=sz) h2 hR.le (List.range (iu sz (E T)));have hH1:=rs (l:=T) (sz:=sz) h2 hR.le (List.range (iu sz (E T)));have hN1:=aY (x:=E T) aa;have hcN:iu sz (E T)<=1048639:=by
  unfold iu;exact iY (oE _ _) aa
 rw[EX]at hB1 hH1;have h3:iu sz (E T)*3000<=1048639*3000:=C3 _ hcN;have h4:iu sz (E T)*10<=1048639*10:=C3 _ hcN;simp only[gi,bm];omega
abbrev kF:=bh×Nat×aq
abbrev de(e:kF):Value:=.slice e.1 (E e.2.2) e.2.1
abbrev fk(e:kF):Ch:=.own 5 1 e.1 (E e.2.2) e.2.1 (bv e.2.2)
def PL(PB:List kF):eH:=PB.map λe=>(de e,e.2.2)
theorem Fv(PB:List kF):(PL PB).Dc=PB.map de:=by simp[PL,eH.Dc]
theorem Lo(PB:List kF):(PL PB).all=(PB.map (·.2.2)).flatten:=by
 unfold PL eH.all;rw[OZ,List.flatMap_def]
theorem oU(P:aN){PB:List kF}{e:kF}:Wk (fk e::(P++(PB.map fk++F))) (P++((PB++[e]).map fk++F)):=by
 refine .c_ ?_;rw[iF,bT,<-bT,<-bT];exact zb.symm
abbrev GL(A1:bh)(n c1:Nat)(B1:bh)(m b1:Nat):Value:=.agg [.slice A1 n c1,.slice B1 m b1].toArray
theorem ae0(hE:(bound<0\/20000<bound)\/¬(E T:Int)=E LL):
  bg B w0 48 [ah size,ah bound,GL A1 (E T) c1 B1 (E LL) b1] F (λr L=>r= .tuple #[.slice none 0 0,ah 13]/\L=F):=by
 refine fw func48 69 [0,1,2] ?_;refine bM 2 λg5=>?_;refine bf 7 15 29 [0,1,5] ((bound<0\/20000<bound)\/¬(E T:Int)=E LL) ?_ ?_
 ·refine bk 3 (λgH=>?_) (λgH=>?_)
  ·refine bk 5 (λmQ=>?_) (λmQ=>?_)
   ·exact ax 14 (k:=oJ)
   ·exact ax 7 (k:=wm)
  ·exact ax 11 (k:=wm)
 ·refine ag 2 (λqN=>?_) λqN=>?_
  ·refine cY ?_;exact ak (L':=F) (.skip (.refl _)) (cm 1)
  ·exfalso;exact qN hE
theorem ae1(h1:aJ B w0 F 1 (.slice A1 (E T) c1) (E T) (strs T))(SB:0<=bound)(nC:bound<=20000)(hl:E T=E LL)(hs:E T<=1000000000)(hE:size<1\/64<size\/¬m8 T):
  bg B w0 48 [ah size,ah bound,GL A1 (E T) c1 B1 (E LL) b1] F (λr L=>r= .tuple #[.slice none 0 0,ah 13]/\L=F):=by
 refine fw func48 69 [0,1,2] ?_;refine bM 2 λg5=>?_;refine bf 7 15 29 [0,1,5] ((bound<0\/20000<bound)\/¬(E T:Int)=E LL) ?_ ?_
 ·refine bk 3 (λgH=>?_) (λgH=>?_)
  ·refine bk 5 (λmQ=>?_) (λmQ=>?_)
   ·exact ax 14 (k:=oJ)
   ·exact ax 7 (k:=wm)
  ·exact ax 11 (k:=wm)
 ·refine bZ 2 λqN=>?_;refine dg ?_;refine ay rfl (Sc aA aa hE) λtI tY=>?_;refine ag 14 (λGB=>?_) λGB=>?_
  ·refine dA ?_;exact ak (L':=F) (.s2 (.refl _)) (cm 1)
  ·exfalso;exact GB aE
theorem adT{k:Nat}(hk:k<E LL):(gy LL).take (k+1)=(gy LL).take k++[(LL.getD k rB).2.2]:=by
 rw[yZ,gy,ib,fx hk];simp[List.getD,fx hk]
theorem adU{x:List Int}(h:x∈gy LL):∃i,i<E LL/\(LL.getD i rB).2.2=x:=by
 obtain⟨e,he,rfl⟩:=qd.1 h;obtain⟨i,hi,rfl⟩:=mF he;exact⟨i,hi,by simp[List.getD,fx hi]⟩
theorem ae2(h1:aJ B w0 F 1 (.slice A1 (E T) c1) (E T) (strs T))(hL:aJ B w0 F 1 (.slice B1 (E LL) b1) (E LL) (LL.map A_))(hI:ow B w0 F LL)(t_:∀e∈LL,E e.2.2<=9000000000000000000)(SB:0<=bound)(nC:bound<=20000)(hl:E T=E LL)(hR:m8 T)(CX:1<=sz)(sI:sz<=64):
  bg B w0 48 [ah sz,ah bound,GL A1 (E T) c1 B1 (E LL) b1] F (λr L=>∃A' c',r= .tuple #[.slice A' (E (qO sz bound T (gy LL)).1) c',ah (qO sz bound T (gy LL)).2]/\L= .own 5 1 A' (E (qO sz bound T (gy LL)).1) c' (bv (qO sz bound T (gy LL)).1)::F):=by
 have hTl:=hR.2;have SH:=YG hR CX sI;have qc:=WX SB nC (gy LL);have hil:E (gy LL)=E LL:=by simp[gy]
 refine dQ.yk h1 λoP _=>?_;refine fw func48 69 [0,1,2] ?_;refine bM 2 λg5=>?_;refine bf 7 15 29 [0,1,5] ((bound<0\/20000<bound)\/¬(E T:Int)=E LL) ?_ ?_
 ·refine bk 3 (λgH=>?_) (λgH=>?_)
  ·refine bk 5 (λmQ=>?_) (λmQ=>?_)
   ·exact ax 14 (k:=oJ)
   ·exact ax 7 (k:=wm)
  ·exact ax 11 (k:=wm)
 ·refine bZ 2 λqN=>?_;refine dg ?_;refine ay rfl (YM aA oP CX sI hR) λtI tY=>?_;refine ag 14 (λGB=>?_) λGB=>?_
  ·exfalso;exact GB rfl
  ·refine dx ?_;refine cv (aG fO [_] rfl rfl bY aa aa) λMk=>aD 10 [1,10,43,44,45] 2 ?_;refine aw (λzf zL zm=>∃(k:Nat) (PB:List kF) (z':bh) (RQ:Nat),(k<=E LL/\PB.map (·.2.2)=gi sz T::((gy LL).take k).map (λx=>(Q7 bound x).1)/\E PB=k+1/\(∀i,i<k->(LL.getD i rB).2.2≠[]/\HH bound (LL.getD i rB).2.2))/\E LL-k=zm/\Sub zf [(1,ah bound),(10,.slice z' (E PB) RQ),(43,.slice B1 (E LL) b1),(44,ah (E LL)),(45,ah k)]/\Wk zL (.own 27 1 z' (E PB) RQ (PB.map de):: .bI g5 90 [.slice A1 (E T) c1,.slice B1 (E LL) b1]::(PB.map fk++F))) _ ⟨0,[(tI,tY,gi sz T)],Mk,1,⟨bD _,rfl,rfl,λi h=>absurd h aa⟩,rfl,a_,.cons (.swap (.refl _))⟩ ?_;rintro _ _ _ ⟨k,PB,z',RQ,⟨hk,hPB,yL,pF⟩,rfl,hs,hp⟩;refine aL hs hp (ag 6 (λSx=>?_) λSx=>?_)
   ·have x8:k<E LL:=by omega
    have hie:=(hI.get x8).mono (fN (PB.map fk) F);have hLe:=hL.mono (fN (PB.map fk) F);have S4:=t_ _ (bc x8 rB);have qb:=adT x8;have mD:(LL.getD k rB).2.2∈gy LL:=jr (bc x8 rB);obtain⟨x,hx⟩:=cM ((LL.getD k rB).2.2);have hig:=anz x8;obtain⟨eA,ec,he⟩:∃eA ec,LL.getD k rB=(eA,ec,x):=⟨_,_,by rw[hx]⟩
    rw[he]at hie S4 qb mD hig;refine dg ?_;refine ab (al ae rfl aA aa hig) rfl (dg ?_);refine ay rfl (YR (ids:=x) aA S4) λQ2 Vt=>?_;refine bf 10 7 61 [1,10,13,43,44,45] (¬(Q7 bound x).2=0\/(E x:Int)=0) ?_ ?_
    ·refine bk 3 (λWn=>?_) (λWn=>?_)
     ·exact ax 6 (k:=(by exact dG apw))
     ·exact ax 3 (k:=(by exact dT apw))
    ·refine ag 2 (λh61=>?_) λh61=>?_
     ·have rz:¬yV bound T (gy LL):=λq=>by
       obtain⟨h2,h3⟩:=q.2.2.2 x mD;rcases h61 with h|h
       ·exact h ((V5 SB nC).2 h3)
       ·exact h2 (mg aa)
      refine bK 13 ?_;rw[EN (.inr (.inr rz))];exact aH 5 1 none (ak (L':=.own 5 1 none 0 0 []::F) (.cons (.s3 (wj (.refl _) _))) (bO 1))
     ·have hxr:HH bound x:=(V5 SB nC).1 (gE.1 λq=>h61 (.inl q));have hxn:x≠[]:=λq=>h61 (.inr (by rw[q];rfl));refine dx ?_;refine cC fO rfl rfl rfl rfl rfl (λ_=>rfl) aU aa aa ?_;intro _ A65 c65;refine cY ?_;have CV:E (PB++[(Q2,Vt,(Q7 bound x).1)])=E PB+1:=by simp
      refine aj ⟨_,aa,k+1,PB++[(Q2,Vt,(Q7 bound x).1)],A65,c65,⟨aa,by rw[iF,hPB,qb,iF];rfl,aa,λi hi=>by
 rcases qe i k with h|h
 ·exact pF i h
 ·rw[show i=k by omega,he];exact⟨hxn,hxr⟩⟩,rfl,a_,.swap (au CV.symm ao (oU (PB:=PB) (e:=(Q2,Vt,(Q7 bound x).1)) [_]))⟩
   ·obtain rfl:k=E LL:=by omega
    have la:yV bound T (gy LL):=⟨⟨SB,nC⟩,aa,hR,λx hx=>by
     obtain⟨i,hi,rfl⟩:=adU hx;exact pF i hi⟩
    have ars:(PL PB).all=KO sz bound T (gy LL):=by
     rw[Lo,hPB,gv aa];simp[KO,lsB,List.flatMap_def]
    have ey:E (KO sz bound T (gy LL))<=1000000000000:=by
     have:E LL*50011<=1048576*50011:=C3 _ aa;unfold KO;rw[bm];rw[hil]at qc;omega
    rw[KQ CX sI la];refine cY ?_;refine ay rfl (yc (P:=PL PB) (by rw[Fv];exact aA) (λy hy=>by obtain⟨e,he,rfl⟩:=qd.1 hy;exact aJ.own (lj _ (lj _ (ku _ (jr he))))) (by simp[PL]) ars aa B7) λA68 c68=>dx ?_;exact ak (L':=.own 5 1 A68 (E (KO sz bound T (gy LL))) c68 (bv (KO sz bound T (gy LL)))::F) (.cons (.s2 (wj (.refl _) _))) (bO 1)
theorem ae3(h1:aJ B w0 F 1 (.slice A1 (E T) c1) (E T) (strs T))(hL:aJ B w0 F 1 (.slice B1 (E LL) b1) (E LL) (LL.map A_))(hI:ow B w0 F LL)(t_:∀e∈LL,E e.2.2<=9000000000000000000)(hs:E T<=1000000000):
  bg B w0 48 [ah size,ah bound,GL A1 (E T) c1 B1 (E LL) b1] F (λr L=>∃A' c',r= .tuple #[.slice A' (E (qO size bound T (gy LL)).1) c',ah (qO size bound T (gy LL)).2]/\L= .own 5 1 A' (E (qO size bound T (gy LL)).1) c' (bv (qO size bound T (gy LL)).1)::F):=by
 have hil:E (gy LL)=E LL:=by simp[gy]
 have ano:∀{L:aN},bg B w0 48 [ah size,ah bound,GL A1 (E T) c1 B1 (E LL) b1] L (λr K=>r= .tuple #[.slice none 0 0,ah 13]/\K=L)->qO size bound T (gy LL)=([],13)->bg B w0 48 [ah size,ah bound,GL A1 (E T) c1 B1 (E LL) b1] L (λr K=>∃A' c',r= .tuple #[.slice A' (E (qO size bound T (gy LL)).1) c',ah (qO size bound T (gy LL)).2]/\K= .own 5 1 A' (E (qO size bound T (gy LL)).1) c' (bv (qO size bound T (gy LL)).1)::L):=λ{L} h e=>by
  rw[e];intro w hw;refine(h w hw).mono λee w' ⟨r,K,he,⟨hr,hK⟩,hs⟩=>?_;subst hK;exact⟨r,_,he,⟨none,0,hr,rfl⟩,hs.Dq 5 1 none⟩
 by_cases hE:(bound<0\/20000<bound)\/¬(E T:Int)=E LL
 ·exact ano (ae0 hE) (EN (.inr (.inr λq=>by
   have h2:=q.1;have h3:=q.2.1;omega)))
 ·by_cases hE2:size<1\/64<size\/¬m8 T
  ·refine ano (ae1 h1 aa aa aa hs hE2) (EN ?_);rcases hE2 with h|h|h
   ·exact .inl h
   ·exact .inr (.inl h)
   ·exact .inr (.inr λq=>h q.2.2.1)
  ·have hR:m8 T:=b_ λh=>hE2 (.inr (.inr h));obtain⟨sz,rfl⟩:=gl (show 0<=size by omega);exact ae2 h1 hL hI t_ aa aa aa hR aa aa
theorem Vk(h:P:=by(rw[av kp])):P:=h
theorem apr(h:P:=by(exact dT (by first|exact hB.2 (.inl (by assumption))|exact hB.2 (.inr (by assumption))|exact λh=>(hB.1 h).elim (λq=>absurd q (by assumption)) (λq=>absurd q (by assumption))))):P:=h
theorem b_4(h:P:=by(exact dT (by first|exact hB.2 (.inl (by assumption))|exact hB.2 (.inr (.inl (by assumption)))|exact⟨λh=>hB.2 (.inr (.inr (by omega))),λh=>(hB.1 h).elim (λq=>absurd q (by assumption)) (λq=>q.elim (λq=>absurd q (by assumption)) (λq=>by omega))⟩))):P:=h
theorem aca(ho:cw s)(hb:aJ B w0 F 1 (.slice A (E s.b) c) (E s.b) (bv s.b)):
  bg B w0 223 [bq g] (Cv g A c s::F) (λr L=>r=ah s.yE.e/\L=Cv g A c s.yE::F):=by
 refine ba func223 10 [0] 9 ?_;refine ai rfl (Kd ho hb) (ag 3 (λh5=>?_) λh5=>?_)
 ·have he:s.yE=s.failed 2:=av aa;refine ew ?_;refine ai rfl (ny 2) (dx ?_);refine ai rfl (ik) (dx ?_);rw[he];exact⟨rfl,rfl⟩
 ·have he:s.yE=s:=aB aa;refine dx ?_;refine ai rfl (ik) (dx ?_);rw[he];exact⟨rfl,rfl⟩
theorem amN:bg B w0 177 [bq g] (Cv g A c s::F) (λr L=>r=ah s.at_/\L=Cv g A c s::F):=by
 refine fw func177 10 [0] ?_;exact cm 27
def nxN(s:Cs)(was:cJ)(first:Bool):Nat:=if first then 0 else s.int (E was)
def Z2(s:Cs)(was:cJ)(first:Bool):Cs:=if first then s else s.bX (E was)
def TJ(s:Cs)(was:cJ)(first:Bool):Cs:=(Z2 s was first).fa 25
def nxX(s:Cs)(was:cJ)(first:Bool):cJ:=was.take (nxN s was first)++(Z2 s was first).text 25
def qw(s:Cs)(was:cJ)(first:Bool):Prop:=(Z2 s was first).text 25=[]\/¬uX was (nxX s was first)\/(first=false/\qt was (nxX s was first)≠nxN s was first)
instance (s:Cs)(was:cJ)(first:Bool):Decidable (qw s was first):=inferInstanceAs (Decidable (_\/_\/(_/\_)))
def tF(s:Cs)(was:cJ)(first:Bool):Cs:=if (TJ s was first).e≠0 then TJ s was first else if qw s was first then (TJ s was first).failed 2 else TJ s was first
def sN(s:Cs)(was:cJ)(first:Bool):cJ:=if (TJ s was first).e≠0 then [] else nxX s was first
theorem cw.Z2(h:cw s){was:cJ}{first:Bool}(hw:E was<=1000):cw (Z2 s was first):=by
 unfold YtaodmbolhoafcaaGreatDoor.Z2;split
 ·exact h
 ·exact h.bX aa
theorem cw.tF(h:cw s){was:cJ}{first:Bool}(hw:E was<=1000):cw (tF s was first):=by
 unfold YtaodmbolhoafcaaGreatDoor.tF TJ;split
 ·exact(h.Z2 hw).fa
 ·split
  ·exact(h.Z2 hw).fa.failed 2
  ·exact(h.Z2 hw).fa
theorem Cs.Bc(s:Cs)(m:Int):(s.bX m).b=s.b:=Cs.cO s _ _
theorem Cs.v_(s:Cs)(m:Int):(s.fa m).b=s.b:=Cs.cO s _ _
theorem Cs.Er(s:Cs)(e:Int):(s.failed e).b=s.b:=by unfold Cs.failed;split<;>rfl
theorem aeD(s:Cs)(was:cJ)(first:Bool):(Z2 s was first).b=s.b:=by
 unfold Z2;split
 ·rfl
 ·exact Cs.Bc _ _
theorem asv(s:Cs)(was:cJ)(first:Bool):(tF s was first).b=s.b:=by
 unfold tF TJ;split
 ·rw[Cs.v_,aeD]
 ·split
  ·rw[Cs.Er,Cs.v_,aeD]
  ·rw[Cs.v_,aeD]
theorem anX(s:Cs)(was:cJ)(first:Bool)(hw:E was<=1000):nxN s was first<=E was:=by
 unfold nxN;split
 ·omega
 ·unfold Cs.int;split
  ·omega
  ·by_cases h:(eU s.rest (E was)).2.2=0
   ·have:=(jN s.rest (E was) aa).2.2.2 h;omega
   ·rw[(pP h).1];omega
theorem XN(s:Cs):E (s.text 25)<=25:=by
 unfold Cs.text;split
 ·simp
 ·unfold jW;split
  ·simp
  ·split
   ·simp
   ·rename_i h1 h2;have:=(jN s.rest 25 aa).2.2.2 DM;simp only[fZ];omega
theorem ajg(hw:E was<=1000)(ho:cw s)(hb:aJ B w0 F 1 (.slice A (E s.b) c) (E s.b) (bv s.b)):
  bg B w0 298 [bq g,.string ⟨was.toArray⟩,.bool true] (Cv g A c s::F) (λr L=>r= .string ⟨(sN s was true).toArray⟩/\L=Cv g A c (tF s was true)::F):=by
 have hA:Z2 s was true=s:=rfl;have hN:nxN s was true=0:=rfl;have hS:TJ s was true=s.fa 25:=rfl;have hX:nxX s was true=s.text 25:=by unfold nxX;rw[hN,hA];rfl
 have hB:qw s was true↔(s.text 25=[]\/¬uX was (s.text 25)):=by unfold qw;rw[hX,hA];simp
 have hC:tF s was true=if (s.fa 25).e≠0 then s.fa 25 else if qw s was true then (s.fa 25).failed 2 else s.fa 25:=rfl
 have hT:sN s was true=if (s.fa 25).e≠0 then [] else s.text 25:=by unfold sN;rw[hX,hS]
 have CW:=XN s;rw[hC,hT];clear hC hT hS hX hN hA;refine ba func298 48 [0,1,2] 23 ?_;refine ai rfl (Dl ho hb (most:=25) aa aa) (dg ?_);refine ai rfl (ik) (ag 3 (λkp=>?_) λkp=>?_)
 ·refine cY ?_;exact⟨Vk,Vk⟩
 ·refine dw ?_;refine ab (Ed (i:=0) underlying9 rfl rfl rfl aa) rfl (aX ?_);refine ab (AK (s:=[]) (r:=s.text 25) rfl rfl (by simp only[tT];omega)) rfl (bf 6 19 44 [0,9] (qw s was true) ?_ ?_)
  ·refine bk 3 (λqa=>?_) (λqa=>?_)
   ·refine fb ?_;refine ai rfl (Sa was (s.text 25)) (bk 4 (λCe=>?_) (λCe=>?_))
    ·exact ax 13 (k:=(by exact dS (by first|exact hB.2 (.inl (by assumption))|exact hB.2 (.inr (by assumption))|exact λh=>(hB.1 h).elim (λq=>absurd q (by assumption)) (λq=>absurd q (by assumption)))))
    ·exact ax 9 (k:=apr)
   ·exact ax 15 (k:=apr)
  ·refine ag 2 (λsm=>?_) λsm=>?_
   ·refine ew ?_;refine ai rfl (ny 2) (dh ?_);exact⟨by rw[aB kp];rfl,by rw[aB kp,av sm]⟩
   ·refine dh ?_;exact⟨by rw[aB kp];rfl,by rw[aB kp,aB sm]⟩
theorem ajh(hw:E was<=1000)(ho:cw s)(hb:aJ B w0 F 1 (.slice A (E s.b) c) (E s.b) (bv s.b)):
  bg B w0 298 [bq g,.string ⟨was.toArray⟩,.bool false] (Cv g A c s::F) (λr L=>r= .string ⟨(sN s was false).toArray⟩/\L=Cv g A c (tF s was false)::F):=by
 have hA:Z2 s was false=s.bX (E was):=rfl;have hN:nxN s was false=s.int (E was):=rfl;have hS:TJ s was false=(s.bX (E was)).fa 25:=rfl;have hX:nxX s was false=was.take (s.int (E was))++(s.bX (E was)).text 25:=rfl;have hB:qw s was false↔((s.bX (E was)).text 25=[]\/¬uX was (nxX s was false)\/qt was (nxX s was false)≠s.int (E was)):=by unfold qw;rw[hN,hA];simp
 have hC:tF s was false=if ((s.bX (E was)).fa 25).e≠0 then (s.bX (E was)).fa 25 else if qw s was false then ((s.bX (E was)).fa 25).failed 2 else (s.bX (E was)).fa 25:=rfl
 have hT:sN s was false=if ((s.bX (E was)).fa 25).e≠0 then [] else nxX s was false:=rfl
 have CW:=XN (s.bX (E was));have Rh:=anX s was false hw;have ho2:cw (s.bX (E was)):=ho.bX aa;have nD:aJ B w0 F 1 (.slice A (E (s.bX (E was)).b) c) (E (s.bX (E was)).b) (bv (s.bX (E was)).b):=by rw[Cs.Bc];exact hb
 rw[hC,hT];rw[hX]at*;rw[hN]at Rh;clear hC hT hS hN hA;refine ba func298 48 [0,1,2] 22 ?_;refine ai rfl (jb ho hb (most:=E was) aa aa) (dw ?_);refine ai rfl (Dl ho2 nD (most:=25) aa aa) (dg ?_);refine ai rfl (ik) (ag 3 (λkp=>?_) λkp=>?_)
 ·refine aD 3 [6] 4 ?_;exact⟨Vk,Vk⟩
 ·refine dw ?_;refine ab (Ed (i:=s.int (E was)) underlying9 rfl rfl rfl aa) rfl (aX ?_);refine ab (AK (s:=was.take (s.int (E was))) (r:=(s.bX (E was)).text 25) rfl rfl (by simp only[fZ];omega)) rfl (aD 1 [0,1,2,7,8,9] 0 ?_);refine bf 4 19 44 [0,9] (qw s was false) ?_ ?_
  ·refine bk 3 (λqa=>?_) (λqa=>?_)
   ·refine fb ?_;refine ai rfl (Sa was (was.take (s.int (E was))++(s.bX (E was)).text 25)) (bk 4 (λCe=>?_) (λCe=>?_))
    ·refine dh ?_;exact ai rfl (VY was (was.take (s.int (E was))++(s.bX (E was)).text 25) aa) (ax 7 (k:=(by exact dG (by first|exact hB.2 (.inl (by assumption))|exact hB.2 (.inr (.inl (by assumption)))|exact⟨λh=>hB.2 (.inr (.inr (by omega))),λh=>(hB.1 h).elim (λq=>absurd q (by assumption)) (λq=>q.elim (λq=>absurd q (by assumption)) (λq=>by omega))⟩))))
    ·exact ax 9 (k:=b_4)
   ·exact ax 15 (k:=b_4)
  ·refine ag 2 (λsm=>?_) λsm=>?_
   ·refine ew ?_;refine ai rfl (ny 2) (dh ?_);exact⟨by rw[aB kp],by rw[aB kp,av sm]⟩
   ·refine dh ?_;exact⟨by rw[aB kp],by rw[aB kp,aB sm]⟩
theorem apF(h:P:=by(rw[show m-(i+1)=k by omega,oi (show¬((i+1:Nat):Int)=0 by omega)];exact hF)):P:=h
theorem MT(h:P:=by(simpa using q)):P:=h
theorem anT(first:Bool)(hw:E was<=1000)(ho:cw s)(hb:aJ B w0 F 1 (.slice A (E s.b) c) (E s.b) (bv s.b)):
  bg B w0 298 [bq g,.string ⟨was.toArray⟩,.bool first] (Cv g A c s::F) (λr L=>r= .string ⟨(sN s was first).toArray⟩/\L=Cv g A c (tF s was first)::F):=by
 cases first
 ·exact ajh hw ho hb
 ·exact ajg hw ho hb
theorem aeE{first:Bool}(h:(tF s was first).e=0):(TJ s was first).e=0/\¬qw s was first/\tF s was first=TJ s was first/\sN s was first=nxX s was first:=by
 unfold tF at h⊢;by_cases h1:(TJ s was first).e≠0
 ·rw[av h1]at h;exact absurd h h1
 ·rw[aB h1]at h⊢;have Su:(TJ s was first).e=0:=by simpa using h1
  by_cases h2:qw s was first
  ·rw[av h2]at h;unfold Cs.failed at h;rw[av Su]at h;exact absurd h ao
  ·rw[aB h2];exact⟨Su,h2,rfl,aB h1⟩
theorem TK{first:Bool}(h:(tF s was first).e=0):uX was (sN s was first):=by
 obtain⟨_,h2,_,h4⟩:=aeE h;rw[h4];exact gE.1 λh=>h2 (.inr (.inl h))
def iD:Nat->Bool->Cs->List cJ->List cJ×Int
 |0,_,s,out=>if s.yE.e≠0 then ([],s.yE.e) else (out,0)
 |k+1,first,s,out=>if (tF s (fP out (E out)) first).e≠0 then ([],(tF s (fP out (E out)) first).e) else iD k false (tF s (fP out (E out)) first) (out++[sN s (fP out (E out)) first])
def GN(l:List cJ):Prop:=∀x∈l,E x<=25
theorem GN.prv{l:List cJ}(h:GN l)(i:Nat):E (fP l i)<=25:=by
 unfold fP;split
 ·simp
 ·rw[bz];by_cases hi:i-1<E l
  ·rw[fx hi];exact h _ (uH _)
  ·rw[tS aa];simp
theorem GN.snoc{l:List cJ}(h:GN l){x:cJ}(hx:E x<=25):GN (l++[x]):=by
 intro y hy;simp only[dO,kT]at hy;rcases hy with hy|rfl
 ·exact h y hy
 ·exact hx
abbrev Dd(g:Nat)(sz:Int)(A1:bh)(c1:Nat)(A2:bh)(c2:Nat)(o h:List cJ)(F:aN):aN:=
 .bI g 371 [.slice A1 (E o) c1,ah sz,.slice A2 (E h) c2]:: .own 9 1 A1 (E o) c1 (strs o):: .own 9 1 A2 (E h) c2 (strs h)::F
theorem N8{l r:List cJ}(h:i<E l):(l++r).getD i []=l.getD i []:=by simp[List.getD,Ti h]
theorem amR{sz:Int}{o0 h0:List cJ}(hm:1<=m)(oh:m<=64)(hb:aJ B w0 (Dd g sz A1 c1 A2 c2 o0 h0 F) 1 (.slice A (E b) c) (E b) (bv b))(ey:E b<=1099511627776)(qn:GN o0)(G9:E o0<=2000000)(Wv:E h0<=2000000):
  bg B w0 267 [bq g,.slice A (E b) c,ah m] (Dd g sz A1 c1 A2 c2 o0 h0 F) (λr L=>∃P1 p1 P2 p2 o h,r=ah (iD m true ⟨b,0,0⟩ o0).2/\L=Dd g sz P1 p1 P2 p2 o h F/\((iD m true ⟨b,0,0⟩ o0).2=0->o=(iD m true ⟨b,0,0⟩ o0).1/\h=h0++[o.getD (E o0) []]/\GN o/\E o=E o0+m)):=by
 obtain⟨G,hG⟩:=cM (iD m true ⟨b,0,0⟩ o0);rw[<-hG];refine ba func267 76 [0,1,2] 8 ?_;refine dV rfl (n_ hb ey) λg13 so xd=>fF ?_;refine aw (λzf zL zm=>∃(i:Nat) (s:Cs) (o h:List cJ) (P1:bh) (p1:Nat) (P2:bh) (p2:Nat),(i<=m/\cw s/\E o=E o0+i/\GN o/\(i=0->h=h0)/\(0<i->h=h0++[o.getD (E o0) []])/\iD (m-i) (decide ((i:Int)=0)) s o=G)/\m-i=zm/\Sub zf [(0,bq g),(7,bq g13),(14,ah m),(15,ah i)]/\Wk zL (Cv g13 so xd s:: .own 5 1 so (E s.b) xd (bv s.b)::Dd g sz P1 p1 P2 p2 o h F)) _ ⟨0,⟨b,0,0⟩,o0,h0,A1,c1,A2,c2,⟨bD _,⟨bD _,ey⟩,rfl,qn,λ_=>rfl,λh=>absurd h aa,hG.symm⟩,rfl,a_,.refl _⟩ ?_;rintro _ _ _ ⟨i,s,o,h,P1,p1,P2,p2,⟨hi,ho,hoo,SU,hh0,hh1,hF⟩,rfl,hs,hp⟩;refine aL hs hp (ag 6 (λj0=>?_) λj0=>?_)
 ·obtain⟨k,hk⟩:∃k,m-i=k+1:=⟨m-i-1,aa⟩
  rw[hk,iD]at hF;have kh:=SU.prv (E o);have aws:E h<=2000001:=by
   by_cases h0i:i=0
   ·rw[hh0 h0i];omega
   ·rw[hh1 aa];simp;omega
  refine bK 15 ?_;refine dq (λzf zL=>Sub zf [(0,bq g),(7,bq g13),(8,ah i),(9,.string ⟨(fP o (E o)).toArray⟩),(14,ah m),(15,ah i)]/\Wk zL (Cv g13 so xd s:: .own 5 1 so (E s.b) xd (bv s.b)::Dd g sz P1 p1 P2 p2 o h F)) ?_ ?_
  ·refine ag 11 (λkJ=>?_) λkJ=>?_
   ·have ani:o.getD (E o-1) []=fP o (E o):=(aB aa).symm;refine bK 13 ?_;refine bJ (az (i:=E o-1) (size:=1) underlying87 ae rfl rfl aa aa aA) rfl ?_;refine bJ (im (b:=o) (j:=E o-1) ae rfl aA aa) rfl ?_;rw[ani];refine aX ?_;refine lD [(0,_),(7,_),(8,_),(9,_),(14,_),(15,_)] ⟨rfl,rfl,rfl,rfl,rfl,rfl,trivial⟩ ?_;exact bo ⟨a_,.refl _⟩
   ·have ani:fP o (E o)=[]:=av aa;refine aX ?_;rw[ani];exact bo ⟨a_,.refl _⟩
  ·rintro _ _ ⟨hs,hp⟩;refine aL hs hp (dw ?_);refine ai rfl (anT (decide ((i:Int)=0)) (was:=fP o (E o)) aa ho aA) (dg ?_);refine ai rfl (ik) (ag 9 (λxk=>?_) λxk=>?_)
   ·rw[av xk]at hF;refine aD 4 [6] 8 ?_;refine ak (L':=Dd g sz P1 p1 P2 p2 o h F) (.s2 (.refl _)) (aX ?_);exact⟨P1,p1,P2,p2,o,h,by rw[<-hF],rfl,λh=>by rw[<-hF]at h;exact absurd h xk⟩
   ·rw[aB xk]at hF;have h0:(tF s (fP o (E o)) (decide ((i:Int)=0))).e=0:=by omega
    have eu:=TK h0;have hbb:=asv s (fP o (E o)) (decide ((i:Int)=0));have hoC:cw (tF s (fP o (E o)) (decide ((i:Int)=0))):=ho.tF aa;have CV:E o+1=E (o++[sN s (fP o (E o)) (decide ((i:Int)=0))]):=by simp
    refine fF ?_;refine cC FY rfl rfl rfl rfl rfl (λ_=>rfl) aU aa aa ?_;intro _ A57 c57;refine aD 4 [0,7,8,10,14,15] 0 ?_;refine ag 7 (λh62=>?_) λh62=>?_
    ·refine dg ?_;refine cC FY rfl rfl rfl rfl rfl (λ_=>rfl) aU aa aa ?_;intro _ A70 c70;refine dh ?_;have adx:E h+1=E (h++[sN s (fP o (E o)) (decide ((i:Int)=0))]):=by simp
     refine aj ⟨_,aa,i+1,tF s (fP o (E o)) (decide ((i:Int)=0)),o++[sN s (fP o (E o)) (decide ((i:Int)=0))],h++[sN s (fP o (E o)) (decide ((i:Int)=0))],A57,c57,A70,c70,⟨aa,hoC,bS,SU.snoc eu.2.1,λh=>absurd h aa,λ_=>by rw[hh0 aa];simp[hoo,show i=0 by omega],apF⟩,rfl,a_,.cons (au (by rw[hbb]) (by rw[hbb]) (bx (by rw[CV,adx];rfl) (au CV MU (au adx MU (.refl _)))))⟩
    ·refine dg ?_;refine aj ⟨_,aa,i+1,tF s (fP o (E o)) (decide ((i:Int)=0)),o++[sN s (fP o (E o)) (decide ((i:Int)=0))],h,A57,c57,P2,p2,⟨aa,hoC,bS,SU.snoc eu.2.1,λh=>absurd h aa,λ_=>by rw[hh1 aa,N8 aa],apF⟩,rfl,a_,.cons (au (by rw[hbb]) (by rw[hbb]) (bx (by rw[CV];rfl) (au CV MU (.refl _))))⟩
 ·rw[show m-i=0 by omega,iD]at hF;refine cY ?_;refine ai rfl (aca ho aA) (fb ?_);refine ak (L':=Dd g sz P1 p1 P2 p2 o h F) (.s2 (.refl _)) (aX ?_);have hG2:G.2=s.yE.e:=by
   rw[<-hF];split
   ·rfl
   ·rename_i q;simpa using(gE.1 q).symm
  refine⟨P1,p1,P2,p2,o,h,by rw[hG2],rfl,λq=>?_⟩;rw[hG2]at q;rw[aB MT]at hF;exact⟨by rw[<-hF],hh1 aa,SU,aa⟩
theorem Va(h:P:=by(rw[Hc];exact aA)):P:=h
def BK:Nat->Cs->br->Cs×br
 |0,s,out=>(s,out)
 |k+1,s,out=>if s.e≠0 then (s,out) else BK k (s.bX 2000) (out++[s.int 2000])
def pq(sz n:Nat):br->Cs->List cJ->List cJ×Cs×Int
 |[],s,out=>if s.e≠0 then ([],s,s.e) else (out,s,0)
 |k::r,s,out=>
  if (s.bR k).e≠0 then ([],s,(s.bR k).e)
  else if (iD (min sz (n-E out)) true ⟨s.take k,0,0⟩ out).2≠0 then ([],s,(iD (min sz (n-E out)) true ⟨s.take k,0,0⟩ out).2)
  else pq sz n r (s.bR k) (iD (min sz (n-E out)) true ⟨s.take k,0,0⟩ out).1
def uw(b:aq):Nat:=Cs.int ⟨b,0,0⟩ 1048576
def l9(sz:Nat)(b:aq):Cs×br:=BK (iu sz (uw b)) (Cs.bX ⟨b,0,0⟩ 1048576) []
def mU(sz:Nat)(b:aq):List cJ×Cs×Int:=pq sz (uw b) (l9 sz b).2 (l9 sz b).1 []
def et(size:Int)(b:aq):List cJ×Nat×Int:=
 if size<1\/64<size then ([],0,13)
 else if (mU size.toNat b).2.2≠0 then ([],0,(mU size.toNat b).2.2) else ((mU size.toNat b).1,(mU size.toNat b).2.1.at_,0)
theorem vE(h:size<1\/64<size):et size b=([],0,13):=av h
theorem Iv{sz:Nat}{b:aq}(h:¬((sz:Int)<1\/64<(sz:Int)))(he:(mU sz b).2.2≠0):et sz b=([],0,(mU sz b).2.2):=by unfold et;rw[aB h,lJ,av he]
theorem Ef{sz:Nat}{b:aq}(h:¬((sz:Int)<1\/64<(sz:Int)))(he:(mU sz b).2.2=0):et sz b=((mU sz b).1,(mU sz b).2.1.at_,0):=by unfold et;rw[aB h,lJ,aB MS]
theorem Cs.KR(s:Cs){m:Int}(h0:0<=m)(hm:m<=9223372036854775807):(s.int m:Int)<=m:=by
 unfold Cs.int;split
 ·simpa using h0
 ·by_cases h:(eU s.rest m).2.2=0
  ·exact(jN s.rest m hm).2.2.2 h
  ·rw[(pP h).1];simpa using h0
theorem Cs.akd(s:Cs)(m:Int):(s.bR m).b=s.b:=Cs.cO s _ _
theorem Cs.Jg{k:Nat}{er:Int}(h:(s.d_ k er).e=0):s.e=0:=by
 unfold Cs.d_ at h;split at h
 ·exact h
 ·split at h
  ·rename_i h1 h2;exact absurd h h2
  ·exact h
theorem IF:∀(m:Nat) (f:Bool) (s:Cs) (o:List cJ),(iD m f s o).2=0->∃t,(iD m f s o).1=o++t/\E t=m
 |0,f,s,o,h=>by
  unfold iD at h⊢;split at h
  ·rename_i q;exact absurd h q
  ·rename_i q;rw[aB q];exact⟨[],ao⟩
 |k+1,f,s,o,h=>by
  unfold iD at h⊢;split at h
  ·rename_i q;exact absurd h q
  ·rename_i q;rw[aB q];obtain⟨t,h1,h2⟩:=IF k _ _ _ h;exact⟨sN s (fP o (E o)) f::t,by rw[h1];simp,by simp[h2]⟩
def hdS(sz:Nat)(o:List cJ):List cJ:=(List.range (iu sz (E o))).map λj=>o.getD (j*sz) []
theorem RT(h:1<=sz):n<=iu sz n*sz:=by
 rcases qe (iu sz n*sz) n with h1|h1
 ·exact absurd ((nZ h).2 h1) aa
 ·exact h1
theorem SJ{z N:Nat}{t:List cJ}(hz:z=i*sz)(j8:1<=sz)(ho:E o=min z N)(hzN:z<N):(List.range i).map (λj=>o.getD (j*sz) [])++[(o++t).getD (E o) []]=(List.range (i+1)).map (λj=>(o++t).getD (j*sz) []):=by
 rw[mW,iF,List.map_singleton];congr 1
 ·apply tR;intro j hj;have hji:=oD.1 hj;have:(j+1)*sz<=i*sz:=C3 sz aa;rw[qR,tC]at this;exact(N8 aa).symm
 ·rw[show i*sz=E o by omega]
theorem YL{l:br}(h:i<E l):l.drop i=l.getD i 0::l.drop (i+1):=by
 rw[aiU h];simp[List.getD,fx h]
def abr(size:Int)(b:aq)(F:aN)(r:Value)(L:aN):Prop:=
 ((et size b).2.2≠0/\r= .tuple #[.pointer none,ah 0,ah (et size b).2.2]/\L=F)\/
 ((et size b).2.2=0/\1<=size/\size<=64/\GN (et size b).1/\E (et size b).1<=1048576/\∃g A1 c1 A2 c2,r= .tuple #[bq g,ah (et size b).2.1,ah 0]/\L=Dd g size A1 c1 A2 c2 (et size b).1 (hdS size.toNat (et size b).1) F)
theorem YJ(hE:size<1\/64<size):
  bg B w0 226 [ah size,.slice A n c] F (abr size b F):=by
 refine fw func226 84 [0,1] ?_;refine bf 10 6 23 [0,1] (size<1\/64<size) ?_ ?_
 ·refine bk 3 (λkp=>?_) (λkp=>?_)
  ·exact ax 4 (k:=oJ)
  ·exact ax 2 (k:=wm)
 ·refine ag 2 (λpe=>?_) λpe=>?_
  ·refine dh ?_;exact .inl ⟨by rw[vE hE];decide,by rw[vE hE],rfl⟩
  ·exfalso;exact pe hE
theorem Nz(j8:1<=sz)(jj:sz<=64)(hb:gw B w0 F A c b)(ey:E b<=1000000000):
  bg B w0 226 [ah sz,.slice A (E b) c] F (abr sz b F):=by
 have hR1:= @Iv sz b aa;have x6:= @Ef sz b aa;have hN1:=Cs.KR ⟨b,0,0⟩ (m:=1048576) aa aa;have hDS:l9 sz b=BK (iu sz (uw b)) (Cs.bX ⟨b,0,0⟩ 1048576) []:=rfl;have hDF:mU sz b=pq sz (uw b) (l9 sz b).2 (l9 sz b).1 []:=rfl;have Y6:Cs.int ⟨b,0,0⟩ 1048576=uw b:=rfl;rw[Y6]at hN1;have hdN:∀l:List cJ,mU sz b=mU sz b:=λ_=>rfl;obtain⟨N,hN⟩:=cM (uw b);rw[<-hN]at hN1 hDS hDF Y6;have hcN:iu sz N<=1048639:=by
  unfold iu;exact iY (oE _ _) aa
 have hcz:iu sz N*sz<=1048639*64:=jG hcN jj;have ho1:cw (Cs.bX ⟨b,0,0⟩ 1048576):=cw.bX ⟨bD _,cX⟩ aa;refine fw func226 84 [0,1] ?_;refine bf 10 6 23 [0,1] ((sz:Int)<1\/64<(sz:Int)) ?_ ?_
 ·refine bk 3 (λkp=>?_) (λkp=>?_)
  ·exact ax 4 (k:=oJ)
  ·exact ax 2 (k:=wm)
 ·refine bZ 2 λpe=>?_;refine dx ?_;refine dV rfl (n_ hb aa) λg25 X9 c25=>dw ?_;refine ai rfl (jb (s:=⟨b,0,0⟩) ⟨bD _,cX⟩ aA (most:=1048576) aa aa) ?_;rw[Y6];refine fb ?_;refine aM 3 1 none (fF ?_);refine aw (λzf zL zm=>∃(j q:Nat) (s:Cs) (S:br) (A9:bh) (c9:Nat),(j<=iu sz N/\q=j*sz/\E S=j/\cw s/\s.b=b/\(∀i,i<E S->S.getD i 0<=2000)/\BK (iu sz N-j) s S=l9 sz b)/\iu sz N-j=zm/\Sub zf [(0,ah sz),(7,bq g25),(8,ah N),(9,.slice A9 (E S) c9),(10,ah q)]/\Wk zL (Cv g25 X9 c25 s:: .own 5 1 X9 (E b) c25 (bv b):: .own 3 1 A9 (E S) c9 (bN S)::F)) _ ⟨0,0,Cs.bX ⟨b,0,0⟩ 1048576,[],none,0,⟨bD _,(nJ _).symm,rfl,ho1,Cs.Bc _ _,λi h=>absurd h ao,hDS.symm⟩,rfl,a_,(gC (gC (dL (.refl _))))⟩ ?_;rintro _ _ _ ⟨j,q,s,S,A9,c9,⟨hj,hq,SA,ho,Hc,hS2,hS⟩,rfl,hs,hp⟩;refine aL hs hp (bf 3 8 35 [0,7,8,9,10] ((q:Int)<N/\s.e=0) ?_ ?_)
  ·refine bC 4 (λAU=>?_) λAU=>?_
   ·refine ew ?_;exact ai rfl (ik) (ax 3 (k:=oJ))
   ·exact ax 3 (k:=wo)
  ·refine ag 2 (λAV=>?_) λAV=>?_
   ·have hjN:j<iu sz N:=(nZ j8).2 aa;have hjz:(j+1)*sz<=iu sz N*sz:=C3 sz hjN;have hjs:(j+1)*sz=j*sz+sz:=jR j sz;have hi2:=Cs.KR s (m:=2000) aa aa;have CV:E S+1=E (S++[s.int 2000]):=by simp
    rw[show iu sz N-j=(iu sz N-(j+1))+1 by omega,BK,aB (by simpa using AV.2)]at hS;refine dg ?_;refine ai rfl (jb ho Va (most:=2000) aa aa) ?_;refine cC gF rfl rfl rfl rfl rfl (λ_=>rfl) aU aa aa ?_;intro _ UU c43;refine dh ?_;refine aj ⟨_,aa,j+1,q+sz,s.bX 2000,S++[s.int 2000],UU,c43,⟨aa,aa,bS,ho.bX aa,by rw[Cs.Bc];exact Hc,λi hi=>by
 rcases qe i (E S) with h|h
 ·rw[show(S++[s.int 2000]).getD i 0=S.getD i 0 by simp[List.getD,Ti h]];exact hS2 i h
 ·have:i=E S:=by simp at hi;omega
  rw[this];simp;omega,hS⟩,rfl,a_,.cons (.cons (au CV qj (.refl _)))⟩
   ·have hSS:(s,S)=l9 sz b:=by
     rw[<-hS];by_cases h:j=iu sz N
     ·rw[h,rE];rfl
     ·rw[show iu sz N-j=(iu sz N-(j+1))+1 by omega,BK,av];intro h0;exact AV ⟨by have:=(nZ j8).1 (show j<iu sz N by omega);omega,h0⟩
    have hcm:s.e=0->E S=iu sz N:=by
     intro h0;rcases qe j (iu sz N)with h|h
     ·exact absurd ⟨by have:=(nZ j8).1 h;omega,h0⟩ AV
     ·omega
    rw[<-hSS]at hDF;refine dw ?_;refine aM 9 1 none (aM 9 1 none (ew ?_));refine ab (bw [(1,_)] [.slice none 0 0,ah 0,.slice none 0 0] [1] [_,_,_] rfl rfl ae) rfl (fM λWh=>?_);refine dM ?_;refine aw (λzf zL zm=>∃(i z:Nat) (u:Cs) (o h:List cJ) (P1:bh) (p1:Nat) (P2:bh) (p2:Nat),(i<=E S/\z=i*sz/\E o=min z N/\cw u/\u.b=b/\(u.e=0->E S=iu sz N)/\GN o/\h=(List.range i).map (λj=>o.getD (j*sz) [])/\pq sz N (S.drop i) u o=mU sz b)/\E S-i=zm/\Sub zf [(0,ah sz),(7,bq g25),(8,ah N),(11,bq Wh),(47,.slice A9 (E S) c9),(48,ah (E S)),(49,ah i)]/\Wk zL (Cv g25 X9 c25 u:: .own 5 1 X9 (E b) c25 (bv b)::Dd Wh sz P1 p1 P2 p2 o h (.own 3 1 A9 (E S) c9 (bN S)::F))) _ ⟨0,0,s,[],[],none,0,none,0,⟨bD _,(nJ _).symm,ao,ho,Hc,hcm,λx hx=>absurd hx ao,rfl,hDF.symm⟩,rfl,a_,(vu (vu (dL (dL (dL (dL (.refl _)))))))⟩ ?_;rintro _ _ _ ⟨i,z,u,o,h,P1,p1,P2,p2,⟨hi,hz,G9,hou,hub,huc,SU,hh,hB⟩,rfl,hs,hp⟩;refine aL hs hp (ag 6 (λOe=>?_) λOe=>?_)
    ·have hiS:i<E S:=by omega
     have hzN:z<N:=by have:=(nZ j8).1 (show i<iu sz N by omega);omega
     have hoz:E o=z:=by omega
     have hiz:(i+1)*sz=i*sz+sz:=jR i sz;have awu:i*sz<=iu sz N*sz:=C3 sz aa;have auo:=hS2 i hiS;rw[YL hiS,pq]at hB;obtain⟨k,hk⟩:=cM (S.getD i 0);have Dp:(bN S)[i*1]? =some (ah (k:Int)):=by rw[hk];simp[bN,List.getD,fx hiS]
     rw[<-hk]at hB auo;obtain⟨M,hM⟩:=cM (min sz (N-E o));rw[<-hM]at hB;have hMe:min (sz:Int) ((N-z:Nat):Int)=(M:Int):=by rw[hM,hoz];omega
     have qb:E (u.take k)<=1000000:=by
      unfold Cs.take;split
      ·simp
      ·split
       ·simp
       ·simp only[fZ];omega
     refine cY ?_;refine ab (al ae rfl aA aa Dp) rfl (cY ?_);refine ay rfl (mx hou (by rw[hub];exact aA) (m:=(k:Int)) aa aa) λA56 c56=>dg ?_;refine ai rfl (ik) (ag 9 (λOg=>?_) λOg=>?_)
     ·rw[av Og]at hB;refine aD 6 [4,5,6] 8 ?_;refine ak (L':=F) (.s7 (.refl _)) (aX ?_);have sI:=hR1 (by rw[<-hB];exact Og);rw[<-hB]at sI;exact .inl ⟨by rw[sI];exact Og,by rw[sI],rfl⟩
     ·rw[aB Og]at hB;refine dh ?_;refine ab (eo rfl rfl (r:=(z:Int)) ((bj (by rw[<-xy];omega) (by rw[<-xy];omega)).trans (by rw[hz];exact xy i sz))) rfl (ab (cU rfl rfl (r:=((N-z:Nat):Int)) ((bj aa aa).trans aa)) rfl (ab (yB rfl rfl) rfl ?_));rw[hMe];refine bp aqF rfl ((amR (b:=u.take k) (m:=M) aa aa aA aa SU aa (by rw[hh];simp;omega)).perm ((pu3 (pu3 (pu3 (gh (gh (gh (.refl _))))))))) rfl ?_;rintro _ _ ⟨P71,p71,Q71,q71,o2,h2,rfl,cR,hfo⟩;obtain rfl:=cR.symm;refine aD 1 [0,7,8,11,16,47,48,49] 0 ?_;refine ag 7 (λh73=>?_) λh73=>?_
      ·rw[av h73]at hB;refine bK 14 ?_;refine ak (L':=F) (.s7 (.refl _)) (aX ?_);have sI:=hR1 (by rw[<-hB];exact h73);rw[<-hB]at sI;exact .inl ⟨by rw[sI];exact h73,by rw[sI],rfl⟩
      ·rw[aB h73]at hB;have arl:(iD M true ⟨u.take k,0,0⟩ o).2=0:=by simpa using h73
       obtain⟨ho2,hh2,arV,awE⟩:=hfo arl;rw[<-ho2]at hB;obtain⟨t,ht,CW⟩:=IF _ _ _ _ arl;rw[<-ho2]at ht;refine dg ?_;refine aj ⟨_,aa,i+1,z+sz,u.bR k,o2,h2,P71,p71,Q71,q71,⟨aa,aa,aa,hou.bR,by rw[Cs.akd];exact hub,λq=>huc (Cs.Jg q),arV,by rw[hh2,hh,ht];exact SJ hz j8 G9 hzN,hB⟩,rfl,a_,(vu (X4 (dL (dL (dL (gC (.skip (.refl _))))))))⟩
    ·have hiS:i=E S:=by omega
     rw[kr aa,pq]at hB;refine dA ?_;refine ai rfl (ik) (ag 9 (λh79=>?_) λh79=>?_)
     ·rw[av h79]at hB;refine dh ?_;refine ak (L':=F) (.s6 (.refl _)) (aX ?_);have sI:=hR1 (by rw[<-hB];exact h79);rw[<-hB]at sI;exact .inl ⟨by rw[sI];exact h79,by rw[sI],rfl⟩
     ·rw[aB h79]at hB;refine dw ?_;refine ai rfl (amN) (dw ?_);have sI:=x6 (by rw[<-hB]);rw[<-hB]at sI;have hn:E o=N:=by have:=RT (n:=N) j8;have:=huc (by simpa using h79);rw[G9,hz,hiS,this];omega
      have vM:h=hdS sz o:=by unfold hdS;rw[hn,hh,hiS,huc (by simpa using h79)]
      refine ak (L':=Dd Wh sz P1 p1 P2 p2 o h F) ((lU (lU (lU (.s3 (.refl _)))))) (aX ?_);exact .inr ⟨by rw[sI],aa,aa,by rw[sI];exact SU,by rw[sI];simp only;omega,Wh,P1,p1,P2,p2,by rw[sI],by rw[sI,vM];rfl⟩
theorem ah9(hb:gw B w0 F A c b)(ey:E b<=1000000000):
  bg B w0 226 [ah size,.slice A (E b) c] F (abr size b F):=by
 by_cases hE:size<1\/64<size
 ·exact YJ hE
 ·obtain⟨sz,rfl⟩:=gl (show 0<=size by omega);exact Nz aa aa hb ey
theorem Sb{k:Nat}{l:List cJ}(j8:1<=sz)(jj:sz<=64)(hb:gw B w0 F A c b)(ey:E b<=1000000000)(he:et sz b=(l,k,0)):
  bg B w0 226 [ah sz,.slice A (E b) c] F (λr L=>∃g A1 c1 A2 c2,r= .tuple #[bq g,ah k,ah 0]/\L=Dd g sz A1 c1 A2 c2 l (hdS sz l) F):=
 (Nz j8 jj hb ey).mono λr L h=>by
  rcases h with⟨h,_⟩|⟨_,_,_,_,_,g,A1,c1,A2,c2,h1,h2⟩
  ·rw[he]at h;exact absurd rfl h
  ·rw[he]at h1 h2;exact⟨g,A1,c1,A2,c2,h1,h2⟩
theorem YK(hb:gw B w0 F A c b)(ey:E b<=1000000000)(he:(et size b).2.2≠0):
  bg B w0 226 [ah size,.slice A (E b) c] F (λr L=>r= .tuple #[.pointer none,ah 0,ah (et size b).2.2]/\L=F):=
 (ah9 hb ey).mono λr L h=>by
  rcases h with⟨_,h1,h2⟩|⟨h,_⟩
  ·exact⟨h1,h2⟩
  ·exact absurd h he
theorem dQ.ahG{P:Program}{ff:FuncId}{args:cQ}{size:Nat}{xs:cQ}(hb:aJ B w0 L size (.slice none nn c) nn xs)(h:nn=0->dQ P B w0 ff args L R):dQ P B w0 ff args L R:=λw hw=>by
 obtain⟨A',c',hv,hc,hl,hr⟩:=hb w hw;injection hv with h1 _ h3;subst h1;rcases Be nn with h0|h0
 ·exact h h0 w hw
 ·obtain⟨ad,e,_⟩:=hr h0;cases e
theorem afD(l:List cJ)(hb:aJ B w0 F 1 (.slice A (E l) c) (E l) (strs l))(hn:E l<=1099511627776):
  bg B w0 271 [.slice A (E l) c] F (λr L=>∃A' c',r= .slice A' (E l) c'/\L= .own 9 1 A' (E l) c' (strs l)::F):=by
 rcases A with _|ad
 ·refine dQ.ahG hb λh0=>?_;have:l=[]:=mg h0;subst this;refine cV func271 8 rfl rfl rfl [(0,.slice none 0 c)] ⟨⟨rfl,rfl⟩,trivial⟩ ?_;refine dA ?_;refine ab (sC underlying87 rfl rfl) rfl (dh ?_);exact aH 9 1 none (bO 1)
 ·refine cV func271 8 rfl rfl rfl [(0,.slice (some ad) (E l) c)] ⟨⟨rfl,rfl⟩,trivial⟩ ?_;refine dA ?_;refine ab (sC underlying87 rfl rfl) rfl (dg ?_);refine cv (fA FY) λA5=>aX ?_;refine dB (bB FY rfl aU rfl aA bY aa aa) λA7 c7=>fb ?_;rw[mH,mh];exact bO 1
theorem amM(hn:E o<=1048576):
  bg B w0 229 [bq g] (Dd g sz A1 c1 A2 c2 o h F) (λr L=>∃A' c',r= .slice A' (E o) c'/\L=Dd g sz A1 c1 A2 c2 o h (.own 9 1 A' (E o) c' (strs o)::F)):=by
 refine ba func229 11 [0] 22 ?_;refine ay rfl (afD o aA aa) λz' RQ=>fb ?_;exact ak (L':=Dd g sz A1 c1 A2 c2 o h (.own 9 1 z' (E o) RQ (strs o)::F)) ((gC (gC (gC (dL (.refl _)))))) (bO 1)
theorem amQ:bg B w0 228 [bq g] (Dd g sz A1 c1 A2 c2 o h F) (λr L=>r=ah (E o)/\L=Dd g sz A1 c1 A2 c2 o h F):=by
 refine fw func228 11 [0] ?_;exact cm 28
theorem Vf(h:P:=by(simpa using h4.e1)):P:=h
theorem Ja:type_of% @List.range_eq_range':= @List.range_eq_range'
def w5:cJ->List cJ->Prop
 |_,[]=>True
 |w,s::r=>uX w s/\w5 s r
def Ku:cJ->List cJ->cJ
 |w,[]=>w
 |_,s::r=>Ku s r
theorem oY:∀(w:cJ) (l:List cJ) (x:cJ),Ku w (l++[x])=x
 |_,[],_=>rfl
 |_,s::r,x=>oY s r x
theorem NS:∀(w:cJ) (a b:List cJ),Ku w (a++b)=Ku (Ku w a) b
 |_,[],_=>rfl
 |_,s::r,b=>NS s r b
theorem pV:∀(l:List cJ),fP l (E l)=Ku [] l:=by
 intro l;rcases List.eq_nil_or_concat l with rfl|⟨l',x,rfl⟩
 ·rfl
 ·rw[List.concat_eq_append,oY];unfold fP;rw[aB ao];simp
theorem w5.app:∀{w:cJ} {a b:List cJ},w5 w a->w5 (Ku w a) b->w5 w (a++b)
 |_,[],_,_,h=>h
 |_,s::r,b,h,k=>⟨h.1,w5.app h.2 k⟩
theorem w5.left:∀{w:cJ} {a b:List cJ},w5 w (a++b)->w5 w a
 |_,[],_,_=>trivial
 |_,s::r,b,h=>⟨h.1,w5.left h.2⟩
theorem w5.right:∀{w:cJ} {a b:List cJ},w5 w (a++b)->w5 (Ku w a) b
 |_,[],_,h=>h
 |_,s::r,b,h=>w5.right (a:=r) h.2
theorem w5.get:∀{w:cJ} {l:List cJ},w5 w l->∀i,i<E l->uX (if i=0 then w else l.getD (i-1) []) (l.getD i [])
 |_,[],_,i,hi=>absurd hi ao
 |w,s::r,h,0,_=>by simpa using h.1
 |w,s::r,h,i+1,hi=>by
  have:=w5.get h.2 i HZ;cases i with
  |zero=>simpa using this
  |succ i=>simpa using this
theorem w5.aeH:∀{w:cJ} {l:List cJ},(∀i,i<E l->uX (if i=0 then w else l.getD (i-1) []) (l.getD i []))->w5 w l
 |_,[],_=>trivial
 |w,s::r,h=>by
  refine⟨by simpa using h 0 ao,w5.aeH λi hi=>?_⟩;have:=h (i+1) HZ;cases i with
  |zero=>simpa using this
  |succ i=>simpa using this
theorem m8.ch{l:List cJ}(h:m8 l):w5 [] l:=w5.aeH h.1
theorem w5.ris{l:List cJ}(h:w5 [] l)(hl:E l<=1048576):m8 l:=⟨h.get,hl⟩
theorem Pb:∀a b:cJ,a.take (qt a b)=b.take (qt a b)
 |[],b=>by simp[qt]
 |x::a,[]=>by simp[qt]
 |x::a,y::b=>by
  unfold qt;split
  ·rename_i h;simp[h,Pb a b]
  ·simp
theorem ad7:∀{a b:cJ},x' a b->qt a b<E b
 |_,[],h=>absurd h (qv _)
 |[],y::b,_=>by simp[qt]
 |x::a,y::b,h=>by
  unfold qt;rw[uT]at h;split
  ·rename_i he;subst he;rcases h with h|⟨_,h⟩
   ·rw[QM]at h;omega
   ·have:=ad7 h;simp;omega
  ·simp
theorem al'{x:Nat}(h:x<128):E (aW x)=1:=by rw[nA h];rfl
theorem IA{t:cJ}(h:E t<128):E (fg t)=E t+1:=by
 unfold fg;rw[bm,al' h];omega
theorem Qs:∀(was:cJ) (r:List cJ),E was<=25->(∀s∈r,E s<=25)->E (ja was r)<=E r*27
 |_,[],_,_=>by simp[ja]
 |was,s::r,hw,h=>by
  have hs:=h s ao;have:=Qs s r hs (λx hx=>h x th);have hl:=Bh was s;unfold ja;rw[bm,bm,al' aa,IA l0,jM,ei,qR];omega
theorem RN{X:List cJ}(hl:E X<=64)(h:∀s∈X,E s<=25):E (dR X)<=2000:=by
 cases X with
 |nil=>simp[dR]
 |cons t r=>
  have ht:=h t ao;have:=Qs t r ht (λx hx=>h x th);simp only[ei]at hl;unfold dR;rw[bm,IA aa];omega
theorem anZ{x:cJ}{r:aq}(h0:s.e=0)(hw:E was<=1000)(hm:uX was x)(hr:s.rest=aW (qt was x)++fg (x.drop (qt was x))++r):sN s was false=x/\(tF s was false).e=0/\(tF s was false).rest=r:=by
 have hl:=Bh was x;have gU:=ad7 (Le.1 hm.2.2);rw[bT]at hr;obtain⟨h1,h2⟩:=Cs.iW h0 (m:=E was) aa aa hr;have uG:=h2.cP hr;obtain⟨h3,h4⟩:=Cs.sc h2.e1 (m:=25) (by rw[jM];have:=hm.2.1;omega) aa uG;have z6:=h4.cP uG;have hX:nxX s was false=x:=by
  show was.take (s.int (E was))++(s.bX (E was)).text 25=x;rw[h1,h3,Pb,kH]
 have hS:TJ s was false=(s.bX (E was)).fa 25:=rfl;have hB:¬qw s was false:=by
  rintro(h|h|⟨_,h⟩)
  ·have h:(s.bX (E was)).text 25=[]:=h;rw[h3]at h;have:=eG List.length h;rw[jM]at this;simp at this;omega
  ·rw[hX]at h;exact h hm
  ·rw[hX]at h;exact h h1.symm
 have hC:tF s was false=(s.bX (E was)).fa 25:=by
  unfold tF;rw[hS,aB Vf,aB hB]
 refine⟨?_,by rw[hC];exact h4.e1,by rw[hC];exact z6⟩;unfold sN;rw[hS,aB Vf,hX]
theorem anY{x:cJ}{r:aq}(h0:s.e=0)(hm:uX was x)(hr:s.rest=fg x++r):sN s was true=x/\(tF s was true).e=0/\(tF s was true).rest=r:=by
 obtain⟨h3,h4⟩:=Cs.sc h0 (m:=25) (by have:=hm.2.1;omega) aa hr;have z6:=h4.cP hr;have hX:nxX s was true=x:=by
  show was.take 0++s.text 25=x;rw[h3];rfl
 have hS:TJ s was true=s.fa 25:=rfl;have hB:¬qw s was true:=by
  rintro(h|h|⟨h,_⟩)
  ·have h:s.text 25=[]:=h;rw[h3]at h;exact hm.1 h
  ·rw[hX]at h;exact h hm
  ·cases h
 have hC:tF s was true=s.fa 25:=by
  unfold tF;rw[hS,aB Vf,aB hB]
 refine⟨?_,by rw[hC];exact h4.e1,by rw[hC];exact z6⟩;unfold sN;rw[hS,aB Vf,hX]
theorem IH:∀(r out:List cJ) (s:Cs),s.e=0->E (fP out (E out))<=1000->s.rest=ja (fP out (E out)) r->w5 (fP out (E out)) r->iD (E r) false s out=(out++r,0)
 |[],out,s,h0,_,hr,_=>by
  have:=Cs.acJ h0 hr;simp[iD,this]
 |x::r,out,s,h0,hw,hr,hc=>by
  obtain⟨h1,h2,h3⟩:=anZ h0 hw hc.1 hr;have hp:fP (out++[x]) (E (out++[x]))=x:=by rw[pV,oY]
  show iD (E r+1) false s out=_;unfold iD;rw[aB qi,h1,IH r (out++[x]) _ h2 (by rw[hp];have:=hc.1.2.1;omega) (by rw[hp];exact h3) (by rw[hp];exact hc.2)];simp
theorem NY{X out:List cJ}(tO:X≠[])(hc:w5 (fP out (E out)) X):iD (E X) true ⟨dR X,0,0⟩ out=(out++X,0):=by
 cases X with
 |nil=>exact absurd rfl tO
 |cons x r=>
  obtain⟨h1,h2,h3⟩:=anY (s:=⟨dR (x::r),0,0⟩) rfl hc.1 (show Cs.rest ⟨dR (x::r),0,0⟩=fg x++ja x r from rfl);have hp:fP (out++[x]) (E (out++[x]))=x:=by rw[pV,oY]
  show iD (E r+1) true _ out=_;unfold iD;rw[aB qi,h1,IH r (out++[x]) _ h2 (by rw[hp];have:=hc.1.2.1;omega) (by rw[hp];exact h3) (by rw[hp];exact hc.2)];simp
theorem XD:∀(ns:br) (s:Cs) (out:br) (r:aq),s.e=0->(∀n∈ns,n<=2000)->s.rest=ns.flatMap aW++r->∃s',BK (E ns) s out=(s',out++ns)/\nX s s' (ns.flatMap aW)
 |[],s,out,r,h0,_,hr=>⟨s,by simp[BK],nX.nil h0⟩
 |n::ns,s,out,r,h0,hn,hr=>by
  have Zl:=hn n ao;rw[iX,bT]at hr;obtain⟨h1,h2⟩:=Cs.iW h0 (m:=2000) aa aa hr;obtain⟨s',h3,h4⟩:=XD ns (s.bX 2000) (out++[n]) r h2.e1 (λx hx=>hn x th) (h2.cP hr);refine⟨s',?_,?_⟩
  ·show BK (E ns+1) s out=_;unfold BK;rw[aB (by simpa using h0),h1,h3];simp
  ·rw[iX];exact h2.trans h4
theorem akf(l:List cJ)(sz i:Nat):l.take (i*sz)++ck l sz i=l.take ((i+1)*sz):=by
 unfold ck;rw[qR,tC,I_]
theorem M7{l:List cJ}{sz:Nat}(hR:m8 l)(j8:1<=sz):∀(m i:Nat) (s:Cs) (r:aq),i+m=iu sz (E l)->s.e=0->s.rest=jm l sz (List.range' i m)++r->
  ∃s',pq sz (E l) ((List.range' i m).map λj=>E (dR (ck l sz j))) s (l.take (i*sz))=(l,s',0)/\nX s s' (jm l sz (List.range' i m))
 |0,i,s,r,hi,h0,hr=>by
  have x7:=RT (sz:=sz) (n:=E l) j8;refine⟨s,?_,nX.nil h0⟩;have:i=iu sz (E l):=by omega
  simp only[List.range'_zero,KU,pq];rw[aB (by simpa using h0),this,gv x7]
 |m+1,i,s,r,hi,h0,hr=>by
  rw[List.range'_succ]at hr⊢;have gU:=(nZ j8).1 (show i<iu sz (E l) by omega);simp only[jm,iX,bT]at hr;obtain⟨h1,h2⟩:=Cs.mK h0 (n:=(E (dR (ck l sz i)):Int)) rfl hr;have uG:=h2.cP hr;have CW:E (l.take (i*sz))=i*sz:=by rw[fZ];omega
  have arz:E (ck l sz i)=min sz (E l-i*sz):=by simp[ck]
  have tO:ck l sz i≠[]:=λh=>by have:=eG List.length h;rw[arz]at this;simp at this;omega
  have hch:w5 (fP (l.take (i*sz)) (E (l.take (i*sz)))) (ck l sz i):=by
   rw[pV];have h:=hR.ch;rw[<-kH (i*sz) l]at h;have h:=h.right;rw[<-kH sz (l.drop (i*sz))]at h;exact h.left
  have hF:=NY (out:=l.take (i*sz)) tO hch;rw[arz]at hF;obtain⟨s',h3,h4⟩:=M7 hR j8 m (i+1) _ r aa h2.e1 uG;refine⟨s',?_,?_⟩
  ·simp only[iN,pq];rw[aB (by simpa using h2.e1),h1,CW,hF,aB ao];show pq _ _ _ _ (l.take (i*sz)++ck l sz i)=_;rw[akf];exact h3
  ·show nX s s' (jm l sz (i::List.range' (i+1) m));simp only[jm,iX];exact h2.trans h4
theorem YH{l:List cJ}(hR:m8 l)(j8:1<=sz)(jj:sz<=64)(more:aq):et sz (gi sz l++more)=(l,E (gi sz l),0):=by
 have qn:=hR.le;have hb:(Cs.rest ⟨gi sz l++more,0,0⟩)=aW (E l)++(lH l sz (List.range (iu sz (E l)))++(jm l sz (List.range (iu sz (E l)))++more)):=by simp[Cs.rest,gi]
 have hl:=hR.2;obtain⟨h1,h2⟩:=Cs.iW (s:=⟨gi sz l++more,0,0⟩) rfl (m:=1048576) (x:=E l) aa aa hb;have uG:=h2.cP hb;have hN:uw (gi sz l++more)=E l:=h1;have hH:lH l sz (List.range (iu sz (E l)))=((List.range (iu sz (E l))).map λj=>E (dR (ck l sz j))).flatMap aW:=by simp[lH,OZ]
 rw[hH]at uG;obtain⟨s2,h3,h4⟩:=XD _ _ [] _ h2.e1 (λn hn=>by
  obtain⟨j,_,rfl⟩:=qd.1 hn;exact RN (by simp[ck];omega) (λx hx=>qn x (AE hx))) uG
 have z6:=h4.cP uG;rw[Ja]at z6;obtain⟨s3,h5,h6⟩:=M7 hR j8 _ 0 s2 more aa h4.e1 z6;rw[eZ,EX]at h3;have hS:l9 sz (gi sz l++more)=(s2,(List.range (iu sz (E l))).map λj=>E (dR (ck l sz j))):=by
  unfold l9;rw[hN,h3];rfl
 have hF:mU sz (gi sz l++more)=(l,s3,0):=by
  unfold mU;rw[hN,hS,Ja];rw[nJ,oC]at h5;exact h5
 have rr:s3.at_=E (gi sz l):=by
  have h7:=(h2.trans (h4.trans h6)).eq;rw[h7];have hH2:=eG List.length hH;simp only[Ja]at hH2;simp only[gi,bm,Ja,hH2];omega
 rw[Ef aa (by rw[hF]),hF,<-rr]
theorem an0(hw:E was<=1000)(h:(tF s was false).e=0):uX was (sN s was false)/\nX s (tF s was false) (aW (qt was (sN s was false))++fg ((sN s was false).drop (qt was (sN s was false)))):=by
 have hm:=TK h;obtain⟨h1,h2,h3,h4⟩:=aeE h;have Su:((s.bX (E was)).fa 25).e=0:=h1;have hS:tF s was false=(s.bX (E was)).fa 25:=h3;obtain⟨h5,h6⟩:=Cs.zI Su;obtain⟨h7,h8,h9⟩:=Cs.KS h5.e0;have hX:sN s was false=was.take (s.int (E was))++(s.bX (E was)).text 25:=h4;have hl:qt was (sN s was false)=s.int (E was):=by
  refine gE.1 λq=>h2 (.inr (.inr ⟨rfl,λe=>q ?_⟩));rw[h4];exact e
 refine⟨hm,?_⟩;rw[hl,hS];have hd:(sN s was false).drop (s.int (E was))=(s.bX (E was)).text 25:=by
  rw[hX,rH jA]
 rw[hd];exact h7.trans h5
theorem ajk(h:(tF s was true).e=0):uX was (sN s was true)/\nX s (tF s was true) (fg (sN s was true)):=by
 have hm:=TK h;obtain⟨h1,h2,h3,h4⟩:=aeE h;have Su:(s.fa 25).e=0:=h1;have hS:tF s was true=s.fa 25:=h3;obtain⟨h5,h6⟩:=Cs.zI Su;have hX:sN s was true=s.text 25:=h4;refine⟨hm,?_⟩;rw[hX,hS];exact h5
theorem acK(h:s.yE.e=0):s.e=0/\s.rest=[]:=by
 obtain⟨h1,h2⟩:=Cs.aib h;refine⟨h1,?_⟩;unfold Cs.left at h2;unfold Cs.rest;exact kr aa
theorem IG:∀(m:Nat) (s:Cs) (out:List cJ),E (fP out (E out))<=1000->(iD m false s out).2=0->∃r,(iD m false s out).1=out++r/\E r=m/\s.rest=ja (fP out (E out)) r/\w5 (fP out (E out)) r/\s.e=0
 |0,s,out,hw,h=>by
  unfold iD at h⊢;split at h
  ·rename_i q;exact absurd h q
  ·rename_i q;rw[aB q];obtain⟨h1,h2⟩:=acK MT;exact⟨[],ao,rfl,h2,trivial,h1⟩
 |m+1,s,out,hw,h=>by
  unfold iD at h⊢;split at h
  ·rename_i q;exact absurd h q
  ·rename_i q;rw[aB q];have q':(tF s (fP out (E out)) false).e=0:=by simpa using q
   obtain⟨h1,h2⟩:=an0 hw q';have hp:fP (out++[sN s (fP out (E out)) false]) (E (out++[sN s (fP out (E out)) false]))=sN s (fP out (E out)) false:=by rw[pV,oY]
   obtain⟨r,h3,h4,h5,h6,h7⟩:=IG m _ (out++[sN s (fP out (E out)) false]) (by rw[hp];have:=h1.2.1;omega) h;rw[hp]at h5 h6;refine⟨sN s (fP out (E out)) false::r,by rw[h3];simp,by simp[h4],?_,⟨h1,h6⟩,h2.e0⟩;rw[h2.rest,h5];simp only[ja]
theorem YT{out:List cJ}(hm:1<=m)(h:(iD m true ⟨b,0,0⟩ out).2=0):∃r,(iD m true ⟨b,0,0⟩ out).1=out++r/\E r=m/\b=dR r/\w5 (fP out (E out)) r:=by
 obtain⟨k,rfl⟩:∃k,m=k+1:=⟨m-1,aa⟩
 unfold iD at h⊢;split at h
 ·rename_i q;exact absurd h q
 ·rename_i q;rw[aB q];have q':(tF ⟨b,0,0⟩ (fP out (E out)) true).e=0:=by simpa using q
  obtain⟨h1,h2⟩:=ajk q';have hp:fP (out++[sN ⟨b,0,0⟩ (fP out (E out)) true]) (E (out++[sN ⟨b,0,0⟩ (fP out (E out)) true]))=sN ⟨b,0,0⟩ (fP out (E out)) true:=by rw[pV,oY]
  obtain⟨r,h3,h4,h5,h6,h7⟩:=IG k _ (out++[sN ⟨b,0,0⟩ (fP out (E out)) true]) (by rw[hp];have:=h1.2.1;omega) h;rw[hp]at h5 h6;refine⟨sN ⟨b,0,0⟩ (fP out (E out)) true::r,by rw[h3];simp,by simp[h4],?_,⟨h1,h6⟩⟩;have:=h2.rest;rw[h5]at this;simpa[Cs.rest,dR]using this
theorem Qf:∀(k:Nat) (s s':Cs) (out S:br),BK k s out=(s',S)->s'.e=0->∃S',S=out++S'/\E S'=k/\nX s s' (S'.flatMap aW)
 |0,s,s',out,S,h,he=>by
  simp only[BK,za]at h;obtain⟨rfl,rfl⟩:=h;exact⟨[],ao,rfl,nX.nil he⟩
 |k+1,s,s',out,S,h,he=>by
  unfold BK at h;split at h
  ·rename_i q;simp only[za]at h;obtain⟨rfl,rfl⟩:=h;exact absurd he q
  ·obtain⟨S',h1,h2,h3⟩:=Qf k _ _ _ _ h he;obtain⟨h4,h5,h6⟩:=Cs.KS h3.e0;refine⟨s.int 2000::S',by rw[h1];simp,by simp[h2],?_⟩;rw[iX];exact h4.trans h3
theorem H_{sz n:Nat}(j8:1<=sz):∀(S:br) (i:Nat) (s s':Cs) (out l:List cJ),E out=min (i*sz) n->E S+i=iu sz n->pq sz n S s out=(l,s',0)->
  E l=n/\(∃t,l=out++t/\w5 (fP out (E out)) t)/\nX s s' (jm l sz (List.range' i (E S)))/\S=(List.range' i (E S)).map (λj=>E (dR (ck l sz j)))
 |[],i,s,s',out,l,ho,hS,h=>by
  unfold pq at h;split at h
  ·rename_i q;simp only[za]at h;exact absurd h.2.2 q
  ·rename_i q;simp only[za]at h;obtain⟨rfl,rfl,_⟩:=h;have x7:=RT (sz:=sz) (n:=n) j8;have hi:i=iu sz n:=by simpa using hS
   rw[<-hi]at x7;exact⟨aa,⟨[],ao,trivial⟩,nX.nil MT,ao⟩
 |k::S,i,s,s',out,l,ho,hS,h=>by
  simp only[ei]at hS;have gU:=(nZ j8).1 (show i<iu sz n by omega);have hoi:E out=i*sz:=by omega
  have iy:(i+1)*sz=i*sz+sz:=jR i sz;unfold pq at h;split at h
  ·rename_i q;simp only[za]at h;exact absurd h.2.2 q
  ·rename_i q;split at h
   ·rename_i q2;simp only[za]at h;exact absurd h.2.2 q2
   ·rename_i q2;obtain⟨h1,h2,_⟩:=Cs.Qu (show(s.bR k).e=0 by simpa using q);obtain⟨r,h3,h4,h5,h6⟩:=YT aa (show(iD (min sz (n-E out)) true ⟨s.take k,0,0⟩ out).2=0 by simpa using q2);rw[h3]at h;obtain⟨h7,⟨t,h8,h9⟩,ig,oA⟩:=H_ j8 S (i+1) _ s' (out++r) l (by rw[bm,h4,iy];omega) aa h;have hck:ck l sz i=r:=by
     unfold ck;rw[h8,bT,<-hoi,y8];rcases qe (n-E out) sz with hc|hc
     ·have ht:t=[]:=by
       apply mg;have:=eG List.length h8;rw[h7,bm,bm,h4]at this;omega
      rw[ht,gN,gv aa]
     ·rw[qs (by rw[h4];omega)]
    have hpr:fP (out++r) (E (out++r))=Ku (fP out (E out)) r:=by rw[pV,pV,NS]
    rw[hpr]at h9;refine⟨h7,⟨r++t,by rw[h8,bT],h6.app h9⟩,?_,?_⟩
    ·simp only[ei,List.range'_succ,jm,iX];rw[hck,<-h5];exact h1.trans ig
    ·simp only[ei,List.range'_succ,iN];rw[hck,<-h5,h2,<-oA];simp
theorem Nw(j8:1<=sz)(jj:sz<=64)(he:(et sz b).2.2=0):m8 (et sz b).1/\(et sz b).2.1<=E b/\gi sz (et sz b).1=b.take (et sz b).2.1:=by
 have hE:¬((sz:Int)<1\/64<(sz:Int)):=by omega
 have hF:(mU sz b).2.2=0:=gE.1 λh=>by
  rw[Iv hE h]at he;exact h he
 rw[Ef hE hF];obtain⟨l,s',e⟩:∃l s',mU sz b=(l,s',0):=⟨_,_,Prod.ext rfl (Prod.ext rfl hF)⟩
 have e':=e;unfold mU at e';have SA:(l9 sz b).1.e=0->E (l9 sz b).2=iu sz (uw b)/\nX (Cs.bX ⟨b,0,0⟩ 1048576) (l9 sz b).1 ((l9 sz b).2.flatMap aW):=by
  intro h0;obtain⟨S',h1,h2,h3⟩:=Qf (iu sz (uw b)) (Cs.bX ⟨b,0,0⟩ 1048576) (l9 sz b).1 [] (l9 sz b).2 rfl h0;rw[mh]at h1;rw[h1];exact⟨h2,h3⟩
 have h0:(l9 sz b).1.e=0:=by
  generalize (l9 sz b).2=S at e';generalize (l9 sz b).1=u at e'⊢;cases S with
  |nil=>
   unfold pq at e';split at e'
   ·rename_i q;simp only[za]at e';exact absurd e'.2.2 q
   ·rename_i q;simpa using q
  |cons k S=>
   unfold pq at e';split at e'
   ·rename_i q;simp only[za]at e';exact absurd e'.2.2 q
   ·rename_i q;exact Cs.Jg (s:=u) (k:=(k:Int).toNat) (er:=fC u.rest k) (show(u.bR k).e=0 by simpa using q)
 obtain⟨h1,h2⟩:=SA h0;obtain⟨h3,⟨t,h4,h5⟩,h6,h7⟩:=H_ j8 _ 0 _ s' [] l ao aa e';rw[mh]at h4;subst h4;obtain⟨h8,h9,_⟩:=Cs.KS h2.e0;have ig:=h8.trans (h2.trans h6);rw[h1]at h6 h7 ig;have hH:lH l sz (List.range (iu sz (E l)))=(l9 sz b).2.flatMap aW:=by
  rw[h7,Ja,h3];simp[lH,OZ]
 have hD:gi sz l=aW (Cs.int ⟨b,0,0⟩ 1048576)++((l9 sz b).2.flatMap aW++jm l sz (List.range' 0 (iu sz (uw b)))):=by
  unfold gi;rw[hH,h3,Ja,bT];rfl
 rw[<-hD]at ig;have rr:s'.at_=E (gi sz l):=by rw[ig.eq];simp
 have yM:b=gi sz l++s'.rest:=by simpa[Cs.rest]using ig.rest
 rw[e];simp only;rw[rr];have hN:(uw b:Int)<=1048576:=h9;refine⟨w5.ris (by simpa[fP]using h5) (by rw[h3];omega),?_,?_⟩
 ·conv=>rhs;rw[yM]
  simp
 ·conv=>rhs;rw[yM]
  rw[y']
def Mz(bound:Int):Nat->aq->List (br)->List (br)×Int
 |0,b,out=>if E b≠0 then ([],2) else (out,0)
 |k+1,b,out=>
  if (jc bound b).2.2≠0 then ([],(jc bound b).2.2)
  else if E (jc bound b).1=0 then ([],2)
  else Mz bound k (b.drop (jc bound b).2.1) (out++[(jc bound b).1])
def Ba(size bound:Int)(b:aq):List (br)×Int:=Mz bound (E (et size b).1) (b.drop (et size b).2.1) []
def ft(size bound:Int)(b:aq):List cJ×List (br)×Int:=
 if bound<0\/20000<bound then ([],[],13)
 else if (et size b).2.2≠0 then ([],[],(et size b).2.2)
 else if (Ba size bound b).2≠0 then ([],[],(Ba size bound b).2)
 else ((et size b).1,(Ba size bound b).1,0)
theorem WH(h:bound<0\/20000<bound):ft size bound b=([],[],13):=av h
theorem WI(h:¬(bound<0\/20000<bound))(h1:(et size b).2.2≠0):ft size bound b=([],[],(et size b).2.2):=by unfold ft;rw[aB h,av h1]
theorem WJ{size bound:Int}{b:aq}(h:¬(bound<0\/20000<bound))(h1:(et size b).2.2=0)(h2:(Ba size bound b).2≠0):ft size bound b=([],[],(Ba size bound b).2):=by unfold ft;rw[aB h,aB DM,av h2]
theorem KP{size bound:Int}{b:aq}(h:¬(bound<0\/20000<bound))(h1:(et size b).2.2=0)(h2:(Ba size bound b).2=0):ft size bound b=((et size b).1,(Ba size bound b).1,0):=by unfold ft;rw[aB h,aB DM,aB qi]
theorem Pm{bn:Nat}(hb:bn<=20000):∀(I out:List (br)),(∀x∈I,x≠[]/\me bn x)->Mz bn (E I) (I.flatMap (si bn)) out=(out++I,0)
 |[],out,_=>by simp[Mz]
 |x::r,out,h=>by
  obtain⟨h1,h2⟩:=h x ao;have hbk:=YN h2 hb (r.flatMap (si bn));rw[iX,ei,Mz,hbk,aB ao,aB DM];simp only;rw[y8,Pm hb r _ λy hy=>h y B8];simp
theorem WY{bound:Int}(Oj:bound<=9223372036854775807):∀(k:Nat) (b:aq) (out:List (br)),(Mz bound k b out).2=0->∃I,(Mz bound k b out).1=out++I/\E I=k/\(∀x∈I,x≠[]/\me bound.toNat x)/\I.flatMap (si bound.toNat)=b
 |0,b,out,h=>by
  unfold Mz at h⊢;split at h
  ·exact absurd h aE
  ·rename_i q;rw[aB q];exact⟨[],ao,rfl,ao,by simpa using(mg MT).symm⟩
 |k+1,b,out,h=>by
  unfold Mz at h⊢;split at h
  ·rename_i q;exact absurd h q
  ·rename_i q;split at h
   ·exact absurd h aE
   ·rename_i q2;rw[aB q,aB q2];obtain⟨bn,rfl,nD,hR,hB,hl⟩:=NB Oj MT;obtain⟨I,h1,h2,h3,h4⟩:=WY Oj k _ _ h;simp only[lJ]at h3 h4⊢;refine⟨(jc bn b).1::I,by rw[h1];simp,by simp[h2],?_,?_⟩
    ·intro x hx;rcases fq.1 hx with rfl|hx
     ·exact⟨λe=>q2 H6,hR⟩
     ·exact h3 x hx
    ·rw[iX,hB,h4,kH]
theorem adX{I:List (br)}(h1:1<=sz)(h2:sz<=64)(hb:bn<=20000)(hR:m8 T)(hl:E T=E I)(hI:∀x∈I,x≠[]/\me bn x):ft sz bn (gi sz T++I.flatMap (si bn))=(T,I,0):=by
 have hd:=YH hR h1 h2 (I.flatMap (si bn));have hL:Ba sz bn (gi sz T++I.flatMap (si bn))=(I,0):=by
  unfold Ba;rw[hd];simp only;rw[y8,hl,Pm hb I [] hI];simp
 rw[KP aa (by rw[hd]) (by rw[hL]),hd,hL]
theorem aiM(h:(ft size bound b).2.2=0)(hs:size<=9223372036854775807):∃sz bn:Nat,size=sz/\bound=bn/\1<=sz/\sz<=64/\bn<=20000/\m8 (ft size bound b).1/\E (ft size bound b).1=E (ft size bound b).2.1/\
  (∀x∈(ft size bound b).2.1,x≠[]/\me bn x)/\gi sz (ft size bound b).1++(ft size bound b).2.1.flatMap (si bn)=b:=by
 have q1:¬(bound<0\/20000<bound):=λq1=>by rw[WH q1]at h;exact absurd h aE
 have q2:(et size b).2.2=0:=b_ λq2=>by rw[WI q1 q2]at h;exact q2 h
 have q3:(Ba size bound b).2=0:=b_ λq3=>by rw[WJ q1 q2 q3]at h;exact q3 h
 rw[KP q1 q2 q3];have q4:¬(size<1\/64<size):=λq=>by rw[vE q]at q2;exact absurd q2 aE
 obtain⟨sz,rfl⟩:=gl (show 0<=size by omega);obtain⟨bn,rfl⟩:=gl (show 0<=bound by omega);obtain⟨e1,e2,e3⟩:=Nw (sz:=sz) aa aa q2;obtain⟨I,f1,f2,f3,f4⟩:=WY (bound:=bn) aa _ _ _ q3;rw[mh]at f1;have f1':(Ba sz bn b).1=I:=f1;rw[lJ]at f3 f4;refine⟨sz,bn,rfl,rfl,aa,aa,aa,e1,?_,?_,?_⟩
 ·simp only;rw[f1',f2]
 ·simp only;rw[f1'];exact f3
 ·simp only;rw[f1',f4,e3,kH]
def mq(I:List (br)):List (List Int):=I.map λl=>l.map (λ(n:Nat)=>(n:Int))
theorem S8{I:List (br)}(hb:bn<=20000)(hR:m8 T)(hl:E T=E I)(hI:∀x∈I,x≠[]/\me bn x):yV bn T (mq I):=by
 refine⟨⟨aa,aa⟩,by simp[mq,hl],hR,λx hx=>?_⟩;obtain⟨y,hy,rfl⟩:=qd.1 hx;exact⟨λe=>(hI y hy).1 (List.map_eq_nil_iff.1 e),(sT _ _).2 (hI y hy).2⟩
theorem Pj{bn:Nat}(hb:bn<=20000):∀I:List (br),(∀x∈I,x≠[]/\me bn x)->lsB bn (mq I)=I.flatMap (si bn)
 |[],_=>by simp[lsB,mq]
 |x::r,h=>by
  have ih:=Pj hb r λy hy=>h y B8;have e:Q7 bn (x.map (λ(n:Nat)=>(n:Int)))=(si bn x,0):=Kq (by rintro(q|q|q);omega;omega;exact q ((sT _ _).2 (h x ao).2));unfold lsB mq at ih⊢;rw[iN,iX,iX,ih,e]
theorem I2{I:List (br)}(h1:1<=sz)(h2:sz<=64)(hb:bn<=20000)(hR:m8 T)(hl:E T=E I)(hI:∀x∈I,x≠[]/\me bn x):qO sz bn T (mq I)=(gi sz T++I.flatMap (si bn),0):=by
 rw[KQ h1 h2 (S8 hb hR hl hI)];unfold KO;rw[Pj hb I hI]
theorem EL(h:yV bound T I):∃(bn:Nat) (N:List (br)),bound=bn/\bn<=20000/\I=mq N/\m8 T/\E T=E N/\∀x∈N,x≠[]/\me bn x:=by
 obtain⟨⟨h0,h1⟩,h2,h3,h4⟩:=h;obtain⟨bn,rfl⟩:=gl h0;have e:I=mq (I.map λl=>l.map Int.toNat):=by
  unfold mq;rw[CY]
  conv=>lhs;rw[<-List.map_id I]
  refine tR λx hx=>?_;obtain⟨xs,rfl⟩:=(h4 x hx).2.aey;simp[Function.comp_def]
 refine⟨bn,I.map λl=>l.map Int.toNat,rfl,aa,e,h3,qi,λx hx=>?_⟩;obtain⟨y,hy,rfl⟩:=qd.1 hx;obtain⟨xs,rfl⟩:=(h4 y hy).2.aey;have e2:(xs.map (λ(n:Nat)=>(n:Int))).map Int.toNat=xs:=by simp[Function.comp_def]
 rw[e2];exact⟨λq=>(h4 _ hy).1 (by rw[q];rfl),(sT _ _).1 (h4 _ hy).2⟩
theorem aqW{L1 L2:List MH}(Rb:aJ B w0 F 1 (.slice B1 (E L1) b1) (E L1) (L1.map A_))(hI1:ow B w0 F L1)(Sz:aJ B w0 F 1 (.slice B2 (E L2) b2) (E L2) (L2.map A_))(hI2:ow B w0 F L2)(jj:E L1<=1000000000)(t_:∀e∈L1,E e.2.2<=9223372036854775807):
  bg B w0 240 [.slice B1 (E L1) b1,.slice B2 (E L2) b2,.func (.func 241) #[] #[]] F (λr L=>r= .bool (decide (gy L1=gy L2))/\L=F):=by
 refine fw func240 32 [0,1,2] ?_;refine ag 15 (λgT=>?_) λgT=>?_
 ·refine cY ?_;exact⟨by rw[oi λh=>gT (by have:=eG List.length h;simp only[gy,eZ]at this;omega)],rfl⟩
 ·refine fF ?_;refine aw (λzf zL zm=>∃(k:Nat),(k<=E L1/\(gy L1).take k=(gy L2).take k)/\E L1-k=zm/\Sub zf [(1,.slice B2 (E L2) b2),(2,.func (.func 241) #[] #[]),(15,.slice B1 (E L1) b1),(16,ah (E L1)),(17,ah k)]/\Wk zL (F)) _ ⟨0,⟨bD _,rfl⟩,rfl,a_,.refl _⟩ ?_;rintro _ _ _ ⟨k,⟨hk,heq⟩,rfl,hs,hp⟩;refine aL hs hp (ag 6 (λjq=>?_) λjq=>?_)
  ·have xn:k<E L1:=by omega
   have zY:k<E L2:=by omega
   have hi1:=hI1.get xn;have hi2:=hI2.get zY;have q9:=t_ _ (bc xn rB);refine cY ?_;refine ab (al ae rfl aA aa (anz xn)) rfl (dA ?_);refine ab (al ae rfl aA aa (anz zY)) rfl (cY ?_);refine vr (aQ func241 rfl rfl) rfl rfl (aqX aA aA q9) rfl ?_;rintro _ _ ⟨rfl,cR⟩;obtain rfl:=cR.symm;refine ag 3 (λwv=>?_) λwv=>?_
   ·refine aD 3 [6] 8 ?_;exact⟨by
     rw[oi];intro h;refine wv ?_;have:=eG (λl=>l.getD k []) h;simpa[gy,List.getD,ib,fx xn,fx zY]using this,rfl⟩
   ·refine aD 6 [1,2,15,16,17] 0 ?_;refine aj ⟨_,aa,k+1,⟨aa,adV heq xn zY (gE.1 wv)⟩,rfl,a_,.refl _⟩
  ·refine dM ?_;exact⟨by
    have h4:gy L1=gy L2:=by
     have:=heq
     rwa [gv (by simp only[gy,eZ];omega),gv (by simp only[gy,eZ];omega)]at this
    rw[pK h4],rfl⟩
theorem ajE{T1 T2:List cJ}{L1 L2:List MH}(h1:aJ B w0 F 1 (.slice A1 (E T1) c1) (E T1) (strs T1))(Rb:aJ B w0 F 1 (.slice B1 (E L1) b1) (E L1) (L1.map A_))(hI1:ow B w0 F L1)(h2:aJ B w0 F 1 (.slice A2 (E T2) c2) (E T2) (strs T2))(Sz:aJ B w0 F 1 (.slice B2 (E L2) b2) (E L2) (L2.map A_))(hI2:ow B w0 F L2)(hs:E T1<=1000000000)(jj:E L1<=1000000000)(t_:∀e∈L1,E e.2.2<=9223372036854775807):
  bg B w0 195 [.agg [.slice A1 (E T1) c1,.slice B1 (E L1) b1].toArray,.agg [.slice A2 (E T2) c2,.slice B2 (E L2) b2].toArray] F (λr L=>r= .bool (decide (T1=T2/\gy L1=gy L2))/\L=F):=by
 refine fw func195 17 [0,1] ?_;refine bM 2 λg2=>?_;refine fM λg3=>?_;refine bf 5 12 16 [] (T1=T2/\gy L1=gy L2) ?_ ?_
 ·refine fb ?_;refine ai rfl (aqY aA aA aa) ?_;refine bC 1 (λig=>?_) λig=>?_
  ·refine cY ?_;refine ai rfl (aqW aA (hI1.mono (fN [_,_] F)) aA (hI2.mono (fN [_,_] F)) jj t_) ?_;exact ax 1 (k:=Vl)
  ·exact ax 5 (k:=Vl)
 ·refine fb ?_;exact ak (L':=F) (.s2 (.refl _)) (cm 1)
theorem aoL{x:aI}{t:cJ}(h:t∈trm x):t≠[]:=by
 rcases dO.1 ((r9 _ _).1 h)with h|h
 ·have:=(Mc h).1;intro e;rw[e]at this;simp at this
 ·obtain⟨u,hu,rfl⟩:=qd.1 h;simp
theorem ai6{f:Nat->List cJ}{s:cJ}:q∈Pk f n s↔q<n/\s∈f q:=by
 unfold Pk;rw[I7,oD];simp
theorem M3{f:Nat->List cJ}{s:cJ}:s∈sv f n↔∃q,q<n/\s∈f q:=by
 rw[sv,r9,OX];simp only[oD]
theorem J9{L:List aI}(hw:dJ L<=1048576)(hn:E L<=20000):yV (E L) (sv (BP L) (E L)) ((J8 (BP L) (E L)).map λl=>l.map (λ(n:Nat)=>(n:Int))):=by
 have hl:E (sv (BP L) (E L))<=dJ L:=by
  have h1:=vg ((List.range (E L)).flatMap (BP L));have h2:=DO L (E L) (ga _);rw[js]at h2;unfold sv;omega
 have sn:Ya (sv (BP L) (E L)):=zD _;have hm:∀t∈sv (BP L) (E L),t≠[]/\E t<=25:=λt h=>by
  obtain⟨q,_,hq⟩:=M3.1 h;exact⟨aoL hq,agy hq⟩
 refine⟨⟨aa,aa⟩,by simp[J8],⟨λi hi=>?_,aa⟩,λx hx=>?_⟩
 ·obtain⟨h1,h2⟩:=hm _ (bc hi []);refine⟨h1,h2,?_⟩;unfold fP;by_cases e:i=0
  ·rw[av e];exact Ps h1
  ·rw[aB e];refine Le.2 ?_;have:=qq.1 sn (i-1) i aa hi aa;simpa[List.getD,fx hi,fx (show i-1<E (sv (BP L) (E L)) by omega)]using this
 ·obtain⟨y,hy,rfl⟩:=qd.1 hx;obtain⟨s,hs,rfl⟩:=qd.1 hy;refine⟨λe=>Tt.2 (M3.1 hs) (List.map_eq_nil_iff.1 e),(sT _ _).2 λi hi=>⟨(ai6.1 (bc hi 0)).1,λh0=>?_⟩⟩;have hp:(Pk (BP L) (E L) s).Pairwise (· < ·):=List.Pairwise.sublist List.filter_sublist List.pairwise_lt_range;have:=qq.1 hp (i-1) i aa hi aa;simpa[List.getD,fx hi,fx (show i-1<E (Pk (BP L) (E L) s) by omega)]using this
theorem HJ(h:P:=by(have:=np hn;omega)):P:=h
theorem Cy:type_of% @List.flatten_cons:= @List.flatten_cons
def o2(o:aZ):aZ:=(o.1,o.2.1,o.2.2.1,0,0,0)
def mO(L:List aI):List (br):=J8 (BP L) (E L)
def mP(L:List aI):List cJ:=sv (BP L) (E L)
def qP(o:aZ)(L:List aI):aq:=(qO o.2.2.1 (E L) (mP L) (mq (mO L))).1
def yC(ns ss:br)(c i:Nat):aq:=aW ns.sum++(aW (E ns)++((ns.zip ss).flatMap (λp=>aW p.1++aW p.2)++(aW c++aW i)))
def cB(o:aZ)(L:List aI):fJ:=iV false o.2.1 (dc o false L) L
def ll(L:List aI):aq:=b7 (kM L)
def lq(o:aZ)(L:List aI):aq:=b7 (qP o L)
def oz(o:aZ)(L:List aI):aq:=b7 (yC (dc o false L) ((cB o L).map List.length) (E (ll L)) (E (lq o L)))
def gJ(o:aZ)(L:List aI):aq:=(cB o L).flatten++(ll L++(lq o L++(oz o L++fT (E (oz o L)) 4)))
def gL(o:aZ)(L:List aI):aq×Int:=if dF 2 (o2 o)≠0 then ([],dF 2 (o2 o)) else if dC L≠0 then ([],dC L) else (gJ o L,0)
def ftK(b:aq):Nat:=Cs.fixed ⟨b.drop (E b-4),0,0⟩ 4
def ftD(b:aq):aq×Int:=aT ((b.take (E b-4)).drop (E b-4-ftK b))
def lF(b:aq):aq×aq×Int:=
 if E b<4 then ([],[],1) else if E b-4<ftK b then ([],[],1) else (b.take (E b-4-ftK b),(ftD b).1,(ftD b).2)
def tK(m:Nat):Nat->Cs->br->br->br×br×Cs
 |0,s,ns,ss=>(ns,ss,s)
 |f+1,s,ns,ss=>if s.e≠0 then (ns,ss,s) else tK m f ((s.bX m).bX 8388608) (ns++[s.int m]) (ss++[(s.bX m).int 8388608])
def Dm(d:aq):Nat:=Cs.int ⟨d,0,0⟩ 20000
def dr1(d:aq):Cs:=Cs.bX ⟨d,0,0⟩ 20000
def Mq(d:aq):Nat:=(dr1 d).int (Dm d)
def dr2(d:aq):Cs:=(dr1 d).bX (Dm d)
def iJ(d:aq):br×br×Cs:=tK (Dm d) (Mq d) (dr2 d) [] []
def Km(d:aq):Nat:=(iJ d).2.2.int 8388608
def VX(d:aq):Cs:=(iJ d).2.2.bX 8388608
def drI(d:aq):Nat:=(VX d).int 8388608
def dr5(d:aq):Cs:=((VX d).bX 8388608).yE
def drE(d:aq)(room:Nat):Int:=
 if (dr5 d).e≠0 then (dr5 d).e else if 0∈(iJ d).1\/(iJ d).1.sum≠Dm d\/(iJ d).2.1.sum+Km d+drI d≠room then 2 else 0
def nS:br->aq->fJ
 |[],_=>[]
 |n::ss,r=>r.take n::nS ss (r.drop n)
structure fj where
 ns:br
 ss:br
 c:Nat
 i:Nat
 times:br
 levels:aq
 T:List cJ
 I:List (br)
 bA:fJ
def fj.nil:fj:=⟨[],[],0,0,[],[],[],[],[]⟩
def DR(b:aq):aq:=(lF b).1
def gY(b:aq):aq:=(lF b).2.1
def boX(b:aq):aq:=(DR b).drop (iJ (gY b)).2.1.sum
def GS(b:aq):aq:=(boX b).take (Km (gY b))
def B_(b:aq):aq:=(boX b).drop (Km (gY b))
def Im(n:Nat)(ch:aq):Int:=
 if (aT ch).2≠0 then (aT ch).2 else if (om n (aT ch).1).2.2.2≠0 then (om n (aT ch).1).2.2.2 else if (om n (aT ch).1).2.2.1<E (aT ch).1 then 2 else 0
def l6(o:aZ)(b:aq):fj×Int:=
 if dF 2 (o2 o)≠0 then (.nil,dF 2 (o2 o))
 else if (lF b).2.2≠0 then (.nil,(lF b).2.2)
 else if drE (gY b) (E (DR b))≠0 then (.nil,drE (gY b) (E (DR b)))
 else if Im (iJ (gY b)).1.sum (GS b)≠0 then (.nil,Im (iJ (gY b)).1.sum (GS b))
 else if (aT (B_ b)).2≠0 then (.nil,(aT (B_ b)).2)
 else if (ft o.2.2.1 ((iJ (gY b)).1.sum:Nat) (aT (B_ b)).1).2.2≠0 then (.nil,(ft o.2.2.1 ((iJ (gY b)).1.sum:Nat) (aT (B_ b)).1).2.2)
 else (⟨(iJ (gY b)).1,(iJ (gY b)).2.1,Km (gY b),drI (gY b),(om ((iJ (gY b)).1.sum:Nat) (aT (GS b)).1).1,(om ((iJ (gY b)).1.sum:Nat) (aT (GS b)).1).2.1,
  (ft o.2.2.1 ((iJ (gY b)).1.sum:Nat) (aT (B_ b)).1).1,(ft o.2.2.1 ((iJ (gY b)).1.sum:Nat) (aT (B_ b)).1).2.1,nS (iJ (gY b)).2.1 (DR b)⟩,0)
def p6(ts:br)(lv:aq)(a:Nat)(L:List aI):List aI:=(List.range (E L)).map λi=>(ts.getD (a+i) 0,lv.getD (a+i) 0,(recAt L i).2.2.1,(recAt L i).2.2.2)
noncomputable def g_(x:fj)(k:Nat):List aI×Int:=
 if (du (x.bA.getD k [])).2.2≠0 then ([],(du (x.bA.getD k [])).2.2)
 else if (du (x.bA.getD k [])).2.1<E (x.bA.getD k []) then ([],2)
 else if (rZ false (du (x.bA.getD k [])).1).2≠0 then ([],(rZ false (du (x.bA.getD k [])).1).2)
 else if E (rZ false (du (x.bA.getD k [])).1).1≠x.ns.getD k 0 then ([],2)
 else (p6 x.times x.levels (x.ns.take k).sum (rZ false (du (x.bA.getD k [])).1).1,0)
noncomputable def oj(x:fj):Nat->Nat->List aI->List aI×Int
 |0,_,out=>(out,0)
 |f+1,k,out=>if (g_ x k).2≠0 then ([],(g_ x k).2) else oj x f (k+1) (out++(g_ x k).1)
noncomputable def rS(x:fj):List aI×Int:=
 if (oj x (E x.bA) 0 []).2≠0 then ([],(oj x (E x.bA) 0 []).2)
 else if dC (oj x (E x.bA) 0 []).1≠0 then ([],dC (oj x (E x.bA) 0 []).1)
 else if¬(x.T=mP (oj x (E x.bA) 0 []).1/\x.I=mO (oj x (E x.bA) 0 []).1) then ([],15)
 else ((oj x (E x.bA) 0 []).1,0)
theorem AA{a b:List (br)}(h:mq a=mq b):a=b:=
 (List.map_inj_right (f:=λl:br=>l.map λ(n:Nat)=>(n:Int)) λx y h=>(List.map_inj_right (f:=λ(n:Nat)=>(n:Int)) λm n h=>Int.ofNat.inj h).1 h).1 h
theorem yH(b plain:Bool):∀(ns:br) (L:List aI),E (iV b plain ns L)=E ns
 |[],_=>rfl
 |n::ns,L=>by simp[iV,yH b plain ns]
theorem Iw{m:Nat}(hm:m<=20000):∀(ns ss:br) (s:Cs) (r:aq) (an ue:br),E ns=E ss->s.e=0->(∀n∈ns,n<=m)->(∀n∈ss,n<=8388608)->
  s.rest=(ns.zip ss).flatMap (λp=>aW p.1++aW p.2)++r->∃s',tK m (E ns) s an ue=(an++ns,ue++ss,s')/\nX s s' ((ns.zip ss).flatMap λp=>aW p.1++aW p.2)
 |[],[],s,r,an,ue,_,h0,_,_,_=>⟨s,by simp[tK],nX.nil h0⟩
 |[],_::_,_,_,_,_,h,_,_,_,_=>by simp at h
 |_::_,[],_,_,_,_,h,_,_,_,_=>by simp at h
 |n::ns,k::ss,s,r,an,ue,hl,h0,h1,h2,hr=>by
  have uG:s.rest=aW n++(aW k++((ns.zip ss).flatMap (λp=>aW p.1++aW p.2)++r)):=by rw[hr];simp[bT]
  obtain⟨a1,d1⟩:=Cs.iW (m:=(m:Nat)) h0 (by have:=h1 n ao;omega) aa uG;have z6:=d1.cP uG;obtain⟨a2,d2⟩:=Cs.iW (m:=8388608) d1.e1 (by have:=h2 k ao;omega) aa z6;have hr3:=d2.cP z6;obtain⟨s',e1,e2⟩:=Iw hm ns ss _ r (an++[n]) (ue++[k]) wI d2.e1 (λx hx=>h1 x th) (λx hx=>h2 x th) hr3;refine⟨s',?_,?_⟩
  ·rw[ei,tK,aB (by simpa using h0),a1,a2,e1];simp[bT]
  ·have:=(d1.trans d2).trans e2;simpa[bT]using this
theorem JG:∀(fs:fJ) (r:aq),nS (fs.map List.length) (fs.flatten++r)=fs
 |[],_=>rfl
 |f::fs,r=>by
  rw[iN,nS,Cy,bT,y',y8,JG fs r]
theorem np{l:br}(h:n∈l):n<=l.sum:=by
 induction l with
 |nil=>cases h
 |cons a r ih=>
  rw[y9];rcases fq.1 h with e|e
  ·subst e;omega
  ·have:=ih e;omega
theorem N2(fs:fJ):E fs.flatten=(fs.map List.length).sum:=List.length_flatten
theorem Kx{S:Nat}:∀{g l:br},w6 S l g->g.sum=E l/\∀n∈g,1<=n
 |[],l,h=>by
  have:l=[]:=h;subst this;exact⟨rfl,λn hn=>by cases hn⟩
 |n::g,l,h=>by
  obtain⟨h1,h2,_,_,h5⟩:=h;obtain⟨i1,i2⟩:=Kx h5;rw[jM]at i1;refine⟨by rw[y9,i1];omega,λm hm=>?_⟩;rcases fq.1 hm with e|e
  ·subst e;exact h1
  ·exact i2 m e
theorem vI(o:aZ)(b:Bool)(L:List aI):(dc o b L).sum=E L/\∀n∈dc o b L,1<=n:=by
 have:=Kx (jd o.1.toNat (lens b L))
 rwa [dP]at this
theorem Uc(L:List aI):∀(a n:Nat),a+n<=E L->p6 (L.map (·.1)) (lv L) a (((L.drop a).take n).map (norm false))=(L.drop a).take n:=by
 intro a n h;apply oQ
 ·simp[p6]
 ·intro i h1 h2;have hi:i<n:=by simp[fZ]at h2;omega
  have hl:a+i<E L:=by omega
  simp only[p6,E1,Ho,OO,List.getElem_drop];have e1:(L.map (·.1)).getD (a+i) 0=L[a+i].1:=by simp[bz,fx hl]
  have e2:(lv L).getD (a+i) 0=L[a+i].2.1:=by simp[lv,bz,fx hl]
  have e3:recAt (((L.drop a).take n).map (norm false)) i=norm false L[a+i]:=by
   unfold recAt;rw[bz,fx qi];simp
  rw[e1,e2,e3];simp[norm]
theorem NV{S:Nat}(hS:S<=32768){x:fj}{L:List aI}(hx:∀r∈L,r.fits){plain:Bool}(h2:x.times=L.map (·.1))(h3:x.levels=lv L){k a:Nat}(ha:a=(x.ns.take k).sum)(hn:n=x.ns.getD k 0){ns:br}(hf:w6 S (lens false (L.drop a)) (n::ns))(hfk:x.bA.getD k []=(ij (ct false ((L.drop a).take n)) plain).1):g_ x k=((L.drop a).take n,0):=by
 obtain⟨f1,f2,f3,f4,f5⟩:=hf;rw[dP,jM]at f2;have I0:=pd hS (b:=false) (λr hr=>hx r (oG hr)) f1 f3;have hbk:=M4 (ct false ((L.drop a).take n)) plain I0 [];rw[gN]at hbk;have xp:rZ false (ct false ((L.drop a).take n))=(((L.drop a).take n).map (norm false),0):=by
  unfold rZ;rw[BG _ ((L.drop a).take n) _ [] rfl (by unfold Cs.left;simp only;omega) (λr hr=>hx r (oG (ia hr))) abR,mh]
 unfold g_;rw[hfk,hbk];simp only;rw[xp];simp only;rw[aB ao,aB aa,aB ao,aB (by rw[eZ,fZ,jM,<-hn];omega),h2,h3,<-ha,Uc L a n aa]
theorem Jf{S:Nat}(hS:S<=32768){x:fj}{L:List aI}(hx:∀r∈L,r.fits)(plain:Bool)(h1:x.bA=iV false plain x.ns L)(h2:x.times=L.map (·.1))(h3:x.levels=lv L)(hf0:w6 S (lens false L) x.ns):
  ∀(f k:Nat),k+f=E x.ns->(∀M,w6 S (lens false (L.drop (x.ns.take k).sum)) (x.ns.drop k)->iV false plain (x.ns.drop k) (L.drop (x.ns.take k).sum)=x.bA.drop k->M=L.take (x.ns.take k).sum->oj x f k M=(L,0))
 |0,k,hk,M,hf,EB,hM=>by
  have:(x.ns.take k)=x.ns:=gv aa;rw[this,(Kx hf0).1,dP,js]at hM;rw[oj,hM]
 |f+1,k,hk,M,hf,EB,hM=>by
  have x8:k<E x.ns:=by omega
  obtain⟨a,ha⟩:=cM ((x.ns.take k).sum);obtain⟨n,hn⟩:=cM (x.ns.getD k 0);rw[<-ha]at hf EB hM;have hd:=cy x8 0;rw[<-hn]at hd;rw[hd]at hf EB;rw[iV]at EB;have hfk:x.bA.getD k []=(ij (ct false ((L.drop a).take n)) plain).1:=by
   have:(x.bA.drop k)[0]? =some (ij (ct false ((L.drop a).take n)) plain).1:=by rw[<-EB];rfl
   rw[k_6,rM]at this;rw[bz,this];rfl
  have wz:=NV hS hx h2 h3 ha hn hf hfk;have f5:=hf.2.2.2.2;have xq:(x.ns.take (k+1)).sum=a+n:=by rw[aP x8 0,pJ,<-ha,<-hn];simp
  rw[oj,wz,aB ao];simp only;refine Jf hS hx plain h1 h2 h3 hf0 f (k+1) aa _ ?_ ?_ ?_
  ·rw[xq,<-mX,sK];exact f5
  ·have:(x.bA.drop k).tail=x.bA.drop (k+1):=by rw[List.tail_drop]
   rw[<-this,<-EB,List.tail_cons,xq,mX]
  ·rw[xq,hM,I_]
def tj(o:aZ)(L:List aI):aq:=ll L++(lq o L++(oz o L++fT (E (oz o L)) 4))
theorem M8{o:aZ}{L:List aI}(ho:dF 2 (o2 o)=0)(hc:dC L=0)(hx:∀x∈L,x.1<18446744073709551616)(hw:dJ L<=1048576){fl:aq}(arH:E fl=((cB o L).map List.length).sum)(hlen:E (fl++tj o L)<=8388608):
  l6 o (fl++tj o L)=(⟨dc o false L,(cB o L).map List.length,E (ll L),E (lq o L),L.map (·.1),lv L,mP L,mO L,nS ((cB o L).map List.length) (fl++(ll L++lq o L))⟩,0)/\o.1.toNat<=32768/\∀x∈L,x.fits:=by
 have eu:ju 2 (o2 o):=by
  unfold dF at ho;rw[av (.inr (.inl rfl))]at ho;exact b_ λh=>by rw[aB h]at ho;simp at ho
 obtain⟨⟨m1,m2⟩,_,m4,_,_⟩:=eu;obtain⟨m5,m6⟩:=m4 (.inr rfl);have m1:16<=o.1:=m1;have m2:o.1<=32768:=m2;have m5:1<=o.2.2.1:=m5;have m6:o.2.2.1<=64:=m6;have yO:E L<=20000/\(∀x∈L,x.fits):=by
  unfold dC at hc;have:¬(20000<E L\/(∃x∈L,uS x)\/1048576<dJ L):=λh=>by rw[av h]at hc;simp at hc
  refine⟨aa,λx h=>⟨hx x h,?_,?_⟩⟩
  ·exact wW λk=>this (.inr (.inl ⟨x,h,.inl k⟩))
  ·exact wW λk=>this (.inr (.inl ⟨x,h,.inr k⟩))
 obtain⟨hl,hL⟩:=yO;obtain⟨sz,iy⟩:∃sz:Nat,o.2.2.1=sz:=⟨o.2.2.1.toNat,aa⟩
 obtain⟨ED,zX⟩:=vI o false L;have KK:=jd o.1.toNat (lens false L);have Ms:E (dc o false L)<=E L:=by unfold dc;have:=lh o.1.toNat (lens false L);rwa [dP]at this
 obtain⟨cs,q8⟩:=cM (ll L);obtain⟨ix,hix⟩:=cM (lq o L);obtain⟨dr,Za⟩:=cM (oz o L);obtain⟨b,hb⟩:=cM (fl++tj o L);have yM:b=fl++(cs++(ix++(dr++fT (E dr) 4))):=by rw[hb,q8,hix,Za];rfl
 have ey:E b=E fl+E cs+E ix+E dr+4:=by rw[yM];simp;omega
 rw[<-hb]at hlen;have hk:ftK b=E dr:=by
  have e:b.drop (E b-4)=fT (E dr) 4:=by
   have:b=(fl++(cs++(ix++dr)))++fT (E dr) 4:=by rw[yM];simp[bT]
   rw[this];exact rH bS
  unfold ftK Cs.fixed;rw[e,aB aa];have ht:Cs.take ⟨fT (E dr) 4,0,0⟩ 4=fT (E dr) 4:=by
   have:=(Cs.mK (s:=⟨fT (E dr) 4,0,0⟩) (t:=fT (E dr) 4) (r:=[]) rfl (n:=4) ao abR).1;exact this
  rw[ht,E5];exact ly aa
 have hbt:b.take (E b-4)=(fl++(cs++ix))++dr:=by
  have:b=((fl++(cs++ix))++dr)++fT (E dr) 4:=by rw[yM];simp[bT]
  rw[this];exact qs bS
 have Rg:lF b=(fl++(cs++ix),yC (dc o false L) ((cB o L).map List.length) (E cs) (E ix),0):=by
  have e1:(b.take (E b-4)).drop (E b-4-ftK b)=dr:=by
   rw[hbt,hk];exact rH bS
  have e2:b.take (E b-4-ftK b)=fl++(cs++ix):=by
   have:b=(fl++(cs++ix))++(dr++fT (E dr) 4):=by rw[yM];simp[bT]
   rw[hk]
   conv=>lhs;arg 2;rw[this]
   exact qs bS
  have e3:ftD b=(yC (dc o false L) ((cB o L).map List.length) (E cs) (E ix),0):=by
   unfold ftD;rw[e1,Za,q8,hix];exact kN _
  unfold lF;rw[aB aa,aB (by rw[hk];omega),e2,e3]
 obtain⟨D,hD⟩:=cM (yC (dc o false L) ((cB o L).map List.length) (E cs) (E ix));have r0:Cs.rest ⟨D,0,0⟩=aW (dc o false L).sum++(aW (E (dc o false L))++(((dc o false L).zip ((cB o L).map List.length)).flatMap (λp=>aW p.1++aW p.2)++(aW (E cs)++aW (E ix)))):=by
  unfold Cs.rest;rw[qS,hD];rfl
 obtain⟨n1,d1⟩:=Cs.iW (m:=20000) rfl aa aa r0;have r1:=d1.cP r0;have eR:Dm D=E L:=by unfold Dm;rw[n1,ED]
 obtain⟨n2,d2⟩:=Cs.iW (m:=(E L:Nat)) d1.e1 aa aa r1;have r2:=d2.cP r1;have eB:Mq D=E (dc o false L):=by unfold Mq dr1;rw[eR];exact n2
 have e2:dr2 D=(Cs.bX ⟨D,0,0⟩ 20000).bX (E L:Nat):=by unfold dr2 dr1;rw[eR]
 obtain⟨s3,h3,d3⟩:=Iw (m:=E L) hl (dc o false L) ((cB o L).map List.length) _ _ [] [] (by rw[eZ];unfold cB;rw[yH]) d2.e1 (λn hn=>HJ) (λn hn=>HJ) r2;have e3:iJ D=(dc o false L,(cB o L).map List.length,s3):=by unfold iJ;rw[eR,eB,e2,h3];simp
 have r3:=d3.cP r2;obtain⟨n4,d4⟩:=Cs.iW (x:=E cs) (m:=8388608) d3.e1 aa aa r3;have r4:=d4.cP r3;obtain⟨n5,d5⟩:=Cs.iW (x:=E ix) (m:=8388608) d4.e1 aa aa (r:=[]) (by rw[gN];exact r4);have eC:Km D=E cs:=by unfold Km;rw[e3];exact n4
 have e4:VX D=s3.bX 8388608:=by unfold VX;rw[e3]
 have eI:drI D=E ix:=by unfold drI;rw[e4];exact n5
 have e5:(dr5 D).e=0:=by
  unfold dr5;rw[e4];exact Cs.acJ d5.e1 (d5.cP (by rw[gN];exact r4))
 have hdE:drE D (E (fl++(cs++ix)))=0:=by
  unfold drE;rw[e5,aB ao,e3,eR,eC,eI];refine aB λh=>?_;rcases h with h|h|h
  ·have:=zX 0 h;omega
  ·exact h ED
  ·apply h;simp only[bm];omega
 have hbx:boX b=cs++ix:=by
  unfold boX DR gY;rw[Rg];simp only;rw[<-hD,e3];simp only;exact rH arH
 have hbc:GS b=cs:=by
  unfold GS gY;rw[hbx,Rg];simp only;rw[<-hD,eC];exact qs rfl
 have hbi:B_ b=ix:=by
  unfold B_ gY;rw[hbx,Rg];simp only;rw[<-hD,eC];exact rH rfl
 have hcc:aT cs=(kM L,0):=by rw[q8];exact kN _
 have hci:aT ix=(qP o L,0):=by rw[hix];exact kN _
 have hrc:om ((E L:Nat):Int) (kM L)=(L.map (·.1),lv L,E (kM L),0):=by
  have:=Yz hx hl []
  rwa [gN]at this
 have hio:=J9 hw hl;obtain⟨bn,N,auu,aiw,hN,hRT,hTl,hNI⟩:=EL hio;have hbn:bn=E L:=by omega
 subst hbn;have Y6:N=mO L:=by
  have:mq N=mq (mO L):=by rw[<-hN];rfl
  exact AA this
 subst Y6;have WG:qP o L=gi sz (mP L)++(mO L).flatMap (si (E L)):=by
  unfold qP;rw[iy,I2 (T:=mP L) (I:=mO L) aa aa aiw hRT hTl hNI]
 have hir:ft o.2.2.1 ((E L:Nat):Int) (qP o L)=(mP L,mO L,0):=by
  rw[WG,iy];exact adX (T:=mP L) (I:=mO L) aa aa aiw hRT hTl hNI
 have yP:Im (dc o false L).sum cs=0:=by
  unfold Im;rw[hcc,ED];simp only;rw[hrc];simp
 have Dn:DR b=fl++(cs++ix):=by unfold DR;rw[Rg]
 have Oj:gY b=D:=by unfold gY;rw[Rg,hD]
 rw[<-hb];refine⟨?_,aa,hL⟩;unfold l6;rw[ho,aB ao,Rg];simp only;rw[aB ao,Dn,Oj,hdE,aB ao,e3,hbc,hbi];simp only;rw[yP,aB ao,hci];simp only;rw[aB ao,ED,hir];simp only;rw[aB ao,eC,eI,hcc];simp only;rw[hrc,<-q8,<-hix]
theorem Ib{o:aZ}{L:List aI}(ho:dF 2 (o2 o)=0)(hc:dC L=0)(hx:∀x∈L,x.1<18446744073709551616)(hw:dJ L<=1048576)(hlen:E (gJ o L)<=8388608):
  ∃x,l6 o (gJ o L)=(x,0)/\x.ns=dc o false L/\rS x=(L,0):=by
 obtain⟨hO,hS,hL⟩:=M8 ho hc hx hw (N2 (cB o L)) hlen;rw[JG]at hO;refine⟨_,hO,rfl,?_⟩;have KK:=jd o.1.toNat (lens false L);have G5:oj ⟨dc o false L,(cB o L).map List.length,E (ll L),E (lq o L),L.map (·.1),lv L,mP L,mO L,cB o L⟩ (E (cB o L)) 0 []=(L,0):=
  Jf (S:=o.1.toNat) hS hL o.2.1 rfl rfl rfl KK (E (cB o L)) 0 (by simp only[mH];unfold cB;rw[yH]) [] (by simp only[oC,List.sum_nil,qS];exact KK) (by simp[cB]) ao
 unfold rS;simp only;rw[G5];simp only;rw[aB ao,hc,aB ao,aB ao]
def qE(o:aZ):aq:=(eK++[2])++(aW o.1.toNat++(gj o.2.1::aW o.2.2.1.toNat))
def mS(o:aZ):aq:=b7 (qE o)
def Hz(o:aZ)(L:List aI):aq:=mS o++gJ o L
def xT(o:aZ)(L:List aI):aq×Int:=if dF 2 o≠0 then ([],dF 2 o) else if (gL o L).2≠0 then ([],(gL o L).2) else (Hz o L,0)
def th1(b:aq):Cs:=Cs.bR ⟨b,0,0⟩ 5
def th2(b:aq):Cs:=(th1 b).bX 32768
def aaJ(b:aq):UInt8:=(th2 b).byte
def XO(b:aq):Cs:=if 1<(aaJ b).toNat then (th2 b).eV.failed 2 else (th2 b).eV
def th4(b:aq):Cs:=(XO b).bX 64
def C_(b:aq):Cs:=(th4 b).bR 4
def MD(b:aq):aZ:=(((th1 b).int 32768:Nat),decide ((aaJ b).toNat=1),((XO b).int 64:Nat),0,0,0)
def Gb(b:aq):Nat×Int:=
 if (C_ b).e≠0 then (0,(C_ b).e) else if (aT (b.take (C_ b).at_)).2≠0 then (0,(aT (b.take (C_ b).at_)).2) else ((C_ b).at_,dF 2 (MD b))
def vp(b:aq):aZ×fj×Int:=
 if (marked b).2≠0 then (Bs,.nil,(marked b).2) else if (marked b).1≠2 then (Bs,.nil,4)
 else if (Gb b).2≠0 then (Bs,.nil,(Gb b).2)
 else if (l6 (MD b) (b.drop (Gb b).1)).2≠0 then (Bs,.nil,(l6 (MD b) (b.drop (Gb b).1)).2)
 else (MD b,(l6 (MD b) (b.drop (Gb b).1)).1,0)
theorem qz{o:aZ}(ho:dF 2 o=0):ju 2 o/\o2 o=o:=by
 have eu:ju 2 o:=by
  unfold dF at ho;rw[av (.inr (.inl rfl))]at ho;exact b_ λh=>by rw[aB h]at ho;simp at ho
 refine⟨eu,?_⟩;obtain⟨_,_,_,m5,_⟩:=eu;obtain⟨k1,k2,k3⟩:=m5 aa;obtain⟨a,b,c,d,e,f⟩:=o;simp only at k1 k2 k3;subst k1;subst k2;subst k3;rfl
theorem Gi(o:aZ)(Z:aq):marked (mS o++Z)=(2,0):=by
 have:=nN (v:=2) HX ((aW o.1.toNat++(gj o.2.1::aW o.2.2.1.toNat))++(kz (mw 0 (qE o))++Z));rw[<-this];congr 1;unfold mS b7 qE;show _=(eK++[2])++_;simp[bT]
theorem XU{o:aZ}{Z:aq}{x:fj}(ho:dF 2 o=0)(h1:l6 o Z=(x,0)):vp (mS o++Z)=(o,x,0):=by
 obtain⟨eu,he⟩:=qz ho;obtain⟨⟨m1,m2⟩,_,m4,_,_⟩:=eu;obtain⟨m5,m6⟩:=m4 (.inr rfl);obtain⟨b,hb⟩:=cM (mS o++Z);have yR:marked b=(2,0):=by rw[hb];exact Gi o Z
 have r0:Cs.rest ⟨b,0,0⟩=(eK++[2])++(aW o.1.toNat++(gj o.2.1::(aW o.2.2.1.toNat++(kz (mw 0 (qE o))++Z)))):=by
  unfold Cs.rest;rw[qS,hb];unfold mS b7 qE;simp[bT]
 obtain⟨_,d1⟩:=Cs.mK (n:=5) rfl rfl r0;have r1:=d1.cP r0;obtain⟨n2,d2⟩:=Cs.iW (m:=32768) d1.e1 aa aa r1;have r2:=d2.cP r1;obtain⟨n3,d3⟩:=Cs.mo d2.e1 r2;have r3:=d3.cP (p:=[gj o.2.1]) r2;obtain⟨n4,d4⟩:=Cs.iW (m:=64) d3.e1 aa aa r3;have r4:=d4.cP r3;obtain⟨_,d5⟩:=Cs.mK (n:=4) d4.e1 rfl r4;have l_:(gj o.2.1).toNat<=1/\(decide ((gj o.2.1).toNat=1)=o.2.1):=by cases o.2.1<;>exact⟨aE,aE⟩
 have e2:th2 b=(Cs.bR ⟨b,0,0⟩ 5).bX 32768:=rfl;have ePl:aaJ b=gj o.2.1:=by unfold aaJ;rw[e2];exact n3
 have e3:XO b=((Cs.bR ⟨b,0,0⟩ 5).bX 32768).eV:=by unfold XO;rw[ePl,aB aa,e2]
 have e4:th4 b=(((Cs.bR ⟨b,0,0⟩ 5).bX 32768).eV).bX 64:=by unfold th4;rw[e3]
 have eO:MD b=o:=by
  unfold MD;rw[show th1 b=Cs.bR ⟨b,0,0⟩ 5 from rfl,n2,ePl,l_.2,e3,n4]
  conv=>rhs;rw[<-he]
  unfold o2;congr 1
  ·omega
  ·congr 1;congr 1;omega
 have pF:=(((d1.trans d2).trans d3).trans d4).trans d5;have Wv:((eK++[2]:aq)++aW o.1.toNat++[gj o.2.1]++aW o.2.2.1.toNat++kz (mw 0 (qE o)))=mS o:=by unfold mS b7 qE;simp[bT]
 have e5:C_ b=⟨b,E (mS o),0⟩:=by
  unfold C_;rw[e4,pF.eq,Wv];simp
 have hbt:b.take (E (mS o))=mS o:=by rw[hb];exact qs rfl
 have Oj:b.drop (E (mS o))=Z:=by rw[hb];exact rH rfl
 have hcut:aT (mS o)=(qE o,0):=kN _;have eE:Gb b=(E (mS o),0):=by
  unfold Gb;rw[e5];simp only;rw[hbt,hcut,aB ao,aB ao,eO,ho]
 rw[<-hb];unfold vp;rw[yR];simp only;rw[aB ao,aB ao,eE];simp only;rw[aB ao,Oj,eO,h1];simp
theorem apG(h:P:=by(first|exact λh=>absurd h.1 (by omega)|exact⟨λh=>⟨by omega,h⟩,λh=>h.2⟩)):P:=h
theorem apA(h:P:=by(exact dS (by first|exact λh=>absurd h.1 (by omega)|exact⟨λh=>⟨by omega,h⟩,λh=>h.2⟩))):P:=h
theorem nV(x lo hi:Int):bg B w0 115 [ah x,ah lo,ah hi] F (λr L=>r= .bool (decide (GI x lo hi))/\L=F):=by
 refine fw func115 15 [0,1,2] ?_;refine bf 7 8 14 [] (GI x lo hi) ?_ ?_
 ·refine bC 4 (λig=>?_) λig=>?_
  ·exact ax 6 (k:=(by exact dG apG))
  ·exact ax 3 (k:=apA)
 ·exact cm 5
theorem aaC(o:aZ):bg B w0 116 [.agg (aZ.cells o).toArray] F (λr L=>r= .bool (decide (LN o))/\L=F):=by
 obtain⟨bl,pl,bu,da,pa,ch⟩:=o;refine cV func116 19 rfl rfl rfl [(0,.agg #[ah bl,.bool pl,ah bu,ah da,ah pa,ah ch])] ⟨⟨rfl,rfl⟩,trivial⟩ ?_;refine bM 2 λg1=>?_;refine dg ?_;refine ai rfl (nV da 1 255) (bC 1 (λh6=>?_) λh6=>?_)
 ·have hwd:1<=da/\da<=255:=h6;refine dh ?_;refine ai rfl (nV pa 0 (255-da)) (bC 2 (λgT=>?_) λgT=>?_)
  ·refine fb ?_;refine ai rfl (nV ch 1 4096) (aD 2 [2] 2 ?_);refine ak (L':=F) (.skip (.refl _)) (aX ?_);exact⟨eG Value.bool (xz.2 ⟨λh=>⟨h6,gT,h⟩,λh=>h.2.2⟩),rfl⟩
  ·refine aD 4 [2] 2 ?_;refine ak (L':=F) (.skip (.refl _)) (aX ?_);exact⟨eG Value.bool (oi (λh=>gT h.2.1)).symm,rfl⟩
 ·refine aD 12 [2] 2 ?_;refine ak (L':=F) (.skip (.refl _)) (aX ?_);exact⟨eG Value.bool (oi (λh=>h6 h.1)).symm,rfl⟩
theorem uW(hb:gw B w0 F A c l)(hl:E l<=1099511627776):
  bg B w0 107 [.slice A (E l) c] F (λr L=>r= .tuple #[ah (marked l).1,ah (marked l).2]/\L=F):=by
 refine dQ.yk hb λoP _=>?_;refine fw func107 29 [0] ?_;refine ag 22 (λh5=>?_) λh5=>?_
 ·have e:marked l=(0,1):=av aa;rw[e];exact cm 10
 ·have h4:4<E l:=by omega
  have yO:=(l.getD 4 0).toNat_lt;have vM:=hb.h_ (k:=4) aa;have Y_:(bv l).take (4*1)=bv (l.take 4):=by simp[bv,mY]
  rw[Y_]at vM;have S2:(bv l)[4*1]? =some (.int .u8 ((l.getD 4 0).toNat:Int)):=by simp[bv,List.getD,fx h4]
  refine fb ?_;refine ab (bQ (i:=4) (size:=1) underlying27 ae rfl rfl rfl aa) rfl (ab (pz underlying27 underlying5 underlying9 rfl aA) rfl ?_);refine ag 4 (λig=>?_) λig=>?_
  ·have e:marked l=(0,3):=by unfold marked;rw[aB aa,av (λh=>ig (by rw[h];rfl))]
   rw[e];exact cm 10
  ·have ig:l.take 4=eK:=gE.1 ig;refine fb ?_;refine ab (az (i:=4) (size:=1) underlying27 ae rfl rfl rfl aa aA) rfl ?_;refine ab (al ae rfl aA aa S2) rfl (aX ?_);refine ai rfl (nV ((l.getD 4 0).toNat:Int) 1 3) (aD 2 [0,4,16] 0 ?_);refine ag 1 (λj0=>?_) λj0=>?_
   ·have e:marked l=(0,4):=by unfold marked;rw[aB aa,aB (λh=>h ig),av j0]
    rw[e];exact cm 10
   ·have e:marked l=(((l.getD 4 0).toNat:Int),0):=by unfold marked;rw[aB aa,aB (λh=>h ig),aB j0]
    rw[e];refine dg ?_;refine ab (az (i:=4) (size:=1) underlying27 ae rfl rfl rfl aa aA) rfl ?_;refine ab (al ae rfl aA aa S2) rfl ?_;exact cm 7
section
section
variable{C:Cx}{fr:Fr}{L:aN}{x y:Operand}{f:Ch->aN}{t e ty:TypeId}{k:IntKind}{m n:Int}{v:Value}
theorem uU(z:Array Value):∀(nn:Nat),(madeCells z (nn*z.size)).toList=(List.replicate nn z.toList).flatten
 |0=>by simp[madeCells]
 |nn+1=>by
  have ih:=uU z nn;rw[EW,List.flatten_append,<-ih];simp only[Cy,List.flatten_nil,gN];apply oQ
  ·simp[madeCells,jR]
  ·intro i h1 h2;simp only[madeCells,Array.toList_map,Array.toList_range,E1,Ho];by_cases hi:i<nn*z.size
   ·rw[List.getElem_append_left (by simpa[madeCells]using hi)];simp
   ·have hz:i<(nn+1)*z.size:=by simpa[madeCells]using h1
    rw[jR]at hz;rw[List.getElem_append_right bS];obtain⟨j,rfl⟩:∃j,i=nn*z.size+j:=⟨i-nn*z.size,aa⟩
    have hj:j<z.size:=by omega
    simp only[eZ,EX,uJ,mi nn,Nat.mul_add_mod,ly hj];simp[getElem!_pos,hj]
theorem Iz{size bytes:Nat}{zv:Value}(T:tc C.P t e size bytes zv){k':IntKind}{cc:Nat}(he:ev fr x=some (.int k m))(hm:m=(nn:Int))(hy:ev fr y=some (.int k' n))(hn:n=(cc:Int))(hle:nn<=cc)(kg:bytes*cc<=281474976710656)(xZ:cc<=281474976710656):
  ra C fr L (.makeSlice t x y) ty (λp L'=>∃A,p= .slice A nn cc/\L'= .own e size A nn cc (List.replicate nn zv.cells.toList).flatten::L):=λa w ha hw d pos af gg=>by
 subst hm;subst hn;obtain⟨i,hi,hz,iy,GF⟩:=T.hi;have hr:=run_make (P:=C.P) w t e i zv T.ht hi hz k k' (nn:Int) (cc:Int) aa aa (by rw[GF,<-xy];omega) aa;simp only[lJ,iy]at hr;have hzs:=T.hz;have l_:∀q:Nat,E ((List.replicate q zv.cells.toList).flatten)=q*size:=λq=>by
  rw[List.length_flatten,List.map_replicate,List.sum_replicate_nat,Hj,hzs]
 refine⟨.slice (some ⟨w.heap.size,0,none⟩) nn cc,w.alloc (.cells (madeCells zv.cells (cc*size)) e),_,.inl (by simp[execOp,ha.tmp he,ha.tmp hy,hr]),⟨some ⟨w.heap.size,0,none⟩,rfl,rfl⟩,hw.gZ (KW w _ none) ⟨l_ nn,hle,?_⟩ ?_⟩
 ·by_cases sG:cc=0
  ·exact .inl sG
  ·refine .inr ⟨_,_,rfl,hw.base,EY w _,yd,by simp[madeCells],?_⟩;rw[<-hzs,uU];obtain⟨d,rfl⟩:∃d,cc=nn+d:=⟨cc-nn,aa⟩
   have e2:(List.replicate (nn+d) zv.cells.toList).flatten=(List.replicate nn zv.cells.toList).flatten++(List.replicate d zv.cells.toList).flatten:=by
    rw[<-List.flatten_append,<-List.replicate_append_replicate]
   rw[e2];exact qs (by rw[l_,hzs])
 ·by_cases sG:cc=0
  ·left;simp[Ch.fp,sG]
  ·right;exact⟨w.heap.size,HW,ga _⟩
theorem afE{α:Type}{L us:List α}{N:Nat}(hj:j+kk<=N)(hk:E us=kk)(hN:N<=E L):(L.take j++us++L.drop (j+kk)).take N=(L.take N).take j++us++(L.take N).drop (j+kk):=by
 have hl:E (L.take j)=j:=by rw[fZ];omega
 rw[bT,I4,hl,gv aa,I4,hk,gv (by omega:E us<=N-j),List.take_take,C2 aa,Hk,<-bT,show N-j-kk=N-(j+kk) by omega]
theorem El{size:Nat}{xs:cQ}(kk:Nat)(hs:pH C.P t kk=true)(he:ev fr x=some (.pointer (A.map (·.add j))))(hv:ev fr y=some (.agg us.toArray))(h1:∀u∈us,u.oneCell'=true)(hk:E us=kk)(hm:m9 (.own e size A nn c xs) L f)(hj:j+kk<=E xs)(h0:0<kk):
  ra C fr L (.store t x y) ty (λp L'=>L'=f (.own e size A nn c (xs.take j++us++xs.drop (j+kk)))):=λa w ha hw d pos af gg=>by
 obtain⟨q1,q2,q3⟩:=hw.all _ hm.mem;have sG:¬c=0:=λh=>by
  have:nn=0:=by omega
  subst this;rw[nJ]at q1;omega
 obtain⟨g,cur,rfl,k1,k2,k3,k4,k5⟩:=q3.resolve_left sG;have Oi:(⟨g,0,none⟩:Addr).add j=⟨g,j,none⟩:=by rw[C1,mH]
 have yO:E xs<=cur.size:=by
  have:=eG List.length k5;rw[fZ,Hj]at this;omega
 have hr:=run_storeCells_at (P:=C.P) g j e us 0 cur w k2 aa h1;have iy:(C.P.info? t).map (·.size)=some kk:=by
  have h:=hs;unfold pH at h;rw[Bg]at h;have h2:=h.2;rw[Hm]at h2;exact h2
 obtain⟨i,hi,hii⟩:∃i,C.P.info? t=some i/\i.size=kk:=by
  cases hq:C.P.info? t with
  |none=>rw[hq]at iy;cases iy
  |some i=>rw[hq]at iy;exact⟨i,rfl,by simpa using iy⟩
 have tP:(storeVar t ⟨g,j,none⟩ (.agg us.toArray)).run C.P w= .ok () (w.setRow g (cur.toList.take (j+0)++us++cur.toList.drop (j+0+E us)).toArray):=by
  simp[storeVar,sizeOf,typeInfo,hi,hii,Value.cells,hk,hr]
 refine⟨undef,w.setRow g (cur.toList.take (j+0)++us++cur.toList.drop (j+0+E us)).toArray,_,.inr ⟨?_,rfl⟩,rfl,?_⟩
 ·have he':ev fr x=some (.pointer (some ⟨g,j,none⟩)):=by rw[he];simp[Oi]
  simp[execOp,Instr.storeAt,Instr.sureAddr,ha.tmp he',ha.tmp hv,tP]
 ·have Re:(Ch.own e size (some ⟨g,0,none⟩) nn c xs).fp=some g:=by simp[Ch.fp,sG]
  refine hw.Xx hm ?_ (λ_=>⟨?_,q2,.inr ⟨g,_,rfl,k1,Tg w g cur _ e _ k2,k3,?_,?_⟩⟩) (.inr (.inl rfl))
  ·rw[Re];exact⟨rfl,rfl,rfl,ao,λk _ hk=>Th w g k _ (λe=>hk B9)⟩
  ·simp only[bm,fZ,jM];omega
  ·simp only[y_,bm,fZ,jM,Hj];rw[<-k4];omega
  ·have e2:=afE (L:=cur.toList) (us:=us) (j:=j) (kk:=kk) (N:=nn*size) aa hk (by rw[Hj];omega);rw[k5]at e2;simp only[rM,hk];exact e2
end
theorem kx{xs:cQ}{n:Nat}(h:(xs.drop j).take n=us):∀(q:Nat) (u:Value),us[q]? =some u->xs[j+q]? =some u:=by
 subst h;intro q u hu;rw[KT]at hu;split at hu
 ·rwa [k_6]at hu
 ·cases hu
end
section
section
variable{fr:Fr}{L L':aN}{g:Nat}{bt:TypeId}{cs:cQ}{f:Ch->aN}
theorem Dv{P:Program}{s:Nat}{ty:TypeId}(hr:fn.results= #[.cell q ty,.tmp u,.tmp s])(hq:look q fr=some (bq g))(hs:pH P ty kk=true)(hm:m9 (.bI g bt cs) L f)(hk:E cs=kk){x:Value}(hu:look u fr=some v)(hx:look s fr=some x)(OC:Wk L L')(h:R (.tuple #[.agg cs.toArray,v,x]) L'):zT P fn R .ret fr L:=λB w0 a w ha hw=>by
 subst hk;refine⟨_,L',?_,h,OC.sl hw⟩;have hl:=kX (P:=P) (w:=w) (p:=⟨g,0,none⟩) hs (λj u hj=>ML);simp[results,hr,ha.at_ _ _ hq,ha.at_ _ _ hu,ha.at_ _ _ hx,asAddr,hl]
theorem vU{P:Program}{s t:Nat}{ty:TypeId}(hr:fn.results= #[.cell q ty,.tmp u,.tmp s,.tmp t])(hq:look q fr=some (bq g))(hs:pH P ty kk=true)(hm:m9 (.bI g bt cs) L f)(hk:E cs=kk){x y:Value}(hu:look u fr=some v)(hx:look s fr=some x)(hy:look t fr=some y)(OC:Wk L L')(h:R (.tuple #[.agg cs.toArray,v,x,y]) L'):zT P fn R .ret fr L:=λB w0 a w ha hw=>by
 subst hk;refine⟨_,L',?_,h,OC.sl hw⟩;have hl:=kX (P:=P) (w:=w) (p:=⟨g,0,none⟩) hs (λj u hj=>ML);simp[results,hr,ha.at_ _ _ hq,ha.at_ _ _ hu,ha.at_ _ _ hx,ha.at_ _ _ hy,asAddr,hl]
theorem ajQ{P:Program}{s t r:Nat}{ty:TypeId}(hr:fn.results= #[.cell q ty,.tmp u,.tmp s,.tmp t,.tmp r])(hq:look q fr=some (bq g))(hs:pH P ty kk=true)(hm:m9 (.bI g bt cs) L f)(hk:E cs=kk){x y z:Value}(hu:look u fr=some v)(hx:look s fr=some x)(hy:look t fr=some y)(hz:look r fr=some z)(OC:Wk L L')(h:R (.tuple #[.agg cs.toArray,v,x,y,z]) L'):zT P fn R .ret fr L:=λB w0 a w ha hw=>by
 subst hk;refine⟨_,L',?_,h,OC.sl hw⟩;have hl:=kX (P:=P) (w:=w) (p:=⟨g,0,none⟩) hs (λj u hj=>ML);simp[results,hr,ha.at_ _ _ hq,ha.at_ _ _ hu,ha.at_ _ _ hx,ha.at_ _ _ hy,ha.at_ _ _ hz,asAddr,hl]
theorem Kr{C:Cx}{fr:Fr}{L:aN}{x y:Operand}{t ty e:TypeId}{size bytes:Nat}{zv:Value}(T:tc C.P t e size bytes zv){xs:cQ}(he:ev fr x=some (.slice A n c))(hx:aJ C.B C.w0 L size (.slice A n c) n xs)(h0:0<n){yv:Value}{news:cQ}(hy:ev fr y=some yv)(hb:aJ C.B C.w0 L size yv m news)(h1:∀u∈news,u.oneCell'=true)(Oq:c<n+m)(kg:(n+m)*bytes<=140737488355328)(xZ:n+m<=140737488355328):
  ra C fr L (.call {callee:=.builtin .append,args:= #[x,y],argTypes:= #[t,t]}) ty (λp L'=>∃A' c',p= .slice A' (n+m) c'/\L'= .own e size A' (n+m) c' (xs++news)::L):=λa w ha hw d pos af gg=>by
 obtain⟨i,hi,hz,iy,GF⟩:=T.hi;subst iy GF;obtain⟨X0,c0,e0,hnc,k1,hrx⟩:=hx w hw;injection e0 with e1 e2 e3;subst e1;subst e3;obtain⟨a0,ea,hab,holds⟩:=hrx h0;subst ea;obtain⟨X,cx,rfl,hmc,hl,xp⟩:=hb w hw;have hm0:0<m:=by omega
 obtain⟨ad,eX,_,EF⟩:=xp hm0;subst eX;have anm:n+m<=maxLen:=by unfold maxLen;omega
 have hlen:E (xs++news)=(n+m)*i.size:=by rw[bm,k1,hl,qR]
 have x7:=grownCap_ge w (n+m) c e;have hr:=run_append_grow (P:=C.P) w t ty e i zv T.ht hi hz a0 n c xs k1 holds ad m cx news hl EF aa aa (growslice_fits aa kg);have big:w7 (w.drew.alloc (.cells (xs.toArray++news.toArray++Builtin.zeroCells zv.cells (grownCap w (n+m) c e-(n+m))) e)) C.B e i.size (some ⟨w.heap.size,0,none⟩) (n+m) (grownCap w (n+m) c e) (xs++news):=by
  refine⟨hlen,x7,.inr ⟨w.heap.size,_,rfl,hw.base,EY w.drew _,grownCap_le_maxLen w (n+m) c e anm,?_,?_⟩⟩
  ·simp only[Array.size_append,y_,size_zeroCells,T.hz,k1,hl,<-qR];congr 1;omega
  ·simp only[Array.toList_append,bT];rw[<-bT,<-hlen];exact y'
 refine⟨_,_,_,.inl ?_,⟨_,_,rfl,rfl⟩,hw.gZ ?_ big ?_⟩
 ·simp[execOp,resolve,invoke,builtin,ha.tmp he,ha.tmp hy,hr]
 ·exact⟨rfl,rfl,rfl,ao,λk hk _=>heap_alloc_old w.drew _ hk⟩
 ·right;have:¬grownCap w (n+m) c e=0:=by omega
  exact⟨_,by simp[Ch.fp,this],ga _⟩
theorem pC{C:Cx}{x y:Operand}{t ty:TypeId}{o:Nat}(kk:Nat)(hs:pH C.P t kk=true)(he:ev fr x=some (.pointer (some ⟨g,o,none⟩)))(hv:ev fr y=some (.agg us.toArray))(h1:∀u∈us,u.oneCell'=true)(hm:m9 (.bI g bt cs) L f)(hk:E us=kk)(ho:o+kk<=E cs):
  ra C fr L (.store t x y) ty (λp L'=>L'=f (.bI g bt (cs.take o++us++cs.drop (o+kk)))):=λa w ha hw d pos af gg=>by
 have hb:=(hw.all _ hm.mem).2;have hr:=run_storeCells_at (P:=C.P) g o bt us 0 cs.toArray w hb bS h1;have iy:(C.P.info? t).map (·.size)=some kk:=by
  have h:=hs;unfold pH at h;rw[Bg]at h;have h2:=h.2;rw[Hm]at h2;exact h2
 obtain⟨i,hi,hii⟩:∃i,C.P.info? t=some i/\i.size=kk:=by
  cases hq:C.P.info? t with
  |none=>rw[hq]at iy;cases iy
  |some i=>rw[hq]at iy;exact⟨i,rfl,by simpa using iy⟩
 simp only[rM]at hr;have tP:(storeVar t ⟨g,o,none⟩ (.agg us.toArray)).run C.P w= .ok () (w.setRow g (cs.take o++us++cs.drop (o+E us)).toArray):=by
  simp[storeVar,sizeOf,typeInfo,hi,hii,Value.cells,hk,hr]
 rw[<-hk];refine⟨undef,w.setRow g (cs.take o++us++cs.drop (o+E us)).toArray,_,.inr ⟨?_,rfl⟩,rfl,?_⟩
 ·simp[execOp,Instr.storeAt,Instr.sureAddr,ha.tmp he,ha.tmp hv,tP]
 ·refine hw.Xx hm ?_ (λ⟨q1,q2⟩=>⟨q1,?_⟩) (.inr (.inl rfl))
  ·exact⟨rfl,rfl,rfl,ao,λk _ hk=>Th w g k _ (λe=>hk H6)⟩
  ·exact Tg w g cs.toArray _ bt _ q2
end
end
end Go.Proofs.YtaodmbolhoafcaaGreatDoor
